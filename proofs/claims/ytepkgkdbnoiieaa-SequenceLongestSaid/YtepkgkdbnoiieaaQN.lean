/- Contracts of functions of the program, each proved by running its code symbolically (QN). -/
import Derived.Test.YtepkgkdbnoiieaaQM
namespace Go.Sx.T
open Go Go.Proofs Go.Sx
set_option maxRecDepth 100000
set_option maxHeartbeats 8000000
set_option linter.unusedVariables false
set_option linter.unusedSimpArgs false
structure RSt where
  stays : List Int
  out : List Shift
def RSt.has (q : RSt) (n : Int) : Bool := decide ((atI q.stays n : Int) < q.stays.length) && decide (q.stays.getD (atI q.stays n) 0 = n)
def befS (s : List Int) (n : Int) : Int := if atI s n < s.length then s.getD (atI s n) 0 else 0
def stepR (q : RSt) (n : Int) : RSt := if q.has n = true then q else ⟨q.stays.insertIdx (atI q.stays n) n, q.out ++ [⟨n, befS q.stays n⟩]⟩
def restK (p s : List Int) : Nat → RSt
  | 0 => ⟨p, []⟩
  | k + 1 => stepR (restK p s k) (s.getD k 0)
theorem insIdx_rise {l : List Int} (u : Int) (hr : l.Pairwise (· < ·)) (hn : (decide ((atI l u : Int) < l.length) && decide (l.getD (atI l u) 0 = u)) = false) : (l.insertIdx (atI l u) u).Pairwise (· < ·) := by
  rw [insIdx_split _ _ _ (atI_le l u)]
  have h1 := atI_below l u
  have h2 := atI_stop l u
  rw [List.pairwise_append, List.pairwise_cons]
  have hd : ∀ y ∈ l.drop (atI l u), u < y := by
    intro y hy
    obtain ⟨j, hj, e⟩ := List.mem_iff_getElem.1 hy
    rw [List.length_drop] at hj
    rw [List.getElem_drop] at e
    have h3 := h2 (by omega)
    have h4 : l.getD (atI l u) 0 ≠ u := by
      simp only [Bool.and_eq_false_iff, decide_eq_false_iff_not] at hn
      rcases hn with h | h
      · exfalso; omega
      · exact h
    by_cases e0 : j = 0
    · subst e0
      rw [getD_of_lt l _ (by omega)] at h3 h4
      simp only [Nat.add_zero] at e
      omega
    · have := List.pairwise_iff_getElem.1 hr (atI l u) (atI l u + j) (by omega) (by omega) (by omega)
      rw [getD_of_lt l _ (by omega)] at h3
      omega
  refine ⟨hr.sublist (List.take_sublist _ _), ⟨hd, hr.sublist (List.drop_sublist _ _)⟩, fun x hx y hy => ?_⟩
  have hx' : x < u := by
    obtain ⟨j, hj, e⟩ := List.mem_iff_getElem.1 hx
    rw [List.length_take] at hj
    rw [List.getElem_take] at e
    have := h1 j (by omega)
    rw [getD_of_lt l j (by omega)] at this
    omega
  rcases List.mem_cons.1 hy with e | hy
  · omega
  · have := hd y hy; omega
theorem restK_rise {p : List Int} (hp : p.Pairwise (· < ·)) (s : List Int) : ∀ k, (restK p s k).stays.Pairwise (· < ·) ∧ (restK p s k).stays.length ≤ p.length + k ∧ (restK p s k).out.length ≤ k
  | 0 => ⟨hp, Nat.le_refl _, Nat.le_refl _⟩
  | k + 1 => by
    obtain ⟨h1, h2, h3⟩ := restK_rise hp s k
    rw [restK, stepR]
    split
    · exact ⟨h1, by omega, by omega⟩
    · rename_i h
      refine ⟨insIdx_rise _ h1 (by simpa [RSt.has] using h), ?_, ?_⟩
      · show (List.insertIdx _ _ _).length ≤ _
        have := atI_le (restK p s k).stays (s.getD k 0)
        rw [List.length_insertIdx]
        split <;> omega
      · show (_ ++ [_]).length ≤ _
        rw [List.length_append, List.length_singleton]; omega
theorem lis_rise : ∀ (r : List Int) (x : Int), (lis x r).Pairwise (· < ·) := by
  intro r x
  have key : ∀ (L : List Int) (x : Int), Above x L → L.Pairwise (· < ·) ∧ ∀ y ∈ L, x < y := by
    intro L
    induction L with
    | nil => intro x _; exact ⟨.nil, by simp⟩
    | cons y L ih =>
      intro x h
      obtain ⟨h1, h2⟩ := ih y h.2
      refine ⟨List.pairwise_cons.2 ⟨h2, h1⟩, fun z hz => ?_⟩
      rcases List.mem_cons.1 hz with e | hz
      · rw [e]; exact h.1
      · have := h2 z hz; have := h.1; omega
  exact (key _ x (lis_above r x)).1
theorem ints_ins (s : List Int) (i : Nat) (x : Int) (hi : i ≤ s.length) : s.length + 1 = (s.insertIdx i x).length ∧ ∀ j, j < s.length + 1 → insGet i (cutRows 1 [SV.int .i64 x] 0) (fun i => [SV.int .i64 (s.getD i 0)]) j = [SV.int .i64 ((s.insertIdx i x).getD j 0)] :=
  ⟨by rw [List.length_insertIdx, if_pos hi], fun j hj => insGet_list (fun x => [SV.int .i64 x]) 0 s i x hi j hj⟩
def restL (l : List Int) : List Shift × Int := if chkL l = 0 then ((restK (lis 0 l) (isort l) l.length).out, 0) else ([], chkL l)
theorem s23 (l : List Int) (hl : l.length ≤ 100000) : Spec Try.prog 23 [ints l] (.tup [shifts (restL l).1, .int .i64 (restL l).2]) := by
  refine spec_of_good mixed Try.func23 F23_ok (by kernel_rfl) ?_
  have h20 := s20 l hl
  refine good_run 10 (obs := []) (by kernel_rfl) trivial ?_
  refine good_call (c := True) (by kernel_rfl) (fun _ => SVles.refl _) (fun _ => s20 (l) (by (first | omega | assumption | exact ⟨rfl, trivial⟩ | simp only [AllP, inK_iff, roomOK_iff, decide_eq_true_eq, Bool.and_eq_true, Bool.or_eq_true, Bool.not_eq_true', decide_eq_false_iff_not, and_true, true_and]; (first | omega | (and_intros <;> intros <;> (try and_intros) <;> first | omega | assumption | exact trivial))))) (by kernel_rfl) ?_
  refine good_run 9 (obs := []) (by kernel_rfl) trivial ?_
  refine good_cond (!decide (chkL l = (0 : Int))) (by kernel_rfl) (fun hc1 => ?_) (fun hc1 => ?_)
  · have e : restL l = ([], chkL l) := if_neg (by simpa using hc1)
    rw [e]
    refine good_run 9 (obs := []) (by kernel_rfl) trivial ?_
    refine good_fin [(0 : Nat) = (0 : Nat), chkL l = chkL l] (by kernel_rfl) ⟨rfl, rfl, trivial⟩
  · have hc : chkL l = 0 := by simpa using hc1
    have e : restL l = ((restK (lis 0 l) (isort l) l.length).out, 0) := if_pos hc
    obtain ⟨h1, h2, h3, h4⟩ := chk_pos hc
    have h40 := s40 l h1 h3 h2
    have h31 := s31 l hl
    have hp := (lis_sub l 0).length_le
    have hr := lis_rise l 0
    rw [e]
    refine good_run 4 (obs := []) (by kernel_rfl) trivial ?_
    refine good_own (c := True) (by kernel_rfl) (by kernel_rfl) (SVles.refl _) (s40 (l) (by (first | omega | assumption | exact ⟨rfl, trivial⟩ | simp only [AllP, inK_iff, roomOK_iff, decide_eq_true_eq, Bool.and_eq_true, Bool.or_eq_true, Bool.not_eq_true', decide_eq_false_iff_not, and_true, true_and]; (first | omega | (and_intros <;> intros <;> (try and_intros) <;> first | omega | assumption | exact trivial)))) (by (first | omega | assumption | exact ⟨rfl, trivial⟩ | simp only [AllP, inK_iff, roomOK_iff, decide_eq_true_eq, Bool.and_eq_true, Bool.or_eq_true, Bool.not_eq_true', decide_eq_false_iff_not, and_true, true_and]; (first | omega | (and_intros <;> intros <;> (try and_intros) <;> first | omega | assumption | exact trivial)))) (by (first | omega | assumption | exact ⟨rfl, trivial⟩ | simp only [AllP, inK_iff, roomOK_iff, decide_eq_true_eq, Bool.and_eq_true, Bool.or_eq_true, Bool.not_eq_true', decide_eq_false_iff_not, and_true, true_and]; (first | omega | (and_intros <;> intros <;> (try and_intros) <;> first | omega | assumption | exact trivial))))) ?_
    refine good_run 12 (obs := []) (by kernel_rfl) trivial ?_
    refine good_call (c := True) (by kernel_rfl) (fun _ => SVles.refl _) (fun _ => s32 (l)) (by kernel_rfl) ?_
    refine good_own (c := True) (by kernel_rfl) (by kernel_rfl) (SVles.refl _) (s31 (l) (by (first | omega | assumption | exact ⟨rfl, trivial⟩ | simp only [AllP, inK_iff, roomOK_iff, decide_eq_true_eq, Bool.and_eq_true, Bool.or_eq_true, Bool.not_eq_true', decide_eq_false_iff_not, and_true, true_and]; (first | omega | (and_intros <;> intros <;> (try and_intros) <;> first | omega | assumption | exact trivial))))) ?_
    refine good_run 5 (obs := []) (by kernel_rfl) trivial ?_
    refine good_loopJ (fun k : Nat => ⟨[(23, .sv (.int .i64 (k))), (5, .own 0), (6, .own 2), (22, LV.sv (SV.int IntKind.i64 (↑(List.length l) : Int))), (21, LV.own (1 : Nat))], [.row 3 1 (restK (lis 0 l) (isort l) k).stays.length true fun i => [.int .i64 ((restK (lis 0 l) (isort l) k).stays.getD i 0)], Blk.row (3 : Nat) (1 : Nat) (List.length l) true fun i => [SV.int IntKind.i64 (List.getD (isort l) i (0 : Int))], .row 40 2 (restK (lis 0 l) (isort l) k).out.length true fun i => ((restK (lis 0 l) (isort l) k).out.getD i default).cells]⟩) (fun k => k ≤ l.length) (fun k => l.length - k) (0) [List.length (lis (0 : Int) l) = List.length (restK (lis (0 : Int) l) (isort l) (0 : Nat)).stays ∧ ∀ (i : Nat), i < List.length (lis (0 : Int) l) → (fun i => [SV.int IntKind.i64 (List.getD (lis (0 : Int) l) i (0 : Int))]) i = (fun i => [SV.int IntKind.i64 (List.getD (restK (lis (0 : Int) l) (isort l) (0 : Nat)).stays i (0 : Int))]) i, List.length l = List.length l ∧ ∀ (i : Nat), i < List.length l → (fun i => [SV.int IntKind.i64 (List.getD (isort l) i (0 : Int))]) i = (fun i => [SV.int IntKind.i64 (List.getD (isort l) i (0 : Int))]) i, (0 : Nat) = (0 : Nat), (0 : Int) = (0 : Int), (↑(List.length l) : Int) = (↑(List.length l) : Int)] (by kernel_rfl) (by kernel_rfl) ⟨?_, ⟨rfl, fun _ _ => rfl⟩, rfl, rfl, rfl, trivial⟩ (by omega) ?_
    · exact ⟨rfl, fun _ _ => rfl⟩
    intro k hk
    obtain ⟨r1, r2, r3⟩ := restK_rise hr (isort l) k
    have r4 := atI_le (restK (lis 0 l) (isort l) k).stays ((isort l).getD k 0)
    have h46 := s46 (restK (lis 0 l) (isort l) k).stays ((isort l).getD k 0) r1 (by omega)
    have es : restK (lis 0 l) (isort l) (k + 1) = stepR (restK (lis 0 l) (isort l) k) ((isort l).getD k 0) := rfl
    refine good_run 6 (obs := []) (by kernel_rfl) trivial ?_
    refine good_cond (decide ((↑k : Int) < (↑(List.length l) : Int))) (by kernel_rfl) (fun hc2 => ?_) (fun hc2 => ?_)
    · have hlt : k < l.length := by simp only [decide_eq_true_eq] at hc2; omega
      refine good_run 14 (obs := [(1 : Nat) = (1 : Nat) ∧ (0 : Int) ≤ (↑k : Int) ∧ (↑k : Int) < (↑(List.length l) : Int)]) (by kernel_rfl) (by (first | omega | assumption | exact ⟨rfl, trivial⟩ | simp only [AllP, inK_iff, roomOK_iff, decide_eq_true_eq, Bool.and_eq_true, Bool.or_eq_true, Bool.not_eq_true', decide_eq_false_iff_not, and_true, true_and]; (first | omega | (and_intros <;> intros <;> (try and_intros) <;> first | omega | assumption | exact trivial)))) ?_
      refine good_call (c := True) (by kernel_rfl) (fun _ => SVles.refl _) (fun _ => s46 ((restK (lis (0 : Int) l) (isort l) k).stays) (List.getD (isort l) k (0 : Int)) (by (first | omega | assumption | exact ⟨rfl, trivial⟩ | simp only [AllP, inK_iff, roomOK_iff, decide_eq_true_eq, Bool.and_eq_true, Bool.or_eq_true, Bool.not_eq_true', decide_eq_false_iff_not, and_true, true_and]; (first | omega | (and_intros <;> intros <;> (try and_intros) <;> first | omega | assumption | exact trivial)))) (by (first | omega | assumption | exact ⟨rfl, trivial⟩ | simp only [AllP, inK_iff, roomOK_iff, decide_eq_true_eq, Bool.and_eq_true, Bool.or_eq_true, Bool.not_eq_true', decide_eq_false_iff_not, and_true, true_and]; (first | omega | (and_intros <;> intros <;> (try and_intros) <;> first | omega | assumption | exact trivial))))) (by kernel_rfl) ?_
      refine good_run 13 (obs := []) (by kernel_rfl) trivial ?_
      refine good_cond (decide ((↑(atI (restK (lis (0 : Int) l) (isort l) k).stays (List.getD (isort l) k (0 : Int))) : Int) < (↑(List.length (restK (lis (0 : Int) l) (isort l) k).stays) : Int)) && decide (List.getD (restK (lis (0 : Int) l) (isort l) k).stays (atI (restK (lis (0 : Int) l) (isort l) k).stays (List.getD (isort l) k (0 : Int))) (0 : Int) = List.getD (isort l) k (0 : Int))) (by kernel_rfl) (fun hc3 => ?_) (fun hc3 => ?_)
      · have en : restK (lis 0 l) (isort l) (k + 1) = restK (lis 0 l) (isort l) k := by rw [es]; exact if_pos hc3
        refine good_run 8 (obs := [InK IntKind.i64 ((↑k : Int) + (1 : Int))]) (by kernel_rfl) (by (first | omega | assumption | exact ⟨rfl, trivial⟩ | simp only [AllP, inK_iff, roomOK_iff, decide_eq_true_eq, Bool.and_eq_true, Bool.or_eq_true, Bool.not_eq_true', decide_eq_false_iff_not, and_true, true_and]; (first | omega | (and_intros <;> intros <;> (try and_intros) <;> first | omega | assumption | exact trivial)))) ?_
        refine good_backJ (k + 1) [List.length (restK (lis (0 : Int) l) (isort l) k).stays = List.length (restK (lis (0 : Int) l) (isort l) (k + (1 : Nat))).stays ∧ ∀ (i : Nat), i < List.length (restK (lis (0 : Int) l) (isort l) k).stays → (fun i => [SV.int IntKind.i64 (List.getD (restK (lis (0 : Int) l) (isort l) k).stays i (0 : Int))]) i = (fun i => [SV.int IntKind.i64 (List.getD (restK (lis (0 : Int) l) (isort l) (k + (1 : Nat))).stays i (0 : Int))]) i, List.length l = List.length l ∧ ∀ (i : Nat), i < List.length l → (fun i => [SV.int IntKind.i64 (List.getD (isort l) i (0 : Int))]) i = (fun i => [SV.int IntKind.i64 (List.getD (isort l) i (0 : Int))]) i, List.length (restK (lis (0 : Int) l) (isort l) k).out = List.length (restK (lis (0 : Int) l) (isort l) (k + (1 : Nat))).out ∧ ∀ (i : Nat), i < List.length (restK (lis (0 : Int) l) (isort l) k).out → (fun i => Shift.cells (List.getD (restK (lis (0 : Int) l) (isort l) k).out i default)) i = (fun i => Shift.cells (List.getD (restK (lis (0 : Int) l) (isort l) (k + (1 : Nat))).out i default)) i, (↑k : Int) + (1 : Int) = (↑(k + (1 : Nat)) : Int), (↑(List.length l) : Int) = (↑(List.length l) : Int)] (by kernel_rfl) (by kernel_rfl) ⟨?_, ⟨rfl, fun _ _ => rfl⟩, ?_, (by omega), rfl, trivial⟩ (by omega) (by show _ < _; omega)
        · rw [en]; exact ⟨rfl, fun _ _ => rfl⟩
        · rw [en]; exact ⟨rfl, fun _ _ => rfl⟩
      · have en : restK (lis 0 l) (isort l) (k + 1) = ⟨(restK (lis 0 l) (isort l) k).stays.insertIdx (atI (restK (lis 0 l) (isort l) k).stays ((isort l).getD k 0)) ((isort l).getD k 0), (restK (lis 0 l) (isort l) k).out ++ [⟨(isort l).getD k 0, befS (restK (lis 0 l) (isort l) k).stays ((isort l).getD k 0)⟩]⟩ := by
          rw [es]; exact if_neg (by rw [Bool.not_eq_true]; exact hc3)
        have h47 := s47 (restK (lis 0 l) (isort l) k).stays.length (fun i => [.int .i64 ((restK (lis 0 l) (isort l) k).stays.getD i 0)]) (fun _ => [.int .i64 ((isort l).getD k 0)]) (atI (restK (lis 0 l) (isort l) k).stays ((isort l).getD k 0)) (by omega) (by omega) (by omega)
        refine good_run 15 (obs := []) (by kernel_rfl) trivial ?_
        refine good_cond (decide ((↑(atI (restK (lis (0 : Int) l) (isort l) k).stays (List.getD (isort l) k (0 : Int))) : Int) < (↑(List.length (restK (lis (0 : Int) l) (isort l) k).stays) : Int))) (by kernel_rfl) (fun hc4 => ?_) (fun hc4 => ?_)
        · have ha : atI (restK (lis 0 l) (isort l) k).stays ((isort l).getD k 0) < (restK (lis 0 l) (isort l) k).stays.length := by simp only [decide_eq_true_eq] at hc4; omega
          have hb : befS (restK (lis 0 l) (isort l) k).stays ((isort l).getD k 0) = (restK (lis 0 l) (isort l) k).stays.getD (atI (restK (lis 0 l) (isort l) k).stays ((isort l).getD k 0)) 0 := if_pos ha
          rw [hb] at en
          refine good_run 24 (obs := [(1 : Nat) = (1 : Nat) ∧ (0 : Int) ≤ (↑(atI (restK (lis (0 : Int) l) (isort l) k).stays (List.getD (isort l) k (0 : Int))) : Int) ∧ (↑(atI (restK (lis (0 : Int) l) (isort l) k).stays (List.getD (isort l) k (0 : Int))) : Int) < (↑(List.length (restK (lis (0 : Int) l) (isort l) k).stays) : Int), (40 : Nat) = (40 : Nat) ∧ (2 : Nat) = (2 : Nat) ∧ (2 : Nat) = (2 : Nat) ∧ roomOK (List.length (restK (lis (0 : Int) l) (isort l) k).out + (1 : Nat)) (16 : Nat)]) (by kernel_rfl) (by (first | omega | assumption | exact ⟨rfl, trivial⟩ | simp only [AllP, inK_iff, roomOK_iff, decide_eq_true_eq, Bool.and_eq_true, Bool.or_eq_true, Bool.not_eq_true', decide_eq_false_iff_not, and_true, true_and]; (first | omega | (and_intros <;> intros <;> (try and_intros) <;> first | omega | assumption | exact trivial)))) ?_
          refine good_take (by kernel_rfl) (SVles.refl _) (SVles.refl _) (s47 (List.length (restK (lis (0 : Int) l) (isort l) k).stays) (fun i => [SV.int IntKind.i64 (List.getD (restK (lis (0 : Int) l) (isort l) k).stays i (0 : Int))]) (cutRows (1 : Nat) [SV.int IntKind.i64 (List.getD (isort l) k (0 : Int))]) ((↑(atI (restK (lis (0 : Int) l) (isort l) k).stays (List.getD (isort l) k (0 : Int))) : Int)) (by (first | omega | assumption | exact ⟨rfl, trivial⟩ | simp only [AllP, inK_iff, roomOK_iff, decide_eq_true_eq, Bool.and_eq_true, Bool.or_eq_true, Bool.not_eq_true', decide_eq_false_iff_not, and_true, true_and]; (first | omega | (and_intros <;> intros <;> (try and_intros) <;> first | omega | assumption | exact trivial)))) (by (first | omega | assumption | exact ⟨rfl, trivial⟩ | simp only [AllP, inK_iff, roomOK_iff, decide_eq_true_eq, Bool.and_eq_true, Bool.or_eq_true, Bool.not_eq_true', decide_eq_false_iff_not, and_true, true_and]; (first | omega | (and_intros <;> intros <;> (try and_intros) <;> first | omega | assumption | exact trivial)))) (by (first | omega | assumption | exact ⟨rfl, trivial⟩ | simp only [AllP, inK_iff, roomOK_iff, decide_eq_true_eq, Bool.and_eq_true, Bool.or_eq_true, Bool.not_eq_true', decide_eq_false_iff_not, and_true, true_and]; (first | omega | (and_intros <;> intros <;> (try and_intros) <;> first | omega | assumption | exact trivial))))) ?_
          refine good_run 9 (obs := [InK IntKind.i64 ((↑k : Int) + (1 : Int))]) (by kernel_rfl) (by (first | omega | assumption | exact ⟨rfl, trivial⟩ | simp only [AllP, inK_iff, roomOK_iff, decide_eq_true_eq, Bool.and_eq_true, Bool.or_eq_true, Bool.not_eq_true', decide_eq_false_iff_not, and_true, true_and]; (first | omega | (and_intros <;> intros <;> (try and_intros) <;> first | omega | assumption | exact trivial)))) ?_
          refine good_backJ (k + 1) [List.length (restK (lis (0 : Int) l) (isort l) k).stays + (1 : Nat) = List.length (restK (lis (0 : Int) l) (isort l) (k + (1 : Nat))).stays ∧ ∀ (i : Nat), i < List.length (restK (lis (0 : Int) l) (isort l) k).stays + (1 : Nat) → insGet (atI (restK (lis (0 : Int) l) (isort l) k).stays (List.getD (isort l) k (0 : Int))) (cutRows (1 : Nat) [SV.int IntKind.i64 (List.getD (isort l) k (0 : Int))] (0 : Nat)) (fun i => [SV.int IntKind.i64 (List.getD (restK (lis (0 : Int) l) (isort l) k).stays i (0 : Int))]) i = (fun i => [SV.int IntKind.i64 (List.getD (restK (lis (0 : Int) l) (isort l) (k + (1 : Nat))).stays i (0 : Int))]) i, List.length l = List.length l ∧ ∀ (i : Nat), i < List.length l → (fun i => [SV.int IntKind.i64 (List.getD (isort l) i (0 : Int))]) i = (fun i => [SV.int IntKind.i64 (List.getD (isort l) i (0 : Int))]) i, List.length (restK (lis (0 : Int) l) (isort l) k).out + (1 : Nat) = List.length (restK (lis (0 : Int) l) (isort l) (k + (1 : Nat))).out ∧ ∀ (i : Nat), i < List.length (restK (lis (0 : Int) l) (isort l) k).out + (1 : Nat) → joinGet (List.length (restK (lis (0 : Int) l) (isort l) k).out) (fun i => Shift.cells (List.getD (restK (lis (0 : Int) l) (isort l) k).out i default)) (cutRows (2 : Nat) [SV.int IntKind.i64 (List.getD (isort l) k (0 : Int)), SV.int IntKind.i64 (List.getD (restK (lis (0 : Int) l) (isort l) k).stays (atI (restK (lis (0 : Int) l) (isort l) k).stays (List.getD (isort l) k (0 : Int))) (0 : Int))]) i = (fun i => Shift.cells (List.getD (restK (lis (0 : Int) l) (isort l) (k + (1 : Nat))).out i default)) i, (↑k : Int) + (1 : Int) = (↑(k + (1 : Nat)) : Int), (↑(List.length l) : Int) = (↑(List.length l) : Int)] (by kernel_rfl) (by kernel_rfl) ⟨?_, ⟨rfl, fun _ _ => rfl⟩, ?_, (by omega), rfl, trivial⟩ (by omega) (by show _ < _; omega)
          · rw [en]; exact ints_ins _ _ _ (by omega)
          · rw [en]; exact row_snoc' Shift.cells default (restK (lis 0 l) (isort l) k).out _ 2 rfl
        · have ha : ¬ atI (restK (lis 0 l) (isort l) k).stays ((isort l).getD k 0) < (restK (lis 0 l) (isort l) k).stays.length := by simp only [decide_eq_false_iff_not] at hc4; omega
          have hb : befS (restK (lis 0 l) (isort l) k).stays ((isort l).getD k 0) = 0 := if_neg ha
          rw [hb] at en
          refine good_run 17 (obs := [(40 : Nat) = (40 : Nat) ∧ (2 : Nat) = (2 : Nat) ∧ (2 : Nat) = (2 : Nat) ∧ roomOK (List.length (restK (lis (0 : Int) l) (isort l) k).out + (1 : Nat)) (16 : Nat)]) (by kernel_rfl) (by (first | omega | assumption | exact ⟨rfl, trivial⟩ | simp only [AllP, inK_iff, roomOK_iff, decide_eq_true_eq, Bool.and_eq_true, Bool.or_eq_true, Bool.not_eq_true', decide_eq_false_iff_not, and_true, true_and]; (first | omega | (and_intros <;> intros <;> (try and_intros) <;> first | omega | assumption | exact trivial)))) ?_
          refine good_take (by kernel_rfl) (SVles.refl _) (SVles.refl _) (s47 (List.length (restK (lis (0 : Int) l) (isort l) k).stays) (fun i => [SV.int IntKind.i64 (List.getD (restK (lis (0 : Int) l) (isort l) k).stays i (0 : Int))]) (cutRows (1 : Nat) [SV.int IntKind.i64 (List.getD (isort l) k (0 : Int))]) ((↑(atI (restK (lis (0 : Int) l) (isort l) k).stays (List.getD (isort l) k (0 : Int))) : Int)) (by (first | omega | assumption | exact ⟨rfl, trivial⟩ | simp only [AllP, inK_iff, roomOK_iff, decide_eq_true_eq, Bool.and_eq_true, Bool.or_eq_true, Bool.not_eq_true', decide_eq_false_iff_not, and_true, true_and]; (first | omega | (and_intros <;> intros <;> (try and_intros) <;> first | omega | assumption | exact trivial)))) (by (first | omega | assumption | exact ⟨rfl, trivial⟩ | simp only [AllP, inK_iff, roomOK_iff, decide_eq_true_eq, Bool.and_eq_true, Bool.or_eq_true, Bool.not_eq_true', decide_eq_false_iff_not, and_true, true_and]; (first | omega | (and_intros <;> intros <;> (try and_intros) <;> first | omega | assumption | exact trivial)))) (by (first | omega | assumption | exact ⟨rfl, trivial⟩ | simp only [AllP, inK_iff, roomOK_iff, decide_eq_true_eq, Bool.and_eq_true, Bool.or_eq_true, Bool.not_eq_true', decide_eq_false_iff_not, and_true, true_and]; (first | omega | (and_intros <;> intros <;> (try and_intros) <;> first | omega | assumption | exact trivial))))) ?_
          refine good_run 9 (obs := [InK IntKind.i64 ((↑k : Int) + (1 : Int))]) (by kernel_rfl) (by (first | omega | assumption | exact ⟨rfl, trivial⟩ | simp only [AllP, inK_iff, roomOK_iff, decide_eq_true_eq, Bool.and_eq_true, Bool.or_eq_true, Bool.not_eq_true', decide_eq_false_iff_not, and_true, true_and]; (first | omega | (and_intros <;> intros <;> (try and_intros) <;> first | omega | assumption | exact trivial)))) ?_
          refine good_backJ (k + 1) [List.length (restK (lis (0 : Int) l) (isort l) k).stays + (1 : Nat) = List.length (restK (lis (0 : Int) l) (isort l) (k + (1 : Nat))).stays ∧ ∀ (i : Nat), i < List.length (restK (lis (0 : Int) l) (isort l) k).stays + (1 : Nat) → insGet (atI (restK (lis (0 : Int) l) (isort l) k).stays (List.getD (isort l) k (0 : Int))) (cutRows (1 : Nat) [SV.int IntKind.i64 (List.getD (isort l) k (0 : Int))] (0 : Nat)) (fun i => [SV.int IntKind.i64 (List.getD (restK (lis (0 : Int) l) (isort l) k).stays i (0 : Int))]) i = (fun i => [SV.int IntKind.i64 (List.getD (restK (lis (0 : Int) l) (isort l) (k + (1 : Nat))).stays i (0 : Int))]) i, List.length l = List.length l ∧ ∀ (i : Nat), i < List.length l → (fun i => [SV.int IntKind.i64 (List.getD (isort l) i (0 : Int))]) i = (fun i => [SV.int IntKind.i64 (List.getD (isort l) i (0 : Int))]) i, List.length (restK (lis (0 : Int) l) (isort l) k).out + (1 : Nat) = List.length (restK (lis (0 : Int) l) (isort l) (k + (1 : Nat))).out ∧ ∀ (i : Nat), i < List.length (restK (lis (0 : Int) l) (isort l) k).out + (1 : Nat) → joinGet (List.length (restK (lis (0 : Int) l) (isort l) k).out) (fun i => Shift.cells (List.getD (restK (lis (0 : Int) l) (isort l) k).out i default)) (cutRows (2 : Nat) [SV.int IntKind.i64 (List.getD (isort l) k (0 : Int)), SV.int IntKind.i64 (0 : Int)]) i = (fun i => Shift.cells (List.getD (restK (lis (0 : Int) l) (isort l) (k + (1 : Nat))).out i default)) i, (↑k : Int) + (1 : Int) = (↑(k + (1 : Nat)) : Int), (↑(List.length l) : Int) = (↑(List.length l) : Int)] (by kernel_rfl) (by kernel_rfl) ⟨?_, ⟨rfl, fun _ _ => rfl⟩, ?_, (by omega), rfl, trivial⟩ (by omega) (by show _ < _; omega)
          · rw [en]; exact ints_ins _ _ _ (by omega)
          · rw [en]; exact row_snoc' Shift.cells default (restK (lis 0 l) (isort l) k).out _ 2 rfl
    · have : k = l.length := by simp only [decide_eq_false_iff_not] at hc2; omega
      subst this
      refine good_run 2 (obs := []) (by kernel_rfl) trivial ?_
      refine good_leaveJ (by kernel_rfl) ?_
      refine good_run 9 (obs := []) (by kernel_rfl) trivial ?_
      refine good_fin [List.length (restK (lis (0 : Int) l) (isort l) (List.length l)).out = List.length ((restK (lis (0 : Int) l) (isort l) (List.length l)).out, (0 : Int)).fst ∧ ∀ (i : Nat), i < List.length (restK (lis (0 : Int) l) (isort l) (List.length l)).out → (fun i => Shift.cells (List.getD (restK (lis (0 : Int) l) (isort l) (List.length l)).out i default)) i = (fun i => Shift.cells (List.getD ((restK (lis (0 : Int) l) (isort l) (List.length l)).out, (0 : Int)).fst i default)) i, (0 : Int) = (0 : Int)] (by kernel_rfl) ⟨⟨rfl, fun _ _ => rfl⟩, rfl, trivial⟩
end Go.Sx.T
