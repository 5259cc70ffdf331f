/- Contracts of functions of the program, each proved by running its code symbolically (QV). -/
import Derived.Test.YtepkgkdbnoiieaaQU
namespace Go.Sx.T
open Go Go.Proofs Go.Sx
set_option maxRecDepth 100000
set_option maxHeartbeats 8000000
set_option linter.unusedVariables false
set_option linter.unusedSimpArgs false
theorem perm_of_sub : ∀ (l m : List Int), l.Nodup → (∀ x ∈ l, x ∈ m) → m.length ≤ l.length → l.Perm m
  | [], m, _, _, h => by
    have : m = [] := List.eq_nil_of_length_eq_zero (by simpa using h)
    rw [this]
  | x :: r, m, hn, hs, h => by
    have hx : x ∈ m := hs x (List.mem_cons_self ..)
    rw [List.nodup_cons] at hn
    refine ((perm_of_sub r (m.erase x) hn.2 (fun y hy => ?_) ?_).cons x).trans (List.perm_cons_erase hx).symm
    · have : y ≠ x := fun e => hn.1 (by rw [← e]; exact hy)
      exact (List.mem_erase_of_ne this).2 (hs y (List.mem_cons_of_mem _ hy))
    · rw [List.length_erase_of_mem hx]; simp only [List.length_cons] at h; omega
theorem isort_iff {l m : List Int} : isort l = isort m ↔ l.Perm m :=
  ⟨fun h => (isort_perm l).symm.trans (by rw [h]; exact isort_perm m), fun h => isort_of_perm h⟩
theorem find_neg {m : List Int} {n : Int} : findI m (eqK n) < 0 ↔ n ∉ m := by
  have := any_mem m n
  constructor
  · intro h hm
    rw [decide_eq_true hm, decide_eq_true_eq] at this
    omega
  · intro h
    rw [decide_eq_false h, decide_eq_false_iff_not] at this
    omega
theorem find_inj {m : List Int} {a b : Int} (ha : a ∈ m) (h : findI m (eqK a) = findI m (eqK b)) : a = b := by
  rcases findI_cases m (eqK a) with ⟨e, _, _, h1⟩ | ⟨k, hk, e, _, _, h1, _⟩
  · exact absurd (find_neg.1 (by rw [e]; decide)) (by simpa using ha)
  · rcases findI_cases m (eqK b) with ⟨e', _⟩ | ⟨k', hk', e', _, _, h1', _⟩
    · rw [e, e'] at h; omega
    · rw [e, e'] at h
      have : k = k' := by omega
      subst this
      simp only [eqK, decide_eq_true_eq] at h1 h1'
      omega
theorem places_nodup {l m : List Int} (hn : l.Nodup) (hs : ∀ x ∈ l, x ∈ m) : (placesL l m).Nodup := by
  rw [nodup_at]
  intro i k hi hk
  rw [placesL_len] at hi
  rw [placesL_at l m i hi, placesL_at l m k (by omega)]
  intro e
  exact nodup_at.1 hn i k hi hk (find_inj (hs _ (getD_mem _ _ _ (by omega))) e)
theorem places_bd (l m : List Int) (i : Nat) (h : i < l.length) : -1 ≤ (placesL l m).getD i 0 ∧ (placesL l m).getD i 0 ≤ m.length := by
  rw [placesL_at l m i h]
  rcases findI_cases m (eqK (l.getD i 0)) with ⟨e, _⟩ | ⟨k, hk, e, _⟩
  · rw [e]; omega
  · rw [e]; omega
theorem s30 (l m : List Int) (hl : l.length ≤ 100000) (hm : m.length ≤ 100000) : Spec Try.prog 30 [ints l, ints m] (.tup [.int .i64 (betL l m).1, .int .i64 (betL l m).2]) := by
  refine spec_of_good mixed Try.func30 F30_ok (by kernel_rfl) ?_
  have h21 := s21 l hl
  have h21m := s21 m hm
  refine good_run 10 (obs := []) (by kernel_rfl) trivial ?_
  refine good_call (c := True) (by kernel_rfl) (fun _ => SVles.refl _) (fun _ => s21 (l) (by (first | omega | assumption | exact ⟨rfl, trivial⟩ | simp only [AllP, inK_iff, roomOK_iff, decide_eq_true_eq, Bool.and_eq_true, Bool.or_eq_true, Bool.not_eq_true', decide_eq_false_iff_not, and_true, true_and]; (first | omega | (and_intros <;> intros <;> (try and_intros) <;> first | omega | assumption | exact trivial))))) (by kernel_rfl) ?_
  refine good_run 9 (obs := []) (by kernel_rfl) trivial ?_
  refine good_cond (!decide (chkL l = (0 : Int))) (by kernel_rfl) (fun hc1 => ?_) (fun hc1 => ?_)
  · have e : betL l m = (0, chkL l) := if_neg (by simpa using hc1)
    rw [e]
    refine good_run 9 (obs := []) (by kernel_rfl) trivial ?_
    refine good_fin [(0 : Int) = (0 : Int), chkL l = chkL l] (by kernel_rfl) ⟨rfl, rfl, trivial⟩
  · have hc : chkL l = 0 := by simpa using hc1
    refine good_run 5 (obs := []) (by kernel_rfl) trivial ?_
    refine good_call (c := True) (by kernel_rfl) (fun _ => SVles.refl _) (fun _ => s21 (m) (by (first | omega | assumption | exact ⟨rfl, trivial⟩ | simp only [AllP, inK_iff, roomOK_iff, decide_eq_true_eq, Bool.and_eq_true, Bool.or_eq_true, Bool.not_eq_true', decide_eq_false_iff_not, and_true, true_and]; (first | omega | (and_intros <;> intros <;> (try and_intros) <;> first | omega | assumption | exact trivial))))) (by kernel_rfl) ?_
    refine good_run 9 (obs := []) (by kernel_rfl) trivial ?_
    refine good_cond (!decide (chkL m = (0 : Int))) (by kernel_rfl) (fun hc2 => ?_) (fun hc2 => ?_)
    · have e : betL l m = (0, chkL m) := by unfold betL; rw [if_pos hc, if_neg (by simpa using hc2)]
      rw [e]
      refine good_run 9 (obs := []) (by kernel_rfl) trivial ?_
      refine good_fin [(0 : Int) = (0 : Int), chkL m = chkL m] (by kernel_rfl) ⟨rfl, rfl, trivial⟩
    · have hcm : chkL m = 0 := by simpa using hc2
      obtain ⟨h1, h2, h3, h4⟩ := chk_pos hc
      obtain ⟨m1, m2, m3, m4⟩ := chk_pos hcm
      have e : betL l m = if isort l = isort m then ((msC l.length (placesL l m)).2, 0) else (0, 10) := by unfold betL; rw [if_pos hc, if_pos hcm]
      rw [e]
      refine good_run 11 (obs := []) (by kernel_rfl) trivial ?_
      refine good_cond (!decide ((↑(List.length l) : Int) = (↑(List.length m) : Int))) (by kernel_rfl) (fun hc3 => ?_) (fun hc3 => ?_)
      · have hne : l.length ≠ m.length := by
          have : ¬ ((l.length : Int) = m.length) := by simpa using hc3
          omega
        rw [if_neg fun h => hne (isort_iff.1 h).length_eq]
        refine good_run 8 (obs := []) (by kernel_rfl) trivial ?_
        refine good_fin [(0 : Int) = (0 : Int), (10 : Int) = (10 : Int)] (by kernel_rfl) ⟨rfl, rfl, trivial⟩
      · have hle : l.length = m.length := by
          have : ((l.length : Int) = m.length) := by simpa using hc3
          omega
        refine good_run 13 (obs := []) (by kernel_rfl) trivial ?_
        refine good_loopJ (fun k : Nat => ⟨[(9, .sv (.int .i64 (k))), (8, .own 0), (0, LV.sv (SV.lst (1 : Nat) (List.length l) fun i => [SV.int IntKind.i64 (List.getD l i (0 : Int))])), (1, LV.sv (SV.lst (1 : Nat) (List.length m) fun i => [SV.int IntKind.i64 (List.getD m i (0 : Int))]))], [.row 3 1 k true fun i => [.int .i64 ((placesL l m).getD i 0)]]⟩) (fun k => k ≤ l.length ∧ ∀ j, j < k → l.getD j 0 ∈ m) (fun k => l.length - k) (0) [(0 : Nat) = (0 : Nat), (0 : Int) = (0 : Int), List.length l = List.length l ∧ ∀ (i : Nat), i < List.length l → (fun i => [SV.int IntKind.i64 (List.getD l i (0 : Int))]) i = (fun i => [SV.int IntKind.i64 (List.getD l i (0 : Int))]) i, List.length m = List.length m ∧ ∀ (i : Nat), i < List.length m → (fun i => [SV.int IntKind.i64 (List.getD m i (0 : Int))]) i = (fun i => [SV.int IntKind.i64 (List.getD m i (0 : Int))]) i] (by kernel_rfl) (by kernel_rfl) ⟨rfl, rfl, ⟨rfl, fun _ _ => rfl⟩, ⟨rfl, fun _ _ => rfl⟩, trivial⟩ ⟨by omega, by omega⟩ ?_
        all_goals skip
        intro k hk
        refine good_run 9 (obs := []) (by kernel_rfl) trivial ?_
        refine good_cond (decide ((↑k : Int) < (↑(List.length l) : Int))) (by kernel_rfl) (fun hc4 => ?_) (fun hc4 => ?_)
        · have hlt : k < l.length := by simp only [decide_eq_true_eq] at hc4; omega
          have hp := placesL_at l m k hlt
          refine good_run 10 (obs := [(1 : Nat) = (1 : Nat) ∧ (0 : Int) ≤ (↑k : Int) ∧ (↑k : Int) < (↑(List.length l) : Int)]) (by kernel_rfl) (by (first | omega | assumption | exact ⟨rfl, trivial⟩ | simp only [AllP, inK_iff, roomOK_iff, decide_eq_true_eq, Bool.and_eq_true, Bool.or_eq_true, Bool.not_eq_true', decide_eq_false_iff_not, and_true, true_and]; (first | omega | (and_intros <;> intros <;> (try and_intros) <;> first | omega | assumption | exact trivial)))) ?_
          refine good_call (c := True) (by kernel_rfl) (fun _ => SVles.refl _) (fun _ => s51 (m) (List.getD l k (0 : Int))) (by kernel_rfl) ?_
          refine good_run 10 (obs := []) (by kernel_rfl) trivial ?_
          refine good_cond (decide (findI m (eqK (List.getD l k (0 : Int))) < (0 : Int))) (by kernel_rfl) (fun hc5 => ?_) (fun hc5 => ?_)
          · have hn : l.getD k 0 ∉ m := find_neg.1 (by simpa using hc5)
            rw [if_neg fun h => hn ((isort_iff.1 h).mem_iff.1 (getD_mem _ _ _ hlt))]
            refine good_run 10 (obs := []) (by kernel_rfl) trivial ?_
            refine good_leaveJ (by kernel_rfl) ?_
            refine good_run 2 (obs := []) (by kernel_rfl) trivial ?_
            refine good_fin [(0 : Int) = (0 : Int), (10 : Int) = (10 : Int)] (by kernel_rfl) ⟨rfl, rfl, trivial⟩
          · have hn : l.getD k 0 ∈ m := Classical.byContradiction fun h => by
              have := find_neg.2 h
              simp only [decide_eq_false_iff_not] at hc5
              omega
            refine good_run 16 (obs := [(3 : Nat) = (3 : Nat) ∧ (1 : Nat) = (1 : Nat) ∧ (1 : Nat) = (1 : Nat) ∧ roomOK (k + (1 : Nat)) (8 : Nat), InK IntKind.i64 ((↑k : Int) + (1 : Int))]) (by kernel_rfl) (by (first | omega | assumption | exact ⟨rfl, trivial⟩ | simp only [AllP, inK_iff, roomOK_iff, decide_eq_true_eq, Bool.and_eq_true, Bool.or_eq_true, Bool.not_eq_true', decide_eq_false_iff_not, and_true, true_and]; (first | omega | (and_intros <;> intros <;> (try and_intros) <;> first | omega | assumption | exact trivial)))) ?_
            refine good_backJ (k + 1) [k + (1 : Nat) = k + (1 : Nat) ∧ ∀ (i : Nat), i < k + (1 : Nat) → joinGet k (fun i => [SV.int IntKind.i64 (List.getD (placesL l m) i (0 : Int))]) (cutRows (1 : Nat) [SV.int IntKind.i64 (findI m (eqK (List.getD l k (0 : Int))))]) i = (fun i => [SV.int IntKind.i64 (List.getD (placesL l m) i (0 : Int))]) i, (↑k : Int) + (1 : Int) = (↑(k + (1 : Nat)) : Int), List.length l = List.length l ∧ ∀ (i : Nat), i < List.length l → (fun i => [SV.int IntKind.i64 (List.getD l i (0 : Int))]) i = (fun i => [SV.int IntKind.i64 (List.getD l i (0 : Int))]) i, List.length m = List.length m ∧ ∀ (i : Nat), i < List.length m → (fun i => [SV.int IntKind.i64 (List.getD m i (0 : Int))]) i = (fun i => [SV.int IntKind.i64 (List.getD m i (0 : Int))]) i] (by kernel_rfl) (by kernel_rfl) ⟨?_, (by omega), ⟨rfl, fun _ _ => rfl⟩, ⟨rfl, fun _ _ => rfl⟩, trivial⟩ ?_ (by show _ < _; omega)
            · refine ⟨rfl, fun i hi => ?_⟩
              unfold joinGet
              by_cases h : i < k
              · rw [if_pos h]
              · rw [if_neg h, show i = k by omega]
                show _ = [SV.int .i64 ((placesL l m).getD k 0)]
                rw [hp, Nat.sub_self]; rfl
            · refine ⟨hlt, fun j hj => ?_⟩
              rcases Nat.lt_or_ge j k with h | h
              · exact hk.2 j h
              · have : j = k := by omega
                rw [this]; exact hn
        · have hke : k = l.length := by simp only [decide_eq_false_iff_not] at hc4; omega
          subst hke
          have hsub : ∀ x ∈ l, x ∈ m := fun x hx => by
            obtain ⟨i, hi, e⟩ := List.mem_iff_getElem.1 hx
            have := hk.2 i hi
            rw [getD_of_lt l i hi, e] at this
            exact this
          rw [if_pos (isort_iff.2 (perm_of_sub l m h2 hsub (by omega)))]
          have hinv := invR_all (placesL l m) (places_nodup h2 hsub)
          rw [placesL_len] at hinv
          rw [← hinv]
          have hpb := places_bd l m
          have hib := invR_bd (placesL l m) (by rw [placesL_len]; omega)
          rw [placesL_len] at hib
          refine good_run 2 (obs := []) (by kernel_rfl) trivial ?_
          refine good_leaveJ (by kernel_rfl) ?_
          refine good_run 13 (obs := []) (by kernel_rfl) trivial ?_
          refine good_loopJ (fun i : Nat => ⟨[(12, .sv (.int .i64 (i))), (11, .sv (.int .i64 ((invR (placesL l m) i)))), (8, LV.own (0 : Nat))], [Blk.row (3 : Nat) (1 : Nat) (List.length l) true fun i => [SV.int IntKind.i64 (List.getD (placesL l m) i (0 : Int))]]⟩) (fun i => i ≤ l.length) (fun i => l.length - i) (0) [List.length l = List.length l ∧ ∀ (i : Nat), i < List.length l → (fun i => [SV.int IntKind.i64 (List.getD (placesL l m) i (0 : Int))]) i = (fun i => [SV.int IntKind.i64 (List.getD (placesL l m) i (0 : Int))]) i, (0 : Int) = (0 : Int), (0 : Int) = invR (placesL l m) (0 : Nat)] (by kernel_rfl) (by kernel_rfl) ⟨⟨rfl, fun _ _ => rfl⟩, rfl, (by rfl), trivial⟩ (by omega) ?_
          intro i hi
          have hb := hib i hi
          refine good_run 9 (obs := []) (by kernel_rfl) trivial ?_
          refine good_cond (decide ((↑i : Int) < (↑(List.length l) : Int))) (by kernel_rfl) (fun hc5 => ?_) (fun hc5 => ?_)
          · have hlt : i < l.length := by simp only [decide_eq_true_eq] at hc5; omega
            refine good_run 9 (obs := []) (by kernel_rfl) trivial ?_
            refine good_loopJ (fun k : Nat => ⟨[(13, .sv (.int .i64 (k))), (11, .sv (.int .i64 ((invR (placesL l m) i + cGt ((placesL l m).getD i 0) ((placesL l m).take k))))), (12, LV.sv (SV.int IntKind.i64 (↑i : Int))), (8, LV.own (0 : Nat))], [Blk.row (3 : Nat) (1 : Nat) (List.length l) true fun i => [SV.int IntKind.i64 (List.getD (placesL l m) i (0 : Int))]]⟩) (fun k => k ≤ i) (fun k => i - k) (0) [List.length l = List.length l ∧ ∀ (i : Nat), i < List.length l → (fun i => [SV.int IntKind.i64 (List.getD (placesL l m) i (0 : Int))]) i = (fun i => [SV.int IntKind.i64 (List.getD (placesL l m) i (0 : Int))]) i, (0 : Int) = (0 : Int), invR (placesL l m) i = invR (placesL l m) i + cGt (List.getD (placesL l m) i (0 : Int)) [], (↑i : Int) = (↑i : Int)] (by kernel_rfl) (by kernel_rfl) ⟨⟨rfl, fun _ _ => rfl⟩, rfl, ?_, rfl, trivial⟩ (by omega) ?_
            · show invR (placesL l m) i = invR (placesL l m) i + cGt _ ((placesL l m).take 0); rw [List.take_zero, cGt]; omega
            intro k hk
            have hb2 := cGt_bd ((placesL l m).getD i 0) ((placesL l m).take k)
            rw [List.length_take, placesL_len] at hb2
            have hs : k < i → cGt ((placesL l m).getD i 0) ((placesL l m).take (k + 1)) = cGt ((placesL l m).getD i 0) ((placesL l m).take k) + if (placesL l m).getD i 0 < (placesL l m).getD k 0 then 1 else 0 := fun h => by
              rw [take_snoc (placesL l m) k (by rw [placesL_len]; omega), cGt_snoc]
            refine good_run 8 (obs := []) (by kernel_rfl) trivial ?_
            refine good_cond (decide ((↑k : Int) < (↑i : Int))) (by kernel_rfl) (fun hc6 => ?_) (fun hc6 => ?_)
            · have hki : k < i := by simp only [decide_eq_true_eq] at hc6; omega
              have hs' := hs hki
              refine good_run 16 (obs := [True → (1 : Nat) = (1 : Nat) ∧ (0 : Int) ≤ (↑k : Int) ∧ (↑k : Int) < (↑(List.length l) : Int), True → (1 : Nat) = (1 : Nat) ∧ (0 : Int) ≤ (↑i : Int) ∧ (↑i : Int) < (↑(List.length l) : Int)]) (by kernel_rfl) (by (first | omega | assumption | exact ⟨rfl, trivial⟩ | simp only [AllP, inK_iff, roomOK_iff, decide_eq_true_eq, Bool.and_eq_true, Bool.or_eq_true, Bool.not_eq_true', decide_eq_false_iff_not, and_true, true_and]; (first | omega | (and_intros <;> intros <;> (try and_intros) <;> first | omega | assumption | exact trivial)))) ?_
              refine good_cond (decide (List.getD (placesL l m) i (0 : Int) < List.getD (placesL l m) k (0 : Int))) (by kernel_rfl) (fun hc7 => ?_) (fun hc7 => ?_)
              · have hg : (placesL l m).getD i 0 < (placesL l m).getD k 0 := by simpa using hc7
                rw [if_pos hg] at hs'
                refine good_run 13 (obs := [InK IntKind.i64 (invR (placesL l m) i + cGt (List.getD (placesL l m) i (0 : Int)) (List.take k (placesL l m)) + (1 : Int)), InK IntKind.i64 ((↑k : Int) + (1 : Int))]) (by kernel_rfl) (by (first | omega | assumption | exact ⟨rfl, trivial⟩ | simp only [AllP, inK_iff, roomOK_iff, decide_eq_true_eq, Bool.and_eq_true, Bool.or_eq_true, Bool.not_eq_true', decide_eq_false_iff_not, and_true, true_and]; (first | omega | (and_intros <;> intros <;> (try and_intros) <;> first | omega | assumption | exact trivial)))) ?_
                refine good_backJ (k + 1) [List.length l = List.length l ∧ ∀ (i : Nat), i < List.length l → (fun i => [SV.int IntKind.i64 (List.getD (placesL l m) i (0 : Int))]) i = (fun i => [SV.int IntKind.i64 (List.getD (placesL l m) i (0 : Int))]) i, (↑k : Int) + (1 : Int) = (↑(k + (1 : Nat)) : Int), invR (placesL l m) i + cGt (List.getD (placesL l m) i (0 : Int)) (List.take k (placesL l m)) + (1 : Int) = invR (placesL l m) i + cGt (List.getD (placesL l m) i (0 : Int)) (List.take (k + (1 : Nat)) (placesL l m)), (↑i : Int) = (↑i : Int)] (by kernel_rfl) (by kernel_rfl) ⟨⟨rfl, fun _ _ => rfl⟩, (by omega), (by omega), rfl, trivial⟩ (by omega) (by show _ < _; omega)
              · have hg : ¬ (placesL l m).getD i 0 < (placesL l m).getD k 0 := by simpa using hc7
                rw [if_neg hg] at hs'
                refine good_run 8 (obs := [InK IntKind.i64 ((↑k : Int) + (1 : Int))]) (by kernel_rfl) (by (first | omega | assumption | exact ⟨rfl, trivial⟩ | simp only [AllP, inK_iff, roomOK_iff, decide_eq_true_eq, Bool.and_eq_true, Bool.or_eq_true, Bool.not_eq_true', decide_eq_false_iff_not, and_true, true_and]; (first | omega | (and_intros <;> intros <;> (try and_intros) <;> first | omega | assumption | exact trivial)))) ?_
                refine good_backJ (k + 1) [List.length l = List.length l ∧ ∀ (i : Nat), i < List.length l → (fun i => [SV.int IntKind.i64 (List.getD (placesL l m) i (0 : Int))]) i = (fun i => [SV.int IntKind.i64 (List.getD (placesL l m) i (0 : Int))]) i, (↑k : Int) + (1 : Int) = (↑(k + (1 : Nat)) : Int), invR (placesL l m) i + cGt (List.getD (placesL l m) i (0 : Int)) (List.take k (placesL l m)) = invR (placesL l m) i + cGt (List.getD (placesL l m) i (0 : Int)) (List.take (k + (1 : Nat)) (placesL l m)), (↑i : Int) = (↑i : Int)] (by kernel_rfl) (by kernel_rfl) ⟨⟨rfl, fun _ _ => rfl⟩, (by omega), (by omega), rfl, trivial⟩ (by omega) (by show _ < _; omega)
            · have hki : k = i := by simp only [decide_eq_false_iff_not] at hc6; omega
              subst hki
              have hr : invR (placesL l m) (k + 1) = invR (placesL l m) k + cGt ((placesL l m).getD k 0) ((placesL l m).take k) := rfl
              refine good_run 2 (obs := []) (by kernel_rfl) trivial ?_
              refine good_leaveJ (by kernel_rfl) ?_
              refine good_run 8 (obs := [InK IntKind.i64 ((↑k : Int) + (1 : Int))]) (by kernel_rfl) (by (first | omega | assumption | exact ⟨rfl, trivial⟩ | simp only [AllP, inK_iff, roomOK_iff, decide_eq_true_eq, Bool.and_eq_true, Bool.or_eq_true, Bool.not_eq_true', decide_eq_false_iff_not, and_true, true_and]; (first | omega | (and_intros <;> intros <;> (try and_intros) <;> first | omega | assumption | exact trivial)))) ?_
              refine good_backJ (k + 1) [List.length l = List.length l ∧ ∀ (i : Nat), i < List.length l → (fun i => [SV.int IntKind.i64 (List.getD (placesL l m) i (0 : Int))]) i = (fun i => [SV.int IntKind.i64 (List.getD (placesL l m) i (0 : Int))]) i, (↑k : Int) + (1 : Int) = (↑(k + (1 : Nat)) : Int), invR (placesL l m) k + cGt (List.getD (placesL l m) k (0 : Int)) (List.take k (placesL l m)) = invR (placesL l m) (k + (1 : Nat))] (by kernel_rfl) (by kernel_rfl) ⟨⟨rfl, fun _ _ => rfl⟩, (by omega), (by omega), trivial⟩ (by omega) (by show _ < _; omega)
          · have : i = l.length := by simp only [decide_eq_false_iff_not] at hc5; omega
            subst this
            refine good_run 2 (obs := []) (by kernel_rfl) trivial ?_
            refine good_leaveJ (by kernel_rfl) ?_
            refine good_run 9 (obs := []) (by kernel_rfl) trivial ?_
            refine good_fin [invR (placesL l m) (List.length l) = invR (placesL l m) (List.length l), (0 : Int) = (0 : Int)] (by kernel_rfl) ⟨rfl, rfl, trivial⟩
end Go.Sx.T
