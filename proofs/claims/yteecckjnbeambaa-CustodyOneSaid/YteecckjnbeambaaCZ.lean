/- Contracts of functions of the program, each proved by running its code symbolically (CZ). -/
import Derived.Test.YteecckjnbeambaaCX
namespace Go.Sx.T
open Go Go.Proofs Go.Sx
set_option maxRecDepth 100000
set_option maxHeartbeats 4000000
set_option linter.unusedVariables false
set_option linter.unusedSimpArgs false
/-! Each box is at one place. -/
def toStep (q : List Place) (m : Move) : List Place := if (!(q.any fun p => decide (m.To = p)) && !decide (m.To.Kind = 0)) = true then q ++ [m.To] else q
def tosL (l : List Move) : List Place := l.foldl toStep []
theorem tosL_snoc (l : List Move) (m : Move) : tosL (l ++ [m]) = toStep (tosL l) m := by simp [tosL]
structure Tos (l : List Move) (q : List Place) : Prop where
  len : q.length ≤ l.length
  nodup : q.Nodup
  kind : ∀ p ∈ q, p.Kind ≠ 0 ∧ ∃ m ∈ l, m.To = p
  all : ∀ m ∈ l, m.To.Kind ≠ 0 → m.To ∈ q
theorem tosL_ok (l : List Move) : Tos l (tosL l) := by
  induction l using rev_ind with
  | h0 => exact ⟨Nat.le_refl _, by simp [tosL], by simp [tosL], by simp⟩
  | h1 l m ih =>
    rw [tosL_snoc]
    unfold toStep
    split
    · rename_i h
      simp only [Bool.and_eq_true, Bool.not_eq_true', decide_eq_false_iff_not, List.any_eq_false, decide_eq_true_eq] at h
      refine ⟨by simp; exact ih.len, ?_, fun p hp => ?_, fun x hx hk => ?_⟩
      · rw [List.nodup_append]
        exact ⟨ih.nodup, by simp, fun a ha c hc e => by simp at hc; subst hc; exact h.1 a ha e.symm⟩
      · rcases List.mem_append.1 hp with hp | hp
        · obtain ⟨h1, y, hy, e⟩ := ih.kind p hp
          exact ⟨h1, y, by simp [hy], e⟩
        · simp at hp; subst hp; exact ⟨h.2, m, by simp, rfl⟩
      · rcases List.mem_append.1 hx with hx | hx
        · simp [ih.all x hx hk]
        · simp at hx; subst hx; simp
    · rename_i h
      refine ⟨by simp; have := ih.len; omega, ih.nodup, fun p hp => ?_, fun x hx hk => ?_⟩
      · obtain ⟨h1, y, hy, e⟩ := ih.kind p hp
        exact ⟨h1, y, by simp [hy], e⟩
      · rcases List.mem_append.1 hx with hx | hx
        · exact ih.all x hx hk
        · simp at hx; subst hx
          simp only [Bool.and_eq_true, Bool.not_eq_true', decide_eq_false_iff_not, not_and, Classical.not_not] at h
          have : ((tosL l).any fun p => decide (x.To = p)) = true := by
            cases hb : (tosL l).any fun p => decide (x.To = p)
            · exact (hk (h hb)).elim
            · rfl
          obtain ⟨p, hp, e⟩ := List.any_eq_true.1 this
          simp at e; rw [e]; exact hp
theorem atL_ok {l : List Move} (hc : checkL l = 0) {p : Place} (hp : p ∈ tosL l) {d : Int} (hd : okDay d = true) : atL l p d = (isort ((keysL (untilL l d)).filter fun k => decide (p = lastP (untilL l d) k)), 0) := by
  obtain ⟨h1, m, hm, e⟩ := (tosL_ok l).kind p hp
  obtain ⟨k, hk, e2⟩ := List.mem_iff_getElem.1 hm
  have h := (checkL_at hc hk).ok
  rw [getD_of_lt l k hk, e2] at h
  simp only [okMove, Bool.and_eq_true] at h
  rw [atL, if_neg (by simp [hc]), if_pos ⟨by rw [← e]; exact h.2, h1, hd⟩]
structure AtOK (l : List Move) (d : Int) (p : Place) (A : List Int) : Prop where
  eq : atL l p d = (A, 0)
  nodup : A.Nodup
  sorted : A.Pairwise (· ≤ ·)
  mem : ∀ b, b ∈ A ↔ b ∈ keysL (untilL l d) ∧ p = lastP (untilL l d) b
  small : A.length ≤ l.length
  wh : ∀ b ∈ A, whereL l b d = (p, 0)
theorem keys_until {l : List Move} (hc : checkL l = 0) {d b : Int} (h : b ∈ keysL (untilL l d)) : okId b = true := by
  rw [keysL_mem, until_len, List.map_take] at h
  have := box_pos hc b (List.mem_of_mem_take h)
  simp only [okId, Bool.and_eq_true, decide_eq_true_eq]; omega
theorem at_ok {l : List Move} (hc : checkL l = 0) {p : Place} (hp : p ∈ tosL l) {d : Int} (hd : okDay d = true) : ∃ A, AtOK l d p A := by
  have hm : ∀ b, b ∈ isort ((keysL (untilL l d)).filter fun k => decide (p = lastP (untilL l d) k)) ↔ b ∈ keysL (untilL l d) ∧ p = lastP (untilL l d) b := fun b => by
    rw [(isort_perm _).mem_iff, List.mem_filter, decide_eq_true_eq]
  refine ⟨_, atL_ok hc hp hd, (isort_perm _).nodup_iff.2 ((keysL_nodup _).filter _), isort_sorted _, hm, ?_, fun b hb => ?_⟩
  · rw [isort_length]
    have h1 := List.length_filter_le (fun k => decide (p = lastP (untilL l d) k)) (keysL (untilL l d))
    have h2 := keysL_len (untilL l d)
    have h3 := until_le l d
    omega
  · obtain ⟨h1, h2⟩ := (hm b).1 hb
    rw [whereL, if_neg (by simp [hc]), if_pos ⟨keys_until hc h1, hd⟩, ← h2]
/-- At how many of the first k places a box is. -/
def cntB (l : List Move) (d : Int) (q : List Place) (b : Int) : Int := ((q.filter fun p => decide (b ∈ keysL (untilL l d)) && decide (p = lastP (untilL l d) b)).length : Nat)
theorem cntB_snoc (l : List Move) (d : Int) (q : List Place) (p : Place) (b : Int) : cntB l d (q ++ [p]) b = cntB l d q b + (if b ∈ keysL (untilL l d) ∧ p = lastP (untilL l d) b then 1 else 0) := by
  unfold cntB
  rw [List.filter_append, List.length_append, Int.natCast_add]
  congr 1
  by_cases h : b ∈ keysL (untilL l d) ∧ p = lastP (untilL l d) b
  · rw [if_pos h, List.filter_cons_of_pos (by simp [h])]; rfl
  · rw [if_neg h, List.filter_cons_of_neg (by simpa using h)]; rfl
theorem cntB_le (l : List Move) (d : Int) (q : List Place) (b : Int) : 0 ≤ cntB l d q b ∧ cntB l d q b ≤ q.length := by
  unfold cntB
  have := List.length_filter_le (fun p => decide (b ∈ keysL (untilL l d)) && decide (p = lastP (untilL l d) b)) q
  omega
theorem cntB_all {l : List Move} {d b : Int} : cntB l d (tosL l) b = if (lastP (untilL l d) b).Kind = 0 then 0 else 1 := by
  have H := tosL_ok l
  unfold cntB
  by_cases h : (lastP (untilL l d) b).Kind = 0
  · rw [if_pos h, List.filter_eq_nil_iff.2]
    · rfl
    · intro p hp
      simp only [Bool.and_eq_true, decide_eq_true_eq, not_and]
      intro _ e
      exact (H.kind p hp).1 (by rw [e]; exact h)
  · rw [if_neg h]
    have hk : b ∈ keysL (untilL l d) := Classical.byContradiction fun hn => h (by rw [lastP_none _ _ (by rwa [← keysL_mem])])
    have hin : lastP (untilL l d) b ∈ tosL l := by
      obtain ⟨m, hm, e⟩ : ∃ m ∈ untilL l d, m.To = lastP (untilL l d) b := by
        generalize untilL l d = u at *
        induction u using rev_ind with
        | h0 => simp [keysL] at hk
        | h1 u m ih =>
          rw [lastP_snoc] at h ⊢
          by_cases e : m.Box = b
          · exact ⟨m, by simp, by rw [if_pos e]⟩
          · rw [if_neg e] at h ⊢
            rw [keysL_snoc, putKey_mem] at hk
            obtain ⟨x, hx, ex⟩ := ih h (hk.resolve_right fun e2 => e e2.symm)
            exact ⟨x, by simp [hx], ex⟩
      rw [← e]
      refine H.all m ?_ (by rw [e]; exact h)
      rw [until_len] at hm
      exact List.mem_of_mem_take hm
    have e : (tosL l).filter (fun p => decide (b ∈ keysL (untilL l d)) && decide (p = lastP (untilL l d) b)) = [lastP (untilL l d) b] := by
      have h2 := H.nodup
      generalize tosL l = q at hin h2
      generalize lastP (untilL l d) b = x at *
      simp only [hk, decide_true, Bool.true_and]
      clear H
      induction q with
      | nil => simp at hin
      | cons y r ih =>
        rw [List.nodup_cons] at h2
        by_cases ey : y = x
        · subst ey
          rw [List.filter_cons_of_pos (by simp), List.filter_eq_nil_iff.2]
          intro z hz
          simp only [decide_eq_true_eq]
          intro ez; subst ez; exact h2.1 hz
        · rw [List.filter_cons_of_neg (by simpa using ey)]
          exact ih h2.2 (by simpa [Ne.symm ey] using hin)
    rw [e]; rfl
structure CSt where
  k : Nat
  ks : List Int
  g : Int → Int
def mkC (k : Nat) (ks : List Int) (g : Int → Int) : CSt := ⟨k, ks, g⟩
def cst0 : CSt := mkC 0 [] fun _ => 0
theorem s13a (n : Nat) (get : Nat → List SV) (h : n * 48 ≤ 140737488355328) : SpecOwn Try.prog 13 [.lst 6 n get] 26 6 n get := by
  refine specOwn_of_good mixed Try.func13 F13_ok (by kernel_rfl) ?_
  refine good_run 9 (obs := []) (by kernel_rfl) trivial ?_
  refine good_nil (n) (by kernel_rfl) (fun hc1b hc1 => ?_)
  refine good_run 2 (obs := []) (by kernel_rfl) trivial ?_
  refine good_cond (false ^^ hc1b) (by kernel_rfl) (fun hc2 => ?_) (fun hc2 => ?_)
  · cases hc1b <;> simp at hc2
    refine good_run 7 (obs := []) (by kernel_rfl) trivial ?_
    refine good_finOwn [n = (0 : Nat)] (by kernel_rfl) ⟨?_, trivial⟩
    exact hc1 rfl
  · cases hc1b <;> simp at hc2
    refine good_run 10 (obs := [(26 : Nat) = (26 : Nat) ∧ (6 : Nat) = (6 : Nat) ∧ (6 : Nat) = (6 : Nat) ∧ roomOK ((0 : Nat) + n) (48 : Nat)]) (by kernel_rfl) (by (first | omega | assumption | exact ⟨rfl, trivial⟩ | simp only [AllP, inK_iff, roomOK_iff, decide_eq_true_eq, Bool.and_eq_true, Bool.or_eq_true, Bool.not_eq_true', decide_eq_false_iff_not, and_true, true_and]; (first | omega | (and_intros <;> intros <;> (try and_intros) <;> first | omega | assumption | exact trivial)))) ?_
    refine good_finOwn [(0 : Nat) + n = n ∧ ∀ (j : Nat), j < n → joinGet (0 : Nat) (cutRows (6 : Nat) []) get j = get j] (by kernel_rfl) ⟨?_, trivial⟩
    exact ⟨by omega, fun j _ => rfl⟩
theorem s9 (l : List Move) (day : Int) (hsz : l.length * 48 ≤ 140737488355328) : Spec Try.prog 9 [moves l, .int .i64 day] (.bool true) := by
  refine spec_of_good mixed Try.func9 F9_ok (by kernel_rfl) ?_
  have heq := eq24
  refine good_run 8 (obs := []) (by kernel_rfl) trivial ?_
  refine good_call (c := True) (by kernel_rfl) (fun _ => SVles.refl _) (fun _ => s10) (by kernel_rfl) ?_
  refine good_run 3 (obs := []) (by kernel_rfl) trivial ?_
  refine good_cond false (by kernel_rfl) (fun h => nomatch h) (fun _ => ?_)
  refine good_run 4 (obs := []) (by kernel_rfl) trivial ?_
  refine good_own (c := True) (by kernel_rfl) (by kernel_rfl) (SVles.refl _) (s13a (List.length l) (fun i => Move.cells (List.getD l i default)) (by (first | omega | assumption | exact ⟨rfl, trivial⟩ | simp only [AllP, inK_iff, roomOK_iff, decide_eq_true_eq, Bool.and_eq_true, Bool.or_eq_true, Bool.not_eq_true', decide_eq_false_iff_not, and_true, true_and]; (first | omega | (and_intros <;> intros <;> (try and_intros) <;> first | omega | assumption | exact trivial))))) ?_
  refine good_call (c := True) (by kernel_rfl) (fun _ => SVles.refl _) (fun _ => s26 (l)) (by kernel_rfl) ?_
  refine good_run 11 (obs := []) (by kernel_rfl) trivial ?_
  refine good_call (c := True) (by kernel_rfl) (fun _ => SVles.refl _) (fun _ => s11 (l)) (by kernel_rfl) ?_
  refine good_run 15 (obs := []) (by kernel_rfl) trivial ?_
  refine good_cond (!decide ((↑(List.length l) : Int) ≤ (60 : Int)) || !decide ((boxesF l).snd = (0 : Int)) || decide (day < (0 : Int)) || decide ((1048575 : Int) < day)) (by kernel_rfl) (fun hc1 => ?_) (fun hc1 => ?_)
  · refine good_run 7 (obs := []) (by kernel_rfl) trivial ?_
    refine good_fin [true = true] (by kernel_rfl) ⟨rfl, trivial⟩
  · simp only [Bool.or_eq_false_iff, Bool.not_eq_false', decide_eq_true_eq, decide_eq_false_iff_not] at hc1
    have hfew : l.length ≤ 60 := by omega
    have hc : checkL l = 0 := Classical.byContradiction fun h => by
      have e : boxesF l = ([], 1) := if_pos h
      rw [e] at hc1; simp at hc1
    have e : boxesF l = (isort (keysL l), 0) := if_neg (by simp [hc])
    have hd : okDay day = true := by simp only [okDay, Bool.and_eq_true, decide_eq_true_eq]; omega
    rw [e]
    refine good_run 15 (obs := []) (by kernel_rfl) trivial ?_
    refine good_loopJ (fun k : Nat => ⟨[(48, .sv (.int .i64 (k))), (7, .own 1), (47, LV.sv (SV.int IntKind.i64 (↑(List.length l) : Int))), (46, LV.sv (SV.lst (6 : Nat) (List.length l) fun i => Move.cells (List.getD l i default))), (5, LV.sv (SV.lst (1 : Nat) (List.length (isort (keysL l), (0 : Int)).fst) fun i => [SV.int IntKind.i64 (List.getD (isort (keysL l), (0 : Int)).fst i (0 : Int))])), (0, LV.sv (SV.lst (6 : Nat) (List.length l) fun i => Move.cells (List.getD l i default))), (1, LV.sv (SV.int IntKind.i64 day))], [Blk.row (26 : Nat) (6 : Nat) (List.length l) false fun i => Move.cells (List.getD l i default), .row 24 2 (tosL (l.take k)).length true fun i => ((tosL (l.take k)).getD i default).cells]⟩) (fun k => k ≤ l.length) (fun k => l.length - k) (0) [List.length l = List.length l ∧ ∀ (i : Nat), i < List.length l → (fun i => Move.cells (List.getD l i default)) i = (fun i => Move.cells (List.getD l i default)) i, (0 : Nat) = (0 : Nat), (0 : Int) = (0 : Int), (↑(List.length l) : Int) = (↑(List.length l) : Int), List.length l = List.length l ∧ ∀ (i : Nat), i < List.length l → (fun i => Move.cells (List.getD l i default)) i = (fun i => Move.cells (List.getD l i default)) i, List.length (isort (keysL l), (0 : Int)).fst = List.length (isort (keysL l), (0 : Int)).fst ∧ ∀ (i : Nat), i < List.length (isort (keysL l), (0 : Int)).fst → (fun i => [SV.int IntKind.i64 (List.getD (isort (keysL l), (0 : Int)).fst i (0 : Int))]) i = (fun i => [SV.int IntKind.i64 (List.getD (isort (keysL l), (0 : Int)).fst i (0 : Int))]) i, List.length l = List.length l ∧ ∀ (i : Nat), i < List.length l → (fun i => Move.cells (List.getD l i default)) i = (fun i => Move.cells (List.getD l i default)) i, day = day] (by kernel_rfl) (by kernel_rfl) ⟨⟨rfl, fun _ _ => rfl⟩, rfl, rfl, rfl, ⟨rfl, fun _ _ => rfl⟩, ⟨rfl, fun _ _ => rfl⟩, ⟨rfl, fun _ _ => rfl⟩, rfl, trivial⟩ (by omega) ?_
    intro k hk
    have htl := (tosL_ok (l.take k)).len
    rw [List.length_take] at htl
    refine good_run 6 (obs := []) (by kernel_rfl) trivial ?_
    refine good_cond (decide ((↑k : Int) < (↑(List.length l) : Int))) (by kernel_rfl) (fun hc2 => ?_) (fun hc2 => ?_)
    · have hlt : k < l.length := by simp only [decide_eq_true_eq] at hc2; omega
      have hts : tosL (l.take (k + 1)) = toStep (tosL (l.take k)) (l.getD k default) := by rw [take_snoc l default k hlt, tosL_snoc]
      refine good_run 16 (obs := [(6 : Nat) = (6 : Nat) ∧ (0 : Int) ≤ (↑k : Int) ∧ (↑k : Int) < (↑(List.length l) : Int), (0 : Nat) + (6 : Nat) ≤ (6 : Nat), (6 : Nat) = (6 : Nat) ∧ (0 : Nat) + (6 : Nat) ≤ (6 : Nat), (4 : Nat) + (2 : Nat) ≤ (6 : Nat)]) (by kernel_rfl) (by (first | omega | assumption | exact ⟨rfl, trivial⟩ | simp only [AllP, inK_iff, roomOK_iff, decide_eq_true_eq, Bool.and_eq_true, Bool.or_eq_true, Bool.not_eq_true', decide_eq_false_iff_not, and_true, true_and]; (first | omega | (and_intros <;> intros <;> (try and_intros) <;> first | omega | assumption | exact trivial)))) ?_
      refine good_call (c := True) (by kernel_rfl) (fun _ => SVles.refl _) (fun _ => s31 (tosL (List.take k l)) ((List.getD l k default).To)) (by kernel_rfl) ?_
      refine good_run 9 (obs := []) (by kernel_rfl) trivial ?_
      refine good_cond ((!List.any (tosL (List.take k l)) fun q => decide ((List.getD l k default).To = q)) && !decide ((List.getD l k default).To.Kind = (0 : Int))) (by kernel_rfl) (fun hc3 => ?_) (fun hc3 => ?_)
      · rw [toStep, if_pos (by simpa using hc3)] at hts
        refine good_run 15 (obs := [(4 : Nat) + (2 : Nat) ≤ (6 : Nat), (24 : Nat) = (24 : Nat) ∧ (2 : Nat) = (2 : Nat) ∧ (2 : Nat) = (2 : Nat) ∧ roomOK (List.length (tosL (List.take k l)) + (1 : Nat)) (16 : Nat), InK IntKind.i64 ((↑k : Int) + (1 : Int))]) (by kernel_rfl) (by (first | omega | assumption | exact ⟨rfl, trivial⟩ | simp only [AllP, inK_iff, roomOK_iff, decide_eq_true_eq, Bool.and_eq_true, Bool.or_eq_true, Bool.not_eq_true', decide_eq_false_iff_not, and_true, true_and]; (first | omega | (and_intros <;> intros <;> (try and_intros) <;> first | omega | assumption | exact trivial)))) ?_
        refine good_backJ (k + 1) [List.length l = List.length l ∧ ∀ (i : Nat), i < List.length l → (fun i => Move.cells (List.getD l i default)) i = (fun i => Move.cells (List.getD l i default)) i, List.length (tosL (List.take k l)) + (1 : Nat) = List.length (tosL (List.take (k + (1 : Nat)) l)) ∧ ∀ (i : Nat), i < List.length (tosL (List.take k l)) + (1 : Nat) → joinGet (List.length (tosL (List.take k l))) (fun i => Place.cells (List.getD (tosL (List.take k l)) i default)) (cutRows (2 : Nat) [SV.int IntKind.i64 (List.getD l k default).To.Kind, SV.int IntKind.i64 (List.getD l k default).To.Of]) i = (fun i => Place.cells (List.getD (tosL (List.take (k + (1 : Nat)) l)) i default)) i, (↑k : Int) + (1 : Int) = (↑(k + (1 : Nat)) : Int), (↑(List.length l) : Int) = (↑(List.length l) : Int), List.length l = List.length l ∧ ∀ (i : Nat), i < List.length l → (fun i => Move.cells (List.getD l i default)) i = (fun i => Move.cells (List.getD l i default)) i, List.length (isort (keysL l), (0 : Int)).fst = List.length (isort (keysL l), (0 : Int)).fst ∧ ∀ (i : Nat), i < List.length (isort (keysL l), (0 : Int)).fst → (fun i => [SV.int IntKind.i64 (List.getD (isort (keysL l), (0 : Int)).fst i (0 : Int))]) i = (fun i => [SV.int IntKind.i64 (List.getD (isort (keysL l), (0 : Int)).fst i (0 : Int))]) i, List.length l = List.length l ∧ ∀ (i : Nat), i < List.length l → (fun i => Move.cells (List.getD l i default)) i = (fun i => Move.cells (List.getD l i default)) i, day = day] (by kernel_rfl) (by kernel_rfl) ⟨⟨rfl, fun _ _ => rfl⟩, ?_, (by omega), rfl, ⟨rfl, fun _ _ => rfl⟩, ⟨rfl, fun _ _ => rfl⟩, ⟨rfl, fun _ _ => rfl⟩, rfl, trivial⟩ (by omega) (by show _ < _; omega)
        rw [hts]
        exact row_snoc' Place.cells default _ (l.getD k default).To 2 rfl
      · rw [toStep, if_neg (by simpa using hc3)] at hts
        refine good_run 7 (obs := [InK IntKind.i64 ((↑k : Int) + (1 : Int))]) (by kernel_rfl) (by (first | omega | assumption | exact ⟨rfl, trivial⟩ | simp only [AllP, inK_iff, roomOK_iff, decide_eq_true_eq, Bool.and_eq_true, Bool.or_eq_true, Bool.not_eq_true', decide_eq_false_iff_not, and_true, true_and]; (first | omega | (and_intros <;> intros <;> (try and_intros) <;> first | omega | assumption | exact trivial)))) ?_
        refine good_backJ (k + 1) [List.length l = List.length l ∧ ∀ (i : Nat), i < List.length l → (fun i => Move.cells (List.getD l i default)) i = (fun i => Move.cells (List.getD l i default)) i, List.length (tosL (List.take k l)) = List.length (tosL (List.take (k + (1 : Nat)) l)) ∧ ∀ (i : Nat), i < List.length (tosL (List.take k l)) → (fun i => Place.cells (List.getD (tosL (List.take k l)) i default)) i = (fun i => Place.cells (List.getD (tosL (List.take (k + (1 : Nat)) l)) i default)) i, (↑k : Int) + (1 : Int) = (↑(k + (1 : Nat)) : Int), (↑(List.length l) : Int) = (↑(List.length l) : Int), List.length l = List.length l ∧ ∀ (i : Nat), i < List.length l → (fun i => Move.cells (List.getD l i default)) i = (fun i => Move.cells (List.getD l i default)) i, List.length (isort (keysL l), (0 : Int)).fst = List.length (isort (keysL l), (0 : Int)).fst ∧ ∀ (i : Nat), i < List.length (isort (keysL l), (0 : Int)).fst → (fun i => [SV.int IntKind.i64 (List.getD (isort (keysL l), (0 : Int)).fst i (0 : Int))]) i = (fun i => [SV.int IntKind.i64 (List.getD (isort (keysL l), (0 : Int)).fst i (0 : Int))]) i, List.length l = List.length l ∧ ∀ (i : Nat), i < List.length l → (fun i => Move.cells (List.getD l i default)) i = (fun i => Move.cells (List.getD l i default)) i, day = day] (by kernel_rfl) (by kernel_rfl) ⟨⟨rfl, fun _ _ => rfl⟩, ?_, (by omega), rfl, ⟨rfl, fun _ _ => rfl⟩, ⟨rfl, fun _ _ => rfl⟩, ⟨rfl, fun _ _ => rfl⟩, rfl, trivial⟩ (by omega) (by show _ < _; omega)
        rw [hts]
        exact ⟨rfl, fun _ _ => rfl⟩
    · have hge : k = l.length := by simp only [decide_eq_false_iff_not] at hc2; omega
      subst hge
      rw [List.take_length] at *
      have hQ := tosL_ok l
      have hat := fun p (hp : p ∈ tosL l) => at_ok hc hp hd
      have hcnt := fun b => @cntB_all l day b
      refine good_run 2 (obs := []) (by kernel_rfl) trivial ?_
      refine good_leaveJ (by kernel_rfl) ?_
      refine good_run 16 (obs := []) (by kernel_rfl) trivial ?_
      generalize tosL l = Q at *
      refine good_loopJ (fun q : CSt => ⟨[(72, .sv (.int .i64 (q.k))), (71, LV.sv (SV.int IntKind.i64 (↑(List.length Q) : Int))), (70, LV.own (1 : Nat)), (10, LV.own (2 : Nat)), (5, LV.sv (SV.lst (1 : Nat) (List.length (isort (keysL l), (0 : Int)).fst) fun i => [SV.int IntKind.i64 (List.getD (isort (keysL l), (0 : Int)).fst i (0 : Int))])), (0, LV.sv (SV.lst (6 : Nat) (List.length l) fun i => Move.cells (List.getD l i default))), (1, LV.sv (SV.int IntKind.i64 day))], [Blk.row (26 : Nat) (6 : Nat) (List.length l) false fun i => Move.cells (List.getD l i default), Blk.row (24 : Nat) (2 : Nat) (List.length Q) true fun i => Place.cells (List.getD Q i default), .map (.int .i64 (Int.ofNat 0)) q.ks fun x => .int .i64 (q.g x)]⟩) (fun q => q.k ≤ Q.length ∧ ∀ b, q.g b = cntB l day (Q.take q.k) b) (fun q => Q.length - q.k) (cst0) [List.length l = List.length l ∧ ∀ (i : Nat), i < List.length l → (fun i => Move.cells (List.getD l i default)) i = (fun i => Move.cells (List.getD l i default)) i, List.length Q = List.length Q ∧ ∀ (i : Nat), i < List.length Q → (fun i => Place.cells (List.getD Q i default)) i = (fun i => Place.cells (List.getD Q i default)) i, Value.int IntKind.i64 (Int.ofNat (0 : Nat)) = Value.int IntKind.i64 (Int.ofNat (0 : Nat)), ([] : List Int) = [] ∧ ∀ (k : Int), (fun x => valSV (Value.int IntKind.i64 (Int.ofNat (0 : Nat)))) k = (fun x => SV.int IntKind.i64 (cst0.g x)) k, (0 : Int) = (↑cst0.k : Int), (↑(List.length Q) : Int) = (↑(List.length Q) : Int), List.length (isort (keysL l), (0 : Int)).fst = List.length (isort (keysL l), (0 : Int)).fst ∧ ∀ (i : Nat), i < List.length (isort (keysL l), (0 : Int)).fst → (fun i => [SV.int IntKind.i64 (List.getD (isort (keysL l), (0 : Int)).fst i (0 : Int))]) i = (fun i => [SV.int IntKind.i64 (List.getD (isort (keysL l), (0 : Int)).fst i (0 : Int))]) i, List.length l = List.length l ∧ ∀ (i : Nat), i < List.length l → (fun i => Move.cells (List.getD l i default)) i = (fun i => Move.cells (List.getD l i default)) i, day = day] (by kernel_rfl) (by kernel_rfl) ⟨⟨rfl, fun _ _ => rfl⟩, ⟨rfl, fun _ _ => rfl⟩, rfl, ?_, (by rfl), rfl, ⟨rfl, fun _ _ => rfl⟩, ⟨rfl, fun _ _ => rfl⟩, rfl, trivial⟩ ?_ ?_
      · exact ⟨rfl, fun _ => rfl⟩
      · exact ⟨Nat.zero_le _, fun _ => rfl⟩
      intro q ⟨hk, hg⟩
      refine good_run 6 (obs := []) (by kernel_rfl) trivial ?_
      refine good_cond (decide ((↑q.k : Int) < (↑(List.length Q) : Int))) (by kernel_rfl) (fun hc3 => ?_) (fun hc3 => ?_)
      · have hlt : q.k < Q.length := by simp only [decide_eq_true_eq] at hc3; omega
        have hpm := getD_mem Q default q.k hlt
        obtain ⟨A, hA⟩ := hat _ hpm
        have s20a : Spec Try.prog 20 [moves l, (Q.getD q.k default).sv, .int .i64 day] (.tup [ints A, .int .i64 0]) := by
          have := s20 l (Q.getD q.k default) day
          rwa [hA.eq] at this
        have s32a : Spec Try.prog 32 [ints A] (.bool true) := by
          have := s32 A
          rwa [decide_eq_true hA.sorted] at this
        have hcs := cntB_snoc l day (Q.take q.k) (Q.getD q.k default)
        rw [← take_snoc Q default q.k hlt] at hcs
        have hsm := hA.small
        refine good_run 14 (obs := [(2 : Nat) = (2 : Nat) ∧ (0 : Int) ≤ (↑q.k : Int) ∧ (↑q.k : Int) < (↑(List.length Q) : Int), (0 : Nat) + (2 : Nat) ≤ (2 : Nat), (2 : Nat) = (2 : Nat) ∧ (0 : Nat) + (2 : Nat) ≤ (2 : Nat)]) (by kernel_rfl) (by (first | omega | assumption | exact ⟨rfl, trivial⟩ | simp only [AllP, inK_iff, roomOK_iff, decide_eq_true_eq, Bool.and_eq_true, Bool.or_eq_true, Bool.not_eq_true', decide_eq_false_iff_not, and_true, true_and]; (first | omega | (and_intros <;> intros <;> (try and_intros) <;> first | omega | assumption | exact trivial)))) ?_
        refine good_call (c := True) (by kernel_rfl) (fun _ => SVles.refl _) (fun _ => SpecOwn.spec (s13a (List.length l) (fun i => Move.cells (List.getD l i default)) (by (first | omega | assumption | exact ⟨rfl, trivial⟩ | simp only [AllP, inK_iff, roomOK_iff, decide_eq_true_eq, Bool.and_eq_true, Bool.or_eq_true, Bool.not_eq_true', decide_eq_false_iff_not, and_true, true_and]; (first | omega | (and_intros <;> intros <;> (try and_intros) <;> first | omega | assumption | exact trivial)))))) (by kernel_rfl) ?_
        refine good_run 2 (obs := [True → (0 : Nat) + (2 : Nat) ≤ (2 : Nat)]) (by kernel_rfl) (by (first | omega | assumption | exact ⟨rfl, trivial⟩ | simp only [AllP, inK_iff, roomOK_iff, decide_eq_true_eq, Bool.and_eq_true, Bool.or_eq_true, Bool.not_eq_true', decide_eq_false_iff_not, and_true, true_and]; (first | omega | (and_intros <;> intros <;> (try and_intros) <;> first | omega | assumption | exact trivial)))) ?_
        refine good_call (c := True) (by kernel_rfl) (fun _ => SVles.refl _) (fun _ => s20a) (by kernel_rfl) ?_
        refine good_run 15 (obs := []) (by kernel_rfl) trivial ?_
        refine good_call (c := (!decide ((0 : Int) = (0 : Int))) = false ∧ True) (by kernel_rfl) (fun _ => SVles.refl _) (fun _ => s32a) (by kernel_rfl) ?_
        refine good_run 5 (obs := []) (by kernel_rfl) trivial ?_
        refine good_cond false (by kernel_rfl) (fun h => nomatch h) (fun _ => ?_)
        refine good_run 9 (obs := []) (by kernel_rfl) trivial ?_
        refine good_loopJ (fun r : CSt => ⟨[(93, .sv (.int .i64 (r.k))), (92, LV.sv (SV.int IntKind.i64 (↑(List.length A) : Int))), (91, LV.sv (SV.lst (1 : Nat) (List.length A) fun i => [SV.int IntKind.i64 (List.getD A i (0 : Int))])), (12, LV.ptr (3 : Nat) (0 : Nat)), (72, LV.sv (SV.int IntKind.i64 (↑q.k : Int))), (71, LV.sv (SV.int IntKind.i64 (↑(List.length Q) : Int))), (70, LV.own (1 : Nat)), (10, LV.own (2 : Nat)), (5, LV.sv (SV.lst (1 : Nat) (List.length (isort (keysL l), (0 : Int)).fst) fun i => [SV.int IntKind.i64 (List.getD (isort (keysL l), (0 : Int)).fst i (0 : Int))])), (0, LV.sv (SV.lst (6 : Nat) (List.length l) fun i => Move.cells (List.getD l i default))), (1, LV.sv (SV.int IntKind.i64 day))], [Blk.row (26 : Nat) (6 : Nat) (List.length l) false fun i => Move.cells (List.getD l i default), Blk.row (24 : Nat) (2 : Nat) (List.length Q) true fun i => Place.cells (List.getD Q i default), .map (.int .i64 (Int.ofNat 0)) r.ks fun x => .int .i64 (r.g x), Blk.cells (24 : Nat) true [SV.int IntKind.i64 (List.getD Q q.k default).Kind, SV.int IntKind.i64 (List.getD Q q.k default).Of]]⟩) (fun r => r.k ≤ A.length ∧ ∀ b, r.g b = cntB l day (Q.take q.k) b + (if b ∈ A.take r.k then 1 else 0)) (fun r => A.length - r.k) (mkC 0 q.ks q.g) [List.length l = List.length l ∧ ∀ (i : Nat), i < List.length l → (fun i => Move.cells (List.getD l i default)) i = (fun i => Move.cells (List.getD l i default)) i, List.length Q = List.length Q ∧ ∀ (i : Nat), i < List.length Q → (fun i => Place.cells (List.getD Q i default)) i = (fun i => Place.cells (List.getD Q i default)) i, Value.int IntKind.i64 (Int.ofNat (0 : Nat)) = Value.int IntKind.i64 (Int.ofNat (0 : Nat)), q.ks = (mkC (0 : Nat) q.ks q.g).ks ∧ ∀ (k : Int), (fun x => SV.int IntKind.i64 (q.g x)) k = (fun x => SV.int IntKind.i64 ((mkC (0 : Nat) q.ks q.g).g x)) k, (List.getD Q q.k default).Kind = (List.getD Q q.k default).Kind, (List.getD Q q.k default).Of = (List.getD Q q.k default).Of, (0 : Int) = (↑(mkC (0 : Nat) q.ks q.g).k : Int), (↑(List.length A) : Int) = (↑(List.length A) : Int), List.length A = List.length A ∧ ∀ (i : Nat), i < List.length A → (fun i => [SV.int IntKind.i64 (List.getD A i (0 : Int))]) i = (fun i => [SV.int IntKind.i64 (List.getD A i (0 : Int))]) i, (↑q.k : Int) = (↑q.k : Int), (↑(List.length Q) : Int) = (↑(List.length Q) : Int), List.length (isort (keysL l), (0 : Int)).fst = List.length (isort (keysL l), (0 : Int)).fst ∧ ∀ (i : Nat), i < List.length (isort (keysL l), (0 : Int)).fst → (fun i => [SV.int IntKind.i64 (List.getD (isort (keysL l), (0 : Int)).fst i (0 : Int))]) i = (fun i => [SV.int IntKind.i64 (List.getD (isort (keysL l), (0 : Int)).fst i (0 : Int))]) i, List.length l = List.length l ∧ ∀ (i : Nat), i < List.length l → (fun i => Move.cells (List.getD l i default)) i = (fun i => Move.cells (List.getD l i default)) i, day = day] (by kernel_rfl) (by kernel_rfl) ⟨⟨rfl, fun _ _ => rfl⟩, ⟨rfl, fun _ _ => rfl⟩, rfl, ?_, rfl, rfl, (by rfl), rfl, ⟨rfl, fun _ _ => rfl⟩, rfl, rfl, ⟨rfl, fun _ _ => rfl⟩, ⟨rfl, fun _ _ => rfl⟩, rfl, trivial⟩ ?_ ?_
        · exact ⟨rfl, fun _ => rfl⟩
        · exact ⟨Nat.zero_le _, fun b => by show q.g b = _ + (if b ∈ A.take 0 then 1 else 0); rw [hg b, List.take_zero]; simp⟩
        intro r ⟨hj, hg'⟩
        refine good_run 6 (obs := []) (by kernel_rfl) trivial ?_
        refine good_cond (decide ((↑r.k : Int) < (↑(List.length A) : Int))) (by kernel_rfl) (fun hc4 => ?_) (fun hc4 => ?_)
        · have hjl : r.k < A.length := by simp only [decide_eq_true_eq] at hc4; omega
          have hb := getD_mem A 0 r.k hjl
          have hbn : A.getD r.k 0 ∉ A.take r.k := fun h => by
            obtain ⟨i, hi, e⟩ := List.mem_iff_getElem.1 h
            rw [List.length_take] at hi
            rw [List.getElem_take, getD_of_lt A r.k hjl] at e
            exact List.pairwise_iff_getElem.1 hA.nodup i r.k (by omega) hjl (by omega) e
          have hgb : r.g (A.getD r.k 0) = cntB l day (Q.take q.k) (A.getD r.k 0) := by rw [hg', if_neg hbn]; omega
          have hcb := cntB_le l day (Q.take q.k) (A.getD r.k 0)
          have hql := List.length_take_le' q.k Q
          have hw := hA.wh _ hb
          have s18a : Spec Try.prog 18 [moves l, .int .i64 (A.getD r.k 0), .int .i64 day] (.tup [(Q.getD q.k default).sv, .int .i64 0]) := by
            have := s18 l (A.getD r.k 0) day
            rwa [hw] at this
          have htk : ∀ b, b ∈ A.take (r.k + 1) ↔ b ∈ A.take r.k ∨ b = A.getD r.k 0 := fun b => by rw [take_snoc A 0 r.k hjl]; simp
          refine good_run 22 (obs := [(1 : Nat) = (1 : Nat) ∧ (0 : Int) ≤ (↑r.k : Int) ∧ (↑r.k : Int) < (↑(List.length A) : Int), Value.int IntKind.i64 (Int.ofNat (0 : Nat)) = Value.int IntKind.i64 (Int.ofNat (0 : Nat)), InK IntKind.i64 (r.g (List.getD A r.k (0 : Int)) + (1 : Int))]) (by kernel_rfl) (by (first | omega | assumption | exact ⟨rfl, trivial⟩ | simp only [AllP, inK_iff, roomOK_iff, decide_eq_true_eq, Bool.and_eq_true, Bool.or_eq_true, Bool.not_eq_true', decide_eq_false_iff_not, and_true, true_and]; (first | omega | (and_intros <;> intros <;> (try and_intros) <;> first | omega | assumption | exact trivial)))) ?_
          refine good_own (c := True) (by kernel_rfl) (by kernel_rfl) (SVles.refl _) (s13a (List.length l) (fun i => Move.cells (List.getD l i default)) (by (first | omega | assumption | exact ⟨rfl, trivial⟩ | simp only [AllP, inK_iff, roomOK_iff, decide_eq_true_eq, Bool.and_eq_true, Bool.or_eq_true, Bool.not_eq_true', decide_eq_false_iff_not, and_true, true_and]; (first | omega | (and_intros <;> intros <;> (try and_intros) <;> first | omega | assumption | exact trivial))))) ?_
          refine good_run 2 (obs := []) (by kernel_rfl) trivial ?_
          refine good_call (c := True) (by kernel_rfl) (fun _ => SVles.refl _) (fun _ => s18a) (by kernel_rfl) ?_
          refine good_run 19 (obs := [(2 : Nat) = (2 : Nat) ∧ (0 : Nat) + (2 : Nat) ≤ (2 : Nat), (!decide ((0 : Int) = (0 : Int))) = false ∧ True → (0 : Nat) + (2 : Nat) ≤ (2 : Nat), (!decide ((0 : Int) = (0 : Int))) = false ∧ True → (0 : Nat) + (2 : Nat) ≤ (2 : Nat), (!decide ((0 : Int) = (0 : Int))) = false ∧ True → EqOK Try.prog (24 : Nat) (2 : Nat) ∧ (2 : Nat) = (2 : Nat)]) (by kernel_rfl) (by (first | omega | assumption | exact ⟨rfl, trivial⟩ | simp only [AllP, inK_iff, roomOK_iff, decide_eq_true_eq, Bool.and_eq_true, Bool.or_eq_true, Bool.not_eq_true', decide_eq_false_iff_not, and_true, true_and]; (first | omega | (and_intros <;> intros <;> (try and_intros) <;> first | omega | assumption | exact trivial)))) ?_
          refine good_cond (!decide ((0 : Int) = (0 : Int)) || true ^^ decide ([(List.getD Q q.k default).Kind, (List.getD Q q.k default).Of] = [(List.getD Q q.k default).Kind, (List.getD Q q.k default).Of])) (by kernel_rfl) (fun hc5 => ?_) (fun hc5 => ?_)
          · exfalso
            simp at hc5
          · refine good_run 7 (obs := [InK IntKind.i64 ((↑r.k : Int) + (1 : Int))]) (by kernel_rfl) (by (first | omega | assumption | exact ⟨rfl, trivial⟩ | simp only [AllP, inK_iff, roomOK_iff, decide_eq_true_eq, Bool.and_eq_true, Bool.or_eq_true, Bool.not_eq_true', decide_eq_false_iff_not, and_true, true_and]; (first | omega | (and_intros <;> intros <;> (try and_intros) <;> first | omega | assumption | exact trivial)))) ?_
            refine good_backJ (mkC (r.k + 1) (putKey r.ks (A.getD r.k 0)) (fun b => if b = A.getD r.k 0 then r.g b + 1 else r.g b)) [List.length l = List.length l ∧ ∀ (i : Nat), i < List.length l → (fun i => Move.cells (List.getD l i default)) i = (fun i => Move.cells (List.getD l i default)) i, List.length Q = List.length Q ∧ ∀ (i : Nat), i < List.length Q → (fun i => Place.cells (List.getD Q i default)) i = (fun i => Place.cells (List.getD Q i default)) i, Value.int IntKind.i64 (Int.ofNat (0 : Nat)) = Value.int IntKind.i64 (Int.ofNat (0 : Nat)), putKey r.ks (List.getD A r.k (0 : Int)) = (mkC (r.k + (1 : Nat)) (putKey r.ks (List.getD A r.k (0 : Int))) fun b => if b = List.getD A r.k (0 : Int) then r.g b + (1 : Int) else r.g b).ks ∧ ∀ (k : Int), putGet (List.getD A r.k (0 : Int)) (SV.int IntKind.i64 (r.g (List.getD A r.k (0 : Int)) + (1 : Int))) (fun x => SV.int IntKind.i64 (r.g x)) k = (fun x => SV.int IntKind.i64 ((mkC (r.k + (1 : Nat)) (putKey r.ks (List.getD A r.k (0 : Int))) fun b => if b = List.getD A r.k (0 : Int) then r.g b + (1 : Int) else r.g b).g x)) k, (List.getD Q q.k default).Kind = (List.getD Q q.k default).Kind, (List.getD Q q.k default).Of = (List.getD Q q.k default).Of, (↑r.k : Int) + (1 : Int) = (↑(mkC (r.k + (1 : Nat)) (putKey r.ks (List.getD A r.k (0 : Int))) fun b => if b = List.getD A r.k (0 : Int) then r.g b + (1 : Int) else r.g b).k : Int), (↑(List.length A) : Int) = (↑(List.length A) : Int), List.length A = List.length A ∧ ∀ (i : Nat), i < List.length A → (fun i => [SV.int IntKind.i64 (List.getD A i (0 : Int))]) i = (fun i => [SV.int IntKind.i64 (List.getD A i (0 : Int))]) i, (↑q.k : Int) = (↑q.k : Int), (↑(List.length Q) : Int) = (↑(List.length Q) : Int), List.length (isort (keysL l), (0 : Int)).fst = List.length (isort (keysL l), (0 : Int)).fst ∧ ∀ (i : Nat), i < List.length (isort (keysL l), (0 : Int)).fst → (fun i => [SV.int IntKind.i64 (List.getD (isort (keysL l), (0 : Int)).fst i (0 : Int))]) i = (fun i => [SV.int IntKind.i64 (List.getD (isort (keysL l), (0 : Int)).fst i (0 : Int))]) i, List.length l = List.length l ∧ ∀ (i : Nat), i < List.length l → (fun i => Move.cells (List.getD l i default)) i = (fun i => Move.cells (List.getD l i default)) i, day = day] (by kernel_rfl) (by kernel_rfl) ⟨⟨rfl, fun _ _ => rfl⟩, ⟨rfl, fun _ _ => rfl⟩, rfl, ?_, rfl, rfl, (by rfl), rfl, ⟨rfl, fun _ _ => rfl⟩, rfl, rfl, ⟨rfl, fun _ _ => rfl⟩, ⟨rfl, fun _ _ => rfl⟩, rfl, trivial⟩ ?_ ?_
            · refine ⟨rfl, fun b => ?_⟩
              show putGet _ _ _ b = SV.int _ (if b = A.getD r.k 0 then r.g b + 1 else r.g b)
              unfold putGet
              by_cases hbx : b = A.getD r.k 0
              · rw [if_pos hbx, if_pos hbx, hbx]
              · rw [if_neg hbx, if_neg hbx]
            · refine ⟨hjl, fun b => ?_⟩
              show (if b = A.getD r.k 0 then r.g b + 1 else r.g b) = _ + if b ∈ A.take (r.k + 1) then 1 else 0
              by_cases hbx : b = A.getD r.k 0
              · rw [if_pos hbx, if_pos ((htk b).2 (.inr hbx)), hbx, hgb]
              · rw [if_neg hbx, hg' b]
                by_cases hbt : b ∈ A.take r.k
                · rw [if_pos hbt, if_pos ((htk b).2 (.inl hbt))]
                · rw [if_neg hbt, if_neg (fun h => ((htk b).1 h).elim hbt hbx)]
            · show A.length - (r.k + 1) < A.length - r.k
              omega
        · have hge : r.k = A.length := by simp only [decide_eq_false_iff_not] at hc4; omega
          refine good_run 2 (obs := []) (by kernel_rfl) trivial ?_
          refine good_leaveJ (by kernel_rfl) ?_
          refine good_run 7 (obs := [InK IntKind.i64 ((↑q.k : Int) + (1 : Int))]) (by kernel_rfl) (by (first | omega | assumption | exact ⟨rfl, trivial⟩ | simp only [AllP, inK_iff, roomOK_iff, decide_eq_true_eq, Bool.and_eq_true, Bool.or_eq_true, Bool.not_eq_true', decide_eq_false_iff_not, and_true, true_and]; (first | omega | (and_intros <;> intros <;> (try and_intros) <;> first | omega | assumption | exact trivial)))) ?_
          refine good_backJ (mkC (q.k + 1) r.ks r.g) [List.length l = List.length l ∧ ∀ (i : Nat), i < List.length l → (fun i => Move.cells (List.getD l i default)) i = (fun i => Move.cells (List.getD l i default)) i, List.length Q = List.length Q ∧ ∀ (i : Nat), i < List.length Q → (fun i => Place.cells (List.getD Q i default)) i = (fun i => Place.cells (List.getD Q i default)) i, Value.int IntKind.i64 (Int.ofNat (0 : Nat)) = Value.int IntKind.i64 (Int.ofNat (0 : Nat)), r.ks = (mkC (q.k + (1 : Nat)) r.ks r.g).ks ∧ ∀ (k : Int), (fun x => SV.int IntKind.i64 (r.g x)) k = (fun x => SV.int IntKind.i64 ((mkC (q.k + (1 : Nat)) r.ks r.g).g x)) k, (↑q.k : Int) + (1 : Int) = (↑(mkC (q.k + (1 : Nat)) r.ks r.g).k : Int), (↑(List.length Q) : Int) = (↑(List.length Q) : Int), List.length (isort (keysL l), (0 : Int)).fst = List.length (isort (keysL l), (0 : Int)).fst ∧ ∀ (i : Nat), i < List.length (isort (keysL l), (0 : Int)).fst → (fun i => [SV.int IntKind.i64 (List.getD (isort (keysL l), (0 : Int)).fst i (0 : Int))]) i = (fun i => [SV.int IntKind.i64 (List.getD (isort (keysL l), (0 : Int)).fst i (0 : Int))]) i, List.length l = List.length l ∧ ∀ (i : Nat), i < List.length l → (fun i => Move.cells (List.getD l i default)) i = (fun i => Move.cells (List.getD l i default)) i, day = day] (by kernel_rfl) (by kernel_rfl) ⟨⟨rfl, fun _ _ => rfl⟩, ⟨rfl, fun _ _ => rfl⟩, rfl, ?_, (by rfl), rfl, ⟨rfl, fun _ _ => rfl⟩, ⟨rfl, fun _ _ => rfl⟩, rfl, trivial⟩ ?_ ?_
          · exact ⟨rfl, fun _ => rfl⟩
          · refine ⟨hlt, fun b => ?_⟩
            show r.g b = cntB l day (Q.take (q.k + 1)) b
            rw [hg' b, hge, List.take_length, hcs b]
            congr 1
            by_cases hbA : b ∈ A
            · rw [if_pos hbA, if_pos ((hA.mem b).1 hbA)]
            · rw [if_neg hbA, if_neg (fun h => hbA ((hA.mem b).2 h))]
          · show Q.length - (q.k + 1) < Q.length - q.k
            omega
      · have hge : q.k = Q.length := by simp only [decide_eq_false_iff_not] at hc3; omega
        have hcq : ∀ b, q.g b = if (lastP (untilL l day) b).Kind = 0 then 0 else 1 := fun b => by rw [hg b, hge, List.take_length, hcnt]
        have hid : ∀ j, j < (isort (keysL l)).length → okId ((isort (keysL l)).getD j 0) = true := fun j hj => by
          have := box_pos hc _ (by rw [← keysL_mem, ← (isort_perm _).mem_iff]; exact getD_mem (isort (keysL l)) 0 j hj)
          simp only [okId, Bool.and_eq_true, decide_eq_true_eq]; omega
        have hsl : (isort (keysL l)).length ≤ 60 := by rw [isort_length]; have := keysL_len l; omega
        generalize isort (keysL l) = S at *
        refine good_run 2 (obs := []) (by kernel_rfl) trivial ?_
        refine good_leaveJ (by kernel_rfl) ?_
        refine good_run 10 (obs := []) (by kernel_rfl) trivial ?_
        refine good_loopJ (fun j : Nat => ⟨[(120, .sv (.int .i64 (j))), (119, LV.sv (SV.int IntKind.i64 (↑(List.length (S, (0 : Int)).fst) : Int))), (118, LV.sv (SV.lst (1 : Nat) (List.length (S, (0 : Int)).fst) fun i => [SV.int IntKind.i64 (List.getD (S, (0 : Int)).fst i (0 : Int))])), (10, LV.own (2 : Nat)), (0, LV.sv (SV.lst (6 : Nat) (List.length l) fun i => Move.cells (List.getD l i default))), (1, LV.sv (SV.int IntKind.i64 day))], [Blk.row (26 : Nat) (6 : Nat) (List.length l) false fun i => Move.cells (List.getD l i default), Blk.row (24 : Nat) (2 : Nat) (List.length Q) true fun i => Place.cells (List.getD Q i default), Blk.map (Value.int IntKind.i64 (Int.ofNat (0 : Nat))) q.ks fun x => SV.int IntKind.i64 (q.g x)]⟩) (fun j => j ≤ S.length) (fun j => S.length - j) (0) [List.length l = List.length l ∧ ∀ (i : Nat), i < List.length l → (fun i => Move.cells (List.getD l i default)) i = (fun i => Move.cells (List.getD l i default)) i, List.length Q = List.length Q ∧ ∀ (i : Nat), i < List.length Q → (fun i => Place.cells (List.getD Q i default)) i = (fun i => Place.cells (List.getD Q i default)) i, Value.int IntKind.i64 (Int.ofNat (0 : Nat)) = Value.int IntKind.i64 (Int.ofNat (0 : Nat)), q.ks = q.ks ∧ ∀ (k : Int), (fun x => SV.int IntKind.i64 (q.g x)) k = (fun x => SV.int IntKind.i64 (q.g x)) k, (0 : Int) = (0 : Int), (↑(List.length (S, (0 : Int)).fst) : Int) = (↑(List.length (S, (0 : Int)).fst) : Int), List.length (S, (0 : Int)).fst = List.length (S, (0 : Int)).fst ∧ ∀ (i : Nat), i < List.length (S, (0 : Int)).fst → (fun i => [SV.int IntKind.i64 (List.getD (S, (0 : Int)).fst i (0 : Int))]) i = (fun i => [SV.int IntKind.i64 (List.getD (S, (0 : Int)).fst i (0 : Int))]) i, List.length l = List.length l ∧ ∀ (i : Nat), i < List.length l → (fun i => Move.cells (List.getD l i default)) i = (fun i => Move.cells (List.getD l i default)) i, day = day] (by kernel_rfl) (by kernel_rfl) ⟨⟨rfl, fun _ _ => rfl⟩, ⟨rfl, fun _ _ => rfl⟩, rfl, ⟨rfl, fun _ => rfl⟩, rfl, rfl, ⟨rfl, fun _ _ => rfl⟩, ⟨rfl, fun _ _ => rfl⟩, rfl, trivial⟩ (by omega) ?_
        intro j hj
        refine good_run 6 (obs := []) (by kernel_rfl) trivial ?_
        refine good_cond (decide ((↑j : Int) < (↑(List.length (S, (0 : Int)).fst) : Int))) (by kernel_rfl) (fun hc4 => ?_) (fun hc4 => ?_)
        · have hjl : j < S.length := by simp only [decide_eq_true_eq] at hc4; omega
          have hw : whereL l (S.getD j 0) day = (lastP (untilL l day) (S.getD j 0), 0) := by rw [whereL, if_neg (by simp [hc]), if_pos ⟨hid j hjl, hd⟩]
          have s18a : Spec Try.prog 18 [moves l, .int .i64 (S.getD j 0), .int .i64 day] (.tup [(lastP (untilL l day) (S.getD j 0)).sv, .int .i64 0]) := by
            have := s18 l (S.getD j 0) day
            rwa [hw] at this
          have hq : (decide ((0 : Int) = 0) && decide (1 < q.g (S.getD j 0)) || decide (q.g (S.getD j 0) = 0) != decide ((lastP (untilL l day) (S.getD j 0)).Kind = 0)) = false := by
            rw [hcq]
            by_cases hz : (lastP (untilL l day) (S.getD j 0)).Kind = 0
            · rw [if_pos hz, decide_eq_true hz]; decide
            · rw [if_neg hz, decide_eq_false hz]; decide
          refine good_run 13 (obs := [(1 : Nat) = (1 : Nat) ∧ (0 : Int) ≤ (↑j : Int) ∧ (↑j : Int) < (↑(List.length (S, (0 : Int)).fst) : Int)]) (by kernel_rfl) (by (first | omega | assumption | exact ⟨rfl, trivial⟩ | simp only [AllP, inK_iff, roomOK_iff, decide_eq_true_eq, Bool.and_eq_true, Bool.or_eq_true, Bool.not_eq_true', decide_eq_false_iff_not, and_true, true_and]; (first | omega | (and_intros <;> intros <;> (try and_intros) <;> first | omega | assumption | exact trivial)))) ?_
          refine good_own (c := True) (by kernel_rfl) (by kernel_rfl) (SVles.refl _) (s13a (List.length l) (fun i => Move.cells (List.getD l i default)) (by (first | omega | assumption | exact ⟨rfl, trivial⟩ | simp only [AllP, inK_iff, roomOK_iff, decide_eq_true_eq, Bool.and_eq_true, Bool.or_eq_true, Bool.not_eq_true', decide_eq_false_iff_not, and_true, true_and]; (first | omega | (and_intros <;> intros <;> (try and_intros) <;> first | omega | assumption | exact trivial))))) ?_
          refine good_run 2 (obs := []) (by kernel_rfl) trivial ?_
          refine good_call (c := True) (by kernel_rfl) (fun _ => SVles.refl _) (fun _ => s18a) (by kernel_rfl) ?_
          refine good_run 30 (obs := [(2 : Nat) = (2 : Nat) ∧ (0 : Nat) + (2 : Nat) ≤ (2 : Nat), (!decide ((0 : Int) = (0 : Int))) = false ∧ True → Value.int IntKind.i64 (Int.ofNat (0 : Nat)) = Value.int IntKind.i64 (Int.ofNat (0 : Nat)), (!decide ((0 : Int) = (0 : Int)) || decide ((1 : Int) < q.g (List.getD (S, (0 : Int)).fst j (0 : Int)))) = false ∧ True → Value.int IntKind.i64 (Int.ofNat (0 : Nat)) = Value.int IntKind.i64 (Int.ofNat (0 : Nat))]) (by kernel_rfl) (by (first | omega | assumption | exact ⟨rfl, trivial⟩ | simp only [AllP, inK_iff, roomOK_iff, decide_eq_true_eq, Bool.and_eq_true, Bool.or_eq_true, Bool.not_eq_true', decide_eq_false_iff_not, and_true, true_and]; (first | omega | (and_intros <;> intros <;> (try and_intros) <;> first | omega | assumption | exact trivial)))) ?_
          refine good_cond (!decide ((0 : Int) = (0 : Int)) || decide ((1 : Int) < q.g (List.getD (S, (0 : Int)).fst j (0 : Int))) || decide (q.g (List.getD (S, (0 : Int)).fst j (0 : Int)) = (0 : Int)) != decide ((lastP (untilL l day) (List.getD S j (0 : Int))).Kind = (0 : Int))) (by kernel_rfl) (fun hc5 => ?_) (fun hc5 => ?_)
          · exfalso
            simp only [decide_true, Bool.true_and, Bool.not_true, Bool.false_or] at hc5 hq
            rw [hq] at hc5
            cases hc5
          · refine good_run 7 (obs := [InK IntKind.i64 ((↑j : Int) + (1 : Int))]) (by kernel_rfl) (by (first | omega | assumption | exact ⟨rfl, trivial⟩ | simp only [AllP, inK_iff, roomOK_iff, decide_eq_true_eq, Bool.and_eq_true, Bool.or_eq_true, Bool.not_eq_true', decide_eq_false_iff_not, and_true, true_and]; (first | omega | (and_intros <;> intros <;> (try and_intros) <;> first | omega | assumption | exact trivial)))) ?_
            refine good_backJ (j + 1) [List.length l = List.length l ∧ ∀ (i : Nat), i < List.length l → (fun i => Move.cells (List.getD l i default)) i = (fun i => Move.cells (List.getD l i default)) i, List.length Q = List.length Q ∧ ∀ (i : Nat), i < List.length Q → (fun i => Place.cells (List.getD Q i default)) i = (fun i => Place.cells (List.getD Q i default)) i, Value.int IntKind.i64 (Int.ofNat (0 : Nat)) = Value.int IntKind.i64 (Int.ofNat (0 : Nat)), q.ks = q.ks ∧ ∀ (k : Int), (fun x => SV.int IntKind.i64 (q.g x)) k = (fun x => SV.int IntKind.i64 (q.g x)) k, (↑j : Int) + (1 : Int) = (↑(j + (1 : Nat)) : Int), (↑(List.length (S, (0 : Int)).fst) : Int) = (↑(List.length (S, (0 : Int)).fst) : Int), List.length (S, (0 : Int)).fst = List.length (S, (0 : Int)).fst ∧ ∀ (i : Nat), i < List.length (S, (0 : Int)).fst → (fun i => [SV.int IntKind.i64 (List.getD (S, (0 : Int)).fst i (0 : Int))]) i = (fun i => [SV.int IntKind.i64 (List.getD (S, (0 : Int)).fst i (0 : Int))]) i, List.length l = List.length l ∧ ∀ (i : Nat), i < List.length l → (fun i => Move.cells (List.getD l i default)) i = (fun i => Move.cells (List.getD l i default)) i, day = day] (by kernel_rfl) (by kernel_rfl) ⟨⟨rfl, fun _ _ => rfl⟩, ⟨rfl, fun _ _ => rfl⟩, rfl, ⟨rfl, fun _ => rfl⟩, (by omega), rfl, ⟨rfl, fun _ _ => rfl⟩, ⟨rfl, fun _ _ => rfl⟩, rfl, trivial⟩ (by omega) (by show _ < _; omega)
        · refine good_run 2 (obs := []) (by kernel_rfl) trivial ?_
          refine good_leaveJ (by kernel_rfl) ?_
          refine good_run 7 (obs := []) (by kernel_rfl) trivial ?_
          refine good_fin [true = true] (by kernel_rfl) ⟨rfl, trivial⟩
end Go.Sx.T
