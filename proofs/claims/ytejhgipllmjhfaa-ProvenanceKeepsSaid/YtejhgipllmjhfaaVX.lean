/- Contracts of functions of the program, each proved by running its code symbolically (VX). -/
import Derived.Test.YtejhgipllmjhfaaVU
namespace Go.Sx.T
open Go Go.Proofs Go.Sx
set_option maxRecDepth 100000
set_option maxHeartbeats 4000000
set_option linter.unusedVariables false
set_option linter.unusedSimpArgs false
/-- Two entries that go together. -/
def goT (x y : Came) : Prop := y.Acc ≠ 0 → x.Acc = y.Acc → x.Num ≠ y.Num ∧ x.Office = y.Office
theorem goT_symm {x y : Came} (h : goT x y) : goT y x := fun h0 h1 => by
  have := h (by rw [h1]; exact h0) h1.symm
  exact ⟨fun e => this.1 e.symm, this.2.symm⟩
theorem clash_iff (l : List Came) (c : Came) : clashC l c = 0 ↔ ∀ x ∈ l, goT x c := by
  unfold clashC
  by_cases h0 : c.Acc = 0
  · rw [if_pos h0]
    exact ⟨fun _ x _ h => (h h0).elim, fun _ => rfl⟩
  · rw [if_neg h0]
    by_cases h1 : l.any (twiceC c) = true
    · rw [if_pos h1]
      refine ⟨fun h => (by cases h), fun h => ?_⟩
      obtain ⟨x, hx, h2⟩ := List.any_eq_true.1 h1
      simp only [twiceC, sameA, Bool.and_eq_true, decide_eq_true_eq] at h2
      exact ((h x hx h0 h2.1).1 h2.2).elim
    · rw [if_neg h1]
      by_cases h3 : l.any (otherC c) = true
      · rw [if_pos h3]
        refine ⟨fun h => (by cases h), fun h => ?_⟩
        obtain ⟨x, hx, h2⟩ := List.any_eq_true.1 h3
        simp only [otherC, sameA, Bool.and_eq_true, decide_eq_true_eq, Bool.not_eq_true', decide_eq_false_iff_not] at h2
        exact (h2.2 (h x hx h0 h2.1).2).elim
      · rw [if_neg h3]
        refine ⟨fun _ x hx _ h4 => ⟨fun h5 => h1 ?_, Classical.byContradiction fun h5 => h3 ?_⟩, fun _ => rfl⟩
        · exact List.any_eq_true.2 ⟨x, hx, by simp [twiceC, sameA, h4, h5]⟩
        · exact List.any_eq_true.2 ⟨x, hx, by simp [otherC, sameA, h4, h5]⟩
theorem clash_pair (l : List Came) : (∀ k, k < l.length → clashC (l.take k) (l.getD k default) = 0) ↔ l.Pairwise goT := by
  rw [List.pairwise_iff_getElem]
  constructor
  · intro h i j hi hj hij
    have := (clash_iff _ _).1 (h j hj)
    rw [getD_of_lt l j hj] at this
    exact this _ (List.mem_iff_getElem.2 ⟨i, by rw [List.length_take]; omega, List.getElem_take⟩)
  · intro h k hk
    rw [clash_iff, getD_of_lt l k hk]
    intro x hx
    obtain ⟨i, hi, e⟩ := List.mem_iff_getElem.1 hx
    rw [List.length_take] at hi
    rw [List.getElem_take] at e
    rw [← e]
    exact h i k (by omega) hk (by omega)
theorem add_split (l : List Came) (c : Came) : l.insertIdx (atC l c.Unit) c = l.take (atC l c.Unit) ++ c :: l.drop (atC l c.Unit) := insIdx_split _ _ _ (atC_le l c.Unit)
theorem add_perm (l : List Came) (c : Came) : (l.insertIdx (atC l c.Unit) c).Perm (c :: l) := by
  rw [add_split]
  have h := List.perm_middle (a := c) (l₁ := l.take (atC l c.Unit)) (l₂ := l.drop (atC l c.Unit))
  rwa [List.take_append_drop] at h
theorem add_asc {l : List Came} (h : l.Pairwise fun a b => a.Unit < b.Unit) (c : Came) (hu : ¬ hasU l c.Unit = true) : (l.insertIdx (atC l c.Unit) c).Pairwise fun a b => a.Unit < b.Unit := by
  have hne : ∀ x ∈ l, x.Unit ≠ c.Unit := fun x hx e => hu (List.any_eq_true.2 ⟨x, hx, by simpa using e⟩)
  have hlow : ∀ x ∈ l.take (atC l c.Unit), x.Unit < c.Unit := fun x hx => by
    obtain ⟨i, hi, e⟩ := List.mem_iff_getElem.1 hx
    rw [List.length_take] at hi
    have := atC_below l c.Unit i (by omega)
    rw [getD_of_lt l i (by omega)] at this
    rw [← e, List.getElem_take]
    exact this
  have hhigh : ∀ x ∈ l.drop (atC l c.Unit), c.Unit < x.Unit := fun x hx => by
    have h0 := hne x (List.mem_of_mem_drop hx)
    obtain ⟨i, hi, e⟩ := List.mem_iff_getElem.1 hx
    rw [List.length_drop] at hi
    have := atC_above h c.Unit (atC l c.Unit + i) (by omega) (by omega)
    rw [getD_of_lt l _ (by omega)] at this
    rw [List.getElem_drop] at e
    rw [e] at this
    omega
  rw [add_split, List.pairwise_append, List.pairwise_cons]
  exact ⟨h.sublist (List.take_sublist _ _), ⟨hhigh, h.sublist (List.drop_sublist _ _)⟩, fun x hx y hy => by
    have := hlow x hx
    rcases List.mem_cons.1 hy with e | hy
    · rw [e]; exact this
    · have := hhigh y hy; omega⟩
theorem add_right {l : List Came} (hR : RightC l) {c : Came} (ha : aloneC c = true) (hu : ¬ hasU l c.Unit = true) (hc : clashC l c = 0) (hn : ¬ 256 ≤ l.length) : RightC (l.insertIdx (atC l c.Unit) c) where
  len := by rw [List.length_insertIdx, if_pos (atC_le _ _)]; omega
  alone x hx := by
    rcases List.mem_cons.1 ((add_perm l c).mem_iff.1 hx) with e | h
    · rw [e]; exact ha
    · exact hR.alone x h
  asc := add_asc hR.asc c hu
  clash := by
    rw [clash_pair, (add_perm l c).pairwise_iff (fun {x y} h => goT_symm h), List.pairwise_cons]
    exact ⟨fun x hx => goT_symm ((clash_iff l c).1 hc x hx), (clash_pair l).1 hR.clash⟩
theorem ofC_mem {l : List Came} (h : l.Pairwise fun a b => a.Unit < b.Unit) {d : Came} (hd : d ∈ l) : ofC l d.Unit = (d, true) := by
  unfold ofC
  have : l.find? (fun c => decide (c.Unit = d.Unit)) = some d := by
    induction l with
    | nil => simp at hd
    | cons x r ih =>
      rw [List.pairwise_cons] at h
      rcases List.mem_cons.1 hd with e | hd
      · rw [e]; simp
      · have := h.1 d hd
        rw [List.find?_cons_of_neg (by simp; omega)]
        exact ih h.2 hd
  rw [this]
theorem checkC_right {l : List Came} (h : RightC l) : checkC l = (-1, 0) := by
  have h1 := (right_iff l).2 h
  have h2 := ((checkC_iff l).1 h1)
  rw [checkC, if_neg (by omega)]
  have key : ∀ n k, k + n ≤ l.length → firstC (errC l) n k = (-1, 0) := by
    intro n
    induction n with
    | zero => intro k _; rfl
    | succ n ih => intro k hk; rw [firstC, if_neg (by rw [h2.2 k (by omega)]; simp)]; exact ih (k + 1) (by omega)
  exact key _ _ (by omega)
/-- What an addition that went well leaves. -/
theorem add_ok {l : List Came} {c : Came} (h : (addC l c).2 = 0) : RightC (addC l c).1 ∧ (addC l c).1.Perm (c :: l) ∧ (addC l c).1.length ≤ 256 := by
  unfold addC at h ⊢
  split at h
  · cases h
  · rename_i h1
    split at h
    · cases h
    · rename_i h2
      split at h
      · cases h
      · rename_i h3
        split at h
        · rename_i h4; exact (h4 h).elim
        · rename_i h4
          split at h
          · cases h
          · rename_i h5
            rw [if_neg h1, if_neg h2, if_neg h3, if_neg h4, if_neg h5]
            have hR := (right_iff l).1 (by simpa using h1)
            have := add_right hR (c := c) (by simpa using h2) h3 (by simpa using h4) h5
            exact ⟨this, add_perm l c, this.len⟩
theorem add_bad {l : List Came} {c : Came} (h : (addC l c).2 ≠ 0) : (addC l c).1 = [] := by
  unfold addC at h ⊢
  split
  · rfl
  · split
    · rfl
    · split
      · rfl
      · split
        · rfl
        · split
          · rfl
          · rename_i h1 h2 h3 h4 h5
            rw [if_neg h1, if_neg h2, if_neg h3, if_neg h4, if_neg h5] at h
            exact (h rfl).elim
theorem add_again {l : List Came} {c : Came} (hR : RightC l) (hc : c ∈ l) (ha : aloneC c = true) : (addC l c).2 = 6 := by
  rw [addC, if_neg (by simp [(right_iff l).2 hR]), if_neg (by rw [ha]; decide), if_pos (show hasU l c.Unit = true from List.any_eq_true.2 ⟨c, hc, by simp⟩)]
theorem s7 (l : List Came) (c : Came) : Spec Try.prog 7 [cames l, c.sv] (.bool true) := by
  have heq := eq30
  refine spec_of_good mixed Try.func7 F7_ok (by kernel_rfl) ?_
  refine good_run 9 (obs := []) (by kernel_rfl) trivial ?_
  refine good_call (c := True) (by kernel_rfl) (fun _ => SVles.refl _) (fun _ => s10) (by kernel_rfl) ?_
  refine good_run 4 (obs := []) (by kernel_rfl) trivial ?_
  refine good_call (c := (!true) = false ∧ True) (by kernel_rfl) (fun _ => SVles.refl _) (fun _ => s11 (l)) (by kernel_rfl) ?_
  refine good_run 5 (obs := []) (by kernel_rfl) trivial ?_
  refine good_cond (!true || !(decide ((↑(List.length l) : Int) ≤ (20 : Int)) || decide ((↑(List.length l) : Int) = (256 : Int)) || decide ((↑(List.length l) : Int) = (257 : Int)))) (by kernel_rfl) (fun hc1 => ?_) (fun hc1 => ?_)
  · refine good_run 2 (obs := []) (by kernel_rfl) trivial ?_
    refine good_call (c := True) (by kernel_rfl) (fun _ => SVles.refl _) (fun _ => s10) (by kernel_rfl) ?_
    refine good_run 5 (obs := []) (by kernel_rfl) trivial ?_
    refine good_fin [true = true] (by kernel_rfl) ⟨rfl, trivial⟩
  · have hl : l.length ≤ 257 := few_le hc1
    clear hc1
    refine good_run 4 (obs := []) (by kernel_rfl) trivial ?_
    refine good_call (c := True) (by kernel_rfl) (fun _ => SVles.refl _) (fun _ => SpecOwn.spec (s13 (List.length l) (fun i => Came.cells (List.getD l i default)) (by (first | omega | assumption | exact ⟨rfl, trivial⟩ | simp only [AllP, inK_iff, roomOK_iff, decide_eq_true_eq, Bool.and_eq_true, Bool.or_eq_true, Bool.not_eq_true', decide_eq_false_iff_not, and_true, true_and]; (first | omega | (and_intros <;> intros <;> (try and_intros) <;> first | omega | assumption | exact trivial)))))) (by kernel_rfl) ?_
    refine good_run 1 (obs := [True → (0 : Nat) + (4 : Nat) ≤ (4 : Nat)]) (by kernel_rfl) (by (first | omega | assumption | exact ⟨rfl, trivial⟩ | simp only [AllP, inK_iff, roomOK_iff, decide_eq_true_eq, Bool.and_eq_true, Bool.or_eq_true, Bool.not_eq_true', decide_eq_false_iff_not, and_true, true_and]; (first | omega | (and_intros <;> intros <;> (try and_intros) <;> first | omega | assumption | exact trivial)))) ?_
    refine good_call (c := True) (by kernel_rfl) (fun _ => SVles.refl _) (fun _ => s17 (l) (c)) (by kernel_rfl) ?_
    refine good_run 14 (obs := []) (by kernel_rfl) trivial ?_
    refine good_cond (!decide ((addC l c).snd = (0 : Int))) (by kernel_rfl) (fun hc1 => ?_) (fun hc1 => ?_)
    · have hb := add_bad (l := l) (c := c) (by simpa using hc1)
      refine good_run 10 (obs := []) (by kernel_rfl) trivial ?_
      refine good_fin [decide ((↑(List.length (addC l c).fst) : Int) = (0 : Int)) = true] (by kernel_rfl) ⟨?_, trivial⟩
      rw [hb]
      rfl
    · have ho : (addC l c).2 = 0 := by simpa using hc1
      obtain ⟨hR, hp, hle⟩ := add_ok ho
      have hq := checkC_right hR
      have hcm : c ∈ (addC l c).1 := hp.mem_iff.2 (by simp)
      have hag := add_again hR hcm (hR.alone c hcm)
      have hof := ofC_mem hR.asc hcm
      have hln : (addC l c).1.length = l.length + 1 := by rw [hp.length_eq]; rfl
      have hd : ∀ d ∈ l, ofC (addC l c).1 d.Unit = (d, true) := fun d hd => ofC_mem hR.asc (hp.mem_iff.2 (by simp [hd]))
      generalize hL : (addC l c).1 = L at *
      refine good_run 6 (obs := []) (by kernel_rfl) trivial ?_
      refine good_call (c := True) (by kernel_rfl) (fun _ => SVles.refl _) (fun _ => s15 (L) (c.Unit)) (by kernel_rfl) ?_
      refine good_run 29 (obs := [(3 : Nat) = (3 : Nat) ∧ (0 : Nat) + (3 : Nat) ≤ (3 : Nat), (!(ofC L c.Unit).snd) = false ∧ True → (0 : Nat) + (3 : Nat) ≤ (3 : Nat), (!(ofC L c.Unit).snd) = false ∧ True → (1 : Nat) + (3 : Nat) ≤ (4 : Nat), (!(ofC L c.Unit).snd) = false ∧ True → EqOK Try.prog (30 : Nat) (3 : Nat) ∧ (3 : Nat) = (3 : Nat), (!(ofC L c.Unit).snd || true ^^ decide ([(ofC L c.Unit).fst.Office, (ofC L c.Unit).fst.Acc, (ofC L c.Unit).fst.Num] = [c.Office, c.Acc, c.Num])) = false ∧ True → InK IntKind.i64 ((↑(List.length l) : Int) + (1 : Int))]) (by kernel_rfl) (by (first | omega | assumption | exact ⟨rfl, trivial⟩ | simp only [AllP, inK_iff, roomOK_iff, decide_eq_true_eq, Bool.and_eq_true, Bool.or_eq_true, Bool.not_eq_true', decide_eq_false_iff_not, and_true, true_and]; (first | omega | (and_intros <;> intros <;> (try and_intros) <;> first | omega | assumption | exact trivial)))) ?_
      refine good_cond (!(ofC L c.Unit).snd || true ^^ decide ([(ofC L c.Unit).fst.Office, (ofC L c.Unit).fst.Acc, (ofC L c.Unit).fst.Num] = [c.Office, c.Acc, c.Num]) || !decide ((↑(List.length L) : Int) = (↑(List.length l) : Int) + (1 : Int))) (by kernel_rfl) (fun hc2 => ?_) (fun hc2 => ?_)
      · exfalso
        rw [hof] at hc2
        simp [hln] at hc2
      · clear hc2
        refine good_run 10 (obs := []) (by kernel_rfl) trivial ?_
        refine good_loopJ (fun k : Nat => ⟨[(62, .sv (.int .i64 (k))), (61, LV.sv (SV.int IntKind.i64 (↑(List.length l) : Int))), (60, LV.sv (SV.lst (4 : Nat) (List.length l) fun i => Came.cells (List.getD l i default))), (5, LV.sv (SV.lst (4 : Nat) (List.length L) fun i => Came.cells (List.getD L i default))), (3, LV.ptr (0 : Nat) (0 : Nat))], [Blk.cells (32 : Nat) false [SV.int IntKind.i64 c.Unit, SV.int IntKind.i64 c.Office, SV.int IntKind.i64 c.Acc, SV.int IntKind.i64 c.Num], Blk.cells (30 : Nat) false [SV.int IntKind.i64 (ofC L c.Unit).fst.Office, SV.int IntKind.i64 (ofC L c.Unit).fst.Acc, SV.int IntKind.i64 (ofC L c.Unit).fst.Num]]⟩) (fun k => k ≤ l.length) (fun k => l.length - k) (0) [c.Unit = c.Unit, c.Office = c.Office, c.Acc = c.Acc, c.Num = c.Num, (ofC L c.Unit).fst.Office = (ofC L c.Unit).fst.Office, (ofC L c.Unit).fst.Acc = (ofC L c.Unit).fst.Acc, (ofC L c.Unit).fst.Num = (ofC L c.Unit).fst.Num, (0 : Int) = (0 : Int), (↑(List.length l) : Int) = (↑(List.length l) : Int), List.length l = List.length l ∧ ∀ (i : Nat), i < List.length l → (fun i => Came.cells (List.getD l i default)) i = (fun i => Came.cells (List.getD l i default)) i, List.length L = List.length L ∧ ∀ (i : Nat), i < List.length L → (fun i => Came.cells (List.getD L i default)) i = (fun i => Came.cells (List.getD L i default)) i] (by kernel_rfl) (by kernel_rfl) ⟨rfl, rfl, rfl, rfl, rfl, rfl, rfl, rfl, rfl, ⟨rfl, fun _ _ => rfl⟩, ⟨rfl, fun _ _ => rfl⟩, trivial⟩ (by omega) ?_
        intro k hk
        refine good_run 6 (obs := []) (by kernel_rfl) trivial ?_
        refine good_cond (decide ((↑k : Int) < (↑(List.length l) : Int))) (by kernel_rfl) (fun hc2 => ?_) (fun hc2 => ?_)
        · have hlt : k < l.length := by simp only [decide_eq_true_eq] at hc2; omega
          have hdk := hd (l.getD k default) (getD_mem l default k hlt)
          refine good_run 16 (obs := [(4 : Nat) = (4 : Nat) ∧ (0 : Int) ≤ (↑k : Int) ∧ (↑k : Int) < (↑(List.length l) : Int), (0 : Nat) + (4 : Nat) ≤ (4 : Nat), (4 : Nat) = (4 : Nat) ∧ (0 : Nat) + (4 : Nat) ≤ (4 : Nat)]) (by kernel_rfl) (by (first | omega | assumption | exact ⟨rfl, trivial⟩ | simp only [AllP, inK_iff, roomOK_iff, decide_eq_true_eq, Bool.and_eq_true, Bool.or_eq_true, Bool.not_eq_true', decide_eq_false_iff_not, and_true, true_and]; (first | omega | (and_intros <;> intros <;> (try and_intros) <;> first | omega | assumption | exact trivial)))) ?_
          refine good_call (c := True) (by kernel_rfl) (fun _ => SVles.refl _) (fun _ => s15 (L) ((List.getD l k default).Unit)) (by kernel_rfl) ?_
          refine good_run 20 (obs := [(3 : Nat) = (3 : Nat) ∧ (0 : Nat) + (3 : Nat) ≤ (3 : Nat), (!(ofC L (List.getD l k default).Unit).snd) = false ∧ True → (0 : Nat) + (3 : Nat) ≤ (3 : Nat), (!(ofC L (List.getD l k default).Unit).snd) = false ∧ True → (1 : Nat) + (3 : Nat) ≤ (4 : Nat), (!(ofC L (List.getD l k default).Unit).snd) = false ∧ True → EqOK Try.prog (30 : Nat) (3 : Nat) ∧ (3 : Nat) = (3 : Nat)]) (by kernel_rfl) (by (first | omega | assumption | exact ⟨rfl, trivial⟩ | simp only [AllP, inK_iff, roomOK_iff, decide_eq_true_eq, Bool.and_eq_true, Bool.or_eq_true, Bool.not_eq_true', decide_eq_false_iff_not, and_true, true_and]; (first | omega | (and_intros <;> intros <;> (try and_intros) <;> first | omega | assumption | exact trivial)))) ?_
          refine good_cond (!(ofC L (List.getD l k default).Unit).snd || true ^^ decide ([(ofC L (List.getD l k default).Unit).fst.Office, (ofC L (List.getD l k default).Unit).fst.Acc, (ofC L (List.getD l k default).Unit).fst.Num] = [(List.getD l k default).Office, (List.getD l k default).Acc, (List.getD l k default).Num])) (by kernel_rfl) (fun hc3 => ?_) (fun hc3 => ?_)
          · exfalso
            rw [hdk] at hc3
            simp at hc3
          · refine good_run 7 (obs := [InK IntKind.i64 ((↑k : Int) + (1 : Int))]) (by kernel_rfl) (by (first | omega | assumption | exact ⟨rfl, trivial⟩ | simp only [AllP, inK_iff, roomOK_iff, decide_eq_true_eq, Bool.and_eq_true, Bool.or_eq_true, Bool.not_eq_true', decide_eq_false_iff_not, and_true, true_and]; (first | omega | (and_intros <;> intros <;> (try and_intros) <;> first | omega | assumption | exact trivial)))) ?_
            refine good_backJ (k + 1) [c.Unit = c.Unit, c.Office = c.Office, c.Acc = c.Acc, c.Num = c.Num, (ofC L c.Unit).fst.Office = (ofC L c.Unit).fst.Office, (ofC L c.Unit).fst.Acc = (ofC L c.Unit).fst.Acc, (ofC L c.Unit).fst.Num = (ofC L c.Unit).fst.Num, (↑k : Int) + (1 : Int) = (↑(k + (1 : Nat)) : Int), (↑(List.length l) : Int) = (↑(List.length l) : Int), List.length l = List.length l ∧ ∀ (i : Nat), i < List.length l → (fun i => Came.cells (List.getD l i default)) i = (fun i => Came.cells (List.getD l i default)) i, List.length L = List.length L ∧ ∀ (i : Nat), i < List.length L → (fun i => Came.cells (List.getD L i default)) i = (fun i => Came.cells (List.getD L i default)) i] (by kernel_rfl) (by kernel_rfl) ⟨rfl, rfl, rfl, rfl, rfl, rfl, rfl, (by omega), rfl, ⟨rfl, fun _ _ => rfl⟩, ⟨rfl, fun _ _ => rfl⟩, trivial⟩ (by omega) (by show _ < _; omega)
        · refine good_run 2 (obs := []) (by kernel_rfl) trivial ?_
          refine good_leaveJ (by kernel_rfl) ?_
          refine good_run 4 (obs := []) (by kernel_rfl) trivial ?_
          refine good_own (c := True) (by kernel_rfl) (by kernel_rfl) (SVles.refl _) (s13 (List.length L) (fun i => Came.cells (List.getD L i default)) (by (first | omega | assumption | exact ⟨rfl, trivial⟩ | simp only [AllP, inK_iff, roomOK_iff, decide_eq_true_eq, Bool.and_eq_true, Bool.or_eq_true, Bool.not_eq_true', decide_eq_false_iff_not, and_true, true_and]; (first | omega | (and_intros <;> intros <;> (try and_intros) <;> first | omega | assumption | exact trivial))))) ?_
          refine good_call (c := True) (by kernel_rfl) (fun _ => SVles.refl _) (fun _ => s12 (L)) (by kernel_rfl) ?_
          refine good_run 10 (obs := []) (by kernel_rfl) trivial ?_
          refine good_call (c := True) (by kernel_rfl) (fun _ => SVles.refl _) (fun _ => SpecOwn.spec (s13 (List.length L) (fun i => Came.cells (List.getD L i default)) (by (first | omega | assumption | exact ⟨rfl, trivial⟩ | simp only [AllP, inK_iff, roomOK_iff, decide_eq_true_eq, Bool.and_eq_true, Bool.or_eq_true, Bool.not_eq_true', decide_eq_false_iff_not, and_true, true_and]; (first | omega | (and_intros <;> intros <;> (try and_intros) <;> first | omega | assumption | exact trivial)))))) (by kernel_rfl) ?_
          refine good_run 1 (obs := [True → (0 : Nat) + (4 : Nat) ≤ (4 : Nat)]) (by kernel_rfl) (by (first | omega | assumption | exact ⟨rfl, trivial⟩ | simp only [AllP, inK_iff, roomOK_iff, decide_eq_true_eq, Bool.and_eq_true, Bool.or_eq_true, Bool.not_eq_true', decide_eq_false_iff_not, and_true, true_and]; (first | omega | (and_intros <;> intros <;> (try and_intros) <;> first | omega | assumption | exact trivial)))) ?_
          refine good_call (c := True) (by kernel_rfl) (fun _ => SVles.refl _) (fun _ => s17 (L) (c)) (by kernel_rfl) ?_
          refine good_run 23 (obs := []) (by kernel_rfl) trivial ?_
          refine good_fin [(decide ((checkC L).snd = (0 : Int)) && decide ((checkC L).fst = (-1 : Int)) && decide ((addC L c).snd = (6 : Int))) = true] (by kernel_rfl) ⟨?_, trivial⟩
          simp [hq, hag]
end Go.Sx.T
