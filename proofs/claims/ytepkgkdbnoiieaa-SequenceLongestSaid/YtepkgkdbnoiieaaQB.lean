/- Contracts of functions of the program, each proved by running its code symbolically (QB). -/
import Derived.Test.YtepkgkdbnoiieaaQA
namespace Go.Sx.T
open Go Go.Proofs Go.Sx
set_option maxRecDepth 100000
set_option maxHeartbeats 4000000
set_option linter.unusedVariables false
set_option linter.unusedSimpArgs false
def eqK (n : Int) : Int → Bool := fun x => decide (x = n)
theorem s61 (l : List Int) (f : FuncId) (caps : List SV) (g : Int → Bool) (h : ∀ p : Int, Spec Try.prog f (.int .i64 p :: caps) (.bool (g p))) : Spec Try.prog 61 [ints l, .fn f caps] (.int .i64 (findI l g)) := by
  refine spec_len 0 rfl (hasBody_of_slim Try.func61 F61_ok) fun hlen => ?_
  refine spec_of_good mixed Try.func61 F61_ok (by kernel_rfl) ?_
  refine good_run 14 (obs := []) (by kernel_rfl) trivial ?_
  refine good_loopJ (fun k : Nat => ⟨[(8, .sv (.int .i64 (k))), (7, LV.sv (SV.int IntKind.i64 (↑(List.length l) : Int))), (0, LV.sv (SV.lst (1 : Nat) (List.length l) fun i => [SV.int IntKind.i64 (List.getD l i (0 : Int))])), (1, LV.sv (SV.fn f caps))], []⟩) (fun k => k ≤ l.length ∧ ∀ j, j < k → g (l.getD j 0) = false) (fun k => l.length - k) (0) [(0 : Int) = (0 : Int), (↑(List.length l) : Int) = (↑(List.length l) : Int), List.length l = List.length l ∧ ∀ (i : Nat), i < List.length l → (fun i => [SV.int IntKind.i64 (List.getD l i (0 : Int))]) i = (fun i => [SV.int IntKind.i64 (List.getD l i (0 : Int))]) i, SVle (SV.fn f caps) (SV.fn f caps)] (by kernel_rfl) (by kernel_rfl) ⟨rfl, rfl, ⟨rfl, fun _ _ => rfl⟩, SVle.refl _, trivial⟩ ⟨by omega, by omega⟩ ?_
  intro k hk
  refine good_run 6 (obs := []) (by kernel_rfl) trivial ?_
  refine good_cond (decide ((↑k : Int) < (↑(List.length l) : Int))) (by kernel_rfl) (fun hc1 => ?_) (fun hc1 => ?_)
  · have hlt : k < l.length := by simp only [decide_eq_true_eq] at hc1; omega
    refine good_run 16 (obs := [(1 : Nat) = (1 : Nat) ∧ (0 : Int) ≤ (↑k : Int) ∧ (↑k : Int) < (↑(List.length l) : Int)]) (by kernel_rfl) (by (first | omega | assumption | exact ⟨rfl, trivial⟩ | simp only [AllP, inK_iff, roomOK_iff, decide_eq_true_eq, Bool.and_eq_true, Bool.or_eq_true, Bool.not_eq_true', decide_eq_false_iff_not, and_true, true_and]; (first | omega | (and_intros <;> intros <;> (try and_intros) <;> first | omega | assumption | exact trivial)))) ?_
    refine good_call (c := True) (by kernel_rfl) (fun _ => SVles.refl _) (fun _ => h (l.getD k 0)) (by kernel_rfl) ?_
    refine good_run 2 (obs := []) (by kernel_rfl) trivial ?_
    refine good_cond (g (List.getD l k (0 : Int))) (by kernel_rfl) (fun hc2 => ?_) (fun hc2 => ?_)
    · have := findI_hit l g k hlt hc2 hk.2
      refine good_run 9 (obs := []) (by kernel_rfl) trivial ?_
      refine good_leaveJ (by kernel_rfl) ?_
      refine good_run 2 (obs := []) (by kernel_rfl) trivial ?_
      refine good_fin [(↑k : Int) = findI l g] (by kernel_rfl) ⟨(by omega), trivial⟩
    · refine good_run 7 (obs := [InK IntKind.i64 ((↑k : Int) + (1 : Int))]) (by kernel_rfl) (by (first | omega | assumption | exact ⟨rfl, trivial⟩ | simp only [AllP, inK_iff, roomOK_iff, decide_eq_true_eq, Bool.and_eq_true, Bool.or_eq_true, Bool.not_eq_true', decide_eq_false_iff_not, and_true, true_and]; (first | omega | (and_intros <;> intros <;> (try and_intros) <;> first | omega | assumption | exact trivial)))) ?_
      refine good_backJ (k + 1) [(↑k : Int) + (1 : Int) = (↑(k + (1 : Nat)) : Int), (↑(List.length l) : Int) = (↑(List.length l) : Int), List.length l = List.length l ∧ ∀ (i : Nat), i < List.length l → (fun i => [SV.int IntKind.i64 (List.getD l i (0 : Int))]) i = (fun i => [SV.int IntKind.i64 (List.getD l i (0 : Int))]) i, SVle (SV.fn f caps) (SV.fn f caps)] (by kernel_rfl) (by kernel_rfl) ⟨(by omega), rfl, ⟨rfl, fun _ _ => rfl⟩, SVle.refl _, trivial⟩ ?_ (by show _ < _; omega)
      refine ⟨hlt, fun j hj => ?_⟩
      rcases Nat.lt_or_ge j k with h | h
      · exact hk.2 j h
      · have : j = k := by omega
        subst this
        exact hc2
  · have : k = l.length := by simp only [decide_eq_false_iff_not] at hc1; omega
    subst this
    have := findI_none l g hk.2
    refine good_run 2 (obs := []) (by kernel_rfl) trivial ?_
    refine good_leaveJ (by kernel_rfl) ?_
    refine good_run 7 (obs := []) (by kernel_rfl) trivial ?_
    refine good_fin [(-1 : Int) = findI l g] (by kernel_rfl) ⟨(by omega), trivial⟩
theorem s43 (l : List Int) (f : FuncId) (caps : List SV) (g : Int → Bool) (h : ∀ p : Int, Spec Try.prog f (.int .i64 p :: caps) (.bool (g p))) : Spec Try.prog 43 [ints l, .fn f caps] (.bool (l.any g)) := by
  refine spec_of_good mixed Try.func43 F43_ok (by kernel_rfl) ?_
  refine good_run 9 (obs := []) (by kernel_rfl) trivial ?_
  refine good_call (c := True) (by kernel_rfl) (fun _ => SVles.refl _) (fun _ => s61 l f caps g h) (by kernel_rfl) ?_
  refine good_run 5 (obs := []) (by kernel_rfl) trivial ?_
  refine good_fin [decide ((0 : Int) ≤ findI l g) = List.any l g] (by kernel_rfl) ⟨?_, trivial⟩
  rcases findI_cases l g with ⟨e, _, _, h2⟩ | ⟨k, hk, e, _, _, _, h2⟩
  · rw [e, h2]; rfl
  · rw [e, h2]; simp
theorem kept_succ0 (l : List Int) (g : Int → Bool) (j : Nat) (hj : j < l.length) : kept l g (j + 1) = if g (l.getD j 0) = true then kept l g j else kept l g j ++ [l.getD j 0] := kept_succ l g j hj
theorem s49 (l : List Int) (f : FuncId) (caps : List SV) (g : Int → Bool) (h : ∀ p : Int, Spec Try.prog f (.int .i64 p :: caps) (.bool (g p))) (hl : l.length ≤ 100000) :
    SpecTake Try.prog 49 [] 3 1 l.length (fun i => [SV.int .i64 (l.getD i 0)]) [.fn f caps] (l.filter fun p => !g p).length (fun i => [SV.int .i64 ((l.filter fun p => !g p).getD i 0)]) := by
  refine specTake_of_good mixed Try.func49 F49_ok (by kernel_rfl) ?_
  refine good_run 9 (obs := []) (by kernel_rfl) trivial ?_
  refine good_call (c := True) (by kernel_rfl) (fun _ => SVles.refl _) (fun _ => s61 l f caps g h) (by kernel_rfl) ?_
  rcases findI_cases l g with ⟨e, _, _, h2⟩ | ⟨k, hk, e, h3, _, h1, h2⟩
  · rw [e]
    refine good_run 10 (obs := []) (by kernel_rfl) trivial ?_
    refine good_cond true (by kernel_rfl) (fun _ => ?_) (fun h => nomatch h)
    refine good_run 8 (obs := []) (by kernel_rfl) trivial ?_
    refine good_finTake [List.length l = List.length (List.filter (fun p => !g p) l) ∧ ∀ (j : Nat), j < List.length (List.filter (fun p => !g p) l) → (fun i => [SV.int IntKind.i64 (List.getD l i (0 : Int))]) j = (fun i => [SV.int IntKind.i64 (List.getD (List.filter (fun p => !g p) l) i (0 : Int))]) j] (by kernel_rfl) ⟨?_, trivial⟩
    rw [kept_none l g h2]
    exact ⟨rfl, fun _ _ => rfl⟩
  · rw [e]
    obtain ⟨e1, e2⟩ := kept_first l g k h3
    have e3 : (kept l g (k + 1)).length = k := by rw [e1, List.length_take]; omega
    refine good_run 10 (obs := []) (by kernel_rfl) trivial ?_
    refine good_cond (decide ((↑k : Int) = (-1 : Int))) (by kernel_rfl) (fun hc1 => ?_) (fun hc1 => ?_)
    · exfalso; simp only [decide_eq_true_eq] at hc1; omega
    refine good_run 10 (obs := [InK IntKind.i64 ((↑k : Int) + (1 : Int))]) (by kernel_rfl) (by (first | omega | assumption | exact ⟨rfl, trivial⟩ | simp only [AllP, inK_iff, roomOK_iff, decide_eq_true_eq, Bool.and_eq_true, Bool.or_eq_true, Bool.not_eq_true', decide_eq_false_iff_not, and_true, true_and]; (first | omega | (and_intros <;> intros <;> (try and_intros) <;> first | omega | assumption | exact trivial)))) ?_
    refine good_loopJ (fun q : Nat × (Nat → Int) => ⟨[(6, .sv (.int .i64 (q.1))), (5, .sv (.int .i64 (((kept l g q.1).length)))), (0, LV.own (0 : Nat)), (1, LV.sv (SV.fn f caps))], [.row 3 1 l.length true fun i => [SV.int .i64 (q.2 i)]]⟩) (fun q => q.1 ≤ l.length ∧ (kept l g q.1).length < q.1 ∧ (∀ j, j < (kept l g q.1).length → q.2 j = (kept l g q.1).getD j 0) ∧ ∀ j, q.1 ≤ j → q.2 j = l.getD j 0) (fun q => l.length - q.1) ((k + 1, fun j => l.getD j 0)) [List.length l = List.length l ∧ ∀ (i : Nat), i < List.length l → (fun i => [SV.int IntKind.i64 (List.getD l i (0 : Int))]) i = (fun i => [SV.int IntKind.i64 ((k + (1 : Nat), fun j => List.getD l j (0 : Int)).snd i)]) i, (↑k : Int) + (1 : Int) = (↑(k + (1 : Nat)) : Int), (↑k : Int) = (↑(List.length (kept l g (k + (1 : Nat)))) : Int), SVle (SV.fn f caps) (SV.fn f caps)] (by kernel_rfl) (by kernel_rfl) ⟨⟨rfl, fun _ _ => rfl⟩, (by omega), (by omega), SVle.refl _, trivial⟩ ?_ ?_
    · exact ⟨by show k + 1 ≤ l.length; omega, by show (kept l g (k + 1)).length < k + 1; omega, fun j hj => (e2 j (by rw [e3] at hj; exact hj)).symm, fun _ _ => rfl⟩
    rintro ⟨j, G⟩ ⟨hj, hlt, hG1, hG2⟩
    simp only at hj hlt hG1 hG2
    refine good_run 9 (obs := []) (by kernel_rfl) trivial ?_
    refine good_cond (decide ((↑j : Int) < (↑(List.length l) : Int))) (by kernel_rfl) (fun hc2 => ?_) (fun hc2 => ?_)
    · have hjl : j < l.length := by simp only [decide_eq_true_eq] at hc2; omega
      have hGj := hG2 j (Nat.le_refl _)
      refine good_run 16 (obs := [(1 : Nat) = (1 : Nat) ∧ (0 : Int) ≤ (↑j : Int) ∧ (↑j : Int) < (↑(List.length l) : Int)]) (by kernel_rfl) (by (first | omega | assumption | exact ⟨rfl, trivial⟩ | simp only [AllP, inK_iff, roomOK_iff, decide_eq_true_eq, Bool.and_eq_true, Bool.or_eq_true, Bool.not_eq_true', decide_eq_false_iff_not, and_true, true_and]; (first | omega | (and_intros <;> intros <;> (try and_intros) <;> first | omega | assumption | exact trivial)))) ?_
      refine good_call (c := True) (by kernel_rfl) (fun _ => SVles.refl _) (fun _ => h (G j)) (by kernel_rfl) ?_
      refine good_run 3 (obs := []) (by kernel_rfl) trivial ?_
      refine good_cond (!g (G j)) (by kernel_rfl) (fun hc3 => ?_) (fun hc3 => ?_)
      · have hgf : g (l.getD j 0) = false := by rw [hGj] at hc3; simpa using hc3
        have hks : kept l g (j + 1) = kept l g j ++ [l.getD j 0] := by rw [kept_succ0 l g j hjl, if_neg (by rw [hgf]; decide)]
        have hkl : (kept l g (j + 1)).length = (kept l g j).length + 1 := by rw [hks, List.length_append]; rfl
        refine good_run 22 (obs := [(1 : Nat) = (1 : Nat) ∧ (0 : Int) ≤ (↑(List.length (kept l g j)) : Int) ∧ (↑(List.length (kept l g j)) : Int) < (↑(List.length l) : Int), (1 : Nat) = (1 : Nat) ∧ (0 : Nat) + (1 : Nat) ≤ (1 : Nat), InK IntKind.i64 ((↑(List.length (kept l g j)) : Int) + (1 : Int)), InK IntKind.i64 ((↑j : Int) + (1 : Int))]) (by kernel_rfl) (by (first | omega | assumption | exact ⟨rfl, trivial⟩ | simp only [AllP, inK_iff, roomOK_iff, decide_eq_true_eq, Bool.and_eq_true, Bool.or_eq_true, Bool.not_eq_true', decide_eq_false_iff_not, and_true, true_and]; (first | omega | (and_intros <;> intros <;> (try and_intros) <;> first | omega | assumption | exact trivial)))) ?_
        refine good_backJ ((j + 1, fun i => if i = (kept l g j).length then G j else G i)) [List.length l = List.length l ∧ ∀ (i : Nat), i < List.length l → (fun j_1 => if j_1 = List.length (kept l g j) then lay ((fun i => [SV.int IntKind.i64 ((j, G).snd i)]) (List.length (kept l g j))) (0 : Nat) [SV.int IntKind.i64 (G j)] else (fun i => [SV.int IntKind.i64 ((j, G).snd i)]) j_1) i = (fun i => [SV.int IntKind.i64 ((j + (1 : Nat), fun i => if i = List.length (kept l g j) then G j else G i).snd i)]) i, (↑j : Int) + (1 : Int) = (↑(j + (1 : Nat)) : Int), (↑(List.length (kept l g j)) : Int) + (1 : Int) = (↑(List.length (kept l g (j + (1 : Nat)))) : Int), SVle (SV.fn f caps) (SV.fn f caps)] (by kernel_rfl) (by kernel_rfl) ⟨?_, (by omega), (by omega), SVle.refl _, trivial⟩ ?_ (by show _ < _; omega)
        · refine ⟨rfl, fun i hi => ?_⟩
          simp only
          by_cases hi' : i = (kept l g j).length
          · rw [if_pos hi', if_pos hi']; rfl
          · rw [if_neg hi', if_neg hi']
        · refine ⟨hjl, by show (kept l g (j + 1)).length < j + 1; omega, fun i hi => ?_, fun i hi => ?_⟩
          · simp only at hi ⊢
            rw [hks, getD_append]
            by_cases hi' : i = (kept l g j).length
            · rw [if_pos hi', if_neg (by omega), hi', Nat.sub_self, hGj]; rfl
            · rw [if_neg hi', if_pos (by omega)]; exact hG1 i (by omega)
          · simp only at hi ⊢
            rw [if_neg (by omega)]; exact hG2 i (by omega)
      · have hgt : g (l.getD j 0) = true := by rw [hGj] at hc3; simpa using hc3
        have hks : kept l g (j + 1) = kept l g j := by rw [kept_succ0 l g j hjl, if_pos hgt]
        refine good_run 8 (obs := [InK IntKind.i64 ((↑j : Int) + (1 : Int))]) (by kernel_rfl) (by (first | omega | assumption | exact ⟨rfl, trivial⟩ | simp only [AllP, inK_iff, roomOK_iff, decide_eq_true_eq, Bool.and_eq_true, Bool.or_eq_true, Bool.not_eq_true', decide_eq_false_iff_not, and_true, true_and]; (first | omega | (and_intros <;> intros <;> (try and_intros) <;> first | omega | assumption | exact trivial)))) ?_
        refine good_backJ ((j + 1, G)) [List.length l = List.length l ∧ ∀ (i : Nat), i < List.length l → (fun i => [SV.int IntKind.i64 ((j, G).snd i)]) i = (fun i => [SV.int IntKind.i64 ((j + (1 : Nat), G).snd i)]) i, (↑j : Int) + (1 : Int) = (↑(j + (1 : Nat)) : Int), (↑(List.length (kept l g j)) : Int) = (↑(List.length (kept l g (j + (1 : Nat)))) : Int), SVle (SV.fn f caps) (SV.fn f caps)] (by kernel_rfl) (by kernel_rfl) ⟨⟨rfl, fun _ _ => rfl⟩, (by omega), ?_, SVle.refl _, trivial⟩ ?_ (by show _ < _; omega)
        · rw [hks]
        · refine ⟨hjl, by show (kept l g (j + 1)).length < j + 1; rw [hks]; omega, fun i hi => ?_, fun i hi => hG2 i (by simp only at hi; omega)⟩
          simp only at hi ⊢
          rw [hks] at hi ⊢
          exact hG1 i hi
    · have hge : j = l.length := by simp only [decide_eq_false_iff_not] at hc2; omega
      subst hge
      have hke := kept_end l g
      refine good_run 2 (obs := []) (by kernel_rfl) trivial ?_
      refine good_leaveJ (by kernel_rfl) ?_
      refine good_run 18 (obs := [(1 : Nat) = (1 : Nat) ∧ (0 : Int) ≤ (↑(List.length (kept l g (List.length l))) : Int) ∧ (↑(List.length (kept l g (List.length l))) : Int) ≤ (↑(List.length l - (0 : Nat)) : Int) ∧ (0 : Nat) + (List.length l - (0 : Nat)) ≤ List.length l, (1 : Nat) = (1 : Nat), (1 : Nat) = (1 : Nat) ∧ (0 : Int) ≤ (0 : Int) ∧ (0 : Int) ≤ (↑(List.length (kept l g (List.length l))) : Int) ∧ (0 : Nat) + List.length (kept l g (List.length l)) ≤ List.length l]) (by kernel_rfl) (by (first | omega | assumption | exact ⟨rfl, trivial⟩ | simp only [AllP, inK_iff, roomOK_iff, decide_eq_true_eq, Bool.and_eq_true, Bool.or_eq_true, Bool.not_eq_true', decide_eq_false_iff_not, and_true, true_and]; (first | omega | (and_intros <;> intros <;> (try and_intros) <;> first | omega | assumption | exact trivial)))) ?_
      refine good_finTake [(0 : Nat) + List.length (kept l g (List.length l)) = List.length (List.filter (fun p => !g p) l) ∧ List.length (List.filter (fun p => !g p) l) ≤ List.length l ∧ ∀ (j : Nat), j < List.length (List.filter (fun p => !g p) l) → spliceGet ((0 : Nat) + List.length (kept l g (List.length l))) ((0 : Nat) + (List.length l - (0 : Nat)) - ((0 : Nat) + List.length (kept l g (List.length l)))) (fun x => List.map SV.val [Value.int IntKind.i64 (Int.ofNat (0 : Nat))]) (fun i => [SV.int IntKind.i64 ((List.length l, G).snd i)]) j = (fun i => [SV.int IntKind.i64 (List.getD (List.filter (fun p => !g p) l) i (0 : Int))]) j] (by kernel_rfl) ⟨?_, trivial⟩
      refine ⟨by rw [Nat.zero_add, hke], by rw [← hke]; omega, fun i hi => ?_⟩
      rw [← hke] at hi ⊢
      unfold spliceGet
      rw [if_neg (by omega)]
      simp only
      rw [hG1 i hi]
theorem s37 (l : List Int) (n : Int) : Spec Try.prog 37 [ints l, .int .i64 n] (.int .i64 (findI l (eqK n))) := by
  refine spec_len 0 rfl (hasBody_of_slim Try.func37 F37_ok) fun hlen => ?_
  refine spec_of_good mixed Try.func37 F37_ok (by kernel_rfl) ?_
  refine good_run 14 (obs := []) (by kernel_rfl) trivial ?_
  refine good_loopJ (fun k : Nat => ⟨[(8, .sv (.int .i64 (k))), (7, LV.sv (SV.int IntKind.i64 (↑(List.length l) : Int))), (0, LV.sv (SV.lst (1 : Nat) (List.length l) fun i => [SV.int IntKind.i64 (List.getD l i (0 : Int))])), (1, LV.sv (SV.int IntKind.i64 n))], []⟩) (fun k => k ≤ l.length ∧ ∀ j, j < k → eqK n (l.getD j 0) = false) (fun k => l.length - k) (0) [(0 : Int) = (0 : Int), (↑(List.length l) : Int) = (↑(List.length l) : Int), List.length l = List.length l ∧ ∀ (i : Nat), i < List.length l → (fun i => [SV.int IntKind.i64 (List.getD l i (0 : Int))]) i = (fun i => [SV.int IntKind.i64 (List.getD l i (0 : Int))]) i, n = n] (by kernel_rfl) (by kernel_rfl) ⟨rfl, rfl, ⟨rfl, fun _ _ => rfl⟩, rfl, trivial⟩ ⟨by omega, by omega⟩ ?_
  intro k hk
  refine good_run 6 (obs := []) (by kernel_rfl) trivial ?_
  refine good_cond (decide ((↑k : Int) < (↑(List.length l) : Int))) (by kernel_rfl) (fun hc1 => ?_) (fun hc1 => ?_)
  · have hlt : k < l.length := by simp only [decide_eq_true_eq] at hc1; omega
    refine good_run 19 (obs := [(1 : Nat) = (1 : Nat) ∧ (0 : Int) ≤ (↑k : Int) ∧ (↑k : Int) < (↑(List.length l) : Int)]) (by kernel_rfl) (by (first | omega | assumption | exact ⟨rfl, trivial⟩ | simp only [AllP, inK_iff, roomOK_iff, decide_eq_true_eq, Bool.and_eq_true, Bool.or_eq_true, Bool.not_eq_true', decide_eq_false_iff_not, and_true, true_and]; (first | omega | (and_intros <;> intros <;> (try and_intros) <;> first | omega | assumption | exact trivial)))) ?_
    refine good_cond (decide (n = List.getD l k (0 : Int))) (by kernel_rfl) (fun hc2 => ?_) (fun hc2 => ?_)
    · have h2 : eqK n (l.getD k 0) = true := by simp only [decide_eq_true_eq] at hc2; simp only [eqK, decide_eq_true_eq]; omega
      have := findI_hit l (eqK n) k hlt h2 hk.2
      refine good_run 9 (obs := []) (by kernel_rfl) trivial ?_
      refine good_leaveJ (by kernel_rfl) ?_
      refine good_run 2 (obs := []) (by kernel_rfl) trivial ?_
      refine good_fin [(↑k : Int) = findI l (eqK n)] (by kernel_rfl) ⟨(by omega), trivial⟩
    · refine good_run 7 (obs := [InK IntKind.i64 ((↑k : Int) + (1 : Int))]) (by kernel_rfl) (by (first | omega | assumption | exact ⟨rfl, trivial⟩ | simp only [AllP, inK_iff, roomOK_iff, decide_eq_true_eq, Bool.and_eq_true, Bool.or_eq_true, Bool.not_eq_true', decide_eq_false_iff_not, and_true, true_and]; (first | omega | (and_intros <;> intros <;> (try and_intros) <;> first | omega | assumption | exact trivial)))) ?_
      refine good_backJ (k + 1) [(↑k : Int) + (1 : Int) = (↑(k + (1 : Nat)) : Int), (↑(List.length l) : Int) = (↑(List.length l) : Int), List.length l = List.length l ∧ ∀ (i : Nat), i < List.length l → (fun i => [SV.int IntKind.i64 (List.getD l i (0 : Int))]) i = (fun i => [SV.int IntKind.i64 (List.getD l i (0 : Int))]) i, n = n] (by kernel_rfl) (by kernel_rfl) ⟨(by omega), rfl, ⟨rfl, fun _ _ => rfl⟩, rfl, trivial⟩ ?_ (by show _ < _; omega)
      refine ⟨hlt, fun j hj => ?_⟩
      rcases Nat.lt_or_ge j k with h | h
      · exact hk.2 j h
      · have : j = k := by omega
        subst this
        simp only [decide_eq_false_iff_not] at hc2; simp only [eqK, decide_eq_false_iff_not]; omega
  · have : k = l.length := by simp only [decide_eq_false_iff_not] at hc1; omega
    subst this
    have := findI_none l (eqK n) hk.2
    refine good_run 2 (obs := []) (by kernel_rfl) trivial ?_
    refine good_leaveJ (by kernel_rfl) ?_
    refine good_run 7 (obs := []) (by kernel_rfl) trivial ?_
    refine good_fin [(-1 : Int) = findI l (eqK n)] (by kernel_rfl) ⟨(by omega), trivial⟩
theorem any_mem (l : List Int) (n : Int) : decide (0 ≤ findI l (eqK n)) = decide (n ∈ l) := by
  rcases findI_cases l (eqK n) with ⟨e, _, _, h⟩ | ⟨k, hk, e, _, _, h, _⟩
  · rw [e]
    refine (decide_eq_false (by omega)).trans (decide_eq_false fun hm => ?_).symm
    have := List.any_eq_false.1 h n hm
    simp [eqK] at this
  · rw [e]
    refine (decide_eq_true (by omega)).trans (decide_eq_true ?_).symm
    have := getD_mem l default k hk
    simp only [eqK, decide_eq_true_eq] at h
    rwa [h] at this
theorem s33 (l : List Int) (n : Int) : Spec Try.prog 33 [ints l, .int .i64 n] (.bool (decide (n ∈ l))) := by
  refine spec_of_good mixed Try.func33 F33_ok (by kernel_rfl) ?_
  refine good_run 9 (obs := []) (by kernel_rfl) trivial ?_
  refine good_call (c := True) (by kernel_rfl) (fun _ => SVles.refl _) (fun _ => s37 (l) (n)) (by kernel_rfl) ?_
  refine good_run 5 (obs := []) (by kernel_rfl) trivial ?_
  refine good_fin [decide ((0 : Int) ≤ findI l (eqK n)) = decide (n ∈ l)] (by kernel_rfl) ⟨?_, trivial⟩
  rw [any_mem]
theorem s68 (a : Int) : Spec Try.prog 68 [.int .i64 a] (.bool false) := by
  refine spec_of_good mixed Try.func68 F68_ok (by kernel_rfl) ?_
  refine good_run 14 (obs := []) (by kernel_rfl) trivial ?_
  refine good_fin [(!decide (a = a)) = false] (by kernel_rfl) ⟨?_, trivial⟩
  simp
theorem s62 (a : Int) : Spec Try.prog 62 [.int .i64 a] (.bool false) := by
  refine spec_of_good mixed Try.func62 F62_ok (by kernel_rfl) ?_
  refine good_run 14 (obs := []) (by kernel_rfl) trivial ?_
  refine good_fin [(!decide (a = a)) = false] (by kernel_rfl) ⟨?_, trivial⟩
  simp
theorem s56 (a b : Int) : Spec Try.prog 56 [.int .i64 a, .int .i64 b] (.bool (decide (a < b))) := by
  refine spec_of_good mixed Try.func56 F56_ok (by kernel_rfl) ?_
  refine good_run 8 (obs := []) (by kernel_rfl) trivial ?_
  refine good_call (c := True) (by kernel_rfl) (fun _ => SVles.refl _) (fun _ => s68 (a)) (by kernel_rfl) ?_
  refine good_run 3 (obs := []) (by kernel_rfl) trivial ?_
  refine good_call (c := false = true ∧ True) (by kernel_rfl) (fun _ => SVles.refl _) (fun _ => s68 (b)) (by kernel_rfl) ?_
  refine good_run 12 (obs := []) (by kernel_rfl) trivial ?_
  refine good_fin [(false && !false || decide (a < b)) = decide (a < b)] (by kernel_rfl) ⟨(by rfl), trivial⟩
end Go.Sx.T
