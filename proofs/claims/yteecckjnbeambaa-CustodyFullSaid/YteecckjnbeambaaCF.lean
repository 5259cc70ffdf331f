/- Contracts of functions of the program, each proved by running its code symbolically (CF). -/
import Derived.Test.YteecckjnbeambaaCE
namespace Go.Sx.T
open Go Go.Proofs Go.Sx
set_option maxRecDepth 100000
set_option maxHeartbeats 4000000
set_option linter.unusedVariables false
set_option linter.unusedSimpArgs false
section
variable {α : Type}
/-- What a deletion has kept of the first k elements. -/
def keptL (l : List α) (g : α → Bool) (k : Nat) : List α := (l.take k).filter fun p => !g p
theorem keptL_succ [Inhabited α] (l : List α) (g : α → Bool) (k : Nat) (hk : k < l.length) : keptL l g (k + 1) = if g (l.getD k default) = true then keptL l g k else keptL l g k ++ [l.getD k default] := by
  unfold keptL
  rw [take_snoc l default k hk, List.filter_append]
  generalize l.getD k default = x
  by_cases h : g x = true <;> simp [h]
theorem keptL_end (l : List α) (g : α → Bool) : keptL l g l.length = l.filter fun p => !g p := by unfold keptL; rw [List.take_length]
theorem keptL_first [Inhabited α] (l : List α) (g : α → Bool) (k : Nat) (h : l.findIdx? g = some k) : keptL l g (k + 1) = l.take k ∧ ∀ j, j < k → (keptL l g (k + 1)).getD j default = l.getD j default := by
  rw [List.findIdx?_eq_some_iff_getElem] at h
  obtain ⟨hk, hg, hn⟩ := h
  have e : keptL l g (k + 1) = l.take k := by
    rw [keptL_succ l g k hk, getD_of_lt l k hk, if_pos hg]
    unfold keptL
    refine List.filter_eq_self.2 fun x hx => ?_
    obtain ⟨j, hj, rfl⟩ := List.mem_iff_getElem.1 hx
    have hj' : j < k := by rw [List.length_take] at hj; omega
    have := hn j hj'
    simpa using this
  exact ⟨e, fun j hj => by rw [e, getD_take l k j hj]⟩
theorem filter_none (l : List α) (g : α → Bool) (h : l.any g = false) : l.filter (fun p => !g p) = l := by
  rw [List.any_eq_false] at h
  exact List.filter_eq_self.2 fun x hx => by simpa using h x hx
end
theorem s54 (l : List Move) (f : FuncId) (caps : List SV) (g : Move → Bool) (h : ∀ p : Move, Spec Try.prog f (Move.sv p :: caps) (.bool (g p))) (hl : l.length ≤ 100000) :
    SpecTake Try.prog 54 [] 26 6 l.length (fun i => (l.getD i default).cells) [.fn f caps] (l.filter fun p => !g p).length (fun i => ((l.filter fun p => !g p).getD i default).cells) := by
  refine specTake_of_good mixed Try.func54 F54_ok (by kernel_rfl) ?_
  refine good_run 9 (obs := []) (by kernel_rfl) trivial ?_
  refine good_call (c := True) (by kernel_rfl) (fun _ => SVles.refl _) (fun _ => s69 l f caps g h) (by kernel_rfl) ?_
  rcases findI_cases l g with ⟨e, _, _, h2⟩ | ⟨k, hk, e, h3, _, h1, h2⟩
  · rw [e]
    refine good_run 10 (obs := []) (by kernel_rfl) trivial ?_
    refine good_cond true (by kernel_rfl) (fun _ => ?_) (fun h => nomatch h)
    refine good_run 8 (obs := []) (by kernel_rfl) trivial ?_
    refine good_finTake [List.length l = List.length (List.filter (fun p => !g p) l) ∧ ∀ (j : Nat), j < List.length (List.filter (fun p => !g p) l) → (fun i => Move.cells (List.getD l i default)) j = (fun i => Move.cells (List.getD (List.filter (fun p => !g p) l) i default)) j] (by kernel_rfl) ⟨?_, trivial⟩
    rw [filter_none l g h2]
    exact ⟨rfl, fun _ _ => rfl⟩
  · rw [e]
    obtain ⟨e1, e2⟩ := keptL_first l g k h3
    have e3 : (keptL l g (k + 1)).length = k := by rw [e1, List.length_take]; omega
    refine good_run 10 (obs := []) (by kernel_rfl) trivial ?_
    refine good_cond (decide ((↑k : Int) = (-1 : Int))) (by kernel_rfl) (fun hc1 => ?_) (fun hc1 => ?_)
    · exfalso; simp only [decide_eq_true_eq] at hc1; omega
    refine good_run 10 (obs := [InK IntKind.i64 ((↑k : Int) + (1 : Int))]) (by kernel_rfl) (by (first | omega | assumption | exact ⟨rfl, trivial⟩ | exact ⟨rfl, rfl, trivial⟩ | exact ⟨rfl, rfl, rfl, rfl, rfl, trivial⟩ | simp only [AllP, inK_iff, roomOK_iff, decide_eq_true_eq, Bool.and_eq_true, Bool.or_eq_true, Bool.not_eq_true', decide_eq_false_iff_not, and_true, true_and]; (first | omega | (and_intros <;> intros <;> (try and_intros) <;> first | omega | assumption | exact trivial)))) ?_
    refine good_loopJ (fun q : Nat × (Nat → Move) => ⟨[(6, .sv (.int .i64 (q.1))), (5, .sv (.int .i64 (((keptL l g q.1).length)))), (0, LV.own (0 : Nat)), (1, LV.sv (SV.fn f caps))], [.row 26 6 l.length true fun i => (q.2 i).cells]⟩) (fun q => q.1 ≤ l.length ∧ (keptL l g q.1).length < q.1 ∧ (∀ j, j < (keptL l g q.1).length → q.2 j = (keptL l g q.1).getD j default) ∧ ∀ j, q.1 ≤ j → q.2 j = l.getD j default) (fun q => l.length - q.1) ((k + 1, fun j => l.getD j default)) [List.length l = List.length l ∧ ∀ (i : Nat), i < List.length l → (fun i => Move.cells (List.getD l i default)) i = (fun i => Move.cells ((k + (1 : Nat), fun j => List.getD l j default).snd i)) i, (↑k : Int) + (1 : Int) = (↑(k + (1 : Nat)) : Int), (↑k : Int) = (↑(List.length (keptL l g (k + (1 : Nat)))) : Int), SVle (SV.fn f caps) (SV.fn f caps)] (by kernel_rfl) (by kernel_rfl) ⟨⟨rfl, fun _ _ => rfl⟩, (by omega), (by omega), SVle.refl _, trivial⟩ ?_ ?_
    · exact ⟨by show k + 1 ≤ l.length; omega, by show (keptL l g (k + 1)).length < k + 1; omega, fun j hj => (e2 j (by rw [e3] at hj; exact hj)).symm, fun _ _ => rfl⟩
    rintro ⟨j, G⟩ ⟨hj, hlt, hG1, hG2⟩
    simp only at hj hlt hG1 hG2
    refine good_run 9 (obs := []) (by kernel_rfl) trivial ?_
    refine good_cond (decide ((↑j : Int) < (↑(List.length l) : Int))) (by kernel_rfl) (fun hc2 => ?_) (fun hc2 => ?_)
    · have hjl : j < l.length := by simp only [decide_eq_true_eq] at hc2; omega
      have hGj := hG2 j (Nat.le_refl _)
      refine good_run 17 (obs := [(6 : Nat) = (6 : Nat) ∧ (0 : Int) ≤ (↑j : Int) ∧ (↑j : Int) < (↑(List.length l) : Int), (0 : Nat) + (6 : Nat) ≤ (6 : Nat), (6 : Nat) = (6 : Nat) ∧ (0 : Nat) + (6 : Nat) ≤ (6 : Nat), (0 : Nat) + (6 : Nat) ≤ (6 : Nat)]) (by kernel_rfl) (by (first | omega | assumption | exact ⟨rfl, trivial⟩ | exact ⟨rfl, rfl, trivial⟩ | exact ⟨rfl, rfl, rfl, rfl, rfl, trivial⟩ | simp only [AllP, inK_iff, roomOK_iff, decide_eq_true_eq, Bool.and_eq_true, Bool.or_eq_true, Bool.not_eq_true', decide_eq_false_iff_not, and_true, true_and]; (first | omega | (and_intros <;> intros <;> (try and_intros) <;> first | omega | assumption | exact trivial)))) ?_
      refine good_call (c := True) (by kernel_rfl) (fun _ => SVles.refl _) (fun _ => h (G j)) (by kernel_rfl) ?_
      refine good_run 3 (obs := []) (by kernel_rfl) trivial ?_
      refine good_cond (!g (G j)) (by kernel_rfl) (fun hc3 => ?_) (fun hc3 => ?_)
      · have hgf : g (l.getD j default) = false := by rw [hGj] at hc3; simpa using hc3
        have hks : keptL l g (j + 1) = keptL l g j ++ [l.getD j default] := by rw [keptL_succ l g j hjl, if_neg (by rw [hgf]; decide)]
        have hkl : (keptL l g (j + 1)).length = (keptL l g j).length + 1 := by rw [hks, List.length_append]; rfl
        refine good_run 22 (obs := [(0 : Nat) + (6 : Nat) ≤ (6 : Nat), (6 : Nat) = (6 : Nat) ∧ (0 : Int) ≤ (↑(List.length (keptL l g j)) : Int) ∧ (↑(List.length (keptL l g j)) : Int) < (↑(List.length l) : Int), (6 : Nat) = (6 : Nat) ∧ (0 : Nat) + (6 : Nat) ≤ (6 : Nat), InK IntKind.i64 ((↑(List.length (keptL l g j)) : Int) + (1 : Int)), InK IntKind.i64 ((↑j : Int) + (1 : Int))]) (by kernel_rfl) (by (first | omega | assumption | exact ⟨rfl, trivial⟩ | exact ⟨rfl, rfl, trivial⟩ | exact ⟨rfl, rfl, rfl, rfl, rfl, trivial⟩ | simp only [AllP, inK_iff, roomOK_iff, decide_eq_true_eq, Bool.and_eq_true, Bool.or_eq_true, Bool.not_eq_true', decide_eq_false_iff_not, and_true, true_and]; (first | omega | (and_intros <;> intros <;> (try and_intros) <;> first | omega | assumption | exact trivial)))) ?_
        refine good_backJ ((j + 1, fun i => if i = (keptL l g j).length then G j else G i)) [List.length l = List.length l ∧ ∀ (i : Nat), i < List.length l → (fun j_1 => if j_1 = List.length (keptL l g j) then lay ((fun i => Move.cells ((j, G).snd i)) (List.length (keptL l g j))) (0 : Nat) [SV.int IntKind.i64 (G j).Day, SV.int IntKind.i64 (G j).Box, SV.int IntKind.i64 (G j).From.Kind, SV.int IntKind.i64 (G j).From.Of, SV.int IntKind.i64 (G j).To.Kind, SV.int IntKind.i64 (G j).To.Of] else (fun i => Move.cells ((j, G).snd i)) j_1) i = (fun i => Move.cells ((j + (1 : Nat), fun i => if i = List.length (keptL l g j) then G j else G i).snd i)) i, (↑j : Int) + (1 : Int) = (↑(j + (1 : Nat)) : Int), (↑(List.length (keptL l g j)) : Int) + (1 : Int) = (↑(List.length (keptL l g (j + (1 : Nat)))) : Int), SVle (SV.fn f caps) (SV.fn f caps)] (by kernel_rfl) (by kernel_rfl) ⟨?_, (by omega), (by omega), SVle.refl _, trivial⟩ ?_ (by show _ < _; omega)
        · refine ⟨rfl, fun i hi => ?_⟩
          simp only
          by_cases hi' : i = (keptL l g j).length
          · rw [if_pos hi', if_pos hi']; rfl
          · rw [if_neg hi', if_neg hi']
        · refine ⟨hjl, by show (keptL l g (j + 1)).length < j + 1; omega, fun i hi => ?_, fun i hi => ?_⟩
          · simp only at hi ⊢
            rw [hks, getD_append]
            by_cases hi' : i = (keptL l g j).length
            · rw [if_pos hi', if_neg (by omega), hi', Nat.sub_self, hGj]; rfl
            · rw [if_neg hi', if_pos (by omega)]; exact hG1 i (by omega)
          · simp only at hi ⊢
            rw [if_neg (by omega)]; exact hG2 i (by omega)
      · have hgt : g (l.getD j default) = true := by rw [hGj] at hc3; simpa using hc3
        have hks : keptL l g (j + 1) = keptL l g j := by rw [keptL_succ l g j hjl, if_pos hgt]
        refine good_run 8 (obs := [InK IntKind.i64 ((↑j : Int) + (1 : Int))]) (by kernel_rfl) (by (first | omega | assumption | exact ⟨rfl, trivial⟩ | exact ⟨rfl, rfl, trivial⟩ | exact ⟨rfl, rfl, rfl, rfl, rfl, trivial⟩ | simp only [AllP, inK_iff, roomOK_iff, decide_eq_true_eq, Bool.and_eq_true, Bool.or_eq_true, Bool.not_eq_true', decide_eq_false_iff_not, and_true, true_and]; (first | omega | (and_intros <;> intros <;> (try and_intros) <;> first | omega | assumption | exact trivial)))) ?_
        refine good_backJ ((j + 1, G)) [List.length l = List.length l ∧ ∀ (i : Nat), i < List.length l → (fun i => Move.cells ((j, G).snd i)) i = (fun i => Move.cells ((j + (1 : Nat), G).snd i)) i, (↑j : Int) + (1 : Int) = (↑(j + (1 : Nat)) : Int), (↑(List.length (keptL l g j)) : Int) = (↑(List.length (keptL l g (j + (1 : Nat)))) : Int), SVle (SV.fn f caps) (SV.fn f caps)] (by kernel_rfl) (by kernel_rfl) ⟨⟨rfl, fun _ _ => rfl⟩, (by omega), ?_, SVle.refl _, trivial⟩ ?_ (by show _ < _; omega)
        · rw [hks]
        · refine ⟨hjl, by show (keptL l g (j + 1)).length < j + 1; rw [hks]; omega, fun i hi => ?_, fun i hi => hG2 i (by simp only at hi; omega)⟩
          simp only at hi ⊢
          rw [hks] at hi ⊢
          exact hG1 i hi
    · have hge : j = l.length := by simp only [decide_eq_false_iff_not] at hc2; omega
      subst hge
      have hke := keptL_end l g
      refine good_run 2 (obs := []) (by kernel_rfl) trivial ?_
      refine good_leaveJ (by kernel_rfl) ?_
      refine good_run 18 (obs := [(6 : Nat) = (6 : Nat) ∧ (0 : Int) ≤ (↑(List.length (keptL l g (List.length l))) : Int) ∧ (↑(List.length (keptL l g (List.length l))) : Int) ≤ (↑(List.length l - (0 : Nat)) : Int) ∧ (0 : Nat) + (List.length l - (0 : Nat)) ≤ List.length l, (6 : Nat) = (6 : Nat), (6 : Nat) = (6 : Nat) ∧ (0 : Int) ≤ (0 : Int) ∧ (0 : Int) ≤ (↑(List.length (keptL l g (List.length l))) : Int) ∧ (0 : Nat) + List.length (keptL l g (List.length l)) ≤ List.length l]) (by kernel_rfl) (by (first | omega | assumption | exact ⟨rfl, trivial⟩ | exact ⟨rfl, rfl, trivial⟩ | exact ⟨rfl, rfl, rfl, rfl, rfl, trivial⟩ | simp only [AllP, inK_iff, roomOK_iff, decide_eq_true_eq, Bool.and_eq_true, Bool.or_eq_true, Bool.not_eq_true', decide_eq_false_iff_not, and_true, true_and]; (first | omega | (and_intros <;> intros <;> (try and_intros) <;> first | omega | assumption | exact trivial)))) ?_
      refine good_finTake [(0 : Nat) + List.length (keptL l g (List.length l)) = List.length (List.filter (fun p => !g p) l) ∧ List.length (List.filter (fun p => !g p) l) ≤ List.length l ∧ ∀ (j : Nat), j < List.length (List.filter (fun p => !g p) l) → spliceGet ((0 : Nat) + List.length (keptL l g (List.length l))) ((0 : Nat) + (List.length l - (0 : Nat)) - ((0 : Nat) + List.length (keptL l g (List.length l)))) (fun x => List.map SV.val [Value.int IntKind.i64 (Int.ofNat (0 : Nat)), Value.int IntKind.i64 (Int.ofNat (0 : Nat)), Value.int IntKind.i64 (Int.ofNat (0 : Nat)), Value.int IntKind.i64 (Int.ofNat (0 : Nat)), Value.int IntKind.i64 (Int.ofNat (0 : Nat)), Value.int IntKind.i64 (Int.ofNat (0 : Nat))]) (fun i => Move.cells ((List.length l, G).snd i)) j = (fun i => Move.cells (List.getD (List.filter (fun p => !g p) l) i default)) j] (by kernel_rfl) ⟨?_, trivial⟩
      refine ⟨by rw [Nat.zero_add, hke], by rw [← hke]; omega, fun i hi => ?_⟩
      rw [← hke] at hi ⊢
      unfold spliceGet
      rw [if_neg (by omega)]
      simp only
      rw [hG1 i hi]
end Go.Sx.T
