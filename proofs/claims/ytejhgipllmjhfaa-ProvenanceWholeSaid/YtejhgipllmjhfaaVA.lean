/- Contracts of functions of the program, each proved by running its code symbolically (VA). -/
import Derived.Test.YtejhgipllmjhfaaSx4
import Derived.Test.YtejhgipllmjhfaaVC
namespace Go.Sx.T
open Go Go.Proofs Go.Sx
set_option maxRecDepth 100000
set_option maxHeartbeats 4000000
set_option linter.unusedVariables false
set_option linter.unusedSimpArgs false
structure Came where
  Unit : Int
  Office : Int
  Acc : Int
  Num : Int
  deriving Inhabited, DecidableEq
def Came.cells (m : Came) : List SV := [.int .i64 m.Unit, .int .i64 m.Office, .int .i64 m.Acc, .int .i64 m.Num]
def Came.sv (m : Came) : SV := .agg m.cells
def cames (l : List Came) : SV := .lst 4 l.length fun i => (l.getD i default).cells
def ints (l : List Int) : SV := .lst 1 l.length fun i => [.int .i64 (l.getD i 0)]
theorem s13 (n : Nat) (get : Nat → List SV) (h : n ≤ 100000) : SpecOwn Try.prog 13 [.lst 4 n get] 32 4 n get := by
  refine specOwn_of_good mixed Try.func13 F13_ok (by kernel_rfl) ?_
  refine good_run 9 (obs := []) (by kernel_rfl) trivial ?_
  refine good_nil (n) (by kernel_rfl) (fun hc1b hc1 => ?_)
  refine good_run 2 (obs := []) (by kernel_rfl) trivial ?_
  refine good_cond (false ^^ hc1b) (by kernel_rfl) (fun hc2 => ?_) (fun hc2 => ?_)
  · cases hc1b <;> simp at hc2
    refine good_run 7 (obs := []) (by kernel_rfl) trivial ?_
    refine good_finOwn [n = (0 : Nat)] (by kernel_rfl) ⟨?_, trivial⟩
    exact hc1 rfl
  · cases hc1b <;> simp at hc2
    refine good_run 10 (obs := [(32 : Nat) = (32 : Nat) ∧ (4 : Nat) = (4 : Nat) ∧ (4 : Nat) = (4 : Nat) ∧ roomOK ((0 : Nat) + n) (32 : Nat)]) (by kernel_rfl) (by (first | omega | assumption | exact ⟨rfl, trivial⟩ | simp only [AllP, inK_iff, roomOK_iff, decide_eq_true_eq, Bool.and_eq_true, Bool.or_eq_true, Bool.not_eq_true', decide_eq_false_iff_not, and_true, true_and]; (first | omega | (and_intros <;> intros <;> (try and_intros) <;> first | omega | assumption | exact trivial)))) ?_
    refine good_finOwn [(0 : Nat) + n = n ∧ ∀ (j : Nat), j < n → joinGet (0 : Nat) (cutRows (4 : Nat) []) get j = get j] (by kernel_rfl) ⟨?_, trivial⟩
    exact ⟨by omega, fun j _ => rfl⟩
theorem s23 (n : Nat) (get : Nat → List SV) (h : n ≤ 100000) : SpecOwn Try.prog 23 [.lst 1 n get] 3 1 n get := by
  refine specOwn_of_good mixed Try.func23 F23_ok (by kernel_rfl) ?_
  refine good_run 9 (obs := []) (by kernel_rfl) trivial ?_
  refine good_nil (n) (by kernel_rfl) (fun hc1b hc1 => ?_)
  refine good_run 2 (obs := []) (by kernel_rfl) trivial ?_
  refine good_cond (false ^^ hc1b) (by kernel_rfl) (fun hc2 => ?_) (fun hc2 => ?_)
  · cases hc1b <;> simp at hc2
    refine good_run 7 (obs := []) (by kernel_rfl) trivial ?_
    refine good_finOwn [n = (0 : Nat)] (by kernel_rfl) ⟨?_, trivial⟩
    exact hc1 rfl
  · cases hc1b <;> simp at hc2
    refine good_run 10 (obs := [(3 : Nat) = (3 : Nat) ∧ (1 : Nat) = (1 : Nat) ∧ (1 : Nat) = (1 : Nat) ∧ roomOK ((0 : Nat) + n) (8 : Nat)]) (by kernel_rfl) (by (first | omega | assumption | exact ⟨rfl, trivial⟩ | simp only [AllP, inK_iff, roomOK_iff, decide_eq_true_eq, Bool.and_eq_true, Bool.or_eq_true, Bool.not_eq_true', decide_eq_false_iff_not, and_true, true_and]; (first | omega | (and_intros <;> intros <;> (try and_intros) <;> first | omega | assumption | exact trivial)))) ?_
    refine good_finOwn [(0 : Nat) + n = n ∧ ∀ (j : Nat), j < n → joinGet (0 : Nat) (cutRows (1 : Nat) []) get j = get j] (by kernel_rfl) ⟨?_, trivial⟩
    exact ⟨by omega, fun j _ => rfl⟩
theorem s37 (l : List Came) (f : FuncId) (caps : List SV) (g : Came → Bool) (h : ∀ p : Came, Spec Try.prog f (Came.sv p :: caps) (.bool (g p))) : Spec Try.prog 37 [cames l, .fn f caps] (.int .i64 (findI l g)) := by
  refine spec_len 0 rfl (hasBody_of_slim Try.func37 F37_ok) fun hlen => ?_
  refine spec_of_good mixed Try.func37 F37_ok (by kernel_rfl) ?_
  refine good_run 14 (obs := []) (by kernel_rfl) trivial ?_
  refine good_loopJ (fun k : Nat => ⟨[(1, .sv (.fn f caps)), (0, .sv (cames l)), (6, .sv (cames l)), (7, .sv (.int .i64 l.length)), (8, .sv (.int .i64 k))], []⟩) (fun k => k ≤ l.length ∧ ∀ j, j < k → g (l.getD j default) = false) (fun k => l.length - k) (0) [SVle (SV.fn f caps) (SV.fn f caps), List.length l = List.length l ∧ ∀ (i : Nat), i < List.length l → (fun i => Came.cells (List.getD l i default)) i = (fun i => Came.cells (List.getD l i default)) i, List.length l = List.length l ∧ ∀ (i : Nat), i < List.length l → (fun i => Came.cells (List.getD l i default)) i = (fun i => Came.cells (List.getD l i default)) i, (↑(List.length l) : Int) = (↑(List.length l) : Int), (0 : Int) = (0 : Int)] (by kernel_rfl) (by kernel_rfl) ⟨SVle.refl _, ⟨rfl, fun _ _ => rfl⟩, ⟨rfl, fun _ _ => rfl⟩, rfl, rfl, trivial⟩ ?_ ?_
  · exact ⟨Nat.zero_le _, by simp⟩
  · intro k hk
    refine good_run 6 (obs := []) (by kernel_rfl) trivial ?_
    refine good_cond (decide ((↑k : Int) < (↑(List.length l) : Int))) (by kernel_rfl) (fun hc1 => ?_) (fun hc1 => ?_)
    · have hlt : k < l.length := by simp at hc1; omega
      refine good_run 16 (obs := [(4 : Nat) = (4 : Nat) ∧ (0 : Int) ≤ (↑k : Int) ∧ (↑k : Int) < (↑(List.length l) : Int), (0 : Nat) + (4 : Nat) ≤ (4 : Nat)]) (by kernel_rfl) (by (first | omega | assumption | exact ⟨rfl, trivial⟩ | simp only [AllP, inK_iff, roomOK_iff, decide_eq_true_eq, Bool.and_eq_true, Bool.or_eq_true, Bool.not_eq_true', decide_eq_false_iff_not, and_true, true_and]; (first | omega | (and_intros <;> intros <;> (try and_intros) <;> first | omega | assumption | exact trivial)))) ?_
      refine good_call (c := True) (by kernel_rfl) (fun _ => SVles.refl _) (fun _ => h (l.getD k default)) (by kernel_rfl) ?_
      refine good_run 2 (obs := []) (by kernel_rfl) trivial ?_
      refine good_cond (g (List.getD l k default)) (by kernel_rfl) (fun hc2 => ?_) (fun hc2 => ?_)
      · refine good_run 9 (obs := []) (by kernel_rfl) trivial ?_
        refine good_leaveJ (by kernel_rfl) ?_
        refine good_run 2 (obs := []) (by kernel_rfl) trivial ?_
        refine good_fin [(↑k : Int) = findI l g] (by kernel_rfl) ⟨?_, trivial⟩
        rw [findI_hit l g k hlt hc2 hk.2]
      · refine good_run 7 (obs := [InK IntKind.i64 ((↑k : Int) + (1 : Int))]) (by kernel_rfl) (by (first | omega | assumption | exact ⟨rfl, trivial⟩ | simp only [AllP, inK_iff, roomOK_iff, decide_eq_true_eq, Bool.and_eq_true, Bool.or_eq_true, Bool.not_eq_true', decide_eq_false_iff_not, and_true, true_and]; (first | omega | (and_intros <;> intros <;> (try and_intros) <;> first | omega | assumption | exact trivial)))) ?_
        refine good_backJ (k + 1) [SVle (SV.fn f caps) (SV.fn f caps), List.length l = List.length l ∧ ∀ (i : Nat), i < List.length l → (fun i => Came.cells (List.getD l i default)) i = (fun i => Came.cells (List.getD l i default)) i, List.length l = List.length l ∧ ∀ (i : Nat), i < List.length l → (fun i => Came.cells (List.getD l i default)) i = (fun i => Came.cells (List.getD l i default)) i, (↑(List.length l) : Int) = (↑(List.length l) : Int), (↑k : Int) + (1 : Int) = (↑(k + (1 : Nat)) : Int)] (by kernel_rfl) (by kernel_rfl) ⟨SVle.refl _, ⟨rfl, fun _ _ => rfl⟩, ⟨rfl, fun _ _ => rfl⟩, rfl, (by omega), trivial⟩ ?_ ?_
        · refine ⟨by omega, fun j hj => ?_⟩
          rcases Nat.lt_or_ge j k with h | h
          · exact hk.2 j h
          · have : j = k := by omega
            subst this
            exact hc2
        · show _ < _; omega
    · refine good_run 2 (obs := []) (by kernel_rfl) trivial ?_
      refine good_leaveJ (by kernel_rfl) ?_
      refine good_run 7 (obs := []) (by kernel_rfl) trivial ?_
      refine good_fin [(-1 : Int) = findI l g] (by kernel_rfl) ⟨?_, trivial⟩
      have : k = l.length := by simp at hc1; omega
      subst this
      rw [findI_none l g hk.2]
theorem s63 (l : List Came) (f : FuncId) (caps : List SV) (g : Came → Bool) (h : ∀ p : Came, Spec Try.prog f (Came.sv p :: caps) (.bool (g p))) : Spec Try.prog 63 [cames l, .fn f caps] (.bool (l.any g)) := by
  refine spec_of_good mixed Try.func63 F63_ok (by kernel_rfl) ?_
  refine good_run 9 (obs := []) (by kernel_rfl) trivial ?_
  refine good_call (c := True) (by kernel_rfl) (fun _ => SVles.refl _) (fun _ => s37 l f caps g h) (by kernel_rfl) ?_
  refine good_run 5 (obs := []) (by kernel_rfl) trivial ?_
  refine good_fin [decide ((0 : Int) ≤ findI l g) = List.any l g] (by kernel_rfl) ⟨?_, trivial⟩
  rcases findI_cases l g with ⟨e, _, _, h2⟩ | ⟨k, hk, e, _, _, _, h2⟩
  · rw [e, h2]; rfl
  · rw [e, h2]; simp
theorem s46 (l : List Came) (f : FuncId) (caps : List SV) (g : Came → Bool) (h : ∀ p : Came, Spec Try.prog f (Came.sv p :: caps) (.bool (g p))) (hl : l.length ≤ 100000) :
    SpecTake Try.prog 46 [] 32 4 l.length (fun i => (l.getD i default).cells) [.fn f caps] (l.filter fun p => !g p).length (fun i => ((l.filter fun p => !g p).getD i default).cells) := by
  refine specTake_of_good mixed Try.func46 F46_ok (by kernel_rfl) ?_
  refine good_run 9 (obs := []) (by kernel_rfl) trivial ?_
  refine good_call (c := True) (by kernel_rfl) (fun _ => SVles.refl _) (fun _ => s37 l f caps g h) (by kernel_rfl) ?_
  rcases findI_cases l g with ⟨e, _, _, h2⟩ | ⟨k, hk, e, h3, _, h1, h2⟩
  · rw [e]
    refine good_run 10 (obs := []) (by kernel_rfl) trivial ?_
    refine good_cond true (by kernel_rfl) (fun _ => ?_) (fun h => nomatch h)
    refine good_run 8 (obs := []) (by kernel_rfl) trivial ?_
    refine good_finTake [List.length l = List.length (List.filter (fun p => !g p) l) ∧ ∀ (j : Nat), j < List.length (List.filter (fun p => !g p) l) → (fun i => Came.cells (List.getD l i default)) j = (fun i => Came.cells (List.getD (List.filter (fun p => !g p) l) i default)) j] (by kernel_rfl) ⟨?_, trivial⟩
    rw [kept_none l g h2]
    exact ⟨rfl, fun _ _ => rfl⟩
  · rw [e]
    obtain ⟨e1, e2⟩ := kept_first l g k h3
    have e3 : (kept l g (k + 1)).length = k := by rw [e1, List.length_take]; omega
    refine good_run 10 (obs := []) (by kernel_rfl) trivial ?_
    refine good_cond (decide ((↑k : Int) = (-1 : Int))) (by kernel_rfl) (fun hc1 => ?_) (fun hc1 => ?_)
    · exfalso; simp only [decide_eq_true_eq] at hc1; omega
    refine good_run 10 (obs := [InK IntKind.i64 ((↑k : Int) + (1 : Int))]) (by kernel_rfl) (by (first | omega | assumption | exact ⟨rfl, trivial⟩ | simp only [AllP, inK_iff, roomOK_iff, decide_eq_true_eq, Bool.and_eq_true, Bool.or_eq_true, Bool.not_eq_true', decide_eq_false_iff_not, and_true, true_and]; (first | omega | (and_intros <;> intros <;> (try and_intros) <;> first | omega | assumption | exact trivial)))) ?_
    refine good_loopJ (fun q : Nat × (Nat → Came) => ⟨[(6, .sv (.int .i64 (q.1))), (5, .sv (.int .i64 (((kept l g q.1).length)))), (0, LV.own (0 : Nat)), (1, LV.sv (SV.fn f caps))], [.row 32 4 l.length true fun i => (q.2 i).cells]⟩) (fun q => q.1 ≤ l.length ∧ (kept l g q.1).length < q.1 ∧ (∀ j, j < (kept l g q.1).length → q.2 j = (kept l g q.1).getD j default) ∧ ∀ j, q.1 ≤ j → q.2 j = l.getD j default) (fun q => l.length - q.1) ((k + 1, fun j => l.getD j default)) [List.length l = List.length l ∧ ∀ (i : Nat), i < List.length l → (fun i => Came.cells (List.getD l i default)) i = (fun i => Came.cells ((k + (1 : Nat), fun j => List.getD l j default).snd i)) i, (↑k : Int) + (1 : Int) = (↑(k + (1 : Nat)) : Int), (↑k : Int) = (↑(List.length (kept l g (k + (1 : Nat)))) : Int), SVle (SV.fn f caps) (SV.fn f caps)] (by kernel_rfl) (by kernel_rfl) ⟨⟨rfl, fun _ _ => rfl⟩, (by omega), (by omega), SVle.refl _, trivial⟩ ?_ ?_
    · exact ⟨by show k + 1 ≤ l.length; omega, by show (kept l g (k + 1)).length < k + 1; omega, fun j hj => (e2 j (by rw [e3] at hj; exact hj)).symm, fun _ _ => rfl⟩
    rintro ⟨j, G⟩ ⟨hj, hlt, hG1, hG2⟩
    simp only at hj hlt hG1 hG2
    refine good_run 9 (obs := []) (by kernel_rfl) trivial ?_
    refine good_cond (decide ((↑j : Int) < (↑(List.length l) : Int))) (by kernel_rfl) (fun hc2 => ?_) (fun hc2 => ?_)
    · have hjl : j < l.length := by simp only [decide_eq_true_eq] at hc2; omega
      have hGj := hG2 j (Nat.le_refl _)
      refine good_run 17 (obs := [(4 : Nat) = (4 : Nat) ∧ (0 : Int) ≤ (↑j : Int) ∧ (↑j : Int) < (↑(List.length l) : Int), (0 : Nat) + (4 : Nat) ≤ (4 : Nat), (4 : Nat) = (4 : Nat) ∧ (0 : Nat) + (4 : Nat) ≤ (4 : Nat), (0 : Nat) + (4 : Nat) ≤ (4 : Nat)]) (by kernel_rfl) (by (first | omega | assumption | exact ⟨rfl, trivial⟩ | simp only [AllP, inK_iff, roomOK_iff, decide_eq_true_eq, Bool.and_eq_true, Bool.or_eq_true, Bool.not_eq_true', decide_eq_false_iff_not, and_true, true_and]; (first | omega | (and_intros <;> intros <;> (try and_intros) <;> first | omega | assumption | exact trivial)))) ?_
      refine good_call (c := True) (by kernel_rfl) (fun _ => SVles.refl _) (fun _ => h (G j)) (by kernel_rfl) ?_
      refine good_run 3 (obs := []) (by kernel_rfl) trivial ?_
      refine good_cond (!g (G j)) (by kernel_rfl) (fun hc3 => ?_) (fun hc3 => ?_)
      · have hgf : g (l.getD j default) = false := by rw [hGj] at hc3; simpa using hc3
        have hks : kept l g (j + 1) = kept l g j ++ [l.getD j default] := by rw [kept_succ l g j hjl, if_neg (by rw [hgf]; decide)]
        have hkl : (kept l g (j + 1)).length = (kept l g j).length + 1 := by rw [hks, List.length_append]; rfl
        refine good_run 22 (obs := [(0 : Nat) + (4 : Nat) ≤ (4 : Nat), (4 : Nat) = (4 : Nat) ∧ (0 : Int) ≤ (↑(List.length (kept l g j)) : Int) ∧ (↑(List.length (kept l g j)) : Int) < (↑(List.length l) : Int), (4 : Nat) = (4 : Nat) ∧ (0 : Nat) + (4 : Nat) ≤ (4 : Nat), InK IntKind.i64 ((↑(List.length (kept l g j)) : Int) + (1 : Int)), InK IntKind.i64 ((↑j : Int) + (1 : Int))]) (by kernel_rfl) (by (first | omega | assumption | exact ⟨rfl, trivial⟩ | simp only [AllP, inK_iff, roomOK_iff, decide_eq_true_eq, Bool.and_eq_true, Bool.or_eq_true, Bool.not_eq_true', decide_eq_false_iff_not, and_true, true_and]; (first | omega | (and_intros <;> intros <;> (try and_intros) <;> first | omega | assumption | exact trivial)))) ?_
        refine good_backJ ((j + 1, fun i => if i = (kept l g j).length then G j else G i)) [List.length l = List.length l ∧ ∀ (i : Nat), i < List.length l → (fun j_1 => if j_1 = List.length (kept l g j) then lay ((fun i => Came.cells ((j, G).snd i)) (List.length (kept l g j))) (0 : Nat) [SV.int IntKind.i64 (G j).Unit, SV.int IntKind.i64 (G j).Office, SV.int IntKind.i64 (G j).Acc, SV.int IntKind.i64 (G j).Num] else (fun i => Came.cells ((j, G).snd i)) j_1) i = (fun i => Came.cells ((j + (1 : Nat), fun i => if i = List.length (kept l g j) then G j else G i).snd i)) i, (↑j : Int) + (1 : Int) = (↑(j + (1 : Nat)) : Int), (↑(List.length (kept l g j)) : Int) + (1 : Int) = (↑(List.length (kept l g (j + (1 : Nat)))) : Int), SVle (SV.fn f caps) (SV.fn f caps)] (by kernel_rfl) (by kernel_rfl) ⟨?_, (by omega), (by omega), SVle.refl _, trivial⟩ ?_ (by show _ < _; omega)
        · refine ⟨rfl, fun i hi => ?_⟩
          simp only
          by_cases hi' : i = (kept l g j).length
          · rw [if_pos hi', if_pos hi']; rfl
          · rw [if_neg hi', if_neg hi']
        · refine ⟨hjl, by show (kept l g (j + 1)).length < j + 1; omega, fun i hi => ?_, fun i hi => ?_⟩
          · simp only at hi ⊢
            rw [hks, getD_append]
            by_cases hi' : i = (kept l g j).length
            · rw [if_pos hi', if_neg (by omega), hi', Nat.sub_self, hGj]; rfl
            · rw [if_neg hi', if_pos (by omega)]; exact hG1 i (by omega)
          · simp only at hi ⊢
            rw [if_neg (by omega)]; exact hG2 i (by omega)
      · have hgt : g (l.getD j default) = true := by rw [hGj] at hc3; simpa using hc3
        have hks : kept l g (j + 1) = kept l g j := by rw [kept_succ l g j hjl, if_pos hgt]
        refine good_run 8 (obs := [InK IntKind.i64 ((↑j : Int) + (1 : Int))]) (by kernel_rfl) (by (first | omega | assumption | exact ⟨rfl, trivial⟩ | simp only [AllP, inK_iff, roomOK_iff, decide_eq_true_eq, Bool.and_eq_true, Bool.or_eq_true, Bool.not_eq_true', decide_eq_false_iff_not, and_true, true_and]; (first | omega | (and_intros <;> intros <;> (try and_intros) <;> first | omega | assumption | exact trivial)))) ?_
        refine good_backJ ((j + 1, G)) [List.length l = List.length l ∧ ∀ (i : Nat), i < List.length l → (fun i => Came.cells ((j, G).snd i)) i = (fun i => Came.cells ((j + (1 : Nat), G).snd i)) i, (↑j : Int) + (1 : Int) = (↑(j + (1 : Nat)) : Int), (↑(List.length (kept l g j)) : Int) = (↑(List.length (kept l g (j + (1 : Nat)))) : Int), SVle (SV.fn f caps) (SV.fn f caps)] (by kernel_rfl) (by kernel_rfl) ⟨⟨rfl, fun _ _ => rfl⟩, (by omega), ?_, SVle.refl _, trivial⟩ ?_ (by show _ < _; omega)
        · rw [hks]
        · refine ⟨hjl, by show (kept l g (j + 1)).length < j + 1; rw [hks]; omega, fun i hi => ?_, fun i hi => hG2 i (by simp only at hi; omega)⟩
          simp only at hi ⊢
          rw [hks] at hi ⊢
          exact hG1 i hi
    · have hge : j = l.length := by simp only [decide_eq_false_iff_not] at hc2; omega
      subst hge
      have hke := kept_end l g
      refine good_run 2 (obs := []) (by kernel_rfl) trivial ?_
      refine good_leaveJ (by kernel_rfl) ?_
      refine good_run 18 (obs := [(4 : Nat) = (4 : Nat) ∧ (0 : Int) ≤ (↑(List.length (kept l g (List.length l))) : Int) ∧ (↑(List.length (kept l g (List.length l))) : Int) ≤ (↑(List.length l - (0 : Nat)) : Int) ∧ (0 : Nat) + (List.length l - (0 : Nat)) ≤ List.length l, (4 : Nat) = (4 : Nat), (4 : Nat) = (4 : Nat) ∧ (0 : Int) ≤ (0 : Int) ∧ (0 : Int) ≤ (↑(List.length (kept l g (List.length l))) : Int) ∧ (0 : Nat) + List.length (kept l g (List.length l)) ≤ List.length l]) (by kernel_rfl) (by (first | omega | assumption | exact ⟨rfl, trivial⟩ | simp only [AllP, inK_iff, roomOK_iff, decide_eq_true_eq, Bool.and_eq_true, Bool.or_eq_true, Bool.not_eq_true', decide_eq_false_iff_not, and_true, true_and]; (first | omega | (and_intros <;> intros <;> (try and_intros) <;> first | omega | assumption | exact trivial)))) ?_
      refine good_finTake [(0 : Nat) + List.length (kept l g (List.length l)) = List.length (List.filter (fun p => !g p) l) ∧ List.length (List.filter (fun p => !g p) l) ≤ List.length l ∧ ∀ (j : Nat), j < List.length (List.filter (fun p => !g p) l) → spliceGet ((0 : Nat) + List.length (kept l g (List.length l))) ((0 : Nat) + (List.length l - (0 : Nat)) - ((0 : Nat) + List.length (kept l g (List.length l)))) (fun x => List.map SV.val [Value.int IntKind.i64 (Int.ofNat (0 : Nat)), Value.int IntKind.i64 (Int.ofNat (0 : Nat)), Value.int IntKind.i64 (Int.ofNat (0 : Nat)), Value.int IntKind.i64 (Int.ofNat (0 : Nat))]) (fun i => Came.cells ((List.length l, G).snd i)) j = (fun i => Came.cells (List.getD (List.filter (fun p => !g p) l) i default)) j] (by kernel_rfl) ⟨?_, trivial⟩
      refine ⟨by rw [Nat.zero_add, hke], by rw [← hke]; omega, fun i hi => ?_⟩
      rw [← hke] at hi ⊢
      unfold spliceGet
      rw [if_neg (by omega)]
      simp only
      rw [hG1 i hi]
/-- A search in a list at whose first k elements the comparison says 'less', and at no other. -/
theorem s40 (l : List Came) (x : Int) (f : FuncId) (caps : List SV) (c : Came → Int) (h : ∀ p : Came, Spec Try.prog f (Came.sv p :: .int .i64 x :: caps) (.int .i64 (c p))) (k : Nat) (hk : k ≤ l.length) (hl : l.length ≤ 100000) (h1 : ∀ j, j < k → c (l.getD j default) < 0) (h2 : ∀ j, k ≤ j → j < l.length → 0 ≤ c (l.getD j default)) :
    Spec Try.prog 40 [cames l, .int .i64 x, .fn f caps] (.tup [.int .i64 k, .bool (decide ((k : Int) < l.length) && decide (c (l.getD k default) = 0))]) := by
  refine spec_of_good mixed Try.func40 F40_ok (by kernel_rfl) ?_
  have hu1 : IntKind.u64.min = 0 := rfl
  have hu2 : IntKind.u64.max = 18446744073709551615 := rfl
  have hu3 : IntKind.u64.bits = 64 := rfl
  refine good_run 22 (obs := []) (by kernel_rfl) trivial ?_
  refine good_loopJ (fun q : Nat × Nat => ⟨[(9, .sv (.int .i64 (q.1))), (10, .sv (.int .i64 (q.2))), (8, LV.sv (SV.int IntKind.i64 (↑(List.length l) : Int))), (0, LV.sv (SV.lst (4 : Nat) (List.length l) fun i => Came.cells (List.getD l i default))), (1, LV.sv (SV.int IntKind.i64 x)), (2, LV.sv (SV.fn f caps))], []⟩) (fun q => q.1 ≤ k ∧ k ≤ q.2 ∧ q.2 ≤ l.length) (fun q => q.2 - q.1) ((0, l.length)) [(0 : Int) = (0 : Int), (↑(List.length l) : Int) = (↑(List.length l) : Int), (↑(List.length l) : Int) = (↑(List.length l) : Int), List.length l = List.length l ∧ ∀ (i : Nat), i < List.length l → (fun i => Came.cells (List.getD l i default)) i = (fun i => Came.cells (List.getD l i default)) i, x = x, SVle (SV.fn f caps) (SV.fn f caps)] (by kernel_rfl) (by kernel_rfl) ⟨rfl, rfl, rfl, ⟨rfl, fun _ _ => rfl⟩, rfl, SVle.refl _, trivial⟩ (by omega) ?_
  rintro ⟨i, j⟩ ⟨hi, hj, hn⟩
  simp only at hi hj hn
  refine good_run 8 (obs := []) (by kernel_rfl) trivial ?_
  refine good_cond (decide ((↑i : Int) < (↑j : Int))) (by kernel_rfl) (fun hc1 => ?_) (fun hc1 => ?_)
  · have hij : i < j := by simp only [decide_eq_true_eq] at hc1; omega
    have e2 : (((i : Int) + j) / 2 ^ 1).toNat = (i + j) / 2 := by omega
    refine good_run 21 (obs := [InK IntKind.i64 ((↑i : Int) + (↑j : Int)), InK IntKind.u64 ((↑i : Int) + (↑j : Int)), (0 : Int) ≤ (1 : Int) ∧ (1 : Nat) ≤ IntKind.bits IntKind.u64, InK IntKind.i64 (((↑i : Int) + (↑j : Int)) / (2 : Int) ^ (1 : Nat)), (4 : Nat) = (4 : Nat) ∧ (0 : Int) ≤ ((↑i : Int) + (↑j : Int)) / (2 : Int) ^ (1 : Nat) ∧ ((↑i : Int) + (↑j : Int)) / (2 : Int) ^ (1 : Nat) < (↑(List.length l) : Int), (0 : Nat) + (4 : Nat) ≤ (4 : Nat)]) (by kernel_rfl) (by (first | omega | assumption | exact ⟨rfl, trivial⟩ | simp only [AllP, inK_iff, roomOK_iff, decide_eq_true_eq, Bool.and_eq_true, Bool.or_eq_true, Bool.not_eq_true', decide_eq_false_iff_not, and_true, true_and]; (first | omega | (and_intros <;> intros <;> (try and_intros) <;> first | omega | assumption | exact trivial)))) ?_
    refine good_call (c := True) (by kernel_rfl) (fun _ => SVles.refl _) (fun _ => h (l.getD (((i : Int) + j) / 2 ^ 1).toNat default)) (by kernel_rfl) ?_
    refine good_run 3 (obs := []) (by kernel_rfl) trivial ?_
    refine good_cond (decide (c (List.getD l (Int.toNat (((↑i : Int) + (↑j : Int)) / (2 : Int) ^ (1 : Nat))) default) < (0 : Int))) (by kernel_rfl) (fun hc2 => ?_) (fun hc2 => ?_)
    · have : (i + j) / 2 < k := by
        refine Nat.lt_of_not_le fun hk' => ?_
        have := h2 _ hk' (by omega)
        simp only [decide_eq_true_eq, e2] at hc2; omega
      refine good_run 7 (obs := [InK IntKind.i64 (((↑i : Int) + (↑j : Int)) / (2 : Int) ^ (1 : Nat) + (1 : Int))]) (by kernel_rfl) (by (first | omega | assumption | exact ⟨rfl, trivial⟩ | simp only [AllP, inK_iff, roomOK_iff, decide_eq_true_eq, Bool.and_eq_true, Bool.or_eq_true, Bool.not_eq_true', decide_eq_false_iff_not, and_true, true_and]; (first | omega | (and_intros <;> intros <;> (try and_intros) <;> first | omega | assumption | exact trivial)))) ?_
      refine good_backJ (((i + j) / 2 + 1, j)) [((↑i : Int) + (↑j : Int)) / (2 : Int) ^ (1 : Nat) + (1 : Int) = (↑((i + j) / (2 : Nat) + (1 : Nat)) : Int), (↑j : Int) = (↑j : Int), (↑(List.length l) : Int) = (↑(List.length l) : Int), List.length l = List.length l ∧ ∀ (i : Nat), i < List.length l → (fun i => Came.cells (List.getD l i default)) i = (fun i => Came.cells (List.getD l i default)) i, x = x, SVle (SV.fn f caps) (SV.fn f caps)] (by kernel_rfl) (by kernel_rfl) ⟨(by omega), rfl, rfl, ⟨rfl, fun _ _ => rfl⟩, rfl, SVle.refl _, trivial⟩ (by omega) (by show _ < _; omega)
    · have : k ≤ (i + j) / 2 := by
        refine Nat.le_of_not_lt fun hk' => ?_
        have := h1 _ hk'
        simp only [decide_eq_false_iff_not, e2] at hc2; omega
      refine good_run 6 (obs := []) (by kernel_rfl) trivial ?_
      refine good_backJ ((i, (i + j) / 2)) [(↑i : Int) = (↑i : Int), ((↑i : Int) + (↑j : Int)) / (2 : Int) ^ (1 : Nat) = (↑((i + j) / (2 : Nat)) : Int), (↑(List.length l) : Int) = (↑(List.length l) : Int), List.length l = List.length l ∧ ∀ (i : Nat), i < List.length l → (fun i => Came.cells (List.getD l i default)) i = (fun i => Came.cells (List.getD l i default)) i, x = x, SVle (SV.fn f caps) (SV.fn f caps)] (by kernel_rfl) (by kernel_rfl) ⟨rfl, (by omega), rfl, ⟨rfl, fun _ _ => rfl⟩, rfl, SVle.refl _, trivial⟩ (by omega) (by show _ < _; omega)
  · have : i = k := by simp only [decide_eq_false_iff_not] at hc1; omega
    subst this
    refine good_run 2 (obs := []) (by kernel_rfl) trivial ?_
    refine good_leaveJ (by kernel_rfl) ?_
    refine good_run 15 (obs := [decide ((↑i : Int) < (↑(List.length l) : Int)) = true ∧ True → (4 : Nat) = (4 : Nat) ∧ (0 : Int) ≤ (↑i : Int) ∧ (↑i : Int) < (↑(List.length l) : Int), decide ((↑i : Int) < (↑(List.length l) : Int)) = true ∧ True → (0 : Nat) + (4 : Nat) ≤ (4 : Nat)]) (by kernel_rfl) (by (first | omega | assumption | exact ⟨rfl, trivial⟩ | simp only [AllP, inK_iff, roomOK_iff, decide_eq_true_eq, Bool.and_eq_true, Bool.or_eq_true, Bool.not_eq_true', decide_eq_false_iff_not, and_true, true_and]; (first | omega | (and_intros <;> intros <;> (try and_intros) <;> first | omega | assumption | exact trivial)))) ?_
    refine good_call (c := decide ((↑i : Int) < (↑(List.length l) : Int)) = true ∧ True) (by kernel_rfl) (fun _ => SVles.refl _) (fun _ => h (l.getD i default)) (by kernel_rfl) ?_
    refine good_run 8 (obs := []) (by kernel_rfl) trivial ?_
    refine good_fin [(↑i : Int) = (↑i : Int), (decide ((↑i : Int) < (↑(List.length l) : Int)) && decide (c (List.getD l i default) = (0 : Int))) = (decide ((↑i : Int) < (↑(List.length l) : Int)) && decide (c (List.getD l i default) = (0 : Int)))] (by kernel_rfl) ⟨rfl, rfl, trivial⟩
theorem s27 (a b : List Int) : Spec Try.prog 27 [ints a, ints b] (.bool (decide (a = b))) := by
  refine spec_len 0 rfl (hasBody_of_slim Try.func27 F27_ok) fun hlen => ?_
  refine spec_of_good mixed Try.func27 F27_ok (by kernel_rfl) ?_
  refine good_run 15 (obs := []) (by kernel_rfl) trivial ?_
  refine good_cond (!decide ((↑(List.length a) : Int) = (↑(List.length b) : Int))) (by kernel_rfl) (fun hc1 => ?_) (fun hc1 => ?_)
  · simp only [Bool.not_eq_true', decide_eq_false_iff_not] at hc1
    have : decide (a = b) = false := decide_eq_false fun e => hc1 (by rw [e])
    rw [this]
    refine good_run 7 (obs := []) (by kernel_rfl) trivial ?_
    refine good_fin [false = false] (by kernel_rfl) ⟨rfl, trivial⟩
  · simp only [Bool.not_eq_false', decide_eq_true_eq] at hc1
    have hab : a.length = b.length := by omega
    refine good_run 10 (obs := []) (by kernel_rfl) trivial ?_
    refine good_loopJ (fun k : Nat => ⟨[(13, .sv (.int .i64 (k))), (12, LV.sv (SV.int IntKind.i64 (↑(List.length a) : Int))), (0, LV.sv (SV.lst (1 : Nat) (List.length a) fun i => [SV.int IntKind.i64 (List.getD a i (0 : Int))])), (1, LV.sv (SV.lst (1 : Nat) (List.length b) fun i => [SV.int IntKind.i64 (List.getD b i (0 : Int))]))], []⟩) (fun k => k ≤ a.length ∧ ∀ i, i < k → a.getD i 0 = b.getD i 0) (fun k => a.length - k) (0) [(0 : Int) = (0 : Int), (↑(List.length a) : Int) = (↑(List.length a) : Int), List.length a = List.length a ∧ ∀ (i : Nat), i < List.length a → (fun i => [SV.int IntKind.i64 (List.getD a i (0 : Int))]) i = (fun i => [SV.int IntKind.i64 (List.getD a i (0 : Int))]) i, List.length b = List.length b ∧ ∀ (i : Nat), i < List.length b → (fun i => [SV.int IntKind.i64 (List.getD b i (0 : Int))]) i = (fun i => [SV.int IntKind.i64 (List.getD b i (0 : Int))]) i] (by kernel_rfl) (by kernel_rfl) ⟨rfl, rfl, ⟨rfl, fun _ _ => rfl⟩, ⟨rfl, fun _ _ => rfl⟩, trivial⟩ ⟨by omega, by omega⟩ ?_
    intro k hk
    refine good_run 6 (obs := []) (by kernel_rfl) trivial ?_
    refine good_cond (decide ((↑k : Int) < (↑(List.length a) : Int))) (by kernel_rfl) (fun hc2 => ?_) (fun hc2 => ?_)
    · have hlt : k < a.length := by simp only [decide_eq_true_eq] at hc2; omega
      refine good_run 22 (obs := [True → (1 : Nat) = (1 : Nat) ∧ (0 : Int) ≤ (↑k : Int) ∧ (↑k : Int) < (↑(List.length a) : Int), True → (1 : Nat) = (1 : Nat) ∧ (0 : Int) ≤ (↑k : Int) ∧ (↑k : Int) < (↑(List.length b) : Int)]) (by kernel_rfl) (by (first | omega | assumption | exact ⟨rfl, trivial⟩ | simp only [AllP, inK_iff, roomOK_iff, decide_eq_true_eq, Bool.and_eq_true, Bool.or_eq_true, Bool.not_eq_true', decide_eq_false_iff_not, and_true, true_and]; (first | omega | (and_intros <;> intros <;> (try and_intros) <;> first | omega | assumption | exact trivial)))) ?_
      refine good_cond (!decide (List.getD a k (0 : Int) = List.getD b k (0 : Int))) (by kernel_rfl) (fun hc3 => ?_) (fun hc3 => ?_)
      · have hne : a.getD k 0 ≠ b.getD k 0 := by simpa only [Bool.not_eq_true', decide_eq_false_iff_not] using hc3
        have : decide (a = b) = false := decide_eq_false fun e => hne (by rw [e])
        rw [this]
        refine good_run 8 (obs := []) (by kernel_rfl) trivial ?_
        refine good_leaveJ (by kernel_rfl) ?_
        refine good_run 2 (obs := []) (by kernel_rfl) trivial ?_
        refine good_fin [false = false] (by kernel_rfl) ⟨rfl, trivial⟩
      · have he : a.getD k 0 = b.getD k 0 := by simpa only [Bool.not_eq_false', decide_eq_true_eq] using hc3
        refine good_run 7 (obs := [InK IntKind.i64 ((↑k : Int) + (1 : Int))]) (by kernel_rfl) (by (first | omega | assumption | exact ⟨rfl, trivial⟩ | simp only [AllP, inK_iff, roomOK_iff, decide_eq_true_eq, Bool.and_eq_true, Bool.or_eq_true, Bool.not_eq_true', decide_eq_false_iff_not, and_true, true_and]; (first | omega | (and_intros <;> intros <;> (try and_intros) <;> first | omega | assumption | exact trivial)))) ?_
        refine good_backJ (k + 1) [(↑k : Int) + (1 : Int) = (↑(k + (1 : Nat)) : Int), (↑(List.length a) : Int) = (↑(List.length a) : Int), List.length a = List.length a ∧ ∀ (i : Nat), i < List.length a → (fun i => [SV.int IntKind.i64 (List.getD a i (0 : Int))]) i = (fun i => [SV.int IntKind.i64 (List.getD a i (0 : Int))]) i, List.length b = List.length b ∧ ∀ (i : Nat), i < List.length b → (fun i => [SV.int IntKind.i64 (List.getD b i (0 : Int))]) i = (fun i => [SV.int IntKind.i64 (List.getD b i (0 : Int))]) i] (by kernel_rfl) (by kernel_rfl) ⟨(by omega), rfl, ⟨rfl, fun _ _ => rfl⟩, ⟨rfl, fun _ _ => rfl⟩, trivial⟩ ?_ (by show _ < _; omega)
        exact ⟨hlt, fun i hi => by
          rcases Nat.lt_or_ge i k with h | h
          · exact hk.2 i h
          · have : i = k := by omega
            subst this; exact he⟩
    · have hge : k = a.length := by simp only [decide_eq_false_iff_not] at hc2; have := hk.1; omega
      have : decide (a = b) = true := decide_eq_true (ext_getD a b hab fun i hi => hk.2 i (by omega))
      rw [this]
      refine good_run 2 (obs := []) (by kernel_rfl) trivial ?_
      refine good_leaveJ (by kernel_rfl) ?_
      refine good_run 7 (obs := []) (by kernel_rfl) trivial ?_
      refine good_fin [true = true] (by kernel_rfl) ⟨rfl, trivial⟩
theorem ov68 : OvlOK Try.prog 68 22 := ⟨Try.f68, 4, 32, 4, Try.func68, by kernel_rfl, by kernel_rfl, by kernel_rfl, by kernel_rfl, by kernel_rfl, by kernel_rfl⟩
theorem s43 (n : Nat) (get gv : Nat → List SV) (i : Int) (h0 : 0 ≤ i) (h1 : i ≤ n) (hn : n ≤ 100000) : SpecTake Try.prog 43 [] 32 4 n get [.int .i64 i, .lst 4 1 gv] (n + 1) (insGet i.toNat (gv 0) get) := by
  refine specTake_of_good mixed Try.func43 F43_ok (by kernel_rfl) ?_
  have hov := ov68
  refine good_run 26 (obs := [(4 : Nat) = (4 : Nat) ∧ (0 : Int) ≤ i ∧ i ≤ (↑(n - (0 : Nat)) : Int) ∧ (0 : Nat) + (n - (0 : Nat)) ≤ n]) (by kernel_rfl) (by (first | omega | assumption | exact ⟨rfl, trivial⟩ | simp only [AllP, inK_iff, roomOK_iff, decide_eq_true_eq, Bool.and_eq_true, Bool.or_eq_true, Bool.not_eq_true', decide_eq_false_iff_not, and_true, true_and]; (first | omega | (and_intros <;> intros <;> (try and_intros) <;> first | omega | assumption | exact trivial)))) ?_
  refine good_cond false (by kernel_rfl) (fun h => nomatch h) (fun _ => ?_)
  refine good_run 16 (obs := []) (by kernel_rfl) trivial ?_
  refine good_cond (decide (i = (↑n : Int))) (by kernel_rfl) (fun hc1 => ?_) (fun hc1 => ?_)
  · simp only [decide_eq_true_eq] at hc1
    refine good_run 10 (obs := [(32 : Nat) = (32 : Nat) ∧ (4 : Nat) = (4 : Nat) ∧ (4 : Nat) = (4 : Nat) ∧ roomOK (n + (1 : Nat)) (32 : Nat)]) (by kernel_rfl) (by (first | omega | assumption | exact ⟨rfl, trivial⟩ | simp only [AllP, inK_iff, roomOK_iff, decide_eq_true_eq, Bool.and_eq_true, Bool.or_eq_true, Bool.not_eq_true', decide_eq_false_iff_not, and_true, true_and]; (first | omega | (and_intros <;> intros <;> (try and_intros) <;> first | omega | assumption | exact trivial)))) ?_
    refine good_finTake [n + (1 : Nat) = n + (1 : Nat) ∧ ∀ (j : Nat), j < n + (1 : Nat) → joinGet n get gv j = insGet (Int.toNat i) (gv (0 : Nat)) get j] (by kernel_rfl) ⟨?_, trivial⟩
    refine ⟨rfl, fun k hk => ?_⟩
    unfold joinGet insGet
    subst hc1
    simp only [Int.toNat_natCast]
    split
    · rfl
    · have : k = n := by omega
      subst this; simp
  · simp only [decide_eq_false_iff_not] at hc1
    refine good_run 8 (obs := [InK IntKind.i64 ((↑n : Int) + (1 : Int))]) (by kernel_rfl) (by (first | omega | assumption | exact ⟨rfl, trivial⟩ | simp only [AllP, inK_iff, roomOK_iff, decide_eq_true_eq, Bool.and_eq_true, Bool.or_eq_true, Bool.not_eq_true', decide_eq_false_iff_not, and_true, true_and]; (first | omega | (and_intros <;> intros <;> (try and_intros) <;> first | omega | assumption | exact trivial)))) ?_
    refine good_cap (i := (0 : Nat)) (t := (32 : Nat)) (sz := (4 : Nat)) (n := n) (get := get) (by kernel_rfl) (fun hc2c hc2g hc2 hc2m hc2e => ?_)
    refine good_run 3 (obs := []) (by kernel_rfl) trivial ?_
    refine good_cond (decide ((↑hc2c : Int) < (↑n : Int) + (1 : Int))) (by kernel_rfl) (fun hc3 => ?_) (fun hc3 => ?_)
    · simp only [decide_eq_true_eq] at hc3
      refine good_run 45 (obs := [(4 : Nat) = (4 : Nat) ∧ (0 : Int) ≤ (0 : Int) ∧ (0 : Int) ≤ i ∧ (0 : Nat) + Int.toNat i ≤ hc2c, InK IntKind.i64 ((↑n : Int) + (1 : Int)), InK IntKind.i64 ((↑n : Int) + (1 : Int) - i), (32 : Nat) = (32 : Nat) ∧ (4 : Nat) = (4 : Nat) ∧ (0 : Int) < (↑n : Int) + (1 : Int) - i ∧ hc2c < (0 : Nat) + Int.toNat i + Int.toNat ((↑n : Int) + (1 : Int) - i) ∧ roomOK ((0 : Nat) + Int.toNat i + Int.toNat ((↑n : Int) + (1 : Int) - i)) (32 : Nat), (4 : Nat) = (4 : Nat) ∧ (0 : Int) ≤ i ∧ i ≤ (↑((0 : Nat) + Int.toNat i + Int.toNat ((↑n : Int) + (1 : Int) - i) - (0 : Nat)) : Int) ∧ (0 : Nat) + ((0 : Nat) + Int.toNat i + Int.toNat ((↑n : Int) + (1 : Int) - i) - (0 : Nat)) ≤ (0 : Nat) + Int.toNat i + Int.toNat ((↑n : Int) + (1 : Int) - i), (4 : Nat) = (4 : Nat) ∧ (4 : Nat) = (4 : Nat), True → InK IntKind.i64 (i + (1 : Int)), True → (4 : Nat) = (4 : Nat) ∧ (0 : Int) ≤ i + (1 : Int) ∧ i + (1 : Int) ≤ (↑((0 : Nat) + Int.toNat i + Int.toNat ((↑n : Int) + (1 : Int) - i) - (0 : Nat)) : Int) ∧ (0 : Nat) + ((0 : Nat) + Int.toNat i + Int.toNat ((↑n : Int) + (1 : Int) - i) - (0 : Nat)) ≤ (0 : Nat) + Int.toNat i + Int.toNat ((↑n : Int) + (1 : Int) - i), True → (4 : Nat) = (4 : Nat) ∧ (0 : Int) ≤ i ∧ i ≤ (↑(n - (0 : Nat)) : Int) ∧ (0 : Nat) + (n - (0 : Nat)) ≤ hc2c, (4 : Nat) = (4 : Nat) ∧ (4 : Nat) = (4 : Nat)]) (by kernel_rfl) (by (first | omega | assumption | exact ⟨rfl, trivial⟩ | simp only [AllP, inK_iff, roomOK_iff, decide_eq_true_eq, Bool.and_eq_true, Bool.or_eq_true, Bool.not_eq_true', decide_eq_false_iff_not, and_true, true_and]; (first | omega | (and_intros <;> intros <;> (try and_intros) <;> first | omega | assumption | exact trivial)))) ?_
      refine good_finTake [(0 : Nat) + Int.toNat i + Int.toNat ((↑n : Int) + (1 : Int) - i) = n + (1 : Nat) ∧ ∀ (j : Nat), j < n + (1 : Nat) → spliceGet ((0 : Nat) + Int.toNat (i + (1 : Int))) (min ((0 : Nat) + (n - (0 : Nat)) - ((0 : Nat) + Int.toNat i)) ((0 : Nat) + ((0 : Nat) + Int.toNat i + Int.toNat ((↑n : Int) + (1 : Int) - i) - (0 : Nat)) - ((0 : Nat) + Int.toNat (i + (1 : Int))))) (fun k => hc2g ((0 : Nat) + Int.toNat i + k)) (spliceGet ((0 : Nat) + Int.toNat i) (min (1 : Nat) ((0 : Nat) + ((0 : Nat) + Int.toNat i + Int.toNat ((↑n : Int) + (1 : Int) - i) - (0 : Nat)) - ((0 : Nat) + Int.toNat i))) gv (joinGet ((0 : Nat) + Int.toNat i) hc2g fun x => List.map SV.val [Value.int IntKind.i64 (Int.ofNat (0 : Nat)), Value.int IntKind.i64 (Int.ofNat (0 : Nat)), Value.int IntKind.i64 (Int.ofNat (0 : Nat)), Value.int IntKind.i64 (Int.ofNat (0 : Nat))])) j = insGet (Int.toNat i) (gv (0 : Nat)) get j] (by kernel_rfl) ⟨?_, trivial⟩
      exact ⟨by omega, fun j hj => ins_new (n := n) (by omega) (by omega) (by omega) (by omega) (by omega) (by omega) (by omega) hc2e hj⟩
    · simp only [decide_eq_false_iff_not] at hc3
      refine good_run 24 (obs := [InK IntKind.i64 ((↑n : Int) + (1 : Int)), (4 : Nat) = (4 : Nat) ∧ (0 : Int) ≤ (0 : Int) ∧ (0 : Int) ≤ (↑n : Int) + (1 : Int) ∧ (0 : Nat) + Int.toNat ((↑n : Int) + (1 : Int)) ≤ hc2c, InK IntKind.i64 (i + (1 : Int)), (4 : Nat) = (4 : Nat) ∧ (0 : Int) ≤ i + (1 : Int) ∧ i + (1 : Int) ≤ (↑((0 : Nat) + Int.toNat ((↑n : Int) + (1 : Int)) - (0 : Nat)) : Int) ∧ (0 : Nat) + ((0 : Nat) + Int.toNat ((↑n : Int) + (1 : Int)) - (0 : Nat)) ≤ hc2c, OvlOK Try.prog (68 : FuncId) (22 : TypeId) ∧ (0 : Nat) < (4 : Nat)]) (by kernel_rfl) (by (first | omega | assumption | exact ⟨rfl, trivial⟩ | simp only [AllP, inK_iff, roomOK_iff, decide_eq_true_eq, Bool.and_eq_true, Bool.or_eq_true, Bool.not_eq_true', decide_eq_false_iff_not, and_true, true_and]; (first | omega | (and_intros <;> intros <;> (try and_intros) <;> first | omega | assumption | exact trivial)))) ?_
      refine good_cond true (by kernel_rfl) (fun _ => ?_) (fun h => nomatch h)
      refine good_run 31 (obs := [True → InK IntKind.i64 (i + (1 : Int)), True → (4 : Nat) = (4 : Nat) ∧ (0 : Int) ≤ i + (1 : Int) ∧ i + (1 : Int) ≤ (↑((0 : Nat) + Int.toNat ((↑n : Int) + (1 : Int)) - (0 : Nat)) : Int) ∧ (0 : Nat) + ((0 : Nat) + Int.toNat ((↑n : Int) + (1 : Int)) - (0 : Nat)) ≤ hc2c, True → (4 : Nat) = (4 : Nat) ∧ (0 : Int) ≤ i ∧ i ≤ (↑((0 : Nat) + Int.toNat ((↑n : Int) + (1 : Int)) - (0 : Nat)) : Int) ∧ (0 : Nat) + ((0 : Nat) + Int.toNat ((↑n : Int) + (1 : Int)) - (0 : Nat)) ≤ hc2c, (4 : Nat) = (4 : Nat) ∧ (4 : Nat) = (4 : Nat), (4 : Nat) = (4 : Nat) ∧ (0 : Int) ≤ i ∧ i ≤ (↑((0 : Nat) + Int.toNat ((↑n : Int) + (1 : Int)) - (0 : Nat)) : Int) ∧ (0 : Nat) + ((0 : Nat) + Int.toNat ((↑n : Int) + (1 : Int)) - (0 : Nat)) ≤ hc2c, (4 : Nat) = (4 : Nat) ∧ (4 : Nat) = (4 : Nat)]) (by kernel_rfl) (by (first | omega | assumption | exact ⟨rfl, trivial⟩ | simp only [AllP, inK_iff, roomOK_iff, decide_eq_true_eq, Bool.and_eq_true, Bool.or_eq_true, Bool.not_eq_true', decide_eq_false_iff_not, and_true, true_and]; (first | omega | (and_intros <;> intros <;> (try and_intros) <;> first | omega | assumption | exact trivial)))) ?_
      refine good_finTake [(0 : Nat) + Int.toNat ((↑n : Int) + (1 : Int)) = n + (1 : Nat) ∧ n + (1 : Nat) ≤ hc2c ∧ ∀ (j : Nat), j < n + (1 : Nat) → spliceGet ((0 : Nat) + Int.toNat i) (min (1 : Nat) ((0 : Nat) + ((0 : Nat) + Int.toNat ((↑n : Int) + (1 : Int)) - (0 : Nat)) - ((0 : Nat) + Int.toNat i))) gv (spliceGet ((0 : Nat) + Int.toNat (i + (1 : Int))) (min ((0 : Nat) + ((0 : Nat) + Int.toNat ((↑n : Int) + (1 : Int)) - (0 : Nat)) - ((0 : Nat) + Int.toNat i)) ((0 : Nat) + ((0 : Nat) + Int.toNat ((↑n : Int) + (1 : Int)) - (0 : Nat)) - ((0 : Nat) + Int.toNat (i + (1 : Int))))) (fun k => hc2g ((0 : Nat) + Int.toNat i + k)) hc2g) j = insGet (Int.toNat i) (gv (0 : Nat)) get j] (by kernel_rfl) ⟨?_, trivial⟩
      exact ⟨by omega, by omega, fun j hj => ins_in (n := n) (by omega) (by omega) (by omega) (by omega) (by omega) (by omega) hc2e hj⟩
theorem ov60 : OvlOK Try.prog 60 40 := ⟨Try.f60, 4, 3, 1, Try.func60, by kernel_rfl, by kernel_rfl, by kernel_rfl, by kernel_rfl, by kernel_rfl, by kernel_rfl⟩
theorem s32 (n : Nat) (get gv : Nat → List SV) (i : Int) (h0 : 0 ≤ i) (h1 : i ≤ n) (hn : n ≤ 100000) : SpecTake Try.prog 32 [] 3 1 n get [.int .i64 i, .lst 1 1 gv] (n + 1) (insGet i.toNat (gv 0) get) := by
  refine specTake_of_good mixed Try.func32 F32_ok (by kernel_rfl) ?_
  have hov := ov60
  refine good_run 26 (obs := [(1 : Nat) = (1 : Nat) ∧ (0 : Int) ≤ i ∧ i ≤ (↑(n - (0 : Nat)) : Int) ∧ (0 : Nat) + (n - (0 : Nat)) ≤ n]) (by kernel_rfl) (by (first | omega | assumption | exact ⟨rfl, trivial⟩ | simp only [AllP, inK_iff, roomOK_iff, decide_eq_true_eq, Bool.and_eq_true, Bool.or_eq_true, Bool.not_eq_true', decide_eq_false_iff_not, and_true, true_and]; (first | omega | (and_intros <;> intros <;> (try and_intros) <;> first | omega | assumption | exact trivial)))) ?_
  refine good_cond false (by kernel_rfl) (fun h => nomatch h) (fun _ => ?_)
  refine good_run 16 (obs := []) (by kernel_rfl) trivial ?_
  refine good_cond (decide (i = (↑n : Int))) (by kernel_rfl) (fun hc1 => ?_) (fun hc1 => ?_)
  · simp only [decide_eq_true_eq] at hc1
    refine good_run 10 (obs := [(3 : Nat) = (3 : Nat) ∧ (1 : Nat) = (1 : Nat) ∧ (1 : Nat) = (1 : Nat) ∧ roomOK (n + (1 : Nat)) (8 : Nat)]) (by kernel_rfl) (by (first | omega | assumption | exact ⟨rfl, trivial⟩ | simp only [AllP, inK_iff, roomOK_iff, decide_eq_true_eq, Bool.and_eq_true, Bool.or_eq_true, Bool.not_eq_true', decide_eq_false_iff_not, and_true, true_and]; (first | omega | (and_intros <;> intros <;> (try and_intros) <;> first | omega | assumption | exact trivial)))) ?_
    refine good_finTake [n + (1 : Nat) = n + (1 : Nat) ∧ ∀ (j : Nat), j < n + (1 : Nat) → joinGet n get gv j = insGet (Int.toNat i) (gv (0 : Nat)) get j] (by kernel_rfl) ⟨?_, trivial⟩
    refine ⟨rfl, fun k hk => ?_⟩
    unfold joinGet insGet
    subst hc1
    simp only [Int.toNat_natCast]
    split
    · rfl
    · have : k = n := by omega
      subst this; simp
  · simp only [decide_eq_false_iff_not] at hc1
    refine good_run 8 (obs := [InK IntKind.i64 ((↑n : Int) + (1 : Int))]) (by kernel_rfl) (by (first | omega | assumption | exact ⟨rfl, trivial⟩ | simp only [AllP, inK_iff, roomOK_iff, decide_eq_true_eq, Bool.and_eq_true, Bool.or_eq_true, Bool.not_eq_true', decide_eq_false_iff_not, and_true, true_and]; (first | omega | (and_intros <;> intros <;> (try and_intros) <;> first | omega | assumption | exact trivial)))) ?_
    refine good_cap (i := (0 : Nat)) (t := (3 : Nat)) (sz := (1 : Nat)) (n := n) (get := get) (by kernel_rfl) (fun hc2c hc2g hc2 hc2m hc2e => ?_)
    refine good_run 3 (obs := []) (by kernel_rfl) trivial ?_
    refine good_cond (decide ((↑hc2c : Int) < (↑n : Int) + (1 : Int))) (by kernel_rfl) (fun hc3 => ?_) (fun hc3 => ?_)
    · simp only [decide_eq_true_eq] at hc3
      refine good_run 45 (obs := [(1 : Nat) = (1 : Nat) ∧ (0 : Int) ≤ (0 : Int) ∧ (0 : Int) ≤ i ∧ (0 : Nat) + Int.toNat i ≤ hc2c, InK IntKind.i64 ((↑n : Int) + (1 : Int)), InK IntKind.i64 ((↑n : Int) + (1 : Int) - i), (3 : Nat) = (3 : Nat) ∧ (1 : Nat) = (1 : Nat) ∧ (0 : Int) < (↑n : Int) + (1 : Int) - i ∧ hc2c < (0 : Nat) + Int.toNat i + Int.toNat ((↑n : Int) + (1 : Int) - i) ∧ roomOK ((0 : Nat) + Int.toNat i + Int.toNat ((↑n : Int) + (1 : Int) - i)) (8 : Nat), (1 : Nat) = (1 : Nat) ∧ (0 : Int) ≤ i ∧ i ≤ (↑((0 : Nat) + Int.toNat i + Int.toNat ((↑n : Int) + (1 : Int) - i) - (0 : Nat)) : Int) ∧ (0 : Nat) + ((0 : Nat) + Int.toNat i + Int.toNat ((↑n : Int) + (1 : Int) - i) - (0 : Nat)) ≤ (0 : Nat) + Int.toNat i + Int.toNat ((↑n : Int) + (1 : Int) - i), (1 : Nat) = (1 : Nat) ∧ (1 : Nat) = (1 : Nat), True → InK IntKind.i64 (i + (1 : Int)), True → (1 : Nat) = (1 : Nat) ∧ (0 : Int) ≤ i + (1 : Int) ∧ i + (1 : Int) ≤ (↑((0 : Nat) + Int.toNat i + Int.toNat ((↑n : Int) + (1 : Int) - i) - (0 : Nat)) : Int) ∧ (0 : Nat) + ((0 : Nat) + Int.toNat i + Int.toNat ((↑n : Int) + (1 : Int) - i) - (0 : Nat)) ≤ (0 : Nat) + Int.toNat i + Int.toNat ((↑n : Int) + (1 : Int) - i), True → (1 : Nat) = (1 : Nat) ∧ (0 : Int) ≤ i ∧ i ≤ (↑(n - (0 : Nat)) : Int) ∧ (0 : Nat) + (n - (0 : Nat)) ≤ hc2c, (1 : Nat) = (1 : Nat) ∧ (1 : Nat) = (1 : Nat)]) (by kernel_rfl) (by (first | omega | assumption | exact ⟨rfl, trivial⟩ | simp only [AllP, inK_iff, roomOK_iff, decide_eq_true_eq, Bool.and_eq_true, Bool.or_eq_true, Bool.not_eq_true', decide_eq_false_iff_not, and_true, true_and]; (first | omega | (and_intros <;> intros <;> (try and_intros) <;> first | omega | assumption | exact trivial)))) ?_
      refine good_finTake [(0 : Nat) + Int.toNat i + Int.toNat ((↑n : Int) + (1 : Int) - i) = n + (1 : Nat) ∧ ∀ (j : Nat), j < n + (1 : Nat) → spliceGet ((0 : Nat) + Int.toNat (i + (1 : Int))) (min ((0 : Nat) + (n - (0 : Nat)) - ((0 : Nat) + Int.toNat i)) ((0 : Nat) + ((0 : Nat) + Int.toNat i + Int.toNat ((↑n : Int) + (1 : Int) - i) - (0 : Nat)) - ((0 : Nat) + Int.toNat (i + (1 : Int))))) (fun k => hc2g ((0 : Nat) + Int.toNat i + k)) (spliceGet ((0 : Nat) + Int.toNat i) (min (1 : Nat) ((0 : Nat) + ((0 : Nat) + Int.toNat i + Int.toNat ((↑n : Int) + (1 : Int) - i) - (0 : Nat)) - ((0 : Nat) + Int.toNat i))) gv (joinGet ((0 : Nat) + Int.toNat i) hc2g fun x => List.map SV.val [Value.int IntKind.i64 (Int.ofNat (0 : Nat))])) j = insGet (Int.toNat i) (gv (0 : Nat)) get j] (by kernel_rfl) ⟨?_, trivial⟩
      exact ⟨by omega, fun j hj => ins_new (n := n) (by omega) (by omega) (by omega) (by omega) (by omega) (by omega) (by omega) hc2e hj⟩
    · simp only [decide_eq_false_iff_not] at hc3
      refine good_run 24 (obs := [InK IntKind.i64 ((↑n : Int) + (1 : Int)), (1 : Nat) = (1 : Nat) ∧ (0 : Int) ≤ (0 : Int) ∧ (0 : Int) ≤ (↑n : Int) + (1 : Int) ∧ (0 : Nat) + Int.toNat ((↑n : Int) + (1 : Int)) ≤ hc2c, InK IntKind.i64 (i + (1 : Int)), (1 : Nat) = (1 : Nat) ∧ (0 : Int) ≤ i + (1 : Int) ∧ i + (1 : Int) ≤ (↑((0 : Nat) + Int.toNat ((↑n : Int) + (1 : Int)) - (0 : Nat)) : Int) ∧ (0 : Nat) + ((0 : Nat) + Int.toNat ((↑n : Int) + (1 : Int)) - (0 : Nat)) ≤ hc2c, OvlOK Try.prog (60 : FuncId) (40 : TypeId) ∧ (0 : Nat) < (1 : Nat)]) (by kernel_rfl) (by (first | omega | assumption | exact ⟨rfl, trivial⟩ | simp only [AllP, inK_iff, roomOK_iff, decide_eq_true_eq, Bool.and_eq_true, Bool.or_eq_true, Bool.not_eq_true', decide_eq_false_iff_not, and_true, true_and]; (first | omega | (and_intros <;> intros <;> (try and_intros) <;> first | omega | assumption | exact trivial)))) ?_
      refine good_cond true (by kernel_rfl) (fun _ => ?_) (fun h => nomatch h)
      refine good_run 31 (obs := [True → InK IntKind.i64 (i + (1 : Int)), True → (1 : Nat) = (1 : Nat) ∧ (0 : Int) ≤ i + (1 : Int) ∧ i + (1 : Int) ≤ (↑((0 : Nat) + Int.toNat ((↑n : Int) + (1 : Int)) - (0 : Nat)) : Int) ∧ (0 : Nat) + ((0 : Nat) + Int.toNat ((↑n : Int) + (1 : Int)) - (0 : Nat)) ≤ hc2c, True → (1 : Nat) = (1 : Nat) ∧ (0 : Int) ≤ i ∧ i ≤ (↑((0 : Nat) + Int.toNat ((↑n : Int) + (1 : Int)) - (0 : Nat)) : Int) ∧ (0 : Nat) + ((0 : Nat) + Int.toNat ((↑n : Int) + (1 : Int)) - (0 : Nat)) ≤ hc2c, (1 : Nat) = (1 : Nat) ∧ (1 : Nat) = (1 : Nat), (1 : Nat) = (1 : Nat) ∧ (0 : Int) ≤ i ∧ i ≤ (↑((0 : Nat) + Int.toNat ((↑n : Int) + (1 : Int)) - (0 : Nat)) : Int) ∧ (0 : Nat) + ((0 : Nat) + Int.toNat ((↑n : Int) + (1 : Int)) - (0 : Nat)) ≤ hc2c, (1 : Nat) = (1 : Nat) ∧ (1 : Nat) = (1 : Nat)]) (by kernel_rfl) (by (first | omega | assumption | exact ⟨rfl, trivial⟩ | simp only [AllP, inK_iff, roomOK_iff, decide_eq_true_eq, Bool.and_eq_true, Bool.or_eq_true, Bool.not_eq_true', decide_eq_false_iff_not, and_true, true_and]; (first | omega | (and_intros <;> intros <;> (try and_intros) <;> first | omega | assumption | exact trivial)))) ?_
      refine good_finTake [(0 : Nat) + Int.toNat ((↑n : Int) + (1 : Int)) = n + (1 : Nat) ∧ n + (1 : Nat) ≤ hc2c ∧ ∀ (j : Nat), j < n + (1 : Nat) → spliceGet ((0 : Nat) + Int.toNat i) (min (1 : Nat) ((0 : Nat) + ((0 : Nat) + Int.toNat ((↑n : Int) + (1 : Int)) - (0 : Nat)) - ((0 : Nat) + Int.toNat i))) gv (spliceGet ((0 : Nat) + Int.toNat (i + (1 : Int))) (min ((0 : Nat) + ((0 : Nat) + Int.toNat ((↑n : Int) + (1 : Int)) - (0 : Nat)) - ((0 : Nat) + Int.toNat i)) ((0 : Nat) + ((0 : Nat) + Int.toNat ((↑n : Int) + (1 : Int)) - (0 : Nat)) - ((0 : Nat) + Int.toNat (i + (1 : Int))))) (fun k => hc2g ((0 : Nat) + Int.toNat i + k)) hc2g) j = insGet (Int.toNat i) (gv (0 : Nat)) get j] (by kernel_rfl) ⟨?_, trivial⟩
      exact ⟨by omega, by omega, fun j hj => ins_in (n := n) (by omega) (by omega) (by omega) (by omega) (by omega) (by omega) hc2e hj⟩
theorem t30 (n : Nat) (get : Nat → List SV) (i j : Nat) (hij : i ≤ j) (hj : j ≤ n) : SpecTake Try.prog 30 [] 3 1 n get [.int .i64 i, .int .i64 j] (n - (j - i)) fun k => if k < i then get k else get (k + (j - i)) := by
  refine specTake_of_good mixed Try.func30 F30_ok (by kernel_rfl) ?_
  refine good_run 23 (obs := [(1 : Nat) = (1 : Nat) ∧ (0 : Int) ≤ (↑i : Int) ∧ (↑i : Int) ≤ (↑j : Int) ∧ (↑j : Int) ≤ (↑n : Int) ∧ (0 : Nat) + n ≤ n]) (by kernel_rfl) (by (first | omega | assumption | exact ⟨rfl, trivial⟩ | simp only [AllP, inK_iff, roomOK_iff, decide_eq_true_eq, Bool.and_eq_true, Bool.or_eq_true, Bool.not_eq_true', decide_eq_false_iff_not, and_true, true_and]; (first | omega | (and_intros <;> intros <;> (try and_intros) <;> first | omega | assumption | exact trivial)))) ?_
  refine good_cond (decide ((↑i : Int) = (↑j : Int))) (by kernel_rfl) (fun hc1 => ?_) (fun hc1 => ?_)
  · have e : i = j := by simp at hc1; omega
    subst e
    refine good_run 8 (obs := []) (by kernel_rfl) trivial ?_
    refine good_finTake [n = n - (i - i) ∧ ∀ (j : Nat), j < n - (i - i) → get j = (fun k => if k < i then get k else get (k + (i - i))) j] (by kernel_rfl) ⟨?_, trivial⟩
    refine ⟨by omega, fun k hk => ?_⟩
    simp
  · refine good_run 38 (obs := [True → (1 : Nat) = (1 : Nat) ∧ (0 : Int) ≤ (0 : Int) ∧ (0 : Int) ≤ (↑i : Int) ∧ (0 : Nat) + i ≤ n, True → (1 : Nat) = (1 : Nat) ∧ (0 : Int) ≤ (↑j : Int) ∧ (↑j : Int) ≤ (↑(n - (0 : Nat)) : Int) ∧ (0 : Nat) + (n - (0 : Nat)) ≤ n, (0 : Nat) = (0 : Nat) ∧ (3 : Nat) = (3 : Nat) ∧ (1 : Nat) = (1 : Nat) ∧ (0 : Nat) + i + ((0 : Nat) + (n - (0 : Nat)) - ((0 : Nat) + j)) ≤ n, (1 : Nat) = (1 : Nat) ∧ (0 : Int) ≤ (↑((0 : Nat) + i + ((0 : Nat) + (n - (0 : Nat)) - ((0 : Nat) + j)) - (0 : Nat)) : Int) ∧ (↑((0 : Nat) + i + ((0 : Nat) + (n - (0 : Nat)) - ((0 : Nat) + j)) - (0 : Nat)) : Int) ≤ (↑n : Int) ∧ (0 : Nat) + n ≤ n, (1 : Nat) = (1 : Nat)]) (by kernel_rfl) (by (first | omega | assumption | exact ⟨rfl, trivial⟩ | simp only [AllP, inK_iff, roomOK_iff, decide_eq_true_eq, Bool.and_eq_true, Bool.or_eq_true, Bool.not_eq_true', decide_eq_false_iff_not, and_true, true_and]; (first | omega | (and_intros <;> intros <;> (try and_intros) <;> first | omega | assumption | exact trivial)))) ?_
    refine good_finTake [(0 : Nat) + i + ((0 : Nat) + (n - (0 : Nat)) - ((0 : Nat) + j)) = n - (j - i) ∧ n - (j - i) ≤ n ∧ ∀ (j_1 : Nat), j_1 < n - (j - i) → spliceGet ((0 : Nat) + ((0 : Nat) + i + ((0 : Nat) + (n - (0 : Nat)) - ((0 : Nat) + j)) - (0 : Nat))) ((0 : Nat) + n - ((0 : Nat) + ((0 : Nat) + i + ((0 : Nat) + (n - (0 : Nat)) - ((0 : Nat) + j)) - (0 : Nat)))) (fun x => List.map SV.val [Value.int IntKind.i64 (Int.ofNat (0 : Nat))]) (spliceGet ((0 : Nat) + i) ((0 : Nat) + (n - (0 : Nat)) - ((0 : Nat) + j)) (fun j_2 => get ((0 : Nat) + j + j_2)) get) j_1 = (fun k => if k < i then get k else get (k + (j - i))) j_1] (by kernel_rfl) ⟨?_, trivial⟩
    refine ⟨by omega, by omega, fun k hk => ?_⟩
    have := del_get n i j hij hj (fun x => List.map SV.val [Value.int IntKind.i64 (Int.ofNat (0 : Nat))]) get k hk
    simpa using this
theorem s30 (n : Nat) (get : Nat → List SV) (a b : Int) (h0 : 0 ≤ a) (h1 : a ≤ b) (h2 : b ≤ n) : SpecTake Try.prog 30 [] 3 1 n get [.int .i64 a, .int .i64 b] (n - (b.toNat - a.toNat)) fun k => if k < a.toNat then get k else get (k + (b.toNat - a.toNat)) := by
  have := t30 n get a.toNat b.toNat (by omega) (by omega)
  rwa [Int.toNat_of_nonneg h0, Int.toNat_of_nonneg (by omega)] at this
end Go.Sx.T
