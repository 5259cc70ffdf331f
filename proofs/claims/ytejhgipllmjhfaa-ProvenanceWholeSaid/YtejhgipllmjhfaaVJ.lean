/- Contracts of functions of the program, each proved by running its code symbolically (VJ). -/
import Derived.Test.YtejhgipllmjhfaaVI
import Derived.Test.YtejhgipllmjhfaaVG
import Derived.Test.YtejhgipllmjhfaaVSY
import Derived.Test.YtejhgipllmjhfaaSxSort
namespace Go.Sx.T
open Go Go.Proofs Go.Sx
set_option maxRecDepth 100000
set_option maxHeartbeats 4000000
set_option linter.unusedVariables false
set_option linter.unusedSimpArgs false
theorem s55 (e : TypeId) (l : List Int) (h : l.length ≤ 4000000000000000000) : SpecSort Try.prog 55 [] e 1 l.length (fun i => [.int .i64 (l.getD i 0)]) [] (fun i => [.int .i64 ((isort l).getD i 0)]) :=
  sort_spec lays189 (hasBody_of_slim Try.func55 F55_ok) e l h
theorem s72n (l : List Int) (n : Nat) (e : l.length = n) (hl : n ≤ 100000) : SpecTake Try.prog 72 [] 3 1 n (fun i => [.int .i64 (l.getD i 0)]) [] (compactI l).length (fun i => [.int .i64 ((compactI l).getD i 0)]) := by
  subst e
  exact s72 l hl
def pickC (g : Came → Int) (l : List Came) (k : Int) : List Int := if ((ofC l k).2 && !decide (g (ofC l k).1 = 0)) = true then [g (ofC l k).1] else []
def gathP (g : Came → Int) (l : List Came) (ks : List Int) (m : Nat) : List Int := (ks.take m).flatMap (pickC g l)
def gathC (g : Came → Int) (l : List Came) (ks : List Int) : List Int := ks.flatMap (pickC g l)
theorem gathP_succ (g : Came → Int) (l : List Came) (ks : List Int) (m : Nat) (h : m < ks.length) : gathP g l ks (m + 1) = gathP g l ks m ++ pickC g l (ks.getD m 0) := by
  unfold gathP
  rw [List.take_succ_eq_append_getElem h, List.flatMap_append, getD_of_lt ks m h]
  simp
theorem pickC_le (g : Came → Int) (l : List Came) (k : Int) : (pickC g l k).length ≤ 1 := by unfold pickC; split <;> simp
theorem gathP_le (g : Came → Int) (l : List Came) (ks : List Int) : ∀ m, m ≤ ks.length → (gathP g l ks m).length ≤ m
  | 0, _ => by simp [gathP]
  | m + 1, h => by
    rw [gathP_succ g l ks m (by omega), List.length_append]
    have := gathP_le g l ks m (by omega)
    have := pickC_le g l (ks.getD m 0)
    omega
def gatherC (g : Came → Int) (l : List Came) (ks : List Int) : List Int × Int := if (checkC l).2 ≠ 0 then ([], 1) else if 1024 < ks.length then ([], 8) else (compactI (isort (gathC g l ks)), 0)
theorem s52 (c : Came) : Spec Try.prog 52 [orig c] (.int .i64 c.Acc) := by
  refine spec_of_good mixed Try.func52 F52_ok (by kernel_rfl) ?_
  refine good_run 14 (obs := []) (by kernel_rfl) trivial ?_
  refine good_fin [c.Acc = c.Acc] (by kernel_rfl) ⟨rfl, trivial⟩
theorem s54 (c : Came) : Spec Try.prog 54 [orig c] (.int .i64 c.Office) := by
  refine spec_of_good mixed Try.func54 F54_ok (by kernel_rfl) ?_
  refine good_run 14 (obs := []) (by kernel_rfl) trivial ?_
  refine good_fin [c.Office = c.Office] (by kernel_rfl) ⟨rfl, trivial⟩
theorem s51 (l : List Came) (ks : List Int) (f : FuncId) (g : Came → Int) (h : ∀ c : Came, Spec Try.prog f [orig c] (.int .i64 (g c))) : Spec Try.prog 51 [cames l, ints ks, .fn f []] (.tup [ints (gatherC g l ks).1, .int .i64 (gatherC g l ks).2]) := by
  refine spec_len 1 rfl (hasBody_of_slim Try.func51 F51_ok) fun hlen => ?_
  refine spec_of_good mixed Try.func51 F51_ok (by kernel_rfl) ?_
  refine good_run 11 (obs := []) (by kernel_rfl) trivial ?_
  refine good_call (c := True) (by kernel_rfl) (fun _ => SVles.refl _) (fun _ => s39 (l)) (by kernel_rfl) ?_
  refine good_run 4 (obs := []) (by kernel_rfl) trivial ?_
  refine good_cond (!decide ((checkC l).snd = (0 : Int))) (by kernel_rfl) (fun hc1 => ?_) (fun hc1 => ?_)
  · have e : gatherC g l ks = ([], 1) := if_pos (by simpa using hc1)
    rw [e]
    refine good_run 9 (obs := []) (by kernel_rfl) trivial ?_
    refine good_fin [(0 : Nat) = (0 : Nat), (1 : Int) = (1 : Int)] (by kernel_rfl) ⟨rfl, rfl, trivial⟩
  · have hc : (checkC l).2 = 0 := by simpa using hc1
    clear hc1
    refine good_run 8 (obs := []) (by kernel_rfl) trivial ?_
    refine good_cond (decide ((1024 : Int) < (↑(List.length ks) : Int))) (by kernel_rfl) (fun hc1 => ?_) (fun hc1 => ?_)
    · have e : gatherC g l ks = ([], 8) := by rw [gatherC, if_neg (by simp [hc]), if_pos (by simp only [gt_iff_lt, decide_eq_true_eq] at hc1; omega)]
      rw [e]
      refine good_run 9 (obs := []) (by kernel_rfl) trivial ?_
      refine good_fin [(0 : Nat) = (0 : Nat), (8 : Int) = (8 : Int)] (by kernel_rfl) ⟨rfl, rfl, trivial⟩
    · have hl : ¬ 1024 < ks.length := by simp only [gt_iff_lt, decide_eq_false_iff_not] at hc1; omega
      have e : gatherC g l ks = (compactI (isort (gathC g l ks)), 0) := by rw [gatherC, if_neg (by simp [hc]), if_neg hl]
      clear hc1
      rw [e]
      refine good_run 16 (obs := []) (by kernel_rfl) trivial ?_
      refine good_loopJ (fun k : Nat => ⟨[(23, .sv (.int .i64 (k))), (8, .own 0), (22, LV.sv (SV.int IntKind.i64 (↑(List.length ks) : Int))), (21, LV.sv (SV.lst (1 : Nat) (List.length ks) fun i => [SV.int IntKind.i64 (List.getD ks i (0 : Int))])), (0, LV.sv (SV.lst (4 : Nat) (List.length l) fun i => Came.cells (List.getD l i default))), (2, LV.sv (SV.fn f []))], [.row 3 1 (gathP g l ks k).length true fun i => [.int .i64 ((gathP g l ks k).getD i 0)]]⟩) (fun k => k ≤ ks.length) (fun k => ks.length - k) (0) [(0 : Nat) = (0 : Nat), (0 : Int) = (0 : Int), (↑(List.length ks) : Int) = (↑(List.length ks) : Int), List.length ks = List.length ks ∧ ∀ (i : Nat), i < List.length ks → (fun i => [SV.int IntKind.i64 (List.getD ks i (0 : Int))]) i = (fun i => [SV.int IntKind.i64 (List.getD ks i (0 : Int))]) i, List.length l = List.length l ∧ ∀ (i : Nat), i < List.length l → (fun i => Came.cells (List.getD l i default)) i = (fun i => Came.cells (List.getD l i default)) i, SVle (SV.fn f []) (SV.fn f [])] (by kernel_rfl) (by kernel_rfl) ⟨rfl, rfl, rfl, ⟨rfl, fun _ _ => rfl⟩, ⟨rfl, fun _ _ => rfl⟩, SVle.refl _, trivial⟩ (by omega) ?_
      intro k hk
      have hgl := gathP_le g l ks k hk
      refine good_run 6 (obs := []) (by kernel_rfl) trivial ?_
      refine good_cond (decide ((↑k : Int) < (↑(List.length ks) : Int))) (by kernel_rfl) (fun hc1 => ?_) (fun hc1 => ?_)
      · have hlt : k < ks.length := by simp only [decide_eq_true_eq] at hc1; omega
        have hst := gathP_succ g l ks k hlt
        refine good_run 14 (obs := [(1 : Nat) = (1 : Nat) ∧ (0 : Int) ≤ (↑k : Int) ∧ (↑k : Int) < (↑(List.length ks) : Int)]) (by kernel_rfl) (by (first | omega | assumption | exact ⟨rfl, trivial⟩ | simp only [AllP, inK_iff, roomOK_iff, decide_eq_true_eq, Bool.and_eq_true, Bool.or_eq_true, Bool.not_eq_true', decide_eq_false_iff_not, and_true, true_and]; (first | omega | (and_intros <;> intros <;> (try and_intros) <;> first | omega | assumption | exact trivial)))) ?_
        refine good_call (c := True) (by kernel_rfl) (fun _ => SVles.refl _) (fun _ => s15 (l) (List.getD ks k (0 : Int))) (by kernel_rfl) ?_
        refine good_run 15 (obs := [(3 : Nat) = (3 : Nat) ∧ (0 : Nat) + (3 : Nat) ≤ (3 : Nat), (ofC l (List.getD ks k (0 : Int))).snd = true ∧ True → (0 : Nat) + (3 : Nat) ≤ (3 : Nat)]) (by kernel_rfl) (by (first | omega | assumption | exact ⟨rfl, trivial⟩ | simp only [AllP, inK_iff, roomOK_iff, decide_eq_true_eq, Bool.and_eq_true, Bool.or_eq_true, Bool.not_eq_true', decide_eq_false_iff_not, and_true, true_and]; (first | omega | (and_intros <;> intros <;> (try and_intros) <;> first | omega | assumption | exact trivial)))) ?_
        refine good_call (c := (ofC l (List.getD ks k (0 : Int))).snd = true ∧ True) (by kernel_rfl) (fun _ => SVles.refl _) (fun _ => h (ofC l (ks.getD k 0)).1) (by kernel_rfl) ?_
        refine good_run 5 (obs := []) (by kernel_rfl) trivial ?_
        refine good_cond ((ofC l (List.getD ks k (0 : Int))).snd && !decide (g (ofC l (List.getD ks k (0 : Int))).fst = (0 : Int))) (by kernel_rfl) (fun hc2 => ?_) (fun hc2 => ?_)
        · have hp : pickC g l (ks.getD k 0) = [g (ofC l (ks.getD k 0)).1] := if_pos hc2
          rw [hp] at hst
          refine good_run 4 (obs := [(0 : Nat) + (3 : Nat) ≤ (3 : Nat)]) (by kernel_rfl) (by (first | omega | assumption | exact ⟨rfl, trivial⟩ | simp only [AllP, inK_iff, roomOK_iff, decide_eq_true_eq, Bool.and_eq_true, Bool.or_eq_true, Bool.not_eq_true', decide_eq_false_iff_not, and_true, true_and]; (first | omega | (and_intros <;> intros <;> (try and_intros) <;> first | omega | assumption | exact trivial)))) ?_
          refine good_call (c := True) (by kernel_rfl) (fun _ => SVles.refl _) (fun _ => h (ofC l (ks.getD k 0)).1) (by kernel_rfl) ?_
          refine good_run 11 (obs := [(3 : Nat) = (3 : Nat) ∧ (1 : Nat) = (1 : Nat) ∧ (1 : Nat) = (1 : Nat) ∧ roomOK (List.length (gathP g l ks k) + (1 : Nat)) (8 : Nat), InK IntKind.i64 ((↑k : Int) + (1 : Int))]) (by kernel_rfl) (by (first | omega | assumption | exact ⟨rfl, trivial⟩ | simp only [AllP, inK_iff, roomOK_iff, decide_eq_true_eq, Bool.and_eq_true, Bool.or_eq_true, Bool.not_eq_true', decide_eq_false_iff_not, and_true, true_and]; (first | omega | (and_intros <;> intros <;> (try and_intros) <;> first | omega | assumption | exact trivial)))) ?_
          refine good_backJ (k + 1) [List.length (gathP g l ks k) + (1 : Nat) = List.length (gathP g l ks (k + (1 : Nat))) ∧ ∀ (i : Nat), i < List.length (gathP g l ks k) + (1 : Nat) → joinGet (List.length (gathP g l ks k)) (fun i => [SV.int IntKind.i64 (List.getD (gathP g l ks k) i (0 : Int))]) (cutRows (1 : Nat) [SV.int IntKind.i64 (g (ofC l (List.getD ks k (0 : Int))).fst)]) i = (fun i => [SV.int IntKind.i64 (List.getD (gathP g l ks (k + (1 : Nat))) i (0 : Int))]) i, (↑k : Int) + (1 : Int) = (↑(k + (1 : Nat)) : Int), (↑(List.length ks) : Int) = (↑(List.length ks) : Int), List.length ks = List.length ks ∧ ∀ (i : Nat), i < List.length ks → (fun i => [SV.int IntKind.i64 (List.getD ks i (0 : Int))]) i = (fun i => [SV.int IntKind.i64 (List.getD ks i (0 : Int))]) i, List.length l = List.length l ∧ ∀ (i : Nat), i < List.length l → (fun i => Came.cells (List.getD l i default)) i = (fun i => Came.cells (List.getD l i default)) i, SVle (SV.fn f []) (SV.fn f [])] (by kernel_rfl) (by kernel_rfl) ⟨?_, (by omega), rfl, ⟨rfl, fun _ _ => rfl⟩, ⟨rfl, fun _ _ => rfl⟩, SVle.refl _, trivial⟩ (by omega) (by show _ < _; omega)
          · rw [hst]
            exact row_snoc' (fun x : Int => [SV.int .i64 x]) 0 (gathP g l ks k) (g (ofC l (ks.getD k 0)).1) 1 rfl
        · have hp : pickC g l (ks.getD k 0) = [] := if_neg (by rw [hc2]; decide)
          rw [hp, List.append_nil] at hst
          refine good_run 7 (obs := [InK IntKind.i64 ((↑k : Int) + (1 : Int))]) (by kernel_rfl) (by (first | omega | assumption | exact ⟨rfl, trivial⟩ | simp only [AllP, inK_iff, roomOK_iff, decide_eq_true_eq, Bool.and_eq_true, Bool.or_eq_true, Bool.not_eq_true', decide_eq_false_iff_not, and_true, true_and]; (first | omega | (and_intros <;> intros <;> (try and_intros) <;> first | omega | assumption | exact trivial)))) ?_
          refine good_backJ (k + 1) [List.length (gathP g l ks k) = List.length (gathP g l ks (k + (1 : Nat))) ∧ ∀ (i : Nat), i < List.length (gathP g l ks k) → (fun i => [SV.int IntKind.i64 (List.getD (gathP g l ks k) i (0 : Int))]) i = (fun i => [SV.int IntKind.i64 (List.getD (gathP g l ks (k + (1 : Nat))) i (0 : Int))]) i, (↑k : Int) + (1 : Int) = (↑(k + (1 : Nat)) : Int), (↑(List.length ks) : Int) = (↑(List.length ks) : Int), List.length ks = List.length ks ∧ ∀ (i : Nat), i < List.length ks → (fun i => [SV.int IntKind.i64 (List.getD ks i (0 : Int))]) i = (fun i => [SV.int IntKind.i64 (List.getD ks i (0 : Int))]) i, List.length l = List.length l ∧ ∀ (i : Nat), i < List.length l → (fun i => Came.cells (List.getD l i default)) i = (fun i => Came.cells (List.getD l i default)) i, SVle (SV.fn f []) (SV.fn f [])] (by kernel_rfl) (by kernel_rfl) ⟨?_, (by omega), rfl, ⟨rfl, fun _ _ => rfl⟩, ⟨rfl, fun _ _ => rfl⟩, SVle.refl _, trivial⟩ (by omega) (by show _ < _; omega)
          · rw [hst]
            exact ⟨rfl, fun _ _ => rfl⟩
      · have hge : k = ks.length := by simp only [decide_eq_false_iff_not] at hc1; omega
        subst hge
        have hgt : gathP g l ks ks.length = gathC g l ks := by rw [gathP, List.take_length]; rfl
        rw [hgt] at hgl ⊢
        refine good_run 2 (obs := []) (by kernel_rfl) trivial ?_
        refine good_leaveJ (by kernel_rfl) ?_
        refine good_run 4 (obs := []) (by kernel_rfl) trivial ?_
        refine good_sort (by kernel_rfl) (SVles.refl _) (SVles.refl _) (s55 ((3 : Nat)) (gathC g l ks) (by (first | omega | assumption | exact ⟨rfl, trivial⟩ | simp only [AllP, inK_iff, roomOK_iff, decide_eq_true_eq, Bool.and_eq_true, Bool.or_eq_true, Bool.not_eq_true', decide_eq_false_iff_not, and_true, true_and]; (first | omega | (and_intros <;> intros <;> (try and_intros) <;> first | omega | assumption | exact trivial))))) ?_
        refine good_run 5 (obs := []) (by kernel_rfl) trivial ?_
        refine good_take (by kernel_rfl) (SVles.refl _) (SVles.refl _) (s72n (isort (gathC g l ks)) (gathC g l ks).length (isort_length _) (by omega)) ?_
        refine good_run 5 (obs := []) (by kernel_rfl) trivial ?_
        refine good_fin [List.length (compactI (isort (gathC g l ks))) = List.length (compactI (isort (gathC g l ks)), (0 : Int)).fst ∧ ∀ (i : Nat), i < List.length (compactI (isort (gathC g l ks))) → (fun i => [SV.int IntKind.i64 (List.getD (compactI (isort (gathC g l ks))) i (0 : Int))]) i = (fun i => [SV.int IntKind.i64 (List.getD (compactI (isort (gathC g l ks)), (0 : Int)).fst i (0 : Int))]) i, (0 : Int) = (0 : Int)] (by kernel_rfl) ⟨⟨rfl, fun _ _ => rfl⟩, rfl, trivial⟩
end Go.Sx.T
