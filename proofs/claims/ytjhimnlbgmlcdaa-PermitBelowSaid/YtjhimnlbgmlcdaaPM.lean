/- Contracts of functions of the program, each proved by running its code symbolically (PM). -/
import Derived.Test.YtjhimnlbgmlcdaaPF
namespace Go.Sx.T
open Go Go.Proofs Go.Sx
set_option maxRecDepth 100000
set_option maxHeartbeats 4000000
set_option linter.unusedVariables false
set_option linter.unusedSimpArgs false
theorem s45 (n : Int) (h0 : 0 ≤ n) (h1 : n ≤ 100000) : SpecOwn Try.prog 45 [.val (.slice none 0 0), .int .i64 n] 3 1 0 fun _ => [] := by
  refine specOwn_of_good mixed Try.func45 F45_ok (by kernel_rfl) ?_
  refine good_run 12 (obs := []) (by kernel_rfl) trivial ?_
  refine good_cond (decide (n < (0 : Int))) (by kernel_rfl) (fun hc1 => ?_) (fun hc1 => ?_)
  · simp only [decide_eq_true_eq] at hc1; omega
  · refine good_run 20 (obs := [True, InK IntKind.i64 ((0 : Int) - (0 : Int)), InK IntKind.i64 (n - ((0 : Int) - (0 : Int)))]) (by kernel_rfl) (by (first | omega | assumption | exact ⟨rfl, trivial⟩ | simp only [AllP, inK_iff, roomOK_iff, decide_eq_true_eq, Bool.and_eq_true, Bool.or_eq_true, Bool.not_eq_true', decide_eq_false_iff_not, and_true, true_and]; omega)) ?_
    refine good_cond (decide ((0 : Int) < n - ((0 : Int) - (0 : Int)))) (by kernel_rfl) (fun hc2 => ?_) (fun hc2 => ?_)
    · simp only [decide_eq_true_eq] at hc2
      refine good_run 20 (obs := [True, (0 : Int) = (0 : Int) ∧ (0 : Int) = (0 : Int), (0 : Int) < n - ((0 : Int) - (0 : Int)) ∧ roomOK (Int.toNat (n - ((0 : Int) - (0 : Int)))) (8 : Nat), (1 : Nat) = (1 : Nat) ∧ (0 : Int) ≤ (0 : Int) ∧ (0 : Int) ≤ (0 : Int) ∧ (0 : Nat) + (0 : Nat) ≤ Int.toNat (n - ((0 : Int) - (0 : Int)))]) (by kernel_rfl) (by (first | omega | assumption | exact ⟨rfl, trivial⟩ | simp only [AllP, inK_iff, roomOK_iff, decide_eq_true_eq, Bool.and_eq_true, Bool.or_eq_true, Bool.not_eq_true', decide_eq_false_iff_not, and_true, true_and]; omega)) ?_
      refine good_finOwn [(0 : Nat) + (0 : Nat) = (0 : Nat) ∧ (0 : Nat) ≤ Int.toNat (n - ((0 : Int) - (0 : Int))) ∧ ∀ (j : Nat), j < (0 : Nat) → (fun x => List.map SV.val [Value.int IntKind.i64 (Int.ofNat (0 : Nat))]) j = (fun x => []) j] (by kernel_rfl) ⟨?_, trivial⟩
      exact ⟨rfl, Nat.zero_le _, fun j hj => by omega⟩
    · refine good_run 8 (obs := []) (by kernel_rfl) trivial ?_
      refine good_finOwn [(0 : Nat) = (0 : Nat)] (by kernel_rfl) ⟨rfl, trivial⟩
def lists (ll : List (List Int)) : SV := .lst 1 ll.length fun i => [ints (ll.getD i [])]
theorem flatten_take (ll : List (List Int)) (k : Nat) (hk : k < ll.length) : (ll.take (k + 1)).flatten = (ll.take k).flatten ++ ll.getD k [] := by
  rw [List.take_add_one, List.flatten_append]
  simp [List.getD, hk]
theorem flatten_le (ll : List (List Int)) (k : Nat) : (ll.take k).flatten.length ≤ ll.flatten.length := by
  conv => rhs; rw [← List.take_append_drop k ll]
  rw [List.flatten_append, List.length_append]; omega
theorem s28 (ll : List (List Int)) (h : ll.flatten.length ≤ 100000) (h2 : ll.length ≤ 100000) : SpecOwn Try.prog 28 [lists ll] 3 1 ll.flatten.length fun i => [.int .i64 (ll.flatten.getD i 0)] := by
  refine specOwn_of_good mixed Try.func28 F28_ok (by kernel_rfl) ?_
  refine good_run 19 (obs := []) (by kernel_rfl) trivial ?_
  refine good_loopJ (fun k : Nat => ⟨[(0, .sv (lists ll)), (9, .sv (lists ll)), (10, .sv (.int .i64 ll.length)), (11, .sv (.int .i64 k)), (3, .sv (.int .i64 (ll.take k).flatten.length))], []⟩) (fun k => k ≤ ll.length) (fun k => ll.length - k) (0) [List.length ll = List.length ll ∧ ∀ (i : Nat), i < List.length ll → (fun i => [ints (List.getD ll i [])]) i = (fun i => [ints (List.getD ll i [])]) i, List.length ll = List.length ll ∧ ∀ (i : Nat), i < List.length ll → (fun i => [ints (List.getD ll i [])]) i = (fun i => [ints (List.getD ll i [])]) i, (↑(List.length ll) : Int) = (↑(List.length ll) : Int), (0 : Int) = (0 : Int), (0 : Int) = (0 : Int)] (by kernel_rfl) (by kernel_rfl) ⟨⟨rfl, fun _ _ => rfl⟩, ⟨rfl, fun _ _ => rfl⟩, rfl, rfl, rfl, trivial⟩ ?_ ?_
  · exact Nat.zero_le _
  · intro k hk
    refine good_run 6 (obs := []) (by kernel_rfl) trivial ?_
    refine good_cond (decide ((↑k : Int) < (↑(List.length ll) : Int))) (by kernel_rfl) (fun hc1 => ?_) (fun hc1 => ?_)
    · simp only [decide_eq_true_eq] at hc1
      have hkl : k < ll.length := by omega
      have e1 := flatten_take ll k hkl
      have e2 := flatten_le ll (k + 1)
      have e3 : (ll.take (k + 1)).flatten.length = (ll.take k).flatten.length + (ll.getD k []).length := by rw [e1, List.length_append]
      refine good_run 25 (obs := [(1 : Nat) = (1 : Nat) ∧ (0 : Int) ≤ (↑k : Int) ∧ (↑k : Int) < (↑(List.length ll) : Int), InK IntKind.i64 ((↑(List.length (List.flatten (List.take k ll))) : Int) + (↑(List.length (List.getD ll k [])) : Int))]) (by kernel_rfl) (by (first | omega | assumption | exact ⟨rfl, trivial⟩ | simp only [AllP, inK_iff, roomOK_iff, decide_eq_true_eq, Bool.and_eq_true, Bool.or_eq_true, Bool.not_eq_true', decide_eq_false_iff_not, and_true, true_and]; omega)) ?_
      refine good_cond (decide ((↑(List.length (List.flatten (List.take k ll))) : Int) + (↑(List.length (List.getD ll k [])) : Int) < (0 : Int))) (by kernel_rfl) (fun hc2 => ?_) (fun hc2 => ?_)
      · simp only [decide_eq_true_eq] at hc2; omega
      · refine good_run 7 (obs := [InK IntKind.i64 ((↑k : Int) + (1 : Int))]) (by kernel_rfl) (by (first | omega | assumption | exact ⟨rfl, trivial⟩ | simp only [AllP, inK_iff, roomOK_iff, decide_eq_true_eq, Bool.and_eq_true, Bool.or_eq_true, Bool.not_eq_true', decide_eq_false_iff_not, and_true, true_and]; omega)) ?_
        refine good_backJ (k + 1) [List.length ll = List.length ll ∧ ∀ (i : Nat), i < List.length ll → (fun i => [ints (List.getD ll i [])]) i = (fun i => [ints (List.getD ll i [])]) i, List.length ll = List.length ll ∧ ∀ (i : Nat), i < List.length ll → (fun i => [ints (List.getD ll i [])]) i = (fun i => [ints (List.getD ll i [])]) i, (↑(List.length ll) : Int) = (↑(List.length ll) : Int), (↑k : Int) + (1 : Int) = (↑(k + (1 : Nat)) : Int), (↑(List.length (List.flatten (List.take k ll))) : Int) + (↑(List.length (List.getD ll k [])) : Int) = (↑(List.length (List.flatten (List.take (k + (1 : Nat)) ll))) : Int)] (by kernel_rfl) (by kernel_rfl) ⟨⟨rfl, fun _ _ => rfl⟩, ⟨rfl, fun _ _ => rfl⟩, rfl, (by omega), (by omega), trivial⟩ ?_ ?_
        · exact hkl
        · show _ < _; omega
    · simp only [decide_eq_false_iff_not] at hc1
      have hkl : k = ll.length := by omega
      subst hkl
      rw [List.take_length]
      refine good_run 2 (obs := []) (by kernel_rfl) trivial ?_
      refine good_leaveJ (by kernel_rfl) ?_
      refine good_run 4 (obs := []) (by kernel_rfl) trivial ?_
      refine good_own (c := True) (by kernel_rfl) (by kernel_rfl) (SVles.refl _) (s45 ((↑(List.length (List.flatten ll)) : Int)) (by (first | omega | assumption | exact ⟨rfl, trivial⟩ | simp only [AllP, inK_iff, roomOK_iff, decide_eq_true_eq, Bool.and_eq_true, Bool.or_eq_true, Bool.not_eq_true', decide_eq_false_iff_not, and_true, true_and]; omega)) (by (first | omega | assumption | exact ⟨rfl, trivial⟩ | simp only [AllP, inK_iff, roomOK_iff, decide_eq_true_eq, Bool.and_eq_true, Bool.or_eq_true, Bool.not_eq_true', decide_eq_false_iff_not, and_true, true_and]; omega))) ?_
      refine good_run 12 (obs := []) (by kernel_rfl) trivial ?_
      refine good_loopJ (fun k : Nat => ⟨[(0, .sv (lists ll)), (25, .sv (lists ll)), (26, .sv (.int .i64 ll.length)), (27, .sv (.int .i64 k)), (6, .own 0)], [.row 3 1 (ll.take k).flatten.length true fun i => [.int .i64 ((ll.take k).flatten.getD i 0)]]⟩) (fun k => k ≤ ll.length) (fun k => ll.length - k) (0) [(0 : Nat) = (0 : Nat) ∧ ∀ (i : Nat), i < (0 : Nat) → (fun x => []) i = (fun i => [SV.int IntKind.i64 (List.getD (List.flatten (List.take (0 : Nat) ll)) i (0 : Int))]) i, List.length ll = List.length ll ∧ ∀ (i : Nat), i < List.length ll → (fun i => [ints (List.getD ll i [])]) i = (fun i => [ints (List.getD ll i [])]) i, List.length ll = List.length ll ∧ ∀ (i : Nat), i < List.length ll → (fun i => [ints (List.getD ll i [])]) i = (fun i => [ints (List.getD ll i [])]) i, (↑(List.length ll) : Int) = (↑(List.length ll) : Int), (0 : Int) = (0 : Int)] (by kernel_rfl) (by kernel_rfl) ⟨?_, ⟨rfl, fun _ _ => rfl⟩, ⟨rfl, fun _ _ => rfl⟩, rfl, rfl, trivial⟩ ?_ ?_
      · exact ⟨rfl, fun j hj => by omega⟩
      · exact Nat.zero_le _
      · intro k hk
        refine good_run 6 (obs := []) (by kernel_rfl) trivial ?_
        refine good_cond (decide ((↑k : Int) < (↑(List.length ll) : Int))) (by kernel_rfl) (fun hc2 => ?_) (fun hc2 => ?_)
        · simp only [decide_eq_true_eq] at hc2
          have hkl : k < ll.length := by omega
          have e1 := flatten_take ll k hkl
          have e2 := flatten_le ll (k + 1)
          have e3 : (ll.take (k + 1)).flatten.length = (ll.take k).flatten.length + (ll.getD k []).length := by rw [e1, List.length_append]
          refine good_run 23 (obs := [(1 : Nat) = (1 : Nat) ∧ (0 : Int) ≤ (↑k : Int) ∧ (↑k : Int) < (↑(List.length ll) : Int), (3 : TypeId) = (3 : TypeId) ∧ (1 : Nat) = (1 : Nat) ∧ (1 : Nat) = (1 : Nat) ∧ roomOK (List.length (List.flatten (List.take k ll)) + List.length (List.getD ll k [])) (8 : Nat), InK IntKind.i64 ((↑k : Int) + (1 : Int))]) (by kernel_rfl) (by (first | omega | assumption | exact ⟨rfl, trivial⟩ | simp only [AllP, inK_iff, roomOK_iff, decide_eq_true_eq, Bool.and_eq_true, Bool.or_eq_true, Bool.not_eq_true', decide_eq_false_iff_not, and_true, true_and]; omega)) ?_
          refine good_backJ (k + 1) [List.length (List.flatten (List.take k ll)) + List.length (List.getD ll k []) = List.length (List.flatten (List.take (k + (1 : Nat)) ll)) ∧ ∀ (i : Nat), i < List.length (List.flatten (List.take k ll)) + List.length (List.getD ll k []) → joinGet (List.length (List.flatten (List.take k ll))) (fun i => [SV.int IntKind.i64 (List.getD (List.flatten (List.take k ll)) i (0 : Int))]) (fun i => [SV.int IntKind.i64 (List.getD (List.getD ll (Int.toNat (↑k : Int)) []) i (0 : Int))]) i = (fun i => [SV.int IntKind.i64 (List.getD (List.flatten (List.take (k + (1 : Nat)) ll)) i (0 : Int))]) i, List.length ll = List.length ll ∧ ∀ (i : Nat), i < List.length ll → (fun i => [ints (List.getD ll i [])]) i = (fun i => [ints (List.getD ll i [])]) i, List.length ll = List.length ll ∧ ∀ (i : Nat), i < List.length ll → (fun i => [ints (List.getD ll i [])]) i = (fun i => [ints (List.getD ll i [])]) i, (↑(List.length ll) : Int) = (↑(List.length ll) : Int), (↑k : Int) + (1 : Int) = (↑(k + (1 : Nat)) : Int)] (by kernel_rfl) (by kernel_rfl) ⟨?_, ⟨rfl, fun _ _ => rfl⟩, ⟨rfl, fun _ _ => rfl⟩, rfl, (by omega), trivial⟩ ?_ ?_
          · refine ⟨e3.symm, fun i hi => ?_⟩
            rw [e1]
            unfold joinGet
            split
            · rename_i hlt; simp [List.getD, List.getElem?_append_left hlt]
            · rename_i hge; simp [List.getD, List.getElem?_append_right (Nat.le_of_not_lt hge)]
          · exact hkl
          · show _ < _; omega
        · simp only [decide_eq_false_iff_not] at hc2
          have hkl : k = ll.length := by omega
          subst hkl
          refine good_run 2 (obs := []) (by kernel_rfl) trivial ?_
          refine good_leaveJ (by kernel_rfl) ?_
          refine good_run 8 (obs := []) (by kernel_rfl) trivial ?_
          refine good_finOwn [List.length (List.flatten (List.take (List.length ll) ll)) = List.length (List.flatten ll) ∧ ∀ (j : Nat), j < List.length (List.flatten ll) → (fun i => [SV.int IntKind.i64 (List.getD (List.flatten (List.take (List.length ll) ll)) i (0 : Int))]) j = (fun i => [SV.int IntKind.i64 (List.getD (List.flatten ll) i (0 : Int))]) j] (by kernel_rfl) ⟨?_, trivial⟩
          rw [List.take_length]
          exact ⟨rfl, fun _ _ => rfl⟩
end Go.Sx.T
namespace Go.Sx.T
open Go Go.Proofs Go.Sx
set_option maxRecDepth 100000
set_option maxHeartbeats 4000000
set_option linter.unusedVariables false
set_option linter.unusedSimpArgs false
theorem two_lists (a b : List Int) : SVles [.lst 1 2 (cutRows 1 [ints a, ints b])] [lists [a, b]] := by
  refine ⟨svle_lst rfl fun i hi => ?_, trivial⟩
  match i, hi with
  | 0, _ => exact SVles.refl _
  | 1, _ => exact SVles.refl _
theorem s8 (p : Permit) (reader : Int) (path : List Int) (kind day : Int) (below : List Int) : Spec Try.prog 8 [p.sv, asked reader path kind day, ints below] (.bool true) := by
  refine spec_of_good mixed Try.func8 F8_ok (by kernel_rfl) ?_
  refine good_run 10 (obs := []) (by kernel_rfl) trivial ?_
  refine good_call (c := True) (by kernel_rfl) (fun _ => SVles.refl _) (fun _ => s11) (by kernel_rfl) ?_
  refine good_run 3 (obs := []) (by kernel_rfl) trivial ?_
  refine good_cond false (by kernel_rfl) (fun h => nomatch h) (fun _ => ?_)
  refine good_run 18 (obs := [(decide ((20 : Int) < (↑(List.length path) : Int)) || decide ((20 : Int) < (↑(List.length below) : Int))) = false ∧ True → (0 : Nat) + (6 : Nat) ≤ (6 : Nat), (decide ((20 : Int) < (↑(List.length path) : Int)) || decide ((20 : Int) < (↑(List.length below) : Int))) = false ∧ True → (0 : Nat) + (4 : Nat) ≤ (4 : Nat)]) (by kernel_rfl) (by (first | omega | assumption | exact ⟨rfl, trivial⟩ | simp only [AllP, inK_iff, roomOK_iff, decide_eq_true_eq, Bool.and_eq_true, Bool.or_eq_true, Bool.not_eq_true', decide_eq_false_iff_not, and_true, true_and]; omega)) ?_
  refine good_call (c := (decide ((20 : Int) < (↑(List.length path) : Int)) || decide ((20 : Int) < (↑(List.length below) : Int))) = false ∧ True) (by kernel_rfl) (fun _ => SVles.refl _) (fun _ => SpecOwn.spec (s14 (reader) (path) (kind) (day) ?_)) (by kernel_rfl) ?_
  · simp only [Bool.or_eq_false_iff, decide_eq_false_iff_not] at *
    omega
  · refine good_run 4 (obs := []) (by kernel_rfl) trivial ?_
    refine good_call (c := (decide ((20 : Int) < (↑(List.length path) : Int)) || decide ((20 : Int) < (↑(List.length below) : Int))) = false ∧ True) (by kernel_rfl) (fun _ => SVles.refl _) (fun _ => s13 (p) (reader) (path) (kind) (day)) (by kernel_rfl) ?_
    refine good_run 4 (obs := []) (by kernel_rfl) trivial ?_
    refine good_cond (decide ((20 : Int) < (↑(List.length path) : Int)) || decide ((20 : Int) < (↑(List.length below) : Int)) || !coversB p reader path kind day) (by kernel_rfl) (fun hc1 => ?_) (fun hc1 => ?_)
    · refine good_run 7 (obs := []) (by kernel_rfl) trivial ?_
      refine good_fin [true = true] (by kernel_rfl) ⟨rfl, trivial⟩
    · simp only [Bool.or_eq_false_iff, decide_eq_false_iff_not, Bool.not_eq_false'] at hc1
      obtain ⟨⟨h1, h2⟩, h3⟩ := hc1
      refine good_run 10 (obs := [True → (0 : Nat) + (6 : Nat) ≤ (6 : Nat)]) (by kernel_rfl) (by (first | omega | assumption | exact ⟨rfl, trivial⟩ | simp only [AllP, inK_iff, roomOK_iff, decide_eq_true_eq, Bool.and_eq_true, Bool.or_eq_true, Bool.not_eq_true', decide_eq_false_iff_not, and_true, true_and]; omega)) ?_
      refine good_call (c := True) (by kernel_rfl) (fun _ => two_lists below path) (fun _ => (s28 [below, path] (by simp; omega) (by simp)).spec) (by kernel_rfl) ?_
      refine good_run 4 (obs := []) (by kernel_rfl) trivial ?_
      refine good_call (c := True) (by kernel_rfl) (fun _ => SVles.refl _) (fun _ => s13 (p) (reader) (List.flatten [below, path]) (kind) (day)) (by kernel_rfl) ?_
      refine good_run 5 (obs := []) (by kernel_rfl) trivial ?_
      refine good_call (c := coversB p reader (List.flatten [below, path]) kind day = true ∧ True) (by kernel_rfl) (fun _ => SVles.refl _) (fun _ => s29 (path) (p.Unit)) (by kernel_rfl) ?_
      refine good_run 5 (obs := []) (by kernel_rfl) trivial ?_
      refine good_fin [(coversB p reader (List.flatten [below, path]) kind day && inB path p.Unit) = true] (by kernel_rfl) ⟨?_, trivial⟩
      have hin : inB path p.Unit = true := by
        simp only [coversB, openB, Bool.and_eq_true] at h3
        exact h3.1.2.1.1.2
      have hin2 : inB [below, path].flatten p.Unit = true := by
        simp only [inB, decide_eq_true_eq] at hin ⊢
        simp [hin]
      have : coversB p reader [below, path].flatten kind day = true := by
        simp only [coversB, openB, Bool.and_eq_true] at h3 ⊢
        exact ⟨⟨h3.1.1, ⟨⟨h3.1.2.1.1.1, hin2⟩, h3.1.2.1.2⟩, h3.1.2.2⟩, h3.2⟩
      rw [this, hin]; rfl
end Go.Sx.T
