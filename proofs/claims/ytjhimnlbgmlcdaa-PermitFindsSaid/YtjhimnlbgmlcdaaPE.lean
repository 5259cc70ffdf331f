/- Contracts of functions of the program, each proved by running its code symbolically (PE). -/
import Derived.Test.YtjhimnlbgmlcdaaPD
import Derived.Test.YtjhimnlbgmlcdaaSx4
namespace Go.Sx.T
open Go Go.Proofs Go.Sx
set_option maxRecDepth 100000
set_option maxHeartbeats 4000000
set_option linter.unusedVariables false
set_option linter.unusedSimpArgs false
theorem del_get (n i j : Nat) (hij : i ≤ j) (hj : j ≤ n) (z : Nat → List SV) (get : Nat → List SV) (k : Nat) (hk : k < n - (j - i)) :
    spliceGet (i + (n - j)) (n - (i + (n - j))) z (spliceGet i (n - j) (fun k => get (j + k)) get) k = if k < i then get k else get (k + (j - i)) := by
  unfold spliceGet
  rw [if_neg (by omega)]
  by_cases h : k < i
  · rw [if_neg (by omega), if_pos h]
  · rw [if_pos (by omega), if_neg h]
    show get (j + (k - i)) = _
    congr 1; omega
theorem t43 (n : Nat) (get : Nat → List SV) (i j : Nat) (hij : i ≤ j) (hj : j ≤ n) : SpecTake Try.prog 43 [] 31 6 n get [.int .i64 i, .int .i64 j] (n - (j - i)) fun k => if k < i then get k else get (k + (j - i)) := by
  refine specTake_of_good mixed Try.func43 F43_ok (by kernel_rfl) ?_
  refine good_run 23 (obs := [(6 : Nat) = (6 : Nat) ∧ (0 : Int) ≤ (↑i : Int) ∧ (↑i : Int) ≤ (↑j : Int) ∧ (↑j : Int) ≤ (↑n : Int) ∧ (0 : Nat) + n ≤ n]) (by kernel_rfl) (by (first | omega | assumption | exact ⟨rfl, trivial⟩ | simp only [AllP, inK_iff, roomOK_iff, decide_eq_true_eq, Bool.and_eq_true, Bool.or_eq_true, Bool.not_eq_true', decide_eq_false_iff_not, and_true, true_and]; (first | omega | (and_intros <;> intros <;> (try and_intros) <;> first | omega | assumption | exact trivial)))) ?_
  refine good_cond (decide ((↑i : Int) = (↑j : Int))) (by kernel_rfl) (fun hc1 => ?_) (fun hc1 => ?_)
  · have e : i = j := by simp at hc1; omega
    subst e
    refine good_run 8 (obs := []) (by kernel_rfl) trivial ?_
    refine good_finTake [n = n - (i - i) ∧ ∀ (j : Nat), j < n - (i - i) → get j = (fun k => if k < i then get k else get (k + (i - i))) j] (by kernel_rfl) ⟨?_, trivial⟩
    refine ⟨by omega, fun k hk => ?_⟩
    simp
  · refine good_run 38 (obs := [True → (6 : Nat) = (6 : Nat) ∧ (0 : Int) ≤ (0 : Int) ∧ (0 : Int) ≤ (↑i : Int) ∧ (0 : Nat) + i ≤ n, True → (6 : Nat) = (6 : Nat) ∧ (0 : Int) ≤ (↑j : Int) ∧ (↑j : Int) ≤ (↑(n - (0 : Nat)) : Int) ∧ (0 : Nat) + (n - (0 : Nat)) ≤ n, (0 : Nat) = (0 : Nat) ∧ (31 : Nat) = (31 : Nat) ∧ (6 : Nat) = (6 : Nat) ∧ (0 : Nat) + i + ((0 : Nat) + (n - (0 : Nat)) - ((0 : Nat) + j)) ≤ n, (6 : Nat) = (6 : Nat) ∧ (0 : Int) ≤ (↑((0 : Nat) + i + ((0 : Nat) + (n - (0 : Nat)) - ((0 : Nat) + j)) - (0 : Nat)) : Int) ∧ (↑((0 : Nat) + i + ((0 : Nat) + (n - (0 : Nat)) - ((0 : Nat) + j)) - (0 : Nat)) : Int) ≤ (↑n : Int) ∧ (0 : Nat) + n ≤ n, (6 : Nat) = (6 : Nat)]) (by kernel_rfl) (by (first | omega | assumption | exact ⟨rfl, trivial⟩ | simp only [AllP, inK_iff, roomOK_iff, decide_eq_true_eq, Bool.and_eq_true, Bool.or_eq_true, Bool.not_eq_true', decide_eq_false_iff_not, and_true, true_and]; (first | omega | (and_intros <;> intros <;> (try and_intros) <;> first | omega | assumption | exact trivial)))) ?_
    refine good_finTake [(0 : Nat) + i + ((0 : Nat) + (n - (0 : Nat)) - ((0 : Nat) + j)) = n - (j - i) ∧ n - (j - i) ≤ n ∧ ∀ (j_1 : Nat), j_1 < n - (j - i) → spliceGet ((0 : Nat) + ((0 : Nat) + i + ((0 : Nat) + (n - (0 : Nat)) - ((0 : Nat) + j)) - (0 : Nat))) ((0 : Nat) + n - ((0 : Nat) + ((0 : Nat) + i + ((0 : Nat) + (n - (0 : Nat)) - ((0 : Nat) + j)) - (0 : Nat)))) (fun x => List.map SV.val [Value.int IntKind.i64 (Int.ofNat (0 : Nat)), Value.int IntKind.i64 (Int.ofNat (0 : Nat)), Value.int IntKind.i64 (Int.ofNat (0 : Nat)), Value.int IntKind.i64 (Int.ofNat (0 : Nat)), Value.int IntKind.i64 (Int.ofNat (0 : Nat)), Value.int IntKind.i64 (Int.ofNat (0 : Nat))]) (spliceGet ((0 : Nat) + i) ((0 : Nat) + (n - (0 : Nat)) - ((0 : Nat) + j)) (fun j_2 => get ((0 : Nat) + j + j_2)) get) j_1 = (fun k => if k < i then get k else get (k + (j - i))) j_1] (by kernel_rfl) ⟨?_, trivial⟩
    refine ⟨by omega, by omega, fun k hk => ?_⟩
    have := del_get n i j hij hj (fun x => List.map SV.val [Value.int IntKind.i64 (Int.ofNat (0 : Nat)), Value.int IntKind.i64 (Int.ofNat (0 : Nat)), Value.int IntKind.i64 (Int.ofNat (0 : Nat)), Value.int IntKind.i64 (Int.ofNat (0 : Nat)), Value.int IntKind.i64 (Int.ofNat (0 : Nat)), Value.int IntKind.i64 (Int.ofNat (0 : Nat))]) get k hk
    simpa using this
theorem s43 (n : Nat) (get : Nat → List SV) (a b : Int) (h0 : 0 ≤ a) (h1 : a ≤ b) (h2 : b ≤ n) : SpecTake Try.prog 43 [] 31 6 n get [.int .i64 a, .int .i64 b] (n - (b.toNat - a.toNat)) fun k => if k < a.toNat then get k else get (k + (b.toNat - a.toNat)) := by
  have := t43 n get a.toNat b.toNat (by omega) (by omega)
  rwa [Int.toNat_of_nonneg h0, Int.toNat_of_nonneg (by omega)] at this
def Permit.until (p : Permit) (day : Int) : Permit := { p with Until := day }
def revoked (l : List Permit) (id day : Int) : List Permit × Int :=
  if check l ≠ 0 then ([], 1) else match l.findIdx? (fun p => decide (p.ID = id)) with
  | none => ([], 7)
  | some i => if day < 0 ∨ 1048575 < day then ([], 2) else if (l.getD i default).Until ≤ day then ([], 11)
    else if day ≤ (l.getD i default).From then (l.eraseIdx i, 0) else (l.set i ((l.getD i default).until day), 0)
theorem findI_idx (l : List Permit) (g : Permit → Bool) : (findI l g = -1 ∧ l.findIdx? g = none) ∨ ∃ k : Nat, k < l.length ∧ findI l g = k ∧ l.findIdx? g = some k := by
  rcases h : l.findIdx? g with _ | k
  · left; exact ⟨by rw [findI, h], rfl⟩
  · right
    have h' := h
    rw [List.findIdx?_eq_some_iff_getElem] at h'
    exact ⟨k, h'.1, by rw [findI, h], rfl⟩
theorem s21 (l : List Permit) (id day : Int) : Spec Try.prog 21 [permits l, .int .i64 id, .int .i64 day] (.tup [permits (revoked l id day).1, .int .i64 (revoked l id day).2]) := by
  refine spec_of_good mixed Try.func21 F21_ok (by kernel_rfl) ?_
  have hf := findI_idx l (fun p => decide (p.ID = id))
  refine good_run 11 (obs := []) (by kernel_rfl) trivial ?_
  refine good_call (c := True) (by kernel_rfl) (fun _ => SVles.refl _) (fun _ => s16 (l)) (by kernel_rfl) ?_
  refine good_run 3 (obs := []) (by kernel_rfl) trivial ?_
  refine good_cond (!decide (check l = (0 : Int))) (by kernel_rfl) (fun hc1 => ?_) (fun hc1 => ?_)
  · have : revoked l id day = ([], 1) := by
      rw [revoked]; simp at hc1; simp [hc1]
    rw [this]
    refine good_run 8 (obs := []) (by kernel_rfl) trivial ?_
    refine good_fin [(0 : Nat) = (0 : Nat), (1 : Int) = (1 : Int)] (by kernel_rfl) ⟨rfl, rfl, trivial⟩
  · have hc : check l = 0 := by simpa using hc1
    have hl := check_len hc
    refine good_run 5 (obs := []) (by kernel_rfl) trivial ?_
    refine good_call (c := True) (by kernel_rfl) (fun _ => SVles.refl _) (fun _ => s41 l 42 [.ref [.int .i64 id] 0] (fun p => decide (p.ID = id)) (fun p => s42 p id)) (by kernel_rfl) ?_
    refine good_run 12 (obs := []) (by kernel_rfl) trivial ?_
    refine good_cond (decide ((findI l fun p => decide (p.ID = id)) < (0 : Int))) (by kernel_rfl) (fun hc2 => ?_) (fun hc2 => ?_)
    · have : revoked l id day = ([], 7) := by
        rcases hf with hf | ⟨k, hk, hf, _⟩
        · rw [revoked, hf.2]; simp [hc]
        · rw [hf] at hc2; simp at hc2; omega
      rw [this]
      refine good_run 9 (obs := []) (by kernel_rfl) trivial ?_
      refine good_fin [(0 : Nat) = (0 : Nat), (7 : Int) = (7 : Int)] (by kernel_rfl) ⟨rfl, rfl, trivial⟩
    · rcases hf with hf | ⟨k, hk, hf, hf2⟩
      · rw [hf.1] at hc2; simp at hc2
      · rw [hf]
        refine good_run 11 (obs := []) (by kernel_rfl) trivial ?_
        refine good_cond (decide (day < (0 : Int)) || decide ((1048575 : Int) < day)) (by kernel_rfl) (fun hc3 => ?_) (fun hc3 => ?_)
        · have : revoked l id day = ([], 2) := by
            simp only [Bool.or_eq_true, decide_eq_true_eq] at hc3
            rw [revoked, hf2]; simp [hc]; omega
          rw [this]
          refine good_run 9 (obs := []) (by kernel_rfl) trivial ?_
          refine good_fin [(0 : Nat) = (0 : Nat), (2 : Int) = (2 : Int)] (by kernel_rfl) ⟨rfl, rfl, trivial⟩
        · have hd : ¬ (day < 0 ∨ 1048575 < day) := by
            simp only [Bool.or_eq_false_iff, decide_eq_false_iff_not] at hc3; omega
          refine good_run 13 (obs := [(6 : Nat) = (6 : Nat) ∧ (0 : Int) ≤ (↑k : Int) ∧ (↑k : Int) < (↑(List.length l) : Int)]) (by kernel_rfl) (by (first | omega | assumption | exact ⟨rfl, trivial⟩ | simp only [AllP, inK_iff, roomOK_iff, decide_eq_true_eq, Bool.and_eq_true, Bool.or_eq_true, Bool.not_eq_true', decide_eq_false_iff_not, and_true, true_and]; (first | omega | (and_intros <;> intros <;> (try and_intros) <;> first | omega | assumption | exact trivial)))) ?_
          refine good_cond (decide ((List.getD l k default).Until ≤ day)) (by kernel_rfl) (fun hc4 => ?_) (fun hc4 => ?_)
          · simp only [Int.toNat_natCast, decide_eq_true_eq] at hc4
            have : revoked l id day = ([], 11) := by
              rw [revoked, hf2]; simp only [hc]; rw [if_neg (by simp), if_neg hd, if_pos hc4]
            rw [this]
            refine good_run 9 (obs := []) (by kernel_rfl) trivial ?_
            refine good_fin [(0 : Nat) = (0 : Nat), (11 : Int) = (11 : Int)] (by kernel_rfl) ⟨rfl, rfl, trivial⟩
          · simp only [Int.toNat_natCast, decide_eq_false_iff_not] at hc4
            refine good_run 5 (obs := []) (by kernel_rfl) trivial ?_
            refine good_own (c := True) (by kernel_rfl) (by kernel_rfl) (SVles.refl _) (s17 (l) (by (first | omega | assumption | exact ⟨rfl, trivial⟩ | simp only [AllP, inK_iff, roomOK_iff, decide_eq_true_eq, Bool.and_eq_true, Bool.or_eq_true, Bool.not_eq_true', decide_eq_false_iff_not, and_true, true_and]; (first | omega | (and_intros <;> intros <;> (try and_intros) <;> first | omega | assumption | exact trivial))))) ?_
            refine good_run 16 (obs := [(6 : Nat) = (6 : Nat) ∧ (0 : Int) ≤ (↑k : Int) ∧ (↑k : Int) < (↑(List.length l) : Int)]) (by kernel_rfl) (by (first | omega | assumption | exact ⟨rfl, trivial⟩ | simp only [AllP, inK_iff, roomOK_iff, decide_eq_true_eq, Bool.and_eq_true, Bool.or_eq_true, Bool.not_eq_true', decide_eq_false_iff_not, and_true, true_and]; (first | omega | (and_intros <;> intros <;> (try and_intros) <;> first | omega | assumption | exact trivial)))) ?_
            refine good_cond (decide (day ≤ (List.getD l k default).From)) (by kernel_rfl) (fun hc5 => ?_) (fun hc5 => ?_)
            · simp only [decide_eq_true_eq] at hc5
              have : revoked l id day = (l.eraseIdx k, 0) := by
                rw [revoked, hf2]; simp only [hc]; rw [if_neg (by simp), if_neg hd, if_neg hc4, if_pos hc5]
              rw [this]
              refine good_run 6 (obs := [InK IntKind.i64 ((↑k : Int) + (1 : Int))]) (by kernel_rfl) (by (first | omega | assumption | exact ⟨rfl, trivial⟩ | simp only [AllP, inK_iff, roomOK_iff, decide_eq_true_eq, Bool.and_eq_true, Bool.or_eq_true, Bool.not_eq_true', decide_eq_false_iff_not, and_true, true_and]; (first | omega | (and_intros <;> intros <;> (try and_intros) <;> first | omega | assumption | exact trivial)))) ?_
              refine good_take (by kernel_rfl) (SVles.refl _) (SVles.refl _) (s43 (List.length l) (fun i => Permit.cells (List.getD l i default)) ((↑k : Int)) ((↑k : Int) + (1 : Int)) (by (first | omega | assumption | exact ⟨rfl, trivial⟩ | simp only [AllP, inK_iff, roomOK_iff, decide_eq_true_eq, Bool.and_eq_true, Bool.or_eq_true, Bool.not_eq_true', decide_eq_false_iff_not, and_true, true_and]; (first | omega | (and_intros <;> intros <;> (try and_intros) <;> first | omega | assumption | exact trivial)))) (by (first | omega | assumption | exact ⟨rfl, trivial⟩ | simp only [AllP, inK_iff, roomOK_iff, decide_eq_true_eq, Bool.and_eq_true, Bool.or_eq_true, Bool.not_eq_true', decide_eq_false_iff_not, and_true, true_and]; (first | omega | (and_intros <;> intros <;> (try and_intros) <;> first | omega | assumption | exact trivial)))) (by (first | omega | assumption | exact ⟨rfl, trivial⟩ | simp only [AllP, inK_iff, roomOK_iff, decide_eq_true_eq, Bool.and_eq_true, Bool.or_eq_true, Bool.not_eq_true', decide_eq_false_iff_not, and_true, true_and]; (first | omega | (and_intros <;> intros <;> (try and_intros) <;> first | omega | assumption | exact trivial))))) ?_
              refine good_run 6 (obs := []) (by kernel_rfl) trivial ?_
              refine good_fin [List.length l - (Int.toNat ((↑k : Int) + (1 : Int)) - k) = List.length (List.eraseIdx l k, (0 : Int)).fst ∧ ∀ (i : Nat), i < List.length l - (Int.toNat ((↑k : Int) + (1 : Int)) - k) → (fun k_1 => if k_1 < k then Permit.cells (List.getD l k_1 default) else Permit.cells (List.getD l (k_1 + (Int.toNat ((↑k : Int) + (1 : Int)) - k)) default)) i = (fun i => Permit.cells (List.getD (List.eraseIdx l k, (0 : Int)).fst i default)) i, (0 : Int) = (0 : Int)] (by kernel_rfl) ⟨?_, rfl, trivial⟩
              refine ⟨by rw [List.length_eraseIdx, if_pos hk]; omega, fun i hi => ?_⟩
              show (if i < k then (l.getD i default).cells else (l.getD (i + (k + 1 - k)) default).cells) = ((l.eraseIdx k).getD i default).cells
              rw [getD_eraseIdx]
              split
              · rfl
              · rw [show k + 1 - k = 1 by omega]
            · simp only [decide_eq_false_iff_not] at hc5
              have : revoked l id day = (l.set k ((l.getD k default).until day), 0) := by
                rw [revoked, hf2]; simp only [hc]; rw [if_neg (by simp), if_neg hd, if_neg hc4, if_neg hc5]
              rw [this]
              refine good_run 20 (obs := [(6 : Nat) = (6 : Nat) ∧ (0 : Int) ≤ (↑k : Int) ∧ (↑k : Int) < (↑(List.length l) : Int), (1 : Nat) = (1 : Nat) ∧ (5 : Nat) + (1 : Nat) ≤ (6 : Nat)]) (by kernel_rfl) (by (first | omega | assumption | exact ⟨rfl, trivial⟩ | simp only [AllP, inK_iff, roomOK_iff, decide_eq_true_eq, Bool.and_eq_true, Bool.or_eq_true, Bool.not_eq_true', decide_eq_false_iff_not, and_true, true_and]; (first | omega | (and_intros <;> intros <;> (try and_intros) <;> first | omega | assumption | exact trivial)))) ?_
              refine good_fin [List.length l = List.length (List.set l k (Permit.until (List.getD l k default) day), (0 : Int)).fst ∧ ∀ (i : Nat), i < List.length l → (fun j => if j = k then lay ((fun i => Permit.cells (List.getD l i default)) k) (5 : Nat) [SV.int IntKind.i64 day] else (fun i => Permit.cells (List.getD l i default)) j) i = (fun i => Permit.cells (List.getD (List.set l k (Permit.until (List.getD l k default) day), (0 : Int)).fst i default)) i, (0 : Int) = (0 : Int)] (by kernel_rfl) ⟨?_, rfl, trivial⟩
              refine ⟨by simp, fun i hi => ?_⟩
              show (if i = k then lay (l.getD k default).cells 5 [SV.int IntKind.i64 day] else (l.getD i default).cells) = ((l.set k ((l.getD k default).until day)).getD i default).cells
              rw [getD_set _ _ _ _ hk]
              split <;> rfl
end Go.Sx.T
