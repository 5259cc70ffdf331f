/- Contracts of functions of the program, each proved by running its code symbolically (HE). -/
import Derived.Test.YtgnffeajpmniiaaHD
namespace Go.Sx.T
open Go Go.Proofs Go.Sx
set_option maxRecDepth 100000
set_option maxHeartbeats 4000000
set_option linter.unusedVariables false
set_option linter.unusedSimpArgs false
def cmpI (a b : Int) : Int := if a < b then -1 else if b < a then 1 else 0
theorem cmpI_neg (a b : Int) : cmpI a b < 0 ↔ a < b := by
  unfold cmpI
  split
  · omega
  · split <;> omega
theorem cmpI_zero (a b : Int) : cmpI a b = 0 ↔ a = b := by
  unfold cmpI
  split
  · omega
  · split <;> omega
section
variable {α : Type} [Inhabited α]
def posK (l : List α) (f : α → Int) (id : Int) : Nat := (l.takeWhile fun x => decide (f x < id)).length
def Asc (l : List α) (f : α → Int) : Prop := ∀ i j, i < j → j < l.length → f (l.getD i default) < f (l.getD j default)
def hasK (l : List α) (f : α → Int) (id : Int) : Bool := decide ((posK l f id : Int) < l.length) && decide (cmpI (f (l.getD (posK l f id) default)) id = 0)
def idK (f : α → Int) (id : Int) : α → Bool := fun x => decide (f x = id)
def isK (l : List α) (f : α → Int) (id : Int) : Bool := l.any (idK f id)
def atK (l : List α) (f : α → Int) (id : Int) : α := (l.find? (idK f id)).getD default
omit [Inhabited α] in
theorem posK_le (l : List α) (f : α → Int) (id : Int) : posK l f id ≤ l.length := (List.takeWhile_prefix _).length_le
theorem posK_below (f : α → Int) (id : Int) : ∀ (l : List α) (j : Nat), j < posK l f id → f (l.getD j default) < id
  | [], j, h => by simp [posK] at h
  | x :: r, j, h => by
    unfold posK at h
    rw [List.takeWhile_cons] at h
    split at h
    · rename_i hx
      cases j with
      | zero => simpa using hx
      | succ j => simpa using posK_below f id r j (by simpa [posK] using h)
    · simp at h
theorem posK_stop (f : α → Int) (id : Int) : ∀ (l : List α), posK l f id < l.length → id ≤ f (l.getD (posK l f id) default)
  | [], h => by simp [posK] at h
  | x :: r, h => by
    unfold posK at h ⊢
    rw [List.takeWhile_cons] at h ⊢
    split
    · rename_i hx
      rw [if_pos hx] at h
      simpa [posK] using posK_stop f id r (by simpa [posK] using h)
    · rename_i hx
      simp only [decide_eq_true_eq] at hx
      simpa using Int.not_lt.1 hx
theorem posK_above {l : List α} {f : α → Int} (hr : Asc l f) (id : Int) (j : Nat) (hj : posK l f id ≤ j) (hl : j < l.length) : id ≤ f (l.getD j default) := by
  have h1 := posK_stop f id l (by omega)
  rcases Nat.lt_or_ge (posK l f id) j with h | h
  · have := hr _ _ h hl
    omega
  · have : posK l f id = j := by omega
    rwa [this] at h1
theorem isK_cases (l : List α) (f : α → Int) (id : Int) : (isK l f id = false ∧ atK l f id = default ∧ findI l (idK f id) = -1 ∧ ∀ x ∈ l, f x ≠ id) ∨
    ∃ k : Nat, k < l.length ∧ isK l f id = true ∧ atK l f id = l.getD k default ∧ findI l (idK f id) = k ∧ f (l.getD k default) = id := by
  rcases findI_cases l (idK f id) with ⟨h1, _, h2, h3⟩ | ⟨k, hk, h1, _, h2, h3, h4⟩
  · refine .inl ⟨h3, by rw [atK, h2]; rfl, h1, fun x hx e => ?_⟩
    rw [List.any_eq_false] at h3
    exact h3 x hx (by simp [idK, e])
  · exact .inr ⟨k, hk, h4, by rw [atK, h2]; rfl, h1, by simpa [idK] using h3⟩
theorem hasK_cases {l : List α} {f : α → Int} (hr : Asc l f) (id : Int) : (hasK l f id = false ∧ isK l f id = false ∧ atK l f id = default ∧ findI l (idK f id) = -1) ∨
    (posK l f id < l.length ∧ hasK l f id = true ∧ isK l f id = true ∧ atK l f id = l.getD (posK l f id) default ∧ findI l (idK f id) = posK l f id ∧ f (l.getD (posK l f id) default) = id) := by
  rcases isK_cases l f id with ⟨h1, h2, h3, h4⟩ | ⟨k, hk, h1, h2, h3, h4⟩
  · refine .inl ⟨?_, h1, h2, h3⟩
    unfold hasK
    by_cases h : posK l f id < l.length
    · have := h4 _ (getD_mem l default _ h)
      rw [Bool.and_eq_false_iff]; right
      rw [decide_eq_false_iff_not, cmpI_zero]
      exact this
    · rw [Bool.and_eq_false_iff]; left
      rw [decide_eq_false_iff_not]; omega
  · have e : posK l f id = k := by
      rcases Nat.lt_trichotomy (posK l f id) k with h | h | h
      · have h5 := posK_stop f id l (by omega)
        have := hr _ _ h hk
        omega
      · exact h
      · have := posK_below f id l k h
        omega
    rw [e]
    refine .inr ⟨hk, ?_, h1, h2, h3, h4⟩
    unfold hasK
    rw [e, Bool.and_eq_true, decide_eq_true_eq, decide_eq_true_eq, cmpI_zero]
    exact ⟨by omega, h4⟩
end
theorem s85 (a : Int) : Spec Try.prog 85 [.int .i64 a] (.bool false) := by
  refine spec_of_good mixed Try.func85 F85_ok (by kernel_rfl) ?_
  refine good_run 14 (obs := []) (by kernel_rfl) trivial ?_
  refine good_fin [(!decide (a = a)) = false] (by kernel_rfl) ⟨?_, trivial⟩
  all_goals simp
theorem s68 (a b : Int) : Spec Try.prog 68 [.int .i64 a, .int .i64 b] (.int .i64 (cmpI a b)) := by
  refine spec_of_good mixed Try.func68 F68_ok (by kernel_rfl) ?_
  refine good_run 8 (obs := []) (by kernel_rfl) trivial ?_
  refine good_call (c := True) (by kernel_rfl) (fun _ => SVles.refl _) (fun _ => s85 (a)) (by kernel_rfl) ?_
  refine good_run 6 (obs := []) (by kernel_rfl) trivial ?_
  refine good_call (c := True) (by kernel_rfl) (fun _ => SVles.refl _) (fun _ => s85 (b)) (by kernel_rfl) ?_
  refine good_run 9 (obs := []) (by kernel_rfl) trivial ?_
  refine good_cond false (by kernel_rfl) (fun h => nomatch h) (fun _ => ?_)
  refine good_run 7 (obs := []) (by kernel_rfl) trivial ?_
  refine good_cond false (by kernel_rfl) (fun h => nomatch h) (fun _ => ?_)
  refine good_run 9 (obs := []) (by kernel_rfl) trivial ?_
  refine good_cond (decide (a < b)) (by kernel_rfl) (fun hc1 => ?_) (fun hc1 => ?_)
  · simp only [decide_eq_true_eq] at hc1
    have : cmpI a b = -1 := by rw [cmpI, if_pos hc1]
    refine good_run 7 (obs := []) (by kernel_rfl) trivial ?_
    refine good_fin [(-1 : Int) = cmpI a b] (by kernel_rfl) ⟨(by omega), trivial⟩
    all_goals simp [this]
  · simp only [decide_eq_false_iff_not] at hc1
    refine good_run 9 (obs := []) (by kernel_rfl) trivial ?_
    refine good_cond (decide (b < a)) (by kernel_rfl) (fun hc2 => ?_) (fun hc2 => ?_)
    · simp only [decide_eq_true_eq] at hc2
      have : cmpI a b = 1 := by rw [cmpI, if_neg hc1, if_pos (by omega)]
      refine good_run 7 (obs := []) (by kernel_rfl) trivial ?_
      refine good_fin [(1 : Int) = cmpI a b] (by kernel_rfl) ⟨(by omega), trivial⟩
      all_goals simp [this]
    · simp only [decide_eq_false_iff_not] at hc2
      have : cmpI a b = 0 := by rw [cmpI, if_neg hc1, if_neg (by omega)]
      refine good_run 7 (obs := []) (by kernel_rfl) trivial ?_
      refine good_fin [(0 : Int) = cmpI a b] (by kernel_rfl) ⟨(by omega), trivial⟩
      all_goals simp [this]
theorem s67 (p : Shf) (id : Int) : Spec Try.prog 67 [p.sv, .int .i64 id] (.int .i64 (cmpI (Shf.ID p) id)) := by
  refine spec_of_good mixed Try.func67 F67_ok (by kernel_rfl) ?_
  refine good_run 11 (obs := []) (by kernel_rfl) trivial ?_
  refine good_call (c := True) (by kernel_rfl) (fun _ => SVles.refl _) (fun _ => s68 (p.ID) (id)) (by kernel_rfl) ?_
  refine good_run 4 (obs := []) (by kernel_rfl) trivial ?_
  refine good_fin [cmpI p.ID id = cmpI p.ID id] (by kernel_rfl) ⟨rfl, trivial⟩
theorem s66 (l : List Shf) (id : Int) (hr : Asc l Shf.ID) (hl : l.length ≤ 100000) :
    Spec Try.prog 66 [shfs l, .int .i64 id, .fn 67 []] (.tup [.int .i64 (posK l Shf.ID id), .bool (hasK l Shf.ID id)]) := by
  have hk := posK_le l Shf.ID id
  have h1 := posK_below Shf.ID id l
  have h2 := posK_above hr id
  have hh : hasK l Shf.ID id = (decide ((posK l Shf.ID id : Int) < l.length) && decide (cmpI (Shf.ID (l.getD (posK l Shf.ID id) default)) id = 0)) := rfl
  rw [hh]
  generalize posK l Shf.ID id = k at *
  refine spec_of_good mixed Try.func66 F66_ok (by kernel_rfl) ?_
  have hu1 : IntKind.u64.min = 0 := rfl
  have hu2 : IntKind.u64.max = 18446744073709551615 := rfl
  have hu3 : IntKind.u64.bits = 64 := rfl
  refine good_run 22 (obs := []) (by kernel_rfl) trivial ?_
  refine good_loopJ (fun q : Nat × Nat => ⟨[(9, .sv (.int .i64 (q.1))), (10, .sv (.int .i64 (q.2))), (8, LV.sv (SV.int IntKind.i64 (↑(List.length l) : Int))), (0, LV.sv (SV.lst (4 : Nat) (List.length l) fun i => Shf.cells (List.getD l i default))), (1, LV.sv (SV.int IntKind.i64 id)), (2, LV.sv (SV.fn (67 : Nat) []))], []⟩) (fun q => q.1 ≤ k ∧ k ≤ q.2 ∧ q.2 ≤ l.length) (fun q => q.2 - q.1) ((0, l.length)) [(0 : Int) = (0 : Int), (↑(List.length l) : Int) = (↑(List.length l) : Int), (↑(List.length l) : Int) = (↑(List.length l) : Int), List.length l = List.length l ∧ ∀ (i : Nat), i < List.length l → (fun i => Shf.cells (List.getD l i default)) i = (fun i => Shf.cells (List.getD l i default)) i, id = id, SVle (SV.fn (67 : Nat) []) (SV.fn (67 : Nat) [])] (by kernel_rfl) (by kernel_rfl) ⟨rfl, rfl, rfl, ⟨rfl, fun _ _ => rfl⟩, rfl, SVle.refl _, trivial⟩ (by omega) ?_
  rintro ⟨i, j⟩ ⟨hi, hj, hn⟩
  simp only at hi hj hn
  refine good_run 8 (obs := []) (by kernel_rfl) trivial ?_
  refine good_cond (decide ((↑i : Int) < (↑j : Int))) (by kernel_rfl) (fun hc1 => ?_) (fun hc1 => ?_)
  · have hij : i < j := by simp only [decide_eq_true_eq] at hc1; omega
    have e2 : (((i : Int) + j) / 2 ^ 1).toNat = (i + j) / 2 := by omega
    refine good_run 21 (obs := [InK IntKind.i64 ((↑i : Int) + (↑j : Int)), InK IntKind.u64 ((↑i : Int) + (↑j : Int)), (0 : Int) ≤ (1 : Int) ∧ (1 : Nat) ≤ IntKind.bits IntKind.u64, InK IntKind.i64 (((↑i : Int) + (↑j : Int)) / (2 : Int) ^ (1 : Nat)), (4 : Nat) = (4 : Nat) ∧ (0 : Int) ≤ ((↑i : Int) + (↑j : Int)) / (2 : Int) ^ (1 : Nat) ∧ ((↑i : Int) + (↑j : Int)) / (2 : Int) ^ (1 : Nat) < (↑(List.length l) : Int), (0 : Nat) + (4 : Nat) ≤ (4 : Nat)]) (by kernel_rfl) (by (first | omega | assumption | exact ⟨rfl, trivial⟩ | simp only [AllP, inK_iff, roomOK_iff, decide_eq_true_eq, Bool.and_eq_true, Bool.or_eq_true, Bool.not_eq_true', decide_eq_false_iff_not, and_true, true_and]; (first | omega | (and_intros <;> intros <;> (try and_intros) <;> first | omega | assumption | exact trivial)))) ?_
    refine good_call (c := True) (by kernel_rfl) (fun _ => SVles.refl _) (fun _ => s67 (List.getD l (Int.toNat (((↑i : Int) + (↑j : Int)) / (2 : Int) ^ (1 : Nat))) default) (id)) (by kernel_rfl) ?_
    refine good_run 3 (obs := []) (by kernel_rfl) trivial ?_
    refine good_cond (decide (cmpI (List.getD l (Int.toNat (((↑i : Int) + (↑j : Int)) / (2 : Int) ^ (1 : Nat))) default).ID id < (0 : Int))) (by kernel_rfl) (fun hc2 => ?_) (fun hc2 => ?_)
    · have : (i + j) / 2 < k := by
        refine Nat.lt_of_not_le fun hk' => ?_
        have := h2 _ hk' (by omega)
        simp only [decide_eq_true_eq, cmpI_neg, e2] at hc2; omega
      refine good_run 7 (obs := [InK IntKind.i64 (((↑i : Int) + (↑j : Int)) / (2 : Int) ^ (1 : Nat) + (1 : Int))]) (by kernel_rfl) (by (first | omega | assumption | exact ⟨rfl, trivial⟩ | simp only [AllP, inK_iff, roomOK_iff, decide_eq_true_eq, Bool.and_eq_true, Bool.or_eq_true, Bool.not_eq_true', decide_eq_false_iff_not, and_true, true_and]; (first | omega | (and_intros <;> intros <;> (try and_intros) <;> first | omega | assumption | exact trivial)))) ?_
      refine good_backJ (((i + j) / 2 + 1, j)) [((↑i : Int) + (↑j : Int)) / (2 : Int) ^ (1 : Nat) + (1 : Int) = (↑((i + j) / (2 : Nat) + (1 : Nat)) : Int), (↑j : Int) = (↑j : Int), (↑(List.length l) : Int) = (↑(List.length l) : Int), List.length l = List.length l ∧ ∀ (i : Nat), i < List.length l → (fun i => Shf.cells (List.getD l i default)) i = (fun i => Shf.cells (List.getD l i default)) i, id = id, SVle (SV.fn (67 : Nat) []) (SV.fn (67 : Nat) [])] (by kernel_rfl) (by kernel_rfl) ⟨(by omega), rfl, rfl, ⟨rfl, fun _ _ => rfl⟩, rfl, SVle.refl _, trivial⟩ (by omega) (by show _ < _; omega)
    · have : k ≤ (i + j) / 2 := by
        refine Nat.le_of_not_lt fun hk' => ?_
        have := h1 _ hk'
        simp only [decide_eq_false_iff_not, cmpI_neg, e2] at hc2; omega
      refine good_run 6 (obs := []) (by kernel_rfl) trivial ?_
      refine good_backJ ((i, (i + j) / 2)) [(↑i : Int) = (↑i : Int), ((↑i : Int) + (↑j : Int)) / (2 : Int) ^ (1 : Nat) = (↑((i + j) / (2 : Nat)) : Int), (↑(List.length l) : Int) = (↑(List.length l) : Int), List.length l = List.length l ∧ ∀ (i : Nat), i < List.length l → (fun i => Shf.cells (List.getD l i default)) i = (fun i => Shf.cells (List.getD l i default)) i, id = id, SVle (SV.fn (67 : Nat) []) (SV.fn (67 : Nat) [])] (by kernel_rfl) (by kernel_rfl) ⟨rfl, (by omega), rfl, ⟨rfl, fun _ _ => rfl⟩, rfl, SVle.refl _, trivial⟩ (by omega) (by show _ < _; omega)
  · have : i = k := by simp only [decide_eq_false_iff_not] at hc1; omega
    subst this
    refine good_run 2 (obs := []) (by kernel_rfl) trivial ?_
    refine good_leaveJ (by kernel_rfl) ?_
    refine good_run 15 (obs := [decide ((↑i : Int) < (↑(List.length l) : Int)) = true ∧ True → (4 : Nat) = (4 : Nat) ∧ (0 : Int) ≤ (↑i : Int) ∧ (↑i : Int) < (↑(List.length l) : Int), decide ((↑i : Int) < (↑(List.length l) : Int)) = true ∧ True → (0 : Nat) + (4 : Nat) ≤ (4 : Nat)]) (by kernel_rfl) (by (first | omega | assumption | exact ⟨rfl, trivial⟩ | simp only [AllP, inK_iff, roomOK_iff, decide_eq_true_eq, Bool.and_eq_true, Bool.or_eq_true, Bool.not_eq_true', decide_eq_false_iff_not, and_true, true_and]; (first | omega | (and_intros <;> intros <;> (try and_intros) <;> first | omega | assumption | exact trivial)))) ?_
    refine good_call (c := decide ((↑i : Int) < (↑(List.length l) : Int)) = true ∧ True) (by kernel_rfl) (fun _ => SVles.refl _) (fun _ => s67 (List.getD l i default) (id)) (by kernel_rfl) ?_
    refine good_run 8 (obs := []) (by kernel_rfl) trivial ?_
    refine good_fin [(↑i : Int) = (↑i : Int), (decide ((↑i : Int) < (↑(List.length l) : Int)) && decide (cmpI (List.getD l i default).ID id = (0 : Int))) = (decide ((↑i : Int) < (↑(List.length l) : Int)) && decide (cmpI (List.getD l i default).ID id = (0 : Int)))] (by kernel_rfl) ⟨rfl, rfl, trivial⟩
theorem s72 (p : Box) (id : Int) : Spec Try.prog 72 [p.sv, .int .i64 id] (.int .i64 (cmpI (Box.ID p) id)) := by
  refine spec_of_good mixed Try.func72 F72_ok (by kernel_rfl) ?_
  refine good_run 11 (obs := []) (by kernel_rfl) trivial ?_
  refine good_call (c := True) (by kernel_rfl) (fun _ => SVles.refl _) (fun _ => s68 (p.ID) (id)) (by kernel_rfl) ?_
  refine good_run 4 (obs := []) (by kernel_rfl) trivial ?_
  refine good_fin [cmpI p.ID id = cmpI p.ID id] (by kernel_rfl) ⟨rfl, trivial⟩
theorem s71 (l : List Box) (id : Int) (hr : Asc l Box.ID) (hl : l.length ≤ 100000) :
    Spec Try.prog 71 [boxes l, .int .i64 id, .fn 72 []] (.tup [.int .i64 (posK l Box.ID id), .bool (hasK l Box.ID id)]) := by
  have hk := posK_le l Box.ID id
  have h1 := posK_below Box.ID id l
  have h2 := posK_above hr id
  have hh : hasK l Box.ID id = (decide ((posK l Box.ID id : Int) < l.length) && decide (cmpI (Box.ID (l.getD (posK l Box.ID id) default)) id = 0)) := rfl
  rw [hh]
  generalize posK l Box.ID id = k at *
  refine spec_of_good mixed Try.func71 F71_ok (by kernel_rfl) ?_
  have hu1 : IntKind.u64.min = 0 := rfl
  have hu2 : IntKind.u64.max = 18446744073709551615 := rfl
  have hu3 : IntKind.u64.bits = 64 := rfl
  refine good_run 22 (obs := []) (by kernel_rfl) trivial ?_
  refine good_loopJ (fun q : Nat × Nat => ⟨[(9, .sv (.int .i64 (q.1))), (10, .sv (.int .i64 (q.2))), (8, LV.sv (SV.int IntKind.i64 (↑(List.length l) : Int))), (0, LV.sv (SV.lst (5 : Nat) (List.length l) fun i => Box.cells (List.getD l i default))), (1, LV.sv (SV.int IntKind.i64 id)), (2, LV.sv (SV.fn (72 : Nat) []))], []⟩) (fun q => q.1 ≤ k ∧ k ≤ q.2 ∧ q.2 ≤ l.length) (fun q => q.2 - q.1) ((0, l.length)) [(0 : Int) = (0 : Int), (↑(List.length l) : Int) = (↑(List.length l) : Int), (↑(List.length l) : Int) = (↑(List.length l) : Int), List.length l = List.length l ∧ ∀ (i : Nat), i < List.length l → (fun i => Box.cells (List.getD l i default)) i = (fun i => Box.cells (List.getD l i default)) i, id = id, SVle (SV.fn (72 : Nat) []) (SV.fn (72 : Nat) [])] (by kernel_rfl) (by kernel_rfl) ⟨rfl, rfl, rfl, ⟨rfl, fun _ _ => rfl⟩, rfl, SVle.refl _, trivial⟩ (by omega) ?_
  rintro ⟨i, j⟩ ⟨hi, hj, hn⟩
  simp only at hi hj hn
  refine good_run 8 (obs := []) (by kernel_rfl) trivial ?_
  refine good_cond (decide ((↑i : Int) < (↑j : Int))) (by kernel_rfl) (fun hc1 => ?_) (fun hc1 => ?_)
  · have hij : i < j := by simp only [decide_eq_true_eq] at hc1; omega
    have e2 : (((i : Int) + j) / 2 ^ 1).toNat = (i + j) / 2 := by omega
    refine good_run 21 (obs := [InK IntKind.i64 ((↑i : Int) + (↑j : Int)), InK IntKind.u64 ((↑i : Int) + (↑j : Int)), (0 : Int) ≤ (1 : Int) ∧ (1 : Nat) ≤ IntKind.bits IntKind.u64, InK IntKind.i64 (((↑i : Int) + (↑j : Int)) / (2 : Int) ^ (1 : Nat)), (5 : Nat) = (5 : Nat) ∧ (0 : Int) ≤ ((↑i : Int) + (↑j : Int)) / (2 : Int) ^ (1 : Nat) ∧ ((↑i : Int) + (↑j : Int)) / (2 : Int) ^ (1 : Nat) < (↑(List.length l) : Int), (0 : Nat) + (5 : Nat) ≤ (5 : Nat)]) (by kernel_rfl) (by (first | omega | assumption | exact ⟨rfl, trivial⟩ | simp only [AllP, inK_iff, roomOK_iff, decide_eq_true_eq, Bool.and_eq_true, Bool.or_eq_true, Bool.not_eq_true', decide_eq_false_iff_not, and_true, true_and]; (first | omega | (and_intros <;> intros <;> (try and_intros) <;> first | omega | assumption | exact trivial)))) ?_
    refine good_call (c := True) (by kernel_rfl) (fun _ => SVles.refl _) (fun _ => s72 (List.getD l (Int.toNat (((↑i : Int) + (↑j : Int)) / (2 : Int) ^ (1 : Nat))) default) (id)) (by kernel_rfl) ?_
    refine good_run 3 (obs := []) (by kernel_rfl) trivial ?_
    refine good_cond (decide (cmpI (List.getD l (Int.toNat (((↑i : Int) + (↑j : Int)) / (2 : Int) ^ (1 : Nat))) default).ID id < (0 : Int))) (by kernel_rfl) (fun hc2 => ?_) (fun hc2 => ?_)
    · have : (i + j) / 2 < k := by
        refine Nat.lt_of_not_le fun hk' => ?_
        have := h2 _ hk' (by omega)
        simp only [decide_eq_true_eq, cmpI_neg, e2] at hc2; omega
      refine good_run 7 (obs := [InK IntKind.i64 (((↑i : Int) + (↑j : Int)) / (2 : Int) ^ (1 : Nat) + (1 : Int))]) (by kernel_rfl) (by (first | omega | assumption | exact ⟨rfl, trivial⟩ | simp only [AllP, inK_iff, roomOK_iff, decide_eq_true_eq, Bool.and_eq_true, Bool.or_eq_true, Bool.not_eq_true', decide_eq_false_iff_not, and_true, true_and]; (first | omega | (and_intros <;> intros <;> (try and_intros) <;> first | omega | assumption | exact trivial)))) ?_
      refine good_backJ (((i + j) / 2 + 1, j)) [((↑i : Int) + (↑j : Int)) / (2 : Int) ^ (1 : Nat) + (1 : Int) = (↑((i + j) / (2 : Nat) + (1 : Nat)) : Int), (↑j : Int) = (↑j : Int), (↑(List.length l) : Int) = (↑(List.length l) : Int), List.length l = List.length l ∧ ∀ (i : Nat), i < List.length l → (fun i => Box.cells (List.getD l i default)) i = (fun i => Box.cells (List.getD l i default)) i, id = id, SVle (SV.fn (72 : Nat) []) (SV.fn (72 : Nat) [])] (by kernel_rfl) (by kernel_rfl) ⟨(by omega), rfl, rfl, ⟨rfl, fun _ _ => rfl⟩, rfl, SVle.refl _, trivial⟩ (by omega) (by show _ < _; omega)
    · have : k ≤ (i + j) / 2 := by
        refine Nat.le_of_not_lt fun hk' => ?_
        have := h1 _ hk'
        simp only [decide_eq_false_iff_not, cmpI_neg, e2] at hc2; omega
      refine good_run 6 (obs := []) (by kernel_rfl) trivial ?_
      refine good_backJ ((i, (i + j) / 2)) [(↑i : Int) = (↑i : Int), ((↑i : Int) + (↑j : Int)) / (2 : Int) ^ (1 : Nat) = (↑((i + j) / (2 : Nat)) : Int), (↑(List.length l) : Int) = (↑(List.length l) : Int), List.length l = List.length l ∧ ∀ (i : Nat), i < List.length l → (fun i => Box.cells (List.getD l i default)) i = (fun i => Box.cells (List.getD l i default)) i, id = id, SVle (SV.fn (72 : Nat) []) (SV.fn (72 : Nat) [])] (by kernel_rfl) (by kernel_rfl) ⟨rfl, (by omega), rfl, ⟨rfl, fun _ _ => rfl⟩, rfl, SVle.refl _, trivial⟩ (by omega) (by show _ < _; omega)
  · have : i = k := by simp only [decide_eq_false_iff_not] at hc1; omega
    subst this
    refine good_run 2 (obs := []) (by kernel_rfl) trivial ?_
    refine good_leaveJ (by kernel_rfl) ?_
    refine good_run 15 (obs := [decide ((↑i : Int) < (↑(List.length l) : Int)) = true ∧ True → (5 : Nat) = (5 : Nat) ∧ (0 : Int) ≤ (↑i : Int) ∧ (↑i : Int) < (↑(List.length l) : Int), decide ((↑i : Int) < (↑(List.length l) : Int)) = true ∧ True → (0 : Nat) + (5 : Nat) ≤ (5 : Nat)]) (by kernel_rfl) (by (first | omega | assumption | exact ⟨rfl, trivial⟩ | simp only [AllP, inK_iff, roomOK_iff, decide_eq_true_eq, Bool.and_eq_true, Bool.or_eq_true, Bool.not_eq_true', decide_eq_false_iff_not, and_true, true_and]; (first | omega | (and_intros <;> intros <;> (try and_intros) <;> first | omega | assumption | exact trivial)))) ?_
    refine good_call (c := decide ((↑i : Int) < (↑(List.length l) : Int)) = true ∧ True) (by kernel_rfl) (fun _ => SVles.refl _) (fun _ => s72 (List.getD l i default) (id)) (by kernel_rfl) ?_
    refine good_run 8 (obs := []) (by kernel_rfl) trivial ?_
    refine good_fin [(↑i : Int) = (↑i : Int), (decide ((↑i : Int) < (↑(List.length l) : Int)) && decide (cmpI (List.getD l i default).ID id = (0 : Int))) = (decide ((↑i : Int) < (↑(List.length l) : Int)) && decide (cmpI (List.getD l i default).ID id = (0 : Int)))] (by kernel_rfl) ⟨rfl, rfl, trivial⟩
theorem s75 (p : Std) (id : Int) : Spec Try.prog 75 [p.sv, .int .i64 id] (.int .i64 (cmpI (Std.Shelf p) id)) := by
  refine spec_of_good mixed Try.func75 F75_ok (by kernel_rfl) ?_
  refine good_run 11 (obs := []) (by kernel_rfl) trivial ?_
  refine good_call (c := True) (by kernel_rfl) (fun _ => SVles.refl _) (fun _ => s68 (p.Shelf) (id)) (by kernel_rfl) ?_
  refine good_run 4 (obs := []) (by kernel_rfl) trivial ?_
  refine good_fin [cmpI p.Shelf id = cmpI p.Shelf id] (by kernel_rfl) ⟨rfl, trivial⟩
theorem s74 (l : List Std) (id : Int) (hr : Asc l Std.Shelf) (hl : l.length ≤ 100000) :
    Spec Try.prog 74 [stds l, .int .i64 id, .fn 75 []] (.tup [.int .i64 (posK l Std.Shelf id), .bool (hasK l Std.Shelf id)]) := by
  have hk := posK_le l Std.Shelf id
  have h1 := posK_below Std.Shelf id l
  have h2 := posK_above hr id
  have hh : hasK l Std.Shelf id = (decide ((posK l Std.Shelf id : Int) < l.length) && decide (cmpI (Std.Shelf (l.getD (posK l Std.Shelf id) default)) id = 0)) := rfl
  rw [hh]
  generalize posK l Std.Shelf id = k at *
  refine spec_of_good mixed Try.func74 F74_ok (by kernel_rfl) ?_
  have hu1 : IntKind.u64.min = 0 := rfl
  have hu2 : IntKind.u64.max = 18446744073709551615 := rfl
  have hu3 : IntKind.u64.bits = 64 := rfl
  refine good_run 22 (obs := []) (by kernel_rfl) trivial ?_
  refine good_loopJ (fun q : Nat × Nat => ⟨[(9, .sv (.int .i64 (q.1))), (10, .sv (.int .i64 (q.2))), (8, LV.sv (SV.int IntKind.i64 (↑(List.length l) : Int))), (0, LV.sv (SV.lst (2 : Nat) (List.length l) fun i => Std.cells (List.getD l i default))), (1, LV.sv (SV.int IntKind.i64 id)), (2, LV.sv (SV.fn (75 : Nat) []))], []⟩) (fun q => q.1 ≤ k ∧ k ≤ q.2 ∧ q.2 ≤ l.length) (fun q => q.2 - q.1) ((0, l.length)) [(0 : Int) = (0 : Int), (↑(List.length l) : Int) = (↑(List.length l) : Int), (↑(List.length l) : Int) = (↑(List.length l) : Int), List.length l = List.length l ∧ ∀ (i : Nat), i < List.length l → (fun i => Std.cells (List.getD l i default)) i = (fun i => Std.cells (List.getD l i default)) i, id = id, SVle (SV.fn (75 : Nat) []) (SV.fn (75 : Nat) [])] (by kernel_rfl) (by kernel_rfl) ⟨rfl, rfl, rfl, ⟨rfl, fun _ _ => rfl⟩, rfl, SVle.refl _, trivial⟩ (by omega) ?_
  rintro ⟨i, j⟩ ⟨hi, hj, hn⟩
  simp only at hi hj hn
  refine good_run 8 (obs := []) (by kernel_rfl) trivial ?_
  refine good_cond (decide ((↑i : Int) < (↑j : Int))) (by kernel_rfl) (fun hc1 => ?_) (fun hc1 => ?_)
  · have hij : i < j := by simp only [decide_eq_true_eq] at hc1; omega
    have e2 : (((i : Int) + j) / 2 ^ 1).toNat = (i + j) / 2 := by omega
    refine good_run 21 (obs := [InK IntKind.i64 ((↑i : Int) + (↑j : Int)), InK IntKind.u64 ((↑i : Int) + (↑j : Int)), (0 : Int) ≤ (1 : Int) ∧ (1 : Nat) ≤ IntKind.bits IntKind.u64, InK IntKind.i64 (((↑i : Int) + (↑j : Int)) / (2 : Int) ^ (1 : Nat)), (2 : Nat) = (2 : Nat) ∧ (0 : Int) ≤ ((↑i : Int) + (↑j : Int)) / (2 : Int) ^ (1 : Nat) ∧ ((↑i : Int) + (↑j : Int)) / (2 : Int) ^ (1 : Nat) < (↑(List.length l) : Int), (0 : Nat) + (2 : Nat) ≤ (2 : Nat)]) (by kernel_rfl) (by (first | omega | assumption | exact ⟨rfl, trivial⟩ | simp only [AllP, inK_iff, roomOK_iff, decide_eq_true_eq, Bool.and_eq_true, Bool.or_eq_true, Bool.not_eq_true', decide_eq_false_iff_not, and_true, true_and]; (first | omega | (and_intros <;> intros <;> (try and_intros) <;> first | omega | assumption | exact trivial)))) ?_
    refine good_call (c := True) (by kernel_rfl) (fun _ => SVles.refl _) (fun _ => s75 (List.getD l (Int.toNat (((↑i : Int) + (↑j : Int)) / (2 : Int) ^ (1 : Nat))) default) (id)) (by kernel_rfl) ?_
    refine good_run 3 (obs := []) (by kernel_rfl) trivial ?_
    refine good_cond (decide (cmpI (List.getD l (Int.toNat (((↑i : Int) + (↑j : Int)) / (2 : Int) ^ (1 : Nat))) default).Shelf id < (0 : Int))) (by kernel_rfl) (fun hc2 => ?_) (fun hc2 => ?_)
    · have : (i + j) / 2 < k := by
        refine Nat.lt_of_not_le fun hk' => ?_
        have := h2 _ hk' (by omega)
        simp only [decide_eq_true_eq, cmpI_neg, e2] at hc2; omega
      refine good_run 7 (obs := [InK IntKind.i64 (((↑i : Int) + (↑j : Int)) / (2 : Int) ^ (1 : Nat) + (1 : Int))]) (by kernel_rfl) (by (first | omega | assumption | exact ⟨rfl, trivial⟩ | simp only [AllP, inK_iff, roomOK_iff, decide_eq_true_eq, Bool.and_eq_true, Bool.or_eq_true, Bool.not_eq_true', decide_eq_false_iff_not, and_true, true_and]; (first | omega | (and_intros <;> intros <;> (try and_intros) <;> first | omega | assumption | exact trivial)))) ?_
      refine good_backJ (((i + j) / 2 + 1, j)) [((↑i : Int) + (↑j : Int)) / (2 : Int) ^ (1 : Nat) + (1 : Int) = (↑((i + j) / (2 : Nat) + (1 : Nat)) : Int), (↑j : Int) = (↑j : Int), (↑(List.length l) : Int) = (↑(List.length l) : Int), List.length l = List.length l ∧ ∀ (i : Nat), i < List.length l → (fun i => Std.cells (List.getD l i default)) i = (fun i => Std.cells (List.getD l i default)) i, id = id, SVle (SV.fn (75 : Nat) []) (SV.fn (75 : Nat) [])] (by kernel_rfl) (by kernel_rfl) ⟨(by omega), rfl, rfl, ⟨rfl, fun _ _ => rfl⟩, rfl, SVle.refl _, trivial⟩ (by omega) (by show _ < _; omega)
    · have : k ≤ (i + j) / 2 := by
        refine Nat.le_of_not_lt fun hk' => ?_
        have := h1 _ hk'
        simp only [decide_eq_false_iff_not, cmpI_neg, e2] at hc2; omega
      refine good_run 6 (obs := []) (by kernel_rfl) trivial ?_
      refine good_backJ ((i, (i + j) / 2)) [(↑i : Int) = (↑i : Int), ((↑i : Int) + (↑j : Int)) / (2 : Int) ^ (1 : Nat) = (↑((i + j) / (2 : Nat)) : Int), (↑(List.length l) : Int) = (↑(List.length l) : Int), List.length l = List.length l ∧ ∀ (i : Nat), i < List.length l → (fun i => Std.cells (List.getD l i default)) i = (fun i => Std.cells (List.getD l i default)) i, id = id, SVle (SV.fn (75 : Nat) []) (SV.fn (75 : Nat) [])] (by kernel_rfl) (by kernel_rfl) ⟨rfl, (by omega), rfl, ⟨rfl, fun _ _ => rfl⟩, rfl, SVle.refl _, trivial⟩ (by omega) (by show _ < _; omega)
  · have : i = k := by simp only [decide_eq_false_iff_not] at hc1; omega
    subst this
    refine good_run 2 (obs := []) (by kernel_rfl) trivial ?_
    refine good_leaveJ (by kernel_rfl) ?_
    refine good_run 15 (obs := [decide ((↑i : Int) < (↑(List.length l) : Int)) = true ∧ True → (2 : Nat) = (2 : Nat) ∧ (0 : Int) ≤ (↑i : Int) ∧ (↑i : Int) < (↑(List.length l) : Int), decide ((↑i : Int) < (↑(List.length l) : Int)) = true ∧ True → (0 : Nat) + (2 : Nat) ≤ (2 : Nat)]) (by kernel_rfl) (by (first | omega | assumption | exact ⟨rfl, trivial⟩ | simp only [AllP, inK_iff, roomOK_iff, decide_eq_true_eq, Bool.and_eq_true, Bool.or_eq_true, Bool.not_eq_true', decide_eq_false_iff_not, and_true, true_and]; (first | omega | (and_intros <;> intros <;> (try and_intros) <;> first | omega | assumption | exact trivial)))) ?_
    refine good_call (c := decide ((↑i : Int) < (↑(List.length l) : Int)) = true ∧ True) (by kernel_rfl) (fun _ => SVles.refl _) (fun _ => s75 (List.getD l i default) (id)) (by kernel_rfl) ?_
    refine good_run 8 (obs := []) (by kernel_rfl) trivial ?_
    refine good_fin [(↑i : Int) = (↑i : Int), (decide ((↑i : Int) < (↑(List.length l) : Int)) && decide (cmpI (List.getD l i default).Shelf id = (0 : Int))) = (decide ((↑i : Int) < (↑(List.length l) : Int)) && decide (cmpI (List.getD l i default).Shelf id = (0 : Int)))] (by kernel_rfl) ⟨rfl, rfl, trivial⟩
end Go.Sx.T
