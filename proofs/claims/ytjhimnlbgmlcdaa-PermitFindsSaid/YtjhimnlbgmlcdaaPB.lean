/- Contracts of functions of the program, each proved by running its code symbolically (PB). -/
import Derived.Test.YtjhimnlbgmlcdaaPA
namespace Go.Sx.T
open Go Go.Proofs Go.Sx
set_option maxRecDepth 100000
set_option linter.unusedVariables false
set_option linter.unusedSimpArgs false
theorem getD_mem (l : List Int) (k : Nat) (h : k < l.length) : l.getD k 0 ∈ l := by
  rw [List.getD_eq_getElem?_getD, List.getElem?_eq_getElem h]; exact List.getElem_mem h
theorem in_of_none (l : List Int) (n : Int) (h : ∀ j, j < l.length → l.getD j 0 ≠ n) : n ∉ l := by
  intro hm
  obtain ⟨i, hi, e⟩ := List.mem_iff_getElem.1 hm
  exact h i hi (by rw [List.getD_eq_getElem?_getD, List.getElem?_eq_getElem hi]; exact e)
theorem s39 (l : List Int) (n : Int) : Spec Try.prog 39 [ints l, .int .i64 n] (.bool (inB l n)) := by
  refine spec_len 0 rfl (hasBody_of_slim Try.func39 F39_ok) fun hlen => ?_
  refine spec_of_good mixed Try.func39 F39_ok (by kernel_rfl) ?_
  refine good_run 14 (obs := []) (by kernel_rfl) trivial ?_
  refine good_loopJ (fun k : Nat => ⟨[(1, .sv (.int .i64 n)), (7, .sv (ints l)), (8, .sv (.int .i64 l.length)), (9, .sv (.int .i64 k))], []⟩) (fun k => k ≤ l.length ∧ ∀ j, j < k → l.getD j 0 ≠ n) (fun k => l.length - k) (0) [n = n, List.length l = List.length l ∧ ∀ (i : Nat), i < List.length l → (fun i => [SV.int IntKind.i64 (List.getD l i (0 : Int))]) i = (fun i => [SV.int IntKind.i64 (List.getD l i (0 : Int))]) i, (↑(List.length l) : Int) = (↑(List.length l) : Int), (0 : Int) = (0 : Int)] (by kernel_rfl) (by kernel_rfl) ⟨rfl, ⟨rfl, fun _ _ => rfl⟩, rfl, rfl, trivial⟩ ?_ ?_
  · exact ⟨Nat.zero_le _, by simp⟩
  · intro k hk
    refine good_run 6 (obs := []) (by kernel_rfl) trivial ?_
    refine good_cond (decide ((↑k : Int) < (↑(List.length l) : Int))) (by kernel_rfl) (fun hc1 => ?_) (fun hc1 => ?_)
    · have hlt : k < l.length := by simp at hc1; omega
      refine good_run 17 (obs := [(1 : Nat) = (1 : Nat) ∧ (0 : Int) ≤ (↑k : Int) ∧ (↑k : Int) < (↑(List.length l) : Int)]) (by kernel_rfl) (by (first | omega | assumption | exact ⟨rfl, trivial⟩ | simp only [AllP, inK_iff, roomOK_iff, decide_eq_true_eq, Bool.and_eq_true, Bool.or_eq_true, Bool.not_eq_true', decide_eq_false_iff_not, and_true, true_and]; (first | omega | (and_intros <;> intros <;> (try and_intros) <;> first | omega | assumption | exact trivial)))) ?_
      refine good_cond (decide (List.getD l k (0 : Int) = n)) (by kernel_rfl) (fun hc2 => ?_) (fun hc2 => ?_)
      · refine good_run 8 (obs := []) (by kernel_rfl) trivial ?_
        refine good_leaveJ (by kernel_rfl) ?_
        refine good_run 2 (obs := []) (by kernel_rfl) trivial ?_
        refine good_fin [true = inB l n] (by kernel_rfl) ⟨?_, trivial⟩
        have h := getD_mem l k hlt
        simp only [decide_eq_true_eq] at hc2
        rw [hc2] at h
        simp [inB, h]
      · refine good_run 7 (obs := [InK IntKind.i64 ((↑k : Int) + (1 : Int))]) (by kernel_rfl) (by (first | omega | assumption | exact ⟨rfl, trivial⟩ | simp only [AllP, inK_iff, roomOK_iff, decide_eq_true_eq, Bool.and_eq_true, Bool.or_eq_true, Bool.not_eq_true', decide_eq_false_iff_not, and_true, true_and]; (first | omega | (and_intros <;> intros <;> (try and_intros) <;> first | omega | assumption | exact trivial)))) ?_
        refine good_backJ (k + 1) [n = n, List.length l = List.length l ∧ ∀ (i : Nat), i < List.length l → (fun i => [SV.int IntKind.i64 (List.getD l i (0 : Int))]) i = (fun i => [SV.int IntKind.i64 (List.getD l i (0 : Int))]) i, (↑(List.length l) : Int) = (↑(List.length l) : Int), (↑k : Int) + (1 : Int) = (↑(k + (1 : Nat)) : Int)] (by kernel_rfl) (by kernel_rfl) ⟨rfl, ⟨rfl, fun _ _ => rfl⟩, rfl, (by omega), trivial⟩ ?_ ?_
        · refine ⟨by omega, fun j hj => ?_⟩
          rcases Nat.lt_or_ge j k with h | h
          · exact hk.2 j h
          · have : j = k := by omega
            subst this
            simpa using hc2
        · show _ < _; omega
    · refine good_run 2 (obs := []) (by kernel_rfl) trivial ?_
      refine good_leaveJ (by kernel_rfl) ?_
      refine good_run 7 (obs := []) (by kernel_rfl) trivial ?_
      refine good_fin [false = inB l n] (by kernel_rfl) ⟨?_, trivial⟩
      have : k = l.length := by simp at hc1; omega
      subst this
      simp [inB, in_of_none l n hk.2]
def idxI (l : List Int) (n : Int) : Int := if n ∈ l then (l.idxOf n : Nat) else -1
theorem idxI_hit (l : List Int) (n : Int) (k : Nat) (hk : k < l.length) (h : l.getD k 0 = n) (hn : ∀ j, j < k → l.getD j 0 ≠ n) : idxI l n = k := by
  have hm : n ∈ l := h ▸ getD_mem l k hk
  rw [idxI, if_pos hm]
  have hi : l.idxOf n < l.length := List.idxOf_lt_length_of_mem hm
  have he : l.getD (l.idxOf n) 0 = n := by rw [List.getD_eq_getElem?_getD, List.getElem?_eq_getElem hi]; simp
  have h1 : ¬ l.idxOf n < k := fun h' => hn _ h' he
  have h2 : ¬ k < l.idxOf n := fun h' => by
    have := List.not_of_lt_findIdx (p := (· == n)) (xs := l) (i := k) h'
    rw [List.getD_eq_getElem?_getD, List.getElem?_eq_getElem hk] at h
    simp at h this
    exact this h
  have : l.idxOf n = k := by omega
  rw [this]
theorem s46 (l : List Int) (n : Int) : Spec Try.prog 46 [ints l, .int .i64 n] (.int .i64 (idxI l n)) := by
  refine spec_len 0 rfl (hasBody_of_slim Try.func46 F46_ok) fun hlen => ?_
  refine spec_of_good mixed Try.func46 F46_ok (by kernel_rfl) ?_
  refine good_run 14 (obs := []) (by kernel_rfl) trivial ?_
  refine good_loopJ (fun k : Nat => ⟨[(1, .sv (.int .i64 n)), (0, .sv (ints l)), (6, .sv (ints l)), (7, .sv (.int .i64 l.length)), (8, .sv (.int .i64 k))], []⟩) (fun k => k ≤ l.length ∧ ∀ j, j < k → l.getD j 0 ≠ n) (fun k => l.length - k) (0) [n = n, List.length l = List.length l ∧ ∀ (i : Nat), i < List.length l → (fun i => [SV.int IntKind.i64 (List.getD l i (0 : Int))]) i = (fun i => [SV.int IntKind.i64 (List.getD l i (0 : Int))]) i, List.length l = List.length l ∧ ∀ (i : Nat), i < List.length l → (fun i => [SV.int IntKind.i64 (List.getD l i (0 : Int))]) i = (fun i => [SV.int IntKind.i64 (List.getD l i (0 : Int))]) i, (↑(List.length l) : Int) = (↑(List.length l) : Int), (0 : Int) = (0 : Int)] (by kernel_rfl) (by kernel_rfl) ⟨rfl, ⟨rfl, fun _ _ => rfl⟩, ⟨rfl, fun _ _ => rfl⟩, rfl, rfl, trivial⟩ ?_ ?_
  · exact ⟨Nat.zero_le _, by simp⟩
  · intro k hk
    refine good_run 6 (obs := []) (by kernel_rfl) trivial ?_
    refine good_cond (decide ((↑k : Int) < (↑(List.length l) : Int))) (by kernel_rfl) (fun hc1 => ?_) (fun hc1 => ?_)
    · have hlt : k < l.length := by simp at hc1; omega
      refine good_run 19 (obs := [(1 : Nat) = (1 : Nat) ∧ (0 : Int) ≤ (↑k : Int) ∧ (↑k : Int) < (↑(List.length l) : Int)]) (by kernel_rfl) (by (first | omega | assumption | exact ⟨rfl, trivial⟩ | simp only [AllP, inK_iff, roomOK_iff, decide_eq_true_eq, Bool.and_eq_true, Bool.or_eq_true, Bool.not_eq_true', decide_eq_false_iff_not, and_true, true_and]; (first | omega | (and_intros <;> intros <;> (try and_intros) <;> first | omega | assumption | exact trivial)))) ?_
      refine good_cond (decide (n = List.getD l k (0 : Int))) (by kernel_rfl) (fun hc2 => ?_) (fun hc2 => ?_)
      · refine good_run 9 (obs := []) (by kernel_rfl) trivial ?_
        refine good_leaveJ (by kernel_rfl) ?_
        refine good_run 2 (obs := []) (by kernel_rfl) trivial ?_
        refine good_fin [(↑k : Int) = idxI l n] (by kernel_rfl) ⟨?_, trivial⟩
        have := idxI_hit l n k hlt (by simpa [eq_comm] using hc2) hk.2
        omega
      · refine good_run 7 (obs := [InK IntKind.i64 ((↑k : Int) + (1 : Int))]) (by kernel_rfl) (by (first | omega | assumption | exact ⟨rfl, trivial⟩ | simp only [AllP, inK_iff, roomOK_iff, decide_eq_true_eq, Bool.and_eq_true, Bool.or_eq_true, Bool.not_eq_true', decide_eq_false_iff_not, and_true, true_and]; (first | omega | (and_intros <;> intros <;> (try and_intros) <;> first | omega | assumption | exact trivial)))) ?_
        refine good_backJ (k + 1) [n = n, List.length l = List.length l ∧ ∀ (i : Nat), i < List.length l → (fun i => [SV.int IntKind.i64 (List.getD l i (0 : Int))]) i = (fun i => [SV.int IntKind.i64 (List.getD l i (0 : Int))]) i, List.length l = List.length l ∧ ∀ (i : Nat), i < List.length l → (fun i => [SV.int IntKind.i64 (List.getD l i (0 : Int))]) i = (fun i => [SV.int IntKind.i64 (List.getD l i (0 : Int))]) i, (↑(List.length l) : Int) = (↑(List.length l) : Int), (↑k : Int) + (1 : Int) = (↑(k + (1 : Nat)) : Int)] (by kernel_rfl) (by kernel_rfl) ⟨rfl, ⟨rfl, fun _ _ => rfl⟩, ⟨rfl, fun _ _ => rfl⟩, rfl, (by omega), trivial⟩ ?_ ?_
        · refine ⟨by omega, fun j hj => ?_⟩
          rcases Nat.lt_or_ge j k with h | h
          · exact hk.2 j h
          · have : j = k := by omega
            subst this
            simpa [eq_comm] using hc2
        · show _ < _; omega
    · refine good_run 2 (obs := []) (by kernel_rfl) trivial ?_
      refine good_leaveJ (by kernel_rfl) ?_
      refine good_run 7 (obs := []) (by kernel_rfl) trivial ?_
      refine good_fin [(-1 : Int) = idxI l n] (by kernel_rfl) ⟨?_, trivial⟩
      have : k = l.length := by simp at hc1; omega
      subst this
      simp [idxI, in_of_none l n hk.2]
theorem s29 (l : List Int) (n : Int) : Spec Try.prog 29 [ints l, .int .i64 n] (.bool (inB l n)) := by
  refine spec_of_good mixed Try.func29 F29_ok (by kernel_rfl) ?_
  refine good_run 9 (obs := []) (by kernel_rfl) trivial ?_
  refine good_call (c := True) (by kernel_rfl) (fun _ => SVles.refl _) (fun _ => s46 (l) (n)) (by kernel_rfl) ?_
  refine good_run 5 (obs := []) (by kernel_rfl) trivial ?_
  refine good_fin [decide ((0 : Int) ≤ idxI l n) = inB l n] (by kernel_rfl) ⟨?_, trivial⟩
  by_cases h : n ∈ l
  · simp [inB, idxI, h]
  · simp [inB, idxI, h]
def kindB (p : Permit) (k : Int) : Bool := decide (1 ≤ k) && decide (k ≤ 3) && decide (p.Kinds / 2 ^ (k - 1).toNat % 2 = 1)
def openB (p : Permit) (path : List Int) (day : Int) : Bool := formedB p && inB path p.Unit && decide (p.From ≤ day) && decide (day < p.Until)
def coversB (p : Permit) (reader : Int) (path : List Int) (kind day : Int) : Bool := decide (p.Reader = reader) && openB p path day && kindB p kind
theorem half_le (a : Int) (m : Nat) (h : 0 ≤ a ∧ a ≤ 7) : 0 ≤ a / 2 ^ m ∧ a / 2 ^ m ≤ 7 := by
  have hp : (0 : Int) < 2 ^ m := Int.pow_pos (by omega)
  exact ⟨Int.ediv_nonneg h.1 (by omega), Int.le_trans (Int.ediv_le_self _ h.1) h.2⟩
theorem and_one (a : Int) (h : 0 ≤ a) : (((a.toNat &&& (1 : Int).toNat : Nat) : Int) = 1) ↔ a % 2 = 1 := by
  have : (1 : Int).toNat = 1 := rfl
  rw [this, Nat.and_one_is_mod]
  omega
theorem s36 (p : Permit) (k : Int) (h : 0 ≤ p.Kinds ∧ p.Kinds ≤ 7) : Spec Try.prog 36 [p.sv, .int .i64 k] (.bool (kindB p k)) := by
  refine spec_of_good mixed Try.func36 F36_ok (by kernel_rfl) ?_
  have hh := half_le p.Kinds (k - 1).toNat h
  have hb : IntKind.i64.bits = 64 := rfl
  refine good_run 27 (obs := [(decide ((1 : Int) ≤ k) && decide (k ≤ (3 : Int))) = true ∧ True → InK IntKind.i64 (k - (1 : Int)), (decide ((1 : Int) ≤ k) && decide (k ≤ (3 : Int))) = true ∧ True → (0 : Int) ≤ k - (1 : Int) ∧ Int.toNat (k - (1 : Int)) ≤ IntKind.bits IntKind.i64, (decide ((1 : Int) ≤ k) && decide (k ≤ (3 : Int))) = true ∧ True → IntKind.i64 = IntKind.i64 ∧ (0 : Int) ≤ p.Kinds / (2 : Int) ^ Int.toNat (k - (1 : Int)) ∧ (0 : Int) ≤ (1 : Int) ∧ InK IntKind.i64 (p.Kinds / (2 : Int) ^ Int.toNat (k - (1 : Int))) ∧ InK IntKind.i64 (1 : Int)]) (by kernel_rfl) (by (first | omega | assumption | exact ⟨rfl, trivial⟩ | simp only [AllP, inK_iff, roomOK_iff, decide_eq_true_eq, Bool.and_eq_true, Bool.or_eq_true, Bool.not_eq_true', decide_eq_false_iff_not, and_true, true_and]; (first | omega | (and_intros <;> intros <;> (try and_intros) <;> first | omega | assumption | exact trivial)))) ?_
  refine good_fin [(decide ((1 : Int) ≤ k) && decide (k ≤ (3 : Int)) && decide ((↑(Int.toNat (p.Kinds / (2 : Int) ^ Int.toNat (k - (1 : Int))) &&& (1 : Nat)) : Int) = (1 : Int))) = kindB p k] (by kernel_rfl) ⟨?_, trivial⟩
  simp only [kindB]
  congr 1
  exact decide_eq_decide.2 (and_one _ hh.1)
theorem s35 (p : Permit) (path : List Int) (day : Int) : Spec Try.prog 35 [p.sv, ints path, .int .i64 day] (.bool (openB p path day)) := by
  refine spec_of_good mixed Try.func35 F35_ok (by kernel_rfl) ?_
  refine good_run 9 (obs := [(0 : Nat) + (6 : Nat) ≤ (6 : Nat)]) (by kernel_rfl) (by (first | omega | assumption | exact ⟨rfl, trivial⟩ | simp only [AllP, inK_iff, roomOK_iff, decide_eq_true_eq, Bool.and_eq_true, Bool.or_eq_true, Bool.not_eq_true', decide_eq_false_iff_not, and_true, true_and]; (first | omega | (and_intros <;> intros <;> (try and_intros) <;> first | omega | assumption | exact trivial)))) ?_
  refine good_call (c := True) (by kernel_rfl) (fun _ => SVles.refl _) (fun _ => s40 (p)) (by kernel_rfl) ?_
  refine good_run 5 (obs := []) (by kernel_rfl) trivial ?_
  refine good_call (c := formedB p = true ∧ True) (by kernel_rfl) (fun _ => SVles.refl _) (fun _ => s29 (path) (p.Unit)) (by kernel_rfl) ?_
  refine good_run 20 (obs := []) (by kernel_rfl) trivial ?_
  refine good_fin [(formedB p && inB path p.Unit && decide (p.From ≤ day) && decide (day < p.Until)) = openB p path day] (by kernel_rfl) ⟨(by rfl), trivial⟩
theorem formed_kinds {p : Permit} (h : formedB p = true) : 0 ≤ p.Kinds ∧ p.Kinds ≤ 7 := by
  simp only [formedB, Bool.and_eq_true, decide_eq_true_eq] at h
  omega
theorem s13 (p : Permit) (reader : Int) (path : List Int) (kind day : Int) : Spec Try.prog 13 [p.sv, .int .i64 reader, ints path, .int .i64 kind, .int .i64 day] (.bool (coversB p reader path kind day)) := by
  refine spec_of_good mixed Try.func13 F13_ok (by kernel_rfl) ?_
  refine good_run 17 (obs := [decide (p.Reader = reader) = true ∧ True → (0 : Nat) + (6 : Nat) ≤ (6 : Nat)]) (by kernel_rfl) (by (first | omega | assumption | exact ⟨rfl, trivial⟩ | simp only [AllP, inK_iff, roomOK_iff, decide_eq_true_eq, Bool.and_eq_true, Bool.or_eq_true, Bool.not_eq_true', decide_eq_false_iff_not, and_true, true_and]; (first | omega | (and_intros <;> intros <;> (try and_intros) <;> first | omega | assumption | exact trivial)))) ?_
  refine good_call (c := decide (p.Reader = reader) = true ∧ True) (by kernel_rfl) (fun _ => SVles.refl _) (fun _ => s35 (p) (path) (day)) (by kernel_rfl) ?_
  refine good_run 6 (obs := [(decide (p.Reader = reader) && openB p path day) = true ∧ True → (0 : Nat) + (6 : Nat) ≤ (6 : Nat)]) (by kernel_rfl) (by (first | omega | assumption | exact ⟨rfl, trivial⟩ | simp only [AllP, inK_iff, roomOK_iff, decide_eq_true_eq, Bool.and_eq_true, Bool.or_eq_true, Bool.not_eq_true', decide_eq_false_iff_not, and_true, true_and]; (first | omega | (and_intros <;> intros <;> (try and_intros) <;> first | omega | assumption | exact trivial)))) ?_
  refine good_call (c := (decide (p.Reader = reader) && openB p path day) = true ∧ True) (by kernel_rfl) (fun _ => SVles.refl _) (fun _ => s36 (p) (kind) ?_) (by kernel_rfl) ?_
  · rename_i h
    refine formed_kinds ?_
    simp only [openB, Bool.and_eq_true] at h
    exact h.1.2.1.1.1
  · refine good_run 6 (obs := []) (by kernel_rfl) trivial ?_
    refine good_fin [(decide (p.Reader = reader) && openB p path day && kindB p kind) = coversB p reader path kind day] (by kernel_rfl) ⟨(by rfl), trivial⟩
theorem s15 (p : Permit) (reader : Int) (path : List Int) (kind day : Int) : Spec Try.prog 15 [p.sv, .int .i64 reader, ints path, .int .i64 kind, .int .i64 day] (.bool (coversB p reader path kind day)) := by
  refine spec_of_good mixed Try.func15 F15_ok (by kernel_rfl) ?_
  refine good_run 10 (obs := [(0 : Nat) + (6 : Nat) ≤ (6 : Nat)]) (by kernel_rfl) (by (first | omega | assumption | exact ⟨rfl, trivial⟩ | simp only [AllP, inK_iff, roomOK_iff, decide_eq_true_eq, Bool.and_eq_true, Bool.or_eq_true, Bool.not_eq_true', decide_eq_false_iff_not, and_true, true_and]; (first | omega | (and_intros <;> intros <;> (try and_intros) <;> first | omega | assumption | exact trivial)))) ?_
  refine good_call (c := True) (by kernel_rfl) (fun _ => SVles.refl _) (fun _ => s38 (p)) (by kernel_rfl) ?_
  refine good_run 11 (obs := []) (by kernel_rfl) trivial ?_
  refine good_cond (!formedB p || decide (kind < (1 : Int)) || decide ((3 : Int) < kind)) (by kernel_rfl) (fun hc1 => ?_) (fun hc1 => ?_)
  · refine good_run 7 (obs := []) (by kernel_rfl) trivial ?_
    refine good_fin [false = coversB p reader path kind day] (by kernel_rfl) ⟨?_, trivial⟩
    simp only [Bool.or_eq_true, Bool.not_eq_true', decide_eq_true_eq] at hc1
    simp only [coversB, openB, kindB]
    rcases hc1 with (h | h) | h
    · simp [h]
    · have : decide (1 ≤ kind) = false := by simp; omega
      simp [this]
    · have : decide (kind ≤ 3) = false := by simp; omega
      simp [this]
  · simp only [Bool.or_eq_false_iff, Bool.not_eq_false', decide_eq_false_iff_not] at hc1
    have hk : kind = 1 ∨ kind = 2 ∨ kind = 3 := by omega
    have hf := formed_kinds hc1.1.1
    have h5 := hc1.1.1
    rcases hk with rfl | rfl | rfl
    · refine good_run 11 (obs := []) (by kernel_rfl) trivial ?_
      refine good_call (c := decide (p.Reader = reader) = true ∧ True) (by kernel_rfl) (fun _ => SVles.refl _) (fun _ => s39 (path) (p.Unit)) (by kernel_rfl) ?_
      refine good_run 31 (obs := [(decide (p.Reader = reader) && inB path p.Unit) = true ∧ True → InK IntKind.i64 ((1 : Int) - (1 : Int)), (decide (p.Reader = reader) && inB path p.Unit) = true ∧ True → (1 : Nat) = (1 : Nat) ∧ (0 : Int) ≤ (1 : Int) - (1 : Int) ∧ (1 : Int) - (1 : Int) < (3 : Int), (decide (p.Reader = reader) && inB path p.Unit) = true ∧ True → (0 : Int) ≤ p.Kinds ∧ (0 : Int) < (1 : Int) ∧ InK IntKind.i64 (p.Kinds / (1 : Int)), (decide (p.Reader = reader) && inB path p.Unit) = true ∧ True → (0 : Int) ≤ p.Kinds / (1 : Int) ∧ (0 : Int) < (2 : Int)]) (by kernel_rfl) (by (first | omega | assumption | exact ⟨rfl, trivial⟩ | simp only [AllP, inK_iff, roomOK_iff, decide_eq_true_eq, Bool.and_eq_true, Bool.or_eq_true, Bool.not_eq_true', decide_eq_false_iff_not, and_true, true_and]; (first | omega | (and_intros <;> intros <;> (try and_intros) <;> first | omega | assumption | exact trivial)))) ?_
      refine good_fin [(decide (p.Reader = reader) && inB path p.Unit && decide (p.Kinds / (1 : Int) % (2 : Int) = (1 : Int)) && decide (p.From ≤ day) && decide (day < p.Until)) = coversB p reader path (1 : Int) day] (by kernel_rfl) ⟨?_, trivial⟩
      simp only [coversB, openB, h5]
      have e : kindB p 1 = decide (p.Kinds / 1 % 2 = 1) := rfl
      rw [e, Bool.true_and]
      ac_rfl
    · refine good_run 11 (obs := []) (by kernel_rfl) trivial ?_
      refine good_call (c := decide (p.Reader = reader) = true ∧ True) (by kernel_rfl) (fun _ => SVles.refl _) (fun _ => s39 (path) (p.Unit)) (by kernel_rfl) ?_
      refine good_run 31 (obs := [(decide (p.Reader = reader) && inB path p.Unit) = true ∧ True → InK IntKind.i64 ((2 : Int) - (1 : Int)), (decide (p.Reader = reader) && inB path p.Unit) = true ∧ True → (1 : Nat) = (1 : Nat) ∧ (0 : Int) ≤ (2 : Int) - (1 : Int) ∧ (2 : Int) - (1 : Int) < (3 : Int), (decide (p.Reader = reader) && inB path p.Unit) = true ∧ True → (0 : Int) ≤ p.Kinds ∧ (0 : Int) < (2 : Int) ∧ InK IntKind.i64 (p.Kinds / (2 : Int)), (decide (p.Reader = reader) && inB path p.Unit) = true ∧ True → (0 : Int) ≤ p.Kinds / (2 : Int) ∧ (0 : Int) < (2 : Int)]) (by kernel_rfl) (by (first | omega | assumption | exact ⟨rfl, trivial⟩ | simp only [AllP, inK_iff, roomOK_iff, decide_eq_true_eq, Bool.and_eq_true, Bool.or_eq_true, Bool.not_eq_true', decide_eq_false_iff_not, and_true, true_and]; (first | omega | (and_intros <;> intros <;> (try and_intros) <;> first | omega | assumption | exact trivial)))) ?_
      refine good_fin [(decide (p.Reader = reader) && inB path p.Unit && decide (p.Kinds / (2 : Int) % (2 : Int) = (1 : Int)) && decide (p.From ≤ day) && decide (day < p.Until)) = coversB p reader path (2 : Int) day] (by kernel_rfl) ⟨?_, trivial⟩
      simp only [coversB, openB, h5]
      have e : kindB p 2 = decide (p.Kinds / 2 % 2 = 1) := rfl
      rw [e, Bool.true_and]
      ac_rfl
    · refine good_run 11 (obs := []) (by kernel_rfl) trivial ?_
      refine good_call (c := decide (p.Reader = reader) = true ∧ True) (by kernel_rfl) (fun _ => SVles.refl _) (fun _ => s39 (path) (p.Unit)) (by kernel_rfl) ?_
      refine good_run 31 (obs := [(decide (p.Reader = reader) && inB path p.Unit) = true ∧ True → InK IntKind.i64 ((3 : Int) - (1 : Int)), (decide (p.Reader = reader) && inB path p.Unit) = true ∧ True → (1 : Nat) = (1 : Nat) ∧ (0 : Int) ≤ (3 : Int) - (1 : Int) ∧ (3 : Int) - (1 : Int) < (3 : Int), (decide (p.Reader = reader) && inB path p.Unit) = true ∧ True → (0 : Int) ≤ p.Kinds ∧ (0 : Int) < (4 : Int) ∧ InK IntKind.i64 (p.Kinds / (4 : Int)), (decide (p.Reader = reader) && inB path p.Unit) = true ∧ True → (0 : Int) ≤ p.Kinds / (4 : Int) ∧ (0 : Int) < (2 : Int)]) (by kernel_rfl) (by (first | omega | assumption | exact ⟨rfl, trivial⟩ | simp only [AllP, inK_iff, roomOK_iff, decide_eq_true_eq, Bool.and_eq_true, Bool.or_eq_true, Bool.not_eq_true', decide_eq_false_iff_not, and_true, true_and]; (first | omega | (and_intros <;> intros <;> (try and_intros) <;> first | omega | assumption | exact trivial)))) ?_
      refine good_fin [(decide (p.Reader = reader) && inB path p.Unit && decide (p.Kinds / (4 : Int) % (2 : Int) = (1 : Int)) && decide (p.From ≤ day) && decide (day < p.Until)) = coversB p reader path (3 : Int) day] (by kernel_rfl) ⟨?_, trivial⟩
      simp only [coversB, openB, h5]
      have e : kindB p 3 = decide (p.Kinds / 4 % 2 = 1) := rfl
      rw [e, Bool.true_and]
      ac_rfl
theorem s12 (l : List Permit) (path : List Int) : Spec Try.prog 12 [permits l, ints path] (.bool (decide (l.length ≤ 20) && decide (path.length ≤ 20))) := by
  refine spec_of_good mixed Try.func12 F12_ok (by kernel_rfl) ?_
  refine good_run 19 (obs := []) (by kernel_rfl) trivial ?_
  refine good_fin [(decide ((↑(List.length l) : Int) ≤ (20 : Int)) && decide ((↑(List.length path) : Int) ≤ (20 : Int))) = (decide (List.length l ≤ (20 : Nat)) && decide (List.length path ≤ (20 : Nat)))] (by kernel_rfl) ⟨?_, trivial⟩
  congr 1 <;> exact decide_eq_decide.2 (by omega)
theorem s12a (l : List Permit) : Spec Try.prog 12 [permits l, .val (.slice none 0 0)] (.bool (decide (l.length ≤ 20))) := by
  refine spec_of_good mixed Try.func12 F12_ok (by kernel_rfl) ?_
  refine good_run 19 (obs := []) (by kernel_rfl) trivial ?_
  refine good_fin [(decide ((↑(List.length l) : Int) ≤ (20 : Int)) && decide ((0 : Int) ≤ (20 : Int))) = decide (List.length l ≤ (20 : Nat))] (by kernel_rfl) ⟨?_, trivial⟩
  have : decide ((0 : Int) ≤ 20) = true := rfl
  rw [this, Bool.and_true]
  exact decide_eq_decide.2 (by omega)
end Go.Sx.T
