/- Contracts of functions of the program, each proved by running its code symbolically (RG). -/
import Derived.Test.YtdiikneggikfkaaRF
import Derived.Test.YtdiikneggikfkaaRI
import Derived.Test.YtdiikneggikfkaaRS
namespace Go.Sx.T
open Go Go.Proofs Go.Sx
set_option maxRecDepth 100000
set_option maxHeartbeats 4000000
set_option linter.unusedVariables false
set_option linter.unusedSimpArgs false
def startsL (l : List Bk) (f u : Int) : List Int := compactI (isort (begL l f u))
theorem startsL_spec (l : List Bk) (f u : Int) : (startsL l f u).Pairwise (· < ·) ∧ ∀ x, x ∈ startsL l f u ↔ x ∈ begL l f u := by
  obtain ⟨h1, h2, _⟩ := cmpP_spec _ (isort_sorted (begL l f u)) _ (Nat.le_refl _)
  refine ⟨h1, fun x => ?_⟩
  unfold startsL compactI
  rw [h2, List.take_length, (isort_perm _).mem_iff]
theorem any_mem {a b : List Int} (p : Int → Bool) (h : ∀ x, x ∈ a ↔ x ∈ b) : a.any p = b.any p := by
  rw [Bool.eq_iff_iff, List.any_eq_true, List.any_eq_true]
  exact ⟨fun ⟨x, hx, hp⟩ => ⟨x, (h x).1 hx, hp⟩, fun ⟨x, hx, hp⟩ => ⟨x, (h x).2 hx, hp⟩⟩
theorem begL_take (l : List Bk) (f u : Int) (k : Nat) (hk : k < l.length) : begL (l.take (k + 1)) f u = if inB f u (l.getD k default) = true then begL (l.take k) f u ++ [(l.getD k default).F] else begL (l.take k) f u := by
  unfold begL
  rw [take_snoc l default k hk, List.filter_append]
  by_cases h : inB f u (l.getD k default) = true
  · rw [if_pos h, List.filter_cons_of_pos h]; simp
  · rw [if_neg h, List.filter_cons_of_neg h]; simp
def rowI (l : List Int) : Blk := .row 3 1 l.length true fun i => [.int .i64 (l.getD i 0)]
theorem s29 (l : List Bk) (f u : Int) (hl : l.length ≤ 10000) : SpecOwn Try.prog 29 [bks l, .agg [.int .i64 f, .int .i64 u]] 3 1 (startsL l f u).length fun i => [.int .i64 ((startsL l f u).getD i 0)] := by
  refine specOwn_of_good mixed Try.func29 F29_ok (by kernel_rfl) ?_
  refine good_run 23 (obs := []) (by kernel_rfl) trivial ?_
  refine good_loopJ (fun k : Nat => ⟨[(13, .sv (.int .i64 (k))), (5, .own 1), (12, LV.sv (SV.int IntKind.i64 (↑(List.length l) : Int))), (11, LV.sv (SV.lst (4 : Nat) (List.length l) fun i => Bk.cells (List.getD l i default))), (3, LV.ptr (0 : Nat) (0 : Nat))], [Blk.cells (29 : Nat) true [SV.int IntKind.i64 f, SV.int IntKind.i64 u], rowI (begL (l.take k) f u)]⟩) (fun k => k ≤ l.length) (fun k => l.length - k) (0) [f = f, u = u, (1 : Nat) = (1 : Nat) ∧ ∀ (i : Nat), i < (1 : Nat) → cutRows (1 : Nat) [SV.int IntKind.i64 f] i = (fun i => [SV.int IntKind.i64 (List.getD (begL (List.take (0 : Nat) l) f u) i (0 : Int))]) i, (0 : Int) = (0 : Int), (↑(List.length l) : Int) = (↑(List.length l) : Int), List.length l = List.length l ∧ ∀ (i : Nat), i < List.length l → (fun i => Bk.cells (List.getD l i default)) i = (fun i => Bk.cells (List.getD l i default)) i] (by kernel_rfl) (by kernel_rfl) ⟨rfl, rfl, ?_, rfl, rfl, ⟨rfl, fun _ _ => rfl⟩, trivial⟩ (by omega) ?_
  · exact ⟨rfl, fun i hi => by have : i = 0 := by omega
                               subst this; rfl⟩
  intro k hk
  have hbl := begL_len (l.take k) f u
  rw [List.length_take] at hbl
  refine good_run 6 (obs := []) (by kernel_rfl) trivial ?_
  refine good_cond (decide ((↑k : Int) < (↑(List.length l) : Int))) (by kernel_rfl) (fun hc1 => ?_) (fun hc1 => ?_)
  · have hlt : k < l.length := by simp only [decide_eq_true_eq] at hc1; omega
    have ht := begL_take l f u k hlt
    refine good_run 15 (obs := [(4 : Nat) = (4 : Nat) ∧ (0 : Int) ≤ (↑k : Int) ∧ (↑k : Int) < (↑(List.length l) : Int), (0 : Nat) + (4 : Nat) ≤ (4 : Nat), (4 : Nat) = (4 : Nat) ∧ (0 : Nat) + (4 : Nat) ≤ (4 : Nat), (2 : Nat) + (2 : Nat) ≤ (4 : Nat)]) (by kernel_rfl) (by (first | omega | assumption | exact ⟨rfl, trivial⟩ | simp only [AllP, inK_iff, roomOK_iff, decide_eq_true_eq, Bool.and_eq_true, Bool.or_eq_true, Bool.not_eq_true', decide_eq_false_iff_not, and_true, true_and]; (first | omega | (and_intros <;> intros <;> (try and_intros) <;> first | omega | assumption | exact trivial)))) ?_
    refine good_call (c := True) (by kernel_rfl) (fun _ => SVles.refl _) (fun _ => s33 ((List.getD l k default).F) ((List.getD l k default).U)) (by kernel_rfl) ?_
    refine good_run 18 (obs := []) (by kernel_rfl) trivial ?_
    refine good_cond (okSpan (List.getD l k default).F (List.getD l k default).U && decide (f < (List.getD l k default).F) && decide ((List.getD l k default).F < u)) (by kernel_rfl) (fun hc2 => ?_) (fun hc2 => ?_)
    · have hin : inB f u (l.getD k default) = true := hc2
      rw [if_pos hin] at ht
      refine good_run 16 (obs := [(3 : Nat) = (3 : Nat) ∧ (1 : Nat) = (1 : Nat) ∧ (1 : Nat) = (1 : Nat) ∧ roomOK (List.length (begL (List.take k l) f u) + (1 : Nat)) (8 : Nat), InK IntKind.i64 ((↑k : Int) + (1 : Int))]) (by kernel_rfl) (by (first | omega | assumption | exact ⟨rfl, trivial⟩ | simp only [AllP, inK_iff, roomOK_iff, decide_eq_true_eq, Bool.and_eq_true, Bool.or_eq_true, Bool.not_eq_true', decide_eq_false_iff_not, and_true, true_and]; (first | omega | (and_intros <;> intros <;> (try and_intros) <;> first | omega | assumption | exact trivial)))) ?_
      refine good_backJ (k + 1) [f = f, u = u, List.length (begL (List.take k l) f u) + (1 : Nat) = List.length (begL (List.take (k + (1 : Nat)) l) f u) ∧ ∀ (i : Nat), i < List.length (begL (List.take k l) f u) + (1 : Nat) → joinGet (List.length (begL (List.take k l) f u)) (fun i => [SV.int IntKind.i64 (List.getD (begL (List.take k l) f u) i (0 : Int))]) (cutRows (1 : Nat) [SV.int IntKind.i64 (List.getD l k default).F]) i = (fun i => [SV.int IntKind.i64 (List.getD (begL (List.take (k + (1 : Nat)) l) f u) i (0 : Int))]) i, (↑k : Int) + (1 : Int) = (↑(k + (1 : Nat)) : Int), (↑(List.length l) : Int) = (↑(List.length l) : Int), List.length l = List.length l ∧ ∀ (i : Nat), i < List.length l → (fun i => Bk.cells (List.getD l i default)) i = (fun i => Bk.cells (List.getD l i default)) i] (by kernel_rfl) (by kernel_rfl) ⟨rfl, rfl, ?_, (by omega), rfl, ⟨rfl, fun _ _ => rfl⟩, trivial⟩ (by omega) (by show _ < _; omega)
      rw [ht]
      exact row_snoc' (fun x => [SV.int .i64 x]) 0 _ _ 1 rfl
    · have hin : ¬ inB f u (l.getD k default) = true := by rw [show inB f u (l.getD k default) = false from hc2]; decide
      rw [if_neg hin] at ht
      refine good_run 7 (obs := [InK IntKind.i64 ((↑k : Int) + (1 : Int))]) (by kernel_rfl) (by (first | omega | assumption | exact ⟨rfl, trivial⟩ | simp only [AllP, inK_iff, roomOK_iff, decide_eq_true_eq, Bool.and_eq_true, Bool.or_eq_true, Bool.not_eq_true', decide_eq_false_iff_not, and_true, true_and]; (first | omega | (and_intros <;> intros <;> (try and_intros) <;> first | omega | assumption | exact trivial)))) ?_
      refine good_backJ (k + 1) [f = f, u = u, List.length (begL (List.take k l) f u) = List.length (begL (List.take (k + (1 : Nat)) l) f u) ∧ ∀ (i : Nat), i < List.length (begL (List.take k l) f u) → (fun i => [SV.int IntKind.i64 (List.getD (begL (List.take k l) f u) i (0 : Int))]) i = (fun i => [SV.int IntKind.i64 (List.getD (begL (List.take (k + (1 : Nat)) l) f u) i (0 : Int))]) i, (↑k : Int) + (1 : Int) = (↑(k + (1 : Nat)) : Int), (↑(List.length l) : Int) = (↑(List.length l) : Int), List.length l = List.length l ∧ ∀ (i : Nat), i < List.length l → (fun i => Bk.cells (List.getD l i default)) i = (fun i => Bk.cells (List.getD l i default)) i] (by kernel_rfl) (by kernel_rfl) ⟨rfl, rfl, ?_, (by omega), rfl, ⟨rfl, fun _ _ => rfl⟩, trivial⟩ (by omega) (by show _ < _; omega)
      rw [ht]
      exact ⟨rfl, fun _ _ => rfl⟩
  · have : k = l.length := by simp only [decide_eq_false_iff_not] at hc1; omega
    subst this
    rw [List.take_length] at hbl ⊢
    have hil := isort_length (begL l f u)
    have s47a := s47 (isort (begL l f u)) (by omega)
    rw [hil] at s47a
    refine good_run 2 (obs := []) (by kernel_rfl) trivial ?_
    refine good_leaveJ (by kernel_rfl) ?_
    refine good_run 4 (obs := []) (by kernel_rfl) trivial ?_
    refine good_sort (by kernel_rfl) (SVles.refl _) (SVles.refl _) (s44 ((3 : Nat)) (begL l f u) (by (first | omega | assumption | exact ⟨rfl, trivial⟩ | simp only [AllP, inK_iff, roomOK_iff, decide_eq_true_eq, Bool.and_eq_true, Bool.or_eq_true, Bool.not_eq_true', decide_eq_false_iff_not, and_true, true_and]; (first | omega | (and_intros <;> intros <;> (try and_intros) <;> first | omega | assumption | exact trivial))))) ?_
    refine good_run 5 (obs := []) (by kernel_rfl) trivial ?_
    refine good_take (by kernel_rfl) (SVles.refl _) (SVles.refl _) (s47a) ?_
    refine good_run 4 (obs := []) (by kernel_rfl) trivial ?_
    refine good_finOwn [List.length (compactI (isort (begL l f u))) = List.length (startsL l f u) ∧ ∀ (j : Nat), j < List.length (startsL l f u) → (fun i => [SV.int IntKind.i64 (List.getD (compactI (isort (begL l f u))) i (0 : Int))]) j = (fun i => [SV.int IntKind.i64 (List.getD (startsL l f u) i (0 : Int))]) j] (by kernel_rfl) ⟨?_, trivial⟩
    exact ⟨rfl, fun _ _ => rfl⟩
theorem s56 (l : List Bk) (s d : Int) : Spec Try.prog 56 [.int .i64 d, .ref [bks l] 0, .ref [.int .i64 s] 0] (.bool (decide (s ≤ (loadL l d : Int)))) := by
  refine spec_of_good mixed Try.func56 F56_ok (by kernel_rfl) ?_
  refine good_run 9 (obs := []) (by kernel_rfl) trivial ?_
  refine good_call (c := True) (by kernel_rfl) (fun _ => SVles.refl _) (fun _ => s16 (l) (d)) (by kernel_rfl) ?_
  refine good_run 6 (obs := []) (by kernel_rfl) trivial ?_
  refine good_fin [decide (s ≤ (↑(loadL l d) : Int)) = decide (s ≤ (↑(loadL l d) : Int))] (by kernel_rfl) ⟨rfl, trivial⟩
theorem s46 (l : List Bk) (f u s : Int) (hl : l.length ≤ 10000) : Spec Try.prog 46 [bks l, .agg [.int .i64 f, .int .i64 u], .int .i64 s] (.bool (fullP l f u s)) := by
  refine spec_of_good mixed Try.func46 F46_ok (by kernel_rfl) ?_
  refine good_run 12 (obs := [(0 : Nat) + (2 : Nat) ≤ (2 : Nat)]) (by kernel_rfl) (by (first | omega | assumption | exact ⟨rfl, trivial⟩ | simp only [AllP, inK_iff, roomOK_iff, decide_eq_true_eq, Bool.and_eq_true, Bool.or_eq_true, Bool.not_eq_true', decide_eq_false_iff_not, and_true, true_and]; (first | omega | (and_intros <;> intros <;> (try and_intros) <;> first | omega | assumption | exact trivial)))) ?_
  refine good_own (c := True) (by kernel_rfl) (by kernel_rfl) (SVles.refl _) (s29 (l) (f) (u) (by (first | omega | assumption | exact ⟨rfl, trivial⟩ | simp only [AllP, inK_iff, roomOK_iff, decide_eq_true_eq, Bool.and_eq_true, Bool.or_eq_true, Bool.not_eq_true', decide_eq_false_iff_not, and_true, true_and]; (first | omega | (and_intros <;> intros <;> (try and_intros) <;> first | omega | assumption | exact trivial))))) ?_
  refine good_run 1 (obs := []) (by kernel_rfl) trivial ?_
  refine good_call (c := True) (by kernel_rfl) (fun _ => SVles.refl _) (fun _ => s55 (startsL l f u) 56 _ (fun d => decide (s ≤ (loadL l d : Int))) (fun d => s56 l s d)) (by kernel_rfl) ?_
  have := any_mem (fun d => decide (s ≤ (loadL l d : Int))) (startsL_spec l f u).2
  refine good_run 4 (obs := []) (by kernel_rfl) trivial ?_
  refine good_fin [(List.any (startsL l f u) fun d => decide (s ≤ (↑(loadL l d) : Int))) = fullP l f u s] (by kernel_rfl) ⟨(by assumption), trivial⟩
theorem s31 (s : Int) (l : List Bk) (b : Bk) (hl : l.length ≤ 10000) : Spec Try.prog 31 [.int .i64 s, bks l, b.sv] (.int .i64 (faultP s l b)) := by
  refine spec_of_good mixed Try.func31 F31_ok (by kernel_rfl) ?_
  have e1 : ((l.length : Int) - 1).toNat = l.length - 1 := by omega
  refine good_run 12 (obs := []) (by kernel_rfl) trivial ?_
  refine good_call (c := True) (by kernel_rfl) (fun _ => SVles.refl _) (fun _ => s43 (b.ID)) (by kernel_rfl) ?_
  refine good_run 5 (obs := []) (by kernel_rfl) trivial ?_
  refine good_call (c := (!okId b.ID) = false ∧ True) (by kernel_rfl) (fun _ => SVles.refl _) (fun _ => s43 (b.Rd)) (by kernel_rfl) ?_
  refine good_run 7 (obs := [(!okId b.ID || !okId b.Rd) = false ∧ True → (2 : Nat) + (2 : Nat) ≤ (4 : Nat)]) (by kernel_rfl) (by (first | omega | assumption | exact ⟨rfl, trivial⟩ | simp only [AllP, inK_iff, roomOK_iff, decide_eq_true_eq, Bool.and_eq_true, Bool.or_eq_true, Bool.not_eq_true', decide_eq_false_iff_not, and_true, true_and]; (first | omega | (and_intros <;> intros <;> (try and_intros) <;> first | omega | assumption | exact trivial)))) ?_
  refine good_call (c := (!okId b.ID || !okId b.Rd) = false ∧ True) (by kernel_rfl) (fun _ => SVles.refl _) (fun _ => s33 (b.F) (b.U)) (by kernel_rfl) ?_
  refine good_run 6 (obs := []) (by kernel_rfl) trivial ?_
  refine good_cond (!okId b.ID || !okId b.Rd || !okSpan b.F b.U) (by kernel_rfl) (fun hc1 => ?_) (fun hc1 => ?_)
  · have : faultP s l b = 2 := by unfold faultP; rw [if_pos hc1]
    rw [this]
    refine good_run 8 (obs := []) (by kernel_rfl) trivial ?_
    refine good_fin [(2 : Int) = (2 : Int)] (by kernel_rfl) ⟨rfl, trivial⟩
  · have e : ¬ (!okId b.ID || !okId b.Rd || !okSpan b.F b.U) = true := by rw [hc1]; decide
    refine good_run 20 (obs := [decide ((0 : Int) < (↑(List.length l) : Int)) = true ∧ True → InK IntKind.i64 ((↑(List.length l) : Int) - (1 : Int)), decide ((0 : Int) < (↑(List.length l) : Int)) = true ∧ True → (4 : Nat) = (4 : Nat) ∧ (0 : Int) ≤ (↑(List.length l) : Int) - (1 : Int) ∧ (↑(List.length l) : Int) - (1 : Int) < (↑(List.length l) : Int)]) (by kernel_rfl) (by (first | omega | assumption | exact ⟨rfl, trivial⟩ | simp only [AllP, inK_iff, roomOK_iff, decide_eq_true_eq, Bool.and_eq_true, Bool.or_eq_true, Bool.not_eq_true', decide_eq_false_iff_not, and_true, true_and]; (first | omega | (and_intros <;> intros <;> (try and_intros) <;> first | omega | assumption | exact trivial)))) ?_
    refine good_cond (decide ((0 : Int) < (↑(List.length l) : Int)) && decide (b.ID ≤ (List.getD l (Int.toNat ((↑(List.length l) : Int) - (1 : Int))) default).ID)) (by kernel_rfl) (fun hc2 => ?_) (fun hc2 => ?_)
    · have e2 : (decide (0 < (l.length : Int)) && decide (b.ID ≤ (lastB l).ID)) = true := by
        rw [e1] at hc2; exact hc2
      have : faultP s l b = 5 := by unfold faultP; rw [if_neg e, if_pos e2]
      rw [this]
      refine good_run 8 (obs := []) (by kernel_rfl) trivial ?_
      refine good_fin [(5 : Int) = (5 : Int)] (by kernel_rfl) ⟨rfl, trivial⟩
    · have e2 : ¬ (decide (0 < (l.length : Int)) && decide (b.ID ≤ (lastB l).ID)) = true := by
        rw [e1] at hc2; intro h; rw [show (decide (0 < (l.length : Int)) && decide (b.ID ≤ (l.getD (l.length - 1) default).ID)) = true from h] at hc2; cases hc2
      refine good_run 7 (obs := [(2 : Nat) + (2 : Nat) ≤ (4 : Nat)]) (by kernel_rfl) (by (first | omega | assumption | exact ⟨rfl, trivial⟩ | simp only [AllP, inK_iff, roomOK_iff, decide_eq_true_eq, Bool.and_eq_true, Bool.or_eq_true, Bool.not_eq_true', decide_eq_false_iff_not, and_true, true_and]; (first | omega | (and_intros <;> intros <;> (try and_intros) <;> first | omega | assumption | exact trivial)))) ?_
      refine good_call (c := True) (by kernel_rfl) (fun _ => SVles.refl _) (fun _ => s45 (l) (b.Rd) (b.F) (b.U)) (by kernel_rfl) ?_
      refine good_run 3 (obs := []) (by kernel_rfl) trivial ?_
      refine good_cond (busyL l b.Rd b.F b.U) (by kernel_rfl) (fun hc3 => ?_) (fun hc3 => ?_)
      · have : faultP s l b = 6 := by unfold faultP; rw [if_neg e, if_neg e2, if_pos hc3]
        rw [this]
        refine good_run 8 (obs := []) (by kernel_rfl) trivial ?_
        refine good_fin [(6 : Int) = (6 : Int)] (by kernel_rfl) ⟨rfl, trivial⟩
      · have e3 : ¬ busyL l b.Rd b.F b.U = true := by rw [hc3]; decide
        refine good_run 6 (obs := [(2 : Nat) + (2 : Nat) ≤ (4 : Nat)]) (by kernel_rfl) (by (first | omega | assumption | exact ⟨rfl, trivial⟩ | simp only [AllP, inK_iff, roomOK_iff, decide_eq_true_eq, Bool.and_eq_true, Bool.or_eq_true, Bool.not_eq_true', decide_eq_false_iff_not, and_true, true_and]; (first | omega | (and_intros <;> intros <;> (try and_intros) <;> first | omega | assumption | exact trivial)))) ?_
        refine good_call (c := True) (by kernel_rfl) (fun _ => SVles.refl _) (fun _ => s46 (l) (b.F) (b.U) (s) (by (first | omega | assumption | exact ⟨rfl, trivial⟩ | simp only [AllP, inK_iff, roomOK_iff, decide_eq_true_eq, Bool.and_eq_true, Bool.or_eq_true, Bool.not_eq_true', decide_eq_false_iff_not, and_true, true_and]; (first | omega | (and_intros <;> intros <;> (try and_intros) <;> first | omega | assumption | exact trivial))))) (by kernel_rfl) ?_
        refine good_run 3 (obs := []) (by kernel_rfl) trivial ?_
        refine good_cond (fullP l b.F b.U s) (by kernel_rfl) (fun hc4 => ?_) (fun hc4 => ?_)
        · have : faultP s l b = 12 := by unfold faultP; rw [if_neg e, if_neg e2, if_neg e3, if_pos hc4]
          rw [this]
          refine good_run 8 (obs := []) (by kernel_rfl) trivial ?_
          refine good_fin [(12 : Int) = (12 : Int)] (by kernel_rfl) ⟨rfl, trivial⟩
        · have : faultP s l b = 0 := by unfold faultP; rw [if_neg e, if_neg e2, if_neg e3, if_neg (by rw [hc4]; decide)]
          rw [this]
          refine good_run 8 (obs := []) (by kernel_rfl) trivial ?_
          refine good_fin [(0 : Int) = (0 : Int)] (by kernel_rfl) ⟨rfl, trivial⟩
theorem s14 (s : Int) (l : List Bk) : Spec Try.prog 14 [.int .i64 s, bks l] (.int .i64 (checkL s l)) := by
  refine spec_len 1 rfl (hasBody_of_slim Try.func14 F14_ok) fun hlen => ?_
  refine spec_of_good mixed Try.func14 F14_ok (by kernel_rfl) ?_
  refine good_run 18 (obs := []) (by kernel_rfl) trivial ?_
  refine good_cond (decide (s < (1 : Int)) || decide ((32 : Int) < s)) (by kernel_rfl) (fun hc1 => ?_) (fun hc1 => ?_)
  · have : checkL s l = 1 := by
      unfold checkL okSeats
      rw [if_pos]
      simp only [Bool.or_eq_true, decide_eq_true_eq, Bool.not_eq_true', Bool.and_eq_false_iff, decide_eq_false_iff_not] at hc1 ⊢
      omega
    rw [this]
    refine good_run 8 (obs := []) (by kernel_rfl) trivial ?_
    refine good_fin [(1 : Int) = (1 : Int)] (by kernel_rfl) ⟨rfl, trivial⟩
  · have h1 : ¬ (!okSeats s) = true := by
      unfold okSeats
      simp only [Bool.or_eq_false_iff, decide_eq_false_iff_not, Bool.not_eq_true', Bool.and_eq_false_iff] at hc1 ⊢
      omega
    refine good_run 8 (obs := []) (by kernel_rfl) trivial ?_
    refine good_cond (decide ((1024 : Int) < (↑(List.length l) : Int))) (by kernel_rfl) (fun hc2 => ?_) (fun hc2 => ?_)
    · have : checkL s l = 8 := by unfold checkL; rw [if_neg h1, if_pos (by simpa using hc2)]
      rw [this]
      refine good_run 8 (obs := []) (by kernel_rfl) trivial ?_
      refine good_fin [(8 : Int) = (8 : Int)] (by kernel_rfl) ⟨rfl, trivial⟩
    · have hll : l.length ≤ 1024 := by simp only [decide_eq_false_iff_not] at hc2; omega
      have hR : checkL s l = errFrom (errB s l) l.length 0 := by unfold checkL; rw [if_neg h1, if_neg (by omega)]
      refine good_run 11 (obs := []) (by kernel_rfl) trivial ?_
      refine good_loopJ (fun k : Nat => ⟨[(21, .sv (.int .i64 (k))), (20, LV.sv (SV.int IntKind.i64 (↑(List.length l) : Int))), (19, LV.sv (SV.lst (4 : Nat) (List.length l) fun i => Bk.cells (List.getD l i default))), (0, LV.sv (SV.int IntKind.i64 s)), (1, LV.sv (SV.lst (4 : Nat) (List.length l) fun i => Bk.cells (List.getD l i default)))], []⟩) (fun k => k ≤ l.length ∧ checkL s l = errFrom (errB s l) (l.length - k) k) (fun k => l.length - k) (0) [(0 : Int) = (0 : Int), (↑(List.length l) : Int) = (↑(List.length l) : Int), List.length l = List.length l ∧ ∀ (i : Nat), i < List.length l → (fun i => Bk.cells (List.getD l i default)) i = (fun i => Bk.cells (List.getD l i default)) i, s = s, List.length l = List.length l ∧ ∀ (i : Nat), i < List.length l → (fun i => Bk.cells (List.getD l i default)) i = (fun i => Bk.cells (List.getD l i default)) i] (by kernel_rfl) (by kernel_rfl) ⟨rfl, rfl, ⟨rfl, fun _ _ => rfl⟩, rfl, ⟨rfl, fun _ _ => rfl⟩, trivial⟩ ⟨by omega, by omega⟩ ?_
      intro k hk
      refine good_run 6 (obs := []) (by kernel_rfl) trivial ?_
      refine good_cond (decide ((↑k : Int) < (↑(List.length l) : Int))) (by kernel_rfl) (fun hc3 => ?_) (fun hc3 => ?_)
      · have hlt : k < l.length := by simp only [decide_eq_true_eq] at hc3; omega
        have hst := errFrom_step (errB s l) l.length k hlt
        have htl : (l.take k).length = k := by rw [List.length_take]; omega
        have hf : errB s l k = faultP s (l.take k) (l.getD k default) := rfl
        have s31' := s31 s (l.take k) (l.getD k default) (by omega)
        refine good_run 20 (obs := [(4 : Nat) = (4 : Nat) ∧ (0 : Int) ≤ (↑k : Int) ∧ (↑k : Int) < (↑(List.length l) : Int), (0 : Nat) + (4 : Nat) ≤ (4 : Nat), (4 : Nat) = (4 : Nat) ∧ (0 : Nat) + (4 : Nat) ≤ (4 : Nat), True → (4 : Nat) = (4 : Nat) ∧ (0 : Int) ≤ (0 : Int) ∧ (0 : Int) ≤ (↑k : Int) ∧ (↑k : Int) ≤ (↑(List.length l) : Int), True → (0 : Nat) + (4 : Nat) ≤ (4 : Nat)]) (by kernel_rfl) (by (first | omega | assumption | exact ⟨rfl, trivial⟩ | simp only [AllP, inK_iff, roomOK_iff, decide_eq_true_eq, Bool.and_eq_true, Bool.or_eq_true, Bool.not_eq_true', decide_eq_false_iff_not, and_true, true_and]; (first | omega | (and_intros <;> intros <;> (try and_intros) <;> first | omega | assumption | exact trivial)))) ?_
        refine good_call (args := [SV.int IntKind.i64 s, SV.lst (4 : Nat) (k - (0 : Nat)) fun i => (fun i => Bk.cells (List.getD l i default)) (Int.toNat (0 : Int) + i), SV.agg [SV.int IntKind.i64 (List.getD l k default).ID, SV.int IntKind.i64 (List.getD l k default).Rd, SV.int IntKind.i64 (List.getD l k default).F, SV.int IntKind.i64 (List.getD l k default).U]]) (c := True) (by kernel_rfl) (fun _ => show SVles _ [.int .i64 s, bks (l.take k), (l.getD k default).sv] from ⟨SVle.refl _, take_bks l k hk.1, SVle.refl _, trivial⟩) (fun _ => s31') (by kernel_rfl) ?_
        refine good_run 9 (obs := []) (by kernel_rfl) trivial ?_
        refine good_cond (!decide (faultP s (List.take k l) (List.getD l k default) = (0 : Int))) (by kernel_rfl) (fun hc4 => ?_) (fun hc4 => ?_)
        · have : errB s l k ≠ 0 := by rw [hf]; simpa using hc4
          rw [if_pos this] at hst
          rw [hk.2, hst, hf]
          refine good_run 9 (obs := []) (by kernel_rfl) trivial ?_
          refine good_leaveJ (by kernel_rfl) ?_
          refine good_run 2 (obs := []) (by kernel_rfl) trivial ?_
          refine good_fin [faultP s (List.take k l) (List.getD l k default) = faultP s (List.take k l) (List.getD l k default)] (by kernel_rfl) ⟨rfl, trivial⟩
        · have : ¬ errB s l k ≠ 0 := by rw [hf]; simpa using hc4
          rw [if_neg this] at hst
          refine good_run 7 (obs := [InK IntKind.i64 ((↑k : Int) + (1 : Int))]) (by kernel_rfl) (by (first | omega | assumption | exact ⟨rfl, trivial⟩ | simp only [AllP, inK_iff, roomOK_iff, decide_eq_true_eq, Bool.and_eq_true, Bool.or_eq_true, Bool.not_eq_true', decide_eq_false_iff_not, and_true, true_and]; (first | omega | (and_intros <;> intros <;> (try and_intros) <;> first | omega | assumption | exact trivial)))) ?_
          refine good_backJ (k + 1) [(↑k : Int) + (1 : Int) = (↑(k + (1 : Nat)) : Int), (↑(List.length l) : Int) = (↑(List.length l) : Int), List.length l = List.length l ∧ ∀ (i : Nat), i < List.length l → (fun i => Bk.cells (List.getD l i default)) i = (fun i => Bk.cells (List.getD l i default)) i, s = s, List.length l = List.length l ∧ ∀ (i : Nat), i < List.length l → (fun i => Bk.cells (List.getD l i default)) i = (fun i => Bk.cells (List.getD l i default)) i] (by kernel_rfl) (by kernel_rfl) ⟨(by omega), rfl, ⟨rfl, fun _ _ => rfl⟩, rfl, ⟨rfl, fun _ _ => rfl⟩, trivial⟩ (by omega) (by show _ < _; omega)
      · have : k = l.length := by simp only [decide_eq_false_iff_not] at hc3; omega
        subst this
        rw [hk.2, errFrom_end]
        refine good_run 2 (obs := []) (by kernel_rfl) trivial ?_
        refine good_leaveJ (by kernel_rfl) ?_
        refine good_run 7 (obs := []) (by kernel_rfl) trivial ?_
        refine good_fin [(0 : Int) = (0 : Int)] (by kernel_rfl) ⟨rfl, trivial⟩
end Go.Sx.T
