/- Contracts of functions of the program, each proved by running its code symbolically (QF). -/
import Derived.Test.YtepkgkdbnoiieaaQE
namespace Go.Sx.T
open Go Go.Proofs Go.Sx
set_option maxRecDepth 100000
set_option maxHeartbeats 8000000
set_option linter.unusedVariables false
set_option linter.unusedSimpArgs false
structure MSt where
  i : Nat
  j : Nat
  out : List Int
  c : Int
def mst0 : MSt := ⟨0, 0, [], 0⟩
def mkM (i j : Nat) (o : List Int) (c : Int) : MSt := ⟨i, j, o, c⟩
structure MOk (A B : List Int) (q : MSt) : Prop where
  hi : q.i ≤ A.length
  hj : q.j ≤ B.length
  hr : (mergeC A B).1 = q.out ++ (mergeC (A.drop q.i) (B.drop q.j)).1
  hc : (mergeC A B).2 = q.c + (mergeC (A.drop q.i) (B.drop q.j)).2
  hl : q.out.length = q.i + q.j
  h0 : 0 ≤ q.c
theorem mok0 (A B : List Int) : MOk A B mst0 := ⟨Nat.zero_le _, Nat.zero_le _, by simp [mst0], by simp [mst0], rfl, Int.le_refl _⟩
theorem MOk.bound {A B : List Int} {q : MSt} (h : MOk A B q) : q.c ≤ (A.length : Int) * B.length := by
  have h1 := (mergeC_len _ A B (Nat.le_refl _)).2.2
  have h2 := (mergeC_len _ (A.drop q.i) (B.drop q.j) (Nat.le_refl _)).2.1
  have h3 := h.hc
  omega
theorem MOk.left {A B : List Int} {q : MSt} (h : MOk A B q) (hi : q.i < A.length) (hj : q.j < B.length) (hlt : A.getD q.i 0 < B.getD q.j 0) : MOk A B (mkM (q.i + 1) q.j (q.out ++ [A.getD q.i 0]) q.c) := by
  have e := mergeC_cons (A.getD q.i 0) (A.drop (q.i + 1)) (B.getD q.j 0) (B.drop (q.j + 1))
  rw [← drop_getD A q.i hi, ← drop_getD B q.j hj, if_pos hlt] at e
  refine ⟨hi, h.hj, ?_, ?_, ?_, h.h0⟩
  · rw [h.hr, e]; simp [mkM]
  · rw [h.hc, e]; rfl
  · simp only [mkM, List.length_append, List.length_cons, List.length_nil, h.hl]; omega
theorem MOk.right {A B : List Int} {q : MSt} (h : MOk A B q) (hi : q.i < A.length) (hj : q.j < B.length) (hlt : ¬ A.getD q.i 0 < B.getD q.j 0) : MOk A B (mkM q.i (q.j + 1) (q.out ++ [B.getD q.j 0]) (q.c + ((A.length - q.i : Nat) : Int))) := by
  have e := mergeC_cons (A.getD q.i 0) (A.drop (q.i + 1)) (B.getD q.j 0) (B.drop (q.j + 1))
  rw [← drop_getD A q.i hi, ← drop_getD B q.j hj, if_neg hlt] at e
  have := h.h0
  refine ⟨h.hi, hj, ?_, ?_, ?_, by show 0 ≤ q.c + _; omega⟩
  · rw [h.hr, e]; simp [mkM]
  · rw [h.hc, e, List.length_drop]
    simp only [mkM]
    omega
  · simp only [mkM, List.length_append, List.length_cons, List.length_nil, h.hl]; omega
theorem MOk.last {A B : List Int} {q : MSt} (h : MOk A B q) (hn : ¬ (q.i < A.length ∧ q.j < B.length)) : (mergeC A B).1 = q.out ++ A.drop q.i ++ B.drop q.j ∧ (mergeC A B).2 = q.c := by
  have hi := h.hi
  have hj := h.hj
  by_cases e : q.i < A.length
  · have ej : B.drop q.j = [] := List.drop_eq_nil_of_le (by omega)
    rw [h.hr, h.hc, ej, mergeC_nil']
    simp
  · have ei : A.drop q.i = [] := List.drop_eq_nil_of_le (by omega)
    rw [h.hr, h.hc, ei, mergeC_nil]
    simp
def restI (L : List Int) (i : Nat) : SV := .lst 1 (L.length - i) fun k => [.int .i64 (L.getD (i + k) 0)]
theorem catG_list (O A B : List Int) (i j k : Nat) (hi : i ≤ A.length) (hj : j ≤ B.length) :
    catG O.length (A.length - i) (fun k => [.int .i64 (O.getD k 0)]) (fun k => [.int .i64 (A.getD (i + k) 0)]) (fun k => [.int .i64 (B.getD (j + k) 0)]) k = [.int .i64 ((O ++ A.drop i ++ B.drop j).getD k 0)] := by
  unfold catG joinGet
  rw [getD_append, getD_append, List.length_append, List.length_drop, getD_drop, getD_drop]
  split
  · split <;> rfl
  · rfl
theorem square_split (a b : Nat) : ((a + b : Nat) : Int) * ((a + b : Nat) : Int) = (a : Int) * a + (b : Int) * b + ((a : Int) * b + (a : Int) * b) := by
  rw [Int.natCast_add, Int.add_mul, Int.mul_add, Int.mul_add, Int.mul_comm (b : Int) a]; omega
theorem half_take (l : List Int) : ((l.length : Int) / 2).toNat - 0 = (l.take (l.length / 2)).length ∧ ∀ i, i < ((l.length : Int) / 2).toNat - 0 → (fun i => (fun i => [SV.int .i64 (l.getD i 0)]) (Int.toNat 0 + i)) i = (fun i => [SV.int .i64 ((l.take (l.length / 2)).getD i 0)]) i := by
  have e : ((l.length : Int) / 2).toNat = l.length / 2 := by omega
  rw [e, List.length_take]
  refine ⟨by omega, fun i hi => ?_⟩
  simp only [Int.toNat_zero, Nat.zero_add]
  rw [getD_take _ _ _ (by omega)]
theorem half_drop (l : List Int) : l.length - ((l.length : Int) / 2).toNat = (l.drop (l.length / 2)).length ∧ ∀ i, i < l.length - ((l.length : Int) / 2).toNat → (fun i => (fun i => [SV.int .i64 (l.getD i 0)]) (((l.length : Int) / 2).toNat + i)) i = (fun i => [SV.int .i64 ((l.drop (l.length / 2)).getD i 0)]) i := by
  have e : ((l.length : Int) / 2).toNat = l.length / 2 := by omega
  rw [e, List.length_drop]
  refine ⟨by omega, fun i hi => ?_⟩
  simp only []
  rw [getD_drop]
theorem adv (L : List Int) (i : Nat) : L.length - i - 1 = L.length - (i + 1) ∧ ∀ k, k < L.length - i - 1 → (fun k => (fun k => [SV.int .i64 (L.getD (i + k) 0)]) (1 + k)) k = (fun k => [SV.int .i64 (L.getD (i + 1 + k) 0)]) k :=
  ⟨by omega, fun k _ => by show [SV.int .i64 (L.getD (i + (1 + k)) 0)] = [SV.int .i64 (L.getD (i + 1 + k) 0)]; rw [Nat.add_assoc]⟩
def clo (us : Nat → Value) : Blk := .cells 28 true [.fn 59 [.val (us 0), .val (us 1)]]
def sumB (s : Int) : Blk := .cells 3 true [.int .i64 s]
theorem s59 (us : Nat → Value) : ∀ (n : Nat) (l : List Int) (s : Int), l.length ≤ n → l.length ≤ 1000 → 0 ≤ s → s + (l.length : Int) * l.length ≤ 1000000000 →
    SpecX Try.prog 59 us [.sv (ints l), .sv (.val (us 0)), .sv (.val (us 1))] [clo us, sumB s] (fun o => o = ⟨[.sv (ints (msC n l).1)], [clo us, sumB (s + (msC n l).2)], [(0, us 0), (1, us 1)]⟩)
  | 0, l, s, h, hk, h0, hb => by
    refine specX_of_good mixed Try.func59 F59_ok (by kernel_rfl) (by kernel_rfl) (by kernel_rfl) ?_
    have hl : l.length = 0 := by omega
    refine good_run 9 (obs := []) (by kernel_rfl) trivial ?_
    refine good_ref 1 0 (us (0 : Nat)) (by kernel_rfl) ?_
    refine good_ref 2 1 (us (1 : Nat)) (by kernel_rfl) ?_
    refine good_run 4 (obs := []) (by kernel_rfl) trivial ?_
    refine good_cond (decide ((↑(List.length l) : Int) < (2 : Int))) (by kernel_rfl) (fun hc1 => ?_) (fun hc1 => ?_)
    · refine good_run 8 (obs := []) (by kernel_rfl) trivial ?_
      refine good_finX (⟨[.sv (ints (msC 0 l).1)], [clo us, sumB (s + (msC 0 l).2)], [(0, us 0), (1, us 1)]⟩) (rfl) [SVle (SV.fn (59 : Nat) [SV.val (us (0 : Nat)), SV.val (us (1 : Nat))]) (SV.fn (59 : FuncId) [SV.val (us (0 : Nat)), SV.val (us (1 : Nat))]), s = s + (msC (0 : Nat) l).snd, List.length l = List.length (msC (0 : Nat) l).fst ∧ ∀ (i : Nat), i < List.length l → (fun i => [SV.int IntKind.i64 (List.getD l i (0 : Int))]) i = (fun i => [SV.int IntKind.i64 (List.getD (msC (0 : Nat) l).fst i (0 : Int))]) i, us (nat_lit 0) = ((0 : Nat), us (0 : Nat)).snd, us (List.length [sumB s]) = ((1 : Nat), us (1 : Nat)).snd] (by kernel_rfl) ⟨SVle.refl _, ?_, ?_, rfl, ?_, trivial⟩
      · simp [msC]
      · exact ⟨rfl, fun _ _ => rfl⟩
      · rfl
    · exfalso; simp only [decide_eq_false_iff_not] at hc1; omega
  | n + 1, l, s, h, hk, h0, hb => by
    refine specX_of_good mixed Try.func59 F59_ok (by kernel_rfl) (by kernel_rfl) (by kernel_rfl) ?_
    refine good_run 9 (obs := []) (by kernel_rfl) trivial ?_
    refine good_ref 1 0 (us (0 : Nat)) (by kernel_rfl) ?_
    refine good_ref 2 1 (us (1 : Nat)) (by kernel_rfl) ?_
    refine good_run 4 (obs := []) (by kernel_rfl) trivial ?_
    refine good_cond (decide ((↑(List.length l) : Int) < (2 : Int))) (by kernel_rfl) (fun hc1 => ?_) (fun hc1 => ?_)
    · have e : msC (n + 1) l = (l, 0) := by rw [msC, if_pos]; simp only [decide_eq_true_eq] at hc1; omega
      rw [e]
      refine good_run 8 (obs := []) (by kernel_rfl) trivial ?_
      refine good_finX (⟨[.sv (ints l)], [clo us, sumB (s + 0)], [(0, us 0), (1, us 1)]⟩) (rfl) [SVle (SV.fn (59 : Nat) [SV.val (us (0 : Nat)), SV.val (us (1 : Nat))]) (SV.fn (59 : FuncId) [SV.val (us (0 : Nat)), SV.val (us (1 : Nat))]), s = s + (0 : Int), List.length l = List.length l ∧ ∀ (i : Nat), i < List.length l → (fun i => [SV.int IntKind.i64 (List.getD l i (0 : Int))]) i = (fun i => [SV.int IntKind.i64 (List.getD l i (0 : Int))]) i, us (nat_lit 0) = ((0 : Nat), us (0 : Nat)).snd, us (List.length [sumB s]) = ((1 : Nat), us (1 : Nat)).snd] (by kernel_rfl) ⟨SVle.refl _, (by omega), ⟨rfl, fun _ _ => rfl⟩, rfl, ?_, trivial⟩
      rfl
    · have hge : ¬ l.length < 2 := by simp only [decide_eq_false_iff_not] at hc1; omega
      have e : msC (n + 1) l = ((mergeC (msC n (l.take (l.length / 2))).1 (msC n (l.drop (l.length / 2))).1).1, (msC n (l.take (l.length / 2))).2 + (msC n (l.drop (l.length / 2))).2 + (mergeC (msC n (l.take (l.length / 2))).1 (msC n (l.drop (l.length / 2))).1).2) := by rw [msC, if_neg hge]
      have ml1 := msC_len n (l.take (l.length / 2))
      have ml2 := msC_len n (l.drop (l.length / 2))
      have ll1 : (l.take (l.length / 2)).length = l.length / 2 := by rw [List.length_take]; omega
      have ll2 : (l.drop (l.length / 2)).length = l.length - l.length / 2 := List.length_drop
      have hsq := square_split (l.length / 2) (l.length - l.length / 2)
      rw [show l.length / 2 + (l.length - l.length / 2) = l.length by omega] at hsq
      have hp0 : 0 ≤ ((l.length / 2 : Nat) : Int) * ((l.length - l.length / 2 : Nat) : Int) := Int.mul_nonneg (by omega) (by omega)
      have hq0 : 0 ≤ ((l.length / 2 : Nat) : Int) * ((l.length / 2 : Nat) : Int) := Int.mul_nonneg (by omega) (by omega)
      have hr0 : 0 ≤ ((l.length - l.length / 2 : Nat) : Int) * ((l.length - l.length / 2 : Nat) : Int) := Int.mul_nonneg (by omega) (by omega)
      rw [ll1] at ml1
      rw [ll2] at ml2
      have ih1 := s59 us n (l.take (l.length / 2)) s (by rw [ll1]; omega) (by rw [ll1]; omega) h0 (by rw [ll1]; omega)
      have ih2 := s59 us n (l.drop (l.length / 2)) (s + (msC n (l.take (l.length / 2))).2) (by rw [ll2]; omega) (by rw [ll2]; omega) (by omega) (by rw [ll2]; omega)
      have mb := (mergeC_len _ (msC n (l.take (l.length / 2))).1 (msC n (l.drop (l.length / 2))).1 (Nat.le_refl _)).2
      have t1 := half_take l
      have t2 := half_drop l
      generalize msC n (l.take (l.length / 2)) = mA at *
      generalize msC n (l.drop (l.length / 2)) = mB at *
      rcases mA with ⟨A, ac⟩
      rcases mB with ⟨B, bc⟩
      simp only at *
      rw [e]
      refine good_run 14 (obs := [(0 : Int) ≤ (↑(List.length l) : Int) ∧ (0 : Int) < (2 : Int) ∧ InK IntKind.i64 ((↑(List.length l) : Int) / (2 : Int)), (1 : Nat) = (1 : Nat) ∧ (0 : Int) ≤ (0 : Int) ∧ (0 : Int) ≤ (↑(List.length l) : Int) / (2 : Int) ∧ (↑(List.length l) : Int) / (2 : Int) ≤ (↑(List.length l) : Int), (0 : Int) ≤ (↑(List.length l) : Int) ∧ (0 : Int) < (2 : Int) ∧ InK IntKind.i64 ((↑(List.length l) : Int) / (2 : Int)), (1 : Nat) = (1 : Nat) ∧ (0 : Int) ≤ (↑(List.length l) : Int) / (2 : Int) ∧ (↑(List.length l) : Int) / (2 : Int) ≤ (↑(List.length l) : Int) ∧ (↑(List.length l) : Int) ≤ (↑(List.length l) : Int)]) (by kernel_rfl) (by (first | omega | assumption | exact ⟨rfl, trivial⟩ | simp only [AllP, inK_iff, roomOK_iff, decide_eq_true_eq, Bool.and_eq_true, Bool.or_eq_true, Bool.not_eq_true', decide_eq_false_iff_not, and_true, true_and]; (first | omega | (and_intros <;> intros <;> (try and_intros) <;> first | omega | assumption | exact trivial)))) ?_
      refine good_pick [0, 7] (by kernel_rfl) ⟨?_, ?_, trivial⟩
      refine good_run 2 (obs := []) (by kernel_rfl) trivial ?_
      refine good_pick [6, 7] (by kernel_rfl) ⟨?_, ?_, trivial⟩
      rotate_left 1
      refine good_run 3 (obs := []) (by kernel_rfl) trivial ?_
      rotate_left 1
      refine good_run 6 (obs := []) (by kernel_rfl) trivial ?_
      rotate_left 1
      · refine good_callx [0, 1] [0, 1] (ih1) (by kernel_rfl) (by kernel_rfl) [SVle (SV.fn (59 : Nat) [SV.val (us (0 : Nat)), SV.val (us (1 : Nat))]) (SV.fn (59 : FuncId) [SV.val (us (0 : Nat)), SV.val (us (1 : Nat))]), us (nat_lit 0) = us (0 : Nat), s = s, us (List.length [sumB s]) = us ((0 : Nat) + (1 : Nat))] [Int.toNat ((↑(List.length l) : Int) / (2 : Int)) - (0 : Nat) = List.length (List.take (List.length l / (2 : Nat)) l) ∧ ∀ (i : Nat), i < Int.toNat ((↑(List.length l) : Int) / (2 : Int)) - (0 : Nat) → (fun i => (fun i => [SV.int IntKind.i64 (List.getD l i (0 : Int))]) (Int.toNat (0 : Int) + i)) i = (fun i => [SV.int IntKind.i64 (List.getD (List.take (List.length l / (2 : Nat)) l) i (0 : Int))]) i, SVle (SV.val (us (0 : Nat))) (SV.val (us (0 : Nat))), SVle (SV.val (us (1 : Nat))) (SV.val (us (1 : Nat)))] (by kernel_rfl) ⟨SVle.refl _, rfl, rfl, ?_, trivial⟩ (by kernel_rfl) ⟨?_, SVle.refl _, SVle.refl _, trivial⟩ ?_
        · rfl
        · exact t1
        rintro _ rfl
        refine ⟨⟨rfl, rfl, trivial⟩, ?_⟩
        refine good_run 5 (obs := []) (by kernel_rfl) trivial ?_
        refine good_callx [0, 1] [0, 1] (ih2) (by kernel_rfl) (by kernel_rfl) [SVle (SV.fn (59 : Nat) [SV.val (us (0 : Nat)), SV.val (us (1 : Nat))]) (SV.fn (59 : FuncId) [SV.val (us (0 : Nat)), SV.val (us (1 : Nat))]), us (0 : Nat) = us (0 : Nat), s + ac = s + ac, us (1 : Nat) = us ((0 : Nat) + (1 : Nat))] [List.length l - Int.toNat ((↑(List.length l) : Int) / (2 : Int)) = List.length (List.drop (List.length l / (2 : Nat)) l) ∧ ∀ (i : Nat), i < List.length l - Int.toNat ((↑(List.length l) : Int) / (2 : Int)) → (fun i => (fun i => [SV.int IntKind.i64 (List.getD l i (0 : Int))]) (Int.toNat ((↑(List.length l) : Int) / (2 : Int)) + i)) i = (fun i => [SV.int IntKind.i64 (List.getD (List.drop (List.length l / (2 : Nat)) l) i (0 : Int))]) i, SVle (SV.val (us (0 : Nat))) (SV.val (us (0 : Nat))), SVle (SV.val (us (1 : Nat))) (SV.val (us (1 : Nat)))] (by kernel_rfl) ⟨SVle.refl _, rfl, rfl, rfl, trivial⟩ (by kernel_rfl) ⟨?_, SVle.refl _, SVle.refl _, trivial⟩ ?_
        · exact t2
        rintro _ rfl
        refine ⟨⟨rfl, rfl, trivial⟩, ?_⟩
        refine good_run 16 (obs := []) (by kernel_rfl) trivial ?_
        refine good_loopJ (fun q : MSt => ⟨[(5, .sv (restI A q.i)), (6, .sv (restI B q.j)), (7, .own 2), (2000000, LV.isv (0 : Nat) (us (0 : Nat))), (2000001, LV.isv (1 : Nat) (us (1 : Nat))), (2, LV.ptr (1 : Nat) (0 : Nat))], [Blk.cells (28 : Nat) true [SV.fn (59 : Nat) [SV.val (us (0 : Nat)), SV.val (us (1 : Nat))]], sumB (s + ac + bc + q.c), .row 3 1 q.out.length true fun k => [.int .i64 (q.out.getD k 0)]]⟩) (fun q => MOk A B q) (fun q => (A.length - q.i) + (B.length - q.j)) (mst0) [SVle (SV.fn (59 : Nat) [SV.val (us (0 : Nat)), SV.val (us (1 : Nat))]) (SV.fn (59 : Nat) [SV.val (us (0 : Nat)), SV.val (us (1 : Nat))]), s + ac + bc = s + ac + bc + mst0.c, (0 : Nat) = (0 : Nat), List.length A = List.length A - mst0.i ∧ ∀ (i : Nat), i < List.length A → (fun i => [SV.int IntKind.i64 (List.getD A i (0 : Int))]) i = (fun k => [SV.int IntKind.i64 (List.getD A (mst0.i + k) (0 : Int))]) i, List.length B = List.length B - mst0.j ∧ ∀ (i : Nat), i < List.length B → (fun i => [SV.int IntKind.i64 (List.getD B i (0 : Int))]) i = (fun k => [SV.int IntKind.i64 (List.getD B (mst0.j + k) (0 : Int))]) i, us (0 : Nat) = us (0 : Nat), us (1 : Nat) = us (1 : Nat)] (by kernel_rfl) (by kernel_rfl) ⟨SVle.refl _, ?_, rfl, ?_, ?_, rfl, rfl, trivial⟩ ?_ ?_
        · show s + ac + bc = s + ac + bc + 0; omega
        · exact ⟨rfl, fun i _ => by simp [mst0]⟩
        · exact ⟨rfl, fun i _ => by simp [mst0]⟩
        · exact mok0 A B
        intro q hq
        have hqb := hq.bound
        have hqi := hq.hi
        have hqj := hq.hj
        have hq0 := hq.h0
        have hql := hq.hl
        rw [ml1.1, ml2.1] at hqb
        refine good_run 13 (obs := []) (by kernel_rfl) trivial ?_
        refine good_cond (decide ((0 : Int) < (↑(List.length A - q.i) : Int)) && decide ((0 : Int) < (↑(List.length B - q.j) : Int))) (by kernel_rfl) (fun hc2 => ?_) (fun hc2 => ?_)
        · simp only [Bool.and_eq_true, decide_eq_true_eq] at hc2
          have hi : q.i < A.length := by omega
          have hj : q.j < B.length := by omega
          refine good_run 14 (obs := [True → (1 : Nat) = (1 : Nat) ∧ (0 : Int) ≤ (0 : Int) ∧ (0 : Int) < (↑(List.length A - q.i) : Int), True → (1 : Nat) = (1 : Nat) ∧ (0 : Int) ≤ (0 : Int) ∧ (0 : Int) < (↑(List.length B - q.j) : Int)]) (by kernel_rfl) (by (first | omega | assumption | exact ⟨rfl, trivial⟩ | simp only [AllP, inK_iff, roomOK_iff, decide_eq_true_eq, Bool.and_eq_true, Bool.or_eq_true, Bool.not_eq_true', decide_eq_false_iff_not, and_true, true_and]; (first | omega | (and_intros <;> intros <;> (try and_intros) <;> first | omega | assumption | exact trivial)))) ?_
          refine good_cond (decide (List.getD A (q.i + (0 : Nat)) (0 : Int) < List.getD B (q.j + (0 : Nat)) (0 : Int))) (by kernel_rfl) (fun hc3 => ?_) (fun hc3 => ?_)
          · have hn := hq.left hi hj (by simpa using hc3)
            refine good_run 30 (obs := [(1 : Nat) = (1 : Nat) ∧ (0 : Int) ≤ (1 : Int) ∧ (1 : Int) ≤ (↑(List.length A - q.i) : Int) ∧ (↑(List.length A - q.i) : Int) ≤ (↑(List.length A - q.i) : Int), (1 : Nat) = (1 : Nat) ∧ (0 : Int) ≤ (0 : Int) ∧ (0 : Int) < (↑(List.length A - q.i) : Int), (3 : Nat) = (3 : Nat) ∧ (1 : Nat) = (1 : Nat) ∧ (1 : Nat) = (1 : Nat) ∧ roomOK (List.length q.out + (1 : Nat)) (8 : Nat)]) (by kernel_rfl) (by (first | omega | assumption | exact ⟨rfl, trivial⟩ | simp only [AllP, inK_iff, roomOK_iff, decide_eq_true_eq, Bool.and_eq_true, Bool.or_eq_true, Bool.not_eq_true', decide_eq_false_iff_not, and_true, true_and]; (first | omega | (and_intros <;> intros <;> (try and_intros) <;> first | omega | assumption | exact trivial)))) ?_
            refine good_backJ (mkM (q.i + 1) q.j (q.out ++ [A.getD q.i 0]) q.c) [SVle (SV.fn (59 : Nat) [SV.val (us (0 : Nat)), SV.val (us (1 : Nat))]) (SV.fn (59 : Nat) [SV.val (us (0 : Nat)), SV.val (us (1 : Nat))]), s + ac + bc + q.c = s + ac + bc + (mkM (q.i + (1 : Nat)) q.j (q.out ++ [List.getD A q.i (0 : Int)]) q.c).c, List.length q.out + (1 : Nat) = List.length (mkM (q.i + (1 : Nat)) q.j (q.out ++ [List.getD A q.i (0 : Int)]) q.c).out ∧ ∀ (i : Nat), i < List.length q.out + (1 : Nat) → joinGet (List.length q.out) (fun k => [SV.int IntKind.i64 (List.getD q.out k (0 : Int))]) (cutRows (1 : Nat) [SV.int IntKind.i64 (List.getD A (q.i + (0 : Nat)) (0 : Int))]) i = (fun k => [SV.int IntKind.i64 (List.getD (mkM (q.i + (1 : Nat)) q.j (q.out ++ [List.getD A q.i (0 : Int)]) q.c).out k (0 : Int))]) i, List.length A - q.i - (1 : Nat) = List.length A - (mkM (q.i + (1 : Nat)) q.j (q.out ++ [List.getD A q.i (0 : Int)]) q.c).i ∧ ∀ (i : Nat), i < List.length A - q.i - (1 : Nat) → (fun i => (fun k => [SV.int IntKind.i64 (List.getD A (q.i + k) (0 : Int))]) ((1 : Nat) + i)) i = (fun k => [SV.int IntKind.i64 (List.getD A ((mkM (q.i + (1 : Nat)) q.j (q.out ++ [List.getD A q.i (0 : Int)]) q.c).i + k) (0 : Int))]) i, List.length B - q.j = List.length B - (mkM (q.i + (1 : Nat)) q.j (q.out ++ [List.getD A q.i (0 : Int)]) q.c).j ∧ ∀ (i : Nat), i < List.length B - q.j → (fun k => [SV.int IntKind.i64 (List.getD B (q.j + k) (0 : Int))]) i = (fun k => [SV.int IntKind.i64 (List.getD B ((mkM (q.i + (1 : Nat)) q.j (q.out ++ [List.getD A q.i (0 : Int)]) q.c).j + k) (0 : Int))]) i, us (0 : Nat) = us (0 : Nat), us (1 : Nat) = us (1 : Nat)] (by kernel_rfl) (by kernel_rfl) ⟨SVle.refl _, (by rfl), ?_, ?_, ?_, rfl, rfl, trivial⟩ (by omega) ?_
            · exact row_snoc' (fun x => [SV.int .i64 x]) 0 q.out (A.getD q.i 0) 1 rfl
            · exact adv A q.i
            · exact ⟨rfl, fun _ _ => rfl⟩
            · show A.length - (q.i + 1) + (B.length - q.j) < _; omega
          · have hn := hq.right hi hj (by simpa using hc3)
            refine good_run 37 (obs := [InK IntKind.i64 (s + ac + bc + q.c + (↑(List.length A - q.i) : Int)), (1 : Nat) = (1 : Nat) ∧ (0 : Nat) + (1 : Nat) ≤ (1 : Nat), (1 : Nat) = (1 : Nat) ∧ (0 : Int) ≤ (1 : Int) ∧ (1 : Int) ≤ (↑(List.length B - q.j) : Int) ∧ (↑(List.length B - q.j) : Int) ≤ (↑(List.length B - q.j) : Int), (1 : Nat) = (1 : Nat) ∧ (0 : Int) ≤ (0 : Int) ∧ (0 : Int) < (↑(List.length B - q.j) : Int), (3 : Nat) = (3 : Nat) ∧ (1 : Nat) = (1 : Nat) ∧ (1 : Nat) = (1 : Nat) ∧ roomOK (List.length q.out + (1 : Nat)) (8 : Nat)]) (by kernel_rfl) (by (first | omega | assumption | exact ⟨rfl, trivial⟩ | simp only [AllP, inK_iff, roomOK_iff, decide_eq_true_eq, Bool.and_eq_true, Bool.or_eq_true, Bool.not_eq_true', decide_eq_false_iff_not, and_true, true_and]; (first | omega | (and_intros <;> intros <;> (try and_intros) <;> first | omega | assumption | exact trivial)))) ?_
            refine good_backJ (mkM q.i (q.j + 1) (q.out ++ [B.getD q.j 0]) (q.c + ((A.length - q.i : Nat) : Int))) [SVle (SV.fn (59 : Nat) [SV.val (us (0 : Nat)), SV.val (us (1 : Nat))]) (SV.fn (59 : Nat) [SV.val (us (0 : Nat)), SV.val (us (1 : Nat))]), s + ac + bc + q.c + (↑(List.length A - q.i) : Int) = s + ac + bc + (mkM q.i (q.j + (1 : Nat)) (q.out ++ [List.getD B q.j (0 : Int)]) (q.c + (↑(List.length A - q.i) : Int))).c, List.length q.out + (1 : Nat) = List.length (mkM q.i (q.j + (1 : Nat)) (q.out ++ [List.getD B q.j (0 : Int)]) (q.c + (↑(List.length A - q.i) : Int))).out ∧ ∀ (i : Nat), i < List.length q.out + (1 : Nat) → joinGet (List.length q.out) (fun k => [SV.int IntKind.i64 (List.getD q.out k (0 : Int))]) (cutRows (1 : Nat) [SV.int IntKind.i64 (List.getD B (q.j + (0 : Nat)) (0 : Int))]) i = (fun k => [SV.int IntKind.i64 (List.getD (mkM q.i (q.j + (1 : Nat)) (q.out ++ [List.getD B q.j (0 : Int)]) (q.c + (↑(List.length A - q.i) : Int))).out k (0 : Int))]) i, List.length A - q.i = List.length A - (mkM q.i (q.j + (1 : Nat)) (q.out ++ [List.getD B q.j (0 : Int)]) (q.c + (↑(List.length A - q.i) : Int))).i ∧ ∀ (i : Nat), i < List.length A - q.i → (fun k => [SV.int IntKind.i64 (List.getD A (q.i + k) (0 : Int))]) i = (fun k => [SV.int IntKind.i64 (List.getD A ((mkM q.i (q.j + (1 : Nat)) (q.out ++ [List.getD B q.j (0 : Int)]) (q.c + (↑(List.length A - q.i) : Int))).i + k) (0 : Int))]) i, List.length B - q.j - (1 : Nat) = List.length B - (mkM q.i (q.j + (1 : Nat)) (q.out ++ [List.getD B q.j (0 : Int)]) (q.c + (↑(List.length A - q.i) : Int))).j ∧ ∀ (i : Nat), i < List.length B - q.j - (1 : Nat) → (fun i => (fun k => [SV.int IntKind.i64 (List.getD B (q.j + k) (0 : Int))]) ((1 : Nat) + i)) i = (fun k => [SV.int IntKind.i64 (List.getD B ((mkM q.i (q.j + (1 : Nat)) (q.out ++ [List.getD B q.j (0 : Int)]) (q.c + (↑(List.length A - q.i) : Int))).j + k) (0 : Int))]) i, us (0 : Nat) = us (0 : Nat), us (1 : Nat) = us (1 : Nat)] (by kernel_rfl) (by kernel_rfl) ⟨SVle.refl _, ?_, ?_, ?_, ?_, rfl, rfl, trivial⟩ (by omega) ?_
            · show _ = s + ac + bc + (q.c + ((A.length - q.i : Nat) : Int)); omega
            · exact row_snoc' (fun x => [SV.int .i64 x]) 0 q.out (B.getD q.j 0) 1 rfl
            · exact ⟨rfl, fun _ _ => rfl⟩
            · exact adv B q.j
            · show A.length - q.i + (B.length - (q.j + 1)) < _; omega
        · have hx := hq.last (by simp only [Bool.and_eq_false_iff, decide_eq_false_iff_not] at hc2; omega)
          refine good_run 2 (obs := []) (by kernel_rfl) trivial ?_
          refine good_leaveJ (by kernel_rfl) ?_
          refine good_run 7 (obs := []) (by kernel_rfl) trivial ?_
          refine good_call (args := [SV.lst (1 : Nat) (3 : Nat) (cutRows (1 : Nat) [SV.lst (1 : Nat) (List.length q.out) fun k => [SV.int IntKind.i64 (List.getD q.out k (0 : Int))], SV.lst (1 : Nat) (List.length A - q.i) fun k => [SV.int IntKind.i64 (List.getD A (q.i + k) (0 : Int))], SV.lst (1 : Nat) (List.length B - q.j) fun k => [SV.int IntKind.i64 (List.getD B (q.j + k) (0 : Int))]])]) (c := True) (by kernel_rfl) (fun _ => SVles.refl _) (fun _ => (s60 q.out.length (A.length - q.i) (B.length - q.j) (fun k => [.int .i64 (q.out.getD k 0)]) (fun k => [.int .i64 (A.getD (q.i + k) 0)]) (fun k => [.int .i64 (B.getD (q.j + k) 0)]) (by omega)).spec) (by kernel_rfl) ?_
          refine good_run 4 (obs := []) (by kernel_rfl) trivial ?_
          refine good_finX (⟨[.sv (ints (mergeC A B).1)], [clo us, sumB (s + (ac + bc + (mergeC A B).2))], [(0, us 0), (1, us 1)]⟩) (rfl) [SVle (SV.fn (59 : Nat) [SV.val (us (0 : Nat)), SV.val (us (1 : Nat))]) (SV.fn (59 : FuncId) [SV.val (us (0 : Nat)), SV.val (us (1 : Nat))]), s + ac + bc + q.c = s + (ac + bc + (mergeC A B).snd), List.length q.out + (List.length A - q.i) + (List.length B - q.j) = List.length (mergeC A B).fst ∧ ∀ (i : Nat), i < List.length q.out + (List.length A - q.i) + (List.length B - q.j) → catG (List.length q.out) (List.length A - q.i) (fun k => [SV.int IntKind.i64 (List.getD q.out k (0 : Int))]) (fun k => [SV.int IntKind.i64 (List.getD A (q.i + k) (0 : Int))]) (fun k => [SV.int IntKind.i64 (List.getD B (q.j + k) (0 : Int))]) i = (fun i => [SV.int IntKind.i64 (List.getD (mergeC A B).fst i (0 : Int))]) i, us (0 : Nat) = ((0 : Nat), us (0 : Nat)).snd, us (1 : Nat) = ((1 : Nat), us (1 : Nat)).snd] (by kernel_rfl) ⟨SVle.refl _, (by omega), ?_, rfl, rfl, trivial⟩
          rw [hx.1]
          exact ⟨by simp only [List.length_append, List.length_drop], fun k _ => catG_list q.out A B q.i q.j k hqi hqj⟩
      · refine good_callx [0, 1] [0, 1] (ih1) (by kernel_rfl) (by kernel_rfl) [SVle (SV.fn (59 : Nat) [SV.val (us (0 : Nat)), SV.val (us (1 : Nat))]) (SV.fn (59 : FuncId) [SV.val (us (0 : Nat)), SV.val (us (1 : Nat))]), us (nat_lit 0) = us (0 : Nat), s = s, us (List.length [sumB s]) = us ((0 : Nat) + (1 : Nat))] [Int.toNat ((↑(List.length l) : Int) / (2 : Int)) - (0 : Nat) = List.length (List.take (List.length l / (2 : Nat)) l) ∧ ∀ (i : Nat), i < Int.toNat ((↑(List.length l) : Int) / (2 : Int)) - (0 : Nat) → (fun i => (fun i => [SV.int IntKind.i64 (List.getD l i (0 : Int))]) (Int.toNat (0 : Int) + i)) i = (fun i => [SV.int IntKind.i64 (List.getD (List.take (List.length l / (2 : Nat)) l) i (0 : Int))]) i, SVle (SV.val (us (0 : Nat))) (SV.val (us (0 : Nat))), SVle (SV.val (us (1 : Nat))) (SV.val (us (1 : Nat)))] (by kernel_rfl) ⟨SVle.refl _, rfl, rfl, ?_, trivial⟩ (by kernel_rfl) ⟨?_, SVle.refl _, SVle.refl _, trivial⟩ ?_
        · rfl
        · exact t1
        rintro _ rfl
        refine ⟨⟨rfl, rfl, trivial⟩, ?_⟩
        refine good_run 2 (obs := []) (by kernel_rfl) trivial ?_
        refine good_callx [0, 1] [0, 1] (ih2) (by kernel_rfl) (by kernel_rfl) [SVle (SV.fn (59 : Nat) [SV.val (us (0 : Nat)), SV.val (us (1 : Nat))]) (SV.fn (59 : FuncId) [SV.val (us (0 : Nat)), SV.val (us (1 : Nat))]), us (0 : Nat) = us (0 : Nat), s + ac = s + ac, us (1 : Nat) = us ((0 : Nat) + (1 : Nat))] [List.length l - Int.toNat ((↑(List.length l) : Int) / (2 : Int)) = List.length (List.drop (List.length l / (2 : Nat)) l) ∧ ∀ (i : Nat), i < List.length l - Int.toNat ((↑(List.length l) : Int) / (2 : Int)) → (fun i => (fun i => [SV.int IntKind.i64 (List.getD l i (0 : Int))]) (Int.toNat ((↑(List.length l) : Int) / (2 : Int)) + i)) i = (fun i => [SV.int IntKind.i64 (List.getD (List.drop (List.length l / (2 : Nat)) l) i (0 : Int))]) i, SVle (SV.val (us (0 : Nat))) (SV.val (us (0 : Nat))), SVle (SV.val (us (1 : Nat))) (SV.val (us (1 : Nat)))] (by kernel_rfl) ⟨SVle.refl _, rfl, rfl, rfl, trivial⟩ (by kernel_rfl) ⟨?_, SVle.refl _, SVle.refl _, trivial⟩ ?_
        · exact t2
        rintro _ rfl
        refine ⟨⟨rfl, rfl, trivial⟩, ?_⟩
        refine good_run 16 (obs := []) (by kernel_rfl) trivial ?_
        refine good_loopJ (fun q : MSt => ⟨[(5, .sv (restI A q.i)), (6, .sv (restI B q.j)), (7, .own 2), (2000000, LV.isv (0 : Nat) (us (0 : Nat))), (2000001, LV.isv (1 : Nat) (us (1 : Nat))), (2, LV.ptr (1 : Nat) (0 : Nat))], [Blk.cells (28 : Nat) true [SV.fn (59 : Nat) [SV.val (us (0 : Nat)), SV.val (us (1 : Nat))]], sumB (s + ac + bc + q.c), .row 3 1 q.out.length true fun k => [.int .i64 (q.out.getD k 0)]]⟩) (fun q => MOk A B q) (fun q => (A.length - q.i) + (B.length - q.j)) (mst0) [SVle (SV.fn (59 : Nat) [SV.val (us (0 : Nat)), SV.val (us (1 : Nat))]) (SV.fn (59 : Nat) [SV.val (us (0 : Nat)), SV.val (us (1 : Nat))]), s + ac + bc = s + ac + bc + mst0.c, (0 : Nat) = (0 : Nat), List.length A = List.length A - mst0.i ∧ ∀ (i : Nat), i < List.length A → (fun i => [SV.int IntKind.i64 (List.getD A i (0 : Int))]) i = (fun k => [SV.int IntKind.i64 (List.getD A (mst0.i + k) (0 : Int))]) i, List.length B = List.length B - mst0.j ∧ ∀ (i : Nat), i < List.length B → (fun i => [SV.int IntKind.i64 (List.getD B i (0 : Int))]) i = (fun k => [SV.int IntKind.i64 (List.getD B (mst0.j + k) (0 : Int))]) i, us (0 : Nat) = us (0 : Nat), us (1 : Nat) = us (1 : Nat)] (by kernel_rfl) (by kernel_rfl) ⟨SVle.refl _, ?_, rfl, ?_, ?_, rfl, rfl, trivial⟩ ?_ ?_
        · show s + ac + bc = s + ac + bc + 0; omega
        · exact ⟨rfl, fun i _ => by simp [mst0]⟩
        · exact ⟨rfl, fun i _ => by simp [mst0]⟩
        · exact mok0 A B
        intro q hq
        have hqb := hq.bound
        have hqi := hq.hi
        have hqj := hq.hj
        have hq0 := hq.h0
        have hql := hq.hl
        rw [ml1.1, ml2.1] at hqb
        refine good_run 13 (obs := []) (by kernel_rfl) trivial ?_
        refine good_cond (decide ((0 : Int) < (↑(List.length A - q.i) : Int)) && decide ((0 : Int) < (↑(List.length B - q.j) : Int))) (by kernel_rfl) (fun hc2 => ?_) (fun hc2 => ?_)
        · simp only [Bool.and_eq_true, decide_eq_true_eq] at hc2
          have hi : q.i < A.length := by omega
          have hj : q.j < B.length := by omega
          refine good_run 14 (obs := [True → (1 : Nat) = (1 : Nat) ∧ (0 : Int) ≤ (0 : Int) ∧ (0 : Int) < (↑(List.length A - q.i) : Int), True → (1 : Nat) = (1 : Nat) ∧ (0 : Int) ≤ (0 : Int) ∧ (0 : Int) < (↑(List.length B - q.j) : Int)]) (by kernel_rfl) (by (first | omega | assumption | exact ⟨rfl, trivial⟩ | simp only [AllP, inK_iff, roomOK_iff, decide_eq_true_eq, Bool.and_eq_true, Bool.or_eq_true, Bool.not_eq_true', decide_eq_false_iff_not, and_true, true_and]; (first | omega | (and_intros <;> intros <;> (try and_intros) <;> first | omega | assumption | exact trivial)))) ?_
          refine good_cond (decide (List.getD A (q.i + (0 : Nat)) (0 : Int) < List.getD B (q.j + (0 : Nat)) (0 : Int))) (by kernel_rfl) (fun hc3 => ?_) (fun hc3 => ?_)
          · have hn := hq.left hi hj (by simpa using hc3)
            refine good_run 30 (obs := [(1 : Nat) = (1 : Nat) ∧ (0 : Int) ≤ (1 : Int) ∧ (1 : Int) ≤ (↑(List.length A - q.i) : Int) ∧ (↑(List.length A - q.i) : Int) ≤ (↑(List.length A - q.i) : Int), (1 : Nat) = (1 : Nat) ∧ (0 : Int) ≤ (0 : Int) ∧ (0 : Int) < (↑(List.length A - q.i) : Int), (3 : Nat) = (3 : Nat) ∧ (1 : Nat) = (1 : Nat) ∧ (1 : Nat) = (1 : Nat) ∧ roomOK (List.length q.out + (1 : Nat)) (8 : Nat)]) (by kernel_rfl) (by (first | omega | assumption | exact ⟨rfl, trivial⟩ | simp only [AllP, inK_iff, roomOK_iff, decide_eq_true_eq, Bool.and_eq_true, Bool.or_eq_true, Bool.not_eq_true', decide_eq_false_iff_not, and_true, true_and]; (first | omega | (and_intros <;> intros <;> (try and_intros) <;> first | omega | assumption | exact trivial)))) ?_
            refine good_backJ (mkM (q.i + 1) q.j (q.out ++ [A.getD q.i 0]) q.c) [SVle (SV.fn (59 : Nat) [SV.val (us (0 : Nat)), SV.val (us (1 : Nat))]) (SV.fn (59 : Nat) [SV.val (us (0 : Nat)), SV.val (us (1 : Nat))]), s + ac + bc + q.c = s + ac + bc + (mkM (q.i + (1 : Nat)) q.j (q.out ++ [List.getD A q.i (0 : Int)]) q.c).c, List.length q.out + (1 : Nat) = List.length (mkM (q.i + (1 : Nat)) q.j (q.out ++ [List.getD A q.i (0 : Int)]) q.c).out ∧ ∀ (i : Nat), i < List.length q.out + (1 : Nat) → joinGet (List.length q.out) (fun k => [SV.int IntKind.i64 (List.getD q.out k (0 : Int))]) (cutRows (1 : Nat) [SV.int IntKind.i64 (List.getD A (q.i + (0 : Nat)) (0 : Int))]) i = (fun k => [SV.int IntKind.i64 (List.getD (mkM (q.i + (1 : Nat)) q.j (q.out ++ [List.getD A q.i (0 : Int)]) q.c).out k (0 : Int))]) i, List.length A - q.i - (1 : Nat) = List.length A - (mkM (q.i + (1 : Nat)) q.j (q.out ++ [List.getD A q.i (0 : Int)]) q.c).i ∧ ∀ (i : Nat), i < List.length A - q.i - (1 : Nat) → (fun i => (fun k => [SV.int IntKind.i64 (List.getD A (q.i + k) (0 : Int))]) ((1 : Nat) + i)) i = (fun k => [SV.int IntKind.i64 (List.getD A ((mkM (q.i + (1 : Nat)) q.j (q.out ++ [List.getD A q.i (0 : Int)]) q.c).i + k) (0 : Int))]) i, List.length B - q.j = List.length B - (mkM (q.i + (1 : Nat)) q.j (q.out ++ [List.getD A q.i (0 : Int)]) q.c).j ∧ ∀ (i : Nat), i < List.length B - q.j → (fun k => [SV.int IntKind.i64 (List.getD B (q.j + k) (0 : Int))]) i = (fun k => [SV.int IntKind.i64 (List.getD B ((mkM (q.i + (1 : Nat)) q.j (q.out ++ [List.getD A q.i (0 : Int)]) q.c).j + k) (0 : Int))]) i, us (0 : Nat) = us (0 : Nat), us (1 : Nat) = us (1 : Nat)] (by kernel_rfl) (by kernel_rfl) ⟨SVle.refl _, (by rfl), ?_, ?_, ?_, rfl, rfl, trivial⟩ (by omega) ?_
            · exact row_snoc' (fun x => [SV.int .i64 x]) 0 q.out (A.getD q.i 0) 1 rfl
            · exact adv A q.i
            · exact ⟨rfl, fun _ _ => rfl⟩
            · show A.length - (q.i + 1) + (B.length - q.j) < _; omega
          · have hn := hq.right hi hj (by simpa using hc3)
            refine good_run 37 (obs := [InK IntKind.i64 (s + ac + bc + q.c + (↑(List.length A - q.i) : Int)), (1 : Nat) = (1 : Nat) ∧ (0 : Nat) + (1 : Nat) ≤ (1 : Nat), (1 : Nat) = (1 : Nat) ∧ (0 : Int) ≤ (1 : Int) ∧ (1 : Int) ≤ (↑(List.length B - q.j) : Int) ∧ (↑(List.length B - q.j) : Int) ≤ (↑(List.length B - q.j) : Int), (1 : Nat) = (1 : Nat) ∧ (0 : Int) ≤ (0 : Int) ∧ (0 : Int) < (↑(List.length B - q.j) : Int), (3 : Nat) = (3 : Nat) ∧ (1 : Nat) = (1 : Nat) ∧ (1 : Nat) = (1 : Nat) ∧ roomOK (List.length q.out + (1 : Nat)) (8 : Nat)]) (by kernel_rfl) (by (first | omega | assumption | exact ⟨rfl, trivial⟩ | simp only [AllP, inK_iff, roomOK_iff, decide_eq_true_eq, Bool.and_eq_true, Bool.or_eq_true, Bool.not_eq_true', decide_eq_false_iff_not, and_true, true_and]; (first | omega | (and_intros <;> intros <;> (try and_intros) <;> first | omega | assumption | exact trivial)))) ?_
            refine good_backJ (mkM q.i (q.j + 1) (q.out ++ [B.getD q.j 0]) (q.c + ((A.length - q.i : Nat) : Int))) [SVle (SV.fn (59 : Nat) [SV.val (us (0 : Nat)), SV.val (us (1 : Nat))]) (SV.fn (59 : Nat) [SV.val (us (0 : Nat)), SV.val (us (1 : Nat))]), s + ac + bc + q.c + (↑(List.length A - q.i) : Int) = s + ac + bc + (mkM q.i (q.j + (1 : Nat)) (q.out ++ [List.getD B q.j (0 : Int)]) (q.c + (↑(List.length A - q.i) : Int))).c, List.length q.out + (1 : Nat) = List.length (mkM q.i (q.j + (1 : Nat)) (q.out ++ [List.getD B q.j (0 : Int)]) (q.c + (↑(List.length A - q.i) : Int))).out ∧ ∀ (i : Nat), i < List.length q.out + (1 : Nat) → joinGet (List.length q.out) (fun k => [SV.int IntKind.i64 (List.getD q.out k (0 : Int))]) (cutRows (1 : Nat) [SV.int IntKind.i64 (List.getD B (q.j + (0 : Nat)) (0 : Int))]) i = (fun k => [SV.int IntKind.i64 (List.getD (mkM q.i (q.j + (1 : Nat)) (q.out ++ [List.getD B q.j (0 : Int)]) (q.c + (↑(List.length A - q.i) : Int))).out k (0 : Int))]) i, List.length A - q.i = List.length A - (mkM q.i (q.j + (1 : Nat)) (q.out ++ [List.getD B q.j (0 : Int)]) (q.c + (↑(List.length A - q.i) : Int))).i ∧ ∀ (i : Nat), i < List.length A - q.i → (fun k => [SV.int IntKind.i64 (List.getD A (q.i + k) (0 : Int))]) i = (fun k => [SV.int IntKind.i64 (List.getD A ((mkM q.i (q.j + (1 : Nat)) (q.out ++ [List.getD B q.j (0 : Int)]) (q.c + (↑(List.length A - q.i) : Int))).i + k) (0 : Int))]) i, List.length B - q.j - (1 : Nat) = List.length B - (mkM q.i (q.j + (1 : Nat)) (q.out ++ [List.getD B q.j (0 : Int)]) (q.c + (↑(List.length A - q.i) : Int))).j ∧ ∀ (i : Nat), i < List.length B - q.j - (1 : Nat) → (fun i => (fun k => [SV.int IntKind.i64 (List.getD B (q.j + k) (0 : Int))]) ((1 : Nat) + i)) i = (fun k => [SV.int IntKind.i64 (List.getD B ((mkM q.i (q.j + (1 : Nat)) (q.out ++ [List.getD B q.j (0 : Int)]) (q.c + (↑(List.length A - q.i) : Int))).j + k) (0 : Int))]) i, us (0 : Nat) = us (0 : Nat), us (1 : Nat) = us (1 : Nat)] (by kernel_rfl) (by kernel_rfl) ⟨SVle.refl _, ?_, ?_, ?_, ?_, rfl, rfl, trivial⟩ (by omega) ?_
            · show _ = s + ac + bc + (q.c + ((A.length - q.i : Nat) : Int)); omega
            · exact row_snoc' (fun x => [SV.int .i64 x]) 0 q.out (B.getD q.j 0) 1 rfl
            · exact ⟨rfl, fun _ _ => rfl⟩
            · exact adv B q.j
            · show A.length - q.i + (B.length - (q.j + 1)) < _; omega
        · have hx := hq.last (by simp only [Bool.and_eq_false_iff, decide_eq_false_iff_not] at hc2; omega)
          refine good_run 2 (obs := []) (by kernel_rfl) trivial ?_
          refine good_leaveJ (by kernel_rfl) ?_
          refine good_run 7 (obs := []) (by kernel_rfl) trivial ?_
          refine good_call (args := [SV.lst (1 : Nat) (3 : Nat) (cutRows (1 : Nat) [SV.lst (1 : Nat) (List.length q.out) fun k => [SV.int IntKind.i64 (List.getD q.out k (0 : Int))], SV.lst (1 : Nat) (List.length A - q.i) fun k => [SV.int IntKind.i64 (List.getD A (q.i + k) (0 : Int))], SV.lst (1 : Nat) (List.length B - q.j) fun k => [SV.int IntKind.i64 (List.getD B (q.j + k) (0 : Int))]])]) (c := True) (by kernel_rfl) (fun _ => SVles.refl _) (fun _ => (s60 q.out.length (A.length - q.i) (B.length - q.j) (fun k => [.int .i64 (q.out.getD k 0)]) (fun k => [.int .i64 (A.getD (q.i + k) 0)]) (fun k => [.int .i64 (B.getD (q.j + k) 0)]) (by omega)).spec) (by kernel_rfl) ?_
          refine good_run 4 (obs := []) (by kernel_rfl) trivial ?_
          refine good_finX (⟨[.sv (ints (mergeC A B).1)], [clo us, sumB (s + (ac + bc + (mergeC A B).2))], [(0, us 0), (1, us 1)]⟩) (rfl) [SVle (SV.fn (59 : Nat) [SV.val (us (0 : Nat)), SV.val (us (1 : Nat))]) (SV.fn (59 : FuncId) [SV.val (us (0 : Nat)), SV.val (us (1 : Nat))]), s + ac + bc + q.c = s + (ac + bc + (mergeC A B).snd), List.length q.out + (List.length A - q.i) + (List.length B - q.j) = List.length (mergeC A B).fst ∧ ∀ (i : Nat), i < List.length q.out + (List.length A - q.i) + (List.length B - q.j) → catG (List.length q.out) (List.length A - q.i) (fun k => [SV.int IntKind.i64 (List.getD q.out k (0 : Int))]) (fun k => [SV.int IntKind.i64 (List.getD A (q.i + k) (0 : Int))]) (fun k => [SV.int IntKind.i64 (List.getD B (q.j + k) (0 : Int))]) i = (fun i => [SV.int IntKind.i64 (List.getD (mergeC A B).fst i (0 : Int))]) i, us (0 : Nat) = ((0 : Nat), us (0 : Nat)).snd, us (1 : Nat) = ((1 : Nat), us (1 : Nat)).snd] (by kernel_rfl) ⟨SVle.refl _, (by omega), ?_, rfl, rfl, trivial⟩
          rw [hx.1]
          exact ⟨by simp only [List.length_append, List.length_drop], fun k _ => catG_list q.out A B q.i q.j k hqi hqj⟩
      · refine good_callx [0, 1] [0, 1] (ih1) (by kernel_rfl) (by kernel_rfl) [SVle (SV.fn (59 : Nat) [SV.val (us (0 : Nat)), SV.val (us (1 : Nat))]) (SV.fn (59 : FuncId) [SV.val (us (0 : Nat)), SV.val (us (1 : Nat))]), us (nat_lit 0) = us (0 : Nat), s = s, us (List.length [sumB s]) = us ((0 : Nat) + (1 : Nat))] [Int.toNat ((↑(List.length l) : Int) / (2 : Int)) - (0 : Nat) = List.length (List.take (List.length l / (2 : Nat)) l) ∧ ∀ (i : Nat), i < Int.toNat ((↑(List.length l) : Int) / (2 : Int)) - (0 : Nat) → (fun i => (fun i => [SV.int IntKind.i64 (List.getD l i (0 : Int))]) (Int.toNat (0 : Int) + i)) i = (fun i => [SV.int IntKind.i64 (List.getD (List.take (List.length l / (2 : Nat)) l) i (0 : Int))]) i, SVle (SV.val (us (0 : Nat))) (SV.val (us (0 : Nat))), SVle (SV.val (us (1 : Nat))) (SV.val (us (1 : Nat)))] (by kernel_rfl) ⟨SVle.refl _, rfl, rfl, ?_, trivial⟩ (by kernel_rfl) ⟨?_, SVle.refl _, SVle.refl _, trivial⟩ ?_
        · rfl
        · exact t1
        rintro _ rfl
        refine ⟨⟨rfl, rfl, trivial⟩, ?_⟩
        refine good_run 2 (obs := []) (by kernel_rfl) trivial ?_
        refine good_callx [0, 1] [0, 1] (ih2) (by kernel_rfl) (by kernel_rfl) [SVle (SV.fn (59 : Nat) [SV.val (us (0 : Nat)), SV.val (us (1 : Nat))]) (SV.fn (59 : FuncId) [SV.val (us (0 : Nat)), SV.val (us (1 : Nat))]), us (0 : Nat) = us (0 : Nat), s + ac = s + ac, us (1 : Nat) = us ((0 : Nat) + (1 : Nat))] [List.length l - Int.toNat ((↑(List.length l) : Int) / (2 : Int)) = List.length (List.drop (List.length l / (2 : Nat)) l) ∧ ∀ (i : Nat), i < List.length l - Int.toNat ((↑(List.length l) : Int) / (2 : Int)) → (fun i => (fun i => [SV.int IntKind.i64 (List.getD l i (0 : Int))]) (Int.toNat ((↑(List.length l) : Int) / (2 : Int)) + i)) i = (fun i => [SV.int IntKind.i64 (List.getD (List.drop (List.length l / (2 : Nat)) l) i (0 : Int))]) i, SVle (SV.val (us (0 : Nat))) (SV.val (us (0 : Nat))), SVle (SV.val (us (1 : Nat))) (SV.val (us (1 : Nat)))] (by kernel_rfl) ⟨SVle.refl _, rfl, rfl, rfl, trivial⟩ (by kernel_rfl) ⟨?_, SVle.refl _, SVle.refl _, trivial⟩ ?_
        · exact t2
        rintro _ rfl
        refine ⟨⟨rfl, rfl, trivial⟩, ?_⟩
        refine good_run 16 (obs := []) (by kernel_rfl) trivial ?_
        refine good_loopJ (fun q : MSt => ⟨[(5, .sv (restI A q.i)), (6, .sv (restI B q.j)), (7, .own 2), (2000000, LV.isv (0 : Nat) (us (0 : Nat))), (2000001, LV.isv (1 : Nat) (us (1 : Nat))), (2, LV.ptr (1 : Nat) (0 : Nat))], [Blk.cells (28 : Nat) true [SV.fn (59 : Nat) [SV.val (us (0 : Nat)), SV.val (us (1 : Nat))]], sumB (s + ac + bc + q.c), .row 3 1 q.out.length true fun k => [.int .i64 (q.out.getD k 0)]]⟩) (fun q => MOk A B q) (fun q => (A.length - q.i) + (B.length - q.j)) (mst0) [SVle (SV.fn (59 : Nat) [SV.val (us (0 : Nat)), SV.val (us (1 : Nat))]) (SV.fn (59 : Nat) [SV.val (us (0 : Nat)), SV.val (us (1 : Nat))]), s + ac + bc = s + ac + bc + mst0.c, (0 : Nat) = (0 : Nat), List.length A = List.length A - mst0.i ∧ ∀ (i : Nat), i < List.length A → (fun i => [SV.int IntKind.i64 (List.getD A i (0 : Int))]) i = (fun k => [SV.int IntKind.i64 (List.getD A (mst0.i + k) (0 : Int))]) i, List.length B = List.length B - mst0.j ∧ ∀ (i : Nat), i < List.length B → (fun i => [SV.int IntKind.i64 (List.getD B i (0 : Int))]) i = (fun k => [SV.int IntKind.i64 (List.getD B (mst0.j + k) (0 : Int))]) i, us (0 : Nat) = us (0 : Nat), us (1 : Nat) = us (1 : Nat)] (by kernel_rfl) (by kernel_rfl) ⟨SVle.refl _, ?_, rfl, ?_, ?_, rfl, rfl, trivial⟩ ?_ ?_
        · show s + ac + bc = s + ac + bc + 0; omega
        · exact ⟨rfl, fun i _ => by simp [mst0]⟩
        · exact ⟨rfl, fun i _ => by simp [mst0]⟩
        · exact mok0 A B
        intro q hq
        have hqb := hq.bound
        have hqi := hq.hi
        have hqj := hq.hj
        have hq0 := hq.h0
        have hql := hq.hl
        rw [ml1.1, ml2.1] at hqb
        refine good_run 13 (obs := []) (by kernel_rfl) trivial ?_
        refine good_cond (decide ((0 : Int) < (↑(List.length A - q.i) : Int)) && decide ((0 : Int) < (↑(List.length B - q.j) : Int))) (by kernel_rfl) (fun hc2 => ?_) (fun hc2 => ?_)
        · simp only [Bool.and_eq_true, decide_eq_true_eq] at hc2
          have hi : q.i < A.length := by omega
          have hj : q.j < B.length := by omega
          refine good_run 14 (obs := [True → (1 : Nat) = (1 : Nat) ∧ (0 : Int) ≤ (0 : Int) ∧ (0 : Int) < (↑(List.length A - q.i) : Int), True → (1 : Nat) = (1 : Nat) ∧ (0 : Int) ≤ (0 : Int) ∧ (0 : Int) < (↑(List.length B - q.j) : Int)]) (by kernel_rfl) (by (first | omega | assumption | exact ⟨rfl, trivial⟩ | simp only [AllP, inK_iff, roomOK_iff, decide_eq_true_eq, Bool.and_eq_true, Bool.or_eq_true, Bool.not_eq_true', decide_eq_false_iff_not, and_true, true_and]; (first | omega | (and_intros <;> intros <;> (try and_intros) <;> first | omega | assumption | exact trivial)))) ?_
          refine good_cond (decide (List.getD A (q.i + (0 : Nat)) (0 : Int) < List.getD B (q.j + (0 : Nat)) (0 : Int))) (by kernel_rfl) (fun hc3 => ?_) (fun hc3 => ?_)
          · have hn := hq.left hi hj (by simpa using hc3)
            refine good_run 30 (obs := [(1 : Nat) = (1 : Nat) ∧ (0 : Int) ≤ (1 : Int) ∧ (1 : Int) ≤ (↑(List.length A - q.i) : Int) ∧ (↑(List.length A - q.i) : Int) ≤ (↑(List.length A - q.i) : Int), (1 : Nat) = (1 : Nat) ∧ (0 : Int) ≤ (0 : Int) ∧ (0 : Int) < (↑(List.length A - q.i) : Int), (3 : Nat) = (3 : Nat) ∧ (1 : Nat) = (1 : Nat) ∧ (1 : Nat) = (1 : Nat) ∧ roomOK (List.length q.out + (1 : Nat)) (8 : Nat)]) (by kernel_rfl) (by (first | omega | assumption | exact ⟨rfl, trivial⟩ | simp only [AllP, inK_iff, roomOK_iff, decide_eq_true_eq, Bool.and_eq_true, Bool.or_eq_true, Bool.not_eq_true', decide_eq_false_iff_not, and_true, true_and]; (first | omega | (and_intros <;> intros <;> (try and_intros) <;> first | omega | assumption | exact trivial)))) ?_
            refine good_backJ (mkM (q.i + 1) q.j (q.out ++ [A.getD q.i 0]) q.c) [SVle (SV.fn (59 : Nat) [SV.val (us (0 : Nat)), SV.val (us (1 : Nat))]) (SV.fn (59 : Nat) [SV.val (us (0 : Nat)), SV.val (us (1 : Nat))]), s + ac + bc + q.c = s + ac + bc + (mkM (q.i + (1 : Nat)) q.j (q.out ++ [List.getD A q.i (0 : Int)]) q.c).c, List.length q.out + (1 : Nat) = List.length (mkM (q.i + (1 : Nat)) q.j (q.out ++ [List.getD A q.i (0 : Int)]) q.c).out ∧ ∀ (i : Nat), i < List.length q.out + (1 : Nat) → joinGet (List.length q.out) (fun k => [SV.int IntKind.i64 (List.getD q.out k (0 : Int))]) (cutRows (1 : Nat) [SV.int IntKind.i64 (List.getD A (q.i + (0 : Nat)) (0 : Int))]) i = (fun k => [SV.int IntKind.i64 (List.getD (mkM (q.i + (1 : Nat)) q.j (q.out ++ [List.getD A q.i (0 : Int)]) q.c).out k (0 : Int))]) i, List.length A - q.i - (1 : Nat) = List.length A - (mkM (q.i + (1 : Nat)) q.j (q.out ++ [List.getD A q.i (0 : Int)]) q.c).i ∧ ∀ (i : Nat), i < List.length A - q.i - (1 : Nat) → (fun i => (fun k => [SV.int IntKind.i64 (List.getD A (q.i + k) (0 : Int))]) ((1 : Nat) + i)) i = (fun k => [SV.int IntKind.i64 (List.getD A ((mkM (q.i + (1 : Nat)) q.j (q.out ++ [List.getD A q.i (0 : Int)]) q.c).i + k) (0 : Int))]) i, List.length B - q.j = List.length B - (mkM (q.i + (1 : Nat)) q.j (q.out ++ [List.getD A q.i (0 : Int)]) q.c).j ∧ ∀ (i : Nat), i < List.length B - q.j → (fun k => [SV.int IntKind.i64 (List.getD B (q.j + k) (0 : Int))]) i = (fun k => [SV.int IntKind.i64 (List.getD B ((mkM (q.i + (1 : Nat)) q.j (q.out ++ [List.getD A q.i (0 : Int)]) q.c).j + k) (0 : Int))]) i, us (0 : Nat) = us (0 : Nat), us (1 : Nat) = us (1 : Nat)] (by kernel_rfl) (by kernel_rfl) ⟨SVle.refl _, (by rfl), ?_, ?_, ?_, rfl, rfl, trivial⟩ (by omega) ?_
            · exact row_snoc' (fun x => [SV.int .i64 x]) 0 q.out (A.getD q.i 0) 1 rfl
            · exact adv A q.i
            · exact ⟨rfl, fun _ _ => rfl⟩
            · show A.length - (q.i + 1) + (B.length - q.j) < _; omega
          · have hn := hq.right hi hj (by simpa using hc3)
            refine good_run 37 (obs := [InK IntKind.i64 (s + ac + bc + q.c + (↑(List.length A - q.i) : Int)), (1 : Nat) = (1 : Nat) ∧ (0 : Nat) + (1 : Nat) ≤ (1 : Nat), (1 : Nat) = (1 : Nat) ∧ (0 : Int) ≤ (1 : Int) ∧ (1 : Int) ≤ (↑(List.length B - q.j) : Int) ∧ (↑(List.length B - q.j) : Int) ≤ (↑(List.length B - q.j) : Int), (1 : Nat) = (1 : Nat) ∧ (0 : Int) ≤ (0 : Int) ∧ (0 : Int) < (↑(List.length B - q.j) : Int), (3 : Nat) = (3 : Nat) ∧ (1 : Nat) = (1 : Nat) ∧ (1 : Nat) = (1 : Nat) ∧ roomOK (List.length q.out + (1 : Nat)) (8 : Nat)]) (by kernel_rfl) (by (first | omega | assumption | exact ⟨rfl, trivial⟩ | simp only [AllP, inK_iff, roomOK_iff, decide_eq_true_eq, Bool.and_eq_true, Bool.or_eq_true, Bool.not_eq_true', decide_eq_false_iff_not, and_true, true_and]; (first | omega | (and_intros <;> intros <;> (try and_intros) <;> first | omega | assumption | exact trivial)))) ?_
            refine good_backJ (mkM q.i (q.j + 1) (q.out ++ [B.getD q.j 0]) (q.c + ((A.length - q.i : Nat) : Int))) [SVle (SV.fn (59 : Nat) [SV.val (us (0 : Nat)), SV.val (us (1 : Nat))]) (SV.fn (59 : Nat) [SV.val (us (0 : Nat)), SV.val (us (1 : Nat))]), s + ac + bc + q.c + (↑(List.length A - q.i) : Int) = s + ac + bc + (mkM q.i (q.j + (1 : Nat)) (q.out ++ [List.getD B q.j (0 : Int)]) (q.c + (↑(List.length A - q.i) : Int))).c, List.length q.out + (1 : Nat) = List.length (mkM q.i (q.j + (1 : Nat)) (q.out ++ [List.getD B q.j (0 : Int)]) (q.c + (↑(List.length A - q.i) : Int))).out ∧ ∀ (i : Nat), i < List.length q.out + (1 : Nat) → joinGet (List.length q.out) (fun k => [SV.int IntKind.i64 (List.getD q.out k (0 : Int))]) (cutRows (1 : Nat) [SV.int IntKind.i64 (List.getD B (q.j + (0 : Nat)) (0 : Int))]) i = (fun k => [SV.int IntKind.i64 (List.getD (mkM q.i (q.j + (1 : Nat)) (q.out ++ [List.getD B q.j (0 : Int)]) (q.c + (↑(List.length A - q.i) : Int))).out k (0 : Int))]) i, List.length A - q.i = List.length A - (mkM q.i (q.j + (1 : Nat)) (q.out ++ [List.getD B q.j (0 : Int)]) (q.c + (↑(List.length A - q.i) : Int))).i ∧ ∀ (i : Nat), i < List.length A - q.i → (fun k => [SV.int IntKind.i64 (List.getD A (q.i + k) (0 : Int))]) i = (fun k => [SV.int IntKind.i64 (List.getD A ((mkM q.i (q.j + (1 : Nat)) (q.out ++ [List.getD B q.j (0 : Int)]) (q.c + (↑(List.length A - q.i) : Int))).i + k) (0 : Int))]) i, List.length B - q.j - (1 : Nat) = List.length B - (mkM q.i (q.j + (1 : Nat)) (q.out ++ [List.getD B q.j (0 : Int)]) (q.c + (↑(List.length A - q.i) : Int))).j ∧ ∀ (i : Nat), i < List.length B - q.j - (1 : Nat) → (fun i => (fun k => [SV.int IntKind.i64 (List.getD B (q.j + k) (0 : Int))]) ((1 : Nat) + i)) i = (fun k => [SV.int IntKind.i64 (List.getD B ((mkM q.i (q.j + (1 : Nat)) (q.out ++ [List.getD B q.j (0 : Int)]) (q.c + (↑(List.length A - q.i) : Int))).j + k) (0 : Int))]) i, us (0 : Nat) = us (0 : Nat), us (1 : Nat) = us (1 : Nat)] (by kernel_rfl) (by kernel_rfl) ⟨SVle.refl _, ?_, ?_, ?_, ?_, rfl, rfl, trivial⟩ (by omega) ?_
            · show _ = s + ac + bc + (q.c + ((A.length - q.i : Nat) : Int)); omega
            · exact row_snoc' (fun x => [SV.int .i64 x]) 0 q.out (B.getD q.j 0) 1 rfl
            · exact ⟨rfl, fun _ _ => rfl⟩
            · exact adv B q.j
            · show A.length - q.i + (B.length - (q.j + 1)) < _; omega
        · have hx := hq.last (by simp only [Bool.and_eq_false_iff, decide_eq_false_iff_not] at hc2; omega)
          refine good_run 2 (obs := []) (by kernel_rfl) trivial ?_
          refine good_leaveJ (by kernel_rfl) ?_
          refine good_run 7 (obs := []) (by kernel_rfl) trivial ?_
          refine good_call (args := [SV.lst (1 : Nat) (3 : Nat) (cutRows (1 : Nat) [SV.lst (1 : Nat) (List.length q.out) fun k => [SV.int IntKind.i64 (List.getD q.out k (0 : Int))], SV.lst (1 : Nat) (List.length A - q.i) fun k => [SV.int IntKind.i64 (List.getD A (q.i + k) (0 : Int))], SV.lst (1 : Nat) (List.length B - q.j) fun k => [SV.int IntKind.i64 (List.getD B (q.j + k) (0 : Int))]])]) (c := True) (by kernel_rfl) (fun _ => SVles.refl _) (fun _ => (s60 q.out.length (A.length - q.i) (B.length - q.j) (fun k => [.int .i64 (q.out.getD k 0)]) (fun k => [.int .i64 (A.getD (q.i + k) 0)]) (fun k => [.int .i64 (B.getD (q.j + k) 0)]) (by omega)).spec) (by kernel_rfl) ?_
          refine good_run 4 (obs := []) (by kernel_rfl) trivial ?_
          refine good_finX (⟨[.sv (ints (mergeC A B).1)], [clo us, sumB (s + (ac + bc + (mergeC A B).2))], [(0, us 0), (1, us 1)]⟩) (rfl) [SVle (SV.fn (59 : Nat) [SV.val (us (0 : Nat)), SV.val (us (1 : Nat))]) (SV.fn (59 : FuncId) [SV.val (us (0 : Nat)), SV.val (us (1 : Nat))]), s + ac + bc + q.c = s + (ac + bc + (mergeC A B).snd), List.length q.out + (List.length A - q.i) + (List.length B - q.j) = List.length (mergeC A B).fst ∧ ∀ (i : Nat), i < List.length q.out + (List.length A - q.i) + (List.length B - q.j) → catG (List.length q.out) (List.length A - q.i) (fun k => [SV.int IntKind.i64 (List.getD q.out k (0 : Int))]) (fun k => [SV.int IntKind.i64 (List.getD A (q.i + k) (0 : Int))]) (fun k => [SV.int IntKind.i64 (List.getD B (q.j + k) (0 : Int))]) i = (fun i => [SV.int IntKind.i64 (List.getD (mergeC A B).fst i (0 : Int))]) i, us (0 : Nat) = ((0 : Nat), us (0 : Nat)).snd, us (1 : Nat) = ((1 : Nat), us (1 : Nat)).snd] (by kernel_rfl) ⟨SVle.refl _, (by omega), ?_, rfl, rfl, trivial⟩
          rw [hx.1]
          exact ⟨by simp only [List.length_append, List.length_drop], fun k _ => catG_list q.out A B q.i q.j k hqi hqj⟩
end Go.Sx.T
