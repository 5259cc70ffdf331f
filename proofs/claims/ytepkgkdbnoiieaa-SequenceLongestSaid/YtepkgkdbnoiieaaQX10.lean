/- Contracts of functions of the program, each proved by running its code symbolically (QX10). -/
import Derived.Test.YtepkgkdbnoiieaaQOP
import Derived.Test.YtepkgkdbnoiieaaQV
namespace Go.Sx.T
open Go Go.Proofs Go.Sx
set_option maxRecDepth 100000
set_option maxHeartbeats 8000000
set_option linter.unusedVariables false
set_option linter.unusedSimpArgs false
def cmpI (a b : Int) : Int := if a < b then -1 else if b < a then 1 else 0
theorem s57 (a b : Int) : Spec Try.prog 57 [.int .i64 a, .int .i64 b] (.int .i64 (cmpI a b)) := by
  refine spec_of_good mixed Try.func57 F57_ok (by kernel_rfl) ?_
  refine good_run 8 (obs := []) (by kernel_rfl) trivial ?_
  refine good_call (c := True) (by kernel_rfl) (fun _ => SVles.refl _) (fun _ => s68 (a)) (by kernel_rfl) ?_
  refine good_run 6 (obs := []) (by kernel_rfl) trivial ?_
  refine good_call (c := True) (by kernel_rfl) (fun _ => SVles.refl _) (fun _ => s68 (b)) (by kernel_rfl) ?_
  refine good_run 9 (obs := []) (by kernel_rfl) trivial ?_
  refine good_cond false (by kernel_rfl) (fun h => nomatch h) (fun _ => ?_)
  refine good_run 7 (obs := []) (by kernel_rfl) trivial ?_
  refine good_cond false (by kernel_rfl) (fun h => nomatch h) (fun _ => ?_)
  refine good_run 9 (obs := []) (by kernel_rfl) trivial ?_
  refine good_cond (decide (a < b)) (by kernel_rfl) (fun hc1 => ?_) (fun hc1 => ?_)
  · rw [show cmpI a b = -1 from if_pos (by simpa using hc1)]
    refine good_run 7 (obs := []) (by kernel_rfl) trivial ?_
    refine good_fin [(-1 : Int) = (-1 : Int)] (by kernel_rfl) ⟨rfl, trivial⟩
  · refine good_run 9 (obs := []) (by kernel_rfl) trivial ?_
    refine good_cond (decide (b < a)) (by kernel_rfl) (fun hc2 => ?_) (fun hc2 => ?_)
    · unfold cmpI; rw [if_neg (by simpa using hc1), if_pos (by simpa using hc2)]
      refine good_run 7 (obs := []) (by kernel_rfl) trivial ?_
      refine good_fin [(1 : Int) = (1 : Int)] (by kernel_rfl) ⟨rfl, trivial⟩
    · unfold cmpI; rw [if_neg (by simpa using hc1), if_neg (by simpa using hc2)]
      refine good_run 7 (obs := []) (by kernel_rfl) trivial ?_
      refine good_fin [(0 : Int) = (0 : Int)] (by kernel_rfl) ⟨rfl, trivial⟩
def cmpL : List Int → List Int → Int
  | [], [] => 0
  | [], _ :: _ => -1
  | _ :: _, [] => 1
  | x :: a, y :: b => if cmpI x y = 0 then cmpL a b else cmpI x y
theorem cmpL_le : ∀ a b : List Int, a.length = b.length → lexlt b a = false → cmpL a b ≤ 0
  | [], [], _, _ => Int.le_refl _
  | [], _ :: _, h, _ => by simp at h
  | _ :: _, [], h, _ => by simp at h
  | x :: a, y :: b, h, hx => by
    rw [lexlt] at hx
    rw [cmpL]
    by_cases e : y = x
    · subst e
      rw [if_pos rfl] at hx
      have : cmpI y y = 0 := by unfold cmpI; rw [if_neg (by omega), if_neg (by omega)]
      rw [if_pos this]
      exact cmpL_le a b (by simpa using h) hx
    · rw [if_neg e, decide_eq_false_iff_not] at hx
      unfold cmpI
      rw [if_pos (show x < y by omega), if_neg (by decide)]
      decide
theorem s38 (a b : List Int) : Spec Try.prog 38 [ints a, ints b] (.int .i64 (cmpL a b)) := by
  refine spec_len 0 rfl (hasBody_of_slim Try.func38 F38_ok) fun hlen => ?_
  refine spec_len 1 rfl (hasBody_of_slim Try.func38 F38_ok) fun hlen2 => ?_
  refine spec_of_good mixed Try.func38 F38_ok (by kernel_rfl) ?_
  refine good_run 14 (obs := []) (by kernel_rfl) trivial ?_
  refine good_loopJ (fun k : Nat => ⟨[(11, .sv (.int .i64 (k))), (10, LV.sv (SV.int IntKind.i64 (↑(List.length a) : Int))), (9, LV.sv (SV.lst (1 : Nat) (List.length a) fun i => [SV.int IntKind.i64 (List.getD a i (0 : Int))])), (0, LV.sv (SV.lst (1 : Nat) (List.length a) fun i => [SV.int IntKind.i64 (List.getD a i (0 : Int))])), (1, LV.sv (SV.lst (1 : Nat) (List.length b) fun i => [SV.int IntKind.i64 (List.getD b i (0 : Int))]))], []⟩) (fun k => k ≤ a.length ∧ k ≤ b.length ∧ cmpL (a.drop k) (b.drop k) = cmpL a b) (fun k => a.length - k) (0) [(0 : Int) = (0 : Int), (↑(List.length a) : Int) = (↑(List.length a) : Int), List.length a = List.length a ∧ ∀ (i : Nat), i < List.length a → (fun i => [SV.int IntKind.i64 (List.getD a i (0 : Int))]) i = (fun i => [SV.int IntKind.i64 (List.getD a i (0 : Int))]) i, List.length a = List.length a ∧ ∀ (i : Nat), i < List.length a → (fun i => [SV.int IntKind.i64 (List.getD a i (0 : Int))]) i = (fun i => [SV.int IntKind.i64 (List.getD a i (0 : Int))]) i, List.length b = List.length b ∧ ∀ (i : Nat), i < List.length b → (fun i => [SV.int IntKind.i64 (List.getD b i (0 : Int))]) i = (fun i => [SV.int IntKind.i64 (List.getD b i (0 : Int))]) i] (by kernel_rfl) (by kernel_rfl) ⟨rfl, rfl, ⟨rfl, fun _ _ => rfl⟩, ⟨rfl, fun _ _ => rfl⟩, ⟨rfl, fun _ _ => rfl⟩, trivial⟩ ?_ ?_
  · exact ⟨Nat.zero_le _, Nat.zero_le _, rfl⟩
  rintro k ⟨hk, hk2, hx⟩
  refine good_run 6 (obs := []) (by kernel_rfl) trivial ?_
  refine good_cond (decide ((↑k : Int) < (↑(List.length a) : Int))) (by kernel_rfl) (fun hc1 => ?_) (fun hc1 => ?_)
  · have hlt : k < a.length := by simp only [decide_eq_true_eq] at hc1; omega
    rw [drop_getD (d := (0 : Int)) a k hlt] at hx
    refine good_run 21 (obs := [(1 : Nat) = (1 : Nat) ∧ (0 : Int) ≤ (↑k : Int) ∧ (↑k : Int) < (↑(List.length a) : Int)]) (by kernel_rfl) (by (first | omega | assumption | exact ⟨rfl, trivial⟩ | simp only [AllP, inK_iff, roomOK_iff, decide_eq_true_eq, Bool.and_eq_true, Bool.or_eq_true, Bool.not_eq_true', decide_eq_false_iff_not, and_true, true_and]; (first | omega | (and_intros <;> intros <;> (try and_intros) <;> first | omega | assumption | exact trivial)))) ?_
    refine good_cond (decide ((↑(List.length b) : Int) ≤ (↑k : Int))) (by kernel_rfl) (fun hc2 => ?_) (fun hc2 => ?_)
    · rw [show k = b.length by simp only [decide_eq_true_eq] at hc2; omega, List.drop_length, cmpL] at hx
      rw [← hx]
      refine good_run 9 (obs := []) (by kernel_rfl) trivial ?_
      refine good_leaveJ (by kernel_rfl) ?_
      refine good_run 2 (obs := []) (by kernel_rfl) trivial ?_
      refine good_fin [(1 : Int) = (1 : Int)] (by kernel_rfl) ⟨rfl, trivial⟩
    · have hlt2 : k < b.length := by simp only [decide_eq_false_iff_not] at hc2; omega
      rw [drop_getD (d := (0 : Int)) b k hlt2, cmpL] at hx
      refine good_run 14 (obs := [(1 : Nat) = (1 : Nat) ∧ (0 : Int) ≤ (↑k : Int) ∧ (↑k : Int) < (↑(List.length b) : Int)]) (by kernel_rfl) (by (first | omega | assumption | exact ⟨rfl, trivial⟩ | simp only [AllP, inK_iff, roomOK_iff, decide_eq_true_eq, Bool.and_eq_true, Bool.or_eq_true, Bool.not_eq_true', decide_eq_false_iff_not, and_true, true_and]; (first | omega | (and_intros <;> intros <;> (try and_intros) <;> first | omega | assumption | exact trivial)))) ?_
      refine good_call (c := True) (by kernel_rfl) (fun _ => SVles.refl _) (fun _ => s57 (List.getD a k (0 : Int)) (List.getD b k (0 : Int))) (by kernel_rfl) ?_
      refine good_run 9 (obs := []) (by kernel_rfl) trivial ?_
      refine good_cond (!decide (cmpI (List.getD a k (0 : Int)) (List.getD b k (0 : Int)) = (0 : Int))) (by kernel_rfl) (fun hc3 => ?_) (fun hc3 => ?_)
      · rw [if_neg (by simpa using hc3)] at hx
        rw [← hx]
        refine good_run 9 (obs := []) (by kernel_rfl) trivial ?_
        refine good_leaveJ (by kernel_rfl) ?_
        refine good_run 2 (obs := []) (by kernel_rfl) trivial ?_
        refine good_fin [cmpI (List.getD a k (0 : Int)) (List.getD b k (0 : Int)) = cmpI (List.getD a k (0 : Int)) (List.getD b k (0 : Int))] (by kernel_rfl) ⟨rfl, trivial⟩
      · rw [if_pos (by simpa using hc3)] at hx
        refine good_run 7 (obs := [InK IntKind.i64 ((↑k : Int) + (1 : Int))]) (by kernel_rfl) (by (first | omega | assumption | exact ⟨rfl, trivial⟩ | simp only [AllP, inK_iff, roomOK_iff, decide_eq_true_eq, Bool.and_eq_true, Bool.or_eq_true, Bool.not_eq_true', decide_eq_false_iff_not, and_true, true_and]; (first | omega | (and_intros <;> intros <;> (try and_intros) <;> first | omega | assumption | exact trivial)))) ?_
        refine good_backJ (k + 1) [(↑k : Int) + (1 : Int) = (↑(k + (1 : Nat)) : Int), (↑(List.length a) : Int) = (↑(List.length a) : Int), List.length a = List.length a ∧ ∀ (i : Nat), i < List.length a → (fun i => [SV.int IntKind.i64 (List.getD a i (0 : Int))]) i = (fun i => [SV.int IntKind.i64 (List.getD a i (0 : Int))]) i, List.length a = List.length a ∧ ∀ (i : Nat), i < List.length a → (fun i => [SV.int IntKind.i64 (List.getD a i (0 : Int))]) i = (fun i => [SV.int IntKind.i64 (List.getD a i (0 : Int))]) i, List.length b = List.length b ∧ ∀ (i : Nat), i < List.length b → (fun i => [SV.int IntKind.i64 (List.getD b i (0 : Int))]) i = (fun i => [SV.int IntKind.i64 (List.getD b i (0 : Int))]) i] (by kernel_rfl) (by kernel_rfl) ⟨(by omega), rfl, ⟨rfl, fun _ _ => rfl⟩, ⟨rfl, fun _ _ => rfl⟩, ⟨rfl, fun _ _ => rfl⟩, trivial⟩ (by omega) (by show _ < _; omega)
  · have hke : k = a.length := by simp only [decide_eq_false_iff_not] at hc1; omega
    subst hke
    rw [List.drop_length] at hx
    refine good_run 2 (obs := []) (by kernel_rfl) trivial ?_
    refine good_leaveJ (by kernel_rfl) ?_
    refine good_run 11 (obs := []) (by kernel_rfl) trivial ?_
    refine good_cond (decide ((↑(List.length a) : Int) < (↑(List.length b) : Int))) (by kernel_rfl) (fun hc2 => ?_) (fun hc2 => ?_)
    · have hlt2 : a.length < b.length := by simp only [decide_eq_true_eq] at hc2; omega
      rw [drop_getD (d := (0 : Int)) b _ hlt2, cmpL] at hx
      rw [← hx]
      refine good_run 7 (obs := []) (by kernel_rfl) trivial ?_
      refine good_fin [(-1 : Int) = (-1 : Int)] (by kernel_rfl) ⟨rfl, trivial⟩
    · have : a.length = b.length := by simp only [decide_eq_false_iff_not] at hc2; omega
      rw [this, List.drop_length, cmpL] at hx
      rw [← hx]
      refine good_run 7 (obs := []) (by kernel_rfl) trivial ?_
      refine good_fin [(0 : Int) = (0 : Int)] (by kernel_rfl) ⟨rfl, trivial⟩
theorem sub_find : ∀ {L R : List Int} {x : Int}, (x :: R).Sublist L → ∃ k, k < L.length ∧ findI L (eqK x) = (k : Int) ∧ R.Sublist (L.drop (k + 1))
  | [], R, x, h => by cases h
  | y :: L, R, x, h => by
    by_cases e : y = x
    · subst e
      refine ⟨0, by simp, findI_hit (y :: L) (eqK y) 0 (by simp) (by simp [eqK]) (fun j hj => by omega), ?_⟩
      show R.Sublist L
      rcases List.sublist_cons_iff.1 h with h' | ⟨M, e', h'⟩
      · exact (List.sublist_cons_self _ _).trans h'
      · injection e' with _ e2; subst e2; exact h'
    · rcases List.sublist_cons_iff.1 h with h' | ⟨M, e', h'⟩
      · obtain ⟨k, hk, hf, hs⟩ := sub_find h'
        refine ⟨k + 1, by simp only [List.length_cons]; omega, ?_, hs⟩
        rcases findI_cases L (eqK x) with ⟨e1, _⟩ | ⟨q, hq, e1, hfi, _⟩
        · rw [e1] at hf; omega
        · rw [e1] at hf
          have : q = k := by omega
          subst this
          have hfi' : List.findIdx? (eqK x) (y :: L) = some (q + 1) := by
            rw [List.findIdx?_cons, if_neg (by simp only [eqK, decide_eq_true_eq]; exact e), hfi]
            rfl
          unfold findI
          rw [hfi']
      · injection e' with e1 _
        exact absurd e1.symm e
/-- The part that bits tell. -/
def bitB (bits : Int) (k : Nat) : Bool := decide ((k : Int) < 16) && decide ((((bits / 2 ^ k).toNat &&& 1 : Nat) : Int) = 1)
def partK (l : List Int) (f : Nat → Bool) : Nat → List Int
  | 0 => []
  | k + 1 => if f k = true ∧ ((partK l f k).length = 0 ∨ (partK l f k).getD ((partK l f k).length - 1) 0 < l.getD k 0) then partK l f k ++ [l.getD k 0] else partK l f k
theorem partK_spec (l : List Int) (f : Nat → Bool) : ∀ k, k ≤ l.length → (partK l f k).Sublist (l.take k) ∧ (partK l f k).Pairwise (· < ·) ∧ (partK l f k).length ≤ k
  | 0, _ => ⟨by simp [partK], .nil, Nat.le_refl _⟩
  | k + 1, h => by
    obtain ⟨h1, h2, h3⟩ := partK_spec l f k (by omega)
    rw [partK, take_snoc l k h]
    split
    · rename_i hc
      refine ⟨h1.append (List.Sublist.refl _), ?_, by rw [List.length_append, List.length_singleton]; omega⟩
      rw [List.pairwise_append]
      refine ⟨h2, List.pairwise_singleton _ _, fun x hx y hy => ?_⟩
      rw [List.mem_singleton] at hy
      subst hy
      obtain ⟨i, hi, e⟩ := mem_getD hx
      rcases hc.2 with h0 | h0
      · omega
      · by_cases e2 : i = (partK l f k).length - 1
        · rw [← e, e2]; exact h0
        · have := rise_at h2 (show i < (partK l f k).length - 1 by omega) (by omega)
          omega
    · exact ⟨h1.trans (List.sublist_append_left _ _), h2, by omega⟩
theorem part_no {l : List Int} (f : Nat → Bool) (h0 : ∀ x ∈ l, 0 < x) : (partK l f l.length).length ≤ (lis 0 l).length ∧ ((partK l f l.length).length = (lis 0 l).length → lexlt (partK l f l.length) (lis 0 l) = false) := by
  obtain ⟨h1, h2, h3⟩ := partK_spec l f l.length (Nat.le_refl _)
  rw [List.take_length] at h1
  have := lis_best l 0 (partK l f l.length) h1 (above_of_rise _ 0 h2 fun y hy => h0 y (h1.subset hy))
  simp only [btr, Bool.or_eq_false_iff, Bool.and_eq_false_iff, decide_eq_false_iff_not] at this
  refine ⟨by omega, fun h => ?_⟩
  rcases this.2 with h' | h'
  · exact absurd h h'
  · exact h'
theorem s10 (l : List Int) (bits : Int) (hb : InK .u16 bits) : Spec Try.prog 10 [ints l, .int .u16 bits] (.bool true) := by
  refine spec_len 0 rfl (hasBody_of_slim Try.func10 F10_ok) fun hlen0 => ?_
  refine spec_of_good mixed Try.func10 F10_ok (by kernel_rfl) ?_
  have hb' : 0 ≤ bits ∧ bits ≤ 65535 := by
    unfold InK at hb
    simp [IntKind.min, IntKind.max, IntKind.signed, IntKind.bits] at hb
    omega
  refine good_run 8 (obs := []) (by kernel_rfl) trivial ?_
  refine good_call (c := True) (by kernel_rfl) (fun _ => SVles.refl _) (fun _ => s11) (by kernel_rfl) ?_
  refine good_run 8 (obs := []) (by kernel_rfl) trivial ?_
  refine good_cond (!true || decide ((40 : Int) < (↑(List.length l) : Int))) (by kernel_rfl) (fun hc1 => ?_) (fun hc1 => ?_)
  · refine good_run 2 (obs := []) (by kernel_rfl) trivial ?_
    refine good_call (c := True) (by kernel_rfl) (fun _ => SVles.refl _) (fun _ => s11) (by kernel_rfl) ?_
    refine good_run 5 (obs := []) (by kernel_rfl) trivial ?_
    refine good_fin [true = true] (by kernel_rfl) ⟨rfl, trivial⟩
  · simp only [Bool.not_true, decide_eq_false_iff_not, Bool.or_eq_false_iff, true_and] at hc1
    have hl : l.length ≤ 100000 := by omega
    refine good_run 4 (obs := []) (by kernel_rfl) trivial ?_
    refine good_own (c := True) (by kernel_rfl) (by kernel_rfl) (SVles.refl _) (s14 (List.length l) (fun i => [SV.int IntKind.i64 (List.getD l i (0 : Int))]) (by (first | omega | assumption | exact ⟨rfl, trivial⟩ | simp only [AllP, inK_iff, roomOK_iff, decide_eq_true_eq, Bool.and_eq_true, Bool.or_eq_true, Bool.not_eq_true', decide_eq_false_iff_not, and_true, true_and]; (first | omega | (and_intros <;> intros <;> (try and_intros) <;> first | omega | assumption | exact trivial))))) ?_
    refine good_call (c := True) (by kernel_rfl) (fun _ => SVles.refl _) (fun _ => s13 (l) (by (first | omega | assumption | exact ⟨rfl, trivial⟩ | simp only [AllP, inK_iff, roomOK_iff, decide_eq_true_eq, Bool.and_eq_true, Bool.or_eq_true, Bool.not_eq_true', decide_eq_false_iff_not, and_true, true_and]; (first | omega | (and_intros <;> intros <;> (try and_intros) <;> first | omega | assumption | exact trivial))))) (by kernel_rfl) ?_
    refine good_run 14 (obs := []) (by kernel_rfl) trivial ?_
    refine good_cond (!decide ((presL l).snd = (0 : Int))) (by kernel_rfl) (fun hc2 => ?_) (fun hc2 => ?_)
    · have hc : chkL l ≠ 0 := fun h => by
        unfold presL at hc2
        rw [if_pos h] at hc2
        simp at hc2
      have e : presL l = ([], chkL l) := if_neg hc
      rw [e]
      refine good_run 10 (obs := []) (by kernel_rfl) trivial ?_
      refine good_fin [decide ((0 : Int) = (0 : Int)) = true] (by kernel_rfl) ⟨(by rfl), trivial⟩
    · have hc : chkL l = 0 := Classical.byContradiction fun h => by
        unfold presL at hc2
        rw [if_neg h] at hc2
        simp at hc2
        exact h hc2
      obtain ⟨h1, h2, h3, h4⟩ := chk_pos hc
      have hp : presL l = (lis 0 l, 0) := if_pos hc
      rw [hp]
      have hls := lis_sub l 0
      have hlr := lis_rise l 0
      have hll := hls.length_le
      refine good_run 15 (obs := []) (by kernel_rfl) trivial ?_
      refine good_loopJ (fun q : Nat × Nat => ⟨[(35, .sv (.int .i64 (q.1))), (7, .sv (.int .i64 (q.2))), (34, LV.sv (SV.int IntKind.i64 (↑(List.length (lis (0 : Int) l, (0 : Int)).fst) : Int))), (33, LV.sv (SV.lst (1 : Nat) (List.length (lis (0 : Int) l, (0 : Int)).fst) fun i => [SV.int IntKind.i64 (List.getD (lis (0 : Int) l, (0 : Int)).fst i (0 : Int))])), (5, LV.sv (SV.lst (1 : Nat) (List.length (lis (0 : Int) l, (0 : Int)).fst) fun i => [SV.int IntKind.i64 (List.getD (lis (0 : Int) l, (0 : Int)).fst i (0 : Int))])), (0, LV.sv (SV.lst (1 : Nat) (List.length l) fun i => [SV.int IntKind.i64 (List.getD l i (0 : Int))])), (1, LV.sv (SV.int IntKind.u16 bits))], [Blk.row (3 : Nat) (1 : Nat) (List.length l) false fun i => [SV.int IntKind.i64 (List.getD l i (0 : Int))]]⟩) (fun q => q.1 ≤ (lis 0 l).length ∧ q.2 ≤ l.length ∧ ((lis 0 l).drop q.1).Sublist (l.drop q.2)) (fun q => (lis 0 l).length - q.1) ((0, 0)) [List.length l = List.length l ∧ ∀ (i : Nat), i < List.length l → (fun i => [SV.int IntKind.i64 (List.getD l i (0 : Int))]) i = (fun i => [SV.int IntKind.i64 (List.getD l i (0 : Int))]) i, (0 : Int) = (0 : Int), (0 : Int) = (0 : Int), (↑(List.length (lis (0 : Int) l, (0 : Int)).fst) : Int) = (↑(List.length (lis (0 : Int) l, (0 : Int)).fst) : Int), List.length (lis (0 : Int) l, (0 : Int)).fst = List.length (lis (0 : Int) l, (0 : Int)).fst ∧ ∀ (i : Nat), i < List.length (lis (0 : Int) l, (0 : Int)).fst → (fun i => [SV.int IntKind.i64 (List.getD (lis (0 : Int) l, (0 : Int)).fst i (0 : Int))]) i = (fun i => [SV.int IntKind.i64 (List.getD (lis (0 : Int) l, (0 : Int)).fst i (0 : Int))]) i, List.length (lis (0 : Int) l, (0 : Int)).fst = List.length (lis (0 : Int) l, (0 : Int)).fst ∧ ∀ (i : Nat), i < List.length (lis (0 : Int) l, (0 : Int)).fst → (fun i => [SV.int IntKind.i64 (List.getD (lis (0 : Int) l, (0 : Int)).fst i (0 : Int))]) i = (fun i => [SV.int IntKind.i64 (List.getD (lis (0 : Int) l, (0 : Int)).fst i (0 : Int))]) i, List.length l = List.length l ∧ ∀ (i : Nat), i < List.length l → (fun i => [SV.int IntKind.i64 (List.getD l i (0 : Int))]) i = (fun i => [SV.int IntKind.i64 (List.getD l i (0 : Int))]) i, bits = bits] (by kernel_rfl) (by kernel_rfl) ⟨⟨rfl, fun _ _ => rfl⟩, rfl, rfl, rfl, ⟨rfl, fun _ _ => rfl⟩, ⟨rfl, fun _ _ => rfl⟩, ⟨rfl, fun _ _ => rfl⟩, rfl, trivial⟩ ?_ ?_
      · exact ⟨Nat.zero_le _, Nat.zero_le _, hls⟩
      rintro ⟨i, p⟩ ⟨hi, hpl, hs⟩
      simp only at hi hpl hs
      have ez : ((i : Int) - 1).toNat = i - 1 := by omega
      refine good_run 6 (obs := []) (by kernel_rfl) trivial ?_
      refine good_cond (decide ((↑i : Int) < (↑(List.length (lis (0 : Int) l, (0 : Int)).fst) : Int))) (by kernel_rfl) (fun hc3 => ?_) (fun hc3 => ?_)
      · have hlt : i < (lis 0 l).length := by simp only [decide_eq_true_eq] at hc3; omega
        rw [drop_getD (d := (0 : Int)) _ i hlt] at hs
        obtain ⟨k, hk, hf, hs2⟩ := sub_find hs
        rw [List.length_drop] at hk
        rw [List.drop_drop] at hs2
        refine good_run 28 (obs := [(1 : Nat) = (1 : Nat) ∧ (0 : Int) ≤ (↑i : Int) ∧ (↑i : Int) < (↑(List.length (lis (0 : Int) l, (0 : Int)).fst) : Int), decide ((0 : Int) < (↑i : Int)) = true ∧ True → InK IntKind.i64 ((↑i : Int) - (1 : Int)), decide ((0 : Int) < (↑i : Int)) = true ∧ True → (1 : Nat) = (1 : Nat) ∧ (0 : Int) ≤ (↑i : Int) - (1 : Int) ∧ (↑i : Int) - (1 : Int) < (↑(List.length (lis (0 : Int) l, (0 : Int)).fst) : Int)]) (by kernel_rfl) (by (first | omega | assumption | exact ⟨rfl, trivial⟩ | simp only [AllP, inK_iff, roomOK_iff, decide_eq_true_eq, Bool.and_eq_true, Bool.or_eq_true, Bool.not_eq_true', decide_eq_false_iff_not, and_true, true_and]; (first | omega | (and_intros <;> intros <;> (try and_intros) <;> first | omega | assumption | exact trivial)))) ?_
        refine good_cond (decide ((0 : Int) < (↑i : Int)) && decide (List.getD (lis (0 : Int) l, (0 : Int)).fst i (0 : Int) ≤ List.getD (lis (0 : Int) l, (0 : Int)).fst (Int.toNat ((↑i : Int) - (1 : Int))) (0 : Int))) (by kernel_rfl) (fun hc4 => ?_) (fun hc4 => ?_)
        · exfalso
          simp only [Bool.and_eq_true, decide_eq_true_eq] at hc4
          have := rise_at hlr (show i - 1 < i by omega) hlt
          have h5 := hc4.2
          rw [ez] at h5
          omega
        · refine good_run 7 (obs := [(1 : Nat) = (1 : Nat) ∧ (0 : Int) ≤ (↑p : Int) ∧ (↑p : Int) ≤ (↑(List.length l) : Int) ∧ (↑(List.length l) : Int) ≤ (↑(List.length l) : Int)]) (by kernel_rfl) (by (first | omega | assumption | exact ⟨rfl, trivial⟩ | simp only [AllP, inK_iff, roomOK_iff, decide_eq_true_eq, Bool.and_eq_true, Bool.or_eq_true, Bool.not_eq_true', decide_eq_false_iff_not, and_true, true_and]; (first | omega | (and_intros <;> intros <;> (try and_intros) <;> first | omega | assumption | exact trivial)))) ?_
          refine good_call (args := [SV.lst (1 : Nat) (List.length l - p) fun i => (fun i => [SV.int IntKind.i64 (List.getD l i (0 : Int))]) (p + i), SV.int IntKind.i64 (List.getD (lis (0 : Int) l, (0 : Int)).fst i (0 : Int))]) (c := True) (by kernel_rfl) (fun _ => show SVles _ [ints (l.drop p), .int .i64 ((lis 0 l).getD i 0)] from ⟨svle_lst (by simp) fun k _ => (by simp only [getD_drop, Int.toNat_natCast]; exact SVles.refl _), SVle.refl _, trivial⟩) (fun _ => s37 (l.drop p) ((lis 0 l).getD i 0)) (by kernel_rfl) ?_
          rw [hf]
          refine good_run 10 (obs := []) (by kernel_rfl) trivial ?_
          refine good_cond (decide ((↑k : Int) < (0 : Int))) (by kernel_rfl) (fun hc5 => ?_) (fun hc5 => ?_)
          · exfalso; simp only [decide_eq_true_eq] at hc5; omega
          · refine good_run 15 (obs := [InK IntKind.i64 ((↑k : Int) + (1 : Int)), InK IntKind.i64 ((↑p : Int) + ((↑k : Int) + (1 : Int))), InK IntKind.i64 ((↑i : Int) + (1 : Int))]) (by kernel_rfl) (by (first | omega | assumption | exact ⟨rfl, trivial⟩ | simp only [AllP, inK_iff, roomOK_iff, decide_eq_true_eq, Bool.and_eq_true, Bool.or_eq_true, Bool.not_eq_true', decide_eq_false_iff_not, and_true, true_and]; (first | omega | (and_intros <;> intros <;> (try and_intros) <;> first | omega | assumption | exact trivial)))) ?_
            refine good_backJ ((i + 1, p + (k + 1))) [List.length l = List.length l ∧ ∀ (i : Nat), i < List.length l → (fun i => [SV.int IntKind.i64 (List.getD l i (0 : Int))]) i = (fun i => [SV.int IntKind.i64 (List.getD l i (0 : Int))]) i, (↑i : Int) + (1 : Int) = (↑(i + (1 : Nat)) : Int), (↑p : Int) + ((↑k : Int) + (1 : Int)) = (↑(p + (k + (1 : Nat))) : Int), (↑(List.length (lis (0 : Int) l, (0 : Int)).fst) : Int) = (↑(List.length (lis (0 : Int) l, (0 : Int)).fst) : Int), List.length (lis (0 : Int) l, (0 : Int)).fst = List.length (lis (0 : Int) l, (0 : Int)).fst ∧ ∀ (i : Nat), i < List.length (lis (0 : Int) l, (0 : Int)).fst → (fun i => [SV.int IntKind.i64 (List.getD (lis (0 : Int) l, (0 : Int)).fst i (0 : Int))]) i = (fun i => [SV.int IntKind.i64 (List.getD (lis (0 : Int) l, (0 : Int)).fst i (0 : Int))]) i, List.length (lis (0 : Int) l, (0 : Int)).fst = List.length (lis (0 : Int) l, (0 : Int)).fst ∧ ∀ (i : Nat), i < List.length (lis (0 : Int) l, (0 : Int)).fst → (fun i => [SV.int IntKind.i64 (List.getD (lis (0 : Int) l, (0 : Int)).fst i (0 : Int))]) i = (fun i => [SV.int IntKind.i64 (List.getD (lis (0 : Int) l, (0 : Int)).fst i (0 : Int))]) i, List.length l = List.length l ∧ ∀ (i : Nat), i < List.length l → (fun i => [SV.int IntKind.i64 (List.getD l i (0 : Int))]) i = (fun i => [SV.int IntKind.i64 (List.getD l i (0 : Int))]) i, bits = bits] (by kernel_rfl) (by kernel_rfl) ⟨⟨rfl, fun _ _ => rfl⟩, (by omega), (by omega), rfl, ⟨rfl, fun _ _ => rfl⟩, ⟨rfl, fun _ _ => rfl⟩, ⟨rfl, fun _ _ => rfl⟩, rfl, trivial⟩ ?_ (by show _ < _; omega)
            exact ⟨hlt, by show p + (k + 1) ≤ _; omega, by show ((lis 0 l).drop (i + 1)).Sublist (l.drop (p + (k + 1))); exact hs2⟩
      · have hie : i = (lis 0 l).length := by simp only [decide_eq_false_iff_not] at hc3; omega
        subst hie
        refine good_run 2 (obs := []) (by kernel_rfl) trivial ?_
        refine good_leaveJ (by kernel_rfl) ?_
        refine good_run 15 (obs := []) (by kernel_rfl) trivial ?_
        refine good_loopJ (fun k : Nat => ⟨[(65, .sv (.int .i64 (k))), (11, .own 1), (64, LV.sv (SV.int IntKind.i64 (↑(List.length l) : Int))), (63, LV.sv (SV.lst (1 : Nat) (List.length l) fun i => [SV.int IntKind.i64 (List.getD l i (0 : Int))])), (5, LV.sv (SV.lst (1 : Nat) (List.length (lis (0 : Int) l, (0 : Int)).fst) fun i => [SV.int IntKind.i64 (List.getD (lis (0 : Int) l, (0 : Int)).fst i (0 : Int))])), (1, LV.sv (SV.int IntKind.u16 bits))], [Blk.row (3 : Nat) (1 : Nat) (List.length l) false fun i => [SV.int IntKind.i64 (List.getD l i (0 : Int))], .row 3 1 (partK l (bitB bits) k).length true fun i => [.int .i64 ((partK l (bitB bits) k).getD i 0)]]⟩) (fun k => k ≤ l.length) (fun k => l.length - k) (0) [List.length l = List.length l ∧ ∀ (i : Nat), i < List.length l → (fun i => [SV.int IntKind.i64 (List.getD l i (0 : Int))]) i = (fun i => [SV.int IntKind.i64 (List.getD l i (0 : Int))]) i, (0 : Nat) = (0 : Nat), (0 : Int) = (0 : Int), (↑(List.length l) : Int) = (↑(List.length l) : Int), List.length l = List.length l ∧ ∀ (i : Nat), i < List.length l → (fun i => [SV.int IntKind.i64 (List.getD l i (0 : Int))]) i = (fun i => [SV.int IntKind.i64 (List.getD l i (0 : Int))]) i, List.length (lis (0 : Int) l, (0 : Int)).fst = List.length (lis (0 : Int) l, (0 : Int)).fst ∧ ∀ (i : Nat), i < List.length (lis (0 : Int) l, (0 : Int)).fst → (fun i => [SV.int IntKind.i64 (List.getD (lis (0 : Int) l, (0 : Int)).fst i (0 : Int))]) i = (fun i => [SV.int IntKind.i64 (List.getD (lis (0 : Int) l, (0 : Int)).fst i (0 : Int))]) i, bits = bits] (by kernel_rfl) (by kernel_rfl) ⟨⟨rfl, fun _ _ => rfl⟩, rfl, rfl, rfl, ⟨rfl, fun _ _ => rfl⟩, ⟨rfl, fun _ _ => rfl⟩, rfl, trivial⟩ (by omega) ?_
        intro k hk
        obtain ⟨p1, p2, p3⟩ := partK_spec l (bitB bits) k hk
        have hq0 : 0 ≤ bits / 2 ^ ((k : Int).toNat) := Int.ediv_nonneg hb'.1 (Int.le_of_lt (Int.pow_pos (by decide)))
        have hq1 : bits / 2 ^ ((k : Int).toNat) ≤ 65535 := Int.le_trans (Int.ediv_le_self _ hb'.1) hb'.2
        have hq2 : InK .u16 (bits / 2 ^ ((k : Int).toNat)) := by
          generalize bits / 2 ^ ((k : Int).toNat) = z at hq0 hq1
          unfold InK
          simp [IntKind.min, IntKind.max, IntKind.signed, IntKind.bits]
          omega
        have hq3 : InK .u16 1 := by
          unfold InK
          simp [IntKind.min, IntKind.max, IntKind.signed, IntKind.bits]
        have hak : andK .u16 = true := rfl
        have hmn : IntKind.u16.min = 0 := rfl
        have hmx : IntKind.u16.max = 65535 := rfl
        have ez : (((partK l (bitB bits) k).length : Int) - 1).toNat = (partK l (bitB bits) k).length - 1 := by omega
        have hps : partK l (bitB bits) (k + 1) = if bitB bits k = true ∧ ((partK l (bitB bits) k).length = 0 ∨ (partK l (bitB bits) k).getD ((partK l (bitB bits) k).length - 1) 0 < l.getD k 0) then partK l (bitB bits) k ++ [l.getD k 0] else partK l (bitB bits) k := rfl
        refine good_run 6 (obs := []) (by kernel_rfl) trivial ?_
        refine good_cond (decide ((↑k : Int) < (↑(List.length l) : Int))) (by kernel_rfl) (fun hc4 => ?_) (fun hc4 => ?_)
        · have hlt : k < l.length := by simp only [decide_eq_true_eq] at hc4; omega
          have hbe : (decide ((k : Int) < 16) && decide ((((bits / 2 ^ k).toNat &&& 1 : Nat) : Int) = 1) && (decide (((partK l (bitB bits) k).length : Int) = 0) || decide ((partK l (bitB bits) k).getD (((partK l (bitB bits) k).length : Int) - 1).toNat 0 < l.getD k 0))) = decide (bitB bits k = true ∧ ((partK l (bitB bits) k).length = 0 ∨ (partK l (bitB bits) k).getD ((partK l (bitB bits) k).length - 1) 0 < l.getD k 0)) := by
            rw [ez, show decide (((partK l (bitB bits) k).length : Int) = 0) = decide ((partK l (bitB bits) k).length = 0) from decide_eq_decide.2 (by omega)]
            show (bitB bits k && _) = _
            rw [Bool.decide_and, Bool.decide_or, Bool.decide_eq_true]
          refine good_run 40 (obs := [(1 : Nat) = (1 : Nat) ∧ (0 : Int) ≤ (↑k : Int) ∧ (↑k : Int) < (↑(List.length l) : Int), decide ((↑k : Int) < (16 : Int)) = true ∧ True → (0 : Int) ≤ (↑k : Int) ∧ k ≤ (16 : Nat), decide ((↑k : Int) < (16 : Int)) = true ∧ True → andK IntKind.u16 = true ∧ (0 : Int) ≤ bits / (2 : Int) ^ k ∧ (0 : Int) ≤ (1 : Int) ∧ InK IntKind.u16 (bits / (2 : Int) ^ k) ∧ InK IntKind.u16 (1 : Int), decide ((↑(List.length (partK l (bitB bits) k)) : Int) = (0 : Int)) = false ∧ (decide ((↑k : Int) < (16 : Int)) && decide ((↑(Int.toNat (bits / (2 : Int) ^ k) &&& (1 : Nat)) : Int) = (1 : Int))) = true ∧ True → InK IntKind.i64 ((↑(List.length (partK l (bitB bits) k)) : Int) - (1 : Int)), decide ((↑(List.length (partK l (bitB bits) k)) : Int) = (0 : Int)) = false ∧ (decide ((↑k : Int) < (16 : Int)) && decide ((↑(Int.toNat (bits / (2 : Int) ^ k) &&& (1 : Nat)) : Int) = (1 : Int))) = true ∧ True → (1 : Nat) = (1 : Nat) ∧ (0 : Int) ≤ (↑(List.length (partK l (bitB bits) k)) : Int) - (1 : Int) ∧ (↑(List.length (partK l (bitB bits) k)) : Int) - (1 : Int) < (↑(List.length (partK l (bitB bits) k)) : Int)]) (by kernel_rfl) (by (first | omega | assumption | exact ⟨rfl, trivial⟩ | simp only [AllP, inK_iff, roomOK_iff, decide_eq_true_eq, Bool.and_eq_true, Bool.or_eq_true, Bool.not_eq_true', decide_eq_false_iff_not, and_true, true_and]; (first | omega | (and_intros <;> intros <;> (try and_intros) <;> first | omega | assumption | exact trivial)))) ?_
          refine good_cond (decide ((↑k : Int) < (16 : Int)) && decide ((↑(Int.toNat (bits / (2 : Int) ^ k) &&& (1 : Nat)) : Int) = (1 : Int)) && (decide ((↑(List.length (partK l (bitB bits) k)) : Int) = (0 : Int)) || decide (List.getD (partK l (bitB bits) k) (Int.toNat ((↑(List.length (partK l (bitB bits) k)) : Int) - (1 : Int))) (0 : Int) < List.getD l k (0 : Int)))) (by kernel_rfl) (fun hc5 => ?_) (fun hc5 => ?_)
          · rw [hbe, decide_eq_true_eq] at hc5
            rw [if_pos hc5] at hps
            refine good_run 14 (obs := [(3 : Nat) = (3 : Nat) ∧ (1 : Nat) = (1 : Nat) ∧ (1 : Nat) = (1 : Nat) ∧ roomOK (List.length (partK l (bitB bits) k) + (1 : Nat)) (8 : Nat), InK IntKind.i64 ((↑k : Int) + (1 : Int))]) (by kernel_rfl) (by (first | omega | assumption | exact ⟨rfl, trivial⟩ | simp only [AllP, inK_iff, roomOK_iff, decide_eq_true_eq, Bool.and_eq_true, Bool.or_eq_true, Bool.not_eq_true', decide_eq_false_iff_not, and_true, true_and]; (first | omega | (and_intros <;> intros <;> (try and_intros) <;> first | omega | assumption | exact trivial)))) ?_
            refine good_backJ (k + 1) [List.length l = List.length l ∧ ∀ (i : Nat), i < List.length l → (fun i => [SV.int IntKind.i64 (List.getD l i (0 : Int))]) i = (fun i => [SV.int IntKind.i64 (List.getD l i (0 : Int))]) i, List.length (partK l (bitB bits) k) + (1 : Nat) = List.length (partK l (bitB bits) (k + (1 : Nat))) ∧ ∀ (i : Nat), i < List.length (partK l (bitB bits) k) + (1 : Nat) → joinGet (List.length (partK l (bitB bits) k)) (fun i => [SV.int IntKind.i64 (List.getD (partK l (bitB bits) k) i (0 : Int))]) (cutRows (1 : Nat) [SV.int IntKind.i64 (List.getD l k (0 : Int))]) i = (fun i => [SV.int IntKind.i64 (List.getD (partK l (bitB bits) (k + (1 : Nat))) i (0 : Int))]) i, (↑k : Int) + (1 : Int) = (↑(k + (1 : Nat)) : Int), (↑(List.length l) : Int) = (↑(List.length l) : Int), List.length l = List.length l ∧ ∀ (i : Nat), i < List.length l → (fun i => [SV.int IntKind.i64 (List.getD l i (0 : Int))]) i = (fun i => [SV.int IntKind.i64 (List.getD l i (0 : Int))]) i, List.length (lis (0 : Int) l, (0 : Int)).fst = List.length (lis (0 : Int) l, (0 : Int)).fst ∧ ∀ (i : Nat), i < List.length (lis (0 : Int) l, (0 : Int)).fst → (fun i => [SV.int IntKind.i64 (List.getD (lis (0 : Int) l, (0 : Int)).fst i (0 : Int))]) i = (fun i => [SV.int IntKind.i64 (List.getD (lis (0 : Int) l, (0 : Int)).fst i (0 : Int))]) i, bits = bits] (by kernel_rfl) (by kernel_rfl) ⟨⟨rfl, fun _ _ => rfl⟩, ?_, (by omega), rfl, ⟨rfl, fun _ _ => rfl⟩, ⟨rfl, fun _ _ => rfl⟩, rfl, trivial⟩ (by omega) (by show _ < _; omega)
            rw [hps]
            exact row_snoc' (fun x => [SV.int .i64 x]) 0 _ _ 1 rfl
          · rw [hbe, decide_eq_false_iff_not] at hc5
            rw [if_neg hc5] at hps
            refine good_run 7 (obs := [InK IntKind.i64 ((↑k : Int) + (1 : Int))]) (by kernel_rfl) (by (first | omega | assumption | exact ⟨rfl, trivial⟩ | simp only [AllP, inK_iff, roomOK_iff, decide_eq_true_eq, Bool.and_eq_true, Bool.or_eq_true, Bool.not_eq_true', decide_eq_false_iff_not, and_true, true_and]; (first | omega | (and_intros <;> intros <;> (try and_intros) <;> first | omega | assumption | exact trivial)))) ?_
            refine good_backJ (k + 1) [List.length l = List.length l ∧ ∀ (i : Nat), i < List.length l → (fun i => [SV.int IntKind.i64 (List.getD l i (0 : Int))]) i = (fun i => [SV.int IntKind.i64 (List.getD l i (0 : Int))]) i, List.length (partK l (bitB bits) k) = List.length (partK l (bitB bits) (k + (1 : Nat))) ∧ ∀ (i : Nat), i < List.length (partK l (bitB bits) k) → (fun i => [SV.int IntKind.i64 (List.getD (partK l (bitB bits) k) i (0 : Int))]) i = (fun i => [SV.int IntKind.i64 (List.getD (partK l (bitB bits) (k + (1 : Nat))) i (0 : Int))]) i, (↑k : Int) + (1 : Int) = (↑(k + (1 : Nat)) : Int), (↑(List.length l) : Int) = (↑(List.length l) : Int), List.length l = List.length l ∧ ∀ (i : Nat), i < List.length l → (fun i => [SV.int IntKind.i64 (List.getD l i (0 : Int))]) i = (fun i => [SV.int IntKind.i64 (List.getD l i (0 : Int))]) i, List.length (lis (0 : Int) l, (0 : Int)).fst = List.length (lis (0 : Int) l, (0 : Int)).fst ∧ ∀ (i : Nat), i < List.length (lis (0 : Int) l, (0 : Int)).fst → (fun i => [SV.int IntKind.i64 (List.getD (lis (0 : Int) l, (0 : Int)).fst i (0 : Int))]) i = (fun i => [SV.int IntKind.i64 (List.getD (lis (0 : Int) l, (0 : Int)).fst i (0 : Int))]) i, bits = bits] (by kernel_rfl) (by kernel_rfl) ⟨⟨rfl, fun _ _ => rfl⟩, ?_, (by omega), rfl, ⟨rfl, fun _ _ => rfl⟩, ⟨rfl, fun _ _ => rfl⟩, rfl, trivial⟩ (by omega) (by show _ < _; omega)
            rw [hps]
            exact ⟨rfl, fun _ _ => rfl⟩
        · have hke : k = l.length := by simp only [decide_eq_false_iff_not] at hc4; omega
          subst hke
          obtain ⟨g1, g2⟩ := part_no (l := l) (bitB bits) (fun x hx => by have := h4 x hx; omega)
          have g3 : (decide (((partK l (bitB bits) l.length).length : Int) ≤ (lis 0 l).length) && (decide (((partK l (bitB bits) l.length).length : Int) < (lis 0 l).length) || decide (cmpL (lis 0 l) (partK l (bitB bits) l.length) ≤ 0))) = true := by
            rw [decide_eq_true (by omega), Bool.true_and]
            by_cases h : (partK l (bitB bits) l.length).length = (lis 0 l).length
            · rw [decide_eq_true (cmpL_le _ _ h.symm (g2 h)), Bool.or_true]
            · rw [decide_eq_true (by omega), Bool.true_or]
          refine good_run 2 (obs := []) (by kernel_rfl) trivial ?_
          refine good_leaveJ (by kernel_rfl) ?_
          refine good_run 18 (obs := []) (by kernel_rfl) trivial ?_
          refine good_call (c := decide ((↑(List.length (partK l (bitB bits) (List.length l))) : Int) < (↑(List.length (lis (0 : Int) l, (0 : Int)).fst) : Int)) = false ∧ decide ((↑(List.length (partK l (bitB bits) (List.length l))) : Int) ≤ (↑(List.length (lis (0 : Int) l, (0 : Int)).fst) : Int)) = true ∧ True) (by kernel_rfl) (fun _ => SVles.refl _) (fun _ => s38 ((lis (0 : Int) l, (0 : Int)).fst) (partK l (bitB bits) (List.length l))) (by kernel_rfl) ?_
          refine good_run 8 (obs := []) (by kernel_rfl) trivial ?_
          refine good_fin [(decide ((↑(List.length (partK l (bitB bits) (List.length l))) : Int) ≤ (↑(List.length (lis (0 : Int) l, (0 : Int)).fst) : Int)) && (decide ((↑(List.length (partK l (bitB bits) (List.length l))) : Int) < (↑(List.length (lis (0 : Int) l, (0 : Int)).fst) : Int)) || decide (cmpL (lis (0 : Int) l, (0 : Int)).fst (partK l (bitB bits) (List.length l)) ≤ (0 : Int)))) = true] (by kernel_rfl) ⟨(by assumption), trivial⟩
end Go.Sx.T
