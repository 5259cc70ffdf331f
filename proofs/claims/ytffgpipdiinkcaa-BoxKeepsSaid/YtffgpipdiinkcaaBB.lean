/- Contracts of functions of the program, each proved by running its code symbolically (BB). -/
import Derived.Test.YtffgpipdiinkcaaBA
namespace Go.Sx.T
open Go Go.Proofs Go.Sx
set_option maxRecDepth 100000
set_option maxHeartbeats 4000000
set_option linter.unusedVariables false
set_option linter.unusedSimpArgs false
def inB (n lo hi : Int) : Bool := decide (lo ≤ n) && decide (n ≤ hi)
def okC (c : Content) : Bool := inB c.Unit 1 1073741824 && inB c.Thick 1 10000
def sumT : List Content → Int
  | [] => 0
  | c :: r => c.Thick + sumT r
theorem sumT_append : ∀ l r : List Content, sumT (l ++ r) = sumT l + sumT r
  | [], r => by simp [sumT]
  | c :: l, r => by simp [sumT, sumT_append l r]; omega
theorem okC_thick {c : Content} (h : okC c = true) : 1 ≤ c.Thick ∧ c.Thick ≤ 10000 := by
  simp [okC, inB] at h; omega
theorem sumT_bound : ∀ (l : List Content), (∀ c ∈ l, okC c = true) → 0 ≤ sumT l ∧ sumT l ≤ 10000 * l.length
  | [], _ => by simp [sumT]
  | c :: r, h => by
    have h1 := okC_thick (h c (by simp))
    have h2 := sumT_bound r fun x hx => h x (by simp [hx])
    simp only [sumT, List.length_cons]; omega
theorem sumT_take {l : List Content} (h : ∀ c ∈ l, okC c = true) (k : Nat) (hk : k < l.length) :
    sumT (l.take (k + 1)) = sumT (l.take k) + (l.getD k default).Thick ∧ 0 ≤ sumT (l.take k) ∧ sumT (l.take k) ≤ 10000 * k ∧ 1 ≤ (l.getD k default).Thick ∧ (l.getD k default).Thick ≤ 10000 := by
  have h1 := okC_thick (h _ (getD_mem l default k hk))
  have h2 := sumT_bound (l.take k) fun c hc => h c (List.mem_of_mem_take hc)
  rw [List.length_take] at h2
  refine ⟨by rw [take_snoc l default k hk, sumT_append]; simp [sumT], h2.1, ?_, h1.1, h1.2⟩
  have : min k l.length = k := by omega
  rw [this] at h2; exact h2.2
theorem s38 (n lo hi : Int) : Spec Try.prog 38 [.int .i64 n, .int .i64 lo, .int .i64 hi] (.bool (inB n lo hi)) := by
  refine spec_of_good mixed Try.func38 F38_ok (by kernel_rfl) ?_
  refine good_run 19 (obs := []) (by kernel_rfl) trivial ?_
  refine good_fin [(decide (lo ≤ n) && decide (n ≤ hi)) = inB n lo hi] (by kernel_rfl) ⟨(by rfl), trivial⟩
theorem s42 (c : Content) : Spec Try.prog 42 [c.sv] (.bool (okC c)) := by
  refine spec_of_good mixed Try.func42 F42_ok (by kernel_rfl) ?_
  refine good_run 10 (obs := []) (by kernel_rfl) trivial ?_
  refine good_call (c := True) (by kernel_rfl) (fun _ => SVles.refl _) (fun _ => s38 (c.Unit) ((1 : Int)) ((1073741824 : Int))) (by kernel_rfl) ?_
  refine good_run 4 (obs := []) (by kernel_rfl) trivial ?_
  refine good_call (c := inB c.Unit (1 : Int) (1073741824 : Int) = true ∧ True) (by kernel_rfl) (fun _ => SVles.refl _) (fun _ => s38 (c.Thick) ((1 : Int)) ((10000 : Int))) (by kernel_rfl) ?_
  refine good_run 6 (obs := []) (by kernel_rfl) trivial ?_
  refine good_fin [(inB c.Unit (1 : Int) (1073741824 : Int) && inB c.Thick (1 : Int) (10000 : Int)) = okC c] (by kernel_rfl) ⟨(by rfl), trivial⟩
theorem s44 (c : Content) : Spec Try.prog 44 [c.sv] (.bool (okC c)) := by
  refine spec_of_good mixed Try.func44 F44_ok (by kernel_rfl) ?_
  refine good_run 30 (obs := []) (by kernel_rfl) trivial ?_
  refine good_fin [(decide ((1 : Int) ≤ c.Unit) && decide (c.Unit ≤ (1073741824 : Int)) && decide ((1 : Int) ≤ c.Thick) && decide (c.Thick ≤ (10000 : Int))) = okC c] (by kernel_rfl) ⟨?_, trivial⟩
  simp [okC, inB, Bool.and_assoc]
theorem s51 (c : Content) : Spec Try.prog 51 [c.sv] (.bool (!okC c)) := by
  refine spec_of_good mixed Try.func51 F51_ok (by kernel_rfl) ?_
  refine good_run 9 (obs := [(0 : Nat) + (2 : Nat) ≤ (2 : Nat)]) (by kernel_rfl) (by (first | omega | assumption | exact ⟨rfl, trivial⟩ | simp only [AllP, inK_iff, roomOK_iff, decide_eq_true_eq, Bool.and_eq_true, Bool.or_eq_true, Bool.not_eq_true', decide_eq_false_iff_not, and_true, true_and]; (first | omega | (and_intros <;> intros <;> (try and_intros) <;> first | omega | assumption | exact trivial)))) ?_
  refine good_call (c := True) (by kernel_rfl) (fun _ => SVles.refl _) (fun _ => s42 (c)) (by kernel_rfl) ?_
  refine good_run 5 (obs := []) (by kernel_rfl) trivial ?_
  refine good_fin [(!okC c) = !okC c] (by kernel_rfl) ⟨rfl, trivial⟩
theorem s49 (c : Content) (u : Int) : Spec Try.prog 49 [c.sv, .ref [.int .i64 u] 0] (.bool (decide (c.Unit = u))) := by
  refine spec_of_good mixed Try.func49 F49_ok (by kernel_rfl) ?_
  refine good_run 16 (obs := []) (by kernel_rfl) trivial ?_
  refine good_fin [decide (c.Unit = u) = decide (c.Unit = u)] (by kernel_rfl) ⟨rfl, trivial⟩
theorem s53 (c : Box) (u : Int) : Spec Try.prog 53 [c.sv, .ref [.int .i64 u] 0] (.bool (decide (c.ID = u))) := by
  refine spec_of_good mixed Try.func53 F53_ok (by kernel_rfl) ?_
  refine good_run 16 (obs := []) (by kernel_rfl) trivial ?_
  refine good_fin [decide (c.ID = u) = decide (c.ID = u)] (by kernel_rfl) ⟨rfl, trivial⟩
theorem s37 (l : List Box) (id : Int) : Spec Try.prog 37 [boxes l, .int .i64 id] (.int .i64 (findI l fun b => decide (b.ID = id))) := by
  refine spec_of_good mixed Try.func37 F37_ok (by kernel_rfl) ?_
  refine good_run 10 (obs := []) (by kernel_rfl) trivial ?_
  refine good_call (c := True) (by kernel_rfl) (fun _ => SVles.refl _) (fun _ => s52 l 53 [.ref [.int .i64 id] 0] (fun b => decide (b.ID = id)) (fun b => s53 b id)) (by kernel_rfl) ?_
  refine good_run 4 (obs := []) (by kernel_rfl) trivial ?_
  refine good_fin [(findI l fun b => decide (b.ID = id)) = findI l fun b => decide (b.ID = id)] (by kernel_rfl) ⟨rfl, trivial⟩
theorem s31 (l : List Content) (h : l.length ≤ 100000) (hc : ∀ c ∈ l, okC c = true) : Spec Try.prog 31 [conts l] (.int .i64 (sumT l)) := by
  refine spec_of_good mixed Try.func31 F31_ok (by kernel_rfl) ?_
  refine good_run 19 (obs := []) (by kernel_rfl) trivial ?_
  refine good_loopJ (fun k : Nat => ⟨[(8, .sv (.int .i64 (k))), (3, .sv (.int .i64 (sumT (l.take k)))), (7, LV.sv (SV.int IntKind.i64 (↑(List.length l) : Int))), (6, LV.sv (SV.lst (2 : Nat) (List.length l) fun i => Content.cells (List.getD l i default)))], []⟩) (fun k => k ≤ l.length) (fun k => l.length - k) (0) [(0 : Int) = (0 : Int), (0 : Int) = sumT [], (↑(List.length l) : Int) = (↑(List.length l) : Int), List.length l = List.length l ∧ ∀ (i : Nat), i < List.length l → (fun i => Content.cells (List.getD l i default)) i = (fun i => Content.cells (List.getD l i default)) i] (by kernel_rfl) (by kernel_rfl) ⟨rfl, (by rfl), rfl, ⟨rfl, fun _ _ => rfl⟩, trivial⟩ (by omega) ?_
  · intro k hk
    refine good_run 6 (obs := []) (by kernel_rfl) trivial ?_
    refine good_cond (decide ((↑k : Int) < (↑(List.length l) : Int))) (by kernel_rfl) (fun hc1 => ?_) (fun hc1 => ?_)
    · have hlt : k < l.length := by simp at hc1; omega
      have := sumT_take hc k hlt
      refine good_run 25 (obs := [(2 : Nat) = (2 : Nat) ∧ (0 : Int) ≤ (↑k : Int) ∧ (↑k : Int) < (↑(List.length l) : Int), (0 : Nat) + (2 : Nat) ≤ (2 : Nat), (2 : Nat) = (2 : Nat) ∧ (0 : Nat) + (2 : Nat) ≤ (2 : Nat), InK IntKind.i64 (sumT (List.take k l) + (List.getD l k default).Thick), InK IntKind.i64 ((↑k : Int) + (1 : Int))]) (by kernel_rfl) (by (first | omega | assumption | exact ⟨rfl, trivial⟩ | simp only [AllP, inK_iff, roomOK_iff, decide_eq_true_eq, Bool.and_eq_true, Bool.or_eq_true, Bool.not_eq_true', decide_eq_false_iff_not, and_true, true_and]; (first | omega | (and_intros <;> intros <;> (try and_intros) <;> first | omega | assumption | exact trivial)))) ?_
      refine good_backJ (k + 1) [(↑k : Int) + (1 : Int) = (↑(k + (1 : Nat)) : Int), sumT (List.take k l) + (List.getD l k default).Thick = sumT (List.take (k + (1 : Nat)) l), (↑(List.length l) : Int) = (↑(List.length l) : Int), List.length l = List.length l ∧ ∀ (i : Nat), i < List.length l → (fun i => Content.cells (List.getD l i default)) i = (fun i => Content.cells (List.getD l i default)) i] (by kernel_rfl) (by kernel_rfl) ⟨(by omega), (by omega), rfl, ⟨rfl, fun _ _ => rfl⟩, trivial⟩ (by omega) (by show _ < _; omega)
    · have : k = l.length := by simp at hc1; omega
      subst this
      refine good_run 2 (obs := []) (by kernel_rfl) trivial ?_
      refine good_leaveJ (by kernel_rfl) ?_
      refine good_run 8 (obs := []) (by kernel_rfl) trivial ?_
      refine good_fin [sumT (List.take (List.length l) l) = sumT l] (by kernel_rfl) ⟨?_, trivial⟩
      rw [List.take_length]
theorem s32 (b : Box) (h : b.Contents.length ≤ 100000) (hc : ∀ c ∈ b.Contents, okC c = true) : Spec Try.prog 32 [b.sv] (.int .i64 (sumT b.Contents)) := by
  refine spec_of_good mixed Try.func32 F32_ok (by kernel_rfl) ?_
  refine good_run 21 (obs := []) (by kernel_rfl) trivial ?_
  refine good_loopJ (fun k : Nat => ⟨[(9, .sv (.int .i64 (k))), (3, .sv (.int .i64 (sumT (b.Contents.take k)))), (8, LV.sv (SV.int IntKind.i64 (↑(List.length b.Contents) : Int))), (7, LV.sv (SV.lst (2 : Nat) (List.length b.Contents) fun i => Content.cells (List.getD b.Contents i default)))], [Blk.cells (27 : Nat) true [SV.int IntKind.i64 b.ID, SV.int IntKind.i64 b.Width, SV.int IntKind.i64 b.Room, SV.int IntKind.i64 b.Climate, SV.lst (2 : Nat) (List.length b.Contents) fun i => Content.cells (List.getD b.Contents i default)]]⟩) (fun k => k ≤ b.Contents.length) (fun k => b.Contents.length - k) (0) [b.ID = b.ID, b.Width = b.Width, b.Room = b.Room, b.Climate = b.Climate, List.length b.Contents = List.length b.Contents ∧ ∀ (i : Nat), i < List.length b.Contents → (fun i => Content.cells (List.getD b.Contents i default)) i = (fun i => Content.cells (List.getD b.Contents i default)) i, (0 : Int) = (0 : Int), (0 : Int) = sumT [], (↑(List.length b.Contents) : Int) = (↑(List.length b.Contents) : Int), List.length b.Contents = List.length b.Contents ∧ ∀ (i : Nat), i < List.length b.Contents → (fun i => Content.cells (List.getD b.Contents i default)) i = (fun i => Content.cells (List.getD b.Contents i default)) i] (by kernel_rfl) (by kernel_rfl) ⟨rfl, rfl, rfl, rfl, ⟨rfl, fun _ _ => rfl⟩, rfl, (by rfl), rfl, ⟨rfl, fun _ _ => rfl⟩, trivial⟩ (by omega) ?_
  · intro k hk
    refine good_run 6 (obs := []) (by kernel_rfl) trivial ?_
    refine good_cond (decide ((↑k : Int) < (↑(List.length b.Contents) : Int))) (by kernel_rfl) (fun hc1 => ?_) (fun hc1 => ?_)
    · have hlt : k < b.Contents.length := by simp at hc1; omega
      have := sumT_take hc k hlt
      refine good_run 25 (obs := [(2 : Nat) = (2 : Nat) ∧ (0 : Int) ≤ (↑k : Int) ∧ (↑k : Int) < (↑(List.length b.Contents) : Int), (0 : Nat) + (2 : Nat) ≤ (2 : Nat), (2 : Nat) = (2 : Nat) ∧ (0 : Nat) + (2 : Nat) ≤ (2 : Nat), InK IntKind.i64 (sumT (List.take k b.Contents) + (List.getD b.Contents k default).Thick), InK IntKind.i64 ((↑k : Int) + (1 : Int))]) (by kernel_rfl) (by (first | omega | assumption | exact ⟨rfl, trivial⟩ | simp only [AllP, inK_iff, roomOK_iff, decide_eq_true_eq, Bool.and_eq_true, Bool.or_eq_true, Bool.not_eq_true', decide_eq_false_iff_not, and_true, true_and]; (first | omega | (and_intros <;> intros <;> (try and_intros) <;> first | omega | assumption | exact trivial)))) ?_
      refine good_backJ (k + 1) [b.ID = b.ID, b.Width = b.Width, b.Room = b.Room, b.Climate = b.Climate, List.length b.Contents = List.length b.Contents ∧ ∀ (i : Nat), i < List.length b.Contents → (fun i => Content.cells (List.getD b.Contents i default)) i = (fun i => Content.cells (List.getD b.Contents i default)) i, (↑k : Int) + (1 : Int) = (↑(k + (1 : Nat)) : Int), sumT (List.take k b.Contents) + (List.getD b.Contents k default).Thick = sumT (List.take (k + (1 : Nat)) b.Contents), (↑(List.length b.Contents) : Int) = (↑(List.length b.Contents) : Int), List.length b.Contents = List.length b.Contents ∧ ∀ (i : Nat), i < List.length b.Contents → (fun i => Content.cells (List.getD b.Contents i default)) i = (fun i => Content.cells (List.getD b.Contents i default)) i] (by kernel_rfl) (by kernel_rfl) ⟨rfl, rfl, rfl, rfl, ⟨rfl, fun _ _ => rfl⟩, (by omega), (by omega), rfl, ⟨rfl, fun _ _ => rfl⟩, trivial⟩ (by omega) (by show _ < _; omega)
    · have : k = b.Contents.length := by simp at hc1; omega
      subst this
      refine good_run 2 (obs := []) (by kernel_rfl) trivial ?_
      refine good_leaveJ (by kernel_rfl) ?_
      refine good_run 8 (obs := []) (by kernel_rfl) trivial ?_
      refine good_fin [sumT (List.take (List.length b.Contents) b.Contents) = sumT b.Contents] (by kernel_rfl) ⟨?_, trivial⟩
      rw [List.take_length]
/-- Where a unit is: the index of its box, and in it. -/
def whereP (u : Int) : Nat → List Box → Int × Int
  | _, [] => (-1, -1)
  | i, b :: r => if findI b.Contents (fun c => decide (c.Unit = u)) < 0 then whereP u (i + 1) r else (i, findI b.Contents fun c => decide (c.Unit = u))
theorem s33 (l : List Box) (u : Int) : Spec Try.prog 33 [boxes l, .int .i64 u] (.tup [.int .i64 (whereP u 0 l).1, .int .i64 (whereP u 0 l).2]) := by
  refine spec_len 0 rfl (hasBody_of_slim Try.func33 F33_ok) fun hlen => ?_
  refine spec_of_good mixed Try.func33 F33_ok (by kernel_rfl) ?_
  refine good_run 16 (obs := []) (by kernel_rfl) trivial ?_
  refine good_loopJ (fun k : Nat => ⟨[(11, .sv (.int .i64 (k))), (10, LV.sv (SV.int IntKind.i64 (↑(List.length l) : Int))), (9, LV.sv (SV.lst (5 : Nat) (List.length l) fun i => Box.cells (List.getD l i default))), (3, LV.ptr (0 : Nat) (0 : Nat))], [Blk.cells (3 : Nat) false [SV.int IntKind.i64 u]]⟩) (fun k => k ≤ l.length ∧ whereP u k (l.drop k) = whereP u 0 l) (fun k => l.length - k) (0) [u = u, (0 : Int) = (0 : Int), (↑(List.length l) : Int) = (↑(List.length l) : Int), List.length l = List.length l ∧ ∀ (i : Nat), i < List.length l → (fun i => Box.cells (List.getD l i default)) i = (fun i => Box.cells (List.getD l i default)) i] (by kernel_rfl) (by kernel_rfl) ⟨rfl, rfl, rfl, ⟨rfl, fun _ _ => rfl⟩, trivial⟩ ⟨by omega, rfl⟩ ?_
  · intro k hk
    refine good_run 6 (obs := []) (by kernel_rfl) trivial ?_
    refine good_cond (decide ((↑k : Int) < (↑(List.length l) : Int))) (by kernel_rfl) (fun hc1 => ?_) (fun hc1 => ?_)
    · have hlt : k < l.length := by simp at hc1; omega
      have hw := hk.2
      rw [drop_cons l default k hlt, whereP] at hw
      refine good_run 18 (obs := [(5 : Nat) = (5 : Nat) ∧ (0 : Int) ≤ (↑k : Int) ∧ (↑k : Int) < (↑(List.length l) : Int), (0 : Nat) + (5 : Nat) ≤ (5 : Nat), (5 : Nat) = (5 : Nat) ∧ (0 : Nat) + (5 : Nat) ≤ (5 : Nat)]) (by kernel_rfl) (by (first | omega | assumption | exact ⟨rfl, trivial⟩ | simp only [AllP, inK_iff, roomOK_iff, decide_eq_true_eq, Bool.and_eq_true, Bool.or_eq_true, Bool.not_eq_true', decide_eq_false_iff_not, and_true, true_and]; (first | omega | (and_intros <;> intros <;> (try and_intros) <;> first | omega | assumption | exact trivial)))) ?_
      refine good_call (c := True) (by kernel_rfl) (fun _ => SVles.refl _) (fun _ => s48 (l.getD k default).Contents 49 [.ref [.int .i64 u] 0] (fun c => decide (c.Unit = u)) (fun c => s49 c u)) (by kernel_rfl) ?_
      refine good_run 9 (obs := []) (by kernel_rfl) trivial ?_
      refine good_cond (decide ((0 : Int) ≤ findI (List.getD l k default).Contents fun c => decide (c.Unit = u))) (by kernel_rfl) (fun hc2 => ?_) (fun hc2 => ?_)
      · simp only [decide_eq_true_eq] at hc2
        rw [if_neg (by omega)] at hw
        refine good_run 11 (obs := []) (by kernel_rfl) trivial ?_
        refine good_leaveJ (by kernel_rfl) ?_
        refine good_run 2 (obs := []) (by kernel_rfl) trivial ?_
        refine good_fin [(↑k : Int) = (whereP u (0 : Nat) l).fst, (findI (List.getD l k default).Contents fun c => decide (c.Unit = u)) = (whereP u (0 : Nat) l).snd] (by kernel_rfl) ⟨?_, ?_, trivial⟩
        · rw [← hw]
        · rw [← hw]
      · simp only [decide_eq_false_iff_not] at hc2
        rw [if_pos (by omega)] at hw
        refine good_run 7 (obs := [InK IntKind.i64 ((↑k : Int) + (1 : Int))]) (by kernel_rfl) (by (first | omega | assumption | exact ⟨rfl, trivial⟩ | simp only [AllP, inK_iff, roomOK_iff, decide_eq_true_eq, Bool.and_eq_true, Bool.or_eq_true, Bool.not_eq_true', decide_eq_false_iff_not, and_true, true_and]; (first | omega | (and_intros <;> intros <;> (try and_intros) <;> first | omega | assumption | exact trivial)))) ?_
        refine good_backJ (k + 1) [u = u, (↑k : Int) + (1 : Int) = (↑(k + (1 : Nat)) : Int), (↑(List.length l) : Int) = (↑(List.length l) : Int), List.length l = List.length l ∧ ∀ (i : Nat), i < List.length l → (fun i => Box.cells (List.getD l i default)) i = (fun i => Box.cells (List.getD l i default)) i] (by kernel_rfl) (by kernel_rfl) ⟨rfl, (by omega), rfl, ⟨rfl, fun _ _ => rfl⟩, trivial⟩ ⟨by omega, by assumption⟩ (by show _ < _; omega)
    · have : k = l.length := by simp at hc1; omega
      subst this
      have hw := hk.2
      rw [List.drop_length, whereP] at hw
      refine good_run 2 (obs := []) (by kernel_rfl) trivial ?_
      refine good_leaveJ (by kernel_rfl) ?_
      refine good_run 8 (obs := []) (by kernel_rfl) trivial ?_
      refine good_fin [(-1 : Int) = (whereP u (0 : Nat) l).fst, (-1 : Int) = (whereP u (0 : Nat) l).snd] (by kernel_rfl) ⟨?_, ?_, trivial⟩
      · rw [← hw]
      · rw [← hw]
end Go.Sx.T
