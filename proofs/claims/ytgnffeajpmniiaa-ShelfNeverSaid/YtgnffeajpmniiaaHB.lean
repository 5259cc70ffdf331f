/- Contracts of functions of the program, each proved by running its code symbolically (HB). -/
import Derived.Test.YtgnffeajpmniiaaHA
namespace Go.Sx.T
open Go Go.Proofs Go.Sx
set_option maxRecDepth 100000
set_option maxHeartbeats 4000000
set_option linter.unusedVariables false
set_option linter.unusedSimpArgs false
def inB (n lo hi : Int) : Bool := decide (lo ≤ n) && decide (n ≤ hi)
def okC (c : Content) : Bool := inB c.Unit 1 1073741824 && inB c.Thick 1 10000
def sumT : List Content → Int
  | [] => 0
  | c :: r => c.Thick + sumT r
theorem sumT_append : ∀ l r : List Content, sumT (l ++ r) = sumT l + sumT r
  | [], r => by simp [sumT]
  | c :: l, r => by simp [sumT, sumT_append l r]; omega
theorem okC_thick {c : Content} (h : okC c = true) : 1 ≤ c.Thick ∧ c.Thick ≤ 10000 := by
  simp [okC, inB] at h; omega
theorem sumT_bound : ∀ (l : List Content), (∀ c ∈ l, okC c = true) → 0 ≤ sumT l ∧ sumT l ≤ 10000 * l.length
  | [], _ => by simp [sumT]
  | c :: r, h => by
    have h1 := okC_thick (h c (by simp))
    have h2 := sumT_bound r fun x hx => h x (by simp [hx])
    simp only [sumT, List.length_cons]; omega
theorem sumT_take {l : List Content} (h : ∀ c ∈ l, okC c = true) (k : Nat) (hk : k < l.length) :
    sumT (l.take (k + 1)) = sumT (l.take k) + (l.getD k default).Thick ∧ 0 ≤ sumT (l.take k) ∧ sumT (l.take k) ≤ 10000 * k ∧ 1 ≤ (l.getD k default).Thick ∧ (l.getD k default).Thick ≤ 10000 := by
  have h1 := okC_thick (h _ (getD_mem l default k hk))
  have h2 := sumT_bound (l.take k) fun c hc => h c (List.mem_of_mem_take hc)
  rw [List.length_take] at h2
  refine ⟨by rw [take_snoc l default k hk, sumT_append]; simp [sumT], h2.1, ?_, h1.1, h1.2⟩
  have : min k l.length = k := by omega
  rw [this] at h2; exact h2.2
theorem s88 (n lo hi : Int) : Spec Try.prog 88 [.int .i64 n, .int .i64 lo, .int .i64 hi] (.bool (inB n lo hi)) := by
  refine spec_of_good mixed Try.func88 F88_ok (by kernel_rfl) ?_
  refine good_run 19 (obs := []) (by kernel_rfl) trivial ?_
  refine good_fin [(decide (lo ≤ n) && decide (n ≤ hi)) = inB n lo hi] (by kernel_rfl) ⟨(by rfl), trivial⟩
theorem s91 (c : Content) : Spec Try.prog 91 [c.sv] (.bool (okC c)) := by
  refine spec_of_good mixed Try.func91 F91_ok (by kernel_rfl) ?_
  refine good_run 10 (obs := []) (by kernel_rfl) trivial ?_
  refine good_call (c := True) (by kernel_rfl) (fun _ => SVles.refl _) (fun _ => s88 (c.Unit) ((1 : Int)) ((1073741824 : Int))) (by kernel_rfl) ?_
  refine good_run 4 (obs := []) (by kernel_rfl) trivial ?_
  refine good_call (c := inB c.Unit (1 : Int) (1073741824 : Int) = true ∧ True) (by kernel_rfl) (fun _ => SVles.refl _) (fun _ => s88 (c.Thick) ((1 : Int)) ((10000 : Int))) (by kernel_rfl) ?_
  refine good_run 6 (obs := []) (by kernel_rfl) trivial ?_
  refine good_fin [(inB c.Unit (1 : Int) (1073741824 : Int) && inB c.Thick (1 : Int) (10000 : Int)) = okC c] (by kernel_rfl) ⟨(by rfl), trivial⟩
theorem s90 (c : Content) : Spec Try.prog 90 [c.sv] (.bool (!okC c)) := by
  refine spec_of_good mixed Try.func90 F90_ok (by kernel_rfl) ?_
  refine good_run 9 (obs := [(0 : Nat) + (2 : Nat) ≤ (2 : Nat)]) (by kernel_rfl) (by (first | omega | assumption | exact ⟨rfl, trivial⟩ | simp only [AllP, inK_iff, roomOK_iff, decide_eq_true_eq, Bool.and_eq_true, Bool.or_eq_true, Bool.not_eq_true', decide_eq_false_iff_not, and_true, true_and]; (first | omega | (and_intros <;> intros <;> (try and_intros) <;> first | omega | assumption | exact trivial)))) ?_
  refine good_call (c := True) (by kernel_rfl) (fun _ => SVles.refl _) (fun _ => s91 (c)) (by kernel_rfl) ?_
  refine good_run 5 (obs := []) (by kernel_rfl) trivial ?_
  refine good_fin [(!okC c) = !okC c] (by kernel_rfl) ⟨rfl, trivial⟩
theorem s92 (l : List Content) (h : l.length ≤ 100000) (hc : ∀ c ∈ l, okC c = true) : Spec Try.prog 92 [conts l] (.int .i64 (sumT l)) := by
  refine spec_of_good mixed Try.func92 F92_ok (by kernel_rfl) ?_
  refine good_run 19 (obs := []) (by kernel_rfl) trivial ?_
  refine good_loopJ (fun k : Nat => ⟨[(8, .sv (.int .i64 (k))), (3, .sv (.int .i64 (sumT (l.take k)))), (7, LV.sv (SV.int IntKind.i64 (↑(List.length l) : Int))), (6, LV.sv (SV.lst (2 : Nat) (List.length l) fun i => Content.cells (List.getD l i default)))], []⟩) (fun k => k ≤ l.length) (fun k => l.length - k) (0) [(0 : Int) = (0 : Int), (0 : Int) = sumT [], (↑(List.length l) : Int) = (↑(List.length l) : Int), List.length l = List.length l ∧ ∀ (i : Nat), i < List.length l → (fun i => Content.cells (List.getD l i default)) i = (fun i => Content.cells (List.getD l i default)) i] (by kernel_rfl) (by kernel_rfl) ⟨rfl, (by rfl), rfl, ⟨rfl, fun _ _ => rfl⟩, trivial⟩ (by omega) ?_
  · intro k hk
    refine good_run 6 (obs := []) (by kernel_rfl) trivial ?_
    refine good_cond (decide ((↑k : Int) < (↑(List.length l) : Int))) (by kernel_rfl) (fun hc1 => ?_) (fun hc1 => ?_)
    · have hlt : k < l.length := by simp at hc1; omega
      have := sumT_take hc k hlt
      refine good_run 25 (obs := [(2 : Nat) = (2 : Nat) ∧ (0 : Int) ≤ (↑k : Int) ∧ (↑k : Int) < (↑(List.length l) : Int), (0 : Nat) + (2 : Nat) ≤ (2 : Nat), (2 : Nat) = (2 : Nat) ∧ (0 : Nat) + (2 : Nat) ≤ (2 : Nat), InK IntKind.i64 (sumT (List.take k l) + (List.getD l k default).Thick), InK IntKind.i64 ((↑k : Int) + (1 : Int))]) (by kernel_rfl) (by (first | omega | assumption | exact ⟨rfl, trivial⟩ | simp only [AllP, inK_iff, roomOK_iff, decide_eq_true_eq, Bool.and_eq_true, Bool.or_eq_true, Bool.not_eq_true', decide_eq_false_iff_not, and_true, true_and]; (first | omega | (and_intros <;> intros <;> (try and_intros) <;> first | omega | assumption | exact trivial)))) ?_
      refine good_backJ (k + 1) [(↑k : Int) + (1 : Int) = (↑(k + (1 : Nat)) : Int), sumT (List.take k l) + (List.getD l k default).Thick = sumT (List.take (k + (1 : Nat)) l), (↑(List.length l) : Int) = (↑(List.length l) : Int), List.length l = List.length l ∧ ∀ (i : Nat), i < List.length l → (fun i => Content.cells (List.getD l i default)) i = (fun i => Content.cells (List.getD l i default)) i] (by kernel_rfl) (by kernel_rfl) ⟨(by omega), (by omega), rfl, ⟨rfl, fun _ _ => rfl⟩, trivial⟩ (by omega) (by show _ < _; omega)
    · have : k = l.length := by simp at hc1; omega
      subst this
      refine good_run 2 (obs := []) (by kernel_rfl) trivial ?_
      refine good_leaveJ (by kernel_rfl) ?_
      refine good_run 8 (obs := []) (by kernel_rfl) trivial ?_
      refine good_fin [sumT (List.take (List.length l) l) = sumT l] (by kernel_rfl) ⟨?_, trivial⟩
      rw [List.take_length]
def hdrOK (b : Box) : Bool := inB b.ID 1 1073741824 && inB b.Width 1 10000 && inB b.Room 1 b.Width && inB b.Climate 0 7
def formB (b : Box) : Bool := hdrOK b && !b.Contents.any (fun c => !okC c)
def faultB (b : Box) : Int := if formB b = false then 2 else if 32 < b.Contents.length then 8 else if b.Room < sumT b.Contents then 12 else 0
theorem formB_conts {b : Box} (h : formB b = true) : ∀ c ∈ b.Contents, okC c = true := by
  simp only [formB, Bool.and_eq_true, Bool.not_eq_true', List.any_eq_false] at h
  intro c hc
  have := h.2 c hc
  simpa using this
theorem s82 (b : Box) : Spec Try.prog 82 [b.sv] (.int .i64 (faultB b)) := by
  refine spec_of_good mixed Try.func82 F82_ok (by kernel_rfl) ?_
  refine good_run 12 (obs := []) (by kernel_rfl) trivial ?_
  refine good_call (c := True) (by kernel_rfl) (fun _ => SVles.refl _) (fun _ => s88 (b.ID) ((1 : Int)) ((1073741824 : Int))) (by kernel_rfl) ?_
  refine good_run 5 (obs := []) (by kernel_rfl) trivial ?_
  refine good_call (c := (!inB b.ID (1 : Int) (1073741824 : Int)) = false ∧ True) (by kernel_rfl) (fun _ => SVles.refl _) (fun _ => s88 (b.Width) ((1 : Int)) ((10000 : Int))) (by kernel_rfl) ?_
  refine good_run 9 (obs := []) (by kernel_rfl) trivial ?_
  refine good_call (c := (!inB b.ID (1 : Int) (1073741824 : Int) || !inB b.Width (1 : Int) (10000 : Int)) = false ∧ True) (by kernel_rfl) (fun _ => SVles.refl _) (fun _ => s88 (b.Room) ((1 : Int)) (b.Width)) (by kernel_rfl) ?_
  refine good_run 7 (obs := []) (by kernel_rfl) trivial ?_
  refine good_call (c := (!inB b.ID (1 : Int) (1073741824 : Int) || !inB b.Width (1 : Int) (10000 : Int) || !inB b.Room (1 : Int) b.Width) = false ∧ True) (by kernel_rfl) (fun _ => SVles.refl _) (fun _ => s88 (b.Climate) ((0 : Int)) ((7 : Int))) (by kernel_rfl) ?_
  refine good_run 7 (obs := []) (by kernel_rfl) trivial ?_
  refine good_call (c := (!inB b.ID (1 : Int) (1073741824 : Int) || !inB b.Width (1 : Int) (10000 : Int) || !inB b.Room (1 : Int) b.Width || !inB b.Climate (0 : Int) (7 : Int)) = false ∧ True) (by kernel_rfl) (fun _ => SVles.refl _) (fun _ => s89 b.Contents 90 [] (fun c => !okC c) (fun c => s90 c)) (by kernel_rfl) ?_
  refine good_run 5 (obs := []) (by kernel_rfl) trivial ?_
  refine good_cond (!inB b.ID (1 : Int) (1073741824 : Int) || !inB b.Width (1 : Int) (10000 : Int) || !inB b.Room (1 : Int) b.Width || !inB b.Climate (0 : Int) (7 : Int) || List.any b.Contents fun c => !okC c) (by kernel_rfl) (fun hc1 => ?_) (fun hc1 => ?_)
  · have : formB b = false := by
      simp only [formB, hdrOK]
      simp only [Bool.or_eq_true, Bool.not_eq_true'] at hc1
      rcases hc1 with (((h | h) | h) | h) | h <;> simp [h]
    refine good_run 8 (obs := []) (by kernel_rfl) trivial ?_
    refine good_fin [(2 : Int) = faultB b] (by kernel_rfl) ⟨?_, trivial⟩
    simp [faultB, this]
  · have hf : formB b = true := by
      simp only [formB, hdrOK]
      simp only [Bool.or_eq_false_iff, Bool.not_eq_false'] at hc1
      obtain ⟨⟨⟨⟨h1, h2⟩, h3⟩, h4⟩, h5⟩ := hc1
      simp [h1, h2, h3, h4, h5]
    refine good_run 9 (obs := []) (by kernel_rfl) trivial ?_
    refine good_cond (decide ((32 : Int) < (↑(List.length b.Contents) : Int))) (by kernel_rfl) (fun hc2 => ?_) (fun hc2 => ?_)
    · simp only [decide_eq_true_eq] at hc2
      refine good_run 8 (obs := []) (by kernel_rfl) trivial ?_
      refine good_fin [(8 : Int) = faultB b] (by kernel_rfl) ⟨?_, trivial⟩
      rw [faultB, if_neg (by simp [hf]), if_pos (by omega)]
    · simp only [decide_eq_false_iff_not] at hc2
      have hok := formB_conts hf
      refine good_run 4 (obs := []) (by kernel_rfl) trivial ?_
      refine good_call (c := True) (by kernel_rfl) (fun _ => SVles.refl _) (fun _ => s92 (b.Contents) (by (first | omega | assumption | exact ⟨rfl, trivial⟩ | simp only [AllP, inK_iff, roomOK_iff, decide_eq_true_eq, Bool.and_eq_true, Bool.or_eq_true, Bool.not_eq_true', decide_eq_false_iff_not, and_true, true_and]; (first | omega | (and_intros <;> intros <;> (try and_intros) <;> first | omega | assumption | exact trivial)))) (by (first | omega | assumption | exact ⟨rfl, trivial⟩ | simp only [AllP, inK_iff, roomOK_iff, decide_eq_true_eq, Bool.and_eq_true, Bool.or_eq_true, Bool.not_eq_true', decide_eq_false_iff_not, and_true, true_and]; (first | omega | (and_intros <;> intros <;> (try and_intros) <;> first | omega | assumption | exact trivial))))) (by kernel_rfl) ?_
      refine good_run 6 (obs := []) (by kernel_rfl) trivial ?_
      refine good_cond (decide (b.Room < sumT b.Contents)) (by kernel_rfl) (fun hc3 => ?_) (fun hc3 => ?_)
      · simp only [decide_eq_true_eq] at hc3
        refine good_run 8 (obs := []) (by kernel_rfl) trivial ?_
        refine good_fin [(12 : Int) = faultB b] (by kernel_rfl) ⟨?_, trivial⟩
        rw [faultB, if_neg (by simp [hf]), if_neg (by omega), if_pos (by omega)]
      · simp only [decide_eq_false_iff_not] at hc3
        refine good_run 8 (obs := []) (by kernel_rfl) trivial ?_
        refine good_fin [(0 : Int) = faultB b] (by kernel_rfl) ⟨?_, trivial⟩
        rw [faultB, if_neg (by simp [hf]), if_neg (by omega), if_neg (by omega)]
def unitsC (l : List Content) : List Int := l.map (·.Unit)
def units : List Box → List Int
  | [] => []
  | b :: r => unitsC b.Contents ++ units r
theorem units_append : ∀ l r : List Box, units (l ++ r) = units l ++ units r
  | [], r => rfl
  | b :: l, r => by simp [units, units_append l r]
theorem unitsC_length (l : List Content) : (unitsC l).length = l.length := by simp [unitsC]
theorem unitsC_getD (l : List Content) (k : Nat) (h : k < l.length) : (unitsC l).getD k 0 = (l.getD k default).Unit := getD_map (d := default) _ _ _ h
theorem units_take (l : List Box) (k : Nat) (h : k < l.length) : units (l.take (k + 1)) = units (l.take k) ++ unitsC (l.getD k default).Contents := by
  rw [take_snoc l default k h, units_append]; simp [units]
def badAt (l : List Box) (i : Nat) : Int :=
  if faultB (l.getD i default) ≠ 0 then faultB (l.getD i default) else if (decide (0 < i) && decide ((l.getD i default).ID ≤ (l.getD (i - 1) default).ID)) = true then 5
  else if dupB (units (l.take i)) (unitsC (l.getD i default).Contents) = true then 6 else 0
def check (l : List Box) : Int := if 128 < l.length then 8 else errFrom (badAt l) l.length 0
theorem s61 (l : List Box) : Spec Try.prog 61 [boxes l] (.int .i64 (check l)) := by
  refine spec_lenEl 0 rfl (hasBody_of_slim Try.func61 F61_ok) fun hlen hel => ?_
  refine spec_of_good mixed Try.func61 F61_ok (by kernel_rfl) ?_
  refine good_run 13 (obs := []) (by kernel_rfl) trivial ?_
  refine good_cond (decide ((128 : Int) < (↑(List.length l) : Int))) (by kernel_rfl) (fun hc1 => ?_) (fun hc1 => ?_)
  · simp only [decide_eq_true_eq] at hc1
    refine good_run 7 (obs := []) (by kernel_rfl) trivial ?_
    refine good_fin [(8 : Int) = check l] (by kernel_rfl) ⟨?_, trivial⟩
    rw [check, if_pos (by omega)]
  · simp only [decide_eq_false_iff_not] at hc1
    have hck : check l = errFrom (badAt l) l.length 0 := by rw [check, if_neg (by omega)]
    refine good_run 16 (obs := []) (by kernel_rfl) trivial ?_
    refine good_loopJ (fun k : Nat => ⟨[(15, .sv (.int .i64 (k))), (14, LV.sv (SV.int IntKind.i64 (↑(List.length l) : Int))), (13, LV.sv (SV.lst (5 : Nat) (List.length l) fun i => Box.cells (List.getD l i default))), (3, LV.own (0 : Nat)), (0, LV.sv (SV.lst (5 : Nat) (List.length l) fun i => Box.cells (List.getD l i default)))], [.map (Value.bool false) (units (l.take k)) fun x => .bool (decide (x ∈ units (l.take k)))]⟩) (fun k => k ≤ l.length ∧ errFrom (badAt l) (l.length - k) k = check l) (fun k => l.length - k) (0) [Value.bool false = Value.bool false, ([] : List Int) = [] ∧ ∀ (k : Int), (fun x => valSV (Value.bool false)) k = (fun x => SV.bool (decide (x ∈ units (List.take (0 : Nat) l)))) k, (0 : Int) = (0 : Int), (↑(List.length l) : Int) = (↑(List.length l) : Int), List.length l = List.length l ∧ ∀ (i : Nat), i < List.length l → (fun i => Box.cells (List.getD l i default)) i = (fun i => Box.cells (List.getD l i default)) i, List.length l = List.length l ∧ ∀ (i : Nat), i < List.length l → (fun i => Box.cells (List.getD l i default)) i = (fun i => Box.cells (List.getD l i default)) i] (by kernel_rfl) (by kernel_rfl) ⟨rfl, ?_, rfl, rfl, ⟨rfl, fun _ _ => rfl⟩, ⟨rfl, fun _ _ => rfl⟩, trivial⟩ ?_ ?_
    · exact ⟨rfl, fun k => by simp [units, valSV]⟩
    · exact ⟨Nat.zero_le _, by rw [hck]; rfl⟩
    intro k hk
    refine good_run 6 (obs := []) (by kernel_rfl) trivial ?_
    refine good_cond (decide ((↑k : Int) < (↑(List.length l) : Int))) (by kernel_rfl) (fun hc2 => ?_) (fun hc2 => ?_)
    · have hlt : k < l.length := by simp at hc2; omega
      have hst := errFrom_step (badAt l) l.length k hlt
      rw [hk.2] at hst
      have hcl := hel k 4 2 (l.getD k default).Contents.length _ hlt rfl
      have hb : badAt l k = if faultB (l.getD k default) ≠ 0 then faultB (l.getD k default) else if (decide (0 < k) && decide ((l.getD k default).ID ≤ (l.getD (k - 1) default).ID)) = true then 5
        else if dupB (units (l.take k)) (unitsC (l.getD k default).Contents) = true then 6 else 0 := rfl
      refine good_run 17 (obs := [(5 : Nat) = (5 : Nat) ∧ (0 : Int) ≤ (↑k : Int) ∧ (↑k : Int) < (↑(List.length l) : Int), (0 : Nat) + (5 : Nat) ≤ (5 : Nat), (5 : Nat) = (5 : Nat) ∧ (0 : Nat) + (5 : Nat) ≤ (5 : Nat), (0 : Nat) + (5 : Nat) ≤ (5 : Nat)]) (by kernel_rfl) (by (first | omega | assumption | exact ⟨rfl, trivial⟩ | simp only [AllP, inK_iff, roomOK_iff, decide_eq_true_eq, Bool.and_eq_true, Bool.or_eq_true, Bool.not_eq_true', decide_eq_false_iff_not, and_true, true_and]; (first | omega | (and_intros <;> intros <;> (try and_intros) <;> first | omega | assumption | exact trivial)))) ?_
      refine good_call (c := True) (by kernel_rfl) (fun _ => SVles.refl _) (fun _ => s82 (List.getD l k default)) (by kernel_rfl) ?_
      refine good_run 9 (obs := []) (by kernel_rfl) trivial ?_
      refine good_cond (!decide (faultB (List.getD l k default) = (0 : Int))) (by kernel_rfl) (fun hc3 => ?_) (fun hc3 => ?_)
      · simp only [Bool.not_eq_true', decide_eq_false_iff_not] at hc3
        refine good_run 10 (obs := []) (by kernel_rfl) trivial ?_
        refine good_leaveJ (by kernel_rfl) ?_
        refine good_run 2 (obs := []) (by kernel_rfl) trivial ?_
        refine good_fin [faultB (List.getD l k default) = check l] (by kernel_rfl) ⟨(by omega), trivial⟩
        all_goals rw [hst, hb, if_pos hc3, if_pos hc3]
      · simp only [Bool.not_eq_false', decide_eq_true_eq] at hc3
        have e1 : ((k : Int) - 1).toNat = k - 1 := by omega
        have e2 : decide ((0 : Int) < (k : Int)) = decide (0 < k) := decide_eq_decide.2 (by omega)
        rw [if_neg (fun h => h hc3)] at hb
        refine good_run 19 (obs := [decide ((0 : Int) < (↑k : Int)) = true ∧ True → InK IntKind.i64 ((↑k : Int) - (1 : Int)), decide ((0 : Int) < (↑k : Int)) = true ∧ True → (5 : Nat) = (5 : Nat) ∧ (0 : Int) ≤ (↑k : Int) - (1 : Int) ∧ (↑k : Int) - (1 : Int) < (↑(List.length l) : Int)]) (by kernel_rfl) (by (first | omega | assumption | exact ⟨rfl, trivial⟩ | simp only [AllP, inK_iff, roomOK_iff, decide_eq_true_eq, Bool.and_eq_true, Bool.or_eq_true, Bool.not_eq_true', decide_eq_false_iff_not, and_true, true_and]; (first | omega | (and_intros <;> intros <;> (try and_intros) <;> first | omega | assumption | exact trivial)))) ?_
        refine good_cond (decide ((0 : Int) < (↑k : Int)) && decide ((List.getD l k default).ID ≤ (List.getD l (Int.toNat ((↑k : Int) - (1 : Int))) default).ID)) (by kernel_rfl) (fun hc4 => ?_) (fun hc4 => ?_)
        · rw [e1, e2] at hc4
          rw [if_pos hc4] at hb
          refine good_run 9 (obs := []) (by kernel_rfl) trivial ?_
          refine good_leaveJ (by kernel_rfl) ?_
          refine good_run 2 (obs := []) (by kernel_rfl) trivial ?_
          refine good_fin [(5 : Int) = check l] (by kernel_rfl) ⟨(by omega), trivial⟩
          all_goals (rw [hst, hb]; rfl)
        · rw [e1, e2] at hc4
          rw [if_neg (by rw [hc4]; decide)] at hb
          refine good_run 10 (obs := []) (by kernel_rfl) trivial ?_
          refine good_loopJ (fun j : Nat => ⟨[(41, .sv (.int .i64 (j))), (40, LV.sv (SV.int IntKind.i64 (↑(List.length (List.getD l k default).Contents) : Int))), (39, LV.sv (SV.lst (2 : Nat) (List.length (List.getD l k default).Contents) fun i => Content.cells (List.getD (List.getD l k default).Contents i default))), (15, LV.sv (SV.int IntKind.i64 (↑k : Int))), (14, LV.sv (SV.int IntKind.i64 (↑(List.length l) : Int))), (13, LV.sv (SV.lst (5 : Nat) (List.length l) fun i => Box.cells (List.getD l i default))), (3, LV.own (0 : Nat)), (0, LV.sv (SV.lst (5 : Nat) (List.length l) fun i => Box.cells (List.getD l i default)))], [.map (Value.bool false) (units (l.take k) ++ (unitsC (l.getD k default).Contents).take j) fun x => .bool (decide (x ∈ units (l.take k) ++ (unitsC (l.getD k default).Contents).take j))]⟩) (fun j => j ≤ (l.getD k default).Contents.length ∧ dupB (units (l.take k) ++ (unitsC (l.getD k default).Contents).take j) ((unitsC (l.getD k default).Contents).drop j) = dupB (units (l.take k)) (unitsC (l.getD k default).Contents)) (fun j => (l.getD k default).Contents.length - j) (0) [Value.bool false = Value.bool false, units (List.take k l) = units (List.take k l) ++ List.take (0 : Nat) (unitsC (List.getD l k default).Contents) ∧ ∀ (k_1 : Int), (fun x => SV.bool (decide (x ∈ units (List.take k l)))) k_1 = (fun x => SV.bool (decide (x ∈ units (List.take k l) ++ List.take (0 : Nat) (unitsC (List.getD l k default).Contents)))) k_1, (0 : Int) = (0 : Int), (↑(List.length (List.getD l k default).Contents) : Int) = (↑(List.length (List.getD l k default).Contents) : Int), List.length (List.getD l k default).Contents = List.length (List.getD l k default).Contents ∧ ∀ (i : Nat), i < List.length (List.getD l k default).Contents → (fun i => Content.cells (List.getD (List.getD l k default).Contents i default)) i = (fun i => Content.cells (List.getD (List.getD l k default).Contents i default)) i, (↑k : Int) = (↑k : Int), (↑(List.length l) : Int) = (↑(List.length l) : Int), List.length l = List.length l ∧ ∀ (i : Nat), i < List.length l → (fun i => Box.cells (List.getD l i default)) i = (fun i => Box.cells (List.getD l i default)) i, List.length l = List.length l ∧ ∀ (i : Nat), i < List.length l → (fun i => Box.cells (List.getD l i default)) i = (fun i => Box.cells (List.getD l i default)) i] (by kernel_rfl) (by kernel_rfl) ⟨rfl, ?_, rfl, rfl, ⟨rfl, fun _ _ => rfl⟩, rfl, rfl, ⟨rfl, fun _ _ => rfl⟩, ⟨rfl, fun _ _ => rfl⟩, trivial⟩ ?_ ?_
          · exact ⟨by simp, fun x => by simp⟩
          · exact ⟨Nat.zero_le _, by simp⟩
          intro j hj
          refine good_run 6 (obs := []) (by kernel_rfl) trivial ?_
          refine good_cond (decide ((↑j : Int) < (↑(List.length (List.getD l k default).Contents) : Int))) (by kernel_rfl) (fun hc5 => ?_) (fun hc5 => ?_)
          · have hjt : j < (l.getD k default).Contents.length := by simp only [decide_eq_true_eq] at hc5; exact Int.ofNat_lt.1 hc5
            have hds := dupB_step (units (l.take k)) (unitsC (l.getD k default).Contents) j (by rw [unitsC_length]; exact hjt)
            rw [hj.2, unitsC_getD _ _ hjt] at hds
            refine good_run 20 (obs := [(2 : Nat) = (2 : Nat) ∧ (0 : Int) ≤ (↑j : Int) ∧ (↑j : Int) < (↑(List.length (List.getD l k default).Contents) : Int), (0 : Nat) + (2 : Nat) ≤ (2 : Nat), (2 : Nat) = (2 : Nat) ∧ (0 : Nat) + (2 : Nat) ≤ (2 : Nat), Value.bool false = Value.bool false]) (by kernel_rfl) (by (first | omega | assumption | exact ⟨rfl, trivial⟩ | simp only [AllP, inK_iff, roomOK_iff, decide_eq_true_eq, Bool.and_eq_true, Bool.or_eq_true, Bool.not_eq_true', decide_eq_false_iff_not, and_true, true_and]; (first | omega | (and_intros <;> intros <;> (try and_intros) <;> first | omega | assumption | exact trivial)))) ?_
            refine good_cond (decide ((List.getD (List.getD l k default).Contents j default).Unit ∈ units (List.take k l) ++ List.take j (unitsC (List.getD l k default).Contents))) (by kernel_rfl) (fun hc6 => ?_) (fun hc6 => ?_)
            · rw [hc6] at hds
              rw [Bool.true_or] at hds
              rw [if_pos hds] at hb
              refine good_run 9 (obs := []) (by kernel_rfl) trivial ?_
              refine good_leaveJ (by kernel_rfl) ?_
              refine good_run 3 (obs := []) (by kernel_rfl) trivial ?_
              refine good_leaveJ (by kernel_rfl) ?_
              refine good_run 2 (obs := []) (by kernel_rfl) trivial ?_
              refine good_fin [(6 : Int) = check l] (by kernel_rfl) ⟨(by omega), trivial⟩
              all_goals (rw [hst, hb]; rfl)
            · rw [hc6, Bool.false_or] at hds
              have hnin := of_decide_eq_false hc6
              rw [← unitsC_getD _ _ hjt] at hnin
              have hsp := seen_next _ _ j (by rw [unitsC_length]; exact hjt) hnin
              rw [unitsC_getD _ _ hjt] at hsp
              refine good_run 14 (obs := [InK IntKind.i64 ((↑j : Int) + (1 : Int))]) (by kernel_rfl) (by (first | omega | assumption | exact ⟨rfl, trivial⟩ | simp only [AllP, inK_iff, roomOK_iff, decide_eq_true_eq, Bool.and_eq_true, Bool.or_eq_true, Bool.not_eq_true', decide_eq_false_iff_not, and_true, true_and]; (first | omega | (and_intros <;> intros <;> (try and_intros) <;> first | omega | assumption | exact trivial)))) ?_
              refine good_backJ (j + 1) [Value.bool false = Value.bool false, putKey (units (List.take k l) ++ List.take j (unitsC (List.getD l k default).Contents)) (List.getD (List.getD l k default).Contents j default).Unit = units (List.take k l) ++ List.take (j + (1 : Nat)) (unitsC (List.getD l k default).Contents) ∧ ∀ (k_1 : Int), putGet (List.getD (List.getD l k default).Contents j default).Unit (SV.bool true) (fun x => SV.bool (decide (x ∈ units (List.take k l) ++ List.take j (unitsC (List.getD l k default).Contents)))) k_1 = (fun x => SV.bool (decide (x ∈ units (List.take k l) ++ List.take (j + (1 : Nat)) (unitsC (List.getD l k default).Contents)))) k_1, (↑j : Int) + (1 : Int) = (↑(j + (1 : Nat)) : Int), (↑(List.length (List.getD l k default).Contents) : Int) = (↑(List.length (List.getD l k default).Contents) : Int), List.length (List.getD l k default).Contents = List.length (List.getD l k default).Contents ∧ ∀ (i : Nat), i < List.length (List.getD l k default).Contents → (fun i => Content.cells (List.getD (List.getD l k default).Contents i default)) i = (fun i => Content.cells (List.getD (List.getD l k default).Contents i default)) i, (↑k : Int) = (↑k : Int), (↑(List.length l) : Int) = (↑(List.length l) : Int), List.length l = List.length l ∧ ∀ (i : Nat), i < List.length l → (fun i => Box.cells (List.getD l i default)) i = (fun i => Box.cells (List.getD l i default)) i, List.length l = List.length l ∧ ∀ (i : Nat), i < List.length l → (fun i => Box.cells (List.getD l i default)) i = (fun i => Box.cells (List.getD l i default)) i] (by kernel_rfl) (by kernel_rfl) ⟨rfl, ?_, (by omega), rfl, ⟨rfl, fun _ _ => rfl⟩, rfl, rfl, ⟨rfl, fun _ _ => rfl⟩, ⟨rfl, fun _ _ => rfl⟩, trivial⟩ ?_ (by show _ < _; omega)
              · exact hsp
              · exact ⟨hjt, hds.symm⟩
          · have hjt : j = (l.getD k default).Contents.length := by
              simp only [decide_eq_false_iff_not] at hc5
              have := hj.1
              omega
            have hd := hj.2
            rw [dupB_end _ _ _ (by rw [unitsC_length]; exact hjt)] at hd
            rw [← hd] at hb
            rw [hb] at hst
            refine good_run 2 (obs := []) (by kernel_rfl) trivial ?_
            refine good_leaveJ (by kernel_rfl) ?_
            refine good_run 7 (obs := [InK IntKind.i64 ((↑k : Int) + (1 : Int))]) (by kernel_rfl) (by (first | omega | assumption | exact ⟨rfl, trivial⟩ | simp only [AllP, inK_iff, roomOK_iff, decide_eq_true_eq, Bool.and_eq_true, Bool.or_eq_true, Bool.not_eq_true', decide_eq_false_iff_not, and_true, true_and]; (first | omega | (and_intros <;> intros <;> (try and_intros) <;> first | omega | assumption | exact trivial)))) ?_
            refine good_backJ (k + 1) [Value.bool false = Value.bool false, units (List.take k l) ++ List.take j (unitsC (List.getD l k default).Contents) = units (List.take (k + (1 : Nat)) l) ∧ ∀ (k_1 : Int), (fun x => SV.bool (decide (x ∈ units (List.take k l) ++ List.take j (unitsC (List.getD l k default).Contents)))) k_1 = (fun x => SV.bool (decide (x ∈ units (List.take (k + (1 : Nat)) l)))) k_1, (↑k : Int) + (1 : Int) = (↑(k + (1 : Nat)) : Int), (↑(List.length l) : Int) = (↑(List.length l) : Int), List.length l = List.length l ∧ ∀ (i : Nat), i < List.length l → (fun i => Box.cells (List.getD l i default)) i = (fun i => Box.cells (List.getD l i default)) i, List.length l = List.length l ∧ ∀ (i : Nat), i < List.length l → (fun i => Box.cells (List.getD l i default)) i = (fun i => Box.cells (List.getD l i default)) i] (by kernel_rfl) (by kernel_rfl) ⟨rfl, ?_, (by omega), rfl, ⟨rfl, fun _ _ => rfl⟩, ⟨rfl, fun _ _ => rfl⟩, trivial⟩ ?_ (by show _ < _; omega)
            · have htk : (unitsC (l.getD k default).Contents).take j = unitsC (l.getD k default).Contents := List.take_of_length_le (by rw [unitsC_length]; omega)
              rw [htk, units_take l k hlt]
              exact ⟨rfl, fun _ => rfl⟩
            · exact ⟨hlt, hst.symm⟩
    · have : k = l.length := by simp at hc2; omega
      subst this
      refine good_run 2 (obs := []) (by kernel_rfl) trivial ?_
      refine good_leaveJ (by kernel_rfl) ?_
      refine good_run 7 (obs := []) (by kernel_rfl) trivial ?_
      refine good_fin [(0 : Int) = check l] (by kernel_rfl) ⟨?_, trivial⟩
      rw [← hk.2, errFrom_end]
end Go.Sx.T
