/- Contracts of functions of the program, each proved by running its code symbolically (HM). -/
import Derived.Test.YtgnffeajpmniiaaHL
namespace Go.Sx.T
open Go Go.Proofs Go.Sx
set_option maxRecDepth 100000
set_option maxHeartbeats 4000000
set_option linter.unusedVariables false
set_option linter.unusedSimpArgs false
def roomI (b : List Box) (s : List Std) (x : Shf) : Int := x.Length - widthI b (boxesOf s x.ID)
theorem boxesOf_len {s : List Std} (hx : ∀ y ∈ s, y.Boxes.length ≤ 100000) (id : Int) : (boxesOf s id).length ≤ 100000 := by
  unfold boxesOf
  rcases isK_cases s Std.Shelf id with ⟨_, h, _⟩ | ⟨k, hk, _, h, _⟩
  · rw [h]; exact Nat.zero_le _
  · rw [h]; exact hx _ (getD_mem s default k hk)
theorem s45 (l : List Shf) (b : List Box) (s : List Std) (x : Shf) (has : Asc s Std.Shelf) (hab : Asc b Box.ID) (hw : wOK b) (hb : b.length ≤ 100000) (hs : s.length ≤ 100000) (hx : ∀ y ∈ s, y.Boxes.length ≤ 100000) (h0 : 0 ≤ x.Length) (h1 : x.Length ≤ 10000) :
    Spec Try.prog 45 [store l b s, x.sv] (.int .i64 (roomI b s x)) := by
  refine spec_of_good mixed Try.func45 F45_ok (by kernel_rfl) ?_
  rcases hasK_cases has x.ID with ⟨g1, g2, g3, _⟩ | ⟨hp, g1, g2, g3, _, _⟩
  · have e : roomI b s x = x.Length := by
      rw [roomI, boxesOf, g3]
      show x.Length - 0 = _
      omega
    rw [e]
    refine good_run 12 (obs := [(0 : Nat) + (3 : Nat) ≤ (3 : Nat)]) (by kernel_rfl) (by (first | omega | assumption | exact ⟨rfl, trivial⟩ | simp only [AllP, inK_iff, roomOK_iff, decide_eq_true_eq, Bool.and_eq_true, Bool.or_eq_true, Bool.not_eq_true', decide_eq_false_iff_not, and_true, true_and]; (first | omega | (and_intros <;> intros <;> (try and_intros) <;> first | omega | assumption | exact trivial)))) ?_
    refine good_call (c := True) (by kernel_rfl) (fun _ => SVles.refl _) (fun _ => s54 (l) (b) (s) (x.ID) (by (first | omega | assumption | exact ⟨rfl, trivial⟩ | simp only [AllP, inK_iff, roomOK_iff, decide_eq_true_eq, Bool.and_eq_true, Bool.or_eq_true, Bool.not_eq_true', decide_eq_false_iff_not, and_true, true_and]; (first | omega | (and_intros <;> intros <;> (try and_intros) <;> first | omega | assumption | exact trivial)))) (by (first | omega | assumption | exact ⟨rfl, trivial⟩ | simp only [AllP, inK_iff, roomOK_iff, decide_eq_true_eq, Bool.and_eq_true, Bool.or_eq_true, Bool.not_eq_true', decide_eq_false_iff_not, and_true, true_and]; (first | omega | (and_intros <;> intros <;> (try and_intros) <;> first | omega | assumption | exact trivial))))) (by kernel_rfl) ?_
    refine good_run 14 (obs := []) (by kernel_rfl) trivial ?_
    refine good_cond (!hasK s Std.Shelf x.ID) (by kernel_rfl) (fun hc1 => ?_) (fun hc1 => ?_)
    · refine good_run 9 (obs := []) (by kernel_rfl) trivial ?_
      refine good_fin [x.Length = x.Length] (by kernel_rfl) ⟨rfl, trivial⟩
    · rw [g1] at hc1; cases hc1
  · have e : roomI b s x = x.Length - widthI b (s.getD (posK s Std.Shelf x.ID) default).Boxes := by
      rw [roomI, boxesOf, g3]
    have hxk := hx _ (getD_mem s default _ hp)
    have hwb := widthI_bound hw (s.getD (posK s Std.Shelf x.ID) default).Boxes
    rw [e]
    refine good_run 12 (obs := [(0 : Nat) + (3 : Nat) ≤ (3 : Nat)]) (by kernel_rfl) (by (first | omega | assumption | exact ⟨rfl, trivial⟩ | simp only [AllP, inK_iff, roomOK_iff, decide_eq_true_eq, Bool.and_eq_true, Bool.or_eq_true, Bool.not_eq_true', decide_eq_false_iff_not, and_true, true_and]; (first | omega | (and_intros <;> intros <;> (try and_intros) <;> first | omega | assumption | exact trivial)))) ?_
    refine good_call (c := True) (by kernel_rfl) (fun _ => SVles.refl _) (fun _ => s54 (l) (b) (s) (x.ID) (by (first | omega | assumption | exact ⟨rfl, trivial⟩ | simp only [AllP, inK_iff, roomOK_iff, decide_eq_true_eq, Bool.and_eq_true, Bool.or_eq_true, Bool.not_eq_true', decide_eq_false_iff_not, and_true, true_and]; (first | omega | (and_intros <;> intros <;> (try and_intros) <;> first | omega | assumption | exact trivial)))) (by (first | omega | assumption | exact ⟨rfl, trivial⟩ | simp only [AllP, inK_iff, roomOK_iff, decide_eq_true_eq, Bool.and_eq_true, Bool.or_eq_true, Bool.not_eq_true', decide_eq_false_iff_not, and_true, true_and]; (first | omega | (and_intros <;> intros <;> (try and_intros) <;> first | omega | assumption | exact trivial))))) (by kernel_rfl) ?_
    refine good_run 14 (obs := []) (by kernel_rfl) trivial ?_
    refine good_cond (!hasK s Std.Shelf x.ID) (by kernel_rfl) (fun hc1 => ?_) (fun hc1 => ?_)
    · rw [g1] at hc1; cases hc1
    · refine good_run 11 (obs := [True → (0 : Nat) + (3 : Nat) ≤ (3 : Nat), True → (2 : Nat) = (2 : Nat) ∧ (0 : Int) ≤ (↑(posK s Std.Shelf x.ID) : Int) ∧ (↑(posK s Std.Shelf x.ID) : Int) < (↑(List.length s) : Int), True → (2 : Nat) ≤ (2 : Nat)]) (by kernel_rfl) (by (first | omega | assumption | exact ⟨rfl, trivial⟩ | simp only [AllP, inK_iff, roomOK_iff, decide_eq_true_eq, Bool.and_eq_true, Bool.or_eq_true, Bool.not_eq_true', decide_eq_false_iff_not, and_true, true_and]; (first | omega | (and_intros <;> intros <;> (try and_intros) <;> first | omega | assumption | exact trivial)))) ?_
      refine good_call (c := True) (by kernel_rfl) (fun _ => SVles.refl _) (fun _ => s69 (l) (b) (s) (List.getD s (posK s Std.Shelf x.ID) default) (by (first | omega | assumption | exact ⟨rfl, trivial⟩ | simp only [AllP, inK_iff, roomOK_iff, decide_eq_true_eq, Bool.and_eq_true, Bool.or_eq_true, Bool.not_eq_true', decide_eq_false_iff_not, and_true, true_and]; (first | omega | (and_intros <;> intros <;> (try and_intros) <;> first | omega | assumption | exact trivial)))) (by (first | omega | assumption | exact ⟨rfl, trivial⟩ | simp only [AllP, inK_iff, roomOK_iff, decide_eq_true_eq, Bool.and_eq_true, Bool.or_eq_true, Bool.not_eq_true', decide_eq_false_iff_not, and_true, true_and]; (first | omega | (and_intros <;> intros <;> (try and_intros) <;> first | omega | assumption | exact trivial)))) (by (first | omega | assumption | exact ⟨rfl, trivial⟩ | simp only [AllP, inK_iff, roomOK_iff, decide_eq_true_eq, Bool.and_eq_true, Bool.or_eq_true, Bool.not_eq_true', decide_eq_false_iff_not, and_true, true_and]; (first | omega | (and_intros <;> intros <;> (try and_intros) <;> first | omega | assumption | exact trivial)))) (by (first | omega | assumption | exact ⟨rfl, trivial⟩ | simp only [AllP, inK_iff, roomOK_iff, decide_eq_true_eq, Bool.and_eq_true, Bool.or_eq_true, Bool.not_eq_true', decide_eq_false_iff_not, and_true, true_and]; (first | omega | (and_intros <;> intros <;> (try and_intros) <;> first | omega | assumption | exact trivial))))) (by kernel_rfl) ?_
      refine good_run 5 (obs := [True → InK IntKind.i64 (x.Length - widthI b (List.getD s (posK s Std.Shelf x.ID) default).Boxes)]) (by kernel_rfl) (by (first | omega | assumption | exact ⟨rfl, trivial⟩ | simp only [AllP, inK_iff, roomOK_iff, decide_eq_true_eq, Bool.and_eq_true, Bool.or_eq_true, Bool.not_eq_true', decide_eq_false_iff_not, and_true, true_and]; (first | omega | (and_intros <;> intros <;> (try and_intros) <;> first | omega | assumption | exact trivial)))) ?_
      refine good_fin [x.Length - widthI b (List.getD s (posK s Std.Shelf x.ID) default).Boxes = x.Length - widthI b (List.getD s (posK s Std.Shelf x.ID) default).Boxes] (by kernel_rfl) ⟨rfl, trivial⟩
def roomR (l : List Shf) (b : List Box) (s : List Std) (id : Int) : Int × Int :=
  if checkS l b s ≠ 0 then (0, 1) else if isK l Shf.ID id = false then (0, 7) else (roomI b s (atK l Shf.ID id), 0)
theorem okS_len {x : Shf} (h : okS x = true) : 1 ≤ x.ID ∧ 1 ≤ x.Length ∧ x.Length ≤ 10000 := by
  simp only [okS, inB, Bool.and_eq_true, decide_eq_true_eq] at h
  omega
theorem atK_len {l : List Shf} (h : ∀ x ∈ l, okS x = true) (id : Int) : 0 ≤ (atK l Shf.ID id).Length ∧ (atK l Shf.ID id).Length ≤ 10000 := by
  rcases isK_cases l Shf.ID id with ⟨_, e, _⟩ | ⟨k, hk, _, e, _⟩
  · rw [e]; exact ⟨Int.le_refl _, by decide⟩
  · rw [e]
    have := okS_len (h _ (getD_mem l default k hk))
    omega
theorem atK_id {α : Type} [Inhabited α] (l : List α) (f : α → Int) (id : Int) (h : isK l f id = true) : f (atK l f id) = id := by
  rcases isK_cases l f id with ⟨e, _⟩ | ⟨k, _, _, e, _, h2⟩
  · rw [h] at e; cases e
  · rw [e]; exact h2
theorem s18 (l : List Shf) (b : List Box) (s : List Std) (id : Int) (hs : s.length ≤ 100000) (hx : ∀ y ∈ s, y.Boxes.length ≤ 100000) :
    Spec Try.prog 18 [shfs l, boxes b, stds s, .int .i64 id] (.tup [.int .i64 (roomR l b s id).1, .int .i64 (roomR l b s id).2]) := by
  refine spec_of_good mixed Try.func18 F18_ok (by kernel_rfl) ?_
  by_cases h : checkS l b s = 0
  · have hR := right_of h
    have al := hR.al
    have ab := hR.ab
    have wb := hR.wb
    have has := hR.as'
    have l32 : l.length ≤ 100000 := by have := hR.l32; omega
    have b128 : b.length ≤ 100000 := by have := hR.b128; omega
    have hlen := atK_len hR.okl id
    have s43a := s43 l b s hs hx h
    have e : roomR l b s id = if isK l Shf.ID id = false then (0, 7) else (roomI b s (atK l Shf.ID id), 0) := by rw [roomR, if_neg (fun g => g h)]
    rw [e]
    refine good_run 11 (obs := []) (by kernel_rfl) trivial ?_
    refine good_call (c := True) (by kernel_rfl) (fun _ => SVles.refl _) (fun _ => s43a) (by kernel_rfl) ?_
    refine good_run 15 (obs := [(3 : Nat) = (3 : Nat) ∧ (0 : Nat) + (3 : Nat) ≤ (3 : Nat)]) (by kernel_rfl) (by (first | omega | assumption | exact ⟨rfl, trivial⟩ | simp only [AllP, inK_iff, roomOK_iff, decide_eq_true_eq, Bool.and_eq_true, Bool.or_eq_true, Bool.not_eq_true', decide_eq_false_iff_not, and_true, true_and]; (first | omega | (and_intros <;> intros <;> (try and_intros) <;> first | omega | assumption | exact trivial)))) ?_
    refine good_cond false (by kernel_rfl) (fun h => nomatch h) (fun _ => ?_)
    refine good_run 5 (obs := [(0 : Nat) + (3 : Nat) ≤ (3 : Nat)]) (by kernel_rfl) (by (first | omega | assumption | exact ⟨rfl, trivial⟩ | simp only [AllP, inK_iff, roomOK_iff, decide_eq_true_eq, Bool.and_eq_true, Bool.or_eq_true, Bool.not_eq_true', decide_eq_false_iff_not, and_true, true_and]; (first | omega | (and_intros <;> intros <;> (try and_intros) <;> first | omega | assumption | exact trivial)))) ?_
    refine good_call (c := True) (by kernel_rfl) (fun _ => SVles.refl _) (fun _ => s44 (l) (b) (s) (id) (by (first | omega | assumption | exact ⟨rfl, trivial⟩ | simp only [AllP, inK_iff, roomOK_iff, decide_eq_true_eq, Bool.and_eq_true, Bool.or_eq_true, Bool.not_eq_true', decide_eq_false_iff_not, and_true, true_and]; (first | omega | (and_intros <;> intros <;> (try and_intros) <;> first | omega | assumption | exact trivial)))) (by (first | omega | assumption | exact ⟨rfl, trivial⟩ | simp only [AllP, inK_iff, roomOK_iff, decide_eq_true_eq, Bool.and_eq_true, Bool.or_eq_true, Bool.not_eq_true', decide_eq_false_iff_not, and_true, true_and]; (first | omega | (and_intros <;> intros <;> (try and_intros) <;> first | omega | assumption | exact trivial))))) (by kernel_rfl) ?_
    refine good_run 15 (obs := [(4 : Nat) = (4 : Nat) ∧ (0 : Nat) + (4 : Nat) ≤ (4 : Nat)]) (by kernel_rfl) (by (first | omega | assumption | exact ⟨rfl, trivial⟩ | simp only [AllP, inK_iff, roomOK_iff, decide_eq_true_eq, Bool.and_eq_true, Bool.or_eq_true, Bool.not_eq_true', decide_eq_false_iff_not, and_true, true_and]; (first | omega | (and_intros <;> intros <;> (try and_intros) <;> first | omega | assumption | exact trivial)))) ?_
    refine good_cond (!isK l Shf.ID id) (by kernel_rfl) (fun hc1 => ?_) (fun hc1 => ?_)
    · simp only [Bool.not_eq_true'] at hc1
      rw [if_pos hc1]
      refine good_run 8 (obs := []) (by kernel_rfl) trivial ?_
      refine good_fin [(0 : Int) = (0 : Int), (7 : Int) = (7 : Int)] (by kernel_rfl) ⟨rfl, rfl, trivial⟩
    · simp only [Bool.not_eq_false'] at hc1
      rw [if_neg (by rw [hc1]; decide)]
      refine good_run 5 (obs := [(0 : Nat) + (3 : Nat) ≤ (3 : Nat), (0 : Nat) + (4 : Nat) ≤ (4 : Nat)]) (by kernel_rfl) (by (first | omega | assumption | exact ⟨rfl, trivial⟩ | simp only [AllP, inK_iff, roomOK_iff, decide_eq_true_eq, Bool.and_eq_true, Bool.or_eq_true, Bool.not_eq_true', decide_eq_false_iff_not, and_true, true_and]; (first | omega | (and_intros <;> intros <;> (try and_intros) <;> first | omega | assumption | exact trivial)))) ?_
      refine good_call (c := True) (by kernel_rfl) (fun _ => SVles.refl _) (fun _ => s45 (l) (b) (s) (atK l Shf.ID id) (by (first | omega | assumption | exact ⟨rfl, trivial⟩ | simp only [AllP, inK_iff, roomOK_iff, decide_eq_true_eq, Bool.and_eq_true, Bool.or_eq_true, Bool.not_eq_true', decide_eq_false_iff_not, and_true, true_and]; (first | omega | (and_intros <;> intros <;> (try and_intros) <;> first | omega | assumption | exact trivial)))) (by (first | omega | assumption | exact ⟨rfl, trivial⟩ | simp only [AllP, inK_iff, roomOK_iff, decide_eq_true_eq, Bool.and_eq_true, Bool.or_eq_true, Bool.not_eq_true', decide_eq_false_iff_not, and_true, true_and]; (first | omega | (and_intros <;> intros <;> (try and_intros) <;> first | omega | assumption | exact trivial)))) (by (first | omega | assumption | exact ⟨rfl, trivial⟩ | simp only [AllP, inK_iff, roomOK_iff, decide_eq_true_eq, Bool.and_eq_true, Bool.or_eq_true, Bool.not_eq_true', decide_eq_false_iff_not, and_true, true_and]; (first | omega | (and_intros <;> intros <;> (try and_intros) <;> first | omega | assumption | exact trivial)))) (by (first | omega | assumption | exact ⟨rfl, trivial⟩ | simp only [AllP, inK_iff, roomOK_iff, decide_eq_true_eq, Bool.and_eq_true, Bool.or_eq_true, Bool.not_eq_true', decide_eq_false_iff_not, and_true, true_and]; (first | omega | (and_intros <;> intros <;> (try and_intros) <;> first | omega | assumption | exact trivial)))) (by (first | omega | assumption | exact ⟨rfl, trivial⟩ | simp only [AllP, inK_iff, roomOK_iff, decide_eq_true_eq, Bool.and_eq_true, Bool.or_eq_true, Bool.not_eq_true', decide_eq_false_iff_not, and_true, true_and]; (first | omega | (and_intros <;> intros <;> (try and_intros) <;> first | omega | assumption | exact trivial)))) (by (first | omega | assumption | exact ⟨rfl, trivial⟩ | simp only [AllP, inK_iff, roomOK_iff, decide_eq_true_eq, Bool.and_eq_true, Bool.or_eq_true, Bool.not_eq_true', decide_eq_false_iff_not, and_true, true_and]; (first | omega | (and_intros <;> intros <;> (try and_intros) <;> first | omega | assumption | exact trivial)))) (by (first | omega | assumption | exact ⟨rfl, trivial⟩ | simp only [AllP, inK_iff, roomOK_iff, decide_eq_true_eq, Bool.and_eq_true, Bool.or_eq_true, Bool.not_eq_true', decide_eq_false_iff_not, and_true, true_and]; (first | omega | (and_intros <;> intros <;> (try and_intros) <;> first | omega | assumption | exact trivial)))) (by (first | omega | assumption | exact ⟨rfl, trivial⟩ | simp only [AllP, inK_iff, roomOK_iff, decide_eq_true_eq, Bool.and_eq_true, Bool.or_eq_true, Bool.not_eq_true', decide_eq_false_iff_not, and_true, true_and]; (first | omega | (and_intros <;> intros <;> (try and_intros) <;> first | omega | assumption | exact trivial))))) (by kernel_rfl) ?_
      refine good_run 5 (obs := []) (by kernel_rfl) trivial ?_
      refine good_fin [roomI b s (atK l Shf.ID id) = roomI b s (atK l Shf.ID id), (0 : Int) = (0 : Int)] (by kernel_rfl) ⟨rfl, rfl, trivial⟩
  · have e : roomR l b s id = (0, 1) := by rw [roomR, if_pos h]
    rw [e]
    have s43a := s43a l b s hs hx h
    refine good_run 11 (obs := []) (by kernel_rfl) trivial ?_
    refine good_call (c := True) (by kernel_rfl) (fun _ => SVles.refl _) (fun _ => s43a) (by kernel_rfl) ?_
    refine good_run 15 (obs := [(3 : Nat) = (3 : Nat) ∧ (0 : Nat) + (3 : Nat) ≤ (3 : Nat)]) (by kernel_rfl) (by (first | omega | assumption | exact ⟨rfl, trivial⟩ | simp only [AllP, inK_iff, roomOK_iff, decide_eq_true_eq, Bool.and_eq_true, Bool.or_eq_true, Bool.not_eq_true', decide_eq_false_iff_not, and_true, true_and]; (first | omega | (and_intros <;> intros <;> (try and_intros) <;> first | omega | assumption | exact trivial)))) ?_
    refine good_cond true (by kernel_rfl) (fun _ => ?_) (fun h => nomatch h)
    refine good_run 9 (obs := []) (by kernel_rfl) trivial ?_
    refine good_fin [(0 : Int) = (0 : Int), (1 : Int) = (1 : Int)] (by kernel_rfl) ⟨rfl, rfl, trivial⟩
end Go.Sx.T
