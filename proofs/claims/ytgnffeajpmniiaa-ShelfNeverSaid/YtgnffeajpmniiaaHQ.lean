/- Contracts of functions of the program, each proved by running its code symbolically (HQ). -/
import Derived.Test.YtgnffeajpmniiaaHP
namespace Go.Sx.T
open Go Go.Proofs Go.Sx
set_option maxRecDepth 100000
set_option maxHeartbeats 4000000
set_option linter.unusedVariables false
set_option linter.unusedSimpArgs false
def bestB (b : List Box) (s : List Std) (own : Box) (rep : Int) (q : Int × Int) (x : Shf) : Bool :=
  decide (x.Repository = rep) && decide (x.Climate = own.Climate) && decide (own.Width ≤ roomI b s x) && (decide (q.1 = 0) || decide (roomI b s x < q.2))
def bestStep (b : List Box) (s : List Std) (own : Box) (rep : Int) (q : Int × Int) (x : Shf) : Int × Int := if bestB b s own rep q x = true then (x.ID, roomI b s x) else q
def bestF (b : List Box) (s : List Std) (own : Box) (rep : Int) (l : List Shf) : Int × Int := l.foldl (bestStep b s own rep) (0, 0)
def bestR (l : List Shf) (b : List Box) (s : List Std) (id rep : Int) : Int × Int :=
  if checkS l b s ≠ 0 then (0, 1) else if isK b Box.ID id = false then (0, 7) else if 0 ≤ (findP id 0 s).1 then (0, 11)
  else if (bestF b s (atK b Box.ID id) rep l).1 = 0 then (0, 12) else ((bestF b s (atK b Box.ID id) rep l).1, 0)
theorem bestF_take (b : List Box) (s : List Std) (own : Box) (rep : Int) (l : List Shf) (k : Nat) (hk : k < l.length) : bestF b s own rep (l.take (k + 1)) = bestStep b s own rep (bestF b s own rep (l.take k)) (l.getD k default) := by
  unfold bestF
  rw [take_snoc l default k hk, List.foldl_append]; rfl
theorem roomI_bound {b : List Box} {s : List Std} {x : Shf} (hw : wOK b) (hx : ∀ y ∈ s, y.Boxes.length ≤ 100000) (h0 : 0 ≤ x.Length) (h1 : x.Length ≤ 10000) : -1000000000 ≤ roomI b s x ∧ roomI b s x ≤ 10000 := by
  have h2 := widthI_bound hw (boxesOf s x.ID)
  have h3 := boxesOf_len hx x.ID
  unfold roomI
  omega
theorem s22 (l : List Shf) (b : List Box) (s : List Std) (id rep : Int) (hs : s.length ≤ 100000) (hx : ∀ y ∈ s, y.Boxes.length ≤ 100000) :
    Spec Try.prog 22 [shfs l, boxes b, stds s, .int .i64 id, .int .i64 rep] (.tup [.int .i64 (bestR l b s id rep).1, .int .i64 (bestR l b s id rep).2]) := by
  refine spec_of_good mixed Try.func22 F22_ok (by kernel_rfl) ?_
  by_cases h : checkS l b s = 0
  · have hR := right_of h
    have al := hR.al
    have ab := hR.ab
    have wb := hR.wb
    have has := hR.as'
    have l32 : l.length ≤ 100000 := by have := hR.l32; omega
    have b128 : b.length ≤ 100000 := by have := hR.b128; omega
    have s43a := s43 l b s hs hx h
    have e0 : bestR l b s id rep = if isK b Box.ID id = false then (0, 7) else if 0 ≤ (findP id 0 s).1 then (0, 11)
      else if (bestF b s (atK b Box.ID id) rep l).1 = 0 then (0, 12) else ((bestF b s (atK b Box.ID id) rep l).1, 0) := by rw [bestR, if_neg (fun g => g h)]
    refine good_run 11 (obs := []) (by kernel_rfl) trivial ?_
    refine good_call (c := True) (by kernel_rfl) (fun _ => SVles.refl _) (fun _ => s43a) (by kernel_rfl) ?_
    refine good_run 15 (obs := [(3 : Nat) = (3 : Nat) ∧ (0 : Nat) + (3 : Nat) ≤ (3 : Nat)]) (by kernel_rfl) (by (first | omega | assumption | exact ⟨rfl, trivial⟩ | simp only [AllP, inK_iff, roomOK_iff, decide_eq_true_eq, Bool.and_eq_true, Bool.or_eq_true, Bool.not_eq_true', decide_eq_false_iff_not, and_true, true_and]; (first | omega | (and_intros <;> intros <;> (try and_intros) <;> first | omega | assumption | exact trivial)))) ?_
    refine good_cond false (by kernel_rfl) (fun h => nomatch h) (fun _ => ?_)
    refine good_run 5 (obs := [(0 : Nat) + (3 : Nat) ≤ (3 : Nat)]) (by kernel_rfl) (by (first | omega | assumption | exact ⟨rfl, trivial⟩ | simp only [AllP, inK_iff, roomOK_iff, decide_eq_true_eq, Bool.and_eq_true, Bool.or_eq_true, Bool.not_eq_true', decide_eq_false_iff_not, and_true, true_and]; (first | omega | (and_intros <;> intros <;> (try and_intros) <;> first | omega | assumption | exact trivial)))) ?_
    refine good_call (c := True) (by kernel_rfl) (fun _ => SVles.refl _) (fun _ => s52 (l) (b) (s) (id) (by (first | omega | assumption | exact ⟨rfl, trivial⟩ | simp only [AllP, inK_iff, roomOK_iff, decide_eq_true_eq, Bool.and_eq_true, Bool.or_eq_true, Bool.not_eq_true', decide_eq_false_iff_not, and_true, true_and]; (first | omega | (and_intros <;> intros <;> (try and_intros) <;> first | omega | assumption | exact trivial)))) (by (first | omega | assumption | exact ⟨rfl, trivial⟩ | simp only [AllP, inK_iff, roomOK_iff, decide_eq_true_eq, Bool.and_eq_true, Bool.or_eq_true, Bool.not_eq_true', decide_eq_false_iff_not, and_true, true_and]; (first | omega | (and_intros <;> intros <;> (try and_intros) <;> first | omega | assumption | exact trivial))))) (by kernel_rfl) ?_
    refine good_run 15 (obs := [(5 : Nat) = (5 : Nat) ∧ (0 : Nat) + (5 : Nat) ≤ (5 : Nat)]) (by kernel_rfl) (by (first | omega | assumption | exact ⟨rfl, trivial⟩ | simp only [AllP, inK_iff, roomOK_iff, decide_eq_true_eq, Bool.and_eq_true, Bool.or_eq_true, Bool.not_eq_true', decide_eq_false_iff_not, and_true, true_and]; (first | omega | (and_intros <;> intros <;> (try and_intros) <;> first | omega | assumption | exact trivial)))) ?_
    refine good_cond (!isK b Box.ID id) (by kernel_rfl) (fun hc1 => ?_) (fun hc1 => ?_)
    · simp only [Bool.not_eq_true'] at hc1
      rw [if_pos hc1] at e0
      rw [e0]
      refine good_run 8 (obs := []) (by kernel_rfl) trivial ?_
      refine good_fin [(0 : Int) = (0 : Int), (7 : Int) = (7 : Int)] (by kernel_rfl) ⟨rfl, rfl, trivial⟩
    · simp only [Bool.not_eq_false'] at hc1
      rw [if_neg (by rw [hc1]; decide)] at e0
      refine good_run 6 (obs := [(0 : Nat) + (3 : Nat) ≤ (3 : Nat)]) (by kernel_rfl) (by (first | omega | assumption | exact ⟨rfl, trivial⟩ | simp only [AllP, inK_iff, roomOK_iff, decide_eq_true_eq, Bool.and_eq_true, Bool.or_eq_true, Bool.not_eq_true', decide_eq_false_iff_not, and_true, true_and]; (first | omega | (and_intros <;> intros <;> (try and_intros) <;> first | omega | assumption | exact trivial)))) ?_
      refine good_call (c := True) (by kernel_rfl) (fun _ => SVles.refl _) (fun _ => s53 (l) (b) (s) (id) (by (first | omega | assumption | exact ⟨rfl, trivial⟩ | simp only [AllP, inK_iff, roomOK_iff, decide_eq_true_eq, Bool.and_eq_true, Bool.or_eq_true, Bool.not_eq_true', decide_eq_false_iff_not, and_true, true_and]; (first | omega | (and_intros <;> intros <;> (try and_intros) <;> first | omega | assumption | exact trivial))))) (by kernel_rfl) ?_
      refine good_run 13 (obs := []) (by kernel_rfl) trivial ?_
      refine good_cond (decide ((0 : Int) ≤ (findP id (0 : Nat) s).fst)) (by kernel_rfl) (fun hc2 => ?_) (fun hc2 => ?_)
      · simp only [decide_eq_true_eq] at hc2
        rw [if_pos (by omega)] at e0
        rw [e0]
        refine good_run 8 (obs := []) (by kernel_rfl) trivial ?_
        refine good_fin [(0 : Int) = (0 : Int), (11 : Int) = (11 : Int)] (by kernel_rfl) ⟨rfl, rfl, trivial⟩
      · simp only [decide_eq_false_iff_not] at hc2
        rw [if_neg (by omega)] at e0
        refine good_run 16 (obs := []) (by kernel_rfl) trivial ?_
        refine good_loopJ (fun k : Nat => ⟨[(51, .sv (.int .i64 (k))), (18, .sv (.int .i64 ((bestF b s (atK b Box.ID id) rep (l.take k)).1))), (19, .sv (.int .i64 ((bestF b s (atK b Box.ID id) rep (l.take k)).2))), (50, LV.sv (SV.int IntKind.i64 (↑(List.length l) : Int))), (49, LV.sv (SV.lst (4 : Nat) (List.length l) fun i => Shf.cells (List.getD l i default))), (14, LV.ptr (1 : Nat) (0 : Nat)), (12, LV.ptr (0 : Nat) (0 : Nat)), (4, LV.sv (SV.int IntKind.i64 rep))], [Blk.cells (73 : Nat) false [SV.lst (4 : Nat) (List.length l) fun i => Shf.cells (List.getD l i default), SV.lst (5 : Nat) (List.length b) fun i => Box.cells (List.getD b i default), SV.lst (2 : Nat) (List.length s) fun i => Std.cells (List.getD s i default)], Blk.cells (51 : Nat) false [SV.int IntKind.i64 (atK b Box.ID id).ID, SV.int IntKind.i64 (atK b Box.ID id).Width, SV.int IntKind.i64 (atK b Box.ID id).Room, SV.int IntKind.i64 (atK b Box.ID id).Climate, SV.lst (2 : Nat) (List.length (atK b Box.ID id).Contents) fun i => Content.cells (List.getD (atK b Box.ID id).Contents i default)]]⟩) (fun k => k ≤ l.length) (fun k => l.length - k) (0) [List.length l = List.length l ∧ ∀ (i : Nat), i < List.length l → (fun i => Shf.cells (List.getD l i default)) i = (fun i => Shf.cells (List.getD l i default)) i, List.length b = List.length b ∧ ∀ (i : Nat), i < List.length b → (fun i => Box.cells (List.getD b i default)) i = (fun i => Box.cells (List.getD b i default)) i, List.length s = List.length s ∧ ∀ (i : Nat), i < List.length s → (fun i => Std.cells (List.getD s i default)) i = (fun i => Std.cells (List.getD s i default)) i, (atK b Box.ID id).ID = (atK b Box.ID id).ID, (atK b Box.ID id).Width = (atK b Box.ID id).Width, (atK b Box.ID id).Room = (atK b Box.ID id).Room, (atK b Box.ID id).Climate = (atK b Box.ID id).Climate, List.length (atK b Box.ID id).Contents = List.length (atK b Box.ID id).Contents ∧ ∀ (i : Nat), i < List.length (atK b Box.ID id).Contents → (fun i => Content.cells (List.getD (atK b Box.ID id).Contents i default)) i = (fun i => Content.cells (List.getD (atK b Box.ID id).Contents i default)) i, (0 : Int) = (0 : Int), (0 : Int) = (bestF b s (atK b Box.ID id) rep (List.take (0 : Nat) l)).fst, (0 : Int) = (bestF b s (atK b Box.ID id) rep (List.take (0 : Nat) l)).snd, (↑(List.length l) : Int) = (↑(List.length l) : Int), List.length l = List.length l ∧ ∀ (i : Nat), i < List.length l → (fun i => Shf.cells (List.getD l i default)) i = (fun i => Shf.cells (List.getD l i default)) i, rep = rep] (by kernel_rfl) (by kernel_rfl) ⟨⟨rfl, fun _ _ => rfl⟩, ⟨rfl, fun _ _ => rfl⟩, ⟨rfl, fun _ _ => rfl⟩, rfl, rfl, rfl, rfl, ⟨rfl, fun _ _ => rfl⟩, rfl, (by rfl), (by rfl), rfl, ⟨rfl, fun _ _ => rfl⟩, rfl, trivial⟩ (by omega) ?_
        intro k hk
        refine good_run 6 (obs := []) (by kernel_rfl) trivial ?_
        refine good_cond (decide ((↑k : Int) < (↑(List.length l) : Int))) (by kernel_rfl) (fun hc3 => ?_) (fun hc3 => ?_)
        · have hkl : k < l.length := by simp only [decide_eq_true_eq] at hc3; omega
          have hst := bestF_take b s (atK b Box.ID id) rep l k hkl
          have hok := okS_len (hR.okl _ (getD_mem l default k hkl))
          have h00 : 0 ≤ (l.getD k default).Length := by omega
          have h01 : (l.getD k default).Length ≤ 10000 := by omega
          have hrb := roomI_bound wb hx h00 h01
          refine good_run 15 (obs := [(4 : Nat) = (4 : Nat) ∧ (0 : Int) ≤ (↑k : Int) ∧ (↑k : Int) < (↑(List.length l) : Int), (0 : Nat) + (4 : Nat) ≤ (4 : Nat), (4 : Nat) = (4 : Nat) ∧ (0 : Nat) + (4 : Nat) ≤ (4 : Nat), (0 : Nat) + (3 : Nat) ≤ (3 : Nat), (0 : Nat) + (4 : Nat) ≤ (4 : Nat)]) (by kernel_rfl) (by (first | omega | assumption | exact ⟨rfl, trivial⟩ | simp only [AllP, inK_iff, roomOK_iff, decide_eq_true_eq, Bool.and_eq_true, Bool.or_eq_true, Bool.not_eq_true', decide_eq_false_iff_not, and_true, true_and]; (first | omega | (and_intros <;> intros <;> (try and_intros) <;> first | omega | assumption | exact trivial)))) ?_
          refine good_call (c := True) (by kernel_rfl) (fun _ => SVles.refl _) (fun _ => s45 (l) (b) (s) (List.getD l k default) (by (first | omega | assumption | exact ⟨rfl, trivial⟩ | simp only [AllP, inK_iff, roomOK_iff, decide_eq_true_eq, Bool.and_eq_true, Bool.or_eq_true, Bool.not_eq_true', decide_eq_false_iff_not, and_true, true_and]; (first | omega | (and_intros <;> intros <;> (try and_intros) <;> first | omega | assumption | exact trivial)))) (by (first | omega | assumption | exact ⟨rfl, trivial⟩ | simp only [AllP, inK_iff, roomOK_iff, decide_eq_true_eq, Bool.and_eq_true, Bool.or_eq_true, Bool.not_eq_true', decide_eq_false_iff_not, and_true, true_and]; (first | omega | (and_intros <;> intros <;> (try and_intros) <;> first | omega | assumption | exact trivial)))) (by (first | omega | assumption | exact ⟨rfl, trivial⟩ | simp only [AllP, inK_iff, roomOK_iff, decide_eq_true_eq, Bool.and_eq_true, Bool.or_eq_true, Bool.not_eq_true', decide_eq_false_iff_not, and_true, true_and]; (first | omega | (and_intros <;> intros <;> (try and_intros) <;> first | omega | assumption | exact trivial)))) (by (first | omega | assumption | exact ⟨rfl, trivial⟩ | simp only [AllP, inK_iff, roomOK_iff, decide_eq_true_eq, Bool.and_eq_true, Bool.or_eq_true, Bool.not_eq_true', decide_eq_false_iff_not, and_true, true_and]; (first | omega | (and_intros <;> intros <;> (try and_intros) <;> first | omega | assumption | exact trivial)))) (by (first | omega | assumption | exact ⟨rfl, trivial⟩ | simp only [AllP, inK_iff, roomOK_iff, decide_eq_true_eq, Bool.and_eq_true, Bool.or_eq_true, Bool.not_eq_true', decide_eq_false_iff_not, and_true, true_and]; (first | omega | (and_intros <;> intros <;> (try and_intros) <;> first | omega | assumption | exact trivial)))) (by (first | omega | assumption | exact ⟨rfl, trivial⟩ | simp only [AllP, inK_iff, roomOK_iff, decide_eq_true_eq, Bool.and_eq_true, Bool.or_eq_true, Bool.not_eq_true', decide_eq_false_iff_not, and_true, true_and]; (first | omega | (and_intros <;> intros <;> (try and_intros) <;> first | omega | assumption | exact trivial)))) (by (first | omega | assumption | exact ⟨rfl, trivial⟩ | simp only [AllP, inK_iff, roomOK_iff, decide_eq_true_eq, Bool.and_eq_true, Bool.or_eq_true, Bool.not_eq_true', decide_eq_false_iff_not, and_true, true_and]; (first | omega | (and_intros <;> intros <;> (try and_intros) <;> first | omega | assumption | exact trivial)))) (by (first | omega | assumption | exact ⟨rfl, trivial⟩ | simp only [AllP, inK_iff, roomOK_iff, decide_eq_true_eq, Bool.and_eq_true, Bool.or_eq_true, Bool.not_eq_true', decide_eq_false_iff_not, and_true, true_and]; (first | omega | (and_intros <;> intros <;> (try and_intros) <;> first | omega | assumption | exact trivial))))) (by kernel_rfl) ?_
          refine good_run 33 (obs := []) (by kernel_rfl) trivial ?_
          refine good_cond (decide ((List.getD l k default).Repository = rep) && decide ((List.getD l k default).Climate = (atK b Box.ID id).Climate) && decide ((atK b Box.ID id).Width ≤ roomI b s (List.getD l k default)) && (decide ((bestF b s (atK b Box.ID id) rep (List.take k l)).fst = (0 : Int)) || decide (roomI b s (List.getD l k default) < (bestF b s (atK b Box.ID id) rep (List.take k l)).snd))) (by kernel_rfl) (fun hc4 => ?_) (fun hc4 => ?_)
          · have : bestB b s (atK b Box.ID id) rep (bestF b s (atK b Box.ID id) rep (l.take k)) (l.getD k default) = true := hc4
            rw [bestStep, if_pos this] at hst
            refine good_run 14 (obs := [InK IntKind.i64 ((↑k : Int) + (1 : Int))]) (by kernel_rfl) (by (first | omega | assumption | exact ⟨rfl, trivial⟩ | simp only [AllP, inK_iff, roomOK_iff, decide_eq_true_eq, Bool.and_eq_true, Bool.or_eq_true, Bool.not_eq_true', decide_eq_false_iff_not, and_true, true_and]; (first | omega | (and_intros <;> intros <;> (try and_intros) <;> first | omega | assumption | exact trivial)))) ?_
            refine good_backJ (k + 1) [List.length l = List.length l ∧ ∀ (i : Nat), i < List.length l → (fun i => Shf.cells (List.getD l i default)) i = (fun i => Shf.cells (List.getD l i default)) i, List.length b = List.length b ∧ ∀ (i : Nat), i < List.length b → (fun i => Box.cells (List.getD b i default)) i = (fun i => Box.cells (List.getD b i default)) i, List.length s = List.length s ∧ ∀ (i : Nat), i < List.length s → (fun i => Std.cells (List.getD s i default)) i = (fun i => Std.cells (List.getD s i default)) i, (atK b Box.ID id).ID = (atK b Box.ID id).ID, (atK b Box.ID id).Width = (atK b Box.ID id).Width, (atK b Box.ID id).Room = (atK b Box.ID id).Room, (atK b Box.ID id).Climate = (atK b Box.ID id).Climate, List.length (atK b Box.ID id).Contents = List.length (atK b Box.ID id).Contents ∧ ∀ (i : Nat), i < List.length (atK b Box.ID id).Contents → (fun i => Content.cells (List.getD (atK b Box.ID id).Contents i default)) i = (fun i => Content.cells (List.getD (atK b Box.ID id).Contents i default)) i, (↑k : Int) + (1 : Int) = (↑(k + (1 : Nat)) : Int), (List.getD l k default).ID = (bestF b s (atK b Box.ID id) rep (List.take (k + (1 : Nat)) l)).fst, roomI b s (List.getD l k default) = (bestF b s (atK b Box.ID id) rep (List.take (k + (1 : Nat)) l)).snd, (↑(List.length l) : Int) = (↑(List.length l) : Int), List.length l = List.length l ∧ ∀ (i : Nat), i < List.length l → (fun i => Shf.cells (List.getD l i default)) i = (fun i => Shf.cells (List.getD l i default)) i, rep = rep] (by kernel_rfl) (by kernel_rfl) ⟨⟨rfl, fun _ _ => rfl⟩, ⟨rfl, fun _ _ => rfl⟩, ⟨rfl, fun _ _ => rfl⟩, rfl, rfl, rfl, rfl, ⟨rfl, fun _ _ => rfl⟩, (by omega), ?_, ?_, rfl, ⟨rfl, fun _ _ => rfl⟩, rfl, trivial⟩ (by omega) (by show _ < _; omega)
            all_goals rw [hst]
          · have : bestB b s (atK b Box.ID id) rep (bestF b s (atK b Box.ID id) rep (l.take k)) (l.getD k default) = false := hc4
            rw [bestStep, if_neg (by rw [this]; decide)] at hst
            refine good_run 7 (obs := [InK IntKind.i64 ((↑k : Int) + (1 : Int))]) (by kernel_rfl) (by (first | omega | assumption | exact ⟨rfl, trivial⟩ | simp only [AllP, inK_iff, roomOK_iff, decide_eq_true_eq, Bool.and_eq_true, Bool.or_eq_true, Bool.not_eq_true', decide_eq_false_iff_not, and_true, true_and]; (first | omega | (and_intros <;> intros <;> (try and_intros) <;> first | omega | assumption | exact trivial)))) ?_
            refine good_backJ (k + 1) [List.length l = List.length l ∧ ∀ (i : Nat), i < List.length l → (fun i => Shf.cells (List.getD l i default)) i = (fun i => Shf.cells (List.getD l i default)) i, List.length b = List.length b ∧ ∀ (i : Nat), i < List.length b → (fun i => Box.cells (List.getD b i default)) i = (fun i => Box.cells (List.getD b i default)) i, List.length s = List.length s ∧ ∀ (i : Nat), i < List.length s → (fun i => Std.cells (List.getD s i default)) i = (fun i => Std.cells (List.getD s i default)) i, (atK b Box.ID id).ID = (atK b Box.ID id).ID, (atK b Box.ID id).Width = (atK b Box.ID id).Width, (atK b Box.ID id).Room = (atK b Box.ID id).Room, (atK b Box.ID id).Climate = (atK b Box.ID id).Climate, List.length (atK b Box.ID id).Contents = List.length (atK b Box.ID id).Contents ∧ ∀ (i : Nat), i < List.length (atK b Box.ID id).Contents → (fun i => Content.cells (List.getD (atK b Box.ID id).Contents i default)) i = (fun i => Content.cells (List.getD (atK b Box.ID id).Contents i default)) i, (↑k : Int) + (1 : Int) = (↑(k + (1 : Nat)) : Int), (bestF b s (atK b Box.ID id) rep (List.take k l)).fst = (bestF b s (atK b Box.ID id) rep (List.take (k + (1 : Nat)) l)).fst, (bestF b s (atK b Box.ID id) rep (List.take k l)).snd = (bestF b s (atK b Box.ID id) rep (List.take (k + (1 : Nat)) l)).snd, (↑(List.length l) : Int) = (↑(List.length l) : Int), List.length l = List.length l ∧ ∀ (i : Nat), i < List.length l → (fun i => Shf.cells (List.getD l i default)) i = (fun i => Shf.cells (List.getD l i default)) i, rep = rep] (by kernel_rfl) (by kernel_rfl) ⟨⟨rfl, fun _ _ => rfl⟩, ⟨rfl, fun _ _ => rfl⟩, ⟨rfl, fun _ _ => rfl⟩, rfl, rfl, rfl, rfl, ⟨rfl, fun _ _ => rfl⟩, (by omega), ?_, ?_, rfl, ⟨rfl, fun _ _ => rfl⟩, rfl, trivial⟩ (by omega) (by show _ < _; omega)
            all_goals rw [hst]
        · have hkl : k = l.length := by simp only [decide_eq_false_iff_not] at hc3; omega
          subst hkl
          rw [List.take_length]
          refine good_run 2 (obs := []) (by kernel_rfl) trivial ?_
          refine good_leaveJ (by kernel_rfl) ?_
          refine good_run 8 (obs := []) (by kernel_rfl) trivial ?_
          refine good_cond (decide ((bestF b s (atK b Box.ID id) rep l).fst = (0 : Int))) (by kernel_rfl) (fun hc4 => ?_) (fun hc4 => ?_)
          · simp only [decide_eq_true_eq] at hc4
            rw [if_pos hc4] at e0
            rw [e0]
            refine good_run 8 (obs := []) (by kernel_rfl) trivial ?_
            refine good_fin [(0 : Int) = (0 : Int), (12 : Int) = (12 : Int)] (by kernel_rfl) ⟨rfl, rfl, trivial⟩
          · simp only [decide_eq_false_iff_not] at hc4
            rw [if_neg hc4] at e0
            rw [e0]
            refine good_run 9 (obs := []) (by kernel_rfl) trivial ?_
            refine good_fin [(bestF b s (atK b Box.ID id) rep l).fst = (bestF b s (atK b Box.ID id) rep l).fst, (0 : Int) = (0 : Int)] (by kernel_rfl) ⟨rfl, rfl, trivial⟩
  · have e : bestR l b s id rep = (0, 1) := by rw [bestR, if_pos h]
    rw [e]
    have s43a := s43a l b s hs hx h
    refine good_run 11 (obs := []) (by kernel_rfl) trivial ?_
    refine good_call (c := True) (by kernel_rfl) (fun _ => SVles.refl _) (fun _ => s43a) (by kernel_rfl) ?_
    refine good_run 15 (obs := [(3 : Nat) = (3 : Nat) ∧ (0 : Nat) + (3 : Nat) ≤ (3 : Nat)]) (by kernel_rfl) (by (first | omega | assumption | exact ⟨rfl, trivial⟩ | simp only [AllP, inK_iff, roomOK_iff, decide_eq_true_eq, Bool.and_eq_true, Bool.or_eq_true, Bool.not_eq_true', decide_eq_false_iff_not, and_true, true_and]; (first | omega | (and_intros <;> intros <;> (try and_intros) <;> first | omega | assumption | exact trivial)))) ?_
    refine good_cond true (by kernel_rfl) (fun _ => ?_) (fun h => nomatch h)
    refine good_run 9 (obs := []) (by kernel_rfl) trivial ?_
    refine good_fin [(0 : Int) = (0 : Int), (1 : Int) = (1 : Int)] (by kernel_rfl) ⟨rfl, rfl, trivial⟩
end Go.Sx.T
