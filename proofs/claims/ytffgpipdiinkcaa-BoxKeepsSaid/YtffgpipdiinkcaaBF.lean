/- Contracts of functions of the program, each proved by running its code symbolically (BF). -/
import Derived.Test.YtffgpipdiinkcaaBE
namespace Go.Sx.T
open Go Go.Proofs Go.Sx
set_option maxRecDepth 100000
set_option maxHeartbeats 4000000
set_option linter.unusedVariables false
set_option linter.unusedSimpArgs false
theorem one_box (b : Box) : SVles [.lst 5 1 (cutRows 5 b.cells)] [boxes [b]] := by
  refine ⟨svle_lst rfl fun i hi => ?_, trivial⟩
  have : i = 0 := by omega
  subst this
  exact SVles.refl _
theorem check_one (b : Box) (h : check [b] = 0) : faultB b = 0 ∧ formB b = true ∧ b.Contents.length ≤ 32 ∧ sumT b.Contents ≤ b.Room ∧ 1 ≤ b.Room ∧ b.Room ≤ 10000 := by
  have h1 : badAt [b] 0 = 0 := by
    have h2 : check [b] = errFrom (badAt [b]) 1 0 := rfl
    rw [h2, errFrom_zero'] at h
    exact h 0 (by omega)
  have h3 : badAt [b] 0 = if faultB b ≠ 0 then faultB b else _ := rfl
  have hf : faultB b = 0 := by
    by_cases e : faultB b = 0
    · exact e
    · rw [if_pos e] at h3; omega
  refine ⟨hf, ?_⟩
  unfold faultB at hf
  split at hf
  · cases hf
  · rename_i h4
    have h4' : formB b = true := by simpa using h4
    split at hf
    · cases hf
    · split at hf
      · cases hf
      · refine ⟨h4', by omega, by omega, ?_⟩
        simp [formB, hdrOK, inB] at h4'
        omega
def freeB (b : Box) : Int × Int := if check [b] = 0 then (b.Room - sumT b.Contents, 0) else (0, 1)
theorem s12 (b : Box) : Spec Try.prog 12 [b.sv] (.tup [.int .i64 (freeB b).1, .int .i64 (freeB b).2]) := by
  refine spec_of_good mixed Try.func12 F12_ok (by kernel_rfl) ?_
  refine good_run 12 (obs := [(0 : Nat) + (5 : Nat) ≤ (5 : Nat)]) (by kernel_rfl) (by (first | omega | assumption | exact ⟨rfl, trivial⟩ | simp only [AllP, inK_iff, roomOK_iff, decide_eq_true_eq, Bool.and_eq_true, Bool.or_eq_true, Bool.not_eq_true', decide_eq_false_iff_not, and_true, true_and]; (first | omega | (and_intros <;> intros <;> (try and_intros) <;> first | omega | assumption | exact trivial)))) ?_
  refine good_call (args := [SV.lst (5 : Nat) (1 : Nat) (cutRows (5 : Nat) [SV.int IntKind.i64 b.ID, SV.int IntKind.i64 b.Width, SV.int IntKind.i64 b.Room, SV.int IntKind.i64 b.Climate, SV.lst (2 : Nat) (List.length b.Contents) fun i => Content.cells (List.getD b.Contents i default)])]) (c := True) (by kernel_rfl) (fun _ => one_box b) (fun _ => s17 [b]) (by kernel_rfl) ?_
  refine good_run 3 (obs := []) (by kernel_rfl) trivial ?_
  refine good_cond (!decide (check [b] = (0 : Int))) (by kernel_rfl) (fun hc1 => ?_) (fun hc1 => ?_)
  · simp only [Bool.not_eq_true', decide_eq_false_iff_not] at hc1
    have : freeB b = (0, 1) := if_neg hc1
    rw [this]
    refine good_run 8 (obs := []) (by kernel_rfl) trivial ?_
    refine good_fin [(0 : Int) = (0 : Int), (1 : Int) = (1 : Int)] (by kernel_rfl) ⟨rfl, rfl, trivial⟩
  · simp only [Bool.not_eq_false', decide_eq_true_eq] at hc1
    obtain ⟨h1, h2, h3, h4, h5, h6⟩ := check_one b hc1
    have hok := formB_conts h2
    have hb := sumT_bound _ hok
    have : freeB b = (b.Room - sumT b.Contents, 0) := if_pos hc1
    rw [this]
    refine good_run 7 (obs := []) (by kernel_rfl) trivial ?_
    refine good_call (c := True) (by kernel_rfl) (fun _ => SVles.refl _) (fun _ => s31 (b.Contents) (by (first | omega | assumption | exact ⟨rfl, trivial⟩ | simp only [AllP, inK_iff, roomOK_iff, decide_eq_true_eq, Bool.and_eq_true, Bool.or_eq_true, Bool.not_eq_true', decide_eq_false_iff_not, and_true, true_and]; (first | omega | (and_intros <;> intros <;> (try and_intros) <;> first | omega | assumption | exact trivial)))) (by (first | omega | assumption | exact ⟨rfl, trivial⟩ | simp only [AllP, inK_iff, roomOK_iff, decide_eq_true_eq, Bool.and_eq_true, Bool.or_eq_true, Bool.not_eq_true', decide_eq_false_iff_not, and_true, true_and]; (first | omega | (and_intros <;> intros <;> (try and_intros) <;> first | omega | assumption | exact trivial))))) (by kernel_rfl) ?_
    refine good_run 6 (obs := [True → InK IntKind.i64 (b.Room - sumT b.Contents)]) (by kernel_rfl) (by (first | omega | assumption | exact ⟨rfl, trivial⟩ | simp only [AllP, inK_iff, roomOK_iff, decide_eq_true_eq, Bool.and_eq_true, Bool.or_eq_true, Bool.not_eq_true', decide_eq_false_iff_not, and_true, true_and]; (first | omega | (and_intros <;> intros <;> (try and_intros) <;> first | omega | assumption | exact trivial)))) ?_
    refine good_fin [b.Room - sumT b.Contents = b.Room - sumT b.Contents, (0 : Int) = (0 : Int)] (by kernel_rfl) ⟨rfl, rfl, trivial⟩
theorem s14 (b : Box) : Spec Try.prog 14 [b.sv] (.tup [.int .i64 (freeB b).1, .int .i64 (freeB b).2]) := by
  refine spec_of_good mixed Try.func14 F14_ok (by kernel_rfl) ?_
  refine good_run 12 (obs := [(0 : Nat) + (5 : Nat) ≤ (5 : Nat)]) (by kernel_rfl) (by (first | omega | assumption | exact ⟨rfl, trivial⟩ | simp only [AllP, inK_iff, roomOK_iff, decide_eq_true_eq, Bool.and_eq_true, Bool.or_eq_true, Bool.not_eq_true', decide_eq_false_iff_not, and_true, true_and]; (first | omega | (and_intros <;> intros <;> (try and_intros) <;> first | omega | assumption | exact trivial)))) ?_
  refine good_call (args := [SV.lst (5 : Nat) (1 : Nat) (cutRows (5 : Nat) [SV.int IntKind.i64 b.ID, SV.int IntKind.i64 b.Width, SV.int IntKind.i64 b.Room, SV.int IntKind.i64 b.Climate, SV.lst (2 : Nat) (List.length b.Contents) fun i => Content.cells (List.getD b.Contents i default)])]) (c := True) (by kernel_rfl) (fun _ => one_box b) (fun _ => s18 [b]) (by kernel_rfl) ?_
  refine good_run 3 (obs := []) (by kernel_rfl) trivial ?_
  refine good_cond (!decide (check [b] = (0 : Int))) (by kernel_rfl) (fun hc1 => ?_) (fun hc1 => ?_)
  · simp only [Bool.not_eq_true', decide_eq_false_iff_not] at hc1
    have : freeB b = (0, 1) := if_neg hc1
    rw [this]
    refine good_run 8 (obs := []) (by kernel_rfl) trivial ?_
    refine good_fin [(0 : Int) = (0 : Int), (1 : Int) = (1 : Int)] (by kernel_rfl) ⟨rfl, rfl, trivial⟩
  · simp only [Bool.not_eq_false', decide_eq_true_eq] at hc1
    obtain ⟨h1, h2, h3, h4, h5, h6⟩ := check_one b hc1
    have hok := formB_conts h2
    have hb := sumT_bound _ hok
    have : freeB b = (b.Room - sumT b.Contents, 0) := if_pos hc1
    rw [this]
    refine good_run 6 (obs := [True → (0 : Nat) + (5 : Nat) ≤ (5 : Nat)]) (by kernel_rfl) (by (first | omega | assumption | exact ⟨rfl, trivial⟩ | simp only [AllP, inK_iff, roomOK_iff, decide_eq_true_eq, Bool.and_eq_true, Bool.or_eq_true, Bool.not_eq_true', decide_eq_false_iff_not, and_true, true_and]; (first | omega | (and_intros <;> intros <;> (try and_intros) <;> first | omega | assumption | exact trivial)))) ?_
    refine good_call (c := True) (by kernel_rfl) (fun _ => SVles.refl _) (fun _ => s32 (b) (by (first | omega | assumption | exact ⟨rfl, trivial⟩ | simp only [AllP, inK_iff, roomOK_iff, decide_eq_true_eq, Bool.and_eq_true, Bool.or_eq_true, Bool.not_eq_true', decide_eq_false_iff_not, and_true, true_and]; (first | omega | (and_intros <;> intros <;> (try and_intros) <;> first | omega | assumption | exact trivial)))) (by (first | omega | assumption | exact ⟨rfl, trivial⟩ | simp only [AllP, inK_iff, roomOK_iff, decide_eq_true_eq, Bool.and_eq_true, Bool.or_eq_true, Bool.not_eq_true', decide_eq_false_iff_not, and_true, true_and]; (first | omega | (and_intros <;> intros <;> (try and_intros) <;> first | omega | assumption | exact trivial))))) (by kernel_rfl) ?_
    refine good_run 6 (obs := [True → InK IntKind.i64 (b.Room - sumT b.Contents)]) (by kernel_rfl) (by (first | omega | assumption | exact ⟨rfl, trivial⟩ | simp only [AllP, inK_iff, roomOK_iff, decide_eq_true_eq, Bool.and_eq_true, Bool.or_eq_true, Bool.not_eq_true', decide_eq_false_iff_not, and_true, true_and]; (first | omega | (and_intros <;> intros <;> (try and_intros) <;> first | omega | assumption | exact trivial)))) ?_
    refine good_fin [b.Room - sumT b.Contents = b.Room - sumT b.Contents, (0 : Int) = (0 : Int)] (by kernel_rfl) ⟨rfl, rfl, trivial⟩
abbrev uq (u : Int) : Content → Bool := fun c => decide (c.Unit = u)
theorem whereP_cases (u : Int) : ∀ (l : List Box) (i : Nat), (whereP u i l = (-1, -1) ∧ ∀ j, j < l.length → findI (l.getD j default).Contents (uq u) = -1) ∨
    ∃ k, k < l.length ∧ whereP u i l = (((i + k : Nat) : Int), findI (l.getD k default).Contents (uq u)) ∧ 0 ≤ findI (l.getD k default).Contents (uq u) ∧ ∀ j, j < k → findI (l.getD j default).Contents (uq u) = -1
  | [], i => by left; simp [whereP]
  | b :: r, i => by
    rw [whereP]
    rcases findI_cases b.Contents (uq u) with ⟨e, _⟩ | ⟨k, hk, e, _⟩
    · rw [if_pos (by show findI b.Contents (uq u) < 0; omega)]
      rcases whereP_cases u r (i + 1) with ⟨h1, h2⟩ | ⟨k, hk, h1, h2, h3⟩
      · left
        refine ⟨h1, fun j hj => ?_⟩
        cases j with
        | zero => exact e
        | succ j => rw [getD_cons_succ]; exact h2 j (by simpa using hj)
      · right
        refine ⟨k + 1, by simpa using hk, ?_, ?_, fun j hj => ?_⟩
        · rw [h1, getD_cons_succ]; congr 2; omega
        · rw [getD_cons_succ]; exact h2
        · cases j with
          | zero => exact e
          | succ j => rw [getD_cons_succ]; exact h3 j (by omega)
    · rw [if_neg (by show ¬ findI b.Contents (uq u) < 0; omega)]
      right
      exact ⟨0, by simp, rfl, by rw [getD_cons_zero]; omega, fun j hj => absurd hj (Nat.not_lt_zero _)⟩
def whereB (l : List Box) (u : Int) : Int × Int × Bool :=
  if (whereP u 0 l).1 < 0 ∨ check l ≠ 0 then (0, 0, false) else ((l.getD (whereP u 0 l).1.toNat default).ID, (whereP u 0 l).2, true)
theorem s15 (l : List Box) (u : Int) : Spec Try.prog 15 [boxes l, .int .i64 u] (.tup [.int .i64 (whereB l u).1, .int .i64 (whereB l u).2.1, .bool (whereB l u).2.2]) := by
  refine spec_of_good mixed Try.func15 F15_ok (by kernel_rfl) ?_
  refine good_run 11 (obs := []) (by kernel_rfl) trivial ?_
  refine good_call (c := True) (by kernel_rfl) (fun _ => SVles.refl _) (fun _ => s33 (l) (u)) (by kernel_rfl) ?_
  refine good_run 15 (obs := []) (by kernel_rfl) trivial ?_
  refine good_call (c := decide ((whereP u (0 : Nat) l).fst < (0 : Int)) = false ∧ True) (by kernel_rfl) (fun _ => SVles.refl _) (fun _ => s17 (l)) (by kernel_rfl) ?_
  refine good_run 5 (obs := []) (by kernel_rfl) trivial ?_
  refine good_cond (decide ((whereP u (0 : Nat) l).fst < (0 : Int)) || !decide (check l = (0 : Int))) (by kernel_rfl) (fun hc1 => ?_) (fun hc1 => ?_)
  · simp only [Bool.or_eq_true, Bool.not_eq_true', decide_eq_true_eq, decide_eq_false_iff_not] at hc1
    have : whereB l u = (0, 0, false) := if_pos hc1
    rw [this]
    refine good_run 9 (obs := []) (by kernel_rfl) trivial ?_
    refine good_fin [(0 : Int) = (0 : Int), (0 : Int) = (0 : Int), false = false] (by kernel_rfl) ⟨rfl, rfl, rfl, trivial⟩
  · simp only [Bool.or_eq_false_iff, Bool.not_eq_false', decide_eq_true_eq, decide_eq_false_iff_not] at hc1
    have : whereB l u = ((l.getD (whereP u 0 l).1.toNat default).ID, (whereP u 0 l).2, true) := if_neg (by omega)
    have hw : 0 ≤ (whereP u 0 l).1 ∧ (whereP u 0 l).1 < l.length := by
      rcases whereP_cases u l 0 with ⟨h, _⟩ | ⟨k, hk, h, _⟩
      · rw [h] at hc1; simp at hc1
      · rw [h]; simp only []; omega
    rw [this]
    refine good_run 15 (obs := [(5 : Nat) = (5 : Nat) ∧ (0 : Int) ≤ (whereP u (0 : Nat) l).fst ∧ (whereP u (0 : Nat) l).fst < (↑(List.length l) : Int)]) (by kernel_rfl) (by (first | omega | assumption | exact ⟨rfl, trivial⟩ | simp only [AllP, inK_iff, roomOK_iff, decide_eq_true_eq, Bool.and_eq_true, Bool.or_eq_true, Bool.not_eq_true', decide_eq_false_iff_not, and_true, true_and]; (first | omega | (and_intros <;> intros <;> (try and_intros) <;> first | omega | assumption | exact trivial)))) ?_
    refine good_fin [(List.getD l (Int.toNat (whereP u (0 : Nat) l).fst) default).ID = (List.getD l (Int.toNat (whereP u (0 : Nat) l).fst) default).ID, (whereP u (0 : Nat) l).snd = (whereP u (0 : Nat) l).snd, true = true] (by kernel_rfl) ⟨rfl, rfl, rfl, trivial⟩
theorem s16 (l : List Box) (u : Int) : Spec Try.prog 16 [boxes l, .int .i64 u] (.tup [.int .i64 (whereB l u).1, .int .i64 (whereB l u).2.1, .bool (whereB l u).2.2]) := by
  refine spec_lenEl 0 rfl (hasBody_of_slim Try.func16 F16_ok) fun hlen hel => ?_
  refine spec_of_good mixed Try.func16 F16_ok (by kernel_rfl) ?_
  have hw := whereP_cases u l 0
  refine good_run 11 (obs := []) (by kernel_rfl) trivial ?_
  refine good_call (c := True) (by kernel_rfl) (fun _ => SVles.refl _) (fun _ => s18 (l)) (by kernel_rfl) ?_
  refine good_run 3 (obs := []) (by kernel_rfl) trivial ?_
  refine good_cond (!decide (check l = (0 : Int))) (by kernel_rfl) (fun hc1 => ?_) (fun hc1 => ?_)
  · simp only [Bool.not_eq_true', decide_eq_false_iff_not] at hc1
    have : whereB l u = (0, 0, false) := if_pos (.inr hc1)
    rw [this]
    refine good_run 9 (obs := []) (by kernel_rfl) trivial ?_
    refine good_fin [(0 : Int) = (0 : Int), (0 : Int) = (0 : Int), false = false] (by kernel_rfl) ⟨rfl, rfl, rfl, trivial⟩
  · simp only [Bool.not_eq_false', decide_eq_true_eq] at hc1
    refine good_run 10 (obs := []) (by kernel_rfl) trivial ?_
    refine good_loopJ (fun k : Nat => ⟨[(16, .sv (.int .i64 (k))), (15, LV.sv (SV.int IntKind.i64 (↑(List.length l) : Int))), (14, LV.sv (SV.lst (5 : Nat) (List.length l) fun i => Box.cells (List.getD l i default))), (1, LV.sv (SV.int IntKind.i64 u))], []⟩) (fun k => k ≤ l.length ∧ ∀ j, j < k → findI (l.getD j default).Contents (uq u) = -1) (fun k => l.length - k) (0) [(0 : Int) = (0 : Int), (↑(List.length l) : Int) = (↑(List.length l) : Int), List.length l = List.length l ∧ ∀ (i : Nat), i < List.length l → (fun i => Box.cells (List.getD l i default)) i = (fun i => Box.cells (List.getD l i default)) i, u = u] (by kernel_rfl) (by kernel_rfl) ⟨rfl, rfl, ⟨rfl, fun _ _ => rfl⟩, rfl, trivial⟩ ⟨by omega, by omega⟩ ?_
    intro k hk
    refine good_run 6 (obs := []) (by kernel_rfl) trivial ?_
    refine good_cond (decide ((↑k : Int) < (↑(List.length l) : Int))) (by kernel_rfl) (fun hc2 => ?_) (fun hc2 => ?_)
    · have hlt : k < l.length := by simp only [decide_eq_true_eq] at hc2; omega
      have hcl := hel k 4 2 (l.getD k default).Contents.length _ hlt rfl
      refine good_run 20 (obs := [(5 : Nat) = (5 : Nat) ∧ (0 : Int) ≤ (↑k : Int) ∧ (↑k : Int) < (↑(List.length l) : Int), (0 : Nat) + (5 : Nat) ≤ (5 : Nat), (5 : Nat) = (5 : Nat) ∧ (0 : Nat) + (5 : Nat) ≤ (5 : Nat)]) (by kernel_rfl) (by (first | omega | assumption | exact ⟨rfl, trivial⟩ | simp only [AllP, inK_iff, roomOK_iff, decide_eq_true_eq, Bool.and_eq_true, Bool.or_eq_true, Bool.not_eq_true', decide_eq_false_iff_not, and_true, true_and]; (first | omega | (and_intros <;> intros <;> (try and_intros) <;> first | omega | assumption | exact trivial)))) ?_
      refine good_loopJ (fun j : Nat => ⟨[(23, .sv (.int .i64 (j))), (22, LV.sv (SV.int IntKind.i64 (↑(List.length (List.getD l k default).Contents) : Int))), (21, LV.sv (SV.lst (2 : Nat) (List.length (List.getD l k default).Contents) fun i => Content.cells (List.getD (List.getD l k default).Contents i default))), (8, LV.ptr (0 : Nat) (0 : Nat)), (16, LV.sv (SV.int IntKind.i64 (↑k : Int))), (15, LV.sv (SV.int IntKind.i64 (↑(List.length l) : Int))), (14, LV.sv (SV.lst (5 : Nat) (List.length l) fun i => Box.cells (List.getD l i default))), (1, LV.sv (SV.int IntKind.i64 u))], [Blk.cells (27 : Nat) false [SV.int IntKind.i64 (List.getD l k default).ID, SV.int IntKind.i64 (List.getD l k default).Width, SV.int IntKind.i64 (List.getD l k default).Room, SV.int IntKind.i64 (List.getD l k default).Climate, SV.lst (2 : Nat) (List.length (List.getD l k default).Contents) fun i => Content.cells (List.getD (List.getD l k default).Contents i default)]]⟩) (fun j => j ≤ (l.getD k default).Contents.length ∧ ∀ i, i < j → uq u ((l.getD k default).Contents.getD i default) = false) (fun j => (l.getD k default).Contents.length - j) (0) [(List.getD l k default).ID = (List.getD l k default).ID, (List.getD l k default).Width = (List.getD l k default).Width, (List.getD l k default).Room = (List.getD l k default).Room, (List.getD l k default).Climate = (List.getD l k default).Climate, List.length (List.getD l k default).Contents = List.length (List.getD l k default).Contents ∧ ∀ (i : Nat), i < List.length (List.getD l k default).Contents → (fun i => Content.cells (List.getD (List.getD l k default).Contents i default)) i = (fun i => Content.cells (List.getD (List.getD l k default).Contents i default)) i, (0 : Int) = (0 : Int), (↑(List.length (List.getD l k default).Contents) : Int) = (↑(List.length (List.getD l k default).Contents) : Int), List.length (List.getD l k default).Contents = List.length (List.getD l k default).Contents ∧ ∀ (i : Nat), i < List.length (List.getD l k default).Contents → (fun i => Content.cells (List.getD (List.getD l k default).Contents i default)) i = (fun i => Content.cells (List.getD (List.getD l k default).Contents i default)) i, (↑k : Int) = (↑k : Int), (↑(List.length l) : Int) = (↑(List.length l) : Int), List.length l = List.length l ∧ ∀ (i : Nat), i < List.length l → (fun i => Box.cells (List.getD l i default)) i = (fun i => Box.cells (List.getD l i default)) i, u = u] (by kernel_rfl) (by kernel_rfl) ⟨rfl, rfl, rfl, rfl, ⟨rfl, fun _ _ => rfl⟩, rfl, rfl, ⟨rfl, fun _ _ => rfl⟩, rfl, rfl, ⟨rfl, fun _ _ => rfl⟩, rfl, trivial⟩ ⟨by omega, by omega⟩ ?_
      intro j hj
      refine good_run 6 (obs := []) (by kernel_rfl) trivial ?_
      refine good_cond (decide ((↑j : Int) < (↑(List.length (List.getD l k default).Contents) : Int))) (by kernel_rfl) (fun hc3 => ?_) (fun hc3 => ?_)
      · have hjt : j < (l.getD k default).Contents.length := by simp only [decide_eq_true_eq] at hc3; omega
        refine good_run 21 (obs := [(2 : Nat) = (2 : Nat) ∧ (0 : Int) ≤ (↑j : Int) ∧ (↑j : Int) < (↑(List.length (List.getD l k default).Contents) : Int), (0 : Nat) + (2 : Nat) ≤ (2 : Nat), (2 : Nat) = (2 : Nat) ∧ (0 : Nat) + (2 : Nat) ≤ (2 : Nat)]) (by kernel_rfl) (by (first | omega | assumption | exact ⟨rfl, trivial⟩ | simp only [AllP, inK_iff, roomOK_iff, decide_eq_true_eq, Bool.and_eq_true, Bool.or_eq_true, Bool.not_eq_true', decide_eq_false_iff_not, and_true, true_and]; (first | omega | (and_intros <;> intros <;> (try and_intros) <;> first | omega | assumption | exact trivial)))) ?_
        refine good_cond (decide ((List.getD (List.getD l k default).Contents j default).Unit = u)) (by kernel_rfl) (fun hc4 => ?_) (fun hc4 => ?_)
        · have hf := findI_hit _ (uq u) j hjt hc4 hj.2
          have : whereB l u = ((l.getD k default).ID, (j : Int), true) := by
            rcases hw with ⟨_, h⟩ | ⟨q, hq, h1, h2, h3⟩
            · have := h k hlt; omega
            · have hqk : q = k := by
                rcases Nat.lt_trichotomy q k with h | h | h
                · have := hk.2 q h; omega
                · exact h
                · have := h3 k h; omega
              subst hqk
              rw [whereB, h1, if_neg (by simp only []; omega), hf]
              simp
          rw [this]
          refine good_run 13 (obs := []) (by kernel_rfl) trivial ?_
          refine good_leaveJ (by kernel_rfl) ?_
          refine good_run 3 (obs := []) (by kernel_rfl) trivial ?_
          refine good_leaveJ (by kernel_rfl) ?_
          refine good_run 2 (obs := []) (by kernel_rfl) trivial ?_
          refine good_fin [(List.getD l k default).ID = (List.getD l k default).ID, (↑j : Int) = (↑j : Int), true = true] (by kernel_rfl) ⟨rfl, rfl, rfl, trivial⟩
        · refine good_run 7 (obs := [InK IntKind.i64 ((↑j : Int) + (1 : Int))]) (by kernel_rfl) (by (first | omega | assumption | exact ⟨rfl, trivial⟩ | simp only [AllP, inK_iff, roomOK_iff, decide_eq_true_eq, Bool.and_eq_true, Bool.or_eq_true, Bool.not_eq_true', decide_eq_false_iff_not, and_true, true_and]; (first | omega | (and_intros <;> intros <;> (try and_intros) <;> first | omega | assumption | exact trivial)))) ?_
          refine good_backJ (j + 1) [(List.getD l k default).ID = (List.getD l k default).ID, (List.getD l k default).Width = (List.getD l k default).Width, (List.getD l k default).Room = (List.getD l k default).Room, (List.getD l k default).Climate = (List.getD l k default).Climate, List.length (List.getD l k default).Contents = List.length (List.getD l k default).Contents ∧ ∀ (i : Nat), i < List.length (List.getD l k default).Contents → (fun i => Content.cells (List.getD (List.getD l k default).Contents i default)) i = (fun i => Content.cells (List.getD (List.getD l k default).Contents i default)) i, (↑j : Int) + (1 : Int) = (↑(j + (1 : Nat)) : Int), (↑(List.length (List.getD l k default).Contents) : Int) = (↑(List.length (List.getD l k default).Contents) : Int), List.length (List.getD l k default).Contents = List.length (List.getD l k default).Contents ∧ ∀ (i : Nat), i < List.length (List.getD l k default).Contents → (fun i => Content.cells (List.getD (List.getD l k default).Contents i default)) i = (fun i => Content.cells (List.getD (List.getD l k default).Contents i default)) i, (↑k : Int) = (↑k : Int), (↑(List.length l) : Int) = (↑(List.length l) : Int), List.length l = List.length l ∧ ∀ (i : Nat), i < List.length l → (fun i => Box.cells (List.getD l i default)) i = (fun i => Box.cells (List.getD l i default)) i, u = u] (by kernel_rfl) (by kernel_rfl) ⟨rfl, rfl, rfl, rfl, ⟨rfl, fun _ _ => rfl⟩, (by omega), rfl, ⟨rfl, fun _ _ => rfl⟩, rfl, rfl, ⟨rfl, fun _ _ => rfl⟩, rfl, trivial⟩ ?_ (by show _ < _; omega)
          refine ⟨by omega, fun i hi => ?_⟩
          rcases Nat.lt_or_ge i j with h | h
          · exact hj.2 i h
          · have : i = j := by omega
            subst this; exact hc4
      · have hjt : j = (l.getD k default).Contents.length := by simp only [decide_eq_false_iff_not] at hc3; omega
        have hf := findI_none (l.getD k default).Contents (uq u) (fun i hi => hj.2 i (by omega))
        refine good_run 2 (obs := []) (by kernel_rfl) trivial ?_
        refine good_leaveJ (by kernel_rfl) ?_
        refine good_run 7 (obs := [InK IntKind.i64 ((↑k : Int) + (1 : Int))]) (by kernel_rfl) (by (first | omega | assumption | exact ⟨rfl, trivial⟩ | simp only [AllP, inK_iff, roomOK_iff, decide_eq_true_eq, Bool.and_eq_true, Bool.or_eq_true, Bool.not_eq_true', decide_eq_false_iff_not, and_true, true_and]; (first | omega | (and_intros <;> intros <;> (try and_intros) <;> first | omega | assumption | exact trivial)))) ?_
        refine good_backJ (k + 1) [(↑k : Int) + (1 : Int) = (↑(k + (1 : Nat)) : Int), (↑(List.length l) : Int) = (↑(List.length l) : Int), List.length l = List.length l ∧ ∀ (i : Nat), i < List.length l → (fun i => Box.cells (List.getD l i default)) i = (fun i => Box.cells (List.getD l i default)) i, u = u] (by kernel_rfl) (by kernel_rfl) ⟨(by omega), rfl, ⟨rfl, fun _ _ => rfl⟩, rfl, trivial⟩ ?_ (by show _ < _; omega)
        refine ⟨by omega, fun i hi => ?_⟩
        rcases Nat.lt_or_ge i k with h | h
        · exact hk.2 i h
        · have : i = k := by omega
          subst this; exact hf
    · have hkl : k = l.length := by simp only [decide_eq_false_iff_not] at hc2; omega
      subst hkl
      have : whereB l u = (0, 0, false) := by
        rcases hw with ⟨h1, _⟩ | ⟨q, hq, h1, h2, h3⟩
        · rw [whereB, h1, if_pos (by simp)]
        · have := hk.2 q hq; omega
      rw [this]
      refine good_run 2 (obs := []) (by kernel_rfl) trivial ?_
      refine good_leaveJ (by kernel_rfl) ?_
      refine good_run 9 (obs := []) (by kernel_rfl) trivial ?_
      refine good_fin [(0 : Int) = (0 : Int), (0 : Int) = (0 : Int), false = false] (by kernel_rfl) ⟨rfl, rfl, rfl, trivial⟩
theorem eq41 : EqOK Try.prog 41 2 := eqOK_flat 5 (by decide) (by kernel_rfl) ⟨_, Try.underlying41⟩ (by kernel_rfl)
theorem content_ints (p q : Content) : ([p.Unit, p.Thick] = [q.Unit, q.Thick]) ↔ p = q := by
  constructor
  · intro h
    simp only [List.cons.injEq, and_true] at h
    cases p; cases q; simp_all
  · rintro rfl; rfl
theorem s25 (a b : List Box) : Spec Try.prog 25 [boxes a, boxes b] (.bool (decide (a = b))) := by
  refine spec_lenEl 0 rfl (hasBody_of_slim Try.func25 F25_ok) fun hlen hel => ?_
  refine spec_of_good mixed Try.func25 F25_ok (by kernel_rfl) ?_
  refine good_run 15 (obs := []) (by kernel_rfl) trivial ?_
  refine good_cond (!decide ((↑(List.length a) : Int) = (↑(List.length b) : Int))) (by kernel_rfl) (fun hc1 => ?_) (fun hc1 => ?_)
  · simp only [Bool.not_eq_true', decide_eq_false_iff_not] at hc1
    have : decide (a = b) = false := decide_eq_false fun e => hc1 (by rw [e])
    refine good_run 7 (obs := []) (by kernel_rfl) trivial ?_
    refine good_fin [false = decide (a = b)] (by kernel_rfl) ⟨?_, trivial⟩
    all_goals exact this.symm
  · simp only [Bool.not_eq_false', decide_eq_true_eq] at hc1
    have hl : a.length = b.length := by omega
    have heq := eq41
    refine good_run 10 (obs := []) (by kernel_rfl) trivial ?_
    refine good_loopJ (fun k : Nat => ⟨[(14, .sv (.int .i64 (k))), (13, LV.sv (SV.int IntKind.i64 (↑(List.length a) : Int))), (0, LV.sv (SV.lst (5 : Nat) (List.length a) fun i => Box.cells (List.getD a i default))), (1, LV.sv (SV.lst (5 : Nat) (List.length b) fun i => Box.cells (List.getD b i default)))], []⟩) (fun k => k ≤ a.length ∧ ∀ j, j < k → a.getD j default = b.getD j default) (fun k => a.length - k) (0) [(0 : Int) = (0 : Int), (↑(List.length a) : Int) = (↑(List.length a) : Int), List.length a = List.length a ∧ ∀ (i : Nat), i < List.length a → (fun i => Box.cells (List.getD a i default)) i = (fun i => Box.cells (List.getD a i default)) i, List.length b = List.length b ∧ ∀ (i : Nat), i < List.length b → (fun i => Box.cells (List.getD b i default)) i = (fun i => Box.cells (List.getD b i default)) i] (by kernel_rfl) (by kernel_rfl) ⟨rfl, rfl, ⟨rfl, fun _ _ => rfl⟩, ⟨rfl, fun _ _ => rfl⟩, trivial⟩ ⟨by omega, by omega⟩ ?_
    intro k hk
    refine good_run 6 (obs := []) (by kernel_rfl) trivial ?_
    refine good_cond (decide ((↑k : Int) < (↑(List.length a) : Int))) (by kernel_rfl) (fun hc2 => ?_) (fun hc2 => ?_)
    · have hlt : k < a.length := by simp only [decide_eq_true_eq] at hc2; omega
      have hcl := hel k 4 2 (a.getD k default).Contents.length _ hlt rfl
      refine good_run 79 (obs := [True → (5 : Nat) = (5 : Nat) ∧ (0 : Int) ≤ (↑k : Int) ∧ (↑k : Int) < (↑(List.length a) : Int), True → (5 : Nat) = (5 : Nat) ∧ (0 : Int) ≤ (↑k : Int) ∧ (↑k : Int) < (↑(List.length b) : Int), (!decide ((List.getD a k default).ID = (List.getD b k default).ID)) = false ∧ True → (5 : Nat) = (5 : Nat) ∧ (0 : Int) ≤ (↑k : Int) ∧ (↑k : Int) < (↑(List.length a) : Int), (!decide ((List.getD a k default).ID = (List.getD b k default).ID)) = false ∧ True → (5 : Nat) = (5 : Nat) ∧ (0 : Int) ≤ (↑k : Int) ∧ (↑k : Int) < (↑(List.length b) : Int), (!decide ((List.getD a k default).ID = (List.getD b k default).ID) || !decide ((List.getD a k default).Width = (List.getD b k default).Width)) = false ∧ True → (5 : Nat) = (5 : Nat) ∧ (0 : Int) ≤ (↑k : Int) ∧ (↑k : Int) < (↑(List.length a) : Int), (!decide ((List.getD a k default).ID = (List.getD b k default).ID) || !decide ((List.getD a k default).Width = (List.getD b k default).Width)) = false ∧ True → (5 : Nat) = (5 : Nat) ∧ (0 : Int) ≤ (↑k : Int) ∧ (↑k : Int) < (↑(List.length b) : Int), (!decide ((List.getD a k default).ID = (List.getD b k default).ID) || !decide ((List.getD a k default).Width = (List.getD b k default).Width) || !decide ((List.getD a k default).Room = (List.getD b k default).Room)) = false ∧ True → (5 : Nat) = (5 : Nat) ∧ (0 : Int) ≤ (↑k : Int) ∧ (↑k : Int) < (↑(List.length a) : Int), (!decide ((List.getD a k default).ID = (List.getD b k default).ID) || !decide ((List.getD a k default).Width = (List.getD b k default).Width) || !decide ((List.getD a k default).Room = (List.getD b k default).Room)) = false ∧ True → (5 : Nat) = (5 : Nat) ∧ (0 : Int) ≤ (↑k : Int) ∧ (↑k : Int) < (↑(List.length b) : Int), (!decide ((List.getD a k default).ID = (List.getD b k default).ID) || !decide ((List.getD a k default).Width = (List.getD b k default).Width) || !decide ((List.getD a k default).Room = (List.getD b k default).Room) || !decide ((List.getD a k default).Climate = (List.getD b k default).Climate)) = false ∧ True → (5 : Nat) = (5 : Nat) ∧ (0 : Int) ≤ (↑k : Int) ∧ (↑k : Int) < (↑(List.length a) : Int), (!decide ((List.getD a k default).ID = (List.getD b k default).ID) || !decide ((List.getD a k default).Width = (List.getD b k default).Width) || !decide ((List.getD a k default).Room = (List.getD b k default).Room) || !decide ((List.getD a k default).Climate = (List.getD b k default).Climate)) = false ∧ True → (5 : Nat) = (5 : Nat) ∧ (0 : Int) ≤ (↑k : Int) ∧ (↑k : Int) < (↑(List.length b) : Int)]) (by kernel_rfl) (by (first | omega | assumption | exact ⟨rfl, trivial⟩ | simp only [AllP, inK_iff, roomOK_iff, decide_eq_true_eq, Bool.and_eq_true, Bool.or_eq_true, Bool.not_eq_true', decide_eq_false_iff_not, and_true, true_and]; (first | omega | (and_intros <;> intros <;> (try and_intros) <;> first | omega | assumption | exact trivial)))) ?_
      refine good_cond (!decide ((List.getD a k default).ID = (List.getD b k default).ID) || !decide ((List.getD a k default).Width = (List.getD b k default).Width) || !decide ((List.getD a k default).Room = (List.getD b k default).Room) || !decide ((List.getD a k default).Climate = (List.getD b k default).Climate) || !decide ((↑(List.length (List.getD a k default).Contents) : Int) = (↑(List.length (List.getD b k default).Contents) : Int))) (by kernel_rfl) (fun hc3 => ?_) (fun hc3 => ?_)
      · have : decide (a = b) = false := decide_eq_false fun e => by
          subst e
          simp at hc3
        refine good_run 9 (obs := []) (by kernel_rfl) trivial ?_
        refine good_leaveJ (by kernel_rfl) ?_
        refine good_run 2 (obs := []) (by kernel_rfl) trivial ?_
        refine good_fin [false = decide (a = b)] (by kernel_rfl) ⟨?_, trivial⟩
        all_goals exact this.symm
      · simp only [Bool.or_eq_false_iff, Bool.not_eq_false', decide_eq_true_eq] at hc3
        obtain ⟨⟨⟨⟨e1, e2⟩, e3⟩, e4⟩, e5⟩ := hc3
        have hcc : (a.getD k default).Contents.length = (b.getD k default).Contents.length := by omega
        refine good_run 13 (obs := [(5 : Nat) = (5 : Nat) ∧ (0 : Int) ≤ (↑k : Int) ∧ (↑k : Int) < (↑(List.length a) : Int)]) (by kernel_rfl) (by (first | omega | assumption | exact ⟨rfl, trivial⟩ | simp only [AllP, inK_iff, roomOK_iff, decide_eq_true_eq, Bool.and_eq_true, Bool.or_eq_true, Bool.not_eq_true', decide_eq_false_iff_not, and_true, true_and]; (first | omega | (and_intros <;> intros <;> (try and_intros) <;> first | omega | assumption | exact trivial)))) ?_
        refine good_loopJ (fun j : Nat => ⟨[(88, .sv (.int .i64 (j))), (87, LV.sv (SV.int IntKind.i64 (↑(List.length (List.getD a k default).Contents) : Int))), (5, LV.sv (SV.int IntKind.i64 (↑k : Int))), (14, LV.sv (SV.int IntKind.i64 (↑k : Int))), (13, LV.sv (SV.int IntKind.i64 (↑(List.length a) : Int))), (0, LV.sv (SV.lst (5 : Nat) (List.length a) fun i => Box.cells (List.getD a i default))), (1, LV.sv (SV.lst (5 : Nat) (List.length b) fun i => Box.cells (List.getD b i default)))], []⟩) (fun j => j ≤ (a.getD k default).Contents.length ∧ ∀ i, i < j → (a.getD k default).Contents.getD i default = (b.getD k default).Contents.getD i default) (fun j => (a.getD k default).Contents.length - j) (0) [(0 : Int) = (0 : Int), (↑(List.length (List.getD a k default).Contents) : Int) = (↑(List.length (List.getD a k default).Contents) : Int), (↑k : Int) = (↑k : Int), (↑k : Int) = (↑k : Int), (↑(List.length a) : Int) = (↑(List.length a) : Int), List.length a = List.length a ∧ ∀ (i : Nat), i < List.length a → (fun i => Box.cells (List.getD a i default)) i = (fun i => Box.cells (List.getD a i default)) i, List.length b = List.length b ∧ ∀ (i : Nat), i < List.length b → (fun i => Box.cells (List.getD b i default)) i = (fun i => Box.cells (List.getD b i default)) i] (by kernel_rfl) (by kernel_rfl) ⟨rfl, rfl, rfl, rfl, rfl, ⟨rfl, fun _ _ => rfl⟩, ⟨rfl, fun _ _ => rfl⟩, trivial⟩ ⟨by omega, by omega⟩ ?_
        intro j hj
        refine good_run 6 (obs := []) (by kernel_rfl) trivial ?_
        refine good_cond (decide ((↑j : Int) < (↑(List.length (List.getD a k default).Contents) : Int))) (by kernel_rfl) (fun hc3 => ?_) (fun hc3 => ?_)
        · have hjt : j < (a.getD k default).Contents.length := by simp only [decide_eq_true_eq] at hc3; omega
          refine good_run 30 (obs := [True → (5 : Nat) = (5 : Nat) ∧ (0 : Int) ≤ (↑k : Int) ∧ (↑k : Int) < (↑(List.length a) : Int), True → (2 : Nat) = (2 : Nat) ∧ (0 : Int) ≤ (↑j : Int) ∧ (↑j : Int) < (↑(List.length (List.getD a k default).Contents) : Int), True → (0 : Nat) + (2 : Nat) ≤ (2 : Nat), True → (5 : Nat) = (5 : Nat) ∧ (0 : Int) ≤ (↑k : Int) ∧ (↑k : Int) < (↑(List.length b) : Int), True → (2 : Nat) = (2 : Nat) ∧ (0 : Int) ≤ (↑j : Int) ∧ (↑j : Int) < (↑(List.length (List.getD b k default).Contents) : Int), True → (0 : Nat) + (2 : Nat) ≤ (2 : Nat), True → EqOK Try.prog (41 : TypeId) (2 : Nat) ∧ (2 : Nat) = (2 : Nat)]) (by kernel_rfl) (by (first | omega | assumption | exact ⟨rfl, trivial⟩ | simp only [AllP, inK_iff, roomOK_iff, decide_eq_true_eq, Bool.and_eq_true, Bool.or_eq_true, Bool.not_eq_true', decide_eq_false_iff_not, and_true, true_and]; (first | omega | (and_intros <;> intros <;> (try and_intros) <;> first | omega | assumption | exact trivial)))) ?_
          refine good_cond (true ^^ decide ([(List.getD (List.getD a k default).Contents j default).Unit, (List.getD (List.getD a k default).Contents j default).Thick] = [(List.getD (List.getD b k default).Contents j default).Unit, (List.getD (List.getD b k default).Contents j default).Thick])) (by kernel_rfl) (fun hc4 => ?_) (fun hc4 => ?_)
          · simp only [Bool.true_xor, Bool.not_eq_true', decide_eq_false_iff_not, content_ints] at hc4
            have : decide (a = b) = false := decide_eq_false fun e => by
              subst e
              exact hc4 rfl
            refine good_run 8 (obs := []) (by kernel_rfl) trivial ?_
            refine good_leaveJ (by kernel_rfl) ?_
            refine good_run 3 (obs := []) (by kernel_rfl) trivial ?_
            refine good_leaveJ (by kernel_rfl) ?_
            refine good_run 2 (obs := []) (by kernel_rfl) trivial ?_
            refine good_fin [false = decide (a = b)] (by kernel_rfl) ⟨?_, trivial⟩
            all_goals exact this.symm
          · simp only [Bool.true_xor, Bool.not_eq_false', decide_eq_true_eq, content_ints] at hc4
            refine good_run 7 (obs := [InK IntKind.i64 ((↑j : Int) + (1 : Int))]) (by kernel_rfl) (by (first | omega | assumption | exact ⟨rfl, trivial⟩ | simp only [AllP, inK_iff, roomOK_iff, decide_eq_true_eq, Bool.and_eq_true, Bool.or_eq_true, Bool.not_eq_true', decide_eq_false_iff_not, and_true, true_and]; (first | omega | (and_intros <;> intros <;> (try and_intros) <;> first | omega | assumption | exact trivial)))) ?_
            refine good_backJ (j + 1) [(↑j : Int) + (1 : Int) = (↑(j + (1 : Nat)) : Int), (↑(List.length (List.getD a k default).Contents) : Int) = (↑(List.length (List.getD a k default).Contents) : Int), (↑k : Int) = (↑k : Int), (↑k : Int) = (↑k : Int), (↑(List.length a) : Int) = (↑(List.length a) : Int), List.length a = List.length a ∧ ∀ (i : Nat), i < List.length a → (fun i => Box.cells (List.getD a i default)) i = (fun i => Box.cells (List.getD a i default)) i, List.length b = List.length b ∧ ∀ (i : Nat), i < List.length b → (fun i => Box.cells (List.getD b i default)) i = (fun i => Box.cells (List.getD b i default)) i] (by kernel_rfl) (by kernel_rfl) ⟨(by omega), rfl, rfl, rfl, rfl, ⟨rfl, fun _ _ => rfl⟩, ⟨rfl, fun _ _ => rfl⟩, trivial⟩ ?_ (by show _ < _; omega)
            refine ⟨by omega, fun i hi => ?_⟩
            rcases Nat.lt_or_ge i j with h | h
            · exact hj.2 i h
            · have : i = j := by omega
              subst this; exact hc4
        · have hjt : j = (a.getD k default).Contents.length := by simp only [decide_eq_false_iff_not] at hc3; omega
          have hf := ext_getD _ _ hcc (fun i hi => hj.2 i (by omega))
          refine good_run 2 (obs := []) (by kernel_rfl) trivial ?_
          refine good_leaveJ (by kernel_rfl) ?_
          refine good_run 7 (obs := [InK IntKind.i64 ((↑k : Int) + (1 : Int))]) (by kernel_rfl) (by (first | omega | assumption | exact ⟨rfl, trivial⟩ | simp only [AllP, inK_iff, roomOK_iff, decide_eq_true_eq, Bool.and_eq_true, Bool.or_eq_true, Bool.not_eq_true', decide_eq_false_iff_not, and_true, true_and]; (first | omega | (and_intros <;> intros <;> (try and_intros) <;> first | omega | assumption | exact trivial)))) ?_
          refine good_backJ (k + 1) [(↑k : Int) + (1 : Int) = (↑(k + (1 : Nat)) : Int), (↑(List.length a) : Int) = (↑(List.length a) : Int), List.length a = List.length a ∧ ∀ (i : Nat), i < List.length a → (fun i => Box.cells (List.getD a i default)) i = (fun i => Box.cells (List.getD a i default)) i, List.length b = List.length b ∧ ∀ (i : Nat), i < List.length b → (fun i => Box.cells (List.getD b i default)) i = (fun i => Box.cells (List.getD b i default)) i] (by kernel_rfl) (by kernel_rfl) ⟨(by omega), rfl, ⟨rfl, fun _ _ => rfl⟩, ⟨rfl, fun _ _ => rfl⟩, trivial⟩ ?_ (by show _ < _; omega)
          refine ⟨by omega, fun i hi => ?_⟩
          rcases Nat.lt_or_ge i k with h | h
          · exact hk.2 i h
          · have : i = k := by omega
            subst this
            cases h1 : a.getD i default; cases h2 : b.getD i default
            rw [h1, h2] at e1 e2 e3 e4 hf
            simp_all
    · have hkl : k = a.length := by simp only [decide_eq_false_iff_not] at hc2; omega
      subst hkl
      have : decide (a = b) = true := decide_eq_true (ext_getD a b hl hk.2)
      refine good_run 2 (obs := []) (by kernel_rfl) trivial ?_
      refine good_leaveJ (by kernel_rfl) ?_
      refine good_run 7 (obs := []) (by kernel_rfl) trivial ?_
      refine good_fin [true = decide (a = b)] (by kernel_rfl) ⟨?_, trivial⟩
      all_goals exact this.symm
theorem s43 (l : List Content) (at' : Int) (c : Content) (h0 : 0 ≤ at') (h1 : at' ≤ l.length) (h2 : l.length ≤ 100000) : SpecOwn Try.prog 43 [conts l, .int .i64 at', c.sv] 41 2 (l.length + 1) fun k => ((l.insertIdx at'.toNat c).getD k default).cells := by
  refine specOwn_of_good mixed Try.func43 F43_ok (by kernel_rfl) ?_
  refine good_run 11 (obs := []) (by kernel_rfl) trivial ?_
  refine good_pick [1, 3] (by kernel_rfl) ⟨?_, ?_, trivial⟩
  refine good_own (c := True) (by kernel_rfl) (by kernel_rfl) (SVles.refl _) (s40 (List.length l) (fun i => Content.cells (List.getD l i default)) (by (first | omega | assumption | exact ⟨rfl, trivial⟩ | simp only [AllP, inK_iff, roomOK_iff, decide_eq_true_eq, Bool.and_eq_true, Bool.or_eq_true, Bool.not_eq_true', decide_eq_false_iff_not, and_true, true_and]; (first | omega | (and_intros <;> intros <;> (try and_intros) <;> first | omega | assumption | exact trivial))))) ?_
  refine good_run 8 (obs := [(0 : Nat) + (2 : Nat) ≤ (2 : Nat)]) (by kernel_rfl) (by (first | omega | assumption | exact ⟨rfl, trivial⟩ | simp only [AllP, inK_iff, roomOK_iff, decide_eq_true_eq, Bool.and_eq_true, Bool.or_eq_true, Bool.not_eq_true', decide_eq_false_iff_not, and_true, true_and]; (first | omega | (and_intros <;> intros <;> (try and_intros) <;> first | omega | assumption | exact trivial)))) ?_
  refine good_take (by kernel_rfl) (SVles.refl _) (SVles.refl _) (s55 (List.length l) (fun i => Content.cells (List.getD l i default)) (cutRows (2 : Nat) [SV.int IntKind.i64 c.Unit, SV.int IntKind.i64 c.Thick]) (at') (by (first | omega | assumption | exact ⟨rfl, trivial⟩ | simp only [AllP, inK_iff, roomOK_iff, decide_eq_true_eq, Bool.and_eq_true, Bool.or_eq_true, Bool.not_eq_true', decide_eq_false_iff_not, and_true, true_and]; (first | omega | (and_intros <;> intros <;> (try and_intros) <;> first | omega | assumption | exact trivial)))) (by (first | omega | assumption | exact ⟨rfl, trivial⟩ | simp only [AllP, inK_iff, roomOK_iff, decide_eq_true_eq, Bool.and_eq_true, Bool.or_eq_true, Bool.not_eq_true', decide_eq_false_iff_not, and_true, true_and]; (first | omega | (and_intros <;> intros <;> (try and_intros) <;> first | omega | assumption | exact trivial)))) (by (first | omega | assumption | exact ⟨rfl, trivial⟩ | simp only [AllP, inK_iff, roomOK_iff, decide_eq_true_eq, Bool.and_eq_true, Bool.or_eq_true, Bool.not_eq_true', decide_eq_false_iff_not, and_true, true_and]; (first | omega | (and_intros <;> intros <;> (try and_intros) <;> first | omega | assumption | exact trivial))))) ?_
  refine good_run 7 (obs := []) (by kernel_rfl) trivial ?_
  refine good_finOwn [List.length l + (1 : Nat) = List.length l + (1 : Nat) ∧ ∀ (j : Nat), j < List.length l + (1 : Nat) → insGet (Int.toNat at') (cutRows (2 : Nat) [SV.int IntKind.i64 c.Unit, SV.int IntKind.i64 c.Thick] (0 : Nat)) (fun i => Content.cells (List.getD l i default)) j = (fun k => Content.cells (List.getD (List.insertIdx l (Int.toNat at') c) k default)) j] (by kernel_rfl) ⟨?_, trivial⟩
  rotate_left 1
  refine good_run 2 (obs := [(0 : Nat) + (2 : Nat) ≤ (2 : Nat)]) (by kernel_rfl) (by (first | omega | assumption | exact ⟨rfl, trivial⟩ | simp only [AllP, inK_iff, roomOK_iff, decide_eq_true_eq, Bool.and_eq_true, Bool.or_eq_true, Bool.not_eq_true', decide_eq_false_iff_not, and_true, true_and]; (first | omega | (and_intros <;> intros <;> (try and_intros) <;> first | omega | assumption | exact trivial)))) ?_
  refine good_pick [1, 4] (by kernel_rfl) ⟨?_, ?_, trivial⟩
  refine good_own (c := True) (by kernel_rfl) (by kernel_rfl) (SVles.refl _) (s40 (List.length l) (fun i => Content.cells (List.getD l i default)) (by (first | omega | assumption | exact ⟨rfl, trivial⟩ | simp only [AllP, inK_iff, roomOK_iff, decide_eq_true_eq, Bool.and_eq_true, Bool.or_eq_true, Bool.not_eq_true', decide_eq_false_iff_not, and_true, true_and]; (first | omega | (and_intros <;> intros <;> (try and_intros) <;> first | omega | assumption | exact trivial))))) ?_
  refine good_run 5 (obs := []) (by kernel_rfl) trivial ?_
  refine good_take (by kernel_rfl) (SVles.refl _) (SVles.refl _) (s55 (List.length l) (fun i => Content.cells (List.getD l i default)) (cutRows (2 : Nat) [SV.int IntKind.i64 c.Unit, SV.int IntKind.i64 c.Thick]) (at') (by (first | omega | assumption | exact ⟨rfl, trivial⟩ | simp only [AllP, inK_iff, roomOK_iff, decide_eq_true_eq, Bool.and_eq_true, Bool.or_eq_true, Bool.not_eq_true', decide_eq_false_iff_not, and_true, true_and]; (first | omega | (and_intros <;> intros <;> (try and_intros) <;> first | omega | assumption | exact trivial)))) (by (first | omega | assumption | exact ⟨rfl, trivial⟩ | simp only [AllP, inK_iff, roomOK_iff, decide_eq_true_eq, Bool.and_eq_true, Bool.or_eq_true, Bool.not_eq_true', decide_eq_false_iff_not, and_true, true_and]; (first | omega | (and_intros <;> intros <;> (try and_intros) <;> first | omega | assumption | exact trivial)))) (by (first | omega | assumption | exact ⟨rfl, trivial⟩ | simp only [AllP, inK_iff, roomOK_iff, decide_eq_true_eq, Bool.and_eq_true, Bool.or_eq_true, Bool.not_eq_true', decide_eq_false_iff_not, and_true, true_and]; (first | omega | (and_intros <;> intros <;> (try and_intros) <;> first | omega | assumption | exact trivial))))) ?_
  refine good_run 7 (obs := []) (by kernel_rfl) trivial ?_
  refine good_finOwn [List.length l + (1 : Nat) = List.length l + (1 : Nat) ∧ ∀ (j : Nat), j < List.length l + (1 : Nat) → insGet (Int.toNat at') (cutRows (2 : Nat) [SV.int IntKind.i64 c.Unit, SV.int IntKind.i64 c.Thick] (0 : Nat)) (fun i => Content.cells (List.getD l i default)) j = (fun k => Content.cells (List.getD (List.insertIdx l (Int.toNat at') c) k default)) j] (by kernel_rfl) ⟨?_, trivial⟩
  rotate_left 1
  refine good_run 3 (obs := []) (by kernel_rfl) trivial ?_
  refine good_own (c := True) (by kernel_rfl) (by kernel_rfl) (SVles.refl _) (s40 (List.length l) (fun i => Content.cells (List.getD l i default)) (by (first | omega | assumption | exact ⟨rfl, trivial⟩ | simp only [AllP, inK_iff, roomOK_iff, decide_eq_true_eq, Bool.and_eq_true, Bool.or_eq_true, Bool.not_eq_true', decide_eq_false_iff_not, and_true, true_and]; (first | omega | (and_intros <;> intros <;> (try and_intros) <;> first | omega | assumption | exact trivial))))) ?_
  refine good_run 2 (obs := []) (by kernel_rfl) trivial ?_
  refine good_take (by kernel_rfl) (SVles.refl _) (SVles.refl _) (s55 (List.length l) (fun i => Content.cells (List.getD l i default)) (cutRows (2 : Nat) [SV.int IntKind.i64 c.Unit, SV.int IntKind.i64 c.Thick]) (at') (by (first | omega | assumption | exact ⟨rfl, trivial⟩ | simp only [AllP, inK_iff, roomOK_iff, decide_eq_true_eq, Bool.and_eq_true, Bool.or_eq_true, Bool.not_eq_true', decide_eq_false_iff_not, and_true, true_and]; (first | omega | (and_intros <;> intros <;> (try and_intros) <;> first | omega | assumption | exact trivial)))) (by (first | omega | assumption | exact ⟨rfl, trivial⟩ | simp only [AllP, inK_iff, roomOK_iff, decide_eq_true_eq, Bool.and_eq_true, Bool.or_eq_true, Bool.not_eq_true', decide_eq_false_iff_not, and_true, true_and]; (first | omega | (and_intros <;> intros <;> (try and_intros) <;> first | omega | assumption | exact trivial)))) (by (first | omega | assumption | exact ⟨rfl, trivial⟩ | simp only [AllP, inK_iff, roomOK_iff, decide_eq_true_eq, Bool.and_eq_true, Bool.or_eq_true, Bool.not_eq_true', decide_eq_false_iff_not, and_true, true_and]; (first | omega | (and_intros <;> intros <;> (try and_intros) <;> first | omega | assumption | exact trivial))))) ?_
  refine good_run 7 (obs := []) (by kernel_rfl) trivial ?_
  refine good_finOwn [List.length l + (1 : Nat) = List.length l + (1 : Nat) ∧ ∀ (j : Nat), j < List.length l + (1 : Nat) → insGet (Int.toNat at') (cutRows (2 : Nat) [SV.int IntKind.i64 c.Unit, SV.int IntKind.i64 c.Thick] (0 : Nat)) (fun i => Content.cells (List.getD l i default)) j = (fun k => Content.cells (List.getD (List.insertIdx l (Int.toNat at') c) k default)) j] (by kernel_rfl) ⟨?_, trivial⟩
  rotate_left 1
  all_goals exact ⟨rfl, fun k hk => insGet_list Content.cells default l at'.toNat c (by omega) k hk⟩
theorem s45 (l : List Content) (i : Int) (h0 : 0 ≤ i) (h1 : i < l.length) (h2 : l.length ≤ 100000) : SpecOwn Try.prog 45 [conts l, .int .i64 i] 41 2 (l.length - 1) fun k => ((l.eraseIdx i.toNat).getD k default).cells := by
  refine specOwn_of_good mixed Try.func45 F45_ok (by kernel_rfl) ?_
  have e : (i + 1).toNat - i.toNat = i.toNat + 1 - i.toNat := by omega
  refine good_run 8 (obs := []) (by kernel_rfl) trivial ?_
  refine good_own (c := True) (by kernel_rfl) (by kernel_rfl) (SVles.refl _) (s40 (List.length l) (fun i => Content.cells (List.getD l i default)) (by (first | omega | assumption | exact ⟨rfl, trivial⟩ | simp only [AllP, inK_iff, roomOK_iff, decide_eq_true_eq, Bool.and_eq_true, Bool.or_eq_true, Bool.not_eq_true', decide_eq_false_iff_not, and_true, true_and]; (first | omega | (and_intros <;> intros <;> (try and_intros) <;> first | omega | assumption | exact trivial))))) ?_
  refine good_run 3 (obs := [InK IntKind.i64 (i + (1 : Int))]) (by kernel_rfl) (by (first | omega | assumption | exact ⟨rfl, trivial⟩ | simp only [AllP, inK_iff, roomOK_iff, decide_eq_true_eq, Bool.and_eq_true, Bool.or_eq_true, Bool.not_eq_true', decide_eq_false_iff_not, and_true, true_and]; (first | omega | (and_intros <;> intros <;> (try and_intros) <;> first | omega | assumption | exact trivial)))) ?_
  refine good_take (by kernel_rfl) (SVles.refl _) (SVles.refl _) (s56 (List.length l) (fun i => Content.cells (List.getD l i default)) (i) (i + (1 : Int)) (by (first | omega | assumption | exact ⟨rfl, trivial⟩ | simp only [AllP, inK_iff, roomOK_iff, decide_eq_true_eq, Bool.and_eq_true, Bool.or_eq_true, Bool.not_eq_true', decide_eq_false_iff_not, and_true, true_and]; (first | omega | (and_intros <;> intros <;> (try and_intros) <;> first | omega | assumption | exact trivial)))) (by (first | omega | assumption | exact ⟨rfl, trivial⟩ | simp only [AllP, inK_iff, roomOK_iff, decide_eq_true_eq, Bool.and_eq_true, Bool.or_eq_true, Bool.not_eq_true', decide_eq_false_iff_not, and_true, true_and]; (first | omega | (and_intros <;> intros <;> (try and_intros) <;> first | omega | assumption | exact trivial)))) (by (first | omega | assumption | exact ⟨rfl, trivial⟩ | simp only [AllP, inK_iff, roomOK_iff, decide_eq_true_eq, Bool.and_eq_true, Bool.or_eq_true, Bool.not_eq_true', decide_eq_false_iff_not, and_true, true_and]; (first | omega | (and_intros <;> intros <;> (try and_intros) <;> first | omega | assumption | exact trivial))))) ?_
  refine good_run 4 (obs := []) (by kernel_rfl) trivial ?_
  refine good_finOwn [List.length l - (Int.toNat (i + (1 : Int)) - Int.toNat i) = List.length l - (1 : Nat) ∧ ∀ (j : Nat), j < List.length l - (1 : Nat) → (fun k => if k < Int.toNat i then Content.cells (List.getD l k default) else Content.cells (List.getD l (k + (Int.toNat (i + (1 : Int)) - Int.toNat i)) default)) j = (fun k => Content.cells (List.getD (List.eraseIdx l (Int.toNat i)) k default)) j] (by kernel_rfl) ⟨?_, trivial⟩
  all_goals (rw [e]; exact ⟨by omega, fun k hk => delGet_list Content.cells default l i.toNat (by omega) k hk⟩)
theorem s46 (l : List Box) (i : Int) (h0 : 0 ≤ i) (h1 : i < l.length) (h2 : l.length ≤ 100000) : SpecOwn Try.prog 46 [boxes l, .int .i64 i] 27 5 (l.length - 1) fun k => ((l.eraseIdx i.toNat).getD k default).cells := by
  refine specOwn_of_good mixed Try.func46 F46_ok (by kernel_rfl) ?_
  have e : (i + 1).toNat - i.toNat = i.toNat + 1 - i.toNat := by omega
  refine good_run 8 (obs := []) (by kernel_rfl) trivial ?_
  refine good_own (c := True) (by kernel_rfl) (by kernel_rfl) (SVles.refl _) (s54 (List.length l) (fun i => Box.cells (List.getD l i default)) (by (first | omega | assumption | exact ⟨rfl, trivial⟩ | simp only [AllP, inK_iff, roomOK_iff, decide_eq_true_eq, Bool.and_eq_true, Bool.or_eq_true, Bool.not_eq_true', decide_eq_false_iff_not, and_true, true_and]; (first | omega | (and_intros <;> intros <;> (try and_intros) <;> first | omega | assumption | exact trivial))))) ?_
  refine good_run 3 (obs := [InK IntKind.i64 (i + (1 : Int))]) (by kernel_rfl) (by (first | omega | assumption | exact ⟨rfl, trivial⟩ | simp only [AllP, inK_iff, roomOK_iff, decide_eq_true_eq, Bool.and_eq_true, Bool.or_eq_true, Bool.not_eq_true', decide_eq_false_iff_not, and_true, true_and]; (first | omega | (and_intros <;> intros <;> (try and_intros) <;> first | omega | assumption | exact trivial)))) ?_
  refine good_take (by kernel_rfl) (SVles.refl _) (SVles.refl _) (s57 (List.length l) (fun i => Box.cells (List.getD l i default)) (i) (i + (1 : Int)) (by (first | omega | assumption | exact ⟨rfl, trivial⟩ | simp only [AllP, inK_iff, roomOK_iff, decide_eq_true_eq, Bool.and_eq_true, Bool.or_eq_true, Bool.not_eq_true', decide_eq_false_iff_not, and_true, true_and]; (first | omega | (and_intros <;> intros <;> (try and_intros) <;> first | omega | assumption | exact trivial)))) (by (first | omega | assumption | exact ⟨rfl, trivial⟩ | simp only [AllP, inK_iff, roomOK_iff, decide_eq_true_eq, Bool.and_eq_true, Bool.or_eq_true, Bool.not_eq_true', decide_eq_false_iff_not, and_true, true_and]; (first | omega | (and_intros <;> intros <;> (try and_intros) <;> first | omega | assumption | exact trivial)))) (by (first | omega | assumption | exact ⟨rfl, trivial⟩ | simp only [AllP, inK_iff, roomOK_iff, decide_eq_true_eq, Bool.and_eq_true, Bool.or_eq_true, Bool.not_eq_true', decide_eq_false_iff_not, and_true, true_and]; (first | omega | (and_intros <;> intros <;> (try and_intros) <;> first | omega | assumption | exact trivial))))) ?_
  refine good_run 4 (obs := []) (by kernel_rfl) trivial ?_
  refine good_finOwn [List.length l - (Int.toNat (i + (1 : Int)) - Int.toNat i) = List.length l - (1 : Nat) ∧ ∀ (j : Nat), j < List.length l - (1 : Nat) → (fun k => if k < Int.toNat i then Box.cells (List.getD l k default) else Box.cells (List.getD l (k + (Int.toNat (i + (1 : Int)) - Int.toNat i)) default)) j = (fun k => Box.cells (List.getD (List.eraseIdx l (Int.toNat i)) k default)) j] (by kernel_rfl) ⟨?_, trivial⟩
  all_goals (rw [e]; exact ⟨by omega, fun k hk => delGet_list Box.cells default l i.toNat (by omega) k hk⟩)
def exBox : Box := ⟨3, 100, 90, 0, [⟨7, 40⟩, ⟨8, 20⟩]⟩
end Go.Sx.T
