/- Contracts of functions of the program, each proved by running its code symbolically (CB). -/
import Derived.Test.YteecckjnbeambaaCA
namespace Go.Sx.T
open Go Go.Proofs Go.Sx
set_option maxRecDepth 100000
set_option maxHeartbeats 4000000
set_option linter.unusedVariables false
set_option linter.unusedSimpArgs false
/-- Where a box is behind some moves. -/
def lastP (l : List Move) (box : Int) : Place := l.foldl (fun p m => if m.Box = box then m.To else p) ⟨0, 0⟩
def dayL (l : List Move) : Int := l.foldl (fun _ m => m.Day) 0
def keysL (l : List Move) : List Int := l.foldl (fun ks m => putKey ks m.Box) []
def okMove (m : Move) : Bool := okDay m.Day && okId m.Box && placed m.From && placed m.To
/-- The error of a move behind others. -/
def formE (l : List Move) (m : Move) : Int :=
  if okMove m = false then 2 else if m.From = m.To then 1 else if m.Day < dayL l then 5 else if lastP l m.Box ≠ m.From then 10 else 0
def zP : Value := .agg #[.int .i64 0, .int .i64 0]
def mapL (l : List Move) : Blk := .map zP (keysL l) fun k => (lastP l k).sv
def cellsL (v : Value) (l : List Move) : Blk := .cells 70 true [.val v, .int .i64 (dayL l)]
def ledger (us : Nat → Value) (l : List Move) : List Blk := [cellsL (us 1) l, mapL l]
theorem lastP_snoc (l : List Move) (m : Move) (k : Int) : lastP (l ++ [m]) k = if m.Box = k then m.To else lastP l k := by simp [lastP]
theorem dayL_snoc (l : List Move) (m : Move) : dayL (l ++ [m]) = m.Day := by simp [dayL]
theorem keysL_snoc (l : List Move) (m : Move) : keysL (l ++ [m]) = putKey (keysL l) m.Box := by simp [keysL]
def behind (l : List Move) (m : Move) : List Move := if formE l m = 0 then l ++ [m] else l
theorem mp68 : mapOf Try.prog 68 = some zP := by kernel_rfl
theorem place_ints (p q : Place) : ([p.Kind, p.Of] = [q.Kind, q.Of]) ↔ p = q := by
  constructor
  · intro h
    simp only [List.cons.injEq, and_true] at h
    cases p; cases q; simp_all
  · intro h; rw [h]
theorem s35x (us : Nat → Value) (l : List Move) (m : Move) : SpecX Try.prog 35 us [.ptr 0 0, .sv m.sv] (ledger us l) (fun o => o = ⟨[.sv (.int .i64 (formE l m))], ledger us (behind l m), [(0, us 0), (1, us 1)]⟩) := by
  refine specX_of_good mixed Try.func35 F35_ok (by kernel_rfl) (by kernel_rfl) (by kernel_rfl) ?_
  have heq := eq24
  have hmp := mp68
  refine good_run 12 (obs := []) (by kernel_rfl) trivial ?_
  refine good_call (c := True) (by kernel_rfl) (fun _ => SVles.refl _) (fun _ => s38 (m.Day)) (by kernel_rfl) ?_
  refine good_run 5 (obs := []) (by kernel_rfl) trivial ?_
  refine good_call (c := (!okDay m.Day) = false ∧ True) (by kernel_rfl) (fun _ => SVles.refl _) (fun _ => s37 (m.Box)) (by kernel_rfl) ?_
  refine good_run 7 (obs := [(!okDay m.Day || !okId m.Box) = false ∧ True → (2 : Nat) + (2 : Nat) ≤ (6 : Nat)]) (by kernel_rfl) (by (first | omega | assumption | exact ⟨rfl, trivial⟩ | exact ⟨rfl, rfl, trivial⟩ | exact ⟨rfl, rfl, rfl, rfl, rfl, trivial⟩ | simp only [AllP, inK_iff, roomOK_iff, decide_eq_true_eq, Bool.and_eq_true, Bool.or_eq_true, Bool.not_eq_true', decide_eq_false_iff_not, and_true, true_and]; (first | omega | (and_intros <;> intros <;> (try and_intros) <;> first | omega | assumption | exact trivial)))) ?_
  refine good_call (c := (!okDay m.Day || !okId m.Box) = false ∧ True) (by kernel_rfl) (fun _ => SVles.refl _) (fun _ => s42 (m.From.Kind) (m.From.Of)) (by kernel_rfl) ?_
  refine good_run 7 (obs := [(!okDay m.Day || !okId m.Box || !placed { Kind := m.From.Kind, Of := m.From.Of }) = false ∧ True → (4 : Nat) + (2 : Nat) ≤ (6 : Nat)]) (by kernel_rfl) (by (first | omega | assumption | exact ⟨rfl, trivial⟩ | exact ⟨rfl, rfl, trivial⟩ | exact ⟨rfl, rfl, rfl, rfl, rfl, trivial⟩ | simp only [AllP, inK_iff, roomOK_iff, decide_eq_true_eq, Bool.and_eq_true, Bool.or_eq_true, Bool.not_eq_true', decide_eq_false_iff_not, and_true, true_and]; (first | omega | (and_intros <;> intros <;> (try and_intros) <;> first | omega | assumption | exact trivial)))) ?_
  refine good_call (c := (!okDay m.Day || !okId m.Box || !placed { Kind := m.From.Kind, Of := m.From.Of }) = false ∧ True) (by kernel_rfl) (fun _ => SVles.refl _) (fun _ => s42 (m.To.Kind) (m.To.Of)) (by kernel_rfl) ?_
  refine good_run 6 (obs := []) (by kernel_rfl) trivial ?_
  refine good_cond (!okDay m.Day || !okId m.Box || !placed { Kind := m.From.Kind, Of := m.From.Of } || !placed { Kind := m.To.Kind, Of := m.To.Of }) (by kernel_rfl) (fun hc1 => ?_) (fun hc1 => ?_)
  · have e : formE l m = 2 := by
      have : okMove m = false := by
        simp only [Bool.or_eq_true, Bool.not_eq_true'] at hc1
        unfold okMove
        rcases hc1 with ((h | h) | h) | h <;> simp [h]
      rw [formE, if_pos this]
    have e2 : behind l m = l := by rw [behind, if_neg (by rw [e]; decide)]
    rw [e, e2]
    refine good_run 8 (obs := []) (by kernel_rfl) trivial ?_
    refine good_finX (⟨[.sv (.int .i64 2)], ledger us l, [(0, us 0), (1, us 1)]⟩) (rfl) [SVle (SV.val (us (1 : Nat))) (SV.val (us (1 : Nat))), dayL l = dayL l, zP = zP, keysL l = keysL l ∧ ∀ (k : Int), (fun k => Place.sv (lastP l k)) k = (fun k => Place.sv (lastP l k)) k, (2 : Int) = (2 : Int), us (nat_lit 0) = ((0 : Nat), us (0 : Nat)).snd, us (List.length [mapL l]) = ((1 : Nat), us (1 : Nat)).snd] (by kernel_rfl) ⟨SVle.refl _, rfl, rfl, ⟨rfl, fun _ => rfl⟩, rfl, rfl, ?_, trivial⟩
    rfl
  · have hok : okMove m = true := by
      simp only [Bool.or_eq_false_iff, Bool.not_eq_false'] at hc1
      unfold okMove
      simp [hc1]
    refine good_run 10 (obs := [(2 : Nat) + (2 : Nat) ≤ (6 : Nat), (4 : Nat) + (2 : Nat) ≤ (6 : Nat), EqOK Try.prog (24 : TypeId) (2 : Nat) ∧ (2 : Nat) = (2 : Nat)]) (by kernel_rfl) (by (first | omega | assumption | exact ⟨rfl, trivial⟩ | exact ⟨rfl, rfl, trivial⟩ | exact ⟨rfl, rfl, rfl, rfl, rfl, trivial⟩ | simp only [AllP, inK_iff, roomOK_iff, decide_eq_true_eq, Bool.and_eq_true, Bool.or_eq_true, Bool.not_eq_true', decide_eq_false_iff_not, and_true, true_and]; (first | omega | (and_intros <;> intros <;> (try and_intros) <;> first | omega | assumption | exact trivial)))) ?_
    refine good_cond (false ^^ decide ([m.From.Kind, m.From.Of] = [m.To.Kind, m.To.Of])) (by kernel_rfl) (fun hc2 => ?_) (fun hc2 => ?_)
    · have hft : m.From = m.To := (place_ints _ _).1 (by simpa using hc2)
      have e : formE l m = 1 := by rw [formE, if_neg (by rw [hok]; decide), if_pos hft]
      have e2 : behind l m = l := by rw [behind, if_neg (by rw [e]; decide)]
      rw [e, e2]
      refine good_run 8 (obs := []) (by kernel_rfl) trivial ?_
      refine good_finX (⟨[.sv (.int .i64 1)], ledger us l, [(0, us 0), (1, us 1)]⟩) (rfl) [SVle (SV.val (us (1 : Nat))) (SV.val (us (1 : Nat))), dayL l = dayL l, zP = zP, keysL l = keysL l ∧ ∀ (k : Int), (fun k => Place.sv (lastP l k)) k = (fun k => Place.sv (lastP l k)) k, (1 : Int) = (1 : Int), us (nat_lit 0) = ((0 : Nat), us (0 : Nat)).snd, us (List.length [mapL l]) = ((1 : Nat), us (1 : Nat)).snd] (by kernel_rfl) ⟨SVle.refl _, rfl, rfl, ⟨rfl, fun _ => rfl⟩, rfl, rfl, ?_, trivial⟩
      rfl
    · have hft : m.From ≠ m.To := fun h => by rw [h] at hc2; simp at hc2
      refine good_run 4 (obs := []) (by kernel_rfl) trivial ?_
      refine good_all [0, 1, 3, 4, 5, 6, 7, 8, 9, 10, 11, 12, 13, 14, 15, 16, 17, 18, 19, 20, 21, 22, 23, 24, 25, 26, 27, 28, 29, 30, 31, 32, 33, 34, 35, 36, 37, 38, 39, 40, 41, 2000000, 2000001] 10 [] (by kernel_rfl) trivial ?_
      refine good_cond (decide (m.Day < dayL l)) (by kernel_rfl) (fun hc3 => ?_) (fun hc3 => ?_)
      · simp only [decide_eq_true_eq] at hc3
        have e : formE l m = 5 := by rw [formE, if_neg (by rw [hok]; decide), if_neg hft, if_pos hc3]
        have e2 : behind l m = l := by rw [behind, if_neg (by rw [e]; decide)]
        rw [e, e2]
        refine good_run 8 (obs := []) (by kernel_rfl) trivial ?_
        refine good_finX (⟨[.sv (.int .i64 5)], ledger us l, [(0, us 0), (1, us 1)]⟩) (rfl) [SVle (SV.val (us (1 : Nat))) (SV.val (us (1 : Nat))), dayL l = dayL l, zP = zP, keysL l = keysL l ∧ ∀ (k : Int), (fun k => Place.sv (lastP l k)) k = (fun k => Place.sv (lastP l k)) k, (5 : Int) = (5 : Int), us (nat_lit 0) = ((0 : Nat), us (0 : Nat)).snd, us (List.length [mapL l]) = ((1 : Nat), us (1 : Nat)).snd] (by kernel_rfl) ⟨SVle.refl _, rfl, rfl, ⟨rfl, fun _ => rfl⟩, rfl, rfl, ?_, trivial⟩
        rfl
      · simp only [decide_eq_false_iff_not] at hc3
        refine good_run 4 (obs := []) (by kernel_rfl) trivial ?_
        refine good_set [0, 3, 42, 43, 44, 45, 46, 47, 48, 49, 50, 51, 52, 2000000, 2000001] [] [us (List.length [mapL l]) = us (1 : Nat), zP = Value.agg { toList := [Value.int IntKind.i64 (Int.ofNat (0 : Nat)), Value.int IntKind.i64 (Int.ofNat (0 : Nat))] }, (2 : Nat) + (2 : Nat) ≤ (6 : Nat), EqOK Try.prog (24 : TypeId) (2 : Nat) ∧ (2 : Nat) = (2 : Nat)] (by kernel_rfl) ?_ ?_
        · exact ⟨rfl, rfl, by omega, ⟨heq, rfl⟩, trivial⟩
        refine good_run 1 (obs := []) (by kernel_rfl) trivial ?_
        refine good_cond (true ^^ decide ([(lastP l m.Box).Kind, (lastP l m.Box).Of] = [m.From.Kind, m.From.Of])) (by kernel_rfl) (fun hc4 => ?_) (fun hc4 => ?_)
        · have hls : lastP l m.Box ≠ m.From := fun h => by rw [h] at hc4; simp at hc4
          have e : formE l m = 10 := by rw [formE, if_neg (by rw [hok]; decide), if_neg hft, if_neg hc3, if_pos hls]
          have e2 : behind l m = l := by rw [behind, if_neg (by rw [e]; decide)]
          rw [e, e2]
          refine good_run 8 (obs := []) (by kernel_rfl) trivial ?_
          refine good_finX (⟨[.sv (.int .i64 10)], ledger us l, [(0, us 0), (1, us 1)]⟩) (rfl) [SVle (SV.val (us (1 : Nat))) (SV.val (us (1 : Nat))), dayL l = dayL l, zP = zP, keysL l = keysL l ∧ ∀ (k : Int), (fun k => Place.sv (lastP l k)) k = (fun k => Place.sv (lastP l k)) k, (10 : Int) = (10 : Int), us (nat_lit 0) = ((0 : Nat), us (0 : Nat)).snd, us (List.length [mapL l]) = ((1 : Nat), us (1 : Nat)).snd] (by kernel_rfl) ⟨SVle.refl _, rfl, rfl, ⟨rfl, fun _ => rfl⟩, rfl, rfl, ?_, trivial⟩
          rfl
        · have hls : lastP l m.Box = m.From := (place_ints _ _).1 (by simpa using hc4)
          have e : formE l m = 0 := by rw [formE, if_neg (by rw [hok]; decide), if_neg hft, if_neg hc3, if_neg (fun h => h hls)]
          have e2 : behind l m = l ++ [m] := by rw [behind, if_pos e]
          rw [e, e2]
          refine good_run 4 (obs := []) (by kernel_rfl) trivial ?_
          refine good_stamp 1 (z := zP) (ks := keysL l) (get := fun k => Place.sv (lastP l k)) (m.Box) (by kernel_rfl) (fun s => ?_)
          refine good_run 3 (obs := []) (by kernel_rfl) trivial ?_
          refine good_set [0, 3, 53, 54, 55, 56, 57, 58, 59, 60, 61, 62, 63, 64, 65, 66, 67, 2000000, 2000001] [] [(4 : Nat) + (2 : Nat) ≤ (6 : Nat), us (List.length [mapL l]) = us (1 : Nat), m.Box = m.Box, mapOf Try.prog (68 : TypeId) = some zP, us (List.length [mapL l]) = us (1 : Nat), s = s, (1 : Nat) = (1 : Nat) ∧ (1 : Nat) + (1 : Nat) ≤ (2 : Nat)] (by kernel_rfl) ?_ ?_
          · exact ⟨by omega, rfl, rfl, hmp, rfl, rfl, by omega, trivial⟩
          refine good_run 7 (obs := []) (by kernel_rfl) trivial ?_
          refine good_finX (⟨[.sv (.int .i64 0)], ledger us (l ++ [m]), [(0, us 0), (1, us 1)]⟩) (rfl) [SVle (SV.val (us (1 : Nat))) (SV.val (us (1 : Nat))), m.Day = dayL (l ++ [m]), zP = zP, putKey (keysL l) m.Box = keysL (l ++ [m]) ∧ ∀ (k : Int), putGet m.Box (SV.agg [SV.int IntKind.i64 m.To.Kind, SV.int IntKind.i64 m.To.Of]) (fun k => Place.sv (lastP l k)) k = (fun k => Place.sv (lastP (l ++ [m]) k)) k, (0 : Int) = (0 : Int), us (nat_lit 0) = ((0 : Nat), us (0 : Nat)).snd, us (List.length [mapL l]) = ((1 : Nat), us (1 : Nat)).snd] (by kernel_rfl) ⟨SVle.refl _, ?_, rfl, ?_, rfl, rfl, ?_, trivial⟩
          · rw [dayL_snoc]
          · refine ⟨by rw [keysL_snoc], fun k => ?_⟩
            show putGet m.Box m.To.sv (fun k => (lastP l k).sv) k = (lastP (l ++ [m]) k).sv
            rw [lastP_snoc]
            unfold putGet
            by_cases hk : k = m.Box
            · rw [if_pos hk, if_pos hk.symm]
            · rw [if_neg hk, if_neg (Ne.symm hk)]
          · rfl
end Go.Sx.T
