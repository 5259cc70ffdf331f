/- Contracts of functions of the program, each proved by running its code symbolically (CG). -/
import Derived.Test.YteecckjnbeambaaCF
namespace Go.Sx.T
open Go Go.Proofs Go.Sx
set_option maxRecDepth 100000
set_option maxHeartbeats 4000000
set_option linter.unusedVariables false
set_option linter.unusedSimpArgs false
def untilL (l : List Move) (day : Int) : List Move := l.takeWhile fun m => decide (m.Day ≤ day)
def histL (l : List Move) (box : Int) : List Move := l.filter fun m => decide (m.Box = box)
theorem checkL_iff (l : List Move) : checkL l = 0 ↔ l.length ≤ 1024 ∧ ∀ k, k < l.length → errAt l k = 0 := by
  unfold checkL
  by_cases h : 1024 < l.length
  · rw [if_pos h]
    exact ⟨fun h => (by cases h), fun h' => (by omega)⟩
  · rw [if_neg h, errFrom_zero']
    exact ⟨fun h' => ⟨by omega, h'⟩, fun h' => h'.2⟩
theorem checkL_take (l : List Move) (n : Nat) (h : checkL l = 0) : checkL (l.take n) = 0 := by
  rw [checkL_iff] at h ⊢
  have hl := List.length_take_le n l
  have hl' := List.length_take_le' n l
  refine ⟨by omega, fun k hk => ?_⟩
  have := h.2 k (by omega)
  unfold errAt at this ⊢
  have hkn : k < n := by rw [List.length_take] at hk; omega
  rw [List.take_take, Nat.min_eq_left (by omega), getD_take l n k hkn]
  exact this
structure OKMove (l : List Move) (m : Move) : Prop where
  ok : okMove m = true
  ne : m.From ≠ m.To
  day : dayL l ≤ m.Day
  last : lastP l m.Box = m.From
theorem formE_zero (l : List Move) (m : Move) : formE l m = 0 ↔ OKMove l m := by
  unfold formE
  constructor
  · intro h
    split at h
    · cases h
    · split at h
      · cases h
      · split at h
        · cases h
        · split at h
          · cases h
          · rename_i h1 h2 h3 h4
            exact ⟨by simpa using h1, h2, by omega, by simpa using h4⟩
  · intro h
    rw [if_neg (by rw [h.ok]; decide), if_neg h.ne, if_neg (by have := h.day; omega), if_neg (by simp [h.last])]
theorem dayL_take (l : List Move) (k : Nat) (hk : k < l.length) : dayL (l.take (k + 1)) = (l.getD k default).Day := by
  rw [take_snoc l default k hk, dayL_snoc]
theorem checkL_at {l : List Move} (h : checkL l = 0) {k : Nat} (hk : k < l.length) : OKMove (l.take k) (l.getD k default) := (formE_zero _ _).1 (((checkL_iff l).1 h).2 k hk)
theorem days_le {l : List Move} (h : checkL l = 0) : ∀ (i j : Nat), i ≤ j → j < l.length → (l.getD i default).Day ≤ (l.getD j default).Day := by
  intro i j hij
  induction j with
  | zero => intro _; have : i = 0 := by omega
            subst this; exact Int.le_refl _
  | succ j ih =>
    intro hj
    by_cases e : i = j + 1
    · subst e; exact Int.le_refl _
    · have h1 := ih (by omega) (by omega)
      have h2 := (checkL_at h hj).day
      rw [dayL_take l j (by omega)] at h2
      omega
/-- How many moves there are up to a day. -/
theorem until_len (l : List Move) (d : Int) : untilL l d = l.take (untilL l d).length := by
  unfold untilL
  exact (List.prefix_iff_eq_take.1 (List.takeWhile_prefix _))
theorem until_le (l : List Move) (d : Int) : (untilL l d).length ≤ l.length := by
  have := congrArg List.length (until_len l d)
  rw [List.length_take] at this
  omega
theorem until_below (l : List Move) (d : Int) : ∀ j, j < (untilL l d).length → (l.getD j default).Day ≤ d := by
  intro j hj
  have h1 : (untilL l d).getD j default = l.getD j default := by
    conv => lhs; rw [until_len l d]
    rw [getD_take _ _ _ hj]
  rw [← h1]
  have h2 := getD_mem (untilL l d) default j hj
  have h3 := List.all_eq_true.1 (List.all_takeWhile (p := fun m : Move => decide (m.Day ≤ d)) (l := l)) _ h2
  simpa using h3
theorem until_stop (l : List Move) (d : Int) (h : (untilL l d).length < l.length) : d < (l.getD (untilL l d).length default).Day := by
  unfold untilL at h ⊢
  have : (l.takeWhile fun m => decide (m.Day ≤ d)) ++ (l.dropWhile fun m => decide (m.Day ≤ d)) = l := List.takeWhile_append_dropWhile
  rcases hd : l.dropWhile (fun m => decide (m.Day ≤ d)) with _ | ⟨x, r⟩
  · rw [hd, List.append_nil] at this
    rw [this] at h
    omega
  · have hx : ¬ (x.Day ≤ d) := by
      have h0 : l.dropWhile (fun m => decide (m.Day ≤ d)) ≠ [] := by rw [hd]; simp
      have h1 := List.head_dropWhile_not (fun m : Move => decide (m.Day ≤ d)) h0
      simp only [hd, List.head_cons] at h1
      simpa using h1
    have e : l.getD (l.takeWhile fun m => decide (m.Day ≤ d)).length default = x := by
      rw [hd] at this
      generalize l.takeWhile (fun m => decide (m.Day ≤ d)) = a at this
      rw [← this, getD_append_right _ _ _ (Nat.le_refl _), Nat.sub_self]
      rfl
    rw [e]; omega
theorem until_above {l : List Move} (hc : checkL l = 0) (d : Int) : ∀ j, (untilL l d).length ≤ j → j < l.length → d < (l.getD j default).Day := by
  intro j h1 h2
  have h3 := until_stop l d (by omega)
  have h4 := days_le hc _ j h1 h2
  omega
theorem s55 (m : Move) (b : Int) : Spec Try.prog 55 [m.sv, .ref [.int .i64 b] 0] (.bool (!decide (m.Box = b))) := by
  refine spec_of_good mixed Try.func55 F55_ok (by kernel_rfl) ?_
  refine good_run 16 (obs := []) (by kernel_rfl) trivial ?_
  refine good_fin [(!decide (m.Box = b)) = !decide (m.Box = b)] (by kernel_rfl) ⟨rfl, trivial⟩
theorem s45 (l : List Move) (b : Int) (hl : l.length ≤ 100000) : SpecOwn Try.prog 45 [moves l, .int .i64 b] 26 6 (histL l b).length fun i => ((histL l b).getD i default).cells := by
  refine specOwn_of_good mixed Try.func45 F45_ok (by kernel_rfl) ?_
  refine good_run 9 (obs := []) (by kernel_rfl) trivial ?_
  refine good_own (c := True) (by kernel_rfl) (by kernel_rfl) (SVles.refl _) (s13 (List.length l) (fun i => Move.cells (List.getD l i default)) (by (first | omega | assumption | exact ⟨rfl, trivial⟩ | exact ⟨rfl, rfl, trivial⟩ | exact ⟨rfl, rfl, rfl, rfl, rfl, trivial⟩ | simp only [AllP, inK_iff, roomOK_iff, decide_eq_true_eq, Bool.and_eq_true, Bool.or_eq_true, Bool.not_eq_true', decide_eq_false_iff_not, and_true, true_and]; (first | omega | (and_intros <;> intros <;> (try and_intros) <;> first | omega | assumption | exact trivial))))) ?_
  refine good_run 1 (obs := []) (by kernel_rfl) trivial ?_
  refine good_take (by kernel_rfl) (SVles.refl _) (SVles.refl _) (s54 l 55 _ (fun m => !decide (m.Box = b)) (fun m => s55 m b) hl) ?_
  refine good_run 4 (obs := []) (by kernel_rfl) trivial ?_
  refine good_finOwn [List.length (List.filter (fun p => !!decide (p.Box = b)) l) = List.length (histL l b) ∧ ∀ (j : Nat), j < List.length (histL l b) → (fun i => Move.cells (List.getD (List.filter (fun p => !!decide (p.Box = b)) l) i default)) j = (fun i => Move.cells (List.getD (histL l b) i default)) j] (by kernel_rfl) ⟨?_, trivial⟩
  have e : (l.filter fun p => !(!decide (p.Box = b))) = histL l b := by unfold histL; simp
  rw [e]
  exact ⟨rfl, fun _ _ => rfl⟩
theorem s39x (l : List Move) (d : Int) (hc : checkL l = 0) : SpecX Try.prog 39 (fun _ => undef) [.sv (moves l), .sv (.int .i64 d)] [] (fun o => ∃ b c, o = ⟨[.sv (.val (.pointer (some ⟨c, 0, none⟩)))], [mapL (untilL l d), cellsL (.map (some b)) (untilL l d)], [(0, .map (some b)), (1, .pointer (some ⟨c, 0, none⟩))]⟩) := by
  refine specX_of_good mixed Try.func39 F39_ok (by kernel_rfl) (by kernel_rfl) (by kernel_rfl) ?_
  have hll := ((checkL_iff l).1 hc).1
  refine good_run 9 (obs := []) (by kernel_rfl) trivial ?_
  refine good_call (c := True) (by kernel_rfl) (fun _ => SVles.refl _) (fun _ => s50 l d 51 [] (cmpDay d) (fun p => s51 p d) (untilL l d).length (until_le l d) (by omega) (fun j hj => by rw [cmpDay, if_pos (until_below l d j hj)]; decide) (fun j h1 h2 => by rw [cmpDay, if_neg (by have := until_above hc d j h1 h2; omega)]; decide)) (by kernel_rfl) ?_
  have hle := until_le l d
  refine good_run 12 (obs := [(6 : Nat) = (6 : Nat) ∧ (0 : Int) ≤ (0 : Int) ∧ (0 : Int) ≤ (↑(List.length (untilL l d)) : Int) ∧ (↑(List.length (untilL l d)) : Int) ≤ (↑(List.length l) : Int)]) (by kernel_rfl) (by (first | omega | assumption | exact ⟨rfl, trivial⟩ | exact ⟨rfl, rfl, trivial⟩ | exact ⟨rfl, rfl, rfl, rfl, rfl, trivial⟩ | simp only [AllP, inK_iff, roomOK_iff, decide_eq_true_eq, Bool.and_eq_true, Bool.or_eq_true, Bool.not_eq_true', decide_eq_false_iff_not, and_true, true_and]; (first | omega | (and_intros <;> intros <;> (try and_intros) <;> first | omega | assumption | exact trivial)))) ?_
  have e := until_len l d
  refine good_callx [] [] (s34x (untilL l d)) (by kernel_rfl) (by kernel_rfl) [] [List.length (untilL l d) - (0 : Nat) = List.length (untilL l d) ∧ ∀ (i : Nat), i < List.length (untilL l d) - (0 : Nat) → (fun i => (fun i => Move.cells (List.getD l i default)) (Int.toNat (0 : Int) + i)) i = (fun i => Move.cells (List.getD (untilL l d) i default)) i] (by kernel_rfl) trivial (by kernel_rfl) ⟨?_, trivial⟩ ?_
  · rw [Nat.sub_zero]
    refine ⟨rfl, fun i hi => ?_⟩
    show (l.getD (0 + i) default).cells = ((untilL l d).getD i default).cells
    rw [Nat.zero_add]
    conv => rhs; rw [e]
    rw [getD_take _ _ _ hi]
  rintro _ ⟨b, c, l', h, rfl⟩
  refine ⟨trivial, ?_⟩
  have h' := h (by rw [e]; exact checkL_take l _ hc)
  subst h'
  refine good_run 14 (obs := []) (by kernel_rfl) trivial ?_
  refine good_finX (⟨[.sv (.val (.pointer (some ⟨c, 0, none⟩)))], [mapL (untilL l d), cellsL (.map (some b)) (untilL l d)], [(0, .map (some b)), (1, .pointer (some ⟨c, 0, none⟩))]⟩) (⟨b, c, rfl⟩) [zP = zP, keysL (untilL l d) = keysL (untilL l d) ∧ ∀ (k : Int), (fun k => Place.sv (lastP (untilL l d) k)) k = (fun k => Place.sv (lastP (untilL l d) k)) k, SVle (SV.val (Value.map (some b))) (SV.val (Value.map (some b))), dayL (untilL l d) = dayL (untilL l d), SVle (SV.val (Value.pointer (some { block := c, off := (0 : Nat) }))) (SV.val (Value.pointer (some { block := c, off := (0 : Nat) }))), Value.map (some b) = ((0 : Nat), Value.map (some b)).snd, Value.pointer (some { block := c, off := (0 : Nat) }) = ((1 : Nat), Value.pointer (some { block := c, off := (0 : Nat) })).snd] (by kernel_rfl) ⟨rfl, ⟨rfl, fun _ => rfl⟩, SVle.refl _, rfl, SVle.refl _, rfl, rfl, trivial⟩
end Go.Sx.T
