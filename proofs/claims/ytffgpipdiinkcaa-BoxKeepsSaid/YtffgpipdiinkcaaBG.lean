/- Contracts of functions of the program, each proved by running its code symbolically (BG). -/
import Derived.Test.YtffgpipdiinkcaaBF
namespace Go.Sx.T
open Go Go.Proofs Go.Sx
set_option maxRecDepth 100000
set_option maxHeartbeats 4000000
set_option linter.unusedVariables false
set_option linter.unusedSimpArgs false
theorem t30 : Spec Try.prog 30 [] (.lst 5 1 (cutRows 5 [SV.int IntKind.i64 3, SV.int IntKind.i64 100, SV.int IntKind.i64 90, SV.val (Value.int IntKind.i64 (Int.ofNat 0)),
      SV.lst 2 2 (cutRows 2 [SV.int IntKind.i64 7, SV.int IntKind.i64 40, SV.int IntKind.i64 8, SV.int IntKind.i64 20])])) := by
  refine spec_of_good mixed Try.func30 F30_ok (by kernel_rfl) ?_
  refine good_run 16 (obs := []) (by kernel_rfl) trivial ?_
  refine good_fin [(1 : Nat) = (1 : Nat) ∧ ∀ (i : Nat), i < (1 : Nat) → cutRows (5 : Nat) [SV.int IntKind.i64 (3 : Int), SV.int IntKind.i64 (100 : Int), SV.int IntKind.i64 (90 : Int), SV.val (Value.int IntKind.i64 (Int.ofNat (0 : Nat))), SV.lst (2 : Nat) (2 : Nat) (cutRows (2 : Nat) [SV.int IntKind.i64 (7 : Int), SV.int IntKind.i64 (40 : Int), SV.int IntKind.i64 (8 : Int), SV.int IntKind.i64 (20 : Int)])] i = cutRows (5 : Nat) [SV.int IntKind.i64 (3 : Int), SV.int IntKind.i64 (100 : Int), SV.int IntKind.i64 (90 : Int), SV.val (Value.int IntKind.i64 (Int.ofNat (0 : Nat))), SV.lst (2 : Nat) (2 : Nat) (cutRows (2 : Nat) [SV.int IntKind.i64 (7 : Int), SV.int IntKind.i64 (40 : Int), SV.int IntKind.i64 (8 : Int), SV.int IntKind.i64 (20 : Int)])] i] (by kernel_rfl) ⟨⟨rfl, fun _ _ => rfl⟩, trivial⟩
theorem s30 : Spec Try.prog 30 [] (boxes [exBox]) := by
  refine t30.le (svle_lst rfl fun i hi => ?_)
  have : i = 0 := by omega
  subst this
  refine ⟨SVle.refl _, SVle.refl _, SVle.refl _, svle_val_int _ _, svle_lst rfl (fun i hi => ?_), trivial⟩
  match i, hi with
  | 0, _ => exact SVles.refl _
  | 1, _ => exact SVles.refl _
theorem badAt_zero {l : List Box} {j : Nat} : badAt l j = 0 ↔ faultB (l.getD j default) = 0 ∧ (0 < j → (l.getD (j - 1) default).ID < (l.getD j default).ID) ∧ dupB (units (l.take j)) (unitsC (l.getD j default).Contents) = false := by
  unfold badAt
  constructor
  · intro h
    split at h
    · rename_i h1; exact absurd h h1
    · rename_i h1
      split at h
      · cases h
      · rename_i h2
        split at h
        · cases h
        · rename_i h3
          refine ⟨by simpa using h1, fun h0 => ?_, by simpa using h3⟩
          rw [Bool.and_eq_true, decide_eq_true_eq, decide_eq_true_eq] at h2
          omega
  · rintro ⟨h1, h2, h3⟩
    rw [if_neg (fun h => h h1), if_neg, if_neg (by rw [h3]; decide)]
    rw [Bool.and_eq_true, decide_eq_true_eq, decide_eq_true_eq]
    rintro ⟨h4, h5⟩
    have := h2 h4
    omega
theorem asc_pairwise : ∀ l : List Box, (∀ j, j < l.length → 0 < j → (l.getD (j - 1) default).ID < (l.getD j default).ID) ↔ l.Pairwise (fun a b => a.ID < b.ID)
  | [] => by simp
  | [b] => by simp
  | a :: b :: r => by
    rw [List.pairwise_cons, ← asc_pairwise (b :: r)]
    constructor
    · intro h
      have hr : ∀ j, j < (b :: r).length → 0 < j → ((b :: r).getD (j - 1) default).ID < ((b :: r).getD j default).ID := fun j hj h0 => by
        have := h (j + 1) (by simpa using hj) (by omega)
        have e : j + 1 - 1 = j - 1 + 1 := by omega
        rw [e, getD_cons_succ, getD_cons_succ] at this
        exact this
      refine ⟨fun x hx => ?_, hr⟩
      have h1 : a.ID < b.ID := by simpa using h 1 (by simp) (by omega)
      rcases List.mem_cons.1 hx with rfl | hx
      · exact h1
      · have := List.rel_of_pairwise_cons ((asc_pairwise (b :: r)).1 hr) hx
        omega
    · rintro ⟨h1, h2⟩ j hj h0
      cases j with
      | zero => omega
      | succ j =>
        rw [getD_cons_succ]
        cases j with
        | zero => simpa using h1 b (by simp)
        | succ j =>
          have := h2 (j + 1) (by simpa using hj) (by omega)
          simpa using this
theorem units_nodup : ∀ l : List Box, (∀ j, j < l.length → dupB (units (l.take j)) (unitsC (l.getD j default).Contents) = false) ↔ (units l).Nodup := by
  intro l
  have key : ∀ n, n ≤ l.length → ((∀ j, j < n → dupB (units (l.take j)) (unitsC (l.getD j default).Contents) = false) ↔ (units (l.take n)).Nodup) := by
    intro n
    induction n with
    | zero => intro _; simp [units]
    | succ n ih =>
      intro hn
      rw [units_take l n (by omega), List.nodup_append]
      constructor
      · intro h
        have h1 := (ih (by omega)).1 fun j hj => h j (by omega)
        have h2 := (dupB_false _ _).1 (h n (by omega))
        exact ⟨h1, h2.1, fun a ha b hb e => h2.2 b hb (e ▸ ha)⟩
      · rintro ⟨h1, h2, h3⟩ j hj
        rcases Nat.lt_or_ge j n with h | h
        · exact (ih (by omega)).2 h1 j h
        · have : j = n := by omega
          subst this
          exact (dupB_false _ _).2 ⟨h2, fun v hv hu => h3 v hu v hv rfl⟩
  have := key l.length (Nat.le_refl _)
  rwa [List.take_length] at this
theorem mem_getD {α : Type} [Inhabited α] {l : List α} {p : α → Prop} : (∀ x ∈ l, p x) ↔ ∀ j, j < l.length → p (l.getD j default) := by
  constructor
  · intro h j hj; exact h _ (getD_mem l default j hj)
  · intro h x hx
    obtain ⟨i, hi, e⟩ := List.mem_iff_getElem.1 hx
    have := h i hi
    rwa [getD_of_lt _ i hi, e] at this
structure Right (l : List Box) : Prop where
  len : l.length ≤ 128
  fault : ∀ b ∈ l, faultB b = 0
  asc : l.Pairwise (fun a b => a.ID < b.ID)
  nodup : (units l).Nodup
theorem check_iff {l : List Box} : check l = 0 ↔ Right l := by
  rw [check]
  split
  · constructor
    · intro h; cases h
    · intro h; have := h.len; omega
  · rename_i hl
    rw [errFrom_zero']
    constructor
    · intro h
      exact ⟨by omega, mem_getD.2 fun j hj => (badAt_zero.1 (h j hj)).1, (asc_pairwise l).1 fun j hj => (badAt_zero.1 (h j hj)).2.1, (units_nodup l).1 fun j hj => (badAt_zero.1 (h j hj)).2.2⟩
    · intro h j hj
      exact badAt_zero.2 ⟨mem_getD.1 h.fault j hj, (asc_pairwise l).2 h.asc j hj, (units_nodup l).2 h.nodup j hj⟩
theorem fault_zero {b : Box} : faultB b = 0 ↔ formB b = true ∧ b.Contents.length ≤ 32 ∧ sumT b.Contents ≤ b.Room := by
  unfold faultB
  constructor
  · intro h
    split at h
    · cases h
    · rename_i h1
      split at h
      · cases h
      · split at h
        · cases h
        · exact ⟨by simpa using h1, by omega, by omega⟩
  · rintro ⟨h1, h2, h3⟩
    rw [if_neg (by simp [h1]), if_neg (by omega), if_neg (by omega)]
theorem form_room {b : Box} (h : formB b = true) : 1 ≤ b.Room ∧ b.Room ≤ 10000 := by
  simp [formB, hdrOK, inB] at h; omega
theorem asc_findI : ∀ {l : List Box}, l.Pairwise (fun a b => a.ID < b.ID) → ∀ k, k < l.length → findI l (fun b => decide (b.ID = (l.getD k default).ID)) = k := by
  intro l h k hk
  refine findI_hit l _ k hk (by simp) fun j hj => ?_
  have := List.pairwise_iff_getElem.1 h j k (by omega) hk hj
  rw [getD_of_lt l k hk, getD_of_lt l j (by omega)]
  simp; omega
def withC (l : List Box) (i : Nat) (cs : List Content) : List Box := l.set i { l.getD i default with Contents := cs }
def putB (l : List Box) (id at' : Int) (c : Content) : List Box × Int :=
  if check l ≠ 0 then ([], 1) else if findI l (fun b => decide (b.ID = id)) < 0 then ([], 7) else
  let i := (findI l fun b => decide (b.ID = id)).toNat
  let b := l.getD i default
  if (!inB at' 0 b.Contents.length || !okC c) = true then ([], 2) else if 0 ≤ (whereP c.Unit 0 l).1 then ([], 6) else if 32 ≤ b.Contents.length then ([], 8) else if b.Room < sumT b.Contents + c.Thick then ([], 12)
  else (withC l i (b.Contents.insertIdx at'.toNat c), 0)
def takeB (l : List Box) (u : Int) : List Box × Content × Int :=
  if check l ≠ 0 then ([], ⟨0, 0⟩, 1) else if (whereP u 0 l).1 < 0 then ([], ⟨0, 0⟩, 7) else
  let i := (whereP u 0 l).1.toNat
  let b := l.getD i default
  (withC l i (b.Contents.eraseIdx (whereP u 0 l).2.toNat), b.Contents.getD (whereP u 0 l).2.toNat default, 0)
theorem withC_row {l : List Box} {i n : Nat} {cs : List Content} {gc : Nat → List SV} (hi : i < l.length) (hn : n = cs.length) (hg : ∀ k, gc k = (cs.getD k default).cells) :
    l.length = (withC l i cs).length ∧ ∀ j, j < l.length → (if j = i then lay (l.getD i default).cells (0 + 4) [SV.lst 2 n gc] else (l.getD j default).cells) = ((withC l i cs).getD j default).cells := by
  obtain rfl : gc = fun k => (cs.getD k default).cells := funext hg
  subst hn
  refine ⟨by simp [withC], fun j hj => ?_⟩
  unfold withC
  rw [getD_set _ _ _ _ hi]
  split
  · rfl
  · rfl
theorem withC_length (l : List Box) (i : Nat) (cs : List Content) : (withC l i cs).length = l.length := by simp [withC]
theorem length_ins (cs : List Content) (k : Nat) (c : Content) (h : k ≤ cs.length) : (cs.insertIdx k c).length = cs.length + 1 := by
  rw [List.length_insertIdx, if_pos h]
theorem s21 (l : List Box) (id at' : Int) (c : Content) (hl : ∀ b ∈ l, b.Contents.length ≤ 100000) : Spec Try.prog 21 [boxes l, .int .i64 id, .int .i64 at', c.sv] (.tup [boxes (putB l id at' c).1, .int .i64 (putB l id at' c).2]) := by
  refine spec_of_good mixed Try.func21 F21_ok (by kernel_rfl) ?_
  have hf := findI_cases l (fun b => decide (b.ID = id))
  refine good_run 11 (obs := []) (by kernel_rfl) trivial ?_
  refine good_call (c := True) (by kernel_rfl) (fun _ => SVles.refl _) (fun _ => s17 (l)) (by kernel_rfl) ?_
  refine good_run 3 (obs := []) (by kernel_rfl) trivial ?_
  refine good_cond (!decide (check l = (0 : Int))) (by kernel_rfl) (fun hc1 => ?_) (fun hc1 => ?_)
  · simp only [Bool.not_eq_true', decide_eq_false_iff_not] at hc1
    have : putB l id at' c = ([], 1) := by rw [putB, if_pos hc1]
    rw [this]
    refine good_run 8 (obs := []) (by kernel_rfl) trivial ?_
    refine good_fin [(0 : Nat) = (0 : Nat), (1 : Int) = (1 : Int)] (by kernel_rfl) ⟨rfl, rfl, trivial⟩
  · simp only [Bool.not_eq_false', decide_eq_true_eq] at hc1
    have hr := check_iff.1 hc1
    have hlen := hr.len
    refine good_run 5 (obs := []) (by kernel_rfl) trivial ?_
    refine good_call (c := True) (by kernel_rfl) (fun _ => SVles.refl _) (fun _ => s37 (l) (id)) (by kernel_rfl) ?_
    refine good_run 10 (obs := []) (by kernel_rfl) trivial ?_
    refine good_cond (decide ((findI l fun b => decide (b.ID = id)) < (0 : Int))) (by kernel_rfl) (fun hc2 => ?_) (fun hc2 => ?_)
    · simp only [decide_eq_true_eq] at hc2
      have : putB l id at' c = ([], 7) := by rw [putB, if_neg (fun h => h hc1), if_pos hc2]
      rw [this]
      refine good_run 8 (obs := []) (by kernel_rfl) trivial ?_
      refine good_fin [(0 : Nat) = (0 : Nat), (7 : Int) = (7 : Int)] (by kernel_rfl) ⟨rfl, rfl, trivial⟩
    · simp only [decide_eq_false_iff_not] at hc2
      obtain ⟨i, hi, ei⟩ : ∃ i : Nat, i < l.length ∧ findI l (fun b => decide (b.ID = id)) = i := by
        rcases hf with ⟨e, _⟩ | ⟨k, hk, e, _⟩
        · omega
        · exact ⟨k, hk, e⟩
      have hp : putB l id at' c = if (!inB at' 0 (l.getD i default).Contents.length || !okC c) = true then ([], 2) else if 0 ≤ (whereP c.Unit 0 l).1 then ([], 6) else if 32 ≤ (l.getD i default).Contents.length then ([], 8) else if (l.getD i default).Room < sumT (l.getD i default).Contents + c.Thick then ([], 12)
        else (withC l i ((l.getD i default).Contents.insertIdx at'.toNat c), 0) := by
        rw [putB, if_neg (fun h => h hc1), if_neg hc2]
        simp only [ei, Int.toNat_natCast]
      obtain ⟨f1, f2, f3⟩ := fault_zero.1 (hr.fault _ (getD_mem l default i hi))
      have f4 := form_room f1
      have f5 := formB_conts f1
      have f6 := sumT_bound _ f5
      rw [ei]
      refine good_run 6 (obs := []) (by kernel_rfl) trivial ?_
      refine good_call (c := True) (by kernel_rfl) (fun _ => SVles.refl _) (fun _ => s33 (l) (c.Unit)) (by kernel_rfl) ?_
      refine good_run 25 (obs := [(5 : Nat) = (5 : Nat) ∧ (0 : Int) ≤ (↑i : Int) ∧ (↑i : Int) < (↑(List.length l) : Int), (0 : Nat) + (5 : Nat) ≤ (5 : Nat), (5 : Nat) = (5 : Nat) ∧ (0 : Nat) + (5 : Nat) ≤ (5 : Nat)]) (by kernel_rfl) (by (first | omega | assumption | exact ⟨rfl, trivial⟩ | simp only [AllP, inK_iff, roomOK_iff, decide_eq_true_eq, Bool.and_eq_true, Bool.or_eq_true, Bool.not_eq_true', decide_eq_false_iff_not, and_true, true_and]; (first | omega | (and_intros <;> intros <;> (try and_intros) <;> first | omega | assumption | exact trivial)))) ?_
      refine good_call (c := True) (by kernel_rfl) (fun _ => SVles.refl _) (fun _ => s38 (at') ((0 : Int)) ((↑(List.length (List.getD l i default).Contents) : Int))) (by kernel_rfl) ?_
      refine good_run 4 (obs := [(!inB at' (0 : Int) (↑(List.length (List.getD l i default).Contents) : Int)) = false ∧ True → (0 : Nat) + (2 : Nat) ≤ (2 : Nat)]) (by kernel_rfl) (by (first | omega | assumption | exact ⟨rfl, trivial⟩ | simp only [AllP, inK_iff, roomOK_iff, decide_eq_true_eq, Bool.and_eq_true, Bool.or_eq_true, Bool.not_eq_true', decide_eq_false_iff_not, and_true, true_and]; (first | omega | (and_intros <;> intros <;> (try and_intros) <;> first | omega | assumption | exact trivial)))) ?_
      refine good_call (c := (!inB at' (0 : Int) (↑(List.length (List.getD l i default).Contents) : Int)) = false ∧ True) (by kernel_rfl) (fun _ => SVles.refl _) (fun _ => s42 (c)) (by kernel_rfl) ?_
      refine good_run 6 (obs := []) (by kernel_rfl) trivial ?_
      refine good_cond (!inB at' (0 : Int) (↑(List.length (List.getD l i default).Contents) : Int) || !okC c) (by kernel_rfl) (fun hc3 => ?_) (fun hc3 => ?_)
      · rw [if_pos hc3] at hp
        rw [hp]
        refine good_run 9 (obs := []) (by kernel_rfl) trivial ?_
        refine good_fin [(0 : Nat) = (0 : Nat), (2 : Int) = (2 : Int)] (by kernel_rfl) ⟨rfl, rfl, trivial⟩
      · rw [if_neg (by rw [hc3]; decide)] at hp
        simp only [Bool.or_eq_false_iff, Bool.not_eq_false'] at hc3
        have hat : 0 ≤ at' ∧ at' ≤ (l.getD i default).Contents.length := by simpa [inB] using hc3.1
        have hth := okC_thick hc3.2
        refine good_run 7 (obs := []) (by kernel_rfl) trivial ?_
        refine good_cond (decide ((0 : Int) ≤ (whereP c.Unit (0 : Nat) l).fst)) (by kernel_rfl) (fun hc4 => ?_) (fun hc4 => ?_)
        · simp only [decide_eq_true_eq] at hc4
          rw [if_pos hc4] at hp
          rw [hp]
          refine good_run 9 (obs := []) (by kernel_rfl) trivial ?_
          refine good_fin [(0 : Nat) = (0 : Nat), (6 : Int) = (6 : Int)] (by kernel_rfl) ⟨rfl, rfl, trivial⟩
        · simp only [decide_eq_false_iff_not] at hc4
          rw [if_neg hc4] at hp
          refine good_run 9 (obs := []) (by kernel_rfl) trivial ?_
          refine good_cond (decide ((32 : Int) ≤ (↑(List.length (List.getD l i default).Contents) : Int))) (by kernel_rfl) (fun hc5 => ?_) (fun hc5 => ?_)
          · simp only [decide_eq_true_eq] at hc5
            rw [if_pos (by omega)] at hp
            rw [hp]
            refine good_run 9 (obs := []) (by kernel_rfl) trivial ?_
            refine good_fin [(0 : Nat) = (0 : Nat), (8 : Int) = (8 : Int)] (by kernel_rfl) ⟨rfl, rfl, trivial⟩
          · simp only [decide_eq_false_iff_not] at hc5
            rw [if_neg (by omega)] at hp
            refine good_run 4 (obs := []) (by kernel_rfl) trivial ?_
            refine good_call (c := True) (by kernel_rfl) (fun _ => SVles.refl _) (fun _ => s31 ((List.getD l i default).Contents) (by (first | omega | assumption | exact ⟨rfl, trivial⟩ | simp only [AllP, inK_iff, roomOK_iff, decide_eq_true_eq, Bool.and_eq_true, Bool.or_eq_true, Bool.not_eq_true', decide_eq_false_iff_not, and_true, true_and]; (first | omega | (and_intros <;> intros <;> (try and_intros) <;> first | omega | assumption | exact trivial)))) (by (first | omega | assumption | exact ⟨rfl, trivial⟩ | simp only [AllP, inK_iff, roomOK_iff, decide_eq_true_eq, Bool.and_eq_true, Bool.or_eq_true, Bool.not_eq_true', decide_eq_false_iff_not, and_true, true_and]; (first | omega | (and_intros <;> intros <;> (try and_intros) <;> first | omega | assumption | exact trivial))))) (by kernel_rfl) ?_
            refine good_run 9 (obs := [True → InK IntKind.i64 (sumT (List.getD l i default).Contents + c.Thick)]) (by kernel_rfl) (by (first | omega | assumption | exact ⟨rfl, trivial⟩ | simp only [AllP, inK_iff, roomOK_iff, decide_eq_true_eq, Bool.and_eq_true, Bool.or_eq_true, Bool.not_eq_true', decide_eq_false_iff_not, and_true, true_and]; (first | omega | (and_intros <;> intros <;> (try and_intros) <;> first | omega | assumption | exact trivial)))) ?_
            refine good_cond (decide ((List.getD l i default).Room < sumT (List.getD l i default).Contents + c.Thick)) (by kernel_rfl) (fun hc6 => ?_) (fun hc6 => ?_)
            · simp only [decide_eq_true_eq] at hc6
              rw [if_pos (by omega)] at hp
              rw [hp]
              refine good_run 9 (obs := []) (by kernel_rfl) trivial ?_
              refine good_fin [(0 : Nat) = (0 : Nat), (12 : Int) = (12 : Int)] (by kernel_rfl) ⟨rfl, rfl, trivial⟩
            · simp only [decide_eq_false_iff_not] at hc6
              rw [if_neg (by omega)] at hp
              rw [hp]
              refine good_run 5 (obs := []) (by kernel_rfl) trivial ?_
              refine good_own (c := True) (by kernel_rfl) (by kernel_rfl) (SVles.refl _) (s39 (l) (by (first | omega | assumption | exact ⟨rfl, trivial⟩ | simp only [AllP, inK_iff, roomOK_iff, decide_eq_true_eq, Bool.and_eq_true, Bool.or_eq_true, Bool.not_eq_true', decide_eq_false_iff_not, and_true, true_and]; (first | omega | (and_intros <;> intros <;> (try and_intros) <;> first | omega | assumption | exact trivial)))) (by (first | omega | assumption | exact ⟨rfl, trivial⟩ | simp only [AllP, inK_iff, roomOK_iff, decide_eq_true_eq, Bool.and_eq_true, Bool.or_eq_true, Bool.not_eq_true', decide_eq_false_iff_not, and_true, true_and]; (first | omega | (and_intros <;> intros <;> (try and_intros) <;> first | omega | assumption | exact trivial))))) ?_
              refine good_run 14 (obs := [True → (5 : Nat) = (5 : Nat) ∧ (0 : Int) ≤ (↑i : Int) ∧ (↑i : Int) < (↑(List.length l) : Int), True → (0 : Nat) + (2 : Nat) ≤ (2 : Nat)]) (by kernel_rfl) (by (first | omega | assumption | exact ⟨rfl, trivial⟩ | simp only [AllP, inK_iff, roomOK_iff, decide_eq_true_eq, Bool.and_eq_true, Bool.or_eq_true, Bool.not_eq_true', decide_eq_false_iff_not, and_true, true_and]; (first | omega | (and_intros <;> intros <;> (try and_intros) <;> first | omega | assumption | exact trivial)))) ?_
              refine good_call (c := True) (by kernel_rfl) (fun _ => SVles.refl _) (fun _ => SpecOwn.spec (s43 ((List.getD l i default).Contents) (at') (c) (by (first | omega | assumption | exact ⟨rfl, trivial⟩ | simp only [AllP, inK_iff, roomOK_iff, decide_eq_true_eq, Bool.and_eq_true, Bool.or_eq_true, Bool.not_eq_true', decide_eq_false_iff_not, and_true, true_and]; (first | omega | (and_intros <;> intros <;> (try and_intros) <;> first | omega | assumption | exact trivial)))) (by (first | omega | assumption | exact ⟨rfl, trivial⟩ | simp only [AllP, inK_iff, roomOK_iff, decide_eq_true_eq, Bool.and_eq_true, Bool.or_eq_true, Bool.not_eq_true', decide_eq_false_iff_not, and_true, true_and]; (first | omega | (and_intros <;> intros <;> (try and_intros) <;> first | omega | assumption | exact trivial)))) (by (first | omega | assumption | exact ⟨rfl, trivial⟩ | simp only [AllP, inK_iff, roomOK_iff, decide_eq_true_eq, Bool.and_eq_true, Bool.or_eq_true, Bool.not_eq_true', decide_eq_false_iff_not, and_true, true_and]; (first | omega | (and_intros <;> intros <;> (try and_intros) <;> first | omega | assumption | exact trivial)))))) (by kernel_rfl) ?_
              refine good_run 14 (obs := [True → (5 : Nat) = (5 : Nat) ∧ (0 : Int) ≤ (↑i : Int) ∧ (↑i : Int) < (↑(List.length l) : Int), (1 : Nat) = (1 : Nat) ∧ (4 : Nat) + (1 : Nat) ≤ (5 : Nat)]) (by kernel_rfl) (by (first | omega | assumption | exact ⟨rfl, trivial⟩ | simp only [AllP, inK_iff, roomOK_iff, decide_eq_true_eq, Bool.and_eq_true, Bool.or_eq_true, Bool.not_eq_true', decide_eq_false_iff_not, and_true, true_and]; (first | omega | (and_intros <;> intros <;> (try and_intros) <;> first | omega | assumption | exact trivial)))) ?_
              refine good_fin [List.length l = List.length (withC l i (List.insertIdx (List.getD l i default).Contents (Int.toNat at') c), (0 : Int)).fst ∧ ∀ (i_1 : Nat), i_1 < List.length l → (fun j => if j = i then lay ((fun i => Box.cells (List.getD l i default)) i) (4 : Nat) [SV.lst (2 : Nat) (List.length (List.getD l i default).Contents + (1 : Nat)) fun k => Content.cells (List.getD (List.insertIdx (List.getD l i default).Contents (Int.toNat at') c) k default)] else (fun i => Box.cells (List.getD l i default)) j) i_1 = (fun i_2 => Box.cells (List.getD (withC l i (List.insertIdx (List.getD l i default).Contents (Int.toNat at') c), (0 : Int)).fst i_2 default)) i_1, (0 : Int) = (0 : Int)] (by kernel_rfl) ⟨?_, rfl, trivial⟩
              exact withC_row hi (length_ins _ _ _ (by omega)).symm (fun _ => rfl)
theorem whereB_ok {l : List Box} (h : check l = 0) (u : Int) : (whereB l u).2.2 = decide (0 ≤ (whereP u 0 l).1) := by
  rw [whereB]
  by_cases e : (whereP u 0 l).1 < 0
  · rw [if_pos (.inl e)]; simp; omega
  · rw [if_neg (by omega)]; simp; omega
theorem s22 (l : List Box) (id at' : Int) (c : Content) (hl : ∀ b ∈ l, b.Contents.length ≤ 100000) : Spec Try.prog 22 [boxes l, .int .i64 id, .int .i64 at', c.sv] (.tup [boxes (putB l id at' c).1, .int .i64 (putB l id at' c).2]) := by
  refine spec_of_good mixed Try.func22 F22_ok (by kernel_rfl) ?_
  have hf := findI_cases l (fun b => decide (b.ID = id))
  refine good_run 11 (obs := []) (by kernel_rfl) trivial ?_
  refine good_call (c := True) (by kernel_rfl) (fun _ => SVles.refl _) (fun _ => s18 (l)) (by kernel_rfl) ?_
  refine good_run 3 (obs := []) (by kernel_rfl) trivial ?_
  refine good_cond (!decide (check l = (0 : Int))) (by kernel_rfl) (fun hc1 => ?_) (fun hc1 => ?_)
  · simp only [Bool.not_eq_true', decide_eq_false_iff_not] at hc1
    have : putB l id at' c = ([], 1) := by rw [putB, if_pos hc1]
    rw [this]
    refine good_run 8 (obs := []) (by kernel_rfl) trivial ?_
    refine good_fin [(0 : Nat) = (0 : Nat), (1 : Int) = (1 : Int)] (by kernel_rfl) ⟨rfl, rfl, trivial⟩
  · simp only [Bool.not_eq_false', decide_eq_true_eq] at hc1
    have hr := check_iff.1 hc1
    have hlen := hr.len
    refine good_run 5 (obs := []) (by kernel_rfl) trivial ?_
    refine good_call (c := True) (by kernel_rfl) (fun _ => SVles.refl _) (fun _ => s41 (l) (id)) (by kernel_rfl) ?_
    refine good_run 10 (obs := []) (by kernel_rfl) trivial ?_
    refine good_cond (decide ((findI l fun b => decide (b.ID = id)) < (0 : Int))) (by kernel_rfl) (fun hc2 => ?_) (fun hc2 => ?_)
    · simp only [decide_eq_true_eq] at hc2
      have : putB l id at' c = ([], 7) := by rw [putB, if_neg (fun h => h hc1), if_pos hc2]
      rw [this]
      refine good_run 8 (obs := []) (by kernel_rfl) trivial ?_
      refine good_fin [(0 : Nat) = (0 : Nat), (7 : Int) = (7 : Int)] (by kernel_rfl) ⟨rfl, rfl, trivial⟩
    · simp only [decide_eq_false_iff_not] at hc2
      obtain ⟨i, hi, ei⟩ : ∃ i : Nat, i < l.length ∧ findI l (fun b => decide (b.ID = id)) = i := by
        rcases hf with ⟨e, _⟩ | ⟨k, hk, e, _⟩
        · omega
        · exact ⟨k, hk, e⟩
      have hp : putB l id at' c = if (!inB at' 0 (l.getD i default).Contents.length || !okC c) = true then ([], 2) else if 0 ≤ (whereP c.Unit 0 l).1 then ([], 6) else if 32 ≤ (l.getD i default).Contents.length then ([], 8) else if (l.getD i default).Room < sumT (l.getD i default).Contents + c.Thick then ([], 12)
        else (withC l i ((l.getD i default).Contents.insertIdx at'.toNat c), 0) := by
        rw [putB, if_neg (fun h => h hc1), if_neg hc2]
        simp only [ei, Int.toNat_natCast]
      obtain ⟨f1, f2, f3⟩ := fault_zero.1 (hr.fault _ (getD_mem l default i hi))
      have f4 := form_room f1
      have f5 := formB_conts f1
      have f6 := sumT_bound _ f5
      rw [ei]
      refine good_run 26 (obs := [(5 : Nat) = (5 : Nat) ∧ (0 : Int) ≤ (↑i : Int) ∧ (↑i : Int) < (↑(List.length l) : Int), (0 : Nat) + (5 : Nat) ≤ (5 : Nat), (5 : Nat) = (5 : Nat) ∧ (0 : Nat) + (5 : Nat) ≤ (5 : Nat), (decide (at' < (0 : Int)) || decide ((↑(List.length (List.getD l i default).Contents) : Int) < at')) = false ∧ True → (0 : Nat) + (2 : Nat) ≤ (2 : Nat)]) (by kernel_rfl) (by (first | omega | assumption | exact ⟨rfl, trivial⟩ | simp only [AllP, inK_iff, roomOK_iff, decide_eq_true_eq, Bool.and_eq_true, Bool.or_eq_true, Bool.not_eq_true', decide_eq_false_iff_not, and_true, true_and]; (first | omega | (and_intros <;> intros <;> (try and_intros) <;> first | omega | assumption | exact trivial)))) ?_
      refine good_call (c := (decide (at' < (0 : Int)) || decide ((↑(List.length (List.getD l i default).Contents) : Int) < at')) = false ∧ True) (by kernel_rfl) (fun _ => SVles.refl _) (fun _ => s44 (c)) (by kernel_rfl) ?_
      refine good_run 5 (obs := []) (by kernel_rfl) trivial ?_
      refine good_cond (decide (at' < (0 : Int)) || decide ((↑(List.length (List.getD l i default).Contents) : Int) < at') || !okC c) (by kernel_rfl) (fun hc3 => ?_) (fun hc3 => ?_)
      · have h3 : (!inB at' 0 (l.getD i default).Contents.length || !okC c) = true := by
          simp only [Bool.or_eq_true, decide_eq_true_eq, Bool.not_eq_true'] at hc3 ⊢
          simp only [inB, Bool.and_eq_false_iff, decide_eq_false_iff_not]
          rcases hc3 with h | h
          · left; omega
          · right; exact h
        rw [if_pos h3] at hp
        rw [hp]
        refine good_run 8 (obs := []) (by kernel_rfl) trivial ?_
        refine good_fin [(0 : Nat) = (0 : Nat), (2 : Int) = (2 : Int)] (by kernel_rfl) ⟨rfl, rfl, trivial⟩
      · have h3 : (!inB at' 0 (l.getD i default).Contents.length || !okC c) = false := by
          simp only [Bool.or_eq_false_iff, decide_eq_false_iff_not, Bool.not_eq_false'] at hc3 ⊢
          simp only [inB, Bool.and_eq_true, decide_eq_true_eq]
          exact ⟨by omega, hc3.2⟩
        rw [if_neg (by rw [h3]; decide)] at hp
        simp only [Bool.or_eq_false_iff, Bool.not_eq_false', decide_eq_false_iff_not] at hc3
        have hat : 0 ≤ at' ∧ at' ≤ (l.getD i default).Contents.length := by omega
        have hth := okC_thick hc3.2
        refine good_run 7 (obs := []) (by kernel_rfl) trivial ?_
        refine good_call (c := True) (by kernel_rfl) (fun _ => SVles.refl _) (fun _ => s16 (l) (c.Unit)) (by kernel_rfl) ?_
        refine good_run 14 (obs := []) (by kernel_rfl) trivial ?_
        refine good_cond ((whereB l c.Unit).snd.2) (by kernel_rfl) (fun hc4 => ?_) (fun hc4 => ?_)
        · rw [whereB_ok hc1, decide_eq_true_eq] at hc4
          rw [if_pos hc4] at hp
          rw [hp]
          refine good_run 8 (obs := []) (by kernel_rfl) trivial ?_
          refine good_fin [(0 : Nat) = (0 : Nat), (6 : Int) = (6 : Int)] (by kernel_rfl) ⟨rfl, rfl, trivial⟩
        · rw [whereB_ok hc1, decide_eq_false_iff_not] at hc4
          rw [if_neg hc4] at hp
          refine good_run 10 (obs := []) (by kernel_rfl) trivial ?_
          refine good_cond (decide ((↑(List.length (List.getD l i default).Contents) : Int) = (32 : Int))) (by kernel_rfl) (fun hc5 => ?_) (fun hc5 => ?_)
          · simp only [decide_eq_true_eq] at hc5
            rw [if_pos (by omega)] at hp
            rw [hp]
            refine good_run 8 (obs := []) (by kernel_rfl) trivial ?_
            refine good_fin [(0 : Nat) = (0 : Nat), (8 : Int) = (8 : Int)] (by kernel_rfl) ⟨rfl, rfl, trivial⟩
          · simp only [decide_eq_false_iff_not] at hc5
            rw [if_neg (by omega)] at hp
            refine good_run 5 (obs := [True → (0 : Nat) + (5 : Nat) ≤ (5 : Nat)]) (by kernel_rfl) (by (first | omega | assumption | exact ⟨rfl, trivial⟩ | simp only [AllP, inK_iff, roomOK_iff, decide_eq_true_eq, Bool.and_eq_true, Bool.or_eq_true, Bool.not_eq_true', decide_eq_false_iff_not, and_true, true_and]; (first | omega | (and_intros <;> intros <;> (try and_intros) <;> first | omega | assumption | exact trivial)))) ?_
            refine good_call (c := True) (by kernel_rfl) (fun _ => SVles.refl _) (fun _ => s32 (List.getD l i default) (by (first | omega | assumption | exact ⟨rfl, trivial⟩ | simp only [AllP, inK_iff, roomOK_iff, decide_eq_true_eq, Bool.and_eq_true, Bool.or_eq_true, Bool.not_eq_true', decide_eq_false_iff_not, and_true, true_and]; (first | omega | (and_intros <;> intros <;> (try and_intros) <;> first | omega | assumption | exact trivial)))) (by (first | omega | assumption | exact ⟨rfl, trivial⟩ | simp only [AllP, inK_iff, roomOK_iff, decide_eq_true_eq, Bool.and_eq_true, Bool.or_eq_true, Bool.not_eq_true', decide_eq_false_iff_not, and_true, true_and]; (first | omega | (and_intros <;> intros <;> (try and_intros) <;> first | omega | assumption | exact trivial))))) (by kernel_rfl) ?_
            refine good_run 8 (obs := [True → InK IntKind.i64 (sumT (List.getD l i default).Contents + c.Thick)]) (by kernel_rfl) (by (first | omega | assumption | exact ⟨rfl, trivial⟩ | simp only [AllP, inK_iff, roomOK_iff, decide_eq_true_eq, Bool.and_eq_true, Bool.or_eq_true, Bool.not_eq_true', decide_eq_false_iff_not, and_true, true_and]; (first | omega | (and_intros <;> intros <;> (try and_intros) <;> first | omega | assumption | exact trivial)))) ?_
            refine good_cond (decide ((List.getD l i default).Room < sumT (List.getD l i default).Contents + c.Thick)) (by kernel_rfl) (fun hc6 => ?_) (fun hc6 => ?_)
            · simp only [decide_eq_true_eq] at hc6
              rw [if_pos (by omega)] at hp
              rw [hp]
              refine good_run 8 (obs := []) (by kernel_rfl) trivial ?_
              refine good_fin [(0 : Nat) = (0 : Nat), (12 : Int) = (12 : Int)] (by kernel_rfl) ⟨rfl, rfl, trivial⟩
            · simp only [decide_eq_false_iff_not] at hc6
              rw [if_neg (by omega)] at hp
              rw [hp]
              refine good_run 4 (obs := []) (by kernel_rfl) trivial ?_
              refine good_own (c := True) (by kernel_rfl) (by kernel_rfl) (SVles.refl _) (s13 (l) (by (first | omega | assumption | exact ⟨rfl, trivial⟩ | simp only [AllP, inK_iff, roomOK_iff, decide_eq_true_eq, Bool.and_eq_true, Bool.or_eq_true, Bool.not_eq_true', decide_eq_false_iff_not, and_true, true_and]; (first | omega | (and_intros <;> intros <;> (try and_intros) <;> first | omega | assumption | exact trivial)))) (by (first | omega | assumption | exact ⟨rfl, trivial⟩ | simp only [AllP, inK_iff, roomOK_iff, decide_eq_true_eq, Bool.and_eq_true, Bool.or_eq_true, Bool.not_eq_true', decide_eq_false_iff_not, and_true, true_and]; (first | omega | (and_intros <;> intros <;> (try and_intros) <;> first | omega | assumption | exact trivial))))) ?_
              refine good_run 51 (obs := [(2 : Nat) = (2 : Nat) ∧ (0 : Int) ≤ (0 : Int) ∧ (0 : Int) ≤ at' ∧ at' ≤ (↑(List.length (List.getD l i default).Contents) : Int), (2 : Nat) = (2 : Nat) ∧ roomOK (Int.toNat at' - (0 : Nat)) (16 : Nat), (0 : Nat) + (2 : Nat) ≤ (2 : Nat), (41 : Nat) = (41 : Nat) ∧ (2 : Nat) = (2 : Nat) ∧ (2 : Nat) = (2 : Nat) ∧ roomOK (Int.toNat at' - (0 : Nat) + (1 : Nat)) (16 : Nat), (2 : Nat) = (2 : Nat) ∧ (0 : Int) ≤ at' ∧ at' ≤ (↑(List.length (List.getD l i default).Contents) : Int) ∧ (↑(List.length (List.getD l i default).Contents) : Int) ≤ (↑(List.length (List.getD l i default).Contents) : Int), (41 : Nat) = (41 : Nat) ∧ (2 : Nat) = (2 : Nat) ∧ (2 : Nat) = (2 : Nat) ∧ roomOK (Int.toNat at' - (0 : Nat) + (1 : Nat) + (List.length (List.getD l i default).Contents - Int.toNat at')) (16 : Nat), (5 : Nat) = (5 : Nat) ∧ (0 : Int) ≤ (↑i : Int) ∧ (↑i : Int) < (↑(List.length l) : Int), (1 : Nat) = (1 : Nat) ∧ (4 : Nat) + (1 : Nat) ≤ (5 : Nat)]) (by kernel_rfl) (by (first | omega | assumption | exact ⟨rfl, trivial⟩ | simp only [AllP, inK_iff, roomOK_iff, decide_eq_true_eq, Bool.and_eq_true, Bool.or_eq_true, Bool.not_eq_true', decide_eq_false_iff_not, and_true, true_and]; (first | omega | (and_intros <;> intros <;> (try and_intros) <;> first | omega | assumption | exact trivial)))) ?_
              refine good_fin [List.length l = List.length (withC l i (List.insertIdx (List.getD l i default).Contents (Int.toNat at') c), (0 : Int)).fst ∧ ∀ (i_1 : Nat), i_1 < List.length l → (fun j => if j = i then lay ((fun i => Box.cells (List.getD l i default)) i) (4 : Nat) [SV.lst (2 : Nat) (Int.toNat at' - (0 : Nat) + (1 : Nat) + (List.length (List.getD l i default).Contents - Int.toNat at')) (joinGet (Int.toNat at' - (0 : Nat) + (1 : Nat)) (joinGet (Int.toNat at' - (0 : Nat)) (fun i_2 => (fun i_3 => Content.cells (List.getD (List.getD l i default).Contents i_3 default)) (Int.toNat (0 : Int) + i_2)) (cutRows (2 : Nat) [SV.int IntKind.i64 c.Unit, SV.int IntKind.i64 c.Thick])) fun i_2 => (fun i_3 => Content.cells (List.getD (List.getD l i default).Contents i_3 default)) (Int.toNat at' + i_2))] else (fun i => Box.cells (List.getD l i default)) j) i_1 = (fun i_2 => Box.cells (List.getD (withC l i (List.insertIdx (List.getD l i default).Contents (Int.toNat at') c), (0 : Int)).fst i_2 default)) i_1, (0 : Int) = (0 : Int)] (by kernel_rfl) ⟨?_, rfl, trivial⟩
              exact withC_row hi (by rw [length_ins _ _ _ (by omega)]; omega) (fun k => join_ins Content.cells default _ at'.toNat c 2 (by omega) rfl k)
end Go.Sx.T
