/- Contracts of functions of the program, each proved by running its code symbolically (RA). -/
import Derived.Test.YtdiikneggikfkaaSx4
/- Bookings: what the definitions specify, plainly, and what holds of it. -/
namespace Go.Sx.T
open Go Go.Sx
set_option linter.unusedVariables false
structure Bk where
  ID : Int
  Rd : Int
  F : Int
  U : Int
  deriving Inhabited, DecidableEq
def Bk.cells (b : Bk) : List SV := [.int .i64 b.ID, .int .i64 b.Rd, .int .i64 b.F, .int .i64 b.U]
def Bk.sv (b : Bk) : SV := .agg b.cells
def bks (l : List Bk) : SV := .lst 4 l.length fun i => (l.getD i default).cells
def okId (n : Int) : Bool := decide (1 ≤ n) && decide (n ≤ 1073741824)
def okSpan (f u : Int) : Bool := decide (0 ≤ f) && decide (f < u) && decide (u ≤ 1048576)
theorem okSpan_iff {f u : Int} : okSpan f u = true ↔ 0 ≤ f ∧ f < u ∧ u ≤ 1048576 := by
  unfold okSpan; simp only [Bool.and_eq_true, decide_eq_true_eq, and_assoc]
def Bk.on (b : Bk) (d : Int) : Bool := okSpan b.F b.U && decide (b.F ≤ d) && decide (d < b.U)
theorem on_iff {b : Bk} {d : Int} : b.on d = true ↔ okSpan b.F b.U = true ∧ b.F ≤ d ∧ d < b.U := by
  unfold Bk.on; simp only [Bool.and_eq_true, decide_eq_true_eq, and_assoc]
def loadL (l : List Bk) (d : Int) : Nat := l.countP fun b => b.on d
theorem loadL_le (l : List Bk) (d : Int) : loadL l d ≤ l.length := List.countP_le_length
theorem loadL_snoc (l : List Bk) (b : Bk) (d : Int) : loadL (l ++ [b]) d = loadL l d + if b.on d = true then 1 else 0 := by
  unfold loadL; rw [List.countP_append, List.countP_singleton]
def meetB (f u f' u' : Int) : Bool := decide (f < u') && decide (f' < u)
theorem meetB_iff {f u f' u' : Int} : meetB f u f' u' = true ↔ f < u' ∧ f' < u := by
  unfold meetB; simp only [Bool.and_eq_true, decide_eq_true_eq]
def busyL (l : List Bk) (r f u : Int) : Bool := l.any fun b => decide (b.Rd = r) && meetB b.F b.U f u
theorem busyL_iff {l : List Bk} {r f u : Int} : busyL l r f u = true ↔ ∃ b ∈ l, b.Rd = r ∧ b.F < u ∧ f < b.U := by
  unfold busyL; simp only [List.any_eq_true, Bool.and_eq_true, decide_eq_true_eq, meetB_iff]

/-! Where the load is greatest. -/

theorem exists_max : ∀ (l : List Int), l ≠ [] → ∃ m ∈ l, ∀ x ∈ l, x ≤ m
  | [], h => (h rfl).elim
  | [a], _ => ⟨a, by simp, fun x hx => by simp at hx; omega⟩
  | a :: b :: r, _ => by
    obtain ⟨m, hm, h⟩ := exists_max (b :: r) (by simp)
    rcases Int.le_total a m with h1 | h1
    · exact ⟨m, List.mem_cons_of_mem _ hm, fun x hx => by
        rcases List.mem_cons.1 hx with rfl | hx
        · exact h1
        · exact h x hx⟩
    · exact ⟨a, by simp, fun x hx => by
        rcases List.mem_cons.1 hx with rfl | hx
        · exact Int.le_refl _
        · exact Int.le_trans (h x hx) h1⟩
theorem load_mono {l : List Bk} {d d' : Int} (h : ∀ b ∈ l, b.on d = true → b.on d' = true) : loadL l d ≤ loadL l d' :=
  List.countP_mono_left h
/-- The days within a span on which the load can grow. -/
def inB (f u : Int) (b : Bk) : Bool := okSpan b.F b.U && decide (f < b.F) && decide (b.F < u)
def begL (l : List Bk) (f u : Int) : List Int := f :: (l.filter (inB f u)).map Bk.F
theorem begL_mem {l : List Bk} {f u d : Int} : d ∈ begL l f u ↔ d = f ∨ ∃ b ∈ l, okSpan b.F b.U = true ∧ f < b.F ∧ b.F < u ∧ b.F = d := by
  unfold begL inB
  simp only [List.mem_cons, List.mem_map, List.mem_filter, Bool.and_eq_true, decide_eq_true_eq]
  constructor
  · rintro (h | ⟨b, ⟨hb, ⟨h1, h2⟩, h3⟩, h4⟩)
    · exact .inl h
    · exact .inr ⟨b, hb, h1, h2, h3, h4⟩
  · rintro (h | ⟨b, hb, h1, h2, h3, h4⟩)
    · exact .inl h
    · exact .inr ⟨b, ⟨hb, ⟨h1, h2⟩, h3⟩, h4⟩
theorem begL_len (l : List Bk) (f u : Int) : (begL l f u).length ≤ l.length + 1 := by
  unfold begL; have := List.length_filter_le (inB f u) l; simp only [List.length_cons, List.length_map]; omega
theorem load_reach (l : List Bk) (f u d : Int) (h1 : f ≤ d) (h2 : d < u) : ∃ d' ∈ begL l f u, d' ≤ d ∧ loadL l d ≤ loadL l d' := by
  obtain ⟨m, hm, hmax⟩ := exists_max (begL l f (d + 1)) (by unfold begL; simp)
  have hmd : m ≤ d := by
    rcases begL_mem.1 hm with h | ⟨b, _, _, _, h, e⟩
    · omega
    · omega
  refine ⟨m, ?_, hmd, load_mono fun b hb hon => ?_⟩
  · rcases begL_mem.1 hm with h | ⟨b, hb, h3, h4, h5, h6⟩
    · exact begL_mem.2 (.inl h)
    · exact begL_mem.2 (.inr ⟨b, hb, h3, h4, by omega, h6⟩)
  · obtain ⟨h3, h4, h5⟩ := on_iff.1 hon
    refine on_iff.2 ⟨h3, ?_, by omega⟩
    by_cases h6 : b.F ≤ f
    · exact Int.le_trans h6 (hmax f (begL_mem.2 (.inl rfl)))
    · exact hmax _ (begL_mem.2 (.inr ⟨b, hb, h3, by omega, by omega, rfl⟩))
def fullP (l : List Bk) (f u s : Int) : Bool := (begL l f u).any fun d => decide (s ≤ (loadL l d : Int))
def fullR (l : List Bk) (f u s : Int) : Bool := decide (s < (loadL l f : Int) + 1) || l.any fun x => decide (f ≤ x.F) && decide (x.F < u) && decide (s < (loadL l x.F : Int) + 1)
theorem fullP_iff {l : List Bk} {f u s : Int} (h : f < u) : fullP l f u s = true ↔ ∃ d, f ≤ d ∧ d < u ∧ s ≤ (loadL l d : Int) := by
  unfold fullP
  simp only [List.any_eq_true, decide_eq_true_eq]
  constructor
  · rintro ⟨d, hd, hs⟩
    rcases begL_mem.1 hd with e | ⟨b, _, _, h1, h2, e⟩
    · exact ⟨d, by omega, by omega, hs⟩
    · exact ⟨d, by omega, by omega, hs⟩
  · rintro ⟨d, h1, h2, hs⟩
    obtain ⟨d', hd', _, hle⟩ := load_reach l f u d h1 h2
    exact ⟨d', hd', by omega⟩
theorem fullR_iff {l : List Bk} {f u s : Int} (h : f < u) : fullR l f u s = true ↔ ∃ d, f ≤ d ∧ d < u ∧ s ≤ (loadL l d : Int) := by
  unfold fullR
  simp only [Bool.or_eq_true, List.any_eq_true, Bool.and_eq_true, decide_eq_true_eq]
  constructor
  · rintro (hs | ⟨b, hb, ⟨h1, h2⟩, hs⟩)
    · exact ⟨f, by omega, h, by omega⟩
    · exact ⟨b.F, h1, h2, by omega⟩
  · rintro ⟨d, h1, h2, hs⟩
    obtain ⟨d', hd', _, hle⟩ := load_reach l f u d h1 h2
    rcases begL_mem.1 hd' with e | ⟨b, hb, _, h3, h4, e⟩
    · subst e; exact .inl (by omega)
    · subst e; exact .inr ⟨b, hb, ⟨by omega, h4⟩, by omega⟩
theorem full_eq {l : List Bk} {f u s : Int} (h : f < u) : fullP l f u s = fullR l f u s := by
  rw [Bool.eq_iff_iff, fullP_iff h, fullR_iff h]

/-! The first error. -/

def lastB (l : List Bk) : Bk := l.getD (l.length - 1) default
def faultP (s : Int) (l : List Bk) (b : Bk) : Int :=
  if (!okId b.ID || !okId b.Rd || !okSpan b.F b.U) = true then 2 else if (decide (0 < (l.length : Int)) && decide (b.ID ≤ (lastB l).ID)) = true then 5
  else if busyL l b.Rd b.F b.U = true then 6 else if fullP l b.F b.U s = true then 12 else 0
def faultR (s : Int) (l : List Bk) (b : Bk) : Int :=
  if (!okId b.ID || !okId b.Rd || !okSpan b.F b.U) = true then 2 else if (decide (0 < (l.length : Int)) && decide (b.ID ≤ (lastB l).ID)) = true then 5
  else if busyL l b.Rd b.F b.U = true then 6 else if fullR l b.F b.U s = true then 12 else 0
theorem fault_eq (s : Int) (l : List Bk) (b : Bk) : faultP s l b = faultR s l b := by
  unfold faultP faultR
  by_cases h : (!okId b.ID || !okId b.Rd || !okSpan b.F b.U) = true
  · rw [if_pos h, if_pos h]
  · rw [if_neg h, if_neg h]
    have h2 : okSpan b.F b.U = true := by
      simp only [Bool.or_eq_true, Bool.not_eq_true', not_or, Bool.not_eq_false] at h
      exact h.2
    rw [full_eq (okSpan_iff.1 h2).2.1]
structure Fits (s : Int) (l : List Bk) (b : Bk) : Prop where
  id : okId b.ID = true
  rd : okId b.Rd = true
  span : okSpan b.F b.U = true
  order : 0 < l.length → (lastB l).ID < b.ID
  busy : ∀ x ∈ l, x.Rd = b.Rd → ¬ (x.F < b.U ∧ b.F < x.U)
  full : ∀ d, b.F ≤ d → d < b.U → (loadL l d : Int) < s
theorem faultP_zero {s : Int} {l : List Bk} {b : Bk} : faultP s l b = 0 ↔ Fits s l b := by
  unfold faultP
  by_cases h : (!okId b.ID || !okId b.Rd || !okSpan b.F b.U) = true
  · rw [if_pos h]
    refine ⟨fun h => by simp at h, fun hf => ?_⟩
    rw [hf.id, hf.rd, hf.span] at h; cases h
  · rw [if_neg h]
    simp only [Bool.or_eq_true, Bool.not_eq_true', not_or, Bool.not_eq_false] at h
    obtain ⟨⟨h1, h2⟩, h3⟩ := h
    have hfu := (okSpan_iff.1 h3).2.1
    by_cases h4 : (decide (0 < (l.length : Int)) && decide (b.ID ≤ (lastB l).ID)) = true
    · rw [if_pos h4]
      refine ⟨fun h => by simp at h, fun hf => ?_⟩
      simp only [Bool.and_eq_true, decide_eq_true_eq] at h4
      have := hf.order (by omega)
      omega
    · rw [if_neg h4]
      simp only [Bool.and_eq_true, decide_eq_true_eq, not_and] at h4
      by_cases h5 : busyL l b.Rd b.F b.U = true
      · rw [if_pos h5]
        refine ⟨fun h => by simp at h, fun hf => ?_⟩
        obtain ⟨x, hx, e, h6, h7⟩ := busyL_iff.1 h5
        exact (hf.busy x hx e ⟨h6, h7⟩).elim
      · rw [if_neg h5]
        by_cases h6 : fullP l b.F b.U s = true
        · rw [if_pos h6]
          refine ⟨fun h => by simp at h, fun hf => ?_⟩
          obtain ⟨d, h7, h8, h9⟩ := (fullP_iff hfu).1 h6
          have := hf.full d h7 h8
          omega
        · rw [if_neg h6]
          refine ⟨fun _ => ⟨h1, h2, h3, fun h0 => by have := h4 (by omega); omega, fun x hx e hm => h5 (busyL_iff.2 ⟨x, hx, e, hm.1, hm.2⟩), fun d hd1 hd2 => ?_⟩, fun _ => rfl⟩
          refine Int.lt_of_not_ge fun hge => h6 ((fullP_iff hfu).2 ⟨d, hd1, hd2, hge⟩)
def okSeats (s : Int) : Bool := decide (1 ≤ s) && decide (s ≤ 32)
def errB (s : Int) (l : List Bk) (k : Nat) : Int := faultP s (l.take k) (l.getD k default)
def checkL (s : Int) (l : List Bk) : Int := if (!okSeats s) = true then 1 else if 1024 < (l.length : Int) then 8 else errFrom (errB s l) l.length 0
theorem checkL_iff {s : Int} {l : List Bk} : checkL s l = 0 ↔ 1 ≤ s ∧ s ≤ 32 ∧ l.length ≤ 1024 ∧ ∀ k, k < l.length → Fits s (l.take k) (l.getD k default) := by
  unfold checkL okSeats
  by_cases h : (decide (1 ≤ s) && decide (s ≤ 32)) = true
  · rw [if_neg (by rw [h]; decide)]
    simp only [Bool.and_eq_true, decide_eq_true_eq] at h
    by_cases h2 : 1024 < (l.length : Int)
    · rw [if_pos h2]
      exact ⟨fun h => by simp at h, fun h => by omega⟩
    · rw [if_neg h2, errFrom_zero']
      constructor
      · intro h3; exact ⟨h.1, h.2, by omega, fun k hk => faultP_zero.1 (h3 k hk)⟩
      · intro h3 k hk; exact faultP_zero.2 (h3.2.2.2 k hk)
  · rw [if_pos (by rw [Bool.not_eq_true] at h; rw [h]; rfl)]
    simp only [Bool.and_eq_true, decide_eq_true_eq, not_and] at h
    exact ⟨fun h => by simp at h, fun h3 => by have := h h3.1; omega⟩
structure Right (s : Int) (l : List Bk) : Prop where
  s1 : 1 ≤ s
  s2 : s ≤ 32
  len : l.length ≤ 1024
  each : ∀ k, k < l.length → Fits s (l.take k) (l.getD k default)
theorem right_iff {s : Int} {l : List Bk} : checkL s l = 0 ↔ Right s l := by
  rw [checkL_iff]; exact ⟨fun ⟨a, b, c, d⟩ => ⟨a, b, c, d⟩, fun ⟨a, b, c, d⟩ => ⟨a, b, c, d⟩⟩
theorem lastB_snoc (l : List Bk) (b : Bk) : lastB (l ++ [b]) = b := by
  unfold lastB
  rw [List.length_append, List.length_singleton, Nat.add_sub_cancel, getD_append_right _ _ _ (Nat.le_refl _), Nat.sub_self]; rfl
theorem right_nil {s : Int} (h1 : 1 ≤ s) (h2 : s ≤ 32) : Right s [] := ⟨h1, h2, by simp, fun k hk => by simp at hk⟩
theorem right_snoc {s : Int} {l : List Bk} {b : Bk} : Right s (l ++ [b]) ↔ Right s l ∧ l.length < 1024 ∧ Fits s l b := by
  constructor
  · intro h
    have hl := h.len
    rw [List.length_append, List.length_singleton] at hl
    refine ⟨⟨h.s1, h.s2, by omega, fun k hk => ?_⟩, by omega, ?_⟩
    · have := h.each k (by rw [List.length_append, List.length_singleton]; omega)
      rwa [List.take_append_of_le_length (by omega), getD_append_left _ _ _ hk] at this
    · have := h.each l.length (by rw [List.length_append, List.length_singleton]; omega)
      rwa [List.take_append_of_le_length (Nat.le_refl _), List.take_length, getD_append_right _ _ _ (Nat.le_refl _), Nat.sub_self] at this
  · rintro ⟨h, hl, hf⟩
    refine ⟨h.s1, h.s2, by rw [List.length_append, List.length_singleton]; omega, fun k hk => ?_⟩
    rw [List.length_append, List.length_singleton] at hk
    rcases Nat.lt_or_ge k l.length with hk' | hk'
    · rw [List.take_append_of_le_length (by omega), getD_append_left _ _ _ hk']
      exact h.each k hk'
    · have : k = l.length := by omega
      subst this
      rw [List.take_append_of_le_length (Nat.le_refl _), List.take_length, getD_append_right _ _ _ (Nat.le_refl _), Nat.sub_self]
      exact hf
theorem right_span {s : Int} {l : List Bk} (h : Right s l) : ∀ b ∈ l, okSpan b.F b.U = true := by
  intro b hb
  obtain ⟨k, hk, rfl⟩ := List.mem_iff_getElem.1 hb
  have := (h.each k hk).span
  rwa [getD_of_lt l k hk] at this
theorem right_load {s : Int} {l : List Bk} (h : Right s l) (d : Int) : (loadL l d : Int) ≤ s := by
  induction l using rev_ind with
  | h0 => have := h.s1; show ((0 : Nat) : Int) ≤ s; omega
  | h1 l b ih =>
    obtain ⟨h1, _, hf⟩ := right_snoc.1 h
    rw [loadL_snoc]
    have := ih h1
    split
    · rename_i hon
      obtain ⟨_, h4, h5⟩ := on_iff.1 hon
      have := hf.full d h4 h5
      omega
    · omega
theorem right_ids {s : Int} {l : List Bk} (h : Right s l) : l.Pairwise fun a b => a.ID < b.ID := by
  induction l using rev_ind with
  | h0 => exact .nil
  | h1 l b ih =>
    obtain ⟨h1, _, hf⟩ := right_snoc.1 h
    have ih := ih h1
    rw [List.pairwise_append]
    refine ⟨ih, by simp, fun a ha c hc => ?_⟩
    simp at hc; subst hc
    obtain ⟨k, hk, rfl⟩ := List.mem_iff_getElem.1 ha
    have h3 := hf.order (by omega)
    unfold lastB at h3
    rw [getD_of_lt l _ (by omega)] at h3
    rcases Nat.lt_or_ge k (l.length - 1) with h4 | h4
    · exact Int.lt_trans (List.pairwise_iff_getElem.1 ih k (l.length - 1) hk (by omega) h4) h3
    · have : k = l.length - 1 := by omega
      subst this; exact h3
theorem right_readers {s : Int} {l : List Bk} (h : Right s l) : l.Pairwise fun a b => a.Rd = b.Rd → ¬ (a.F < b.U ∧ b.F < a.U) := by
  induction l using rev_ind with
  | h0 => exact .nil
  | h1 l b ih =>
    obtain ⟨h1, _, hf⟩ := right_snoc.1 h
    rw [List.pairwise_append]
    exact ⟨ih h1, by simp, fun a ha c hc => by simp at hc; subst hc; exact hf.busy a ha⟩

/-! The peak. -/

structure IsPeak (l : List Bk) (d : Int) (n : Nat) : Prop where
  load : loadL l d = n
  most : ∀ x, loadL l x ≤ n
  first : 0 < n → ∀ x, x < d → loadL l x < n
  zero : n = 0 → d = 0
theorem IsPeak.uniq {l : List Bk} {d d' : Int} {n n' : Nat} (h : IsPeak l d n) (h' : IsPeak l d' n') : d = d' ∧ n = n' := by
  have e : n = n' := by
    have h1 := h.most d'
    have h2 := h'.most d
    rw [h'.load] at h1; rw [h.load] at h2; omega
  subst e
  refine ⟨?_, rfl⟩
  rcases Nat.eq_zero_or_pos n with h0 | h0
  · rw [h.zero h0, h'.zero h0]
  · rcases Int.lt_trichotomy d d' with h1 | h1 | h1
    · have := h'.first h0 d h1; have := h.load; omega
    · exact h1
    · have := h.first h0 d' h1; have := h'.load; omega
/-- As the program finds it: the days on which the load can grow, in ascending order. -/
def peakStep (l : List Bk) (p : Int × Nat) (d : Int) : Int × Nat := if p.2 < loadL l d then (d, loadL l d) else p
def peakP (l : List Bk) (ds : List Int) : Int × Nat := ds.foldl (peakStep l) (0, 0)
/-- As the reference finds it. -/
def peakStepR (l : List Bk) (p : Int × Nat) (b : Bk) : Int × Nat :=
  if okSpan b.F b.U = true then (if p.2 < loadL l b.F ∨ (loadL l b.F = p.2 ∧ b.F < p.1) then (b.F, loadL l b.F) else p) else p
def peakR (l : List Bk) (xs : List Bk) : Int × Nat := xs.foldl (peakStepR l) (0, 0)
theorem peakP_snoc (l : List Bk) (ds : List Int) (d : Int) : peakP l (ds ++ [d]) = peakStep l (peakP l ds) d := by simp [peakP]
theorem peakR_snoc (l xs : List Bk) (b : Bk) : peakR l (xs ++ [b]) = peakStepR l (peakR l xs) b := by simp [peakR]
theorem load_neg (l : List Bk) (d : Int) (h : d < 0 ∨ 1048576 ≤ d) : loadL l d = 0 := by
  unfold loadL
  rw [List.countP_eq_zero]
  intro b _ hon
  obtain ⟨h1, h2, h3⟩ := on_iff.1 hon
  have := okSpan_iff.1 h1
  omega
structure PkI (l : List Bk) (ds : List Int) (p : Int × Nat) : Prop where
  load : loadL l p.1 = p.2 ∨ p = (0, 0)
  most : ∀ x ∈ ds, loadL l x ≤ p.2
  first : 0 < p.2 → ∀ x ∈ ds, x < p.1 → loadL l x < p.2
  zero : p.2 = 0 → p.1 = 0
  mem : 0 < p.2 → p.1 ∈ ds
theorem peakP_inv (l : List Bk) (ds : List Int) : ds.Pairwise (· < ·) → PkI l ds (peakP l ds) := by
  induction ds using rev_ind with
  | h0 => intro _; exact ⟨.inr rfl, by simp, by simp, fun _ => rfl, fun h => by simp [peakP] at h⟩
  | h1 ds d ih =>
    intro hp
    rw [List.pairwise_append] at hp
    have H := ih hp.1
    have hlt : ∀ x ∈ ds, x < d := fun x hx => hp.2.2 x hx d (by simp)
    rw [peakP_snoc]
    generalize peakP l ds = p at H
    unfold peakStep
    split
    · rename_i h
      refine ⟨.inl rfl, fun x hx => ?_, fun _ x hx hxd => ?_, fun h0 => by simp only at h0; omega, fun _ => by simp⟩
      · rcases List.mem_append.1 hx with hx | hx
        · have := H.most x hx; simp only; omega
        · simp at hx; subst hx; exact Nat.le_refl _
      · rcases List.mem_append.1 hx with hx | hx
        · have := H.most x hx; simp only; omega
        · simp at hx; subst hx; simp only at hxd; omega
    · rename_i h
      refine ⟨H.load, fun x hx => ?_, fun h0 x hx hxd => ?_, H.zero, fun h0 => by simp [H.mem h0]⟩
      · rcases List.mem_append.1 hx with hx | hx
        · exact H.most x hx
        · simp at hx; subst hx; omega
      · rcases List.mem_append.1 hx with hx | hx
        · exact H.first h0 x hx hxd
        · simp at hx; subst hx
          have := hlt _ (H.mem h0); omega
theorem peakP_is (l : List Bk) (ds : List Int) (hs : ds.Pairwise (· < ·)) (hm : ∀ x, x ∈ ds ↔ x ∈ begL l 0 1048576) : IsPeak l (peakP l ds).1 (peakP l ds).2 := by
  have H := peakP_inv l ds hs
  generalize peakP l ds = p at H
  have hmost : ∀ x, loadL l x ≤ p.2 := fun x => by
    by_cases hx : 0 ≤ x ∧ x < 1048576
    · obtain ⟨d', hd', _, hle⟩ := load_reach l 0 1048576 x hx.1 hx.2
      have := H.most d' ((hm d').2 hd')
      omega
    · rw [load_neg l x (by omega)]; omega
  refine ⟨?_, hmost, fun h0 x hx => ?_, H.zero⟩
  · rcases H.load with h | h
    · exact h
    · have := hmost p.1; rw [h] at this ⊢; simp only at this ⊢; omega
  · by_cases hx0 : 0 ≤ x ∧ x < 1048576
    · obtain ⟨d', hd', hdx, hle⟩ := load_reach l 0 1048576 x hx0.1 hx0.2
      have := H.first h0 d' ((hm d').2 hd') (by omega)
      omega
    · rw [load_neg l x (by omega)]; exact h0
structure PkR (l xs : List Bk) (p : Int × Nat) : Prop where
  load : loadL l p.1 = p.2 ∨ p = (0, 0)
  most : ∀ b ∈ xs, okSpan b.F b.U = true → loadL l b.F ≤ p.2
  first : 0 < p.2 → ∀ b ∈ xs, okSpan b.F b.U = true → b.F < p.1 → loadL l b.F < p.2
  zero : p.2 = 0 → p.1 = 0
theorem peakR_inv (l xs : List Bk) : (∀ b ∈ xs, b ∈ l) → PkR l xs (peakR l xs) := by
  induction xs using rev_ind with
  | h0 => intro _; exact ⟨.inr rfl, by simp, by simp, fun _ => rfl⟩
  | h1 xs b ih =>
    intro hin
    have H := ih fun x hx => hin x (by simp [hx])
    have hb := hin b (by simp)
    rw [peakR_snoc]
    generalize peakR l xs = p at H
    unfold peakStepR
    by_cases hs : okSpan b.F b.U = true
    · rw [if_pos hs]
      have hpos : 0 < loadL l b.F := by
        unfold loadL
        rw [List.countP_pos_iff]
        exact ⟨b, hb, on_iff.2 ⟨hs, Int.le_refl _, (okSpan_iff.1 hs).2.1⟩⟩
      split
      · rename_i h
        refine ⟨.inl rfl, fun x hx hxs => ?_, fun _ x hx hxs hxd => ?_, fun h0 => by simp only at h0; omega⟩
        · rcases List.mem_append.1 hx with hx | hx
          · have := H.most x hx hxs; simp only; omega
          · simp at hx; subst hx; exact Nat.le_refl _
        · rcases List.mem_append.1 hx with hx | hx
          · have h1 := H.most x hx hxs
            simp only at hxd ⊢
            rcases h with h | ⟨h, h2⟩
            · omega
            · have := H.first (by omega) x hx hxs (by omega); omega
          · simp at hx; subst hx; simp only at hxd; omega
      · rename_i h
        refine ⟨H.load, fun x hx hxs => ?_, fun h0 x hx hxs hxd => ?_, H.zero⟩
        · rcases List.mem_append.1 hx with hx | hx
          · exact H.most x hx hxs
          · simp at hx; subst hx; omega
        · rcases List.mem_append.1 hx with hx | hx
          · exact H.first h0 x hx hxs hxd
          · simp at hx; subst hx; omega
    · rw [if_neg hs]
      refine ⟨H.load, fun x hx hxs => ?_, fun h0 x hx hxs hxd => ?_, H.zero⟩
      · rcases List.mem_append.1 hx with hx | hx
        · exact H.most x hx hxs
        · simp at hx; subst hx; exact (hs hxs).elim
      · rcases List.mem_append.1 hx with hx | hx
        · exact H.first h0 x hx hxs hxd
        · simp at hx; subst hx; exact (hs hxs).elim
theorem peakR_is (l : List Bk) : IsPeak l (peakR l l).1 (peakR l l).2 := by
  have H := peakR_inv l l fun _ h => h
  generalize peakR l l = p at H
  -- the load on a day is none, or at most that where some booking begins
  have hre : ∀ x, loadL l x = 0 ∨ ∃ b ∈ l, okSpan b.F b.U = true ∧ b.F ≤ x ∧ loadL l x ≤ loadL l b.F := fun x => by
    by_cases hx : 0 ≤ x ∧ x < 1048576
    · obtain ⟨d', hd', hdx, hle⟩ := load_reach l (-1) 1048576 x (by omega) hx.2
      rcases begL_mem.1 hd' with e | ⟨b, hb, h1, _, _, e⟩
      · subst e; have := load_neg l (-1) (.inl (by omega)); omega
      · subst e; exact .inr ⟨b, hb, h1, hdx, hle⟩
    · exact .inl (load_neg l x (by omega))
  have hmost : ∀ x, loadL l x ≤ p.2 := fun x => by
    rcases hre x with h | ⟨b, hb, h1, _, h2⟩
    · omega
    · have := H.most b hb h1; omega
  refine ⟨?_, hmost, fun h0 x hx => ?_, H.zero⟩
  · rcases H.load with h | h
    · exact h
    · have := hmost p.1; rw [h] at this ⊢; simp only at this ⊢; omega
  · rcases hre x with h | ⟨b, hb, h1, h2, h3⟩
    · omega
    · have := H.first h0 b hb h1 (by omega); omega
theorem peak_eq (l : List Bk) (ds : List Int) (hs : ds.Pairwise (· < ·)) (hm : ∀ x, x ∈ ds ↔ x ∈ begL l 0 1048576) : peakP l ds = peakR l l := by
  obtain ⟨h1, h2⟩ := (peakP_is l ds hs hm).uniq (peakR_is l)
  exact Prod.ext h1 h2
end Go.Sx.T
