/- Contracts of functions of the program, each proved by running its code symbolically (HO). -/
import Derived.Test.YtgnffeajpmniiaaHN
import Derived.StillTailTactics
namespace Go.Sx.T
open Go Go.Proofs Go.Sx Go.RowKit Go.Shelf
set_option maxRecDepth 100000
set_option maxHeartbeats 4000000
set_option linter.unusedVariables false
set_option linter.unusedSimpArgs false
attribute [local go_sem] Oper.semAt_some
theorem den_tup3 {w : World} {M : Nat → Prop} {a b c : SV} {v : Value} (h : Den w M (.tup [a, b, c]) v) : ∃ x y z, v = .tuple #[x, y, z] ∧ Den w M a x ∧ Den w M b y ∧ Den w M c z := by
  cases h with
  | tup cs vs hl h =>
    obtain ⟨x, y, z, rfl⟩ := list_len3 vs (by simpa using hl)
    exact ⟨x, y, z, rfl, h 0 _ _ rfl rfl, h 1 _ _ rfl rfl, h 2 _ _ rfl rfl⟩
theorem stds_cells {w : World} {M : Nat → Prop} {s : List Std} {A : Option Addr} {c : Nat} (h : Den w M (stds s) (.slice A s.length c)) (i : Nat) (hi : i < s.length) :
    ∃ b o A' c', A = some ⟨b, o, none⟩ ∧ b < w.heap.size ∧ w.cell? ⟨b, o + i * 2, none⟩ = some (.int .i64 (s.getD i default).Shelf) ∧ w.cell? ⟨b, o + i * 2 + 1, none⟩ = some (.slice A' (s.getD i default).Boxes.length c') ∧
      Den w M (ints (s.getD i default).Boxes) (.slice A' (s.getD i default).Boxes.length c') := by
  unfold stds at h
  cases h with
  | lst sz n get A c b o val hc hm hA hM hb hz h1 hcell h =>
    have q0 := hcell i 0 _ hi rfl
    have q1 := hcell i 1 _ hi rfl
    have d1 := h i 1 _ hi rfl
    rw [den_int (h i 0 _ hi rfl)] at q0
    obtain ⟨A', c', e⟩ := den_lst d1
    rw [e] at q1 d1
    exact ⟨b, o, A', c', hA (by omega), hb (by omega), q0, q1, d1⟩
theorem list_len4 {α : Type} (a : Array α) (h : 4 = a.size) : ∃ x y z t, a = #[x, y, z, t] := by
  obtain ⟨l⟩ := a
  match l, h with
  | [x, y, z, t], _ => exact ⟨x, y, z, t, rfl⟩
theorem c43 (l : List Shf) (b : List Box) (s : List Std) (hs : s.length ≤ 100000) (hx : ∀ y ∈ s, y.Boxes.length ≤ 100000) (h : checkS l b s = 0) (w : World) (M : Nat → Prop) (hM : ∀ b, M b → b < w.heap.size) (v0 v1 v2 : Value)
    (h0 : Den w M (shfs l) v0) (h1 : Den w M (boxes b) v1) (h2 : Den w M (stds s) v2) :
    Calls Try.prog 43 #[v0, v1, v2] w fun e w' => ∃ A0 c0 A1 c1 A2 c2, e = .returned (.tuple #[.agg #[.slice A0 l.length c0, .slice A1 b.length c1, .slice A2 s.length c2], .int .i64 0]) ∧
      Den w' M (store l b s) (.agg #[.slice A0 l.length c0, .slice A1 b.length c1, .slice A2 s.length c2]) ∧ Below w.heap.size w w' := by
  refine ((s43 l b s hs hx h).2 w M #[v0, v1, v2] hM rfl (fun i x y hx hy => ?_)).mono ?_
  · match i with
    | 0 => cases hx; cases hy; exact h0
    | 1 => cases hx; cases hy; exact h1
    | 2 => cases hx; cases hy; exact h2
    | n + 3 => simp at hx
  · rintro e w' ⟨r, rfl, hb, hd⟩
    obtain ⟨x, y, rfl, h1, h2⟩ := den_tup2 hd
    obtain ⟨A0, c0, A1, c1, A2, c2, rfl, _⟩ := den_store h1
    rw [den_int h2]
    exact ⟨_, _, _, _, _, _, rfl, h1, hb⟩
theorem c49 (l : List Shf) (b : List Box) (s : List Std) (id : Int) (hab : Asc b Box.ID) (hb : b.length ≤ 100000) (hs : s.length ≤ 100000) (i k : Int) (hloc : locR b s id = (i, k, 0)) (w : World) (M : Nat → Prop) (hM : ∀ b, M b → b < w.heap.size) (v : Value)
    (hv : Den w M (store l b s) v) :
    Calls Try.prog 49 #[v, .int .i64 id] w fun e w' => e = .returned (.tuple #[.int .i64 i, .int .i64 k, .int .i64 0]) ∧ Below w.heap.size w w' := by
  refine ((s49 l b s id hab hb hs).2 w M #[v, .int .i64 id] hM rfl (fun i x y hx hy => ?_)).mono ?_
  · match i with
    | 0 => cases hx; cases hy; exact hv
    | 1 => cases hx; cases hy; exact .int _ _
    | n + 2 => simp at hx
  · rintro e w' ⟨r, rfl, hB, hd⟩
    obtain ⟨x, y, z, rfl, h1, h2, h3⟩ := den_tup3 hd
    rw [den_int h1, den_int h2, den_int h3, hloc]
    exact ⟨rfl, hB⟩
/-- The five boxes of Find. -/
structure Five (w W : World) (v6 v7 v8 v9 v10 : Value) : Prop where
  c6 : W.cell? ⟨w.heap.size, 0, none⟩ = some v6
  c7 : W.cell? ⟨w.heap.size + 1, 0, none⟩ = some v7
  c8 : W.cell? ⟨w.heap.size + 1 + 1, 0, none⟩ = some v8
  c9 : W.cell? ⟨w.heap.size + 1 + 1 + 1, 0, none⟩ = some v9
  c10 : W.cell? ⟨w.heap.size + 1 + 1 + 1 + 1, 0, none⟩ = some v10
  f8 : W.frozen? ⟨w.heap.size + 1 + 1, 0, none⟩ = false
  f9 : W.frozen? ⟨w.heap.size + 1 + 1 + 1, 0, none⟩ = false
  f10 : W.frozen? ⟨w.heap.size + 1 + 1 + 1 + 1, 0, none⟩ = false
  below : Below w.heap.size w W
  size : w.heap.size + 1 + 1 + 1 + 1 + 1 ≤ W.heap.size
theorem Five.kept {w W W' : World} {v6 v7 v8 v9 v10 : Value} (h : Five w W v6 v7 v8 v9 v10) (hb : Below W.heap.size W W') : Five w W' v6 v7 v8 v9 v10 := by
  have hs := h.size
  have hs' := hb.size
  exact ⟨(hb.cell (p := ⟨w.heap.size, 0, none⟩) (by show w.heap.size < _; omega)).trans h.c6, (hb.cell (p := ⟨w.heap.size + 1, 0, none⟩) (by show w.heap.size + 1 < _; omega)).trans h.c7,
    (hb.cell (p := ⟨w.heap.size + 1 + 1, 0, none⟩) (by show w.heap.size + 1 + 1 < _; omega)).trans h.c8, (hb.cell (p := ⟨w.heap.size + 1 + 1 + 1, 0, none⟩) (by show w.heap.size + 1 + 1 + 1 < _; omega)).trans h.c9,
    (hb.cell (p := ⟨w.heap.size + 1 + 1 + 1 + 1, 0, none⟩) (by show w.heap.size + 1 + 1 + 1 + 1 < _; omega)).trans h.c10,
    (hb.frozen (p := ⟨w.heap.size + 1 + 1, 0, none⟩) (by show w.heap.size + 1 + 1 < _; omega)).trans h.f8, (hb.frozen (p := ⟨w.heap.size + 1 + 1 + 1, 0, none⟩) (by show w.heap.size + 1 + 1 + 1 < _; omega)).trans h.f9,
    (hb.frozen (p := ⟨w.heap.size + 1 + 1 + 1 + 1, 0, none⟩) (by show w.heap.size + 1 + 1 + 1 + 1 < _; omega)).trans h.f10, h.below.trans (hb.mono h.below.size), by omega⟩
theorem five_new (w : World) (v6 v7 v8 v9 v10 : Value) (t6 t7 t8 t9 t10 : TypeId) : Five w (((((w.alloc (.cells #[v6] t6)).alloc (.cells #[v7] t7)).alloc (.cells #[v8] t8)).alloc (.cells #[v9] t9)).alloc (.cells #[v10] t10)) v6 v7 v8 v9 v10 := by
  have b6 := Boxed.new w t6 v6
  obtain ⟨w1, hw1⟩ : ∃ w1, w.alloc (.cells #[v6] t6) = w1 := ⟨_, rfl⟩
  have z1 : w1.heap.size = w.heap.size + 1 := by rw [← hw1]; simp
  have B1 : Below w.heap.size w w1 := by rw [← hw1]; exact (Below.refl _ w).alloc (Nat.le_refl _) _
  rw [hw1] at b6 ⊢
  have b7 := Boxed.new w1 t7 v7
  obtain ⟨w2, hw2⟩ : ∃ w2, w1.alloc (.cells #[v7] t7) = w2 := ⟨_, rfl⟩
  have z2 : w2.heap.size = w1.heap.size + 1 := by rw [← hw2]; simp
  have B2 : Below w.heap.size w w2 := by rw [← hw2]; exact B1.alloc (by omega) _
  have b6 := b6.alloc (.cells #[v7] t7)
  rw [hw2] at b6 b7 ⊢
  have b8 := Boxed.new w2 t8 v8
  obtain ⟨w3, hw3⟩ : ∃ w3, w2.alloc (.cells #[v8] t8) = w3 := ⟨_, rfl⟩
  have z3 : w3.heap.size = w2.heap.size + 1 := by rw [← hw3]; simp
  have B3 : Below w.heap.size w w3 := by rw [← hw3]; exact B2.alloc (by omega) _
  have b6 := b6.alloc (.cells #[v8] t8)
  have b7 := b7.alloc (.cells #[v8] t8)
  rw [hw3] at b6 b7 b8 ⊢
  have b9 := Boxed.new w3 t9 v9
  obtain ⟨w4, hw4⟩ : ∃ w4, w3.alloc (.cells #[v9] t9) = w4 := ⟨_, rfl⟩
  have z4 : w4.heap.size = w3.heap.size + 1 := by rw [← hw4]; simp
  have B4 : Below w.heap.size w w4 := by rw [← hw4]; exact B3.alloc (by omega) _
  have b6 := b6.alloc (.cells #[v9] t9)
  have b7 := b7.alloc (.cells #[v9] t9)
  have b8 := b8.alloc (.cells #[v9] t9)
  rw [hw4] at b6 b7 b8 b9 ⊢
  have b10 := Boxed.new w4 t10 v10
  have b6 := b6.alloc (.cells #[v10] t10)
  have b7 := b7.alloc (.cells #[v10] t10)
  have b8 := b8.alloc (.cells #[v10] t10)
  have b9 := b9.alloc (.cells #[v10] t10)
  rw [z4, z3, z2, z1] at b10
  rw [z3, z2, z1] at b9
  rw [z2, z1] at b8
  rw [z1] at b7
  exact ⟨b6.cell, b7.cell, b8.cell, b9.cell, b10.cell, b8.frozen, b9.frozen, b10.frozen, B4.alloc (by omega) _, by simp; omega⟩
theorem cset_ne {V : World} {a a' : Addr} (v : Value) (u : Unit) (h : a'.block ≠ a.block) : (V.setCell a v).cell? a' = V.cell? a' := World.cell?_of_block (w := V) (Below.heap_setCell V a v a'.block h)
theorem c20 (l : List Shf) (b : List Box) (s : List Std) (id : Int) (hs : s.length ≤ 100000) (hx : ∀ y ∈ s, y.Boxes.length ≤ 100000) (h : checkS l b s = 0) (i k : Nat) (hloc : locR b s id = ((i : Int), (k : Int), 0))
    (hi : i < s.length) (hk : k < (s.getD i default).Boxes.length) (hfi : findI (s.getD i default).Boxes (eqK id) = k) (hidk : (s.getD i default).Boxes.getD k 0 = id)
    (w : World) (M : Nat → Prop) (hM : ∀ b, M b → b < w.heap.size) (A0 A1 A2 : Option Addr) (n0 n1 n2 c0 c1 c2 : Nat)
    (h0 : Den w M (shfs l) (.slice A0 n0 c0)) (h1 : Den w M (boxes b) (.slice A1 n1 c1)) (h2 : Den w M (stds s) (.slice A2 s.length c2)) (n : Nat) (hn1 : 3 ≤ n) :
    CallsIn Fence.wide n Try.prog 20 #[.slice A0 n0 c0, .slice A1 n1 c1, .slice A2 s.length c2, .int .i64 id] w fun e w' =>
      e = .returned (.tuple #[.int .i64 (s.getD i default).Shelf, .int .i64 (widthI b ((s.getD i default).Boxes.take k)), .int .i64 0]) ∧ Below w.heap.size w w' := by
  obtain ⟨bb, o, A', c', rfl, hbb, y0, y1, hids⟩ := stds_cells h2 i hi
  generalize hX : s.getD i default = X at *
  have hR := right_of h
  have h1n : 1 ≤ n := by omega
  have b128 : b.length ≤ 100000 := by have := hR.b128; omega
  have hF : ∀ f, Fence.wide.fn f := fun _ => trivial
  have hro : Fence.wide.round = none := rfl
  refine callsIn_of_wp_marks Try.func20 rfl (hF 20) ?_ hro
  simp only [Try.ntmps20, List.size_toArray, List.length_cons, List.length_nil, Nat.reduceAdd, Nat.reduceSub, Array.replicate_succ, Array.replicate_zero, List.push_toArray, List.append_toArray, List.nil_append, List.cons_append]
  have hf43 := hF 43
  have hf49 := hF 49
  have hf50 := hF 50
  have hnew := five_new w (.slice (some ⟨bb, o, none⟩) s.length c2) (.int .i64 id) (.int .i64 0) (.int .i64 0) (.int .i64 0) 24 3 3 3 28
  gi_wp2
  gi_at_call 43
  refine (callsIn_wide.2 (c43 l b s hs hx h _ M (fun b hb => Nat.lt_of_lt_of_le (hM b hb) hnew.below.size) _ _ _ (h0.kept hnew.below) (h1.kept hnew.below) (h2.kept hnew.below))).mono ?_
  rintro e w1 ⟨B0, d0, B1, d1, B2, d2, rfl, hst, hb1⟩
  have h5 := hnew.kept hb1
  clear hnew
  have h5c := h5
  obtain ⟨g6, g7, g8, g9, g10, e8, e9, e10, hbel, hsz5⟩ := h5c
  have h6 : Five w (w1.alloc (.cells #[.slice B0 l.length d0, .slice B1 b.length d1, .slice B2 s.length d2] 73)) (.slice (some ⟨bb, o, none⟩) s.length c2) (.int .i64 id) (.int .i64 0) (.int .i64 0) (.int .i64 0) := h5.kept ((Below.refl _ w1).alloc (Nat.le_refl _) _)
  have h6c := h6
  obtain ⟨k6, k7, _, _, _, _, _, _, hbel6, hsz6⟩ := h6c
  gi_wp2
  gi_at_call 49
  refine (callsIn_wide.2 (c49 l b s id hR.ab b128 hs i k hloc _ M (fun b hb => Nat.lt_of_lt_of_le (hM b hb) hbel6.size) _ (hst.kept ((Below.refl _ w1).alloc (Nat.le_refl _) _)))).mono ?_
  rintro e w2 ⟨rfl, hb2⟩
  have hz1 : w1.heap.size < (w1.alloc (.cells #[.slice B0 l.length d0, .slice B1 b.length d1, .slice B2 s.length d2] 73)).heap.size := by simp
  have q0 : w2.cell? ⟨w1.heap.size, 0, none⟩ = some (.slice B0 l.length d0) := (hb2.cell (p := ⟨w1.heap.size, 0, none⟩) hz1).trans (by simp [go_sem])
  have q1 : w2.cell? ⟨w1.heap.size, 1, none⟩ = some (.slice B1 b.length d1) := (hb2.cell (p := ⟨w1.heap.size, 1, none⟩) hz1).trans (by simp [go_sem])
  have q2 : w2.cell? ⟨w1.heap.size, 2, none⟩ = some (.slice B2 s.length d2) := (hb2.cell (p := ⟨w1.heap.size, 2, none⟩) hz1).trans (by simp [go_sem])
  have h7 := h6.kept hb2
  have hz2 : w1.heap.size < w2.heap.size := Nat.lt_of_lt_of_le hz1 hb2.size
  have hst2 : Den w2 M (store l b s) (.agg #[.slice B0 l.length d0, .slice B1 b.length d1, .slice B2 s.length d2]) := (hst.kept ((Below.refl _ w1).alloc (Nat.le_refl _) _)).kept hb2
  clear hb2 hb1 hst h6 h5 g6 g7 g8 g9 g10 e8 e9 e10 hbel hsz5 k6 k7 hbel6 hsz6 hz1
  have h8 : Five w (w2.alloc (.cells #[.int .i64 (i : Int)] 3)) (.slice (some ⟨bb, o, none⟩) s.length c2) (.int .i64 id) (.int .i64 0) (.int .i64 0) (.int .i64 0) := h7.kept ((Below.refl _ w2).alloc (Nat.le_refl _) _)
  have h8c := h8
  obtain ⟨k6, k7, k8, k9, k10, e8, e9, e10, hbel, hsz⟩ := h8c
  have u0 : (w2.alloc (.cells #[.int .i64 (i : Int)] 3)).cell? ⟨w1.heap.size, 0, none⟩ = some (.slice B0 l.length d0) := cellA _ q0
  have u1 : (w2.alloc (.cells #[.int .i64 (i : Int)] 3)).cell? ⟨w1.heap.size, 1, none⟩ = some (.slice B1 b.length d1) := cellA _ q1
  have u2 : (w2.alloc (.cells #[.int .i64 (i : Int)] 3)).cell? ⟨w1.heap.size, 2, none⟩ = some (.slice B2 s.length d2) := cellA _ q2
  have y0' := (hbel.cell (p := ⟨bb, o + i * 2, none⟩) hbb).trans y0
  have y1' := (hbel.cell (p := ⟨bb, o + i * 2 + 1, none⟩) hbb).trans y1
  gi_wp2
  have u3 : (w2.alloc (.cells #[.int .i64 (i : Int)] 3)).cell? ⟨w2.heap.size, 0, none⟩ = some (.int .i64 (i : Int)) := (Boxed.new w2 3 (.int .i64 (i : Int))).cell
  have hst3 := hst2.kept ((Below.refl _ w2).alloc (Nat.le_refl _) (.cells #[.int .i64 (i : Int)] 3))
  have hz3 : w1.heap.size < (w2.alloc (.cells #[.int .i64 (i : Int)] 3)).heap.size := by simp; omega
  have hz13 : w2.heap.size < (w2.alloc (.cells #[.int .i64 (i : Int)] 3)).heap.size := by simp
  generalize hn13 : w2.heap.size = n13 at u3 hz13 ⊢
  generalize hW : w2.alloc (.cells #[.int .i64 (i : Int)] 3) = W at *
  generalize hn11 : w1.heap.size = n11 at *
  clear hst2 hz2 h7 q0 q1 q2 hW hn13 hn11
  have hc50 := callsIn_wide.1 (c50 B0 B1 B2 A' l.length d0 b.length d1 s.length d2 X.Boxes.length c' X.Shelf (n - 1) W.drew)
  refine wpIn_wide.2 ?_
  refine wp_region_still_tail 5 mixed (by kernel_rfl) ?_
  simp only [List.take_succ_cons, List.take_zero, List.drop_succ_cons, List.drop_zero]
  iterate 5 still_step
  refine wpStill_nil ?_
  go_wp2_with (go_at_call 50; refine hc50.mono ?_; rintro e w3 ⟨rfl, rfl⟩)
  have hxX : X.Boxes.length ≤ 100000 := by rw [← hX]; exact hx _ (getD_mem s default i hi)
  have q0 : (((W.alloc (.cells #[.slice B0 l.length d0, .slice B1 b.length d1, .slice B2 s.length d2] 73)).alloc (.cells #[.int .i64 X.Shelf, .slice A' X.Boxes.length c'] 47)).drew).cell? ⟨W.heap.size, 0, none⟩ = some (.slice B0 l.length d0) := by simp [go_sem]
  have q1 : (((W.alloc (.cells #[.slice B0 l.length d0, .slice B1 b.length d1, .slice B2 s.length d2] 73)).alloc (.cells #[.int .i64 X.Shelf, .slice A' X.Boxes.length c'] 47)).drew).cell? ⟨W.heap.size, 1, none⟩ = some (.slice B1 b.length d1) := by simp [go_sem]
  have q2 : (((W.alloc (.cells #[.slice B0 l.length d0, .slice B1 b.length d1, .slice B2 s.length d2] 73)).alloc (.cells #[.int .i64 X.Shelf, .slice A' X.Boxes.length c'] 47)).drew).cell? ⟨W.heap.size, 2, none⟩ = some (.slice B2 s.length d2) := by simp [go_sem]
  have r0 : (((W.alloc (.cells #[.slice B0 l.length d0, .slice B1 b.length d1, .slice B2 s.length d2] 73)).alloc (.cells #[.int .i64 X.Shelf, .slice A' X.Boxes.length c'] 47)).drew).cell? ⟨W.heap.size + 1, 0, none⟩ = some (.int .i64 X.Shelf) := by simp [go_sem]
  have r1 : (((W.alloc (.cells #[.slice B0 l.length d0, .slice B1 b.length d1, .slice B2 s.length d2] 73)).alloc (.cells #[.int .i64 X.Shelf, .slice A' X.Boxes.length c'] 47)).drew).cell? ⟨W.heap.size + 1, 1, none⟩ = some (.slice A' X.Boxes.length c') := by simp [go_sem]
  have hBW : Below W.heap.size W (((W.alloc (.cells #[.slice B0 l.length d0, .slice B1 b.length d1, .slice B2 s.length d2] 73)).alloc (.cells #[.int .i64 X.Shelf, .slice A' X.Boxes.length c'] 47)).drew) := (((Below.refl _ W).alloc (Nat.le_refl _) _).alloc (by simp) _).drew
  have hzz : (((W.alloc (.cells #[.slice B0 l.length d0, .slice B1 b.length d1, .slice B2 s.length d2] 73)).alloc (.cells #[.int .i64 X.Shelf, .slice A' X.Boxes.length c'] 47)).drew).heap.size = W.heap.size + 1 + 1 := by show ((W.alloc _).alloc _).heap.size = _; simp
  generalize ((W.alloc (.cells #[.slice B0 l.length d0, .slice B1 b.length d1, .slice B2 s.length d2] 73)).alloc (.cells #[.int .i64 X.Shelf, .slice A' X.Boxes.length c'] 47)).drew = w3 at *
  have h9 := h8.kept hBW
  have hb9 := h9.below
  have v13 := (hBW.cell (p := ⟨n13, 0, none⟩) hz13).trans u3
  have hWz : w.heap.size ≤ W.heap.size := hbel.size
  have hz9 : w.heap.size ≤ w3.heap.size := hb9.size
  have hzL : W.heap.size < w3.heap.size ∧ W.heap.size + 1 < w3.heap.size := by omega
  have hst70 := stops70 l b s hR.ab b128 hR.wb X.Boxes hxX W M (fun b hb => Nat.lt_of_lt_of_le (hM b hb) hWz) B0 B1 B2 d0 d1 d2 hst3 X.Shelf A' c' (hids.kept hbel) (n - 1) (by omega) W.heap.size (W.heap.size + 1) w3 hBW hzL.1 hzL.2 q0 q1 q2 r0 r1
  have hmem : (X.Boxes.getD k 0, widthI b (X.Boxes.take k)) ∈ upto (offF b X.Boxes) (X.Boxes.length + 1) := List.mem_map.2 ⟨k, List.mem_range.2 (by omega), rfl⟩
  clear q0 q1 q2 r0 r1 h8 k6 k7 k8 k9 k10 e8 e9 e10 hsz y0' y1' u0 u1 u2 u3 hst3 hc50 hbel hids hzz
  gi_wp2
  refine wpIn_rangeFunc_ownF hro h1n (gf := 70) (lb := #[.pointer (some ⟨W.heap.size + 1, 0, none⟩), .pointer (some ⟨W.heap.size, 0, none⟩)]) rfl (hF 70) (enters_of Try.func70 (by kernel_rfl) rfl)
    hst70 (fun h k => kpB_t h k) (kpB_b (by have := hBW.size; omega)) (Below.refl _ _) (fun _ => rfl)
    (fun pre V => ((∀ p ∈ pre, p.1 ≠ id) ∧ V.cell? ⟨w.heap.size, 0, none⟩ = some (.slice (some ⟨bb, o, none⟩) s.length c2) ∧ V.cell? ⟨w.heap.size + 1, 0, none⟩ = some (.int .i64 id) ∧ V.cell? ⟨n13, 0, none⟩ = some (.int .i64 (i : Int)) ∧
      V.cell? ⟨w.heap.size + 1 + 1, 0, none⟩ = some (.int .i64 0) ∧ V.cell? ⟨w.heap.size + 1 + 1 + 1, 0, none⟩ = some (.int .i64 0) ∧ V.cell? ⟨w.heap.size + 1 + 1 + 1 + 1, 0, none⟩ = some (.int .i64 0) ∧
      V.frozen? ⟨w.heap.size + 1 + 1, 0, none⟩ = false ∧ V.frozen? ⟨w.heap.size + 1 + 1 + 1, 0, none⟩ = false ∧ V.frozen? ⟨w.heap.size + 1 + 1 + 1 + 1, 0, none⟩ = false) ∧ Below w.heap.size w V)
    (fun c pre V => (c = .ret ∧ ∃ ini last, pre = ini ++ [last] ∧ (∀ p ∈ ini, p.1 ≠ id) ∧ last.1 = id ∧ V.cell? ⟨w.heap.size + 1 + 1, 0, none⟩ = some (.int .i64 X.Shelf) ∧ V.cell? ⟨w.heap.size + 1 + 1 + 1, 0, none⟩ = some (.int .i64 last.2) ∧
      V.cell? ⟨w.heap.size + 1 + 1 + 1 + 1, 0, none⟩ = some (.int .i64 0)) ∧ Below w.heap.size w V)
    (OwnFrom.and (Own.from (fun s A B row hs hg hr => ⟨hs.1, cell_kept hs.2.1 hg hr, cell_kept hs.2.2.1 hg hr, cell_kept hs.2.2.2.1 hg hr, cell_kept hs.2.2.2.2.1 hg hr, cell_kept hs.2.2.2.2.2.1 hg hr, cell_kept hs.2.2.2.2.2.2.1 hg hr,
      (frozen_kept hs.2.2.2.2.1 hg hr).trans hs.2.2.2.2.2.2.2.1, (frozen_kept hs.2.2.2.2.2.1 hg hr).trans hs.2.2.2.2.2.2.2.2.1, (frozen_kept hs.2.2.2.2.2.2.1 hg hr).trans hs.2.2.2.2.2.2.2.2.2⟩) _) (ownFrom_below (Nat.le_refl _) hz9))
    (fun c => OwnFrom.and (Own.from (fun s A B row hs hg hr => by obtain ⟨hc, ini, last, e1, e2, e3, e4, e5, e6⟩ := hs; exact ⟨hc, ini, last, e1, e2, e3, cell_kept e4 hg hr, cell_kept e5 hg hr, cell_kept e6 hg hr⟩) _) (ownFrom_below (Nat.le_refl _) hz9))
    ⟨⟨by simp, h9.c6, h9.c7, v13, h9.c8, h9.c9, h9.c10, h9.f8, h9.f9, h9.f10⟩, hb9⟩
    (fun p => { tmps := #[.slice A0 n0 c0, .slice A1 n1 c1, .slice (some ⟨bb, o, none⟩) s.length c2, .int .i64 id, undef, undef, .pointer (some ⟨w.heap.size, 0, none⟩), .pointer (some ⟨w.heap.size + 1, 0, none⟩), .pointer (some ⟨w.heap.size + 1 + 1, 0, none⟩), .pointer (some ⟨w.heap.size + 1 + 1 + 1, 0, none⟩),
      .pointer (some ⟨w.heap.size + 1 + 1 + 1 + 1, 0, none⟩), .pointer (some ⟨n11, 0, none⟩), .int .i64 0, .pointer (some ⟨n13, 0, none⟩), .int .i64 (k : Int), .int .i64 p.1, .int .i64 p.2, .tuple #[.agg #[.slice B0 l.length d0, .slice B1 b.length d1, .slice B2 s.length d2], .int .i64 0],
      .slice A0 n0 c0, .slice A1 n1 c1, .slice (some ⟨bb, o, none⟩) s.length c2, .tuple #[.agg #[.slice B0 l.length d0, .slice B1 b.length d1, .slice B2 s.length d2], .int .i64 0], .agg #[.slice B0 l.length d0, .slice B1 b.length d1, .slice B2 s.length d2], .int .i64 0, .int .i64 0, .bool false, undef,
      .tuple #[.int .i64 (i : Int), .int .i64 (k : Int), .int .i64 0], .agg #[.slice B0 l.length d0, .slice B1 b.length d1, .slice B2 s.length d2], .int .i64 id, .tuple #[.int .i64 (i : Int), .int .i64 (k : Int), .int .i64 0], .int .i64 (i : Int), .int .i64 (k : Int), .int .i64 0, .int .i64 0, .bool false, undef,
      .agg #[.slice B0 l.length d0, .slice B1 b.length d1, .slice B2 s.length d2], .slice (some ⟨bb, o, none⟩) s.length c2, .int .i64 (i : Int), .pointer (some ⟨bb, o + i * 2, none⟩), .agg #[.int .i64 X.Shelf, .slice A' X.Boxes.length c'],
      .func (.func 70) #[] #[.pointer (some ⟨W.heap.size + 1, 0, none⟩), .pointer (some ⟨W.heap.size, 0, none⟩)], .int .i64 p.1, .int .i64 p.2, undef, undef, undef, undef, undef, undef, undef, undef, undef], defers := [] }) ?assign ?body ?done ?stop
  case assign =>
    clear hst70 h9 hmem hBW
    intro lp p V K hK
    gi_wp2
    exact hK
  case body =>
    clear hst70 h9 hmem hBW
    rintro lp pre p V ⟨⟨hp, x6, x7, x13, x8, x9, x10, z8, z9, z10⟩, hB⟩ _
    have yy := (hB.cell (p := ⟨bb, o + i * 2, none⟩) hbb).trans y0
    gi_wp2
    · rename_i hx
      have hx := eq_of_beq hx
      refine ⟨((KeepsOthers.setCell _ _ _).trans (KeepsOthers.setCell _ _ _)).trans (KeepsOthers.setCell _ _ _), ⟨rfl, pre, p, rfl, hp, hx, ?_, ?_, ?_⟩,
        ((hB.setCell (p := ⟨w.heap.size + 1 + 1, 0, none⟩) (by show _ ≤ w.heap.size + 1 + 1; omega) _).setCell (p := ⟨w.heap.size + 1 + 1 + 1, 0, none⟩) (by show _ ≤ w.heap.size + 1 + 1 + 1; omega) _).setCell (p := ⟨w.heap.size + 1 + 1 + 1 + 1, 0, none⟩) (by show _ ≤ w.heap.size + 1 + 1 + 1 + 1; omega) _⟩
      · rw [cset_ne _ () (by show w.heap.size + 1 + 1 ≠ w.heap.size + 1 + 1 + 1 + 1; omega), cset_ne _ () (by show w.heap.size + 1 + 1 ≠ w.heap.size + 1 + 1 + 1; omega)]
        exact World.cell?_setCell_same' _ _ _ (by rw [x8]; rfl)
      · rw [cset_ne _ () (by show w.heap.size + 1 + 1 + 1 ≠ w.heap.size + 1 + 1 + 1 + 1; omega)]
        exact World.cell?_setCell_same' _ _ _ (by rw [cset_ne _ () (by show w.heap.size + 1 + 1 + 1 ≠ w.heap.size + 1 + 1; omega), x9]; rfl)
      · exact World.cell?_setCell_same' _ _ _ (by rw [cset_ne _ () (by show w.heap.size + 1 + 1 + 1 + 1 ≠ w.heap.size + 1 + 1 + 1; omega), cset_ne _ () (by show w.heap.size + 1 + 1 + 1 + 1 ≠ w.heap.size + 1 + 1; omega), x10]; rfl)
    · rename_i hx
      refine ⟨KeepsOthers.refl _, ⟨Below.refl _ _, fun _ _ h => h⟩, ⟨fun q hq => ?_, x6, x7, x13, x8, x9, x10, z8, z9, z10⟩, hB⟩
      rcases List.mem_append.1 hq with h | h
      · exact hp q h
      · simp only [List.mem_singleton] at h
        subst h
        intro e
        rw [e] at hx
        simp at hx
  case done =>
    rintro D ys V hD rfl ⟨⟨hne, _⟩, hB⟩ hK
    exact absurd hidk (hne _ hmem)
  case stop =>
    rintro D c pre V hD ⟨m, hm, rfl⟩ ⟨⟨rfl, ini, last, e1, e2, e3, x8, x9, x10⟩, hB⟩ hK
    clear hst70 h9 hBW
    have hlast : last.2 = widthI b (X.Boxes.take k) := by
      obtain ⟨m', rfl⟩ : ∃ m', m = m' + 1 := by
        cases m with
        | zero => simp [upto] at e1
        | succ m' => exact ⟨m', rfl⟩
      rw [upto_succ] at e1
      obtain ⟨rfl, e5⟩ := List.append_inj' e1 rfl
      have e6 : offF b X.Boxes m' = last := by simpa using e5
      subst e6
      have e7 : ∀ j, j < m' → X.Boxes.getD j 0 ≠ id := fun j hj => e2 (offF b X.Boxes j) (List.mem_map.2 ⟨j, List.mem_range.2 hj, rfl⟩)
      have : m' = k := by
        rcases Nat.lt_trichotomy m' k with h | h | h
        · have := findI_hit X.Boxes (eqK id) m' (by omega) (show decide (X.Boxes.getD m' 0 = id) = true from decide_eq_true e3) (fun j hj => show decide (X.Boxes.getD j 0 = id) = false from decide_eq_false (e7 j hj))
          omega
        · exact h
        · exact absurd hidk (e7 k h)
      subst this
      rfl
    rw [hlast] at x9
    have c8 := cell_kept x8 (grownBy_putObj' _ D (.deferred none)) (fun r e => by cases e; exact ⟨_, hK, rfl⟩)
    have c9 := cell_kept x9 (grownBy_putObj' _ D (.deferred none)) (fun r e => by cases e; exact ⟨_, hK, rfl⟩)
    have c10 := cell_kept x10 (grownBy_putObj' _ D (.deferred none)) (fun r e => by cases e; exact ⟨_, hK, rfl⟩)
    clear hmem hlast e1 e2 e3
    gi_wp2
    refine ⟨by simp, .inl ⟨_, _, rfl, run_takeDeferred hK, ?_⟩⟩
    refine ⟨.tuple #[.int .i64 X.Shelf, .int .i64 (widthI b (X.Boxes.take k)), .int .i64 0], ?_, rfl, hB.trans (belowK_b (w := w) (Nat.le_refl _) V D _ _ (by omega) hK rfl rfl)⟩
    simp [results, Try.f20, go_sem, c8, c9, c10]
theorem s20 (l : List Shf) (b : List Box) (s : List Std) (id : Int) (hs : s.length ≤ 100000) (hx : ∀ y ∈ s, y.Boxes.length ≤ 100000) :
    Spec Try.prog 20 [shfs l, boxes b, stds s, .int .i64 id] (.tup [.int .i64 (findR l b s id).1, .int .i64 (findR l b s id).2.1, .int .i64 (findR l b s id).2.2]) := by
  by_cases h : checkS l b s = 0
  · have hR := right_of h
    have b128 : b.length ≤ 100000 := by have := hR.b128; omega
    have e0 : findR l b s id = if isK b Box.ID id = false then (0, 0, 7) else if (findP id 0 s).1 < 0 then (0, 0, 11)
      else ((s.getD (findP id 0 s).1.toNat default).Shelf, widthI b ((s.getD (findP id 0 s).1.toNat default).Boxes.take (findP id 0 s).2.toNat), 0) := by rw [findR, if_neg (fun g => g h)]
    by_cases h1 : isK b Box.ID id = false
    · have e : findR l b s id = (0, 0, 7) := by rw [e0, if_pos h1]
      rw [e]
      refine spec_of_good mixed Try.func20 F20_ok (by kernel_rfl) ?_
      have s43a := s43 l b s hs hx h
      have e2 : locR b s id = (0, 0, 7) := by rw [locR, if_pos h1]
      have s49a : Spec Try.prog 49 [store l b s, .int .i64 id] (.tup [.int .i64 0, .int .i64 0, .int .i64 7]) := by
        have := s49 l b s id hR.ab b128 hs
        rwa [e2] at this
      refine good_run 14 (obs := []) (by kernel_rfl) trivial ?_
      refine good_call (c := True) (by kernel_rfl) (fun _ => SVles.refl _) (fun _ => s43a) (by kernel_rfl) ?_
      refine good_run 15 (obs := [(3 : Nat) = (3 : Nat) ∧ (0 : Nat) + (3 : Nat) ≤ (3 : Nat)]) (by kernel_rfl) (by (first | omega | assumption | exact ⟨rfl, trivial⟩ | simp only [AllP, inK_iff, roomOK_iff, decide_eq_true_eq, Bool.and_eq_true, Bool.or_eq_true, Bool.not_eq_true', decide_eq_false_iff_not, and_true, true_and]; (first | omega | (and_intros <;> intros <;> (try and_intros) <;> first | omega | assumption | exact trivial)))) ?_
      refine good_cond false (by kernel_rfl) (fun h => nomatch h) (fun _ => ?_)
      refine good_run 5 (obs := [(0 : Nat) + (3 : Nat) ≤ (3 : Nat)]) (by kernel_rfl) (by (first | omega | assumption | exact ⟨rfl, trivial⟩ | simp only [AllP, inK_iff, roomOK_iff, decide_eq_true_eq, Bool.and_eq_true, Bool.or_eq_true, Bool.not_eq_true', decide_eq_false_iff_not, and_true, true_and]; (first | omega | (and_intros <;> intros <;> (try and_intros) <;> first | omega | assumption | exact trivial)))) ?_
      refine good_call (c := True) (by kernel_rfl) (fun _ => SVles.refl _) (fun _ => s49a) (by kernel_rfl) ?_
      refine good_run 17 (obs := [(1 : Nat) = (1 : Nat) ∧ (0 : Nat) + (1 : Nat) ≤ (1 : Nat)]) (by kernel_rfl) (by (first | omega | assumption | exact ⟨rfl, trivial⟩ | simp only [AllP, inK_iff, roomOK_iff, decide_eq_true_eq, Bool.and_eq_true, Bool.or_eq_true, Bool.not_eq_true', decide_eq_false_iff_not, and_true, true_and]; (first | omega | (and_intros <;> intros <;> (try and_intros) <;> first | omega | assumption | exact trivial)))) ?_
      refine good_cond true (by kernel_rfl) (fun _ => ?_) (fun h => nomatch h)
      refine good_run 10 (obs := [(1 : Nat) = (1 : Nat) ∧ (0 : Nat) + (1 : Nat) ≤ (1 : Nat), (1 : Nat) = (1 : Nat) ∧ (0 : Nat) + (1 : Nat) ≤ (1 : Nat), (1 : Nat) = (1 : Nat) ∧ (0 : Nat) + (1 : Nat) ≤ (1 : Nat)]) (by kernel_rfl) (by (first | omega | assumption | exact ⟨rfl, trivial⟩ | simp only [AllP, inK_iff, roomOK_iff, decide_eq_true_eq, Bool.and_eq_true, Bool.or_eq_true, Bool.not_eq_true', decide_eq_false_iff_not, and_true, true_and]; (first | omega | (and_intros <;> intros <;> (try and_intros) <;> first | omega | assumption | exact trivial)))) ?_
      refine good_fin [(0 : Int) = (0 : Int), (0 : Int) = (0 : Int), (7 : Int) = (7 : Int)] (by kernel_rfl) ⟨rfl, rfl, rfl, trivial⟩
    · rcases findP_cases id s 0 with ⟨g1, g2⟩ | ⟨i, k, hi, hk, g1, g2, g3, g4⟩
      · have e : findR l b s id = (0, 0, 11) := by rw [e0, if_neg h1, if_pos (by rw [g1]; decide)]
        rw [e]
        refine spec_of_good mixed Try.func20 F20_ok (by kernel_rfl) ?_
        have s43a := s43 l b s hs hx h
        have e2 : locR b s id = (0, 0, 11) := by rw [locR, if_neg h1, if_pos (by rw [g1]; decide)]
        have s49a : Spec Try.prog 49 [store l b s, .int .i64 id] (.tup [.int .i64 0, .int .i64 0, .int .i64 11]) := by
          have := s49 l b s id hR.ab b128 hs
          rwa [e2] at this
        refine good_run 14 (obs := []) (by kernel_rfl) trivial ?_
        refine good_call (c := True) (by kernel_rfl) (fun _ => SVles.refl _) (fun _ => s43a) (by kernel_rfl) ?_
        refine good_run 15 (obs := [(3 : Nat) = (3 : Nat) ∧ (0 : Nat) + (3 : Nat) ≤ (3 : Nat)]) (by kernel_rfl) (by (first | omega | assumption | exact ⟨rfl, trivial⟩ | simp only [AllP, inK_iff, roomOK_iff, decide_eq_true_eq, Bool.and_eq_true, Bool.or_eq_true, Bool.not_eq_true', decide_eq_false_iff_not, and_true, true_and]; (first | omega | (and_intros <;> intros <;> (try and_intros) <;> first | omega | assumption | exact trivial)))) ?_
        refine good_cond false (by kernel_rfl) (fun h => nomatch h) (fun _ => ?_)
        refine good_run 5 (obs := [(0 : Nat) + (3 : Nat) ≤ (3 : Nat)]) (by kernel_rfl) (by (first | omega | assumption | exact ⟨rfl, trivial⟩ | simp only [AllP, inK_iff, roomOK_iff, decide_eq_true_eq, Bool.and_eq_true, Bool.or_eq_true, Bool.not_eq_true', decide_eq_false_iff_not, and_true, true_and]; (first | omega | (and_intros <;> intros <;> (try and_intros) <;> first | omega | assumption | exact trivial)))) ?_
        refine good_call (c := True) (by kernel_rfl) (fun _ => SVles.refl _) (fun _ => s49a) (by kernel_rfl) ?_
        refine good_run 17 (obs := [(1 : Nat) = (1 : Nat) ∧ (0 : Nat) + (1 : Nat) ≤ (1 : Nat)]) (by kernel_rfl) (by (first | omega | assumption | exact ⟨rfl, trivial⟩ | simp only [AllP, inK_iff, roomOK_iff, decide_eq_true_eq, Bool.and_eq_true, Bool.or_eq_true, Bool.not_eq_true', decide_eq_false_iff_not, and_true, true_and]; (first | omega | (and_intros <;> intros <;> (try and_intros) <;> first | omega | assumption | exact trivial)))) ?_
        refine good_cond true (by kernel_rfl) (fun _ => ?_) (fun h => nomatch h)
        refine good_run 10 (obs := [(1 : Nat) = (1 : Nat) ∧ (0 : Nat) + (1 : Nat) ≤ (1 : Nat), (1 : Nat) = (1 : Nat) ∧ (0 : Nat) + (1 : Nat) ≤ (1 : Nat), (1 : Nat) = (1 : Nat) ∧ (0 : Nat) + (1 : Nat) ≤ (1 : Nat)]) (by kernel_rfl) (by (first | omega | assumption | exact ⟨rfl, trivial⟩ | simp only [AllP, inK_iff, roomOK_iff, decide_eq_true_eq, Bool.and_eq_true, Bool.or_eq_true, Bool.not_eq_true', decide_eq_false_iff_not, and_true, true_and]; (first | omega | (and_intros <;> intros <;> (try and_intros) <;> first | omega | assumption | exact trivial)))) ?_
        refine good_fin [(0 : Int) = (0 : Int), (0 : Int) = (0 : Int), (11 : Int) = (11 : Int)] (by kernel_rfl) ⟨rfl, rfl, rfl, trivial⟩
      · rw [Nat.zero_add] at g1
        have e : findR l b s id = ((s.getD i default).Shelf, widthI b ((s.getD i default).Boxes.take k), 0) := by
          rw [e0, if_neg h1, if_neg (by rw [g1]; show ¬ (i : Int) < 0; omega), g1]
          rfl
        have e2 : locR b s id = ((i : Int), (k : Int), 0) := by
          rw [locR, if_neg h1, if_neg (by rw [g1]; show ¬ (i : Int) < 0; omega), g1]
        rw [e]
        refine ⟨hasBody_of_slim Try.func20 F20_ok, fun w M vs hM hlen hden => ?_⟩
        obtain ⟨v0, v1, v2, v3, rfl⟩ := list_len4 vs hlen
        have d0 := hden 0 _ _ rfl rfl
        have d1 := hden 1 _ _ rfl rfl
        have d2 := hden 2 _ _ rfl rfl
        obtain rfl := den_int (hden 3 _ _ rfl rfl)
        obtain ⟨A0, c0, rfl⟩ := den_lst d0
        obtain ⟨A1, c1, rfl⟩ := den_lst d1
        obtain ⟨A2, c2, rfl⟩ := den_lst d2
        refine (callsIn_wide.1 (c20 l b s id hs hx h i k e2 hi hk g2 g3 w M hM A0 A1 A2 _ _ 0 c0 c1 c2 d0 d1 d2 3 (Nat.le_refl _))).mono ?_
        rintro e w' ⟨rfl, hB⟩
        refine ⟨_, rfl, hB, .tup _ _ rfl fun i x y hx hy => ?_⟩
        match i with
        | 0 => cases hx; cases hy; exact .int _ _
        | 1 => cases hx; cases hy; exact .int _ _
        | 2 => cases hx; cases hy; exact .int _ _
        | n + 3 => simp at hx
  · have e : findR l b s id = (0, 0, 1) := by rw [findR, if_pos h]
    rw [e]
    refine spec_of_good mixed Try.func20 F20_ok (by kernel_rfl) ?_
    have s43a := s43a l b s hs hx h
    refine good_run 14 (obs := []) (by kernel_rfl) trivial ?_
    refine good_call (c := True) (by kernel_rfl) (fun _ => SVles.refl _) (fun _ => s43a) (by kernel_rfl) ?_
    refine good_run 15 (obs := [(3 : Nat) = (3 : Nat) ∧ (0 : Nat) + (3 : Nat) ≤ (3 : Nat)]) (by kernel_rfl) (by (first | omega | assumption | exact ⟨rfl, trivial⟩ | simp only [AllP, inK_iff, roomOK_iff, decide_eq_true_eq, Bool.and_eq_true, Bool.or_eq_true, Bool.not_eq_true', decide_eq_false_iff_not, and_true, true_and]; (first | omega | (and_intros <;> intros <;> (try and_intros) <;> first | omega | assumption | exact trivial)))) ?_
    refine good_cond true (by kernel_rfl) (fun _ => ?_) (fun h => nomatch h)
    refine good_run 10 (obs := [(1 : Nat) = (1 : Nat) ∧ (0 : Nat) + (1 : Nat) ≤ (1 : Nat), (1 : Nat) = (1 : Nat) ∧ (0 : Nat) + (1 : Nat) ≤ (1 : Nat), (1 : Nat) = (1 : Nat) ∧ (0 : Nat) + (1 : Nat) ≤ (1 : Nat)]) (by kernel_rfl) (by (first | omega | assumption | exact ⟨rfl, trivial⟩ | simp only [AllP, inK_iff, roomOK_iff, decide_eq_true_eq, Bool.and_eq_true, Bool.or_eq_true, Bool.not_eq_true', decide_eq_false_iff_not, and_true, true_and]; (first | omega | (and_intros <;> intros <;> (try and_intros) <;> first | omega | assumption | exact trivial)))) ?_
    refine good_fin [(0 : Int) = (0 : Int), (0 : Int) = (0 : Int), (1 : Int) = (1 : Int)] (by kernel_rfl) ⟨rfl, rfl, rfl, trivial⟩
end Go.Sx.T
