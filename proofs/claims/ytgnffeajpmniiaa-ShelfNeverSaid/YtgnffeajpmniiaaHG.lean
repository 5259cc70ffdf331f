/- Contracts of functions of the program, each proved by running its code symbolically (HG). -/
import Derived.Test.YtgnffeajpmniiaaHF
import Derived.Test.YtgnffeajpmniiaaSx4
import Derived.RangeFuncNested
import Derived.RangeFuncBound
import Derived.RangeFuncCalls
import Derived.RangeFuncLeaves
import Derived.Shelf.Abstract
import Derived.Shelf.RegionOpen
import Derived.WalkKit
import Derived.OwnWalkIn
import Derived.TacticsInMore
import Derived.LoopNIn
import Derived.LoopIn
namespace Go.Sx.T
open Go Go.Proofs Go.Sx Go.RowKit Go.Shelf
set_option maxRecDepth 100000
set_option maxHeartbeats 4000000
set_option linter.unusedVariables false
set_option linter.unusedSimpArgs false
attribute [local go_sem] Oper.semAt_some
theorem den_int {w : World} {M : Nat → Prop} {k : IntKind} {n : Int} {v : Value} (h : Den w M (.int k n) v) : v = .int k n := by
  cases h; rfl
theorem den_bool {w : World} {M : Nat → Prop} {b : Bool} {v : Value} (h : Den w M (.bool b) v) : v = .bool b := by
  cases h; rfl
theorem den_lst {w : World} {M : Nat → Prop} {sz n : Nat} {get : Nat → List SV} {v : Value} (h : Den w M (.lst sz n get) v) : ∃ A c, v = .slice A n c := by
  cases h; exact ⟨_, _, rfl⟩
theorem list_len2 {α : Type} (a : Array α) (h : 2 = a.size) : ∃ x y, a = #[x, y] := by
  obtain ⟨l⟩ := a
  match l, h with
  | [x, y], _ => exact ⟨x, y, rfl⟩
theorem list_len3 {α : Type} (a : Array α) (h : 3 = a.size) : ∃ x y z, a = #[x, y, z] := by
  obtain ⟨l⟩ := a
  match l, h with
  | [x, y, z], _ => exact ⟨x, y, z, rfl⟩
theorem list_len5 {α : Type} (a : Array α) (h : 5 = a.size) : ∃ x y z u v, a = #[x, y, z, u, v] := by
  obtain ⟨l⟩ := a
  match l, h with
  | [x, y, z, u, v], _ => exact ⟨x, y, z, u, v, rfl⟩
theorem den_tup2 {w : World} {M : Nat → Prop} {a b : SV} {v : Value} (h : Den w M (.tup [a, b]) v) : ∃ x y, v = .tuple #[x, y] ∧ Den w M a x ∧ Den w M b y := by
  cases h with
  | tup cs vs hl h =>
    obtain ⟨x, y, rfl⟩ := list_len2 vs (by simpa using hl)
    exact ⟨x, y, rfl, h 0 _ _ rfl rfl, h 1 _ _ rfl rfl⟩
theorem den_agg2 {w : World} {M : Nat → Prop} {a b : SV} {v : Value} (h : Den w M (.agg [a, b]) v) : ∃ x y, v = .agg #[x, y] ∧ Den w M a x ∧ Den w M b y := by
  cases h with
  | agg cs vs hl h1 h =>
    obtain ⟨x, y, rfl⟩ := list_len2 vs (by simpa using hl)
    exact ⟨x, y, rfl, h 0 _ _ rfl rfl, h 1 _ _ rfl rfl⟩
theorem den_agg3 {w : World} {M : Nat → Prop} {a b c : SV} {v : Value} (h : Den w M (.agg [a, b, c]) v) : ∃ x y z, v = .agg #[x, y, z] ∧ Den w M a x ∧ Den w M b y ∧ Den w M c z := by
  cases h with
  | agg cs vs hl h1 h =>
    obtain ⟨x, y, z, rfl⟩ := list_len3 vs (by simpa using hl)
    exact ⟨x, y, z, rfl, h 0 _ _ rfl rfl, h 1 _ _ rfl rfl, h 2 _ _ rfl rfl⟩
theorem den_agg5 {w : World} {M : Nat → Prop} {a b c d e : SV} {v : Value} (h : Den w M (.agg [a, b, c, d, e]) v) : ∃ x y z t u, v = .agg #[x, y, z, t, u] ∧ Den w M a x ∧ Den w M b y ∧ Den w M c z ∧ Den w M d t ∧ Den w M e u := by
  cases h with
  | agg cs vs hl h1 h =>
    obtain ⟨x, y, z, t, u, rfl⟩ := list_len5 vs (by simpa using hl)
    exact ⟨x, y, z, t, u, rfl, h 0 _ _ rfl rfl, h 1 _ _ rfl rfl, h 2 _ _ rfl rfl, h 3 _ _ rfl rfl, h 4 _ _ rfl rfl⟩
theorem den_store {w : World} {M : Nat → Prop} {l : List Shf} {b : List Box} {s : List Std} {v : Value} (h : Den w M (store l b s) v) :
    ∃ A0 c0 A1 c1 A2 c2, v = .agg #[.slice A0 l.length c0, .slice A1 b.length c1, .slice A2 s.length c2] ∧ Den w M (shfs l) (.slice A0 l.length c0) ∧ Den w M (boxes b) (.slice A1 b.length c1) ∧ Den w M (stds s) (.slice A2 s.length c2) := by
  obtain ⟨x, y, z, rfl, h1, h2, h3⟩ := den_agg3 h
  obtain ⟨A0, c0, rfl⟩ := den_lst h1
  obtain ⟨A1, c1, rfl⟩ := den_lst h2
  obtain ⟨A2, c2, rfl⟩ := den_lst h3
  exact ⟨A0, c0, A1, c1, A2, c2, rfl, h1, h2, h3⟩
/-- The call of (store).box. -/
theorem c52 (l : List Shf) (b : List Box) (s : List Std) (id : Int) (hr : Asc b Box.ID) (hl : b.length ≤ 100000) (w : World) (M : Nat → Prop) (hM : ∀ b, M b → b < w.heap.size) (v : Value) (hv : Den w M (store l b s) v) :
    Calls Try.prog 52 #[v, .int .i64 id] w fun e w' => ∃ i0 i2 i3 A n c bb, e = .returned (.tuple #[.agg #[.int .i64 i0, .int .i64 (atK b Box.ID id).Width, .int .i64 i2, .int .i64 i3, .slice A n c], .bool bb]) ∧ Below w.heap.size w w' := by
  refine ((s52 l b s id hr hl).2 w M #[v, .int .i64 id] hM rfl (fun i x y hx hy => ?_)).mono ?_
  · match i with
    | 0 => cases hx; cases hy; exact hv
    | 1 => cases hx; cases hy; exact .int _ _
    | n + 2 => simp at hx
  · rintro e w' ⟨r, rfl, hb, hd⟩
    obtain ⟨x, y, rfl, h1, h2⟩ := den_tup2 hd
    obtain ⟨a0, a1, a2, a3, a4, rfl, g0, g1, g2, g3, g4⟩ := den_agg5 h1
    obtain ⟨A, c, rfl⟩ := den_lst g4
    rw [den_int g0, den_int g1, den_int g2, den_int g3, den_bool h2]
    exact ⟨_, _, _, _, _, _, _, rfl, hb⟩
def upto {α : Type} (f : Nat → α) (k : Nat) : List α := (List.range k).map f
theorem upto_succ {α : Type} (f : Nat → α) (k : Nat) : upto f (k + 1) = upto f k ++ [f k] := by simp [upto, List.range_succ]
theorem upto_length {α : Type} (f : Nat → α) (k : Nat) : (upto f k).length = k := by simp [upto]
/-- What the iterator yields. -/
def offF (b : List Box) (x : List Int) (j : Nat) : Int × Int := (x.getD j 0, widthI b (x.take j))
/-- What a round that goes on keeps. -/
def KpB (n₀ B : Nat) (W W' : World) : Prop := Below n₀ W W' ∧ ∀ o v, W.cell? ⟨B, o, none⟩ = some v → W'.cell? ⟨B, o, none⟩ = some v
theorem kpB_t {n₀ B : Nat} {X Y Z : World} (h : KpB n₀ B X Y) (k : KpB n₀ B Y Z) : KpB n₀ B X Z := ⟨h.1.trans k.1, fun o v e => k.2 o v (h.2 o v e)⟩
theorem kpB_b {n₀ B : Nat} {w : World} (hn : n₀ ≤ w.heap.size) (W : World) (l : Nat) (o o' : Obj) (hl : w.heap.size ≤ l) (h : W.heap[l]? = some o) (hc : o.isCells = false) (hw : o.isWalk = false) : KpB n₀ B W (W.putObj l o') := by
  refine ⟨belowK_b hn W l o o' hl h hc hw, fun i v hi => ?_⟩
  by_cases e : B = l
  · subst e
    unfold World.cell? at hi
    rw [h] at hi
    cases o <;> simp_all [Obj.isCells]
  · unfold World.cell? at hi ⊢
    rw [World.putObj_heap_other e]
    exact hi
end Go.Sx.T
