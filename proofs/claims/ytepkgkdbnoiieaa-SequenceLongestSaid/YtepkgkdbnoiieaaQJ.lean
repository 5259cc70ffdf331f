/- Contracts of functions of the program, each proved by running its code symbolically (QJ). -/
import Derived.Test.YtepkgkdbnoiieaaQI
import Derived.Test.YtepkgkdbnoiieaaQH
import Derived.Test.YtepkgkdbnoiieaaSxKeys
import Derived.Test.YtepkgkdbnoiieaaQY
import Derived.Test.YtepkgkdbnoiieaaQSY
import Derived.RangeFuncBox
import Derived.RangeFuncLeaves
import Derived.Shelf.Abstract
import Derived.Shelf.RegionOpen
import Derived.WalkKit
import Derived.OwnWalkIn
import Derived.TacticsInMore
import Derived.LoopNIn
import Derived.LoopIn
namespace Go.Sx.T
open Go Go.RowKit Go.Sort Go.Proofs Go.Shelf Go.Maps Go.Sx
set_option maxRecDepth 100000
set_option maxHeartbeats 4000000
set_option linter.unusedVariables false
set_option linter.unusedSimpArgs false
attribute [local go_sem] Oper.semAt_some
section
variable {P : Program} {ρ : Ren}
/-- What an iterator value gives, against callers that leave what lay before alone. -/
def SeqB (F : Fence) (n : Nat) (P : Program) (g : Nat) (lb : Array Value) (S : List Int → Prop) (N : Nat) (w : World) : Prop :=
  ∀ (l : Nat) (J : List Int → World → Prop) (W : World), Below w.heap.size w W → AbidesFrom W.heap.size J → (∀ pre W, J pre W → Below w.heap.size w W) →
    (∀ pre x W1, J pre W1 → pre.length < N → YieldAt F (n - 1) P l #[encZ x] W1 fun e W' => e = .returned (.bool true) ∧ J (pre ++ [x]) W' ∧ KeepsWalks W1 W') →
    J [] W → CallsIn F n P g (#[.func (.yield l) #[] #[]] ++ lb) W fun e W' => (∃ v, e = .returned v) ∧ ∃ xs, S xs ∧ J xs W'
theorem allOne_kept {W W' : World} {v : Value} (h : AllOne W v) (hk : ∀ g, blkNo v = some g → W'.heap[g]? = W.heap[g]?) : AllOne W' v := fun g cur t fr hb hh u hu => h g cur t fr hb ((hk g hb).symm.trans hh) u hu
theorem allOne_alloc {W : World} {base : Nat} {e : TypeId} {size : Nat} {v : Value} {k : Nat} {xs : List Value} (hr : W.ownsRow base e size v k xs) (h : AllOne W v) (o : Obj) : AllOne (W.alloc o) v := allOne_kept h fun g hb => by
  rcases hr.2 with ⟨rfl, _⟩ | ⟨g', cap, cur, rfl, _, hg, _⟩
  · cases hb
  · cases hb
    exact Below.heap_alloc _ _ _ (Array.getElem?_eq_some_iff.1 hg).1
theorem wpListIn_append_one {F : Fence} {n : Nat} (w : World) {ops : Array Oper} {rest : List Oper} {o : Oper} {a : Act} {Q : Exit → Act → World → Prop}
    (hg : o.guard = none) (s x : Operand) (t : TypeId) (hop : o.op = Op.call { callee := Callee.builtin Builtin.append, args := #[s, x], argTypes := #[t, t] })
    (base : Nat) (e : TypeId) (size bytes : Nat) (ht : AppTy P t e size bytes)
    (v : Value) (k : Nat) (xs : List Value) (hs : a.eval s = v) (hown : w.ownsRow base e size v k xs) (hone : AllOne w v) (ad : Addr) (m c : Nat) (news : List Value) (hx : a.eval x = .slice (some ad) m c) (hn : news.length = m * size)
    (hc : ∀ j u, news[j]? = some u → w.cell? (ad.add j) = some u) (h1c : ∀ u ∈ news, u.oneCell' = true) (hroom : roomOK (k + m) bytes) (b3 : base ≤ w.heap.size)
    (hK : ∀ v' w', w'.ownsRow base e size v' (k + m) (xs ++ news) → w.grownBy w' v.ownBlock → AllOne w' v' → wpListIn F n P ops Q rest (a.put o.dst v') w') :
    wpListIn F n P ops Q (o :: rest) a w := by
  refine wpListIn_plain hg fun K hK' => ?_
  obtain ⟨i, z, h2, h3, h4, h5, h6⟩ := ht.inf
  obtain ⟨v', w', hrun, r1, r2, _⟩ := run_append_own (P := P) w base t o.type e i z size bytes ht.und h2 h3 h4 h5 h6 ht.pos v k xs hown ad m c news hn hc h1c hroom.2 hroom.1 b3
  have r3 := app_allOne ht hown hone ad m c news hn hc h1c hroom hrun
  unfold Oper.wpIn
  refine ⟨by simp [Oper.about, hop, resolve, Target.leads, Sem.run_pure], ?_⟩
  rw [Oper.semAt_plain F _ _ (by rw [hop]; intro c hc'; cases hc')]
  simp [execOp, hop, resolve, invoke, builtin, hs, hx, hrun, Result.andThen]
  exact hK' _ _ (hK v' w' r1 r2 r3)
/-- Between two rounds. -/
structure ApB (ρ : Ren) (w0 : World) (fn : FuncId) (sv : Value) (Bs l D : Nat) (ss : List Int) (W : World) : Prop where
  box : ∃ v, W.heap[Bs]? = some (.cells #[v] (ρ.t 24) (0, 0)) ∧ W.ownsRow w0.heap.size (ρ.t 26) 1 v ss.length (ss.map encZ) ∧ AllOne W v
  L : W.heap[l]? = some (.loop (AnyZI.apRec ρ fn sv Bs D .ready none))
  K : W.heap[D]? = some (.deferred (some []))
  below : Below w0.heap.size w0 W
theorem apB_abides (ρ : Ren) (w0 : World) (fn : FuncId) (sv : Value) (Bs l D B : Nat) (hB : w0.heap.size ≤ B) : AbidesFrom B (ApB ρ w0 fn sv Bs l D) := fun s W W' row h hg hrow => by
  have hrow' : ∀ r, row = some r → ∃ o : Obj, W.heap[r]? = some o ∧ o.isWalk = true := fun r e => (hrow r e).2
  obtain ⟨v, hv, hr, hn⟩ := h.box
  refine ⟨⟨v, (grownBy_keeps hg hrow' hv rfl).trans hv, ownsRow_abides_a hr hg hrow', allOne_kept hn fun g hb => ?_⟩, (grownBy_keeps hg hrow' h.L rfl).trans h.L, (grownBy_keeps hg hrow' h.K rfl).trans h.K,
    h.below.grown hg h.below.size (fun k e => Nat.le_trans hB (hrow k e).1)⟩
  rcases hr.2 with ⟨rfl, _⟩ | ⟨g', cap, cur, rfl, _, hg', _⟩
  · cases hb
  · cases hb
    exact grownBy_keeps hg hrow' hg' rfl
theorem apYieldB (L : SlLaysZI.n11 P ρ) (F : Fence) (m : Nat) (w0 : World) (fn : FuncId) (hfn : F.fn fn) (sv : Value) (Bs l D : Nat) (hBl : Bs ≠ l) (hDl : D ≠ l) (hDB : D ≠ Bs) (h0B : w0.heap.size ≤ Bs) (h0l : w0.heap.size ≤ l)
    (N : Nat) (hN : N ≤ maxLen) (hNb : N * 8 ≤ 140737488355328) (ss : List Int) (x : Int) (W : World) (h : ApB ρ w0 fn sv Bs l D ss W) (hlen : ss.length < N) :
    YieldAt F m P l #[encZ x] W fun e W' => e = .returned (.bool true) ∧ ApB ρ w0 fn sv Bs l D (ss ++ [x]) W' ∧ KeepsWalks W W' := by
  have mixed := L.mixed; have t0 := L.t0; have a0 := L.a0; have z0 := L.z0; have v0 := L.v0; have t24 := L.t24; have a24 := L.a24; have z24 := L.z24; have v24 := L.v24; have t26 := L.t26; have a26 := L.a26; have z26 := L.z26; have v26 := L.v26; have t28 := L.t28; have a28 := L.a28; have z28 := L.z28; have v28 := L.v28
  have hne : ρ.t 24 ≠ ρ.t 26 := fun e => by have h := L.t24; rw [e, L.t26] at h; cases h
  have u0 := run_underlying L.t0; have u24 := run_underlying L.t24; have u26 := run_underlying L.t26; have u28 := run_underlying L.t28
  have hty : AppTy P (ρ.t 24) (ρ.t 26) 1 8 := by
    obtain ⟨i0, hi, hz0, hz1, hz2⟩ := info_parts L.i26
    refine ⟨L.t24, ⟨i0, _, hi, hz0, hz1, hz2, rfl⟩, fun i z hi' hz' u hu => ?_, by decide⟩
    rw [hi] at hi'; cases hi'
    rw [hz0] at hz'; cases hz'
    simp [Value.cells] at hu
    subst hu; rfl
  obtain ⟨i0, hi, hz0, hz1, hz2⟩ := info_parts L.i26
  obtain ⟨v, hv, hrow, hone⟩ := h.box
  refine ⟨fn, #[.slice none 0 0, sv, .pointer (some ⟨Bs, 0, none⟩), undef, .slice none 0 0, undef, sv, encZ x, undef, undef, undef, undef, undef], AnyZI.apAssign ρ, AnyZI.apBody ρ, by simpa [AnyZI.apRec] using run_yield (P := P) (args := #[encZ x]) h.L rfl, roundIn_of_wpIn hfn ?_⟩
  have hl : l < W.heap.size := (Array.getElem?_eq_some_iff.1 h.L).1
  have hbr := run_beginRound (P := P) h.L rfl
  obtain ⟨W2, hW2⟩ : ∃ W2, W.putObj l (.loop { AnyZI.apRec ρ fn sv Bs D .ready none with state := .busy }) = W2 := ⟨_, rfl⟩
  rw [hW2] at hbr
  have hg2 : W.grownBy W2 (some l) := by rw [← hW2]; exact grownBy_putObj_a _ _ _
  have hk2 : KeepsWalks W W2 := by rw [← hW2]; exact KeepsWalks.putObj _ h.L rfl
  have hv2 : W2.heap[Bs]? = some (.cells #[v] (ρ.t 24) (0, 0)) := by rw [← hW2]; exact (World.putObj_heap_other hBl).trans hv
  have hK2 : W2.heap[D]? = some (.deferred (some [])) := by rw [← hW2]; exact (World.putObj_heap_other hDl).trans h.K
  have hL2 : W2.heap[l]? = some (.loop { AnyZI.apRec ρ fn sv Bs D .ready none with state := .busy }) := by rw [← hW2]; exact World.putObj_heap_same hl
  have hrow2 : W2.ownsRow w0.heap.size (ρ.t 26) 1 v ss.length (ss.map encZ) := hrow.kept hg2 (ownsRow_ne_a hrow h.L (fun cur e => by first | cases e | exact hne (Obj.cells.inj e).2.1))
  have hb2 : Below w0.heap.size w0 W2 := h.below.grown hg2 h.below.size (fun k e => by cases e; exact h0l)
  obtain ⟨hc2, hf2⟩ := cell_of_box_a hv2
  have hBlt : Bs < W2.heap.size := (Array.getElem?_eq_some_iff.1 hv2).1
  have hl2 : l < W2.heap.size := (Array.getElem?_eq_some_iff.1 hL2).1
  have hDlt : D < W2.heap.size := (Array.getElem?_eq_some_iff.1 hK2).1
  have ne_of : ∀ {j : Nat} {o : Obj}, W2.heap[j]? = some o → (∀ cur, o ≠ .cells cur (ρ.t 26) (0, 0)) → some j ≠ v.ownBlock := fun hj hno => by
    rcases ownsRow_ne_a hrow2 hj hno with e | e
    · rw [e]; simp
    · exact fun e' => e e'.symm
  have hone2 : AllOne W2 v := allOne_kept hone fun g hb => by
    rw [← hW2]
    refine World.putObj_heap_other fun e => ?_
    rcases hrow.2 with ⟨rfl, _⟩ | ⟨g', cap, cur, rfl, _, hg', _⟩
    · cases hb
    · cases hb; subst e; have := h.L; rw [hg'] at this; cases this
  clear hW2
  unfold AnyZI.apAssign
  gi_wp2_with gi_round_op_a
  unfold AnyZI.apBody
  gi_wp2_with (first
    | (gi_at_builtin; refine wpListIn_append_one _ rfl _ _ (ρ.t 24) rfl w0.heap.size (ρ.t 26) 1 8 hty _ _ _ rfl (hrow2.alloc _) (allOne_alloc hrow2 hone2 _) ⟨W2.heap.size, 0, none⟩ 1 1 [encZ x] rfl rfl (cell_one_new _ _ _) (by simp [Value.oneCell', encZ]) ⟨by omega, by omega⟩ (by have := hb2.size; simp; omega) ?_; intro v' w3 hown' hg3 hone3
       have hv3 : w3.heap[Bs]? = some (.cells #[v] (ρ.t 24) (0, 0)) := (hg3.block Bs (by simp; omega) (ne_of hv2 (fun cur e => by first | cases e | exact hne (Obj.cells.inj e).2.1))).trans ((Below.heap_alloc _ _ Bs hBlt).trans hv2)
       obtain ⟨hc3, hf3⟩ := cell_of_box_a hv3
       obtain ⟨g', cap', cur', rfl, hbase', hgb', hr1, hr2, hr3, hr4⟩ : ∃ g' cap' cur', v' = .slice (some ⟨g', 0, none⟩) (ss.length + 1) cap' ∧ w0.heap.size ≤ g' ∧ w3.heap[g']? = some (.cells cur' (ρ.t 26) (0, 0)) ∧ ss.length + 1 ≤ cap' ∧ cap' ≤ maxLen ∧ cur'.size = cap' * 1 ∧ cur'.toList.take ((ss.length + 1) * 1) = ss.map encZ ++ [encZ x] := by
         rcases hown'.2 with ⟨_, h0⟩ | h'
         · exact absurd h0 (by omega)
         · exact h'
       go_frame)
    | gi_round_op_a)
  have hg3' : (W2.alloc (.cells #[encZ x] (ρ.t 26))).grownBy w3 v.ownBlock := hg3
  have hL3 : w3.heap[l]? = some (.loop { AnyZI.apRec ρ fn sv Bs D .ready none with state := .busy }) := (hg3'.block l (by simp; omega) (ne_of hL2 (fun cur e => by first | cases e | exact hne (Obj.cells.inj e).2.1))).trans ((Below.heap_alloc _ _ l hl2).trans hL2)
  have hK3 : w3.heap[D]? = some (.deferred (some [])) := (hg3'.block D (by simp; omega) (ne_of hK2 (fun cur e => by first | cases e | exact hne (Obj.cells.inj e).2.1))).trans ((Below.heap_alloc _ _ D hDlt).trans hK2)
  have hgB : g' ≠ Bs := fun e => by subst e; rw [hgb'] at hv3; exact hne (Obj.cells.inj (Option.some.inj hv3)).2.1.symm
  have hgl : g' ≠ l := fun e => by subst e; rw [hgb'] at hL3; cases hL3
  obtain ⟨w4, hw4⟩ : ∃ w4, w3.setCell ⟨Bs, 0, none⟩ (.slice (some ⟨g', 0, none⟩) (ss.length + 1) cap') = w4 := ⟨_, rfl⟩
  rw [hw4]
  have hg4 : w3.grownBy w4 (some Bs) := by rw [← hw4]; exact grownBy_setCell0_a _ _ _
  have hv4 : w4.heap[Bs]? = some (.cells #[.slice (some ⟨g', 0, none⟩) (ss.length + 1) cap'] (ρ.t 24) (0, 0)) := by rw [← hw4]; exact heap_setCell_box_a _ hv3
  have hL4 : w4.heap[l]? = some (.loop { AnyZI.apRec ρ fn sv Bs D .ready none with state := .busy }) := (hg4.block l (Array.getElem?_eq_some_iff.1 hL3).1 (fun e => hBl (by cases e; rfl))).trans hL3
  have hK4 : w4.heap[D]? = some (.deferred (some [])) := (hg4.block D (Array.getElem?_eq_some_iff.1 hK3).1 (fun e => hDB (by cases e; rfl))).trans hK3
  have hrow4 := hown'.kept hg4 (ownsRow_ne_a hown' hv3 (fun cur e => by first | cases e | exact hne (Obj.cells.inj e).2.1))
  have hl4 : l < w4.heap.size := (Array.getElem?_eq_some_iff.1 hL4).1
  have hb3 : Below w0.heap.size w0 w3 := (hb2.alloc hb2.size _).grown hg3' (by have := hb2.size; simp; omega) (fun k e => (hrow2.lt k e).1)
  have hb4 : Below w0.heap.size w0 w4 := hb3.grown hg4 hb3.size (fun k e => by cases e; exact h0B)
  have hk4 : KeepsWalks W w4 := ((hk2.trans (KeepsWalks.alloc _ _)).trans (KeepsWalks.of_grownBy hg3' (ownsRow_not_walk_a (hrow2.alloc _)))).trans (by rw [← hw4]; exact KeepsWalks.setCell _ _ _)
  have hone4 : AllOne w4 (.slice (some ⟨g', 0, none⟩) (ss.length + 1) cap') := allOne_kept hone3 fun g hb => by
    cases hb
    exact hg4.block g' (Array.getElem?_eq_some_iff.1 hgb').1 fun e => hgB (Option.some.inj e)
  clear hw4
  refine ⟨_, _, run_endRound none hL4, rfl, ⟨⟨_, (World.putObj_heap_other hBl).trans hv4, ?_, allOne_kept hone4 fun g hb => by cases hb; exact World.putObj_heap_other hgl⟩, World.putObj_heap_same hl4, (World.putObj_heap_other hDl).trans hK4, hb4.grown (grownBy_putObj_a _ _ _) hb4.size (fun k e => by cases e; exact h0l)⟩, hk4.trans (KeepsWalks.putObj _ hL4 rfl)⟩
  have := hrow4.kept (grownBy_putObj_a w4 l (.loop { { AnyZI.apRec ρ fn sv Bs D .ready none with state := .busy } with state := if (none : Option Code).isNone then .ready else .done, pending := none })) (ownsRow_ne_a hrow4 hL4 (fun cur e => by first | cases e | exact hne (Obj.cells.inj e).2.1))
  simpa using this
theorem appB_in (L : SlLaysZI.n11 P ρ) (F : Fence) (n : Nat) (h11 : F.fn (ρ.f 11)) (hro : F.round = none) (hn : 2 ≤ n) (g : Nat) (lb : Array Value) (hFg : F.fn g) (eg : ∀ args w, (callFunc g args).run P w = .ok (.enter g args) w)
    (S : List Int → Prop) (N : Nat) (hN : N ≤ maxLen) (hNb : N * 8 ≤ 140737488355328) (w : World) (hseq : SeqB F (n - 1) P g lb S N w) :
    CallsIn F n P (ρ.f 11) #[.slice none 0 0, .func (.func g) #[] lb] w fun e w' => ∃ (v : Value) (ss : List Int), e = .returned v ∧ S ss ∧ w'.ownsRow w.heap.size (ρ.t 26) 1 v ss.length (ss.map encZ) ∧ AllOne w' v ∧ Below w.heap.size w w' := by
  have h1 : 1 ≤ n := by omega
  have t24 := L.t24; have a24 := L.a24; have z24 := L.z24; have v24 := L.v24; have t26 := L.t26; have a26 := L.a26; have z26 := L.z26; have v26 := L.v26; have t28 := L.t28; have a28 := L.a28; have z28 := L.z28; have v28 := L.v28
  have mixed := L.mixed; have t0 := L.t0; have a0 := L.a0; have z0 := L.z0; have v0 := L.v0
  have hne : ρ.t 24 ≠ ρ.t 26 := fun e => by have h := L.t24; rw [e, L.t26] at h; cases h
  have u0 := run_underlying L.t0; have u24 := run_underlying L.t24; have u26 := run_underlying L.t26; have u28 := run_underlying L.t28
  obtain ⟨_, _, FG⟩ := L.f11
  refine callsIn_of_wp_marks FG rfl h11 ?_ hro
  simp only [SlBodyZ.n11_ntmps ρ, List.size_toArray, List.length_cons, List.length_nil, Nat.reduceAdd, Nat.reduceSub, Array.replicate_succ, Array.replicate_zero, List.push_toArray, List.append_toArray, List.nil_append, List.cons_append]
  gi_wp2
  refine wpIn_rangeFunc ?_
  intro fn hfn
  rw [hro]
  obtain ⟨W0, hW0⟩ : ∃ W0, w.alloc (.cells #[.slice none 0 0] (ρ.t 24)) = W0 := ⟨_, rfl⟩
  have hs0 : W0.heap.size = w.heap.size + 1 := by rw [← hW0]; simp
  have hv0 : W0.heap[w.heap.size]? = some (.cells #[.slice none 0 0] (ρ.t 24) (0, 0)) := by rw [← hW0]; exact World.alloc_heap_new w _
  have hb0 : Below w.heap.size w W0 := by rw [← hW0]; exact (Below.refl _ w).alloc (Nat.le_refl _) _
  rw [hW0]
  obtain ⟨W1, hW1⟩ : ∃ W1, (W0.alloc (.deferred (some []))).alloc (.loop (AnyZI.apRec ρ fn (.func (.func g) #[] lb) w.heap.size W0.heap.size .ready none)) = W1 := ⟨_, rfl⟩
  have hold : ∀ k, k < W0.heap.size → W1.heap[k]? = W0.heap[k]? := fun k hk => by
    rw [← hW1]; exact (Below.heap_alloc _ _ k (by simp; omega)).trans (Below.heap_alloc _ _ k hk)
  have hb1 : Below w.heap.size w W1 := by rw [← hW1]; exact (hb0.alloc hb0.size _).alloc (by have := hb0.size; simp; omega) _
  have hs1 : W1.heap.size = W0.heap.size + 2 := by rw [← hW1]; simp
  have hM : ApB ρ w fn (.func (.func g) #[] lb) w.heap.size (W0.heap.size + 1) W0.heap.size [] W1 :=
    ⟨⟨_, (hold w.heap.size (by omega)).trans hv0, ⟨rfl, .inl ⟨rfl, rfl⟩⟩, AllOne.nil⟩,
     by rw [← hW1]; have := World.alloc_heap_new (W0.alloc (.deferred (some []))) (.loop (AnyZI.apRec ρ fn (.func (.func g) #[] lb) w.heap.size W0.heap.size .ready none)); rwa [World.size_alloc] at this,
     by rw [← hW1]; exact (Below.heap_alloc _ _ _ (by simp)).trans (World.alloc_heap_new W0 _), hb1⟩
  refine ⟨W0.heap.size + 1, [{ target := .collected W0.heap.size, args := #[] }], W1, { target := .fn (.func g) lb, args := #[.func (.yield (W0.heap.size + 1)) #[] #[]] }, W1, g,
    #[.func (.yield (W0.heap.size + 1)) #[] #[]] ++ lb, W1, ?_, ?_, ?_, ?_, fun _ => h1, ?_⟩
  · rw [← hW1]; exact run_enterLoop_outer _ _ _ _ _
  · simp [resolve, go_sem]
  · intro f' hf'; simp [Target.leads] at hf'; subst hf'; exact hFg
  · simp [invoke, go_sem, eg]
  · refine (hseq (W0.heap.size + 1) (ApB ρ w fn (.func (.func g) #[] lb) w.heap.size (W0.heap.size + 1) W0.heap.size) W1 hb1 (apB_abides ρ _ _ _ _ _ _ _ hb1.size) (fun _ _ h => h.below)
      (fun pre x W hJ hl => apYieldB { L with } F (n - 1 - 1) w fn hfn _ w.heap.size (W0.heap.size + 1) W0.heap.size (by omega) (by omega) (by omega) (Nat.le_refl _) (by omega) N hN hNb pre x W hJ hl) hM).mono ?_
    rintro e W2 ⟨⟨v0, rfl⟩, ss, hS, h2⟩
    obtain ⟨v, hv, hrow, hone⟩ := h2.box
    have hend := run_endLoop (P := P) h2.L (by simp [AnyZI.apRec])
    obtain ⟨W3, hW3⟩ : ∃ W3, W2.putObj (W0.heap.size + 1) (.loop { AnyZI.apRec ρ fn (.func (.func g) #[] lb) w.heap.size W0.heap.size .ready none with state := .exhausted }) = W3 := ⟨_, rfl⟩
    rw [hW3] at hend
    have hg3 : W2.grownBy W3 (some (W0.heap.size + 1)) := by rw [← hW3]; exact grownBy_putObj_a _ _ _
    have hv3 : W3.heap[w.heap.size]? = some (.cells #[v] (ρ.t 24) (0, 0)) := by rw [← hW3]; exact (World.putObj_heap_other (by omega)).trans hv
    have hK3 : W3.heap[W0.heap.size]? = some (.deferred (some [])) := by rw [← hW3]; exact (World.putObj_heap_other (by omega)).trans h2.K
    have hrow3 := hrow.kept hg3 (ownsRow_ne_a hrow h2.L (fun cur e => by first | cases e | exact hne (Obj.cells.inj e).2.1))
    have hb3 : Below w.heap.size w W3 := h2.below.grown hg3 h2.below.size (fun k e => by cases e; omega)
    obtain ⟨hc3, hf3⟩ := cell_of_box_a hv3
    have hone3 : AllOne W3 v := allOne_kept hone fun g hb => by
      rw [← hW3]
      refine World.putObj_heap_other fun e => ?_
      rcases hrow.2 with ⟨rfl, _⟩ | ⟨g', cap, cur, rfl, _, hg', _⟩
      · cases hb
      · cases hb; subst e; have := h2.L; rw [hg'] at this; cases this
    have hgD : ∀ g, blkNo v = some g → W0.heap.size = g → False := fun g hb e => by
      rcases hrow3.2 with ⟨rfl, _⟩ | ⟨g', cap, cur, rfl, _, hg', _⟩
      · cases hb
      · cases hb; subst e; rw [hg'] at hK3; cases hK3
    clear hW3
    refine ⟨none, W3, hend, ?_⟩
    gi_wp2
    rw [← hs0]
    refine ⟨by simp, .inl ⟨_, _, rfl, run_takeDeferred hK3, ?_⟩⟩
    exact ⟨_, results_tmp rfl _ _ _, v, ss, rfl, hS, hrow3.kept (grownBy_putObj_a _ _ _) (ownsRow_ne_a hrow3 hK3 (fun cur e => by first | cases e | exact hne (Obj.cells.inj e).2.1)), allOne_kept hone3 (fun g hb => World.putObj_heap_other fun e => hgD g hb e.symm), hb3.grown (grownBy_putObj_a _ _ _) hb3.size (fun k e => by cases e; omega)⟩
end
theorem take_snoc (zs : List Int) (k : Nat) (h : k < zs.length) : zs.take (k + 1) = zs.take k ++ [zs.getD k 0] := by
  rw [List.take_succ_eq_append_getElem h, getD_of_lt zs k h]
theorem list_len2 {α : Type} (a : Array α) (h : 2 = a.size) : ∃ x y, a = #[x, y] := by
  obtain ⟨l⟩ := a
  match l, h with
  | [x, y], _ => exact ⟨x, y, rfl⟩
theorem val54_in (n : Nat) (hn : 1 ≤ n) (w : World) (Bs o : Nat) (A : Option Addr) (c : Nat) (zs : List Int) (hz : zs.length ≤ 100000) (hBs : Bs < w.heap.size) (hc : w.cell? ⟨Bs, o, none⟩ = some (.slice A zs.length c))
    (hI : 0 < zs.length → ∃ b off, A = some ⟨b, off, none⟩ ∧ b < w.heap.size ∧ ∀ j, j < zs.length → w.cell? ⟨b, off + j, none⟩ = some (.int .i64 (zs.getD j 0))) :
    SeqB Fence.wide n Try.prog 54 #[.pointer (some ⟨Bs, o, none⟩)] (fun ss => ss = zs) zs.length w := by
  intro lp J W hW hJ hJb hY h0
  have hcW := (hW.cell (p := ⟨Bs, o, none⟩) hBs).trans hc
  refine callsIn_of_wp Try.func54 rfl trivial ?_ rfl
  simp only [Try.ntmps54, List.size_toArray, List.length_cons, List.length_nil, Nat.reduceAdd, Nat.reduceSub, Array.replicate_succ, Array.replicate_zero, List.push_toArray, List.append_toArray, List.nil_append, List.cons_append]
  gi_wp2
  gi_loopw [7] (fun i wr => ∃ k : Nat, k ≤ zs.length ∧ i = .int .i64 k ∧ J (zs.take k) wr)
    (fun i _ => zs.length - (Go.Proofs.intOf i).toNat)
  case atStart => exact ⟨0, Nat.zero_le _, rfl, h0⟩
  case round =>
    obtain ⟨k, hk, rfl, hJs⟩ := hrel
    by_cases hlt : k < zs.length
    · obtain ⟨b, off, rfl, hb, hcells⟩ := hI (by omega)
      have hcx := ((hJb _ _ hJs).cell (p := ⟨b, off + k, none⟩) hb).trans (hcells k hlt)
      obtain ⟨fn, tmps, assign, body, hy, hR⟩ := hY _ (zs.getD k 0) wr hJs (by rw [List.length_take]; omega)
      rw [← take_snoc zs k hlt] at hR
      dsimp only [encZ] at hy
      generalize zs.getD k 0 = u at hcx hy
      gi_wp2
      refine hR.mono ?_
      rintro e W3 ⟨rfl, hJ3, hk3⟩
      gi_wp2
      go_roundw
      case rel => exact ⟨k + 1, by omega, by simp, hJ3⟩
      case measure => simp [Go.Proofs.intOf]; omega
    · obtain rfl : k = zs.length := by omega
      gi_wp2
      go_end0
      rw [List.take_length] at hJs
      exact ⟨⟨_, rfl⟩, zs, rfl, hJs⟩
theorem list_len1 {α : Type} (a : Array α) (h : 1 = a.size) : ∃ x, a = #[x] := by
  obtain ⟨l⟩ := a
  match l, h with
  | [x], _ => exact ⟨x, rfl⟩
theorem s32 (l : List Int) : Spec Try.prog 32 [ints l] (.fn 54 [.ref [ints l] 0]) := by
  refine spec_of_good mixed Try.func32 F32_ok (by kernel_rfl) ?_
  refine good_run 13 (obs := []) (by kernel_rfl) trivial ?_
  refine good_finW (SV.fn (54 : Nat) [SV.ref [SV.lst (1 : Nat) (List.length l) fun i => [SV.int IntKind.i64 (List.getD l i (0 : Int))]] (0 : Nat)]) (by kernel_rfl) ?_
  unfold ints
  exact SVle.refl _
theorem s65 (l : List Int) (hl : l.length ≤ 100000) : SpecOwn Try.prog 65 [.val (.slice none 0 0), .fn 54 [.ref [ints l] 0]] 3 1 l.length (fun i => [.int .i64 (l.getD i 0)]) := by
  refine ⟨hasBody_of_slim Try.func65 F65_ok, fun w M vs hM hlen hden => ?_⟩
  obtain ⟨v0, v, rfl⟩ := list_len2 vs hlen
  have hn0 := hden 0 _ _ rfl rfl
  have h0 := hden 1 _ _ rfl rfl
  cases hn0
  cases h0 with
  | fn f cs ws hlw hw =>
    obtain ⟨u, rfl⟩ := list_len1 ws hlw
    have h1 := hw 0 _ _ rfl rfl
    cases h1 with
    | ref cs off b o val hnM hb h1c hc h =>
      have hv := h 0 _ rfl
      have hcell := hc 0 _ rfl
      have hseq : ∃ A c, val 0 = .slice A l.length c ∧ (0 < l.length → ∃ b off, A = some ⟨b, off, none⟩ ∧ b < w.heap.size ∧ ∀ j, j < l.length → w.cell? ⟨b, off + j, none⟩ = some (.int .i64 (l.getD j 0))) := by
        generalize val 0 = u at hv
        unfold ints at hv
        cases hv with
        | lst sz n get A c b2 o2 val2 hcn hcm hA hM2 hb2 hz2 h12 hcell2 h2 =>
          refine ⟨A, c, rfl, fun h0 => ⟨b2, o2, hA h0, hb2 h0, fun j hj => ?_⟩⟩
          have e1 := hcell2 j 0 _ hj rfl
          have e2 := h2 j 0 _ hj rfl
          generalize val2 j 0 = q at e1 e2
          cases e2
          simpa using e1
      obtain ⟨A, c, hvs, hI⟩ := hseq
      rw [hvs] at hcell
      have hcall := appB_in { laysS with } Fence.wide 4 trivial rfl (by omega) 54 #[.pointer (some ⟨b, o + 0, none⟩)] trivial (enters_of Try.func54 (by kernel_rfl) rfl) _ l.length (by unfold maxLen; omega) (by omega) w
        (val54_in 3 (by omega) w b o A c l hl hb hcell hI)
      refine (callsIn_wide.1 hcall).mono ?_
      rintro e w' ⟨v, ss, rfl, rfl, hrow, hone, hbel⟩
      refine ⟨v, rfl, hbel, _, hrow, fun _ _ => rfl, hone, ?_⟩
      intro i j s u hi hj hu
      cases j with
      | succ j => simp at hj
      | zero =>
        cases hj
        rw [Nat.mul_one, Nat.add_zero, List.getElem?_map, List.getElem?_eq_getElem hi] at hu
        cases hu
        rw [getD_of_lt ss i hi]
        exact .int _ _
theorem s53 (e : TypeId) (l : List Int) (h : l.length ≤ 4000000000000000000) : SpecSort Try.prog 53 [] e 1 l.length (fun i => [.int .i64 (l.getD i 0)]) [] (fun i => [.int .i64 ((isort l).getD i 0)]) :=
  sort_spec lays189 (hasBody_of_slim Try.func53 F53_ok) e l h
theorem s52 (l : List Int) (hl : l.length ≤ 100000) : SpecOwn Try.prog 52 [.fn 54 [.ref [ints l] 0]] 3 1 l.length (fun i => [.int .i64 (l.getD i 0)]) := by
  refine specOwn_of_good mixed Try.func52 F52_ok (by kernel_rfl) ?_
  refine good_run 8 (obs := []) (by kernel_rfl) trivial ?_
  refine good_own (c := True) (by kernel_rfl) (by kernel_rfl) (SVles.refl _) (s65 (l) (by (first | omega | assumption | exact ⟨rfl, trivial⟩ | simp only [AllP, inK_iff, roomOK_iff, decide_eq_true_eq, Bool.and_eq_true, Bool.or_eq_true, Bool.not_eq_true', decide_eq_false_iff_not, and_true, true_and]; (first | omega | (and_intros <;> intros <;> (try and_intros) <;> first | omega | assumption | exact trivial))))) ?_
  refine good_run 4 (obs := []) (by kernel_rfl) trivial ?_
  refine good_finOwn [List.length l = List.length l ∧ ∀ (j : Nat), j < List.length l → (fun i => [SV.int IntKind.i64 (List.getD l i (0 : Int))]) j = (fun i => [SV.int IntKind.i64 (List.getD l i (0 : Int))]) j] (by kernel_rfl) ⟨⟨rfl, fun _ _ => rfl⟩, trivial⟩
theorem s31 (l : List Int) (hl : l.length ≤ 100000) : SpecOwn Try.prog 31 [.fn 54 [.ref [ints l] 0]] 3 1 l.length (fun i => [.int .i64 ((isort l).getD i 0)]) := by
  refine specOwn_of_good mixed Try.func31 F31_ok (by kernel_rfl) ?_
  refine good_run 8 (obs := []) (by kernel_rfl) trivial ?_
  refine good_own (c := True) (by kernel_rfl) (by kernel_rfl) (SVles.refl _) (s52 (l) (by (first | omega | assumption | exact ⟨rfl, trivial⟩ | simp only [AllP, inK_iff, roomOK_iff, decide_eq_true_eq, Bool.and_eq_true, Bool.or_eq_true, Bool.not_eq_true', decide_eq_false_iff_not, and_true, true_and]; (first | omega | (and_intros <;> intros <;> (try and_intros) <;> first | omega | assumption | exact trivial))))) ?_
  refine good_run 6 (obs := []) (by kernel_rfl) trivial ?_
  refine good_sort (by kernel_rfl) (SVles.refl _) (SVles.refl _) (s53 ((3 : Nat)) (l) (by (first | omega | assumption | exact ⟨rfl, trivial⟩ | simp only [AllP, inK_iff, roomOK_iff, decide_eq_true_eq, Bool.and_eq_true, Bool.or_eq_true, Bool.not_eq_true', decide_eq_false_iff_not, and_true, true_and]; (first | omega | (and_intros <;> intros <;> (try and_intros) <;> first | omega | assumption | exact trivial))))) ?_
  refine good_run 9 (obs := []) (by kernel_rfl) trivial ?_
  refine good_finOwn [List.length l = List.length l ∧ ∀ (j : Nat), j < List.length l → (fun i => [SV.int IntKind.i64 (List.getD (isort l) i (0 : Int))]) j = (fun i => [SV.int IntKind.i64 (List.getD (isort l) i (0 : Int))]) j] (by kernel_rfl) ⟨⟨rfl, fun _ _ => rfl⟩, trivial⟩
end Go.Sx.T
