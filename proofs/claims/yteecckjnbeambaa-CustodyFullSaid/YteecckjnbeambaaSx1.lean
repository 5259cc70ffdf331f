/- A symbolic executor for the code of Go functions: its plain operations are right. -/
import Derived.Laws.CopyRow
import Derived.Maps.AppendAt
import Derived.Laws.MakeOwn
import Derived.Lib.AppendZerosOnto
import Derived.Lib.AppendZeros
import Derived.Test.YteecckjnbeambaaSx0
namespace Go.Sx
open Go Go.RowKit
set_option linter.unusedSimpArgs false

structure R (N : Nat) (w0 : Base) (M0 : Nat → Prop) (L : Nat → Value) (st : St) (a : Act) (w : World) : Prop where
  inv : Inv w0 M0 L st.tb w
  size : a.tmps.size = N
  defers : a.defers = []
  slot : ∀ t, LDen (gOf a) w (mset M0 st.tb L) L st.tb (look st.sl t) (a.tmps.getD t undef)

def gsl : LV → List Nat
  | .opt s _ x => s :: gsl x
  | _ => []

theorem LDen.congrG {G G' : Nat → Option Bool} {w : World} {M : Nat → Prop} {L : Nat → Value} {tb : List Blk} : ∀ (x : LV) (v : Value), (∀ s ∈ gsl x, G s = G' s) → LDen G w M L tb x v → LDen G' w M L tb x v
  | .any, _, _, _ => trivial
  | .sv _, _, _, h => h
  | .ptr .., _, _, h => h
  | .rp .., _, _, h => h
  | .own .., _, _, h => h
  | .part .., _, _, h => h
  | .exact .., _, _, h => h
  | .isv .., _, _, h => h
  | .opt s b x, v, hg, h => by
    have e : G s = G' s := hg s (by simp [gsl])
    exact ⟨fun h' => LDen.congrG x v (fun s' hs' => hg s' (by simp [gsl, hs'])) (h.1 (e.trans h')), fun h' => h.2 (fun e' => h' (e.symm.trans e'))⟩

section
variable {P : Program} {N : Nat} {w0 : Base} {M0 : Nat → Prop} {L : Nat → Value} {st : St} {a : Act} {w : World} {F : Nat → Prop}

theorem R.ev (h : R N w0 M0 L st a w) (x : Operand) : LDen (gOf a) w (mset M0 st.tb L) L st.tb (ev st.sl x) (a.eval x) := by
  cases x with
  | tmp t => exact h.slot t
  | const v =>
    simp only [Sx.ev, Act.eval]
    unfold constLV
    split
    · exact .int _ _
    · exact .bool _
    · exact .val _
  | global g => trivial
  | func f => exact .fn f [] #[] rfl (fun i s v hi => by simp at hi)

theorem getD_put (a : Act) (d : Nat) (v : Value) (hd : d < a.tmps.size) (t : Nat) : (a.put (some d) v).tmps.getD t undef = if d = t then v else a.tmps.getD t undef := by
  simp only [Act.put, Array.getD_eq_getD_getElem?, Array.getElem?_setIfInBounds]
  split
  · rename_i h; subst h; simp [hd]
  · rfl

theorem gOf_put (a : Act) (d : Nat) (v : Value) (s : Nat) (h : s ≠ d) : gOf (a.put (some d) v) s = gOf a s := by
  unfold gOf
  simp only [Act.put]
  rw [Array.getElem?_setIfInBounds_ne (by omega)]

/-- A slot is written. -/
theorem R.put (h : R N w0 M0 L st a w) (hF : ∀ t, ∀ s ∈ gsl (look st.sl t), F s) {d : Option Nat} (hd : ∀ k, d = some k → k < N ∧ ¬ F k) {x : LV} {v : Value}
    (hx : LDen (gOf a) w (mset M0 st.tb L) L st.tb x v) (hg : ∀ s ∈ gsl x, F s) :
    R N w0 M0 L (st.put d x) (a.put d v) w ∧ ∀ t, ∀ s ∈ gsl (look (st.put d x).sl t), F s := by
  cases d with
  | none => exact ⟨h, hF⟩
  | some d =>
    obtain ⟨hdN, hdF⟩ := hd d rfl
    have hsz : d < a.tmps.size := by rw [h.size]; exact hdN
    refine ⟨{ inv := h.inv, size := by simp [Act.put, h.size], defers := h.defers, slot := fun t => ?_ }, fun t s hs => ?_⟩
    · rw [getD_put a d v hsz]
      simp only [St.put, look]
      split
      · exact LDen.congrG x v (fun s hs => (gOf_put a d v s (fun e => hdF (e ▸ hg s hs))).symm) hx
      · exact LDen.congrG _ _ (fun s hs => (gOf_put a d v s (fun e => hdF (e ▸ hF t s hs))).symm) (h.slot t)
    · simp only [St.put, look] at hs
      split at hs
      · exact hg s hs
      · exact hF t s hs

/-- The world and the table turn; the slots stay. -/
theorem R.turn (h : R N w0 M0 L st a w) {L' : Nat → Value} {tb' : List Blk} {w' : World} (hI : Inv w0 M0 L' tb' w') (hd : ∀ s v, Den w (mset M0 st.tb L) s v → Den w' (mset M0 tb' L') s v)
    (hL : ∀ i, i < st.tb.length → L' i = L i) (hlen : st.tb.length ≤ tb'.length)
    (hrow : ∀ (i : Nat) t sz n mu get, st.tb[i]? = some (.row t sz n mu get) → ∃ t' mu' get', tb'[i]? = some (.row t' sz n mu' get')) :
    R N w0 M0 L' { st with tb := tb' } a w' :=
  { inv := hI, size := h.size, defers := h.defers, slot := fun t => LDen.turn hd hL hlen hrow _ _ (h.slot t) }

theorem R.keep (h : R N w0 M0 L st a w) {w' : World} (hb : Below w.heap.size w w') : R N w0 M0 L st a w' :=
  { inv := h.inv.keep hb, size := h.size, defers := h.defers, slot := fun t => LDen.keep hb _ _ (h.slot t) }

theorem R.frz (h : R N w0 M0 L st a w) {tb' : List Blk} (hf : Frz st.tb tb') : R N w0 M0 L { st with tb := tb' } a w :=
  h.turn (hf.inv _ _ _ _ h.inv) (fun s v hd => hd.less fun b _ hb => hf.mset _ _ _ hb) (fun _ _ => rfl) (Nat.le_of_eq hf.len.symm)
    (fun i t sz n mu get hi => by obtain ⟨mu', h'⟩ := hf.row i t sz n mu get hi; exact ⟨t, mu', get, h'⟩)

theorem R.push (h : R N w0 M0 L st a w) {w' : World} (hb : Below w.heap.size w w') {k : Blk} {v : Value} (hf : ∀ b, blkNo v = some b → w.heap.size ≤ b ∧ b < w'.heap.size)
    (hk : BlkOK w' (mset M0 (st.tb ++ [k]) (upd L st.tb.length v)) 0 k v) : R N w0 M0 (upd L st.tb.length v) { st with tb := st.tb ++ [k] } a w' :=
  h.turn (h.inv.push hb hf hk) (fun s v' hd => hd.mono hb.size (mset_push fun b hbn => (hf b hbn).1) (fun ad u ha _ hc => by rw [hb.cell ha]; exact hc))
    (fun i hi => upd_other _ _ _ _ (by omega)) (by simp)
    (fun i t sz n mu get hi => ⟨t, mu, get, by rw [List.getElem?_append_left (List.getElem?_eq_some_iff.1 hi).1]; exact hi⟩)

theorem wp_value {o : Oper} {K : Act → World → Prop} {Q : Exit → Act → World → Prop} {v : Value} {w' : World} (h : (execOp a.eval o).run P w = .ok (.value v) w') (hk : K (a.put o.dst v) w') : o.wp P a w K Q := by
  unfold Oper.wp; rw [h]; exact hk

theorem wp_skip' {o : Oper} {K : Act → World → Prop} {Q : Exit → Act → World → Prop} {w' : World} (h : (execOp a.eval o).run P w = .ok .skip w') (hk : K (a.put o.dst undef) w') : o.wp P a w K Q := by
  unfold Oper.wp; rw [h]; exact hk

/-! Guards. -/

theorem chain_sound (h : R N w0 M0 L st a w) : ∀ (f s : Nat) (b : Bool), gOf a s = some b → ∀ p ∈ chain st.sl f s, gOf a p.1 = some p.2
  | 0, _, _, _, p, hp => by simp [chain] at hp
  | f + 1, s, b, hs, p, hp => by
    simp only [chain] at hp
    split at hp
    · rename_i s' b' x hl
      have hsl := h.slot s
      rw [hl] at hsl
      have hg : gOf a s' = some b' := by
        refine Classical.byContradiction fun hn => ?_
        have hv := hsl.2 hn
        unfold gOf at hs
        rw [Array.getD_eq_getD_getElem?] at hv
        cases hx : a.tmps[s]? with
        | none => rw [hx] at hs; simp at hs
        | some u => rw [hx] at hs hv; simp at hv; subst hv; simp [undef] at hs
      rcases List.mem_cons.1 hp with rfl | hp
      · exact hg
      · exact chain_sound h f s' b' hg p hp
    · simp at hp

theorem guards_sound (h : R N w0 M0 L st a w) {s : Nat} {b : Bool} (hs : gOf a s = some b) : ∀ p ∈ guards st.sl (some (s, b)), gOf a p.1 = some p.2 := by
  intro p hp
  simp only [guards] at hp
  rcases List.mem_cons.1 hp with rfl | hp
  · exact hs
  · exact chain_sound h 4 s b hs p hp

theorem unopt_sound {G : Nat → Option Bool} {M : Nat → Prop} {tb : List Blk} {gs : List (Nat × Bool)} (hg : ∀ p ∈ gs, G p.1 = some p.2) {x : LV} {v : Value} (h : LDen G w M L tb x v) : LDen G w M L tb (unopt gs x) v := by
  cases x with
  | opt s b x =>
    simp only [unopt]
    split
    · rename_i hin; exact h.1 (hg _ hin)
    · trivial
  | _ => exact h

theorem evG_sound (h : R N w0 M0 L st a w) {gs : List (Nat × Bool)} (hg : ∀ p ∈ gs, gOf a p.1 = some p.2) (x : Operand) : LDen (gOf a) w (mset M0 st.tb L) L st.tb (evG st.sl gs x) (a.eval x) :=
  unopt_sound hg (h.ev x)

theorem bool_gOf {s : Nat} {c : Bool} (h : a.tmps.getD s undef = .bool c) : gOf a s = some c := by
  rw [Array.getD_eq_getD_getElem?] at h
  unfold gOf
  cases hx : a.tmps[s]? with
  | none => rw [hx] at h; simp [undef] at h
  | some u => rw [hx] at h; simp at h; subst h; rfl

theorem gcond_sound (h : R N w0 M0 L st a w) : ∀ (gs : List (Nat × Bool)), (∀ p ∈ gs, gOf a p.1 = some p.2) → gcond st.sl gs
  | [], _ => trivial
  | (s, b) :: r, hg => by
    refine ⟨?_, gcond_sound h r (fun p hp => hg p (by simp [hp]))⟩
    have hb := hg (s, b) (by simp)
    have hsl := h.slot s
    have hden : ∀ c, Den w (mset M0 st.tb L) (.bool c) (a.tmps.getD s undef) → c = b := by
      intro c hd
      generalize hv : a.tmps.getD s undef = v at hd
      cases hd
      have := bool_gOf hv
      rw [hb] at this
      injection this with this
      exact this.symm
    split
    · rename_i c hc
      unfold boolAt at hc
      split at hc
      · rename_i b' hl
        injection hc with hc
        subst hc
        rw [hl] at hsl
        exact hden _ hsl
      · rename_i s' b1 b' hl
        injection hc with hc
        subst hc
        rw [hl] at hsl
        by_cases hn : gOf a s' = some b1
        · exact hden _ (hsl.1 hn)
        · have hv := hsl.2 hn
          simp only at hb
          unfold gOf at hb
          rw [Array.getD_eq_getD_getElem?] at hv
          cases hx : a.tmps[s]? with
          | none => rw [hx] at hb; simp at hb
          | some u => rw [hx] at hb hv; simp at hv; subst hv; simp [undef] at hb
      · cases hc
    · trivial

/-! Calls. -/

theorem lend (h : R N w0 M0 L st a w) (hM0 : Safe w0 M0) : ∀ (xs all : List LV), (∀ x ∈ xs, x ∈ all) → ∀ (i : Nat) (x : LV) (s : SV) (v : Value), xs[i]? = some x → argSV st.tb x = some s →
    LDen (gOf a) w (mset M0 st.tb L) L st.tb x v → Den w (mset M0 (frzOwns st.tb all) L) s v := by
  intro xs all hall i x s v hx hs hd
  have hR := h.frz (Frz.owns all st.tb)
  have hless : ∀ b, mset M0 (frzOwns st.tb all) L b → mset M0 st.tb L b := (Frz.owns all st.tb).mset M0 L
  cases x with
  | own j =>
    simp only [argSV] at hs
    split at hs
    · rename_i t sz n mu get hrow
      injection hs with hs
      subst hs
      obtain ⟨hj, rfl⟩ := hd
      have hfro : (frzOwns st.tb all)[j]? = some (.row t sz n false get) := by
        have hmem : LV.own j ∈ all := hall _ (List.mem_of_getElem? hx)
        clear hR hless hall hx
        have gen : ∀ (all : List LV) (tb : List Blk) (mu : Bool), tb[j]? = some (.row t sz n mu get) → (LV.own j ∈ all ∨ mu = false) → (frzOwns tb all)[j]? = some (.row t sz n false get) := by
          intro all
          induction all with
          | nil => intro tb mu hr hm; simp at hm; subst hm; exact hr
          | cons y r ih =>
            intro tb mu hr hm
            simp only [frzOwns]
            by_cases hy : y = .own j
            · subst hy
              refine ih _ false ?_ (.inr rfl)
              simp only [frzOwn, frzAt, hr]
              rw [List.getElem?_set_self (List.getElem?_eq_some_iff.1 hr).1]
              rfl
            · have hfy : ∃ mu', (frzOwn tb y)[j]? = some (.row t sz n mu' get) ∧ (mu = false → mu' = false) := by
                cases y with
                | own i' =>
                  have hne : i' ≠ j := fun e => hy (by rw [e])
                  refine ⟨mu, ?_, id⟩
                  simp only [frzOwn, frzAt]
                  split
                  · rw [List.getElem?_set_ne hne]; exact hr
                  · exact hr
                | _ => exact ⟨mu, hr, id⟩
              obtain ⟨mu', hr', hmu⟩ := hfy
              refine ih _ mu' hr' ?_
              rcases hm with hm | hm
              · rcases List.mem_cons.1 hm with hm | hm
                · exact (hy hm.symm).elim
                · exact .inl hm
              · exact .inr (hmu hm)
        exact gen all st.tb mu hrow (.inl hmem)
      exact den_of_row (hR.inv.ok j _ hfro) fun b hb => not_mset hR.inv hM0 hfro rfl hb
    · cases hs
  | sv s' => simp [argSV, shut] at hs; subst hs; exact Den.less hd fun b _ => hless b
  | ptr j off =>
    have := shut_den h.inv hM0 (x := .ptr j off) (s := s) (by simpa [argSV] using hs) hd
    exact this.less fun b _ => hless b
  | any => simp [argSV, shut] at hs
  | rp => simp [argSV, shut] at hs
  | part => simp [argSV, shut] at hs
  | opt => simp [argSV, shut] at hs
  | exact => simp [argSV, shut] at hs
  | isv => simp [argSV, shut] at hs

theorem svles_den {M : Nat → Prop} : ∀ (as bs : List SV) (vs : Array Value) (k : Nat), SVles as bs → (∀ (i : Nat) s v, as[i]? = some s → vs[k + i]? = some v → Den w M s v) →
    as.length = bs.length ∧ ∀ (i : Nat) s v, bs[i]? = some s → vs[k + i]? = some v → Den w M s v
  | [], [], _, _, _, _ => ⟨rfl, fun i s v hi => by simp at hi⟩
  | x :: as, y :: bs, vs, k, h, hd => by
    obtain ⟨h1, h2⟩ := svles_den as bs vs (k + 1) h.2 (fun i s v hi hv => hd (i + 1) s v (by simpa using hi) (by rw [← hv]; congr 1; omega))
    refine ⟨by simp [h1], fun i s v hi hv => ?_⟩
    cases i with
    | zero => simp at hi; subst hi; exact h.1 _ _ _ (hd 0 x v rfl hv)
    | succ i => exact h2 i s v (by simpa using hi) (by rw [← hv]; congr 1; omega)
  | [], _ :: _, _, _, h, _ => h.elim
  | _ :: _, [], _, _, h, _ => h.elim

/-- The operation calls a function. -/
def CallsOp (P : Program) (o : Oper) (ρ : Operand → Value) (f : FuncId) (vs : Array Value) : Prop :=
  ∀ w : World, HasBody P f → (execOp ρ o).run P w = .ok (.enter f vs) w

theorem run_callFunc {f : FuncId} {vs : Array Value} (h : HasBody P f) : (callFunc f vs).run P w = .ok (.enter f vs) w := by
  obtain ⟨fn, h1, h2, h3⟩ := h
  obtain ⟨c, hc⟩ := Option.isSome_iff_exists.1 h2
  have h3' : ¬ fn.name = "runtime.NumGoroutine" := by simpa using h3
  simp [callFunc, program, Sem.run, h1, h3', hc]
end
end Go.Sx

namespace Go.Sx
open Go Go.RowKit
set_option linter.unusedSimpArgs false

section
variable {P : Program} {N : Nat} {w0 : Base} {M0 : Nat → Prop} {L : Nat → Value} {st : St} {a : Act} {w : World} {F : Nat → Prop}

theorem mset_lt (h : R N w0 M0 L st a w) (hM0 : Safe w0 M0) : ∀ b, mset M0 st.tb L b → b < w.heap.size := by
  intro b hb
  rcases hb with hb | ⟨i, k, hi, _, hn⟩
  · exact Nat.lt_of_lt_of_le (hM0 b hb).1 h.inv.below.size
  · exact (h.inv.low i b (List.getElem?_eq_some_iff.1 hi).1 hn).2

theorem ownsRow_base {base base' : Nat} {t : TypeId} {sz n : Nat} {v : Value} {xs : List Value} (h : w.ownsRow base t sz v n xs) (hb : base' ≤ base) : w.ownsRow base' t sz v n xs := by
  obtain ⟨h1, h2⟩ := h
  refine ⟨h1, ?_⟩
  rcases h2 with h2 | ⟨g, cap, cur, hv, hg, r⟩
  · exact .inl h2
  · exact .inr ⟨g, cap, cur, hv, Nat.le_trans hb hg, r⟩

theorem splitOwn_spec : ∀ (xs a : List LV) (i : Nat) (b : List LV), splitOwn xs = some (a, i, b) → xs = a ++ .own i :: b
  | [], a, i, b, h => by simp [splitOwn] at h
  | x :: r, a, i, b, h => by
    cases x with
    | own j =>
      simp only [splitOwn, Option.some.injEq, Prod.mk.injEq] at h
      obtain ⟨rfl, rfl, rfl⟩ := h
      rfl
    | _ =>
      simp only [splitOwn] at h
      split at h
      · rename_i a' i' b' hr
        simp only [Option.some.injEq, Prod.mk.injEq] at h
        obtain ⟨rfl, rfl, rfl⟩ := h
        rw [splitOwn_spec r a' i' b' hr]
        rfl
      · cases h

theorem kill_rel (hR : R N w0 M0 L st a w) {i : Nat} {k' : Blk} {v' : Value} {w' : World} (hI : Inv w0 M0 (upd L i v') (st.tb.set i k') w')
    (hdt : ∀ s u, Den w (mset M0 st.tb L) s u → Den w' (mset M0 (st.tb.set i k') (upd L i v')) s u) : R N w0 M0 (upd L i v') { sl := killSl i st.sl, tb := st.tb.set i k' } a w' ∧ ∀ t, gsl (look (killSl i st.sl) t) = [] := by
  have hlook : ∀ t, ∀ sl : List (Nat × LV), look (killSl i sl) t = kill i (look sl t) := by
    intro t sl
    induction sl with
    | nil => rfl
    | cons p r ih =>
      obtain ⟨k, x⟩ := p
      simp only [killSl, look]
      split
      · rfl
      · exact ih
  refine ⟨{ inv := hI, size := hR.size, defers := hR.defers, slot := fun t => ?_ }, fun t => ?_⟩
  · simp only [hlook]
    have hs := hR.slot t
    generalize look st.sl t = q at hs
    cases q with
    | any => trivial
    | sv s => exact hdt _ _ hs
    | ptr j off =>
      simp only [kill]
      split
      · trivial
      · rename_i hne
        obtain ⟨hj, b, hl, hv⟩ := hs
        exact ⟨by simpa using hj, b, by rw [upd_other _ _ _ _ hne]; exact hl, hv⟩
    | rp j k off =>
      simp only [kill]
      split
      · trivial
      · rename_i hne
        obtain ⟨b, n', c, t', sz2, mu, g, hj, hl, hk', hv⟩ := hs
        exact ⟨b, n', c, t', sz2, mu, g, by rw [List.getElem?_set_ne (by omega)]; exact hj, by rw [upd_other _ _ _ _ hne]; exact hl, hk', hv⟩
    | own j =>
      simp only [kill]
      split
      · trivial
      · rename_i hne
        obtain ⟨hj, hv⟩ := hs
        exact ⟨by simpa using hj, by rw [upd_other _ _ _ _ hne]; exact hv⟩
    | part j lo hi =>
      simp only [kill]
      split
      · trivial
      · rename_i hne
        obtain ⟨n', t', sz2, mu, g, hj, q1, q2, q3⟩ := hs
        exact ⟨n', t', sz2, mu, g, by rw [List.getElem?_set_ne (by omega)]; exact hj, q1, q2, by rw [upd_other _ _ _ _ hne]; exact q3⟩
    | opt => trivial
    | exact j =>
      simp only [kill]
      split
      · trivial
      · rename_i hne
        obtain ⟨hj, A, n', hs⟩ := hs
        exact ⟨by simpa using hj, A, n', by rw [upd_other _ _ _ _ hne]; exact hs⟩
    | isv j v =>
      simp only [kill]
      split
      · trivial
      · rename_i hne
        obtain ⟨hj, hs⟩ := hs
        exact ⟨by simpa using hj, by rw [upd_other _ _ _ _ hne]; exact hs⟩
  · rw [hlook]
    generalize look st.sl t = q
    cases q <;> simp [kill] <;> (try split) <;> simp [gsl]

theorem take_sound1 {o : Oper} {f : FuncId} {xs : List LV} {vs : Array Value} {K : St → Prop} {K' : Act → World → Prop} {Q : Exit → Act → World → Prop} (hR : R N w0 M0 L st a w) (hM0 : Safe w0 M0)
    (hF : ∀ t, ∀ s ∈ gsl (look st.sl t), F s) (hd : ∀ k, o.dst = some k → k < N ∧ ¬ F k) (hop : CallsOp P o a.eval f vs) (hl : xs.length = vs.size)
    (hxs : ∀ (i : Nat) x v, xs[i]? = some x → vs[i]? = some v → LDen (gOf a) w (mset M0 st.tb L) L st.tb x v) (h : takeVC1 P st f xs o.dst K)
    (hK : ∀ L' st' a' w', K st' → R N w0 M0 L' st' a' w' → (∀ t, ∀ s ∈ gsl (look st'.sl t), F s) → K' a' w') : o.wp P a w K' Q := by
  unfold takeVC1 at h
  split at h
  · exact h.elim
  · rename_i xa i xb hsp
    split at h
    · rename_i t sz n get hi
      split at h
      · rename_i ps qs hps hqs
        have hxe := splitOwn_spec _ _ _ _ hsp
        have hil : i < st.tb.length := (List.getElem?_eq_some_iff.1 hi).1
        obtain ⟨p1, p2⟩ := optList_get _ _ hps
        obtain ⟨q1, q2⟩ := optList_get _ _ hqs
        simp only [List.length_map] at p1 q1
        have hvl : vs.size = xa.length + (xb.length + 1) := by rw [← hl, hxe]; simp
        let us := vs.toList.take xa.length
        let ws := vs.toList.drop (xa.length + 1)
        have hus : us.length = xa.length := by simp [us]; omega
        have hws : ws.length = xb.length := by simp [ws]; omega
        have hget : ∀ j, j < vs.size → vs[j]? = some (vs.getD j undef) := fun j hj => by simp [Array.getD, hj]
        have hmid : vs[xa.length]? = some (L i) := by
          have h1 := hget xa.length (by omega)
          have h2 := hxs xa.length (.own i) _ (by rw [hxe]; simp) h1
          rw [h1, h2.2]
        have hsplit : vs = (us ++ L i :: ws).toArray := by
          apply Array.ext'
          rw [List.toList_toArray]
          have hm : vs.toList[xa.length]? = some (L i) := by simpa using hmid
          have hlt : xa.length < vs.toList.length := by simp; omega
          rw [List.getElem?_eq_getElem hlt] at hm
          injection hm with hm
          show vs.toList = vs.toList.take xa.length ++ L i :: vs.toList.drop (xa.length + 1)
          rw [← hm, List.getElem_cons_drop, List.take_append_drop]
        have hdus : ∀ (j : Nat) s u, ps[j]? = some s → us[j]? = some u → Den w (mset M0 st.tb L) s u := by
          intro j s u hj hu
          have hjl : j < xa.length := by rw [← hus]; exact (List.getElem?_eq_some_iff.1 hu).1
          have := p2 j s hj
          simp only [List.getElem?_map, Option.map_eq_some_iff] at this
          obtain ⟨x, hx, hsh⟩ := this
          have hvj : vs[j]? = some u := by
            simp only [us, List.getElem?_take_of_lt hjl] at hu
            simpa using hu
          exact shut_den hR.inv hM0 hsh (hxs j x u (by rw [hxe, List.getElem?_append_left hjl]; exact hx) hvj)
        have hdws : ∀ (j : Nat) s u, qs[j]? = some s → ws[j]? = some u → Den w (mset M0 st.tb L) s u := by
          intro j s u hj hu
          have := q2 j s hj
          simp only [List.getElem?_map, Option.map_eq_some_iff] at this
          obtain ⟨x, hx, hsh⟩ := this
          have hvj : vs[xa.length + 1 + j]? = some u := by
            simp only [ws, List.getElem?_drop] at hu
            simpa using hu
          refine shut_den hR.inv hM0 hsh (hxs (xa.length + 1 + j) x u ?_ hvj)
          rw [hxe, List.getElem?_append_right (by omega), show xa.length + 1 + j - xa.length = j + 1 by omega]
          simpa using hx
        have hMi : ∀ b, blkNo (L i) = some b → mset M0 st.tb L b := fun b hb => .inr ⟨i, _, hi, rfl, hb⟩
        rcases h with ⟨ps', qs', n', get', hle1, hle2, ⟨hbody, hspec⟩, hk⟩ | ⟨ps', qs', get', hle1, hle2, ⟨hbody, hspec⟩, hk⟩
        · obtain ⟨e1, d1⟩ := svles_den ps ps' us.toArray 0 hle1 (by simpa using hdus)
          obtain ⟨e2, d2⟩ := svles_den qs qs' ws.toArray 0 hle2 (by simpa using hdws)
          have hc := hspec w _ 0 us ws (L i) (mset_lt hR hM0) (Nat.zero_le _) hMi (by omega) (by omega) (by simpa using d1) (by simpa using d2) (hR.inv.ok i _ hi)
          unfold Oper.wp
          rw [hop w hbody, hsplit]
          refine Calls.mono hc fun e w' he => ?_
          obtain ⟨v', rfl, hg, hfr, hok⟩ := he
          show K' (a.put o.dst v') w'
          have hb' : ∀ b, blkNo v' = some b → b < w'.heap.size := by
            intro b hb
            obtain ⟨xs', ho, _⟩ := hok
            rcases ho.2 with ⟨rfl, _⟩ | ⟨g, cap, cur, rfl, _, hh, _⟩
            · simp [blkNo] at hb
            · simp [blkNo] at hb
              subst hb
              rcases Nat.lt_or_ge g w'.heap.size with h | h
              · exact h
              · rw [Array.getElem?_eq_none h] at hh; cases hh
          have hset := hR.inv.set (k' := .row t sz n' true get') (v := v') hi rfl hg (fun b hb => ⟨hfr b hb, hb' b hb⟩) (by
            refine hok.less fun b hb => ?_
            rcases hb with hb | ⟨j, k, hj, hk', hn⟩
            · refine .inl ⟨.inl hb, fun e => ?_⟩
              have q1 := hM0 b hb
              rcases (hR.inv.low i b hil e).1 with q2 | q2
              · omega
              · exact q1.2 q2
            · by_cases e : j = i
              · subst e; rw [upd_same] at hn; exact .inr hn
              · rw [upd_other _ _ _ _ e] at hn
                rw [List.getElem?_set_ne (by omega)] at hj
                exact .inl ⟨.inr ⟨j, k, hj, hk', hn⟩, fun e' => e (hR.inv.apart j i b (List.getElem?_eq_some_iff.1 hj).1 hil hn e')⟩)
          obtain ⟨hR1, hg1⟩ := kill_rel hR hset.1 (fun s u hden => hden.ext hset.2 (mset_set hi rfl hfr))
          obtain ⟨hR2, hF2⟩ := hR1.put (F := F) (fun t s hs => by rw [hg1 t] at hs; simp at hs) hd (x := .own i) (v := v') ⟨by simpa using hil, (upd_same _ _ _).symm⟩ (by simp [gsl])
          exact hK _ _ _ _ hk hR2 hF2
        · obtain ⟨e1, d1⟩ := svles_den ps ps' us.toArray 0 hle1 (by simpa using hdus)
          obtain ⟨e2, d2⟩ := svles_den qs qs' ws.toArray 0 hle2 (by simpa using hdws)
          have hc := hspec w _ 0 us ws (L i) (mset_lt hR hM0) (Nat.zero_le _) hMi (by omega) (by omega) (by simpa using d1) (by simpa using d2) (hR.inv.ok i _ hi)
          unfold Oper.wp
          rw [hop w hbody, hsplit]
          refine Calls.mono hc fun e w' he => ?_
          obtain ⟨rfl, hg, hok⟩ := he
          show K' (a.put o.dst (.tuple #[])) w'
          have hup : upd L i (L i) = L := funext fun j => by unfold upd; split <;> simp_all
          have hset := hR.inv.set (k' := .row t sz n true get') (v := L i) hi rfl hg (fun b hb => ⟨.inl hb, Nat.lt_of_lt_of_le (hR.inv.low i b hil hb).2 hg.size⟩) (by
            rw [hup]
            refine hok.less fun b hb => ?_
            rcases hb with hb | ⟨j, k, hj, hk', hn⟩
            · exact .inl hb
            · by_cases e : j = i
              · subst e; exact .inr ⟨j, _, hi, rfl, hn⟩
              · rw [List.getElem?_set_ne (by omega)] at hj
                exact .inr ⟨j, k, hj, hk', hn⟩)
          rw [hup] at hset
          have hR1 : R N w0 M0 L { st with tb := st.tb.set i (.row t sz n true get') } a w' := by
            refine hR.turn hset.1 (fun s c hden => hden.ext hset.2 (fun c' hc' h' => by
              have := mset_set (w := w) (k' := .row t sz n true get') (v := L i) hi rfl (fun _ h => .inl h) c' hc' (by rw [hup]; exact h')
              exact this)) (fun _ _ => rfl) (by simp) (fun j t' sz' n' mu' g' hj => ?_)
            by_cases e : j = i
            · subst e
              rw [hi] at hj
              injection hj with hj
              injection hj with q1 q2 q3 q4 q5
              subst q2 q3
              exact ⟨t, true, _, by rw [List.getElem?_set_self hil]⟩
            · exact ⟨t', mu', g', by rw [List.getElem?_set_ne (by omega)]; exact hj⟩
          obtain ⟨hR2, hF2⟩ := hR1.put (F := F) hF hd (x := .sv (.tup [])) (v := .tuple #[]) (Den.tup [] #[] rfl (fun i s v hi => by simp at hi)) (by simp [gsl])
          exact hK _ _ _ _ hk hR2 hF2
      · exact h.elim
    · exact h.elim

theorem take_sound {o : Oper} {f : FuncId} {xs : List LV} {vs : Array Value} {K : St → Prop} {K' : Act → World → Prop} {Q : Exit → Act → World → Prop} (hR : R N w0 M0 L st a w) (hM0 : Safe w0 M0)
    (hF : ∀ t, ∀ s ∈ gsl (look st.sl t), F s) (hd : ∀ k, o.dst = some k → k < N ∧ ¬ F k) (hop : CallsOp P o a.eval f vs) (hl : xs.length = vs.size)
    (hxs : ∀ (i : Nat) x v, xs[i]? = some x → vs[i]? = some v → LDen (gOf a) w (mset M0 st.tb L) L st.tb x v) (h : takeVC P st f xs o.dst K)
    (hK : ∀ L' st' a' w', K st' → R N w0 M0 L' st' a' w' → (∀ t, ∀ s ∈ gsl (look st'.sl t), F s) → K' a' w') : o.wp P a w K' Q := by
  unfold takeVC at h
  split at h
  · exact h.elim
  · rename_i xa i xb hsp
    have hf := Frz.owns (xa ++ xb) st.tb
    refine take_sound1 (st := frzSt st (xa ++ xb)) (hR.frz hf) hM0 hF hd hop hl (fun i x v hx hv => ?_) h hK
    exact LDen.turn (fun s v hd => hd.less fun b _ hb => hf.mset _ _ _ hb) (fun _ _ => rfl) (Nat.le_of_eq hf.len.symm)
      (fun i t sz n mu get hi => by obtain ⟨mu', h'⟩ := hf.row i t sz n mu get hi; exact ⟨t, mu', get, h'⟩) _ _ (hxs i x v hx hv)

theorem call_sound {o : Oper} {f : FuncId} {xs : List LV} {vs : Array Value} {K : St → Prop} {K' : Act → World → Prop} {Q : Exit → Act → World → Prop} (hR : R N w0 M0 L st a w) (hM0 : Safe w0 M0)
    (hF : ∀ t, ∀ s ∈ gsl (look st.sl t), F s) (hd : ∀ k, o.dst = some k → k < N ∧ ¬ F k) (hop : CallsOp P o a.eval f vs) (hl : xs.length = vs.size)
    (hxs : ∀ (i : Nat) x v, xs[i]? = some x → vs[i]? = some v → LDen (gOf a) w (mset M0 st.tb L) L st.tb x v) (h : callVC P st f xs o.dst K)
    (hK : ∀ L' st' a' w', K st' → R N w0 M0 L' st' a' w' → (∀ t, ∀ s ∈ gsl (look st'.sl t), F s) → K' a' w') : o.wp P a w K' Q := by
  unfold callVC at h
  rcases h with h | htake | hsem
  rotate_left
  · exact take_sound hR hM0 hF hd hop hl hxs htake hK
  · obtain ⟨hb, hsem⟩ := hsem
    have hc := hsem w0 M0 (gOf a) (fun t => a.tmps.getD t undef) L w vs hM0 ⟨hR.inv, hR.slot⟩ hl hxs
    unfold Oper.wp
    rw [hop w hb]
    refine Calls.mono hc fun e w' he => ?_
    obtain ⟨v, st', x, L', rfl, hk, hh, hx, hox, hof⟩ := he
    show K' (a.put o.dst v) w'
    have hgf : ∀ y, optFree y = true → gsl y = [] := by
      intro y hy
      cases y <;> first | rfl | simp [optFree] at hy
    have hR1 : R N w0 M0 L' st' a w' := { inv := hh.inv, size := hR.size, defers := hR.defers, slot := hh.slot }
    obtain ⟨hR2, hF2⟩ := hR1.put (F := F) (fun t s hs => by rw [hgf _ (hof t)] at hs; simp at hs) hd hx (by rw [hgf _ hox]; simp)
    exact hK _ _ _ _ hk hR2 hF2
  split at h
  · exact h.elim
  · rename_i args hargs
    obtain ⟨ha1, ha2⟩ := optList_get _ _ hargs
    have hfz := Frz.owns xs st.tb
    have hRf := hR.frz hfz
    have hden : ∀ (i : Nat) s v, args[i]? = some s → vs[i]? = some v → Den w (mset M0 (frzOwns st.tb xs) L) s v := by
      intro i s v hi hv
      have := ha2 i s hi
      simp only [List.getElem?_map, Option.map_eq_some_iff] at this
      obtain ⟨x, hx, hs⟩ := this
      exact lend hR hM0 xs xs (fun _ h => h) i x s v hx hs (hxs i x v hx hv)
    have hlen : args.length = vs.size := by rw [← hl]; simpa using ha1.symm
    have hMlt := mset_lt hRf hM0
    rcases h with ⟨args', r, hle, ⟨hb, hspec⟩, hk⟩ | ⟨args', t, sz, n, get, hle, ⟨hb, hspec⟩, hk⟩
    · obtain ⟨hl2, hd2⟩ := svles_den args args' vs 0 hle (by simpa using hden)
      have hc := hspec w _ vs hMlt (hl2.symm.trans hlen) (by simpa using hd2)
      unfold Oper.wp
      rw [hop w hb]
      refine Calls.mono hc fun e w' he => ?_
      obtain ⟨v, rfl, hbel, hres⟩ := he
      show K' (a.put o.dst v) w'
      cases hn : noMem r with
      | true =>
        rw [hn] at hk
        have hR' := hR.keep hbel
        obtain ⟨hR2, hF2⟩ := hR'.put hF hd (x := .sv r) (v := v) (noMem_den r hn v hres) (by simp [gsl])
        exact hK _ _ _ _ hk hR2 hF2
      | false =>
        rw [hn] at hk
        have hR' := hRf.keep hbel
        obtain ⟨hR2, hF2⟩ := hR'.put hF hd (x := .sv r) (v := v) hres (by simp [gsl])
        exact hK _ _ _ _ hk hR2 hF2
    · obtain ⟨hl2, hd2⟩ := svles_den args args' vs 0 hle (by simpa using hden)
      have hc := hspec w _ vs hMlt (hl2.symm.trans hlen) (by simpa using hd2)
      unfold Oper.wp
      rw [hop w hb]
      refine Calls.mono hc fun e w' he => ?_
      obtain ⟨v, rfl, hbel, xs', ho, hz, h1, hdd⟩ := he
      show K' (a.put o.dst v) w'
      have hfresh : ∀ b, blkNo v = some b → w.heap.size ≤ b ∧ b < w'.heap.size := by
        intro b hb'
        rcases ho.2 with ⟨rfl, _⟩ | ⟨g, cap, cur, rfl, hg, hh, _⟩
        · simp [blkNo] at hb'
        · simp [blkNo] at hb'
          subst hb'
          refine ⟨hg, ?_⟩
          rcases Nat.lt_or_ge g w'.heap.size with h | h
          · exact h
          · rw [Array.getElem?_eq_none h] at hh; cases hh
      have hR' := hRf.push hbel (k := .row t sz n true get) (v := v) hfresh (by
        refine ⟨xs', ownsRow_base ho (Nat.zero_le _), hz, h1, fun i j s u hi hj hu => (hdd i j s u hi hj hu).less fun b _ hb' => ?_⟩
        rcases hb' with hb' | ⟨i', k', hi', hk', hn'⟩
        · exact .inl (.inl hb')
        · rw [List.getElem?_append] at hi'
          split at hi'
          · rename_i hlt
            rw [upd_other _ _ _ _ (Nat.ne_of_lt hlt)] at hn'
            exact .inl (.inr ⟨i', k', hi', hk', hn'⟩)
          · rename_i hge
            have : i' = (frzOwns st.tb xs).length := by
              have h1 := (List.getElem?_eq_some_iff.1 hi').1
              simp only [List.length_cons, List.length_nil] at h1 hge
              omega
            subst this
            rw [upd_same] at hn'
            exact .inr hn')
      have hlen' : (frzOwns st.tb xs).length = st.tb.length := hfz.len
      obtain ⟨hR2, hF2⟩ := hR'.put hF hd (x := .own st.tb.length) (v := v) ⟨by simp [hlen'], by simp only [hlen']; rw [upd_same]⟩ (by simp [gsl])
      exact hK _ _ _ _ hk hR2 hF2

/-- A call whose contract is known. -/
theorem call_plain {o : Oper} {f : FuncId} {xs : List LV} {vs : Array Value} {args args' : List SV} {r : SV} {K' : Act → World → Prop} {Q : Exit → Act → World → Prop} (hR : R N w0 M0 L st a w) (hM0 : Safe w0 M0)
    (hop : CallsOp P o a.eval f vs) (hl : xs.length = vs.size) (hxs : ∀ (i : Nat) x v, xs[i]? = some x → vs[i]? = some v → LDen (gOf a) w (mset M0 st.tb L) L st.tb x v)
    (hargs : optList (xs.map (argSV st.tb)) = some args) (hle : SVles args args') (hs : Spec P f args' r)
    (hK : ∀ v w', Below w.heap.size w w' → Den w' (mset M0 (frzOwns st.tb xs) L) r v → K' (a.put o.dst v) w') : o.wp P a w K' Q := by
  obtain ⟨ha1, ha2⟩ := optList_get _ _ hargs
  have hfz := Frz.owns xs st.tb
  have hRf := hR.frz hfz
  have hden : ∀ (i : Nat) s v, args[i]? = some s → vs[i]? = some v → Den w (mset M0 (frzOwns st.tb xs) L) s v := by
    intro i s v hi hv
    have := ha2 i s hi
    simp only [List.getElem?_map, Option.map_eq_some_iff] at this
    obtain ⟨x, hx, hs⟩ := this
    exact lend hR hM0 xs xs (fun _ h => h) i x s v hx hs (hxs i x v hx hv)
  have hlen : args.length = vs.size := by rw [← hl]; simpa using ha1.symm
  have hMlt := mset_lt hRf hM0
  obtain ⟨hl2, hd2⟩ := svles_den args args' vs 0 hle (by simpa using hden)
  have hc := hs.2 w _ vs hMlt (hl2.symm.trans hlen) (by simpa using hd2)
  unfold Oper.wp
  rw [hop w hs.1]
  refine Calls.mono hc fun e w' he => ?_
  obtain ⟨v, rfl, hbel, hres⟩ := he
  exact hK v w' hbel hres

theorem alloc_below (w : World) (o : Obj) : Below w.heap.size w (w.alloc o) := (Below.refl _ _).alloc (Nat.le_refl _) o

/-- A new block of cells. -/
theorem R.newCells (hR : R N w0 M0 L st a w) {t : TypeId} {cs : List SV} {vs : Array Value} (hl : cs.length = vs.size) (h1 : ∀ (i : Nat) u, vs[i]? = some u → u.oneCell' = true)
    (hd : ∀ (i : Nat) s u, cs[i]? = some s → vs[i]? = some u → Den w (mset M0 st.tb L) s u) (mu : Bool) :
    R N w0 M0 (upd L st.tb.length (.pointer (some ⟨w.heap.size, 0, none⟩))) { st with tb := st.tb ++ [.cells t mu cs] } a (w.alloc (.cells vs t)) := by
  refine hR.push (alloc_below w _) (fun b hb => ?_) ?_
  · simp [blkNo] at hb; subst hb; simp
  · refine ⟨w.heap.size, vs, rfl, Nat.zero_le _, heap_alloc_new w _, hl, h1, fun i s u hi hu => (hd i s u hi hu).mono (by simp) (mset_push fun b hb => ?_) (fun ad u' ha _ hc => ?_)⟩
    · simp [blkNo] at hb; omega
    · rw [World.cell?_alloc_lt w _ ad ha]; exact hc

/-- A new row. -/
theorem R.newRow (hR : R N w0 M0 L st a w) {e : TypeId} {sz n : Nat} {get : Nat → List SV} {vs : Array Value} (hsz : vs.size = n * sz) (hm : n ≤ maxLen) (hz : ∀ i, i < n → (get i).length = sz)
    (h1 : ∀ (i : Nat) u, vs[i]? = some u → u.oneCell' = true) (hd : ∀ (i j : Nat) s u, i < n → (get i)[j]? = some s → vs[i * sz + j]? = some u → Den w (mset M0 st.tb L) s u) :
    R N w0 M0 (upd L st.tb.length (.slice (some ⟨w.heap.size, 0, none⟩) n n)) { st with tb := st.tb ++ [.row e sz n true get] } a (w.alloc (.cells vs e)) := by
  refine hR.push (alloc_below w _) (fun b hb => ?_) ?_
  · simp [blkNo] at hb; subst hb; simp
  · refine ⟨vs.toList, World.ownsRow_lit w vs n (Nat.zero_le _) hm hsz, hz, AllOne.of_heap (g := w.heap.size) rfl (heap_alloc_new w _) (fun u hu => ?_), fun i j s u hi hj hu => ?_⟩
    · obtain ⟨i, hi⟩ := List.mem_iff_getElem?.1 hu
      exact h1 i u (by simpa using hi)
    · refine (hd i j s u hi hj (by simpa using hu)).mono (by simp) (mset_push fun b hb => ?_) (fun ad u' ha _ hc => ?_)
      · simp [blkNo] at hb; omega
      · rw [World.cell?_alloc_lt w _ ad ha]; exact hc

theorem lay_len (l cs : List SV) (off : Nat) : (lay cs off l).length = cs.length := lay_length l cs off

theorem splice_get (cur vs : List Value) (o i : Nat) (h : o + vs.length ≤ cur.length) : (cur.take o ++ vs ++ cur.drop (o + vs.length))[i]? = if o ≤ i ∧ i < o + vs.length then vs[i - o]? else cur[i]? := by
  rw [List.append_assoc, List.getElem?_append, List.length_take, Nat.min_eq_left (by omega)]
  by_cases h1 : i < o
  · rw [if_pos h1, if_neg (by omega), List.getElem?_take_of_lt h1]
  · rw [if_neg h1, List.getElem?_append]
    by_cases h2 : i - o < vs.length
    · rw [if_pos h2, if_pos (by omega)]
    · rw [if_neg h2, if_neg (by omega), List.getElem?_drop]
      congr 1
      omega

theorem setRow_grown (w : World) (g : Nat) (cs : Array Value) : w.grownBy (w.setRow g cs) (some g) :=
  ⟨rfl, rfl, rfl, by simp, fun k _ hk => setRow_other w g k cs (fun e => hk (by rw [e]))⟩

/-- A store into a block of the call's own. -/
theorem store_sound (hR : R N w0 M0 L st a w) {n : Nat} {cs : List SV} {x : LV} {tb' : List Blk} {ob : Prop} {u v : Value} (h : storeAt st.tb n cs x = some (tb', ob)) (hob : ob)
    (hx : LDen (gOf a) w (mset M0 st.tb L) L st.tb x u) (hl : cs.length = v.cells.size) (h1 : ∀ (i : Nat) c, v.cells[i]? = some c → c.oneCell' = true)
    (hd : ∀ (i : Nat) s c, cs[i]? = some s → v.cells[i]? = some c → Den w (mset M0 st.tb L) s c) {t : TypeId} (hn : sizeOf? P t = some n) :
    ∃ w', (Instr.storeAt t u v).run P w = .ok () w' ∧ R N w0 M0 L { st with tb := tb' } a w' := by
  cases x with
  | ptr i off =>
    simp only [storeAt] at h
    split at h
    · rename_i t0 old hi
      simp only [Option.some.injEq, Prod.mk.injEq] at h
      obtain ⟨rfl, rfl⟩ := h
      obtain ⟨hcl, hfit⟩ := hob
      obtain ⟨hil, b, hL, rfl⟩ := hx
      obtain ⟨b', vs, hv, hb0, hh, hlen, h1', hdd⟩ := hR.inv.ok i _ hi
      rw [hL] at hv
      injection hv with hv
      injection hv with hv
      injection hv with hv _
      subst hv
      have hvl : v.cells.toList.length = n := by simp [← hl, hcl]
      have hrun := run_storeCells_at P b off t0 v.cells.toList 0 vs w hh (by rw [hvl, ← hlen]; simpa using hfit) (fun c hc => by
        obtain ⟨j, hj⟩ := List.mem_iff_getElem?.1 hc
        exact h1 j c (by simpa using hj))
      simp only [Nat.add_zero] at hrun
      let vs' : Array Value := (vs.toList.take off ++ v.cells.toList ++ vs.toList.drop (off + v.cells.toList.length)).toArray
      have hget : ∀ j, vs'[j]? = if off ≤ j ∧ j < off + v.cells.size then v.cells[j - off]? else vs[j]? := by
        intro j
        have := splice_get vs.toList v.cells.toList off j (by rw [hvl]; simp [← hlen]; exact hfit)
        simpa [vs'] using this
      have hsz' : vs'.size = vs.size := by
        simp only [vs', List.size_toArray, List.length_append, List.length_take, List.length_drop, Array.length_toList]
        have := hfit
        rw [hlen] at this
        rw [Array.length_toList] at hvl
        omega
      refine ⟨w.setRow b vs', by simp [Instr.storeAt, run_sure, storeVar, run_sizeOf hn, ← hl, hcl, hrun, vs'], ?_⟩
      have hg : w.grownBy (w.setRow b vs') (blkNo (L i)) := by rw [hL]; exact setRow_grown w b vs'
      have hset := hR.inv.set (k' := .cells t0 true (lay old off cs)) (v := L i) hi rfl hg (fun c hc => ⟨.inl hc, by
        have := (hR.inv.low i c hil hc).2
        simpa using this⟩) (by
        rw [hL]
        refine ⟨b, vs', rfl, hb0, setRow_heap w b vs vs' t0 (0, 0) hh, by rw [lay_len, hlen, hsz'], fun j c hj => ?_, fun j s c hj hc => ?_⟩
        · rw [hget] at hj
          split at hj
          · exact h1 _ _ hj
          · exact h1' _ _ hj
        · rw [hget] at hc
          rw [lay_get _ _ _ _ (by rw [hcl]; exact hfit)] at hj
          have hden : Den w (mset M0 st.tb L) s c := by
            by_cases hin : off ≤ j ∧ j < off + v.cells.size
            · rw [if_pos hin] at hc; rw [if_pos (by omega)] at hj; exact hd _ _ _ hj hc
            · rw [if_neg hin] at hc; rw [if_neg (by omega)] at hj; exact hdd _ _ _ hj hc
          refine hden.ext ⟨hg.os, hg.tape, hg.output, hg.size, fun k hk hnk => hg.block k hk (fun e => hnk (.inr ⟨i, _, hi, rfl, e.symm⟩))⟩ (mset_set hi rfl fun c' hc' => .inl (by rw [hL]; exact hc')))
      have hup : upd L i (L i) = L := funext fun j => by unfold upd; split <;> simp_all
      rw [hup] at hset
      refine hR.turn hset.1 (fun s c hden => hden.ext hset.2 (fun c' hc' h' => by
        have := mset_set (w := w) (k' := .cells t0 true (lay old off cs)) (v := L i) hi rfl (fun _ h => .inl h) c' hc' (by rw [hup]; exact h')
        exact this)) (fun _ _ => rfl) (by simp) (fun j t' sz' n' mu' get' hj => ?_)
      by_cases e : j = i
      · subst e; rw [hi] at hj; cases hj
      · exact ⟨t', mu', get', by rw [List.getElem?_set_ne (by omega)]; exact hj⟩
    · cases h
  | rp i k off =>
    simp only [storeAt] at h
    split at h
    · rename_i t0 sz m get hi
      simp only [Option.some.injEq, Prod.mk.injEq] at h
      obtain ⟨rfl, rfl⟩ := h
      obtain ⟨hcl, hfit⟩ := hob
      obtain ⟨b, n', c, t', sz', mu', get', hi', hL, hk, rfl⟩ := hx
      rw [hi] at hi'
      injection hi' with hi'
      injection hi' with e1 e2 e3 e4 e5
      subst e2 e3
      have hil : i < st.tb.length := (List.getElem?_eq_some_iff.1 hi).1
      obtain ⟨xs, ⟨hxl, ho⟩, hz, h1', hdd⟩ := hR.inv.ok i _ hi
      rw [hL] at ho
      rcases ho with ⟨hx, _⟩ | ⟨g, cap, cur, hv, hg0, hh, hnc, hcm, hcur, htake⟩
      · cases hx
      · injection hv with hv1 _ hv2
        injection hv1 with hv1
        injection hv1 with hv1 _
        subst hv1 hv2
        have hvl : v.cells.toList.length = n := by simp [← hl, hcl]
        have hksz : k * sz + sz ≤ m * sz := by rw [← Nat.succ_mul]; exact Nat.mul_le_mul_right _ hk
        have hmc : m * sz ≤ c * sz := Nat.mul_le_mul_right _ hnc
        have hrun := run_storeCells_at P b (k * sz + off) t0 v.cells.toList 0 cur w hh (by rw [hvl, hcur]; omega) (fun c' hc' => by
          obtain ⟨j, hj⟩ := List.mem_iff_getElem?.1 hc'
          exact h1 j c' (by simpa using hj))
        simp only [Nat.add_zero] at hrun
        let cur' : Array Value := (cur.toList.take (k * sz + off) ++ v.cells.toList ++ cur.toList.drop (k * sz + off + v.cells.toList.length)).toArray
        have hget : ∀ j, cur'[j]? = if k * sz + off ≤ j ∧ j < k * sz + off + v.cells.size then v.cells[j - (k * sz + off)]? else cur[j]? := by
          intro j
          have := splice_get cur.toList v.cells.toList (k * sz + off) j (by rw [hvl]; simp [hcur]; omega)
          simpa [cur'] using this
        have hsz' : cur'.size = cur.size := by
          simp only [cur', List.size_toArray, List.length_append, List.length_take, List.length_drop, Array.length_toList]
          rw [Array.length_toList] at hvl
          omega
        refine ⟨w.setRow b cur', by simp [Instr.storeAt, run_sure, storeVar, run_sizeOf hn, ← hl, hcl, hrun, cur'], ?_⟩
        have hg : w.grownBy (w.setRow b cur') (blkNo (L i)) := by rw [hL]; exact setRow_grown w b cur'
        have hxs : ∀ j, j < m * sz → xs[j]? = cur[j]? := by
          intro j hj
          rw [← htake, List.getElem?_take_of_lt hj]
          simp
        have hset := hR.inv.set (k' := .row t0 sz m true fun j => if j = k then lay (get k) off cs else get j) (v := L i) hi rfl hg (fun c' hc' => ⟨.inl hc', by
          have := (hR.inv.low i c' hil hc').2
          simpa using this⟩) (by
          rw [hL]
          refine ⟨cur'.toList.take (m * sz), ⟨by rw [List.length_take, Array.length_toList, hsz', hcur]; omega, .inr ⟨b, c, cur', rfl, hg0, setRow_heap w b cur cur' t0 (0, 0) hh, hnc, hcm, by rw [hsz', hcur], rfl⟩⟩, fun j hj => ?_, AllOne.of_heap (g := b) rfl (setRow_heap w b cur cur' t0 (0, 0) hh) (fun c' hc' => ?_), fun i' j s c' hi' hj hc' => ?_⟩
          · show (if j = k then lay (get k) off cs else get j).length = sz
            split
            · rw [lay_len]; exact hz k hk
            · exact hz j hj
          · obtain ⟨j, hj⟩ := List.mem_iff_getElem?.1 hc'
            have hj' : cur'[j]? = some c' := by simpa using hj
            rw [hget] at hj'
            split at hj'
            · exact h1 _ _ hj'
            · exact h1' b cur t0 (0, 0) (by rw [hL]; rfl) hh c' (Array.mem_toList_iff.2 (Array.mem_of_getElem? hj'))
          · have hz' := hz i' hi'
            have hi2 : i' * sz + sz ≤ m * sz := by rw [← Nat.succ_mul]; exact Nat.mul_le_mul_right _ hi'
            have hlen2 : (if i' = k then lay (get k) off cs else get i').length = sz := by
              split
              · rw [lay_len]; exact hz k hk
              · exact hz'
            have hjs : j < sz := by
              have : j < (if i' = k then lay (get k) off cs else get i').length := (List.getElem?_eq_some_iff.1 hj).1
              rwa [hlen2] at this
            have hjl : i' * sz + j < m * sz := by omega
            rw [List.getElem?_take_of_lt hjl] at hc'
            have hc2 : cur'[i' * sz + j]? = some c' := by simpa using hc'
            rw [hget] at hc2
            have hden : Den w (mset M0 st.tb L) s c' := by
              by_cases e : i' = k
              · subst e
                simp only [if_true] at hj
                rw [lay_get _ _ _ _ (by rw [hcl, hz']; exact hfit)] at hj
                by_cases hin : off ≤ j ∧ j < off + cs.length
                · rw [if_pos hin] at hj
                  rw [if_pos (by omega)] at hc2
                  exact hd _ _ _ hj (by rw [← hc2]; congr 1; omega)
                · rw [if_neg hin] at hj
                  rw [if_neg (by omega)] at hc2
                  exact hdd i' j s c' hi' hj ((hxs _ hjl).trans hc2)
              · simp only [if_neg e] at hj
                have hne : ¬ (k * sz + off ≤ i' * sz + j ∧ i' * sz + j < k * sz + off + v.cells.size) := by
                  rintro ⟨q1, q2⟩
                  rcases Nat.lt_or_ge i' k with hlt | hge
                  · have : i' * sz + sz ≤ k * sz := by rw [← Nat.succ_mul]; exact Nat.mul_le_mul_right _ hlt
                    omega
                  · have : k * sz + sz ≤ i' * sz := by rw [← Nat.succ_mul]; exact Nat.mul_le_mul_right _ (by omega)
                    omega
                rw [if_neg hne] at hc2
                exact hdd i' j s c' hi' hj ((hxs _ hjl).trans hc2)
            refine hden.ext ⟨hg.os, hg.tape, hg.output, hg.size, fun k' hk' hnk => hg.block k' hk' (fun e => hnk (.inr ⟨i, _, hi, rfl, e.symm⟩))⟩ (mset_set hi rfl fun c'' hc'' => .inl (by rw [hL]; exact hc'')))
        have hup : upd L i (L i) = L := funext fun j => by unfold upd; split <;> simp_all
        rw [hup] at hset
        refine hR.turn hset.1 (fun s c' hden => hden.ext hset.2 (fun c'' hc'' h' => by
          have := mset_set (w := w) (k' := .row t0 sz m true fun j => if j = k then lay (get k) off cs else get j) (v := L i) hi rfl (fun _ h => .inl h) c'' hc'' (by rw [hup]; exact h')
          exact this)) (fun _ _ => rfl) (by simp) (fun j t' sz' n' mu' get' hj => ?_)
        by_cases e : j = i
        · subst e
          rw [hi] at hj
          injection hj with hj
          injection hj with q1 q2 q3 q4 q5
          subst q2 q3
          exact ⟨t0, true, _, by rw [List.getElem?_set_self hil]⟩
        · exact ⟨t', mu', get', by rw [List.getElem?_set_ne (by omega)]; exact hj⟩
    · cases h
  | any => simp [storeAt] at h
  | sv => simp [storeAt] at h
  | own => simp [storeAt] at h
  | part => simp [storeAt] at h
  | opt => simp [storeAt] at h
  | exact => simp [storeAt] at h
  | isv => simp [storeAt] at h
end
end Go.Sx

namespace Go.Sx
open Go Go.RowKit
set_option linter.unusedSimpArgs false

section
variable {P : Program} {N : Nat} {w0 : Base} {M0 : Nat → Prop} {L : Nat → Value} {st : St} {a : Act} {w : World} {F : Nat → Prop}

/-- What is appended. -/
def Src (w : World) (M : Nat → Prop) (sz m : Nat) (get : Nat → List SV) (u : Value) : Prop :=
  ∃ (A : Option Addr) (c : Nat) (news : List Value), u = .slice A m c ∧ news.length = m * sz ∧ (∀ v ∈ news, v.oneCell' = true) ∧
    (∀ ad, A = some ad → ∀ (j : Nat) v, news[j]? = some v → w.cell? (ad.add j) = some v) ∧ (A = none → m = 0) ∧ (∀ i, i < m → (get i).length = sz) ∧
    ∀ (i j : Nat) s v, i < m → (get i)[j]? = some s → news[i * sz + j]? = some v → Den w M s v

theorem src_of_den {M : Nat → Prop} {sz m : Nat} {get : Nat → List SV} {u : Value} (hsz : 0 < sz) (h : Den w M (.lst sz m get) u) : Src w M sz m get u := by
  cases h with
  | lst _ _ _ A c b o val hc hm hA hM hb hz h1 hcell hd =>
    have hdm : ∀ k, k < m * sz → k / sz < m ∧ k % sz < sz ∧ k / sz * sz + k % sz = k := by
      intro k hk
      exact ⟨Nat.div_lt_of_lt_mul (by rwa [Nat.mul_comm] at hk), Nat.mod_lt _ hsz, Nat.div_add_mod' k sz⟩
    have hgs : ∀ i j, i < m → j < sz → ∃ s, (get i)[j]? = some s := fun i j hi hj => ⟨_, List.getElem?_eq_getElem (by rw [hz i hi]; exact hj)⟩
    refine ⟨A, c, (List.range (m * sz)).map fun k => val (k / sz) (k % sz), rfl, by simp, ?_, ?_, ?_, hz, ?_⟩
    · intro v hv
      simp only [List.mem_map, List.mem_range] at hv
      obtain ⟨k, hk, rfl⟩ := hv
      obtain ⟨q1, q2, q3⟩ := hdm k hk
      obtain ⟨s, hs⟩ := hgs _ _ q1 q2
      exact h1 _ _ s q1 hs
    · intro ad had j v hj
      simp only [List.getElem?_map, Option.map_eq_some_iff] at hj
      obtain ⟨k, hk, rfl⟩ := hj
      have hkl := (List.getElem?_eq_some_iff.1 hk).1
      rw [List.getElem?_range (by simpa using hkl)] at hk
      injection hk with hk
      subst hk
      simp at hkl
      obtain ⟨q1, q2, q3⟩ := hdm j hkl
      obtain ⟨s, hs⟩ := hgs _ _ q1 q2
      have := hA (Nat.lt_of_le_of_lt (Nat.zero_le _) q1)
      rw [had] at this
      injection this with this
      subst this
      rw [add_none]
      have hc' := hcell _ _ s q1 hs
      rwa [q3] at hc'
    · intro hn
      rcases Nat.eq_zero_or_pos m with h0 | h0
      · exact h0
      · rw [hA h0] at hn; cases hn
    · intro i j s v hi hj hv
      have hjs : j < sz := by rw [← hz i hi]; exact (List.getElem?_eq_some_iff.1 hj).1
      simp only [List.getElem?_map, Option.map_eq_some_iff] at hv
      obtain ⟨k, hk, rfl⟩ := hv
      have hkl := (List.getElem?_eq_some_iff.1 hk).1
      rw [List.getElem?_range (by simpa using hkl)] at hk
      injection hk with hk
      subst hk
      have e1 : (i * sz + j) / sz = i := by rw [Nat.mul_comm, Nat.mul_add_div hsz, Nat.div_eq_of_lt hjs]; rfl
      have e2 : (i * sz + j) % sz = j := by rw [Nat.mul_comm, Nat.mul_add_mod, Nat.mod_eq_of_lt hjs]
      rw [e1, e2]
      exact hd i j s hi hj

theorem src_of_row {M : Nat → Prop} {base t sz m : Nat} {mu : Bool} {get : Nat → List SV} {u : Value} (h : BlkOK w M base (.row t sz m mu get) u) : Src w M sz m get u := by
  obtain ⟨xs, ⟨hl, ho⟩, hz, h1a, hd⟩ := h
  have h1 := h1a.xs ⟨hl, ho⟩
  rcases ho with ⟨rfl, rfl⟩ | ⟨g, cap, cur, rfl, hg, hh, hnc, hcm, hcur, htake⟩
  · have hx : xs = [] := List.eq_nil_of_length_eq_zero (by simpa using hl)
    subst hx
    exact ⟨none, 0, [], rfl, by simp, by simp, by simp, fun _ => rfl, fun i h => by omega, fun i j s v hi => by omega⟩
  · refine ⟨_, cap, xs, rfl, hl, h1, ?_, (fun h => by cases h), hz, hd⟩
    intro ad had j v hj
    injection had with had
    subst had
    rw [add_none, Nat.zero_add]
    rw [← htake] at hj
    have hjl : j < m * sz := by
      have := (List.getElem?_eq_some_iff.1 hj).1
      simp at this; omega
    rw [List.getElem?_take_of_lt hjl] at hj
    simp only [World.cell?, hh]
    simpa using hj

theorem src_sound (hR : R N w0 M0 L st a w) {sz i m : Nat} {get : Nat → List SV} {ob : Prop} {y : LV} {u : Value} (hsz : 0 < sz) (h : srcOf st.tb sz i y = some (m, get, ob)) (hob : ob)
    (hy : LDen (gOf a) w (mset M0 st.tb L) L st.tb y u) : Src w (mset M0 st.tb L) sz m get u := by
  cases y with
  | sv s =>
    simp only [srcOf] at h
    split at h
    · rename_i n g hls
      simp only [Option.some.injEq, Prod.mk.injEq] at h
      obtain ⟨rfl, rfl, rfl⟩ := h
      exact src_of_den hsz (den_lstOf' hls hob hy)
    · cases h
  | own j =>
    simp only [srcOf] at h
    split at h
    · cases h
    · split at h
      · rename_i t sz' n mu g hrow
        simp only [Option.some.injEq, Prod.mk.injEq] at h
        obtain ⟨rfl, rfl, rfl⟩ := h
        subst hob
        obtain ⟨_, rfl⟩ := hy
        exact src_of_row (hR.inv.ok j _ hrow)
      · cases h
  | any => simp [srcOf] at h
  | ptr => simp [srcOf] at h
  | rp => simp [srcOf] at h
  | part => simp [srcOf] at h
  | opt => simp [srcOf] at h
  | exact => simp [srcOf] at h
  | isv => simp [srcOf] at h

theorem run_append_of_nil (base : Nat) (t ty e : TypeId) (i : TypeInfo) (size : Nat) (ht : P.underlying t = some (.slice e)) (hi : P.info? e = some i)
    (v : Value) (n : Nat) (xs : List Value) (hown : w.ownsRow base e size v n xs) (c : Nat) : (Builtin.append_ #[t, t] ty #[v, .slice none 0 c]).run P w = .ok v w := by
  rcases hown.2 with ⟨rfl, rfl⟩ | ⟨g, cap, cur, rfl, _, _, hnc, _⟩
  · simp [Builtin.append_, run_underlying ht, sizeOf, typeInfo, hi, Builtin.lenOf, Builtin.firstCells]
  · simp [Builtin.append_, run_underlying ht, sizeOf, typeInfo, hi, Builtin.lenOf, Builtin.firstCells, hnc, storeCells]

structure AppTy (P : Program) (t e : TypeId) (sz bytes : Nat) : Prop where
  und : P.underlying t = some (.slice e)
  inf : ∃ i z, P.info? e = some i ∧ i.zero = some z ∧ i.size = sz ∧ i.bytes = bytes ∧ z.cells.size = sz
  one : ∀ i z, P.info? e = some i → i.zero = some z → ∀ u ∈ z.cells.toList, u.oneCell' = true
  pos : 0 < sz

theorem zeroCells_one {z : Array Value} (h : ∀ u ∈ z.toList, u.oneCell' = true) (n : Nat) : ∀ u ∈ (Builtin.zeroCells z n).toList, u.oneCell' = true := by
  intro u hu
  obtain ⟨i, hi⟩ := List.mem_iff_getElem?.1 hu
  have hil : i < n * z.size := by
    have := (List.getElem?_eq_some_iff.1 hi).1
    simpa [Builtin.zeroCells] using this
  have hp : 0 < z.size := Nat.pos_of_ne_zero fun h => by rw [h] at hil; simp at hil
  have hm : i % z.size < z.size := Nat.mod_lt _ hp
  have : (Builtin.zeroCells z n).toList[i]? = z[i % z.size]? := by simp [Builtin.zeroCells, hil, hm]
  rw [this] at hi
  exact h u (Array.mem_toList_iff.2 (Array.mem_of_getElem? hi))

theorem app_allOne {t e ty : TypeId} {sz bytes : Nat} (ht : AppTy P t e sz bytes) {base n : Nat} {v : Value} {xs : List Value} (hown : w.ownsRow base e sz v n xs) (hone : AllOne w v) (ad : Addr) (m c : Nat) (news : List Value) (hl : news.length = m * sz)
    (hnews : ∀ j u, news[j]? = some u → w.cell? (ad.add j) = some u) (h1 : ∀ u ∈ news, u.oneCell' = true) (hroom : roomOK (n + m) bytes) {v' : Value} {w' : World}
    (hrun : (Builtin.append_ #[t, t] ty #[v, .slice (some ad) m c]).run P w = .ok v' w') : AllOne w' v' := by
  obtain ⟨i, z, hi, hzz, hs, hb, hzs⟩ := ht.inf
  have hz1 := ht.one i z hi hzz
  subst hs hb
  have hx1 := hone.xs hown
  have h63 : n + m ≤ 9223372036854775807 := by have := hroom.2; simp only [maxLen] at this; omega
  rcases hown.2 with ⟨rfl, rfl⟩ | ⟨g, cap, cur, rfl, hbg, hg, hnc, hcm, hcs, htake⟩
  · by_cases hm : m = 0
    · subst hm
      have hn : news = [] := List.eq_nil_of_length_eq_zero (by simpa using hl)
      subst hn
      have : (Builtin.append_ #[t, t] ty #[.slice none 0 0, .slice (some ad) 0 c]).run P w = .ok (.slice none 0 0) w := by
        simp [Builtin.append_, run_underlying ht.und, sizeOf, typeInfo, hi, Builtin.lenOf, Builtin.firstCells, loadCells, loadCellsFrom]
      rw [this] at hrun
      injection hrun with e1 e2
      subst e1 e2
      exact AllOne.nil
    · have hr := run_append_nil (P := P) w t ty e i z ht.und hi hzz ad m c news hl hnews (by omega) (by omega) (by have hb := hroom.1; simp only [Nat.zero_add] at hb; omega)
      rw [hr] at hrun
      injection hrun with e1 e2
      subst e1 e2
      refine AllOne.of_heap (g := w.heap.size) rfl (heap_alloc_new w.drew _) fun u hu => ?_
      simp only [Array.toList_append, List.mem_append] at hu
      rcases hu with hu | hu
      · exact h1 u hu
      · exact zeroCells_one hz1 _ u hu
  · by_cases hfit : n + m ≤ cap
    · have hf : n * i.size + news.length ≤ cur.size := by rw [hl, hcs, ← Nat.add_mul]; exact Nat.mul_le_mul_right _ hfit
      have hr := run_append_room (P := P) w t ty e i ht.und hi g n cap cur hg ad m c news hl hnews h1 hfit hf
      rw [hr] at hrun
      injection hrun with e1 e2
      subst e1 e2
      refine AllOne.of_heap (g := g) rfl (setRow_heap w g cur _ e _ hg) fun u hu => ?_
      simp only [List.mem_append] at hu
      have ho := hone g cur e (0, 0) rfl hg
      rcases hu with (hu | hu) | hu
      · exact ho u (List.mem_of_mem_take hu)
      · exact h1 u hu
      · exact ho u (List.mem_of_mem_drop hu)
    · have holds : ∀ j u, xs[j]? = some u → w.cell? ((⟨g, 0, none⟩ : Addr).add j) = some u := hown.cells (g := g) rfl
      have hr := run_append_grow (P := P) w t ty e i z ht.und hi hzz ⟨g, 0, none⟩ n cap xs hown.1 holds ad m c news hl hnews (by omega) (by omega) (growslice_fits (by omega) hroom.1)
      rw [hr] at hrun
      injection hrun with e1 e2
      subst e1 e2
      refine AllOne.of_heap (g := w.heap.size) rfl (heap_alloc_new w.drew _) fun u hu => ?_
      simp only [Array.toList_append, List.mem_append] at hu
      rcases hu with (hu | hu) | hu
      · exact hx1 u hu
      · exact h1 u hu
      · exact zeroCells_one hz1 _ u hu

theorem run_app {t e : TypeId} {sz bytes : Nat} (ht : AppTy P t e sz bytes) (ty : TypeId) (base : Nat) {M : Nat → Prop} {m : Nat} {get' : Nat → List SV} {u v : Value} {n : Nat} {xs : List Value} (hown : w.ownsRow base e sz v n xs) (hone : AllOne w v)
    (hsrc : Src w M sz m get' u) (hroom : roomOK (n + m) bytes) (hbase : base ≤ w.heap.size) :
    ∃ v' w' news, AllOne w' v' ∧ (Builtin.append_ #[t, t] ty #[v, u]).run P w = .ok v' w' ∧ w'.ownsRow base e sz v' (n + m) (xs ++ news) ∧ w.grownBy w' v.ownBlock ∧ (v'.ownBlock = v.ownBlock ∨ v'.ownBlock = some w.heap.size) ∧
      news.length = m * sz ∧ (∀ x ∈ news, x.oneCell' = true) ∧ (∀ i, i < m → (get' i).length = sz) ∧ ∀ (i j : Nat) s x, i < m → (get' i)[j]? = some s → news[i * sz + j]? = some x → Den w M s x := by
  obtain ⟨A, c, news, rfl, hl, h1, hcell, hnil, hz, hd⟩ := hsrc
  obtain ⟨i, z, hi, hzz, hs, hb, hzs⟩ := ht.inf
  cases A with
  | none =>
    have hm : m = 0 := hnil rfl
    subst hm
    have hn : news = [] := List.eq_nil_of_length_eq_zero (by simpa using hl)
    subst hn
    exact ⟨v, w, [], hone, run_append_of_nil base t ty e i sz ht.und hi v n xs hown c, by simpa using hown, (⟨rfl, rfl, rfl, Nat.le_refl _, fun _ _ _ => rfl⟩ : w.grownBy w _), .inl rfl, by simp, by simp, hz, hd⟩
  | some ad =>
    obtain ⟨v', w', hrun, h2, h3, _, h5⟩ := run_append_own_at (P := P) w base t ty e i z sz bytes ht.und hi hzz hs hb hzs ht.pos v n xs hown ad m c news hl (hcell ad rfl) h1 hroom.2 hroom.1 hbase
    exact ⟨v', w', news, app_allOne ht hown hone ad m c news hl (hcell ad rfl) h1 hroom hrun, hrun, h2, h3, h5, hl, h1, hz, hd⟩

theorem ownBlock_eq {base : Nat} {e : TypeId} {sz n : Nat} {v : Value} {xs : List Value} (h : w.ownsRow base e sz v n xs) : v.ownBlock = blkNo v := by
  rcases h.2 with ⟨rfl, _⟩ | ⟨g, cap, cur, rfl, _⟩ <;> rfl

theorem look_killSl (i t : Nat) : ∀ sl : List (Nat × LV), look (killSl i sl) t = kill i (look sl t)
  | [] => rfl
  | (k, x) :: r => by
    simp only [killSl, look]
    split
    · rfl
    · exact look_killSl i t r

theorem gsl_kill (i : Nat) (x : LV) : gsl (kill i x) = [] := by
  cases x <;> simp [kill] <;> (try split) <;> simp [gsl]

theorem row_join {M M' : Nat → Prop} {w' : World} {sz n m : Nat} {get get' : Nat → List SV} {xs news : List Value} (hxl : xs.length = n * sz) (hz : ∀ i, i < n → (get i).length = sz) (hz' : ∀ i, i < m → (get' i).length = sz)
    (hd : ∀ (i j : Nat) s u, i < n → (get i)[j]? = some s → xs[i * sz + j]? = some u → Den w M s u) (hd' : ∀ (i j : Nat) s u, i < m → (get' i)[j]? = some s → news[i * sz + j]? = some u → Den w M s u)
    (hm : ∀ s u, Den w M s u → Den w' M' s u) :
    (∀ i, i < n + m → (joinGet n get get' i).length = sz) ∧ ∀ (i j : Nat) s u, i < n + m → (joinGet n get get' i)[j]? = some s → (xs ++ news)[i * sz + j]? = some u → Den w' M' s u := by
  refine ⟨fun i hi => ?_, fun i j s u hi hj hu => hm _ _ ?_⟩
  · unfold joinGet
    split
    · exact hz _ ‹_›
    · exact hz' _ (by omega)
  · unfold joinGet at hj
    split at hj
    · rename_i hlt
      have hjs : j < sz := by rw [← hz i hlt]; exact (List.getElem?_eq_some_iff.1 hj).1
      have : i * sz + sz ≤ n * sz := by rw [← Nat.succ_mul]; exact Nat.mul_le_mul_right _ hlt
      rw [List.getElem?_append_left (by omega)] at hu
      exact hd i j s u hlt hj hu
    · rename_i hge
      have : n * sz ≤ i * sz := Nat.mul_le_mul_right _ (by omega)
      rw [List.getElem?_append_right (by omega)] at hu
      refine hd' (i - n) j s u (by omega) hj ?_
      rw [← hu, Nat.sub_mul, hxl]
      congr 1
      omega

/-- Elements of a row of the call's own are laid anew. -/
theorem row_splice (hR : R N w0 M0 L st a w) {i : Nat} {t0 : TypeId} {sz m : Nat} {get : Nat → List SV} (hi : st.tb[i]? = some (.row t0 sz m true get)) {b c : Nat} {cur : Array Value} (hL : L i = .slice (some ⟨b, 0, none⟩) m c)
    (hh : w.heap[b]? = some (.cells cur t0 (0, 0))) {k q : Nat} {get2 : Nat → List SV} {vs : List Value} (hkq : k + q ≤ m) (hvl : vs.length = q * sz) (h1 : ∀ v ∈ vs, v.oneCell' = true) (hz2 : ∀ j, j < q → (get2 j).length = sz)
    (hd : ∀ (i j : Nat) s u, i < q → (get2 i)[j]? = some s → vs[i * sz + j]? = some u → Den w (mset M0 st.tb L) s u) :
    R N w0 M0 L { st with tb := st.tb.set i (.row t0 sz m true (spliceGet k q get2 get)) } a (w.setRow b (cur.toList.take (k * sz) ++ vs ++ cur.toList.drop (k * sz + vs.length)).toArray) := by
  have hil : i < st.tb.length := (List.getElem?_eq_some_iff.1 hi).1
  obtain ⟨xs, ⟨hxl, ho⟩, hz, h1a, hdd⟩ := hR.inv.ok i _ hi
  have h1' := h1a.xs ⟨hxl, ho⟩
  rw [hL] at ho
  rcases ho with ⟨hx, _⟩ | ⟨g, cap, cur0, hv, hg0, hh0, hnc, hcm, hcur, htake⟩
  · cases hx
  injection hv with hv1 _ hv2
  injection hv1 with hv1
  injection hv1 with hv1 _
  subst hv1 hv2
  rw [hh] at hh0
  simp only [Option.some.injEq, Obj.cells.injEq, and_true] at hh0
  subst hh0
  have hksz : k * sz + q * sz ≤ m * sz := by rw [← Nat.add_mul]; exact Nat.mul_le_mul_right _ hkq
  have hmc : m * sz ≤ c * sz := Nat.mul_le_mul_right _ hnc
  generalize hcur' : (cur.toList.take (k * sz) ++ vs ++ cur.toList.drop (k * sz + vs.length)).toArray = cur'
  have hget : ∀ j, cur'[j]? = if k * sz ≤ j ∧ j < k * sz + vs.length then vs[j - (k * sz)]? else cur[j]? := by
    intro j
    have := splice_get cur.toList vs (k * sz) j (by rw [hvl]; simp [hcur]; omega)
    rw [← hcur']
    simpa using this
  have hsz' : cur'.size = cur.size := by
    rw [← hcur']
    simp only [List.size_toArray, List.length_append, List.length_take, List.length_drop, Array.length_toList]
    omega
  have hg : w.grownBy (w.setRow b cur') (blkNo (L i)) := by rw [hL]; exact setRow_grown w b cur'
  have hxs : ∀ j, j < m * sz → xs[j]? = cur[j]? := by
    intro j hj
    rw [← htake, List.getElem?_take_of_lt hj]
    simp
  have hset := hR.inv.set (k' := .row t0 sz m true (spliceGet k q get2 get)) (v := L i) hi rfl hg (fun c' hc' => ⟨.inl hc', by
    have := (hR.inv.low i c' hil hc').2
    simpa using this⟩) (by
    rw [hL]
    refine ⟨cur'.toList.take (m * sz), ⟨by rw [List.length_take, Array.length_toList, hsz', hcur]; omega, .inr ⟨b, c, cur', rfl, hg0, setRow_heap w b cur cur' t0 (0, 0) hh, hnc, hcm, by rw [hsz', hcur], rfl⟩⟩, fun j hj => ?_, AllOne.of_heap (g := b) rfl (setRow_heap w b cur cur' t0 (0, 0) hh) (fun c' hc' => ?_), fun i' j s c' hi' hj hc' => ?_⟩
    · unfold spliceGet
      split
      · exact hz2 _ (by omega)
      · exact hz j hj
    · obtain ⟨j, hj⟩ := List.mem_iff_getElem?.1 hc'
      have hj' : cur'[j]? = some c' := by simpa using hj
      rw [hget] at hj'
      split at hj'
      · exact h1 _ (List.mem_of_getElem? hj')
      · exact h1a b cur t0 (0, 0) (by rw [hL]; rfl) hh c' (Array.mem_toList_iff.2 (Array.mem_of_getElem? hj'))
    · have hz' := hz i' hi'
      have hi2 : i' * sz + sz ≤ m * sz := by rw [← Nat.succ_mul]; exact Nat.mul_le_mul_right _ hi'
      have hlen2 : (spliceGet k q get2 get i').length = sz := by
        unfold spliceGet
        split
        · exact hz2 _ (by omega)
        · exact hz'
      have hjs : j < sz := by
        have := (List.getElem?_eq_some_iff.1 hj).1
        rwa [hlen2] at this
      have hjl : i' * sz + j < m * sz := by omega
      rw [List.getElem?_take_of_lt hjl] at hc'
      have hc2 : cur'[i' * sz + j]? = some c' := by simpa using hc'
      rw [hget] at hc2
      have hden : Den w (mset M0 st.tb L) s c' := by
        unfold spliceGet at hj
        by_cases e : k ≤ i' ∧ i' < k + q
        · rw [if_pos e] at hj
          have e1 : k * sz ≤ i' * sz := Nat.mul_le_mul_right _ e.1
          have e2 : i' * sz + sz ≤ (k + q) * sz := by rw [← Nat.succ_mul]; exact Nat.mul_le_mul_right _ e.2
          rw [Nat.add_mul] at e2
          rw [if_pos (by omega)] at hc2
          refine hd (i' - k) j s c' (by omega) hj ?_
          rw [← hc2, Nat.sub_mul]
          congr 1
          omega
        · rw [if_neg e] at hj
          have hne : ¬ (k * sz ≤ i' * sz + j ∧ i' * sz + j < k * sz + vs.length) := by
            rintro ⟨q1, q2⟩
            rcases Nat.lt_or_ge i' k with hlt | hge
            · have : i' * sz + sz ≤ k * sz := by rw [← Nat.succ_mul]; exact Nat.mul_le_mul_right _ hlt
              omega
            · have : (k + q) * sz ≤ i' * sz := Nat.mul_le_mul_right _ (by omega)
              rw [Nat.add_mul] at this
              omega
          rw [if_neg hne] at hc2
          exact hdd i' j s c' hi' hj ((hxs _ hjl).trans hc2)
      refine hden.ext ⟨hg.os, hg.tape, hg.output, hg.size, fun k' hk' hnk => hg.block k' hk' (fun e => hnk (.inr ⟨i, _, hi, rfl, e.symm⟩))⟩ (mset_set hi rfl fun c'' hc'' => .inl (by rw [hL]; exact hc'')))
  have hup : upd L i (L i) = L := funext fun j => by unfold upd; split <;> simp_all
  rw [hup] at hset
  refine hR.turn hset.1 (fun s c' hden => hden.ext hset.2 (fun c'' hc'' h' => by
    have := mset_set (w := w) (k' := .row t0 sz m true (spliceGet k q get2 get)) (v := L i) hi rfl (fun _ h => .inl h) c'' hc'' (by rw [hup]; exact h')
    exact this)) (fun _ _ => rfl) (by simp) (fun j t' sz' n' mu' get' hj => ?_)
  by_cases e : j = i
  · subst e
    rw [hi] at hj
    injection hj with hj
    injection hj with q1 q2 q3 q4 q5
    subst q2 q3
    exact ⟨t0, true, _, by rw [List.getElem?_set_self hil]⟩
  · exact ⟨t', mu', get', by rw [List.getElem?_set_ne (by omega)]; exact hj⟩

/-- append onto a row of the call's own. -/
theorem app_sound (hR : R N w0 M0 L st a w) {t e ty : TypeId} {sz bytes : Nat} (ht : AppTy P t e sz bytes) {d : Option Nat} {x y : LV} {vx vy : Value} {K : St → Prop} (h : appVC st e sz bytes x y d K)
    (hx : LDen (gOf a) w (mset M0 st.tb L) L st.tb x vx) (hy : LDen (gOf a) w (mset M0 st.tb L) L st.tb y vy) (hF : ∀ t, ∀ s ∈ gsl (look st.sl t), F s) (hd : ∀ k, d = some k → k < N ∧ ¬ F k) :
    ∃ v w' L' st', (Builtin.append_ #[t, t] ty #[vx, vy]).run P w = .ok v w' ∧ K st' ∧ R N w0 M0 L' st' (a.put d v) w' ∧ ∀ t, ∀ s ∈ gsl (look st'.sl t), F s := by
  unfold appVC at h
  split at h
  · rename_i i
    split at h
    · rename_i e' sz' n get hi
      split at h
      · rename_i m get' ob hsrc
        obtain ⟨⟨rfl, rfl, hob, hroom⟩, hk⟩ := h
        have hil : i < st.tb.length := (List.getElem?_eq_some_iff.1 hi).1
        obtain ⟨_, rfl⟩ := hx
        obtain ⟨xs, hown, hz, h1, hdd⟩ := hR.inv.ok i _ hi
        obtain ⟨v', w', news, hone', hrun, hown', hg, hblk, hnl, hn1, hnz, hnd⟩ := run_app ht ty 0 hown h1 (src_sound hR ht.pos hsrc hob hy) hroom (Nat.zero_le _)
        rw [ownBlock_eq hown, ownBlock_eq hown'] at hblk
        rw [ownBlock_eq hown] at hg
        have hf : ∀ b, blkNo v' = some b → (blkNo (L i) = some b ∨ w.heap.size ≤ b) ∧ b < w'.heap.size := by
          intro b hb
          refine ⟨?_, ?_⟩
          · rcases hblk with h | h
            · exact .inl (h ▸ hb)
            · rw [hb] at h; injection h with h; exact .inr (by omega)
          · exact (hown'.lt b (by rw [ownBlock_eq hown']; exact hb)).2
        have hset := hR.inv.set (k' := .row e' sz' (n + m) true (joinGet n get get')) (v := v') hi rfl hg hf (by
          have hj := row_join (w := w) (w' := w') (M := mset M0 st.tb L) (M' := mset M0 (st.tb.set i (.row e' sz' (n + m) true (joinGet n get get'))) (upd L i v')) hown.1 hz hnz hdd hnd
            (fun s u hden => hden.ext ⟨hg.os, hg.tape, hg.output, hg.size, fun k hk hnk => hg.block k hk (fun e => hnk (.inr ⟨i, _, hi, rfl, e.symm⟩))⟩ (mset_set hi rfl fun b hb => (hf b hb).1))
          exact ⟨xs ++ news, hown', hj.1, hone', hj.2⟩)
        have hR' : R N w0 M0 (upd L i v') { sl := killSl i st.sl, tb := st.tb.set i (.row e' sz' (n + m) true (joinGet n get get')) } a w' := by
          refine { inv := hset.1, size := hR.size, defers := hR.defers, slot := fun t => ?_ }
          simp only [look_killSl]
          have hs := hR.slot t
          have hdt : ∀ s u, Den w (mset M0 st.tb L) s u → Den w' (mset M0 (st.tb.set i (.row e' sz' (n + m) true (joinGet n get get'))) (upd L i v')) s u :=
            fun s u hden => hden.ext hset.2 (mset_set hi rfl fun b hb => (hf b hb).1)
          generalize look st.sl t = q at hs
          cases q with
          | any => trivial
          | sv s => exact hdt _ _ hs
          | ptr j off =>
            simp only [kill]
            split
            · trivial
            · rename_i hne
              obtain ⟨hj, b, hl, hv⟩ := hs
              exact ⟨by simpa using hj, b, by rw [upd_other _ _ _ _ hne]; exact hl, hv⟩
          | rp j k off =>
            simp only [kill]
            split
            · trivial
            · rename_i hne
              obtain ⟨b, n', c, t', sz2, mu, g, hj, hl, hk', hv⟩ := hs
              exact ⟨b, n', c, t', sz2, mu, g, by rw [List.getElem?_set_ne (by omega)]; exact hj, by rw [upd_other _ _ _ _ hne]; exact hl, hk', hv⟩
          | own j =>
            simp only [kill]
            split
            · trivial
            · rename_i hne
              obtain ⟨hj, hv⟩ := hs
              exact ⟨by simpa using hj, by rw [upd_other _ _ _ _ hne]; exact hv⟩
          | part j lo hi =>
            simp only [kill]
            split
            · trivial
            · rename_i hne
              obtain ⟨n', t', sz2, mu, g, hj, q1, q2, q3⟩ := hs
              exact ⟨n', t', sz2, mu, g, by rw [List.getElem?_set_ne (by omega)]; exact hj, q1, q2, by rw [upd_other _ _ _ _ hne]; exact q3⟩
          | opt => trivial
          | exact j =>
            simp only [kill]
            split
            · trivial
            · rename_i hne
              obtain ⟨hj, A, n', hs⟩ := hs
              exact ⟨by simpa using hj, A, n', by rw [upd_other _ _ _ _ hne]; exact hs⟩
          | isv j v =>
            simp only [kill]
            split
            · trivial
            · rename_i hne
              obtain ⟨hj, hs⟩ := hs
              exact ⟨by simpa using hj, by rw [upd_other _ _ _ _ hne]; exact hs⟩
        obtain ⟨hR2, hF2⟩ := hR'.put (F := F) (fun t s hs => by rw [look_killSl, gsl_kill] at hs; simp at hs) hd (x := .own i) (v := v') ⟨by simpa using hil, (upd_same _ _ _).symm⟩ (by simp [gsl])
        exact ⟨v', w', _, _, hrun, hk, hR2, hF2⟩
      · exact h.elim
    · exact h.elim
  · split at h
    · rename_i m get' ob hsrc
      obtain ⟨⟨hob, hroom⟩, hk⟩ := h
      have hvx : vx = .slice none 0 0 := by cases hx; rfl
      subst hvx
      obtain ⟨v', w', news, hone', hrun, hown', hg, hblk, hnl, hn1, hnz, hnd⟩ := run_app ht ty 0 (World.ownsRow_nil w 0 e sz) AllOne.nil (src_sound hR ht.pos hsrc hob hy) (by simpa using hroom) (Nat.zero_le _)
      simp only [Nat.zero_add, List.nil_append] at hown'
      rw [ownBlock_eq hown'] at hblk
      have hbel : Below w.heap.size w w' := ⟨hg.os, hg.tape, hg.output, hg.size, fun k hk => hg.block k hk (by simp [Value.ownBlock])⟩
      have hf : ∀ b, blkNo v' = some b → w.heap.size ≤ b ∧ b < w'.heap.size := by
        intro b hb
        refine ⟨?_, (hown'.lt b (by rw [ownBlock_eq hown']; exact hb)).2⟩
        rcases hblk with h | h
        · rw [h] at hb; simp [Value.ownBlock] at hb
        · rw [hb] at h; injection h with h; omega
      have hR' := hR.push hbel (k := .row e sz m true get') (v := v') hf ⟨news, hown', hnz, hone', fun i j s u hi hj hu => (hnd i j s u hi hj hu).mono hbel.size (mset_push fun b hb => (hf b hb).1) (fun ad u' ha _ hc => by rw [hbel.cell ha]; exact hc)⟩
      obtain ⟨hR2, hF2⟩ := hR'.put hF hd (x := .own st.tb.length) (v := v') ⟨by simp, (upd_same _ _ _).symm⟩ (by simp [gsl])
      exact ⟨v', w', _, _, hrun, hk, hR2, hF2⟩
    · exact h.elim
  · rename_i i k
    split at h
    · rename_i e' sz' n get hi
      split at h
      · rename_i j p q
        obtain ⟨⟨rfl, rfl, rfl, hkn⟩, hk⟩ := h
        have hil : j < st.tb.length := (List.getElem?_eq_some_iff.1 hi).1
        obtain ⟨_, _, _, hi1, _, hk1, hcx⟩ := rowPart_sound hR.inv (x := .part j 0 k) (j := j) (a := 0) (b := k) (sz := sz') (n := n) (by simp [rowPart, hi]) hx
        obtain ⟨_, _, _, hi2, hpq, hqn, hcy⟩ := rowPart_sound hR.inv (x := .part j p q) (j := j) (a := p) (b := q) (sz := sz') (n := n) (by simp [rowPart, hi]) hy
        obtain ⟨inf, z, hinf, hzz, hsz, hbb, hzs⟩ := ht.inf
        have hstay : q - p = 0 → ∀ v, LDen (gOf a) w (mset M0 st.tb L) L st.tb (.part j 0 (k + (q - p))) v → (Builtin.append_ #[t, t] ty #[vx, vy]).run P w = .ok v w → ∃ v w' L' st', (Builtin.append_ #[t, t] ty #[vx, vy]).run P w = .ok v w' ∧ K st' ∧ R N w0 M0 L' st' (a.put d v) w' ∧ ∀ t, ∀ s ∈ gsl (look st'.sl t), F s := by
          intro h0 v hv hrun
          have hsame : ({ st with tb := st.tb.set j (.row e' sz' n true (spliceGet k (q - p) (fun j => get (p + j)) get)) } : St) = st := by
            have hg : spliceGet k (q - p) (fun j => get (p + j)) get = get := funext fun j' => by unfold spliceGet; rw [if_neg (by omega)]
            rw [hg]
            have : st.tb.set j (.row e' sz' n true get) = st.tb := by
              apply List.ext_getElem?
              intro j'
              by_cases e : j = j'
              · subst e; rw [List.getElem?_set_self hil, hi]
              · rw [List.getElem?_set_ne e]
            rw [this]
          rw [hsame] at hk
          obtain ⟨hR2, hF2⟩ := hR.put hF hd (x := .part j 0 (k + (q - p))) (v := v) hv (by simp [gsl])
          exact ⟨v, w, L, _, hrun, hk, hR2, hF2⟩
        rcases hcx with ⟨hLn, rfl, h00⟩ | ⟨g, o, c, hL, hox, rfl, hnc⟩
        · rcases hcy with ⟨_, rfl, _⟩ | ⟨g, o, c, hL, _⟩
          · refine hstay (by omega) (.slice none 0 0) ⟨n, e', sz', true, get, hi, Nat.zero_le _, by omega, .inl ⟨hLn, rfl⟩⟩ ?_
            simp [Builtin.append_, run_underlying ht.und, sizeOf, typeInfo, hinf, Builtin.lenOf, Builtin.firstCells]
          · rw [hLn] at hL; cases hL
        · rcases hcy with ⟨hL', _⟩ | ⟨g', o', c', hL', hoy, rfl, _⟩
          · rw [hL] at hL'; cases hL'
          rw [hL] at hL'
          simp only [Value.slice.injEq, Option.some.injEq, Addr.mk.injEq, true_and, and_true] at hL'
          obtain ⟨rfl, rfl⟩ := hL'
          obtain ⟨xs, ⟨hxl, ho⟩, hz, h1a, hdd⟩ := hR.inv.ok j _ hi
          have h1 := h1a.xs ⟨hxl, ho⟩
          rw [hL] at ho
          rcases ho with ⟨hx', _⟩ | ⟨g2, cap, cur, hv, hg0, hh, _, hcm, hcur, htake⟩
          · cases hx'
          simp only [Value.slice.injEq, Option.some.injEq, Addr.mk.injEq, true_and, and_true] at hv
          obtain ⟨rfl, rfl⟩ := hv
          have e1 : p * sz' + (q - p) * sz' ≤ n * sz' := by rw [← Nat.add_mul]; exact Nat.mul_le_mul_right _ (by omega)
          have e2 : n * sz' ≤ c * sz' := Nat.mul_le_mul_right _ hnc
          have e3 : k * sz' + (q - p) * sz' ≤ n * sz' := by rw [← Nat.add_mul]; exact Nat.mul_le_mul_right _ (by omega)
          generalize hvs : (cur.toList.drop (p * sz')).take ((q - p) * sz') = vs
          have hvl : vs.length = (q - p) * sz' := by
            rw [← hvs, List.length_take, List.length_drop, Array.length_toList, hcur]; omega
          have hvg : ∀ j', j' < (q - p) * sz' → vs[j']? = cur[p * sz' + j']? := by
            intro j' hj'
            rw [← hvs, List.getElem?_take_of_lt hj', List.getElem?_drop]
            simp
          have hxs : ∀ j, j < n * sz' → xs[j]? = cur[j]? := by
            intro j hj
            rw [← htake, List.getElem?_take_of_lt hj]
            simp
          have h1v : ∀ v ∈ vs, v.oneCell' = true := by
            intro v hv
            obtain ⟨j', hj'⟩ := List.mem_iff_getElem?.1 hv
            have hlt := (List.getElem?_eq_some_iff.1 hj').1
            rw [hvl] at hlt
            rw [hvg j' hlt, ← hxs _ (by omega)] at hj'
            exact h1 v (List.mem_of_getElem? hj')
          have hload : (loadCells ⟨g, o', none⟩ ((q - p) * sz')).run P w = .ok vs.toArray w := by
            rw [← hvl]
            refine run_loadCells_list w _ vs fun j' v hj' => ?_
            have hlt := (List.getElem?_eq_some_iff.1 hj').1
            rw [hvl] at hlt
            have hpos : 0 < q - p := Nat.pos_of_ne_zero fun h0 => by rw [h0] at hlt; simp at hlt
            rw [hoy (by omega), add_none]
            simp only [World.cell?, hh]
            rw [← hvg j' hlt]
            exact hj'
          rcases Nat.eq_zero_or_pos (q - p) with h0 | h0
          · refine hstay h0 (.slice (some ⟨g, o, none⟩) (k + (q - p) - 0) (c - 0)) ⟨n, e', sz', true, get, hi, Nat.zero_le _, by omega, .inr ⟨g, o, c, hL, hox, rfl⟩⟩ ?_
            rw [h0] at hload ⊢
            simp only [Nat.zero_mul] at hload
            have hv0 : vs = [] := List.eq_nil_of_length_eq_zero (by rw [hvl, h0]; simp)
            subst hv0
            have : k ≤ c := by omega
            simp [Builtin.append_, run_underlying ht.und, sizeOf, typeInfo, hinf, Builtin.lenOf, Builtin.firstCells, hload, this, storeCells]
          · have hc0 : 0 < c := by omega
            have ho0 := hox (by omega)
            simp only [Nat.zero_mul] at ho0
            subst ho0
            have ho1 := hoy (by omega)
            subst ho1
            have hstore := run_storeCells_at P g (k * sz') e' vs 0 cur w hh (by rw [hvl, hcur]; omega) h1v
            have hR1 := row_splice hR hi hL hh (k := k) (q := q - p) (get2 := fun j => get (p + j)) (vs := vs) hkn hvl h1v (fun j' hj' => hz _ (by omega)) (fun i' j' s u hi' hj' hu => by
              have hjs : j' < sz' := by rw [← hz (p + i') (by omega)]; exact (List.getElem?_eq_some_iff.1 hj').1
              have e4 : i' * sz' + sz' ≤ (q - p) * sz' := by rw [← Nat.succ_mul]; exact Nat.mul_le_mul_right _ hi'
              refine hdd (p + i') j' s u (by omega) hj' ?_
              rw [hvg _ (by omega)] at hu
              rw [Nat.add_mul, hxs _ (by omega), ← hu]
              congr 1
              omega)
            have hset1 : (st.tb.set j (.row e' sz' n true (spliceGet k (q - p) (fun j => get (p + j)) get)))[j]? = some (.row e' sz' n true (spliceGet k (q - p) (fun j => get (p + j)) get)) := by rw [List.getElem?_set_self hil]
            obtain ⟨hR2, hF2⟩ := hR1.put hF hd (x := .part j 0 (k + (q - p))) (v := .slice (some ⟨g, 0, none⟩) (k + (q - p)) c) ⟨n, e', sz', true, _, hset1, Nat.zero_le _, by omega, .inr ⟨g, 0, c, hL, fun _ => by simp, by simp⟩⟩ (by simp [gsl])
            refine ⟨_, _, L, _, ?_, hk, hR2, hF2⟩
            have : k + (q - p) ≤ c := by omega
            simp [Builtin.append_, run_underlying ht.und, sizeOf, typeInfo, hinf, hsz, Builtin.lenOf, Builtin.firstCells, hload, this, add_none]
            simp only [Nat.add_zero, List.append_assoc] at hstore
            rw [hstore]
            rfl
      · exact h.elim
    · exact h.elim
  · exact h.elim

theorem zeroCells_get (z : Array Value) (n i : Nat) (hi : i < n * z.size) : (Builtin.zeroCells z n).toList[i]? = z[i % z.size]? := by
  have hp : 0 < z.size := Nat.pos_of_ne_zero fun h => by rw [h] at hi; simp at hi
  have hm : i % z.size < z.size := Nat.mod_lt _ hp
  simp [Builtin.zeroCells, hi, hm]

/-- clear on a part of a row of the call's own. -/
theorem clear_sound (hR : R N w0 M0 L st a w) {t e ty : TypeId} {sz : Nat} {z : List Value} (hu : P.underlying t = some (.slice e)) (hz0 : zeroOf P e = some z) (hzl : z.length = sz) {d : Option Nat} {x : LV} {vx : Value} {K : St → Prop}
    (h : clearVC st sz z x d K) (hx : LDen (gOf a) w (mset M0 st.tb L) L st.tb x vx) (hF : ∀ t, ∀ s ∈ gsl (look st.sl t), F s) (hd : ∀ k, d = some k → k < N ∧ ¬ F k) :
    ∃ v w' L' st', (Builtin.clear_ #[t] ty #[vx]).run P w = .ok v w' ∧ K st' ∧ R N w0 M0 L' st' (a.put d v) w' ∧ ∀ t, ∀ s ∈ gsl (look st'.sl t), F s := by
  unfold clearVC at h
  split at h
  · rename_i j p q
    split at h
    · rename_i e' sz' n get hi
      obtain ⟨rfl, hk⟩ := h
      have hil : j < st.tb.length := (List.getElem?_eq_some_iff.1 hi).1
      obtain ⟨_, _, _, hi1, hpq, hqn, hcx⟩ := rowPart_sound hR.inv (x := .part j p q) (j := j) (a := p) (b := q) (sz := sz') (n := n) (by simp [rowPart, hi]) hx
      have hstay : q - p = 0 → (Builtin.clear_ #[t] ty #[vx]).run P w = .ok (.tuple #[]) w → ∃ v w' L' st', (Builtin.clear_ #[t] ty #[vx]).run P w = .ok v w' ∧ K st' ∧ R N w0 M0 L' st' (a.put d v) w' ∧ ∀ t, ∀ s ∈ gsl (look st'.sl t), F s := by
        intro h0 hrun
        have hsame : ({ st with tb := st.tb.set j (.row e' sz' n true (spliceGet p (q - p) (fun _ => z.map SV.val) get)) } : St) = st := by
          have hg : spliceGet p (q - p) (fun _ => z.map SV.val) get = get := funext fun j' => by unfold spliceGet; rw [if_neg (by omega)]
          rw [hg]
          have : st.tb.set j (.row e' sz' n true get) = st.tb := by
            apply List.ext_getElem?
            intro j'
            by_cases e : j = j'
            · subst e; rw [List.getElem?_set_self hil, hi]
            · rw [List.getElem?_set_ne e]
          rw [this]
        rw [hsame] at hk
        obtain ⟨hR2, hF2⟩ := hR.put hF hd (x := .sv (.tup [])) (v := .tuple #[]) (.tup [] #[] rfl (by simp)) (by simp [gsl])
        exact ⟨_, w, L, _, hrun, hk, hR2, hF2⟩
      rcases hcx with ⟨hLn, rfl, h00⟩ | ⟨g, o, c, hL, hox, rfl, hnc⟩
      · refine hstay (by omega) ?_
        simp [Builtin.clear_, run_underlying hu]
      · rcases Nat.eq_zero_or_pos (q - p) with h0 | h0
        · refine hstay h0 ?_
          rw [h0]
          simp [Builtin.clear_, run_underlying hu]
        · obtain ⟨xs, ⟨hxl, ho⟩, hz, h1, hdd⟩ := hR.inv.ok j _ hi
          rw [hL] at ho
          rcases ho with ⟨hx', _⟩ | ⟨g2, cap, cur, hv, hg0, hh, _, hcm, hcur, htake⟩
          · cases hx'
          simp only [Value.slice.injEq, Option.some.injEq, Addr.mk.injEq, true_and, and_true] at hv
          obtain ⟨rfl, rfl⟩ := hv
          have ho1 := hox (by omega)
          subst ho1
          obtain ⟨zv, hzr, hzc, hz1⟩ := run_zero (P := P) (w := w) hz0
          have e1 : p * sz' + (q - p) * sz' ≤ n * sz' := by rw [← Nat.add_mul]; exact Nat.mul_le_mul_right _ (by omega)
          have e2 : n * sz' ≤ c * sz' := Nat.mul_le_mul_right _ hnc
          have hzs : zv.cells.size = sz' := by rw [← hzl, ← hzc]; simp
          have hvl : (Builtin.zeroCells zv.cells (q - p)).toList.length = (q - p) * sz' := by simp [Builtin.zeroCells, hzs]
          have hvg : ∀ i, i < (q - p) * sz' → (Builtin.zeroCells zv.cells (q - p)).toList[i]? = z[i % sz']? := by
            intro i hi
            rw [zeroCells_get _ _ _ (by rw [hzs]; exact hi), hzs, ← hzc]
            simp
          have h1v : ∀ v ∈ (Builtin.zeroCells zv.cells (q - p)).toList, v.oneCell' = true := by
            intro v hv
            obtain ⟨j', hj'⟩ := List.mem_iff_getElem?.1 hv
            have hlt := (List.getElem?_eq_some_iff.1 hj').1
            rw [hvl] at hlt
            rw [hvg j' hlt] at hj'
            exact hz1 v (List.mem_of_getElem? hj')
          have hstore := run_storeCells_at P g (p * sz') e' (Builtin.zeroCells zv.cells (q - p)).toList 0 cur w hh (by rw [hvl, hcur]; omega) h1v
          have hR1 := row_splice hR hi hL hh (k := p) (q := q - p) (get2 := fun _ => z.map SV.val) (vs := (Builtin.zeroCells zv.cells (q - p)).toList) (by omega) hvl h1v (fun j' hj' => by simp [hzl]) (fun i' j' s u hi' hj' hu => by
            have hjs : j' < sz' := by
              have := (List.getElem?_eq_some_iff.1 hj').1
              simpa [hzl] using this
            have e4 : i' * sz' + sz' ≤ (q - p) * sz' := by rw [← Nat.succ_mul]; exact Nat.mul_le_mul_right _ hi'
            rw [hvg _ (by omega), Nat.mul_add_mod_self_right, Nat.mod_eq_of_lt hjs] at hu
            simp only [List.getElem?_map, hu, Option.map_some, Option.some.injEq] at hj'
            subst hj'
            exact .val u)
          obtain ⟨hR2, hF2⟩ := hR1.put hF hd (x := .sv (.tup [])) (v := .tuple #[]) (.tup [] #[] rfl (by simp)) (by simp [gsl])
          refine ⟨_, _, L, _, ?_, hk, hR2, hF2⟩
          have hne : ∃ m, q - p = m + 1 := ⟨q - p - 1, by omega⟩
          obtain ⟨m, hm⟩ := hne
          simp only [Nat.add_zero] at hstore
          rw [hm] at hstore ⊢
          simp [Builtin.clear_, run_underlying hu, hzr]
          simp only [List.append_assoc] at hstore
          rw [hstore]
          simp
    · exact h.elim
  · exact h.elim
end
end Go.Sx

namespace Go.Sx
open Go Go.RowKit
set_option linter.unusedSimpArgs false

section
variable {P : Program} {N : Nat} {w0 : Base} {M0 : Nat → Prop} {L : Nat → Value} {st : St} {a : Act} {w : World} {F : Nat → Prop}

theorem look_expandSl (i n t : Nat) : ∀ sl : List (Nat × LV), look (expandSl i n sl) t = if t ∈ sl.map (·.1) then expand i n (look sl t) else .any
  | [] => rfl
  | (k, x) :: r => by
    simp only [expandSl, look, List.map_cons, List.mem_cons]
    by_cases h : k = t
    · simp [h]
    · have h' : ¬ t = k := fun e => h e.symm
      simp only [if_neg h, h', false_or]
      exact look_expandSl i n t r

theorem gsl_expand (i n : Nat) (x : LV) : gsl (expand i n x) = [] := by
  cases x <;> simp only [expand] <;> first | exact gsl_kill _ _ | (split <;> simp [gsl])

/-- The capacity of a row of the call's own. -/
theorem cap_sound (hR : R N w0 M0 L st a w) {t e ty : TypeId} (hu : P.underlying t = some (.slice e)) {d : Option Nat} {i : Nat} {vx : Value} {K : St → Prop} (h : capVC st (.own i) d K)
    (hx : LDen (gOf a) w (mset M0 st.tb L) L st.tb (.own i) vx) (hd : ∀ k, d = some k → k < N ∧ ¬ F k) :
    ∃ v L' st', (Builtin.cap_ #[t] ty #[vx]).run P w = .ok v w ∧ K st' ∧ R N w0 M0 L' st' (a.put d v) w ∧ ∀ t, ∀ s ∈ gsl (look st'.sl t), F s := by
  simp only [capVC] at h
  split at h
  · rename_i t0 sz n get hi
    have hil : i < st.tb.length := (List.getElem?_eq_some_iff.1 hi).1
    obtain ⟨_, rfl⟩ := hx
    obtain ⟨xs, ⟨hxl, ho⟩, hz, h1, hdd⟩ := hR.inv.ok i _ hi
    -- the row with all its capacity
    have key : ∀ (c : Nat) (v' : Value) (get' : Nat → List SV), n ≤ c → c ≤ maxLen → (∀ j, j < n → get' j = get j) → (∃ A, L i = .slice A n c) → blkNo v' = blkNo (L i) → (∃ A, v' = .slice A c c) → (L i = .slice none 0 0 → v' = .slice none 0 0) →
        (∀ g c', L i = .slice (some ⟨g, 0, none⟩) n c' → v' = .slice (some ⟨g, 0, none⟩) c' c') → BlkOK w (mset M0 st.tb L) 0 (.row t0 sz c true get') v' →
        ∃ v L' st', (Builtin.cap_ #[t] ty #[L i]).run P w = .ok v w ∧ K st' ∧ R N w0 M0 L' st' (a.put d v) w ∧ ∀ t, ∀ s ∈ gsl (look st'.sl t), F s := by
      intro c v' get' hnc hcm hag ⟨A, hLA⟩ hblk ⟨A', hA'⟩ hnil hsome hok
      have hms : ∀ b, b < w.heap.size → mset M0 (st.tb.set i (.row t0 sz c true get')) (upd L i v') b → mset M0 st.tb L b := mset_set hi rfl fun b hb => .inl (by rw [← hblk]; exact hb)
      have hset := hR.inv.set (k' := .row t0 sz c true get') (v := v') hi rfl (w' := w) ⟨rfl, rfl, rfl, Nat.le_refl _, fun _ _ _ => rfl⟩ (fun b hb => by
        rw [hblk] at hb
        exact ⟨.inl hb, (hR.inv.low i b hil hb).2⟩) (hok.ext (Ext.refl _ w) hms (fun _ _ => rfl))
      have hdt : ∀ s u, Den w (mset M0 st.tb L) s u → Den w (mset M0 (st.tb.set i (.row t0 sz c true get')) (upd L i v')) s u := fun s u hden => hden.ext (Ext.refl _ w) hms
      have hget : (st.tb.set i (.row t0 sz c true get'))[i]? = some (.row t0 sz c true get') := by rw [List.getElem?_set_self hil]
      have hk := (kill_rel (a := a) hR hset.1 hdt).1
      have hR' : R N w0 M0 (upd L i v') { sl := (exSlot i, .exact i) :: expandSl i n st.sl, tb := st.tb.set i (.row t0 sz c true get') } a w := by
        refine { inv := hset.1, size := hR.size, defers := hR.defers, slot := fun t => ?_ }
        simp only [look]
        split
        · exact ⟨by simpa using hil, A', c, by rw [upd_same]; exact hA'⟩
        · rw [look_expandSl]
          split
          · have hs := hR.slot t
            have hsk := hk.slot t
            rw [look_killSl] at hsk
            generalize look st.sl t = q at hs hsk
            cases q with
            | own j =>
              simp only [expand]
              split
              · rename_i hj
                subst hj
                obtain ⟨_, hv⟩ := hs
                refine ⟨c, t0, sz, true, get', hget, Nat.zero_le _, hnc, ?_⟩
                rw [hv, upd_same]
                rcases ho with ⟨hn0, h00⟩ | ⟨g, cap, cur, hl, _⟩
                · exact .inl ⟨hnil hn0, hn0⟩
                · have := hsome g cap hl
                  have hcc : cap = c := by
                    rw [hLA] at hl
                    injection hl with _ _ hcc
                    exact hcc.symm
                  subst hcc
                  exact .inr ⟨g, 0, cap, this, fun _ => by simp, by rw [hl]; simp⟩
              · rename_i hj
                simp only [kill, if_neg hj] at hsk
                exact hsk
            | any => trivial
            | sv s => exact hsk
            | ptr j o => exact hsk
            | rp j k o => exact hsk
            | part j lo hi => exact hsk
            | opt s b x => exact hsk
            | exact j => exact hsk
            | isv j v => exact hsk
          · trivial
      obtain ⟨hR2, hF2⟩ := hR'.put (F := F) (fun t s hs => by
        simp only [look] at hs
        split at hs
        · simp [gsl] at hs
        · rw [look_expandSl] at hs
          split at hs
          · rw [gsl_expand] at hs; simp at hs
          · simp [gsl] at hs) hd (x := .sv (.int .i64 c)) (v := .int .i64 c) (.int _ _) (by simp [gsl])
      refine ⟨_, _, _, ?_, h c get' hnc hcm hag, hR2, hF2⟩
      rw [hLA]
      simp [Builtin.cap_, run_underlying hu, goInt]
    rcases ho with ⟨hn0, h00⟩ | ⟨g, cap, cur, hl, hg0, hh, hnc, hcm, hcur, htake⟩
    · subst h00
      refine key 0 (.slice none 0 0) get (Nat.le_refl _) (by simp [maxLen]) (fun _ _ => rfl) ⟨none, hn0⟩ (by rw [hn0]) ⟨none, rfl⟩ (fun _ => rfl) (fun g c' hl => by rw [hn0] at hl; cases hl) ?_
      have := hR.inv.ok i _ hi
      rw [hn0] at this
      exact this
    · refine key cap (.slice (some ⟨g, 0, none⟩) cap cap) (fun j => if j < n then get j else (List.range sz).map fun k => .val (cur.getD (j * sz + k) undef)) hnc hcm (fun j hj => by simp [hj]) ⟨_, hl⟩ (by rw [hl]; rfl) ⟨_, rfl⟩
        (fun h => by rw [hl] at h; cases h) (fun g' c' hl' => by rw [hl] at hl'; injection hl' with e1 _ e3; injection e1 with e1; injection e1 with e1 _; subst e1 e3; rfl) ?_
      have hone := h1 g cur t0 (0, 0) (by rw [hl]; rfl) hh
      refine ⟨cur.toList, ⟨by simp [hcur], .inr ⟨g, cap, cur, rfl, hg0, hh, Nat.le_refl _, hcm, hcur, List.take_of_length_le (by simp [hcur])⟩⟩, fun j hj => ?_, AllOne.of_heap (g := g) rfl hh hone, fun i' j s u hi' hj hu => ?_⟩
      · show (if j < n then get j else (List.range sz).map fun k => SV.val (cur.getD (j * sz + k) undef)).length = sz
        split
        · rename_i hlt; exact hz j hlt
        · simp
      · have hj : (if i' < n then get i' else (List.range sz).map fun k => SV.val (cur.getD (i' * sz + k) undef))[j]? = some s := hj
        split at hj
        · rename_i hlt
          refine hdd i' j s u hlt hj ?_
          have hjs : j < sz := by rw [← hz i' hlt]; exact (List.getElem?_eq_some_iff.1 hj).1
          have : i' * sz + sz ≤ n * sz := by rw [← Nat.succ_mul]; exact Nat.mul_le_mul_right _ hlt
          rw [← htake, List.getElem?_take_of_lt (by omega)]
          exact hu
        · simp only [List.getElem?_map, Option.map_eq_some_iff] at hj
          obtain ⟨k, hk, rfl⟩ := hj
          have hkl := (List.getElem?_eq_some_iff.1 hk).1
          rw [List.getElem?_range (by simpa using hkl)] at hk
          injection hk with hk
          subst hk
          have hul : i' * sz + j < cur.size := by
            have := (List.getElem?_eq_some_iff.1 hu).1
            simpa using this
          have : cur.getD (i' * sz + j) undef = u := by
            have hu' : cur[i' * sz + j]? = some u := by simpa using hu
            simp [Array.getD, hul]
            rw [Array.getElem?_eq_getElem hul] at hu'
            injection hu'
          rw [this]
          exact .val u
  · exact h.elim

/-- What is read of a part of a row. -/
theorem src_of_part (hR : R N w0 M0 L st a w) {j lo hi n sz : Nat} {t : TypeId} {mu : Bool} {get : Nat → List SV} {u : Value} (hj : st.tb[j]? = some (.row t sz n mu get)) (hy : LDen (gOf a) w (mset M0 st.tb L) L st.tb (.part j lo hi) u) :
    Src w (mset M0 st.tb L) sz (hi - lo) (fun k => get (lo + k)) u := by
  obtain ⟨n', t', sz', mu', get', hj', h1, h2, h3⟩ := hy
  rw [hj] at hj'
  injection hj' with hj'
  injection hj' with e1 e2 e3 e4 e5
  subst e1 e2 e3 e4 e5
  obtain ⟨xs, hown, hz, hone, hdd⟩ := hR.inv.ok j _ hj
  have hx1 := hone.xs hown
  obtain ⟨hxl, ho⟩ := hown
  rcases h3 with ⟨hL, rfl⟩ | ⟨b, o, c, hL, hoo, rfl⟩
  · rcases ho with ⟨_, h00⟩ | ⟨g, cap, cur, hl, _⟩
    · have : hi - lo = 0 := by omega
      rw [this]
      exact ⟨none, 0, [], rfl, by simp, by simp, by simp, fun _ => rfl, fun i h => by omega, fun i j s v hi => by omega⟩
    · rw [hL] at hl; cases hl
  · rcases ho with ⟨hl, _⟩ | ⟨g, cap, cur, hl, hg0, hh, hnc, hcm, hcur, htake⟩
    · rw [hL] at hl; cases hl
    rw [hL] at hl
    injection hl with e1 _ e3
    injection e1 with e1
    injection e1 with e1 _
    subst e1 e3
    have hlen : lo * sz + (hi - lo) * sz ≤ n * sz := by rw [← Nat.add_mul]; exact Nat.mul_le_mul_right _ (by omega)
    refine ⟨some ⟨b, o, none⟩, c - lo, (xs.drop (lo * sz)).take ((hi - lo) * sz), rfl, by rw [List.length_take, List.length_drop, hxl]; omega, fun v hv => hx1 v (List.mem_of_mem_drop (List.mem_of_mem_take hv)), ?_, (fun h => by cases h), fun i hi' => hz _ (by omega), ?_⟩
    · intro ad had k v hk
      injection had with had
      subst had
      have hkl := (List.getElem?_eq_some_iff.1 hk).1
      rw [List.length_take, List.length_drop, hxl] at hkl
      have hk2 : k < (hi - lo) * sz := by omega
      have hpos : 0 < hi - lo := Nat.pos_of_ne_zero fun h0 => by rw [h0] at hk2; simp at hk2
      rw [hoo (by omega), add_none]
      rw [List.getElem?_take_of_lt hk2, List.getElem?_drop, ← htake, List.getElem?_take_of_lt (by omega)] at hk
      simp only [World.cell?, hh]
      simpa using hk
    · intro i k s v hi' hk hv
      have hks : k < sz := by rw [← hz (lo + i) (by omega)]; exact (List.getElem?_eq_some_iff.1 hk).1
      have e4 : i * sz + sz ≤ (hi - lo) * sz := by rw [← Nat.succ_mul]; exact Nat.mul_le_mul_right _ hi'
      refine hdd (lo + i) k s v (by omega) hk ?_
      rw [List.getElem?_take_of_lt (by omega), List.getElem?_drop] at hv
      rw [Nat.add_mul, ← hv]
      congr 1
      omega

theorem srcP_sound (hR : R N w0 M0 L st a w) {sz m : Nat} {get : Nat → List SV} {ob : Prop} {y : LV} {u : Value} (hsz : 0 < sz) (h : srcP st.tb sz y = some (m, get, ob)) (hob : ob)
    (hy : LDen (gOf a) w (mset M0 st.tb L) L st.tb y u) : Src w (mset M0 st.tb L) sz m get u := by
  cases y with
  | sv s =>
    simp only [srcP] at h
    split at h
    · rename_i n g hls
      simp only [Option.some.injEq, Prod.mk.injEq] at h
      obtain ⟨rfl, rfl, rfl⟩ := h
      exact src_of_den hsz (den_lstOf' hls hob hy)
    · cases h
  | own j =>
    simp only [srcP] at h
    split at h
    · rename_i t sz' n mu g hrow
      simp only [Option.some.injEq, Prod.mk.injEq] at h
      obtain ⟨rfl, rfl, rfl⟩ := h
      subst hob
      obtain ⟨_, rfl⟩ := hy
      exact src_of_row (hR.inv.ok j _ hrow)
    · cases h
  | part j lo hi =>
    simp only [srcP] at h
    split at h
    · rename_i t sz' n mu g hrow
      simp only [Option.some.injEq, Prod.mk.injEq] at h
      obtain ⟨rfl, rfl, rfl⟩ := h
      subst hob
      exact src_of_part hR hrow hy
    · cases h
  | any => simp [srcP] at h
  | ptr => simp [srcP] at h
  | rp => simp [srcP] at h
  | opt => simp [srcP] at h
  | exact => simp [srcP] at h
  | isv => simp [srcP] at h

/-- copy into a part of a row of the call's own. -/
theorem copy_sound (hR : R N w0 M0 L st a w) {t t2 e ty : TypeId} {sz : Nat} (hu : P.underlying t = some (.slice e)) (hse : sizeOf? P e = some sz) (hpos : 0 < sz) {d : Option Nat} {x y : Operand} {st' : St} {obs : List Prop}
    (h : effF st (.copy sz x y) d = some (st', obs)) (ho : AllP obs) (hF : ∀ t, ∀ s ∈ gsl (look st.sl t), F s) (hd : ∀ k, d = some k → k < N ∧ ¬ F k) :
    ∃ v w' L', (Builtin.copy_ #[t, t2] ty #[a.eval x, a.eval y]).run P w = .ok v w' ∧ R N w0 M0 L' st' (a.put d v) w' ∧ ∀ t, ∀ s ∈ gsl (look st'.sl t), F s := by
  have hx := hR.ev x
  have hy := hR.ev y
  simp only [effF] at h
  split at h
  · rename_i i p q hev
    rw [hev] at hx
    split at h
    · rename_i e' sz' n get hi
      split at h
      · rename_i m get2 ob hsrc
        simp only [Option.some.injEq, Prod.mk.injEq] at h
        obtain ⟨rfl, rfl⟩ := h
        obtain ⟨⟨rfl, hob⟩, _⟩ := ho
        have hs := srcP_sound hR hpos hsrc hob hy
        have hil : i < st.tb.length := (List.getElem?_eq_some_iff.1 hi).1
        obtain ⟨A, c, news, hyv, hnl, hn1, hcell, hnil, hz2, hdd2⟩ := hs
        have hszr : (sizeOf e).run P w = .ok sz' w := run_sizeOf hse
        obtain ⟨_, _, _, hi1, hpq, hqn, hcx⟩ := rowPart_sound hR.inv (x := .part i p q) (j := i) (a := p) (b := q) (sz := sz') (n := n) (by simp [rowPart, hi]) hx
        generalize hk : min m (q - p) = k
        have hkm : Nat.min m (q - p) = k := hk
        have hload : (Builtin.firstCells sz' k (a.eval y)).run P w = .ok ((news.take (k * sz')).toArray) w := by
          rw [hyv]
          cases A with
          | none =>
            have hm := hnil rfl
            subst hm
            have : news = [] := List.eq_nil_of_length_eq_zero (by simpa using hnl)
            subst this
            simp [Builtin.firstCells]
          | some ad =>
            have hkle : k * sz' ≤ m * sz' := Nat.mul_le_mul_right _ (by omega)
            exact run_firstCells_some w sz' k ad m c (news.take (k * sz')) (by rw [List.length_take, hnl]; omega) (fun j v hj => hcell ad rfl j v (by
              have hlt := (List.getElem?_eq_some_iff.1 hj).1
              rw [List.length_take] at hlt
              rwa [List.getElem?_take_of_lt (by omega)] at hj))
        have hlenof : (Builtin.lenOf (a.eval y)).run P w = .ok m w := by rw [hyv]; simp [Builtin.lenOf]
        have hstay : k = 0 → (Builtin.copy_ #[t, t2] ty #[a.eval x, a.eval y]).run P w = .ok (.int .i64 ((k : Nat) : Int)) w → ∃ v w' L', (Builtin.copy_ #[t, t2] ty #[a.eval x, a.eval y]).run P w = .ok v w' ∧
            R N w0 M0 L' (St.put { st with tb := st.tb.set i (.row e' sz' n true (spliceGet p k get2 get)) } d (.sv (.int .i64 ((k : Nat) : Int)))) (a.put d v) w' ∧ ∀ t, ∀ s ∈ gsl (look (St.put { st with tb := st.tb.set i (.row e' sz' n true (spliceGet p k get2 get)) } d (.sv (.int .i64 ((k : Nat) : Int)))).sl t), F s := by
          intro h0 hrun
          have hsame : ({ st with tb := st.tb.set i (.row e' sz' n true (spliceGet p k get2 get)) } : St) = st := by
            have hg : spliceGet p k get2 get = get := funext fun j' => by unfold spliceGet; rw [if_neg (by omega)]
            rw [hg]
            have : st.tb.set i (.row e' sz' n true get) = st.tb := by
              apply List.ext_getElem?
              intro j'
              by_cases e : i = j'
              · subst e; rw [List.getElem?_set_self hil, hi]
              · rw [List.getElem?_set_ne e]
            rw [this]
          rw [hsame]
          obtain ⟨hR2, hF2⟩ := hR.put hF hd (x := .sv (.int .i64 ((k : Nat) : Int))) (v := .int .i64 ((k : Nat) : Int)) (.int _ _) (by simp [gsl])
          exact ⟨_, w, L, hrun, hR2, hF2⟩
        rcases hcx with ⟨hLn, hxv, h00⟩ | ⟨g, o, c', hL, hox, hxv, hnc⟩
        · refine hstay (by omega) ?_
          have hk0 : k = 0 := by omega
          rw [hk0] at hload
          rw [hxv, hk0]
          simp [Builtin.copy_, run_underlying hu, hlenof, hszr, hload, goInt]
        · rcases Nat.eq_zero_or_pos k with h0 | h0
          · refine hstay h0 ?_
            rw [h0] at hload
            simp only [Nat.zero_mul, List.take_zero] at hload
            have hkm' : Nat.min m (q - p) = 0 := by omega
            rw [hxv]
            simp [Builtin.copy_, run_underlying hu, hlenof, hszr, hkm', hload, goInt, storeCells, h0]
          · obtain ⟨xs, hown, hz, h1a, hdd⟩ := hR.inv.ok i _ hi
            obtain ⟨hxl, ho⟩ := hown
            rw [hL] at ho
            rcases ho with ⟨hx', _⟩ | ⟨g2, cap, cur, hv, hg0, hh, _, hcm, hcur, htake⟩
            · cases hx'
            simp only [Value.slice.injEq, Option.some.injEq, Addr.mk.injEq, true_and, and_true] at hv
            obtain ⟨rfl, rfl⟩ := hv
            have hkle : k * sz' ≤ m * sz' := Nat.mul_le_mul_right _ (by omega)
            have hvl : (news.take (k * sz')).length = k * sz' := by rw [List.length_take, hnl]; omega
            have e1 : p * sz' + k * sz' ≤ n * sz' := by rw [← Nat.add_mul]; exact Nat.mul_le_mul_right _ (by omega)
            have e2 : n * sz' ≤ c' * sz' := Nat.mul_le_mul_right _ hnc
            have ho1 := hox (by omega)
            subst ho1
            have h1v : ∀ v ∈ news.take (k * sz'), v.oneCell' = true := fun v hv => hn1 v (List.mem_of_mem_take hv)
            have hstore := run_storeCells_at P g (p * sz') e' (news.take (k * sz')) 0 cur w hh (by rw [hvl, hcur]; omega) h1v
            have hR1 := row_splice hR hi hL hh (k := p) (q := k) (get2 := get2) (vs := news.take (k * sz')) (by omega) hvl h1v (fun j' hj' => hz2 _ (by omega)) (fun i' j' s u hi' hj' hu' => by
              have hjs : j' < sz' := by rw [← hz2 i' (by omega)]; exact (List.getElem?_eq_some_iff.1 hj').1
              have e4 : i' * sz' + sz' ≤ k * sz' := by rw [← Nat.succ_mul]; exact Nat.mul_le_mul_right _ hi'
              rw [List.getElem?_take_of_lt (by omega)] at hu'
              exact hdd2 i' j' s u (by omega) hj' hu')
            obtain ⟨hR2, hF2⟩ := hR1.put hF hd (x := .sv (.int .i64 ((k : Nat) : Int))) (v := .int .i64 ((k : Nat) : Int)) (.int _ _) (by simp [gsl])
            refine ⟨_, _, L, ?_, hR2, hF2⟩
            rw [hxv]
            simp only [Nat.add_zero] at hstore
            simp [Builtin.copy_, run_underlying hu, hlenof, hszr, hkm, hload, goInt]
            simp only [List.append_assoc] at hstore
            rw [hstore]
            simp
      · cases h
    · cases h
  · cases h

/-- A new row: some cells of an older one, and zero values. -/
theorem push_zeros (hR : R N w0 M0 L st a w) {e : TypeId} {sz k m cap : Nat} {get : Nat → List SV} {z : Array Value} {zl : List Value} (hzl : z.toList = zl) (hzs : z.size = sz) (hz1 : ∀ u ∈ zl, u.oneCell' = true) {olds : List Value} (hol : olds.length = k * sz)
    (ho1 : ∀ u ∈ olds, u.oneCell' = true) (hz : ∀ i, i < k → (get i).length = sz) (hdd : ∀ (i j : Nat) s u, i < k → (get i)[j]? = some s → olds[i * sz + j]? = some u → Den w (mset M0 st.tb L) s u) (hcap : k + m ≤ cap) (hcm : cap ≤ maxLen) :
    R N w0 M0 (upd L st.tb.length (.slice (some ⟨w.heap.size, 0, none⟩) (k + m) cap)) { st with tb := st.tb ++ [.row e sz (k + m) true (joinGet k get fun _ => zl.map SV.val)] } a
      (w.drew.alloc (.cells (olds.toArray ++ Builtin.zeroCells z m ++ Builtin.zeroCells z (cap - (k + m))) e)) := by
  subst hzl
  have hbel : Below w.heap.size w (w.drew.alloc (.cells (olds.toArray ++ Builtin.zeroCells z m ++ Builtin.zeroCells z (cap - (k + m))) e)) := ⟨rfl, rfl, rfl, by simp, fun k hk => heap_alloc_old w.drew _ k hk⟩
  refine hR.push hbel (fun b hb => by simp [blkNo] at hb; subst hb; simp) ?_
  have hone : ∀ u ∈ (olds.toArray ++ Builtin.zeroCells z m ++ Builtin.zeroCells z (cap - (k + m))).toList, u.oneCell' = true := by
    intro u hu
    simp only [Array.toList_append, List.mem_append] at hu
    rcases hu with (hu | hu) | hu
    · exact ho1 u hu
    · exact zeroCells_one hz1 _ u hu
    · exact zeroCells_one hz1 _ u hu
  have hlz : (Builtin.zeroCells z m).toList.length = m * sz := by simp [Builtin.zeroCells, hzs]
  have hlen : (olds ++ (Builtin.zeroCells z m).toList).length = (k + m) * sz := by rw [List.length_append, hol, hlz, Nat.add_mul]
  refine ⟨olds ++ (Builtin.zeroCells z m).toList, ⟨hlen, .inr ⟨w.heap.size, cap, _, rfl, Nat.zero_le _, heap_alloc_new w.drew _, hcap, hcm, ?_, ?_⟩⟩, fun i hi => ?_, AllOne.of_heap (g := w.heap.size) rfl (heap_alloc_new w.drew _) hone, fun i j s u hi hj hu => ?_⟩
  · simp only [Array.size_append, List.size_toArray, size_zeroCells, hzs, hol, ← Nat.add_mul]
    congr 1
    omega
  · simp only [Array.toList_append, List.append_assoc]
    rw [← List.append_assoc, ← hlen]
    exact List.take_left
  · unfold joinGet
    split
    · rename_i h; exact hz i h
    · simp [hzs]
  · have hden : Den w (mset M0 st.tb L) s u := by
      unfold joinGet at hj
      split at hj
      · rename_i h
        have hjs : j < sz := by rw [← hz i h]; exact (List.getElem?_eq_some_iff.1 hj).1
        have : i * sz + sz ≤ k * sz := by rw [← Nat.succ_mul]; exact Nat.mul_le_mul_right _ h
        rw [List.getElem?_append_left (by omega)] at hu
        exact hdd i j s u h hj hu
      · rename_i h
        have hjs : j < sz := by
          have := (List.getElem?_eq_some_iff.1 hj).1
          simpa [hzs] using this
        have e1 : k * sz ≤ i * sz := Nat.mul_le_mul_right _ (by omega)
        have e2 : i * sz + sz ≤ (k + m) * sz := by rw [← Nat.succ_mul]; exact Nat.mul_le_mul_right _ hi
        rw [Nat.add_mul] at e2
        rw [List.getElem?_append_right (by omega), zeroCells_get _ _ _ (by rw [hol, hzs]; omega)] at hu
        have e3 : i * sz + j - olds.length = (i - k) * sz + j := by rw [hol, Nat.sub_mul]; omega
        rw [e3, hzs, Nat.mul_add_mod_self_right, Nat.mod_eq_of_lt hjs] at hu
        have hu' : z.toList[j]? = some u := by simpa using hu
        simp only [List.getElem?_map, hu', Option.map_some, Option.some.injEq] at hj
        subst hj
        exact .val u
    exact hden.mono hbel.size (mset_push fun b hb => by simp [blkNo] at hb; omega) (fun ad u' ha _ hc => by rw [hbel.cell ha]; exact hc)

theorem appZ_sound (hR : R N w0 M0 L st a w) {t tn e ty : TypeId} {sz bytes : Nat} {zl : List Value} {kn : IntKind} (ht : AppTy P t e sz bytes) (hn : P.underlying tn = some (.int kn)) (hz0 : zeroOf P e = some zl) {d : Option Nat} {x y : Operand} {st' : St} {obs : List Prop}
    (h : effF st (.appZ e sz bytes zl x y) d = some (st', obs)) (ho : AllP obs) (hF : ∀ t, ∀ s ∈ gsl (look st.sl t), F s) (hd : ∀ k, d = some k → k < N ∧ ¬ F k) :
    ∃ v w' L', (Builtin.append_ #[t, tn] ty #[a.eval x, a.eval y]).run P w = .ok v w' ∧ R N w0 M0 L' st' (a.put d v) w' ∧ ∀ t, ∀ s ∈ gsl (look st'.sl t), F s := by
  have hx := hR.ev x
  have hy := hR.ev y
  obtain ⟨inf, z, hinf, hzz, hsz, hbb, hzs⟩ := ht.inf
  have hone := ht.one inf z hinf hzz
  have hzl : z.cells.toList = zl := by
    obtain ⟨zv, hzr, hzc, _⟩ := run_zero (P := P) (w := w) hz0
    have : (zeroValue e).run P w = .ok z w := by simp [zeroValue, typeInfo, hinf, hzz]
    rw [this] at hzr
    injection hzr with e1 _
    rw [e1]; exact hzc
  have hint : ∀ m, natOf (ev st.sl y) = some m → ∃ k, a.eval y = .int k m := by
    intro m hm
    unfold natOf at hm
    split at hm
    · rename_i k m' hx'
      rw [hx'] at hy
      injection hm with hm
      subst hm
      generalize hqv : a.eval y = u at hy
      cases hy
      exact ⟨k, rfl⟩
    · cases hm
  simp only [effF] at h
  split at h
  · rename_i m hev hm
    simp only [Option.some.injEq, Prod.mk.injEq] at h
    obtain ⟨rfl, rfl⟩ := h
    obtain ⟨⟨h0, hroom⟩, _⟩ := ho
    obtain ⟨k, hyv⟩ := hint m hm
    obtain ⟨mn, rfl⟩ := Int.eq_ofNat_of_zero_le (Int.le_of_lt h0)
    simp only [Int.toNat_natCast] at hroom ⊢
    rw [hev] at hx
    have hxv : a.eval x = .slice none 0 0 := by
      generalize a.eval x = u at hx
      cases hx; rfl
    have hmx : mn ≤ maxLen := hroom.2
    have hrun := Lib.run_append_nil_zeros (P := P) w t tn ty e inf z k kn ht.und hn hinf hzz mn (by omega) (by rw [hsz]; exact ht.pos) (by simp only [maxLen] at hmx; omega) (by rw [hbb]; have := hroom.1; omega)
    have hR1 := push_zeros hR (e := e) (sz := sz) (k := 0) (m := mn) (cap := grownCap w mn 0 e) (get := fun _ => []) hzl hzs (by rw [← hzl]; exact hone) (olds := []) (by simp) (by simp) (by simp) (fun i j s u hi => by omega)
      (by rw [Nat.zero_add]; exact grownCap_ge w mn 0 e) (grownCap_le_maxLen w mn 0 e hmx)
    have hj : joinGet 0 (fun _ => ([] : List SV)) (fun _ => zl.map SV.val) = fun _ => zl.map SV.val := funext fun i => by simp [joinGet]
    simp only [Nat.zero_add, hj, Array.empty_append] at hR1
    obtain ⟨hR2, hF2⟩ := hR1.put hF hd (x := .own st.tb.length) (v := .slice (some ⟨w.heap.size, 0, none⟩) mn (grownCap w mn 0 e)) ⟨by simp, (upd_same _ _ _).symm⟩ (by simp [gsl])
    exact ⟨_, _, _, by rw [hxv, hyv]; exact hrun, hR2, hF2⟩
  · rename_i i k m hev hm
    split at h
    · rename_i e' sz' n get hi
      split at h
      · rename_i hex
        simp only [Option.some.injEq, Prod.mk.injEq] at h
        obtain ⟨rfl, rfl⟩ := h
        obtain ⟨⟨rfl, rfl, h0, hlt, hroom⟩, _⟩ := ho
        obtain ⟨kq, hyv⟩ := hint m hm
        obtain ⟨mn, rfl⟩ := Int.eq_ofNat_of_zero_le (Int.le_of_lt h0)
        simp only [Int.toNat_natCast] at hroom hlt ⊢
        rw [hev] at hx
        have hil : i < st.tb.length := (List.getElem?_eq_some_iff.1 hi).1
        -- the row has all its capacity
        have hexact : ∃ A q, L i = .slice A q q := by
          have hs := hR.slot (exSlot i)
          unfold isExact at hex
          split at hex
          · rename_i j _ hlk
            rw [hlk] at hs
            simp only [decide_eq_true_eq] at hex
            subst hex
            exact hs.2
          · cases hex
        obtain ⟨A, q, hLq⟩ := hexact
        obtain ⟨n', t', szz, mu', get', hj', h1, h2, h3⟩ := hx
        rw [hi] at hj'
        injection hj' with hj'
        injection hj' with e1 e2 e3 e4 e5
        subst e1 e2 e3 e4 e5
        obtain ⟨xs, hown, hz, hone', hdd⟩ := hR.inv.ok i _ hi
        have hx1 := hone'.xs hown
        obtain ⟨hxl, ho⟩ := hown
        have hmx : k + mn ≤ maxLen := hroom.2
        have hkn : k * sz' ≤ n * sz' := Nat.mul_le_mul_right _ h2
        have hfin : ∀ (base : Option Addr) (cp : Nat), a.eval x = .slice base k cp → (Builtin.firstCells inf.size k (.slice base k cp)).run P w.drew = .ok (xs.take (k * sz')).toArray w.drew → cp < k + mn →
            ∃ v w' L', (Builtin.append_ #[t, tn] ty #[a.eval x, a.eval y]).run P w = .ok v w' ∧ R N w0 M0 L' (St.put { st with tb := st.tb ++ [.row e' sz' (k + mn) true (joinGet k get fun _ => zl.map SV.val)] } d (.own st.tb.length)) (a.put d v) w' ∧
              ∀ t, ∀ s ∈ gsl (look (St.put { st with tb := st.tb ++ [.row e' sz' (k + mn) true (joinGet k get fun _ => zl.map SV.val)] } d (.own st.tb.length)).sl t), F s := by
          intro base cp hxv hold hcp
          have hrun := Lib.run_append_grow_zeros (P := P) w t tn ty e' inf z kq kn ht.und hn hinf hzz base k cp (xs.take (k * sz')) hold mn (by omega) (by rw [hsz]; exact ht.pos) hcp (by simp only [maxLen] at hmx; omega)
            (by rw [hbb]; have := hroom.1; rw [Nat.add_mul] at this; omega) (by rw [hbb]; exact growslice_fits hcp hroom.1)
          have hR1 := push_zeros hR (e := e') (sz := sz') (k := k) (m := mn) (cap := grownCap w (k + mn) cp e') (get := get) hzl hzs (by rw [← hzl]; exact hone) (olds := xs.take (k * sz')) (by rw [List.length_take, hxl]; omega)
            (fun u hu => hx1 u (List.mem_of_mem_take hu)) (fun i hi => hz i (by omega)) (fun i j s u hi' hj hu => by
              have hjs : j < sz' := by rw [← hz i (by omega)]; exact (List.getElem?_eq_some_iff.1 hj).1
              have : i * sz' + sz' ≤ k * sz' := by rw [← Nat.succ_mul]; exact Nat.mul_le_mul_right _ hi'
              rw [List.getElem?_take_of_lt (by omega)] at hu
              exact hdd i j s u (by omega) hj hu) (grownCap_ge w (k + mn) cp e') (grownCap_le_maxLen w (k + mn) cp e' hmx)
          obtain ⟨hR2, hF2⟩ := hR1.put hF hd (x := .own st.tb.length) (v := .slice (some ⟨w.heap.size, 0, none⟩) (k + mn) (grownCap w (k + mn) cp e')) ⟨by simp, (upd_same _ _ _).symm⟩ (by simp [gsl])
          exact ⟨_, _, _, by rw [hyv, hxv]; exact hrun, hR2, hF2⟩
        rcases h3 with ⟨hL, hxv⟩ | ⟨b, o, c, hL, hoo, hxv⟩
        · rcases ho with ⟨_, h00⟩ | ⟨g, cap, cur, hl, _⟩
          · have hk0 : k = 0 := by omega
            subst hk0
            refine hfin none 0 hxv ?_ (by omega)
            simp [Builtin.firstCells]
          · rw [hL] at hl; cases hl
        · rcases ho with ⟨hl, _⟩ | ⟨g, cap, cur, hl, hg0, hh, hnc, hcm, hcur, htake⟩
          · rw [hL] at hl; cases hl
          rw [hL] at hl hLq
          injection hl with q1 _ q3
          injection q1 with q1
          injection q1 with q1 _
          subst q1 q3
          injection hLq with _ q4 q5
          have hnc' : n = c := q4.trans q5.symm
          have ho0 := hoo (.inl rfl)
          simp only [Nat.zero_mul] at ho0
          subst ho0
          simp only [Nat.sub_zero] at hxv
          refine hfin (some ⟨b, 0, none⟩) c hxv ?_ (by omega)
          refine run_firstCells_some w.drew inf.size k ⟨b, 0, none⟩ k c (xs.take (k * sz')) (by rw [List.length_take, hxl, hsz]; omega) fun j v hj => ?_
          have hlt := (List.getElem?_eq_some_iff.1 hj).1
          rw [List.length_take] at hlt
          rw [List.getElem?_take_of_lt (by omega), ← htake, List.getElem?_take_of_lt (by omega)] at hj
          rw [add_none, Nat.zero_add]
          have : w.drew.cell? ⟨b, j, none⟩ = w.cell? ⟨b, j, none⟩ := rfl
          rw [this]
          simp only [World.cell?, hh]
          simpa using hj
      · cases h
    · cases h
  · cases h
end
end Go.Sx

