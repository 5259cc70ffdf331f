/- A symbolic executor for the code of Go functions: its rules are proved sound; how a row follows from a contract. -/
import Derived.WalkSpells
import Derived.Test.YteecckjnbeambaaSx1
import Derived.KernelRfl
namespace Go.Sx
open Go Go.RowKit
set_option linter.unusedSimpArgs false
section
variable {P : Program}

theorem inv_box {op : Op} {t : TypeId} {x : Operand} (h : slimO P op = some (.box t x)) : op = .box t x := by
  unfold slimO at h
  (repeat' split at h) <;> simp_all

theorem inv_pick {op : Op} {c : Nat} {x y : Operand} (h : slimO P op = some (.pick c x y)) : op = .pick (.tmp c) x y := by
  unfold slimO at h
  (repeat' split at h) <;> simp_all

theorem inv_alloc {op : Op} {t : TypeId} {z : List Value} (h : slimO P op = some (.alloc t z)) : op = .alloc t ∧ zeroOf P t = some z := by
  unfold slimO at h
  (repeat' split at h) <;> simp_all

theorem inv_isnil {op : Op} {ne : Bool} {x : Operand} (h : slimO P op = some (.isnil ne x)) : ∃ t e y v, op = .binOp (if ne then .neq else .eql) t x (.const v) y ∧ P.underlying t = some (.slice e) ∧ isNilC v = true := by
  unfold slimO at h
  (repeat' split at h) <;> (try (simp at h; done)) <;> (try cases h)
  all_goals exact ⟨_, _, _, _, rfl, ‹_›, ‹_›⟩

theorem inv_store {op : Op} {n : Nat} {x v : Operand} (h : slimO P op = some (.store n x v)) : ∃ t, op = .store t x v ∧ sizeOf? P t = some n := by
  unfold slimO at h
  (repeat' split at h) <;> simp_all

theorem inv_call {op : Op} {f : FuncId} {xs : List Operand} (h : slimO P op = some (.call f xs)) : ∃ tys, op = .call ⟨.value (.func f), ⟨xs⟩, tys⟩ := by
  unfold slimO at h
  (repeat' split at h) <;> (try (simp at h; done)) <;> (try (injection h with h; injection h; done)) <;> (try cases h)
  all_goals exact ⟨_, rfl⟩

theorem inv_callv {op : Op} {x : Operand} {xs : List Operand} (h : slimO P op = some (.callv x xs)) : ∃ tys, op = .call ⟨.value x, ⟨xs⟩, tys⟩ := by
  unfold slimO at h
  (repeat' split at h) <;> (try (simp at h; done)) <;> (try (injection h with h; injection h; done)) <;> (try cases h)
  all_goals exact ⟨_, rfl⟩

theorem inv_buildS {op : Op} {e : TypeId} {sz len : Nat} {z : List Value} {ps : List (Nat × Operand)} (h : slimO P op = some (.buildS e sz len z ps)) :
    ∃ t, op = .buildSlice t len ⟨ps⟩ ∧ elemOf? P t = some e ∧ sizeOf? P e = some sz ∧ zeroOf P e = some z ∧ len * sz ≤ 16777216 ∧ z.length = sz ∧ 0 < sz := by
  unfold slimO at h
  (repeat' split at h) <;> (try (simp at h; done)) <;> (try cases h)
  all_goals exact ⟨_, rfl, ‹_›, ‹_›, ‹_›, ‹_›⟩

theorem inv_makeS {op : Op} {e : TypeId} {sz by' : Nat} {z : List Value} {x y : Operand} (h : slimO P op = some (.makeS e sz by' z x y)) :
    ∃ t, op = .makeSlice t x y ∧ elemOf? P t = some e ∧ sizeOf? P e = some sz ∧ bytesOf? P e = some by' ∧ zeroOf P e = some z ∧ z.length = sz := by
  unfold slimO at h
  (repeat' split at h) <;> (try (simp at h; done)) <;> (try cases h)
  all_goals exact ⟨_, rfl, ‹_›, ‹_›, ‹_›, ‹_›, ‹_›⟩

theorem inv_app {op : Op} {e : TypeId} {sz by' : Nat} {z : List Value} {x y : Operand} (h : slimO P op = some (.app e sz by' z x y)) :
    ∃ t, op = .call ⟨.builtin .append, ⟨[x, y]⟩, ⟨[t, t]⟩⟩ ∧ elemOf? P t = some e ∧ sizeOf? P e = some sz ∧ bytesOf? P e = some by' ∧ zeroOf P e = some z ∧ z.length = sz ∧ 0 < sz := by
  unfold slimO at h
  (repeat' split at h) <;> (try (simp at h; done)) <;> (try cases h)
  rename z.length = _ ∧ _ = _ => hz
  obtain ⟨hz, rfl⟩ := hz
  exact ⟨_, rfl, ‹_›, ‹_›, ‹_›, ‹_›, hz, by omega⟩

theorem inv_clear {op : Op} {e : TypeId} {sz : Nat} {z : List Value} {x : Operand} (h : slimO P op = some (.clear e sz z x)) :
    ∃ t, op = .call ⟨.builtin .clear, ⟨[x]⟩, ⟨[t]⟩⟩ ∧ elemOf? P t = some e ∧ zeroOf P e = some z ∧ z.length = sz := by
  unfold slimO at h
  (repeat' split at h) <;> (try (simp at h; done)) <;> (try cases h)
  exact ⟨_, rfl, ‹_›, ‹_›, ‹_›⟩

theorem inv_makeM {op : Op} {z : Value} (h : slimO P op = some (.makeM z)) : ∃ t, op = .makeMap t none ∧ mapOf P t = some z := by
  unfold slimO at h
  (repeat' split at h) <;> (try (simp at h; done)) <;> (try cases h)
  exact ⟨_, rfl, ‹_›⟩

theorem inv_mapUp {op : Op} {x k v : Operand} (h : slimO P op = some (.mapUp x k v)) : ∃ t z, op = .mapUpdate t x k v ∧ mapOf P t = some z := by
  unfold slimO at h
  (repeat' split at h) <;> (try (simp at h; done)) <;> (try cases h)
  exact ⟨_, _, rfl, ‹_›⟩
theorem inv_cap {op : Op} {x : Operand} (h : slimO P op = some (.cap x)) : ∃ t e, op = .call ⟨.builtin .cap, ⟨[x]⟩, ⟨[t]⟩⟩ ∧ P.underlying t = some (.slice e) := by
  unfold slimO at h
  (repeat' split at h) <;> (try (simp at h; done)) <;> (try cases h)
  rename elemOf? P _ = some _ => he
  exact ⟨_, _, rfl, elemOf_spec he⟩

theorem inv_copy {op : Op} {sz : Nat} {x y : Operand} (h : slimO P op = some (.copy sz x y)) : ∃ t t2 e, op = .call ⟨.builtin .copy, ⟨[x, y]⟩, ⟨[t, t2]⟩⟩ ∧ P.underlying t = some (.slice e) ∧ sizeOf? P e = some sz ∧ 0 < sz := by
  unfold slimO at h
  (repeat' split at h) <;> (try (simp at h; done)) <;> (try cases h)
  rename elemOf? P _ = some _ => he
  rename sizeOf? P _ = some _ => hk
  exact ⟨_, _, _, rfl, elemOf_spec he, hk, Nat.succ_pos _⟩

theorem inv_appZ {op : Op} {e : TypeId} {sz by' : Nat} {z : List Value} {x y : Operand} (h : slimO P op = some (.appZ e sz by' z x y)) :
    ∃ t u k, op = .call ⟨.builtin .append, ⟨[x, y]⟩, ⟨[t, u]⟩⟩ ∧ elemOf? P t = some e ∧ sizeOf? P e = some sz ∧ bytesOf? P e = some by' ∧ zeroOf P e = some z ∧ z.length = sz ∧ 0 < sz ∧ P.underlying u = some (.int k) := by
  unfold slimO at h
  (repeat' split at h) <;> (try (simp at h; done)) <;> (try cases h)
  rename z.length = _ ∧ isInt? _ _ = true => hq
  obtain ⟨hl, hi⟩ := hq
  unfold isInt? at hi
  split at hi
  · rename_i kk hu
    exact ⟨_, _, kk, rfl, ‹_›, ‹_›, ‹_›, ‹_›, hl, Nat.succ_pos _, hu⟩
  · cases hi
end
end Go.Sx

namespace Go.Sx
open Go Go.RowKit
set_option linter.unusedSimpArgs false

section
variable {P : Program} {N : Nat} {w0 : Base} {M0 : Nat → Prop} {L : Nat → Value} {st : St} {a : Act} {w : World} {F : Nat → Prop}

def isEff : SOp → Bool
  | .pick .. => true
  | .call .. => true
  | .isnil .. => true
  | .cap .. => true
  | .copy .. => true
  | .appZ .. => true
  | .callv .. => true
  | .box .. => true
  | .alloc .. => true
  | .store .. => true
  | .buildS .. => true
  | .build .. => true
  | .mkfn .. => true
  | .makeS .. => true
  | .app .. => true
  | .clear .. => true
  | .makeM .. => true
  | .mapUp .. => true
  | .bad .. => true
  | _ => false

theorem stepVC_pure {d : Option Nat} {op : SOp} {K : St → Prop} (h : isEff op = false) : stepVC P st ⟨d, op, none⟩ K = pureVC P st op d K := by
  cases op <;> simp [isEff] at h <;> rfl

theorem pureVC_sound {o : Oper} {so : SOp} {K : St → Prop} {K' : Act → World → Prop} {Q : Exit → Act → World → Prop} (hs : slimO P o.op = some so) (hR : R N w0 M0 L st a w) (hM0 : Safe w0 M0)
    (hF : ∀ t, ∀ s ∈ gsl (look st.sl t), F s) (hd : ∀ k, o.dst = some k → k < N ∧ ¬ F k) (h : pureVC P st so o.dst K)
    (hnog : ∀ x ob, pureOp P st.tb (ev st.sl) so = some (x, ob) → ∀ s ∈ gsl x, F s)
    (hK : ∀ L' st' a' w', K st' → R N w0 M0 L' st' a' w' → (∀ t, ∀ s ∈ gsl (look st'.sl t), F s) → K' a' w') : o.wp P a w K' Q := by
  unfold pureVC at h
  split at h
  · rename_i x ob hp
    obtain ⟨v, hrun, hx⟩ := pure_sound hs hp h.1 hR.inv hM0 (fun y => hR.ev y)
    refine wp_value hrun ?_
    obtain ⟨hR2, hF2⟩ := hR.put hF hd hx (hnog x ob hp)
    exact hK _ _ _ _ h.2 hR2 hF2
  · exact h.elim

theorem gsl_pure {tb : List Blk} {ev' : Operand → LV} {so : SOp} {x : LV} {ob : Prop} (h : pureOp P tb ev' so = some (x, ob)) : gsl x = [] ∨ ∃ y, so = .mov y ∧ x = ev' y := by
  cases so with
  | mov y => simp [pureOp] at h; exact .inr ⟨y, rfl, h.1.symm⟩
  | _ =>
    left
    simp only [pureOp] at h
    (repeat' split at h) <;> first
      | (cases h; done)
      | (simp only [Option.some.injEq, Prod.mk.injEq] at h; obtain ⟨rfl, _⟩ := h; rfl)

theorem gsl_ev {sl : List (Nat × LV)} (hF : ∀ t, ∀ s ∈ gsl (look sl t), F s) (y : Operand) : ∀ s ∈ gsl (ev sl y), F s := by
  cases y with
  | tmp t => exact hF t
  | const v => intro s hs; simp only [ev] at hs; unfold constLV at hs; split at hs <;> simp [gsl] at hs
  | global g => intro s hs; simp [ev, gsl] at hs
  | func f => intro s hs; simp [ev, gsl] at hs

theorem gsl_unopt {gs : List (Nat × Bool)} {x : LV} (h : ∀ s ∈ gsl x, F s) : ∀ s ∈ gsl (unopt gs x), F s := by
  cases x with
  | opt s b x =>
    simp only [unopt]
    split
    · exact fun s' hs' => h s' (by simp [gsl, hs'])
    · exact fun s' hs' => by simp [gsl] at hs'
  | _ => exact h

theorem pick_sound {o : Oper} {c : Nat} {x y : Operand} {gs : List (Nat × Bool)} {K : LV → Prop} (ho : o.op = .pick (.tmp c) x y) (hR : R N w0 M0 L st a w) (hgs : ∀ p ∈ gs, gOf a p.1 = some p.2)
    (h : pickVC st gs c x y K) : ∃ b, (execOp a.eval o).run P w = .ok (.value (.bool b)) w ∧ K (.sv (.bool b)) := by
  unfold pickVC at h
  split at h
  · rename_i cb xb yb hc hx hy
    have hc' := unopt_sound hgs (hR.slot c)
    rw [hc] at hc'
    generalize hv : a.tmps.getD c undef = v at hc'
    cases hc'
    have hgc := bool_gOf hv
    have hev : a.eval (.tmp c) = .bool cb := hv
    refine ⟨cond cb xb yb, ?_, h⟩
    cases cb with
    | true =>
      have hx' := evG_sound hR (gs := (c, true) :: (chain st.sl 4 c ++ gs)) (fun p hp => by
        rcases List.mem_cons.1 hp with rfl | hp
        · exact hgc
        · rcases List.mem_append.1 hp with hp | hp
          · exact chain_sound hR 4 c true hgc p hp
          · exact hgs p hp) x
      rw [hx] at hx'
      generalize hxv : a.eval x = u at hx'
      cases hx'
      simp [execOp, ho, hev, asBool, hxv]
    | false =>
      have hy' := evG_sound hR (gs := (c, false) :: (chain st.sl 4 c ++ gs)) (fun p hp => by
        rcases List.mem_cons.1 hp with rfl | hp
        · exact hgc
        · rcases List.mem_append.1 hp with hp | hp
          · exact chain_sound hR 4 c false hgc p hp
          · exact hgs p hp) y
      rw [hy] at hy'
      generalize hyv : a.eval y = u at hy'
      cases hy'
      simp [execOp, ho, hev, asBool, hyv]
  · exact h.elim

theorem zeroOf_run {t : TypeId} {z : List Value} (h : zeroOf P t = some z) : ∃ v, (zeroValue t).run P w = .ok v w ∧ v.cells.toList = z ∧ ∀ u ∈ z, u.oneCell' = true := run_zero h

theorem flatten_zero {z : List Value} (n : Nat) : ∀ i, (((List.range n).map fun _ => z.map SV.val).flatten)[i]? = if i < n * z.length then (z[i % z.length]?).map SV.val else none := by
  induction n with
  | zero => intro i; simp
  | succ n ih =>
    intro i
    rw [List.range_succ, List.map_append, List.flatten_append, List.getElem?_append]
    have hl : (((List.range n).map fun _ => z.map SV.val).flatten).length = n * z.length := by
      simp [List.length_flatten, Function.comp_def, List.map_const', List.sum_replicate_nat]
    rw [hl]
    split
    · rename_i h
      rw [ih, if_pos h, if_pos (by rw [Nat.succ_mul]; omega)]
    · rename_i h
      simp only [List.map_cons, List.map_nil, List.flatten_cons, List.flatten_nil, List.append_nil, List.getElem?_map]
      by_cases h2 : i < (n + 1) * z.length
      · rw [if_pos h2]
        rw [Nat.succ_mul] at h2
        have : i % z.length = i - n * z.length := by
          have : i = n * z.length + (i - n * z.length) := by omega
          rw [this, Nat.mul_comm n, Nat.mul_add_mod, Nat.mod_eq_of_lt (by rw [Nat.mul_comm]; omega), Nat.mul_comm]
          omega
        rw [this]
      · rw [if_neg h2]
        rw [Nat.succ_mul] at h2
        rw [List.getElem?_eq_none (by omega)]
        rfl

theorem buildS_sound (hR : R N w0 M0 L st a w) (hM0 : Safe w0 M0) {t e : TypeId} {sz len : Nat} {z : List Value} {ps : List (Nat × Operand)} (he : elemOf? P t = some e) (hsz : sizeOf? P e = some sz) (hz : zeroOf P e = some z)
    (hbig : len * sz ≤ 16777216) (hzl : z.length = sz) {ρ : Operand → Value} {lvs : List (Nat × LV)} (hl : lvs.length = ps.length)
    (hlv : ∀ (k : Nat) i x j y, lvs[k]? = some (i, x) → ps[k]? = some (j, y) → i = j ∧ LDen (gOf a) w (mset M0 st.tb L) L st.tb x (ρ y))
    {l : List SV} (hfill : fillSV (((List.range len).map fun _ => z.map SV.val).flatten) (lvs.map fun p => (p.1 * sz, sz, shut st.tb p.2)) = some l) :
    ∃ vs : Array Value, (Instr.buildSlice t len ((⟨ps⟩ : Array (Nat × Operand)).map fun (i, x) => (i, ρ x))).run P w = .ok (.slice (some ⟨w.heap.size, 0, none⟩) len len) (w.alloc (.cells vs e)) ∧ vs.size = len * sz ∧
      Den w (mset M0 st.tb L) (.agg l) (.agg vs) := by
  have hu := elemOf_spec he
  obtain ⟨zv, hzr, hzc, hz1⟩ := zeroOf_run (P := P) (w := w) hz
  have hzs : zv.cells.size = sz := by rw [← hzl, ← hzc]; simp
  let z0 : Array Value := if len * sz = 0 then #[] else zv.cells
  let ar : Array Value := (Array.range (len * sz)).map (z0[· % z0.size]!)
  have har : ∀ i, i < len * sz → ar[i]? = z[i % sz]? := by
    intro i hi
    have h0 : ¬ len * sz = 0 := by omega
    have hpos : 0 < sz := by
      rcases Nat.eq_zero_or_pos sz with h | h
      · rw [h] at hi; omega
      · exact h
    have hm : i % sz < sz := Nat.mod_lt _ hpos
    simp only [ar, z0, if_neg h0]
    rw [Array.getElem?_map, Array.getElem?_range, if_pos hi]
    simp only [Option.map_some, hzs]
    rw [← hzc]
    simp [hzs, hm, getElem!_pos]
  have hal : ar.size = len * sz := by simp [ar]
  obtain ⟨vs, hf, hd⟩ := fill_sound (w := w) (M := mset M0 st.tb L) (place := fun i => some (i * sz, sz)) (lvs.map fun p => (p.1 * sz, sz, shut st.tb p.2)) (ps.map fun p => (p.1, ρ p.2)) _ l ar (by simp [hl])
    (fun k off n s i v hk hv => by
      simp only [List.getElem?_map, Option.map_eq_some_iff] at hk hv
      obtain ⟨⟨i1, x1⟩, hk1, hk2⟩ := hk
      obtain ⟨⟨j1, y1⟩, hv1, hv2⟩ := hv
      simp only [Prod.mk.injEq] at hk2 hv2
      obtain ⟨rfl, rfl, hsh⟩ := hk2
      obtain ⟨rfl, rfl⟩ := hv2
      obtain ⟨rfl, hden⟩ := hlv k i1 x1 j1 y1 hk1 hv1
      exact ⟨rfl, shut_den hR.inv hM0 hsh hden⟩)
    (by rw [hal]; simp [List.length_flatten, Function.comp_def, List.map_const', List.sum_replicate_nat, hzl])
    (fun i v hi => by
      have hlt : i < len * sz := by rw [← hal]; exact (Array.getElem?_eq_some_iff.1 hi).1
      rw [har i hlt] at hi
      exact hz1 v (List.mem_of_getElem? hi))
    (fun i s v hi hv => by
      have hlt : i < len * sz := by rw [← hal]; exact (Array.getElem?_eq_some_iff.1 hv).1
      rw [har i hlt] at hv
      rw [flatten_zero, hzl, if_pos hlt, hv] at hi
      simp at hi
      subst hi
      exact .val v)
    hfill
  have hvs : vs.size = len * sz := by
    cases hd with
    | agg _ _ hll _ _ =>
      rw [← hll]
      have hfl : ∀ (parts : List (Nat × Nat × Option SV)) (cs cs' : List SV), fillSV cs parts = some cs' → cs'.length = cs.length := by
        intro parts
        induction parts with
        | nil => intro cs cs' h; simp [fillSV] at h; rw [h]
        | cons p r ih =>
          intro cs cs' h
          obtain ⟨off, n, os⟩ := p
          cases os with
          | none => simp [fillSV] at h
          | some s =>
            simp only [fillSV] at h
            split at h
            · split at h
              · rw [ih _ _ h, lay_length]
              · cases h
            · cases h
      rw [hfl _ _ _ hfill]
      simp [List.length_flatten, Function.comp_def, List.map_const', List.sum_replicate_nat, hzl]
  refine ⟨vs, ?_, hvs, hd⟩
  have hnot : ¬ (len * sz > 2 ^ 24) := by omega
  have hmap : ((⟨ps⟩ : Array (Nat × Operand)).map fun (i, x) => (i, ρ x)).toList = ps.map fun p => (p.1, ρ p.2) := by simp
  simp only [Instr.buildSlice, Sem.run_bind, run_under hu, Result.andThen_ok, run_sizeOf hsz]
  rw [if_neg hnot]
  have hf' : Instr.fill (fun i => some (i * sz, sz)) ((Array.range (len * sz)).map (z0[· % z0.size]!)) (ps.map fun p => (p.1, ρ p.2)) = some vs := hf
  by_cases h0 : len * sz = 0
  · rw [if_pos h0]
    simp only [z0, if_pos h0] at hf'
    simp only [Sem.run_bind, Sem.run_pure, Result.andThen_ok, hmap, hf']
    rfl
  · rw [if_neg h0]
    simp only [z0, if_neg h0] at hf'
    simp only [Sem.run_bind, Sem.run_pure, Result.andThen_ok, hzr, hmap, hf']
    rfl
end
end Go.Sx

namespace Go.Sx
open Go Go.RowKit
set_option linter.unusedSimpArgs false

section
variable {P : Program} {N : Nat} {w0 : Base} {M0 : Nat → Prop} {L : Nat → Value} {st : St} {a : Act} {w : World} {F : Nat → Prop}

theorem valSV_den {M : Nat → Prop} {z : Value} (h : ∀ u ∈ z.cells.toList, u.oneCell' = true) : Den w M (valSV z) z := by
  unfold valSV
  split
  · exact .int _ _
  · exact .bool _
  · rename_i cs
    refine .agg _ _ (by simp) (fun i v hv => h v (by simp [Value.cells]; exact List.mem_of_getElem? (by simpa using hv))) (fun i s v hs hv => ?_)
    simp only [List.getElem?_map, Option.map_eq_some_iff] at hs
    obtain ⟨u, hu, rfl⟩ := hs
    have : u = v := by
      have hv' : cs[i]? = some v := by simpa using hv
      rw [hu] at hv'; injection hv'
    subst this
    split
    · exact .int _ _
    · exact .bool _
    · exact .val _
  · exact .val _

/-- What an assignment to an entry makes of a map. -/
theorem mapUp_run {t : TypeId} {z : Value} (hz : mapOf P t = some z) {b : Nat} {es : Array MapEntry} {clock : Nat} {keys : List Int} (hb : w.heap[b]? = some (.map es clock)) (h1 : es.toList.map (·.key) = keys.map (Value.int .i64)) (h2 : keys.Nodup)
    (h3 : ∀ e ∈ es.toList, e.born < clock) (h4 : (es.toList.map (·.born)).Nodup) (n : Int) (v : Value) :
    ∃ (es' : Array MapEntry) (clock' : Nat), (Instr.mapUpdate t (.map (some b)) (.int .i64 n) v).run P w = .ok () { w with heap := w.heap.setIfInBounds b (.map es' clock') } ∧ es'.toList.map (·.key) = (putKey keys n).map (Value.int .i64) ∧
      (putKey keys n).Nodup ∧ (∀ e ∈ es'.toList, e.born < clock') ∧ (es'.toList.map (·.born)).Nodup ∧
      ∀ (i : Nat) k e', (putKey keys n)[i]? = some k → es'.toList[i]? = some e' → (k = n ∧ e'.val = v) ∨ (k ≠ n ∧ ∃ e, keys[i]? = some k ∧ es.toList[i]? = some e ∧ e'.val = e.val) := by
  obtain ⟨kt, e, hu, hk, _, _⟩ := mapOf_spec hz
  have hlen : es.toList.length = keys.length := by have := congrArg List.length h1; simpa using this
  rcases findNow_int .i64 es.toList keys 0 n h1 with ⟨hn, hf⟩ | ⟨j, en, hj, he, hf⟩
  · refine ⟨es.push ⟨.int .i64 n, v, clock⟩, clock + 1, ?_, ?_, ?_, ?_, ?_, ?_⟩
    · simp [Instr.mapUpdate, run_under hu, MapKept.run_getObj_map hb, checkKey_int hk, Instr.findKey, run_under hk, hf, MapKept.run_setObj_map _ hb]
    · simp [putKey, hn, h1]
    · rw [putKey, if_neg hn, List.nodup_append]
      exact ⟨h2, by simp, fun a ha b hb' => by simp at hb'; subst hb'; intro e; subst e; exact hn ha⟩
    · intro e' he'
      simp only [Array.toList_push, List.mem_append, List.mem_singleton] at he'
      rcases he' with he' | rfl
      · have := h3 e' he'; omega
      · show clock < clock + 1; omega
    · rw [Array.toList_push, List.map_append, List.nodup_append]
      refine ⟨h4, by simp, fun a ha c hc => ?_⟩
      simp only [List.map_cons, List.map_nil, List.mem_singleton] at hc
      obtain ⟨e', he', rfl⟩ := List.mem_map.1 ha
      have := h3 e' he'
      omega
    · intro i k e' hi he'
      rw [putKey, if_neg hn, List.getElem?_append] at hi
      rw [Array.toList_push, List.getElem?_append] at he'
      split at hi
      · rename_i hlt
        rw [if_pos (by omega)] at he'
        refine .inr ⟨fun e => hn (by rw [← e]; exact List.mem_of_getElem? hi), e', hi, he', rfl⟩
      · rename_i hge
        rw [if_neg (by omega)] at he'
        have hi0 : i - keys.length = 0 := by
          have := (List.getElem?_eq_some_iff.1 hi).1
          simp at this; omega
        rw [hi0] at hi
        rw [hlen, hi0] at he'
        simp at hi he'
        subst hi he'
        exact .inl ⟨rfl, rfl⟩
  · have hmem : n ∈ keys := List.mem_of_getElem? hj
    have hjl : j < es.size := by have := (List.getElem?_eq_some_iff.1 he).1; simpa using this
    have hkey : en.key = .int .i64 n := by
      have := congrArg (fun l => l[j]?) h1
      simp only [List.getElem?_map, he, hj, Option.map_some, Option.some.injEq] at this
      exact this
    have hee : es[j]? = some en := by simpa using he
    have hst : (Instr.keyThatStays en.key (.int .i64 n)).run P w = .ok (.int .i64 n) w := by
      rw [hkey]
      have : Instr.sameBits 10000 (.int .i64 n) (.int .i64 n) = true := by simp [Instr.sameBits]
      simp [Instr.keyThatStays, this]
    have hmod : ∀ i, (es.modify j fun e => { e with key := .int .i64 n, val := v }).toList[i]? = if i = j then some { en with key := .int .i64 n, val := v } else es.toList[i]? := by
      intro i
      simp only [Array.getElem?_toList, Array.getElem?_modify]
      by_cases e : j = i
      · subst e; simp [hee]
      · rw [if_neg e, if_neg (Ne.symm e)]
    refine ⟨es.modify j fun e => { e with key := .int .i64 n, val := v }, clock, ?_, ?_, ?_, ?_, ?_, ?_⟩
    · simp [Instr.mapUpdate, run_under hu, MapKept.run_getObj_map hb, checkKey_int hk, Instr.findKey, run_under hk, hf, MapKept.run_setObj_map _ hb, hee, hst]
    · rw [putKey, if_pos hmem, ← h1]
      apply List.ext_getElem?
      intro i
      rw [List.getElem?_map, List.getElem?_map, hmod]
      split
      · rename_i e; subst e; rw [he]; simp [hkey]
      · rfl
    · rw [putKey, if_pos hmem]; exact h2
    · intro e' he'
      obtain ⟨i, hi⟩ := List.mem_iff_getElem?.1 he'
      rw [hmod] at hi
      split at hi
      · injection hi with hi; subst hi; exact h3 en (List.mem_of_getElem? he)
      · exact h3 e' (List.mem_of_getElem? hi)
    · have : (es.modify j fun e => { e with key := .int .i64 n, val := v }).toList.map (·.born) = es.toList.map (·.born) := by
        apply List.ext_getElem?
        intro i
        rw [List.getElem?_map, List.getElem?_map, hmod]
        split
        · rename_i e; subst e; rw [he]; rfl
        · rfl
      rw [this]; exact h4
    · intro i k e' hi he'
      rw [putKey, if_pos hmem] at hi
      rw [hmod] at he'
      by_cases e : i = j
      · subst e
        rw [if_pos rfl] at he'
        injection he' with he'
        subst he'
        rw [hj] at hi
        injection hi with hi
        exact .inl ⟨hi.symm, rfl⟩
      · rw [if_neg e] at he'
        refine .inr ⟨fun hkn => e ?_, e', hi, he', rfl⟩
        subst hkn
        have i1 := (List.getElem?_eq_some_iff.1 hi)
        have i2 := (List.getElem?_eq_some_iff.1 hj)
        exact (List.getElem_inj h2).1 (i1.2.trans i2.2.symm)

/-- An assignment to an entry of a map of the call's own. -/
theorem mapUp_sound (hR0 : R N w0 M0 L st a w) (hM0 : Safe w0 M0) {t : TypeId} {z : Value} (hz : mapOf P t = some z) {d : Option Nat} {x k v : LV} {vx vk vv : Value} {K : St → Prop} (h : mapUpVC st x k v d K)
    (hx : LDen (gOf a) w (mset M0 st.tb L) L st.tb x vx) (hk : LDen (gOf a) w (mset M0 st.tb L) L st.tb k vk) (hv : LDen (gOf a) w (mset M0 st.tb L) L st.tb v vv) (hF : ∀ t, ∀ s ∈ gsl (look st.sl t), F s) (hd : ∀ k, d = some k → k < N ∧ ¬ F k) :
    ∃ w' L' st', (Instr.mapUpdate t vx vk vv).run P w = .ok () w' ∧ K st' ∧ R N w0 M0 L' st' (a.put d undef) w' ∧ ∀ t, ∀ s ∈ gsl (look st'.sl t), F s := by
  unfold mapUpVC at h
  split at h
  · rename_i i obs n hmx
    split at h
    · rename_i s hs
      split at h
      · rename_i z' keys get hi
        obtain ⟨hobs, h⟩ := h
        cases hk
        obtain rfl := mapOfLV_sound (fun y => hR0.ev y) hmx hobs hx
        have hfz := Frz.frz st.tb v
        have hR := hR0.frz hfz
        have hsd : Den w (mset M0 (frz st.tb v) L) s vv := by
          refine shut_den (G := gOf a) hR.inv hM0 hs ?_
          exact LDen.turn (fun s u hden => hden.less fun b _ => hfz.mset M0 L b) (fun _ _ => rfl) (by rw [hfz.len]; exact Nat.le_refl _) (fun j t' sz n' mu get' hj => by
            obtain ⟨mu', h'⟩ := hfz.row j t' sz n' mu get' hj
            exact ⟨t', mu', get', h'⟩) v vv hv
        generalize htb : frz st.tb v = tb at *
        have hil : i < tb.length := (List.getElem?_eq_some_iff.1 hi).1
        obtain ⟨b, es, clock, hL, hh, h1, h2, h3, h4, h5, h6⟩ := hR.inv.ok i _ hi
        rw [hL]
        obtain ⟨es', clock', hrun, k1, k2, k3, k4, k5⟩ := mapUp_run hz hh h1 h2 h3 h4 n vv
        have hbl : b < w.heap.size := (hR.inv.low i b hil (by rw [hL]; rfl)).2
        have hg : w.grownBy { w with heap := w.heap.setIfInBounds b (.map es' clock') } (blkNo (L i)) := by
          rw [hL]
          refine ⟨rfl, rfl, rfl, by simp, fun k' _ hk' => ?_⟩
          have : b ≠ k' := fun e => hk' (by rw [← e]; rfl)
          simp [Array.getElem?_setIfInBounds, this]
        have hext : Ext (mset M0 tb L) w { w with heap := w.heap.setIfInBounds b (.map es' clock') } :=
          ⟨hg.os, hg.tape, hg.output, hg.size, fun k' hk' hnk => hg.block k' hk' (fun e => hnk (.inr ⟨i, _, hi, rfl, e.symm⟩))⟩
        have hms := mset_set (w := w) (M0 := M0) (L := L) (tb := tb) (k' := .map z' (putKey keys n) (putGet n s get)) (v := L i) hi rfl (fun _ h => .inl h)
        have hset := hR.inv.set (k' := .map z' (putKey keys n) (putGet n s get)) (v := L i) hi rfl hg (fun c' hc' => ⟨.inl hc', by
          have := (hR.inv.low i c' hil hc').2
          simpa using this⟩) (by
          rw [hL]
          refine ⟨b, es', clock', rfl, by simp [hbl], k1, k2, k3, k4, fun j k' e' hj he' => ?_, fun k' hk' => ?_⟩
          · rw [← hL]
            rcases k5 j k' e' hj he' with ⟨rfl, he2⟩ | ⟨hne, e0, hj0, he0, he2⟩
            · rw [putGet, if_pos rfl, he2]; exact hsd.ext hext hms
            · rw [putGet, if_neg hne, he2]; exact (h5 j k' e0 hj0 he0).ext hext hms
          · rw [← hL]
            have hnk : k' ∉ keys ∧ k' ≠ n := by
              unfold putKey at hk'
              split at hk'
              · rename_i hmem; exact ⟨hk', fun e => hk' (e ▸ hmem)⟩
              · simpa using hk'
            rw [putGet, if_neg hnk.2]
            exact (h6 k' hnk.1).ext hext hms)
        have hup : upd L i (L i) = L := funext fun j => by unfold upd; split <;> simp_all
        rw [hup] at hset hms
        have hR' := hR.turn (tb' := tb.set i (.map z' (putKey keys n) (putGet n s get))) hset.1 (fun s c' hden => hden.ext hset.2 hms) (fun _ _ => rfl) (by simp) (fun j t' sz' n' mu' get' hj => by
          have hne : i ≠ j := fun e => by
            subst e
            have hj' : tb[i]? = some (.row t' sz' n' mu' get') := hj
            rw [hi] at hj'; cases hj'
          exact ⟨t', mu', get', by rw [List.getElem?_set_ne hne]; exact hj⟩)
        obtain ⟨hR2, hF2⟩ := hR'.put hF hd (x := .any) (v := undef) trivial (by simp [gsl])
        exact ⟨_, L, _, hrun, h, hR2, hF2⟩
      · exact h.elim
    · exact h.elim
  · exact h.elim

theorem makeM_rel (hR : R N w0 M0 L st a w) {z : Value} (hz : ∀ u ∈ z.cells.toList, u.oneCell' = true) :
    R N w0 M0 (upd L st.tb.length (.map (some w.heap.size))) { st with tb := st.tb ++ [.map z [] fun _ => valSV z] } a (w.alloc (.map #[] 0)) := by
  refine hR.push (alloc_below w _) (fun b hb => ?_) ?_
  · simp [blkNo] at hb; subst hb; simp
  · exact ⟨w.heap.size, #[], 0, rfl, heap_alloc_new w _, rfl, by simp, by simp, by simp, by simp, fun k _ => valSV_den hz⟩
end
end Go.Sx

namespace Go.Sx
open Go Go.RowKit
set_option linter.unusedSimpArgs false

section
variable {P : Program} {N : Nat} {w0 : Base} {M0 : Nat → Prop} {L : Nat → Value} {st : St} {a : Act} {w : World} {F : Nat → Prop}

theorem slimOper_spec {ops : Array Oper} {o : Oper} {so : SO} (h : slimOper P N ops o = some so) :
    ∃ s g, so = ⟨o.dst, s, g⟩ ∧ (slimO P o.op = some s ∨ ∃ xs, s = .bad o.op xs) ∧ slimG ops o.guard = some g ∧ ∀ k, o.dst = some k → k < N := by
  unfold slimOper at h
  split at h
  · rename_i g h2
    split at h
    · rename_i hd
      injection h with h
      subst h
      refine ⟨_, g, rfl, ?_, h2, fun k hk => ?_⟩
      · cases h1 : slimO P o.op with
        | some s => exact .inl rfl
        | none => exact .inr ⟨_, rfl⟩
      · rw [hk] at hd
        simpa [dstOK] using hd
    · cases h
  · cases h

theorem slimG_none {ops : Array Oper} {g : Option (Nat × Bool)} (h : slimG ops g = some none) : g = none := by
  unfold slimG at h
  (repeat' split at h) <;> simp_all

theorem slimG_some {ops : Array Oper} {g : Option (Nat × Bool)} {s : Nat} {b : Bool} (h : slimG ops g = some (some (s, b))) : ∃ j o, g = some (j, b) ∧ ops[j]? = some o ∧ o.dst = some s := by
  unfold slimG at h
  split at h
  · cases h
  · rename_i j b'
    split at h
    · rename_i o ho
      split at h
      · rename_i s' hs
        simp only [Option.some.injEq, Prod.mk.injEq] at h
        obtain ⟨rfl, rfl⟩ := h
        exact ⟨j, o, rfl, ho, hs⟩
      · cases h
    · cases h

theorem wanted_iff {ops : Array Oper} {o : Oper} {s : Nat} {b : Bool} (h : slimG ops o.guard = some (some (s, b))) : Region.wanted o (yielded ops a.tmps) = true ↔ gOf a s = some b := by
  obtain ⟨j, o', hg, ho, hd⟩ := slimG_some h
  unfold Region.wanted
  rw [hg]
  simp only [beq_iff_eq]
  have : yielded ops a.tmps j = gOf a s := by
    unfold yielded gOf
    rw [ho]
    simp only [Option.bind_some, hd]
    rfl
  rw [this]

theorem argsOp_func {o : Oper} {f : FuncId} {xs : List Operand} {tys : Array TypeId} (ho : o.op = .call ⟨.value (.func f), ⟨xs⟩, tys⟩) : CallsOp P o a.eval f (xs.map a.eval).toArray := by
  intro w hb
  simp [execOp, ho, resolve, Act.eval, Deferred.ofValue, invoke, run_callFunc hb]

theorem argsOp_val {o : Oper} {f : FuncId} {x : Operand} {xs : List Operand} {tys : Array TypeId} {caps : Array Value} (ho : o.op = .call ⟨.value x, ⟨xs⟩, tys⟩) (hx : a.eval x = .func (.func f) #[] caps) :
    CallsOp P o a.eval f ((xs.map a.eval).toArray ++ caps) := by
  intro w hb
  simp [execOp, ho, resolve, hx, Deferred.ofValue, invoke, run_callFunc hb]


theorem dstep_ex {o : SO} {K : LV → Prop} (h : dstepVC P st o K) : ∃ x, dstepVC P st o (fun y => y = x) ∧ K x := by
  obtain ⟨dst, op, g⟩ := o
  have hdc : ∀ {tb : List Blk} {f : FuncId} {xs : List LV} {c : Prop}, dcallVC P tb f xs c (fun r => K (wrapG g (.sv r))) → ∃ x, dcallVC P tb f xs c (fun r => wrapG g (.sv r) = x) ∧ K x := by
    intro tb f xs c hd
    unfold dcallVC at hd
    split at hd
    · exact hd.elim
    · rename_i args ha
      obtain ⟨args', r, h1, h2, h3⟩ := hd
      refine ⟨wrapG g (.sv r), ?_, h3⟩
      unfold dcallVC
      rw [ha]
      exact ⟨args', r, h1, h2, rfl⟩
  cases op with
  | pick c x y =>
    simp only [dstepVC, pickVC] at h ⊢
    split at h
    · exact ⟨_, rfl, h⟩
    · exact h.elim
  | call f xs => exact hdc h
  | callv x xs =>
    simp only [dstepVC] at h ⊢
    split at h
    · exact hdc h
    · exact h.elim
  | buildS e sz len z ps =>
    simp only [dstepVC] at h ⊢
    split at h
    · exact ⟨_, rfl, h⟩
    · exact h.elim
  | _ =>
    simp only [dstepVC] at h ⊢
    split at h
    · exact ⟨_, ⟨h.1, rfl⟩, h.2⟩
    · exact h.elim

theorem dstep_sound {ops : Array Oper} {o : Oper} {so : SO} {x : LV} {K' : Act → World → Prop} {Q : Exit → Act → World → Prop} (hs : slimOper P N ops o = some so) (hR : R N w0 M0 L st a w)
    (hM0 : Safe w0 M0) (hF : ∀ t, ∀ s ∈ gsl (look st.sl t), F s) (hdF : ∀ k, so.dst = some k → ¬ F k) (hgF : ∀ s b, so.g = some (s, b) → F s) (h : dstepVC P st so (fun y => y = x))
    (hK : ∀ a' w', R N w0 M0 L (st.put so.dst x) a' w' → (∀ t, ∀ s ∈ gsl (look (st.put so.dst x).sl t), F s) → K' a' w') :
    if Region.wanted o (yielded ops a.tmps) then o.wp P a w K' Q else K' (a.put o.dst undef) w := by
  obtain ⟨s, g, rfl, hso, hg, hdN⟩ := slimOper_spec hs
  rcases hso with hso | ⟨xs, rfl⟩
  rotate_left
  · simp [dstepVC, pureOp] at h
  have hd : ∀ k, o.dst = some k → k < N ∧ ¬ F k := fun k hk => ⟨hdN k hk, hdF k hk⟩
  have hput : ∀ {y : LV} {v : Value} {w' : World}, R N w0 M0 L st a w' → wrapG g y = x → (Region.wanted o (yielded ops a.tmps) = true → LDen (gOf a) w' (mset M0 st.tb L) L st.tb y v) → (¬ Region.wanted o (yielded ops a.tmps) = true → v = undef) →
      (∀ s' ∈ gsl y, F s') → K' (a.put o.dst v) w' := by
    intro y v w' hR' hx hy hn hgy
    have hlx : LDen (gOf a) w' (mset M0 st.tb L) L st.tb x v ∧ ∀ s' ∈ gsl x, F s' := by
      subst hx
      cases g with
      | none =>
        have hw : Region.wanted o (yielded ops a.tmps) = true := by simp [Region.wanted, slimG_none hg]
        exact ⟨hy hw, hgy⟩
      | some p =>
        obtain ⟨gs, gb⟩ := p
        have hw := wanted_iff (a := a) hg
        refine ⟨⟨fun h => hy (hw.2 h), fun h => hn (fun h' => h (hw.1 h'))⟩, fun s' hs' => ?_⟩
        simp only [wrapG, gsl, List.mem_cons] at hs'
        rcases hs' with rfl | hs'
        · exact hgF s' gb rfl
        · exact hgy s' hs'
    obtain ⟨hR2, hF2⟩ := hR'.put (F := F) hF hd hlx.1 hlx.2
    exact hK _ _ hR2 hF2
  have hgs : Region.wanted o (yielded ops a.tmps) = true → ∀ p ∈ guards st.sl g, gOf a p.1 = some p.2 := by
    intro hw
    cases g with
    | none => intro p hp; simp [guards] at hp
    | some p =>
      obtain ⟨gs, gb⟩ := p
      exact guards_sound hR ((wanted_iff (a := a) hg).1 hw)
  have hcall : ∀ {f : FuncId} {xs : List LV} {vs : Array Value}, (Region.wanted o (yielded ops a.tmps) = true → CallsOp P o a.eval f vs) → xs.length = vs.size →
      (Region.wanted o (yielded ops a.tmps) = true → ∀ (i : Nat) x v, xs[i]? = some x → vs[i]? = some v → LDen (gOf a) w (mset M0 st.tb L) L st.tb x v) →
      dcallVC P st.tb f xs (gcond st.sl (guards st.sl g)) (fun r => wrapG g (.sv r) = x) → if Region.wanted o (yielded ops a.tmps) then o.wp P a w K' Q else K' (a.put o.dst undef) w := by
    intro f xs vs hop hl hxs hd'
    unfold dcallVC at hd'
    split at hd'
    · exact hd'.elim
    · rename_i args hargs
      obtain ⟨args', r, hsp, hmem, hx⟩ := hd'
      split
      · rename_i hw
        obtain ⟨hle, hspec⟩ := hsp (gcond_sound hR _ (hgs hw))
        refine call_plain hR hM0 (hop hw) hl (hxs hw) hargs hle hspec (fun v w' hbel hres => ?_)
        refine hput (y := .sv r) (hR.keep hbel) hx (fun _ => ?_) (fun h => (h hw).elim) (by simp [gsl])
        rcases hmem with hn | hno
        · exact noMem_den r hn v hres
        · have hfr : ∀ (l : List LV) (tb : List Blk), l.all (fun x => !isOwn tb x) = true → frzOwns tb l = tb := by
            intro l
            induction l with
            | nil => intro tb _; rfl
            | cons y r ih =>
              intro tb hall
              simp only [List.all_cons, Bool.and_eq_true] at hall
              simp only [frzOwns]
              have : frzOwn tb y = tb := by
                cases y with
                | own i =>
                  simp only [frzOwn, frzAt]
                  have h1 := hall.1
                  simp only [isOwn] at h1
                  split
                  · rename_i k hk
                    rw [hk] at h1
                    have : freeze k = k := by
                      cases k with
                      | cells t m cs => cases m <;> simp [Blk.mut] at h1 <;> rfl
                      | row t sz n m g => cases m <;> simp [Blk.mut] at h1 <;> rfl
                      | map z ks g => simp [Blk.mut] at h1
                      | dead => rfl
                      | sem S => rfl
                    rw [this]
                    obtain ⟨hlt, he⟩ := List.getElem?_eq_some_iff.1 hk
                    rw [← he]; exact List.set_getElem_self hlt
                  · rfl
                | _ => rfl
              rw [this]
              exact ih tb hall.2
          rw [hfr xs st.tb hno] at hres
          exact hres
      · rename_i hw
        exact hput (y := .sv r) hR hx (fun h => (hw h).elim) (fun _ => rfl) (by simp [gsl])
  have hpure : ∀ {y : LV} {ob : Prop}, pureOp P st.tb (evG st.sl (guards st.sl g)) s = some (y, ob) → (gcond st.sl (guards st.sl g) → ob) → wrapG g y = x →
      if Region.wanted o (yielded ops a.tmps) then o.wp P a w K' Q else K' (a.put o.dst undef) w := by
    intro y ob hp hob hx
    have hgy : ∀ s' ∈ gsl y, F s' := by
      intro s' hs'
      rcases gsl_pure hp with h0 | ⟨z, _, rfl⟩
      · rw [h0] at hs'; simp at hs'
      · exact gsl_unopt (gsl_ev hF z) s' hs'
    split
    · rename_i hw
      obtain ⟨v, hrun, hv⟩ := pure_sound hso hp (hob (gcond_sound hR _ (hgs hw))) hR.inv hM0 (fun z => evG_sound hR (hgs hw) z)
      exact wp_value hrun (hput hR hx (fun _ => hv) (fun h => (h hw).elim) hgy)
    · rename_i hw
      exact hput hR hx (fun h => (hw h).elim) (fun _ => rfl) hgy
  cases s with
  | pick c y z =>
    simp only [dstepVC] at h
    split
    · rename_i hw
      obtain ⟨b, hrun, hk⟩ := pick_sound (P := P) (K := fun q => wrapG g q = x) (inv_pick hso) hR (hgs hw) h
      exact wp_value hrun (hput (y := .sv (.bool b)) hR hk (fun _ => Den.bool b) (fun h => (h hw).elim) (by simp [gsl]))
    · rename_i hw
      unfold pickVC at h
      split at h
      · exact hput hR h (fun h => (hw h).elim) (fun _ => rfl) (by simp [gsl])
      · exact h.elim
  | call f xs =>
    obtain ⟨tys, ho⟩ := inv_call hso
    refine hcall (fun _ => argsOp_func ho) (xs := xs.map (evG st.sl (guards st.sl g))) (by simp) (fun hw i x v hx hv => ?_) h
    simp only [List.getElem?_map, Option.map_eq_some_iff, List.getElem?_toArray] at hx hv
    obtain ⟨y, hy, rfl⟩ := hx
    obtain ⟨y', hy', rfl⟩ := hv
    rw [hy] at hy'
    injection hy' with hy'
    subst hy'
    exact evG_sound hR (hgs hw) y
  | callv y xs =>
    obtain ⟨tys, ho⟩ := inv_callv hso
    simp only [dstepVC] at h
    split at h
    · rename_i f caps hev
      by_cases hw : Region.wanted o (yielded ops a.tmps) = true
      · have hy := evG_sound hR (hgs hw) y
        rw [hev] at hy
        generalize hyv : a.eval y = v at hy
        cases hy with
        | fn _ _ vs hl hh =>
          refine hcall (fun _ => argsOp_val ho hyv) (by simp [hl]) (fun hw i x v hx hv => ?_) h
          rw [List.getElem?_append] at hx
          rw [Array.getElem?_append] at hv
          simp only [List.length_map, List.size_toArray] at hx hv
          split at hx
          · rename_i hlt
            rw [if_pos hlt] at hv
            simp only [List.getElem?_map, Option.map_eq_some_iff, List.getElem?_toArray] at hx hv
            obtain ⟨y, hy, rfl⟩ := hx
            obtain ⟨y', hy', rfl⟩ := hv
            rw [hy] at hy'
            injection hy' with hy'
            subst hy'
            exact evG_sound hR (hgs hw) y
          · rename_i hge
            rw [if_neg hge] at hv
            simp only [List.getElem?_map, Option.map_eq_some_iff] at hx
            obtain ⟨c, hc, rfl⟩ := hx
            exact hh _ _ _ hc hv
      · refine hcall (f := f) (vs := Array.replicate (xs.map (evG st.sl (guards st.sl g)) ++ caps.map LV.sv).length undef) (fun h' => (hw h').elim) (by simp) (fun h' => (hw h').elim) h
    · exact h.elim
  | buildS e sz len z ps =>
    obtain ⟨t, ho, he', hsz, hz, hbig, hzl, hpos⟩ := inv_buildS hso
    simp only [dstepVC] at h
    split at h
    · rename_i l hl
      split
      · rename_i hw
        obtain ⟨vs, hrun, hvs, hden⟩ := buildS_sound (P := P) hR hM0 he' hsz hz hbig hzl (ρ := a.eval) (lvs := ps.map fun p => (p.1, evG st.sl (guards st.sl g) p.2)) (ps := ps) (by simp)
          (fun k i x j y hk hk' => by
            simp only [List.getElem?_map, hk', Option.map_some, Option.some.injEq, Prod.mk.injEq] at hk
            obtain ⟨rfl, rfl⟩ := hk
            exact ⟨rfl, evG_sound hR (hgs hw) y⟩) (by simpa [List.map_map, Function.comp_def] using hl)
        refine wp_value (w' := w.alloc (.cells vs e)) (v := .slice (some ⟨w.heap.size, 0, none⟩) len len) ?_ (hput (y := .sv (.lst sz len (cutRows sz l))) (hR.keep (alloc_below w _)) h (fun _ => ?_) (fun h => (h hw).elim) (by simp [gsl]))
        · simp only [execOp, ho]
          exact run_v hrun
        · cases hden with
          | agg _ _ hll h1 hdd =>
            have hls : l.length = len * sz := by rw [hll, hvs]
            have hnew : (w.alloc (.cells vs e)).heap[w.heap.size]? = some (.cells vs e) := heap_alloc_new w _
            have hidx : ∀ i j, i < len → j < sz → i * sz + j < vs.size := by
              intro i j hi hj
              have : i * sz + sz ≤ len * sz := by rw [← Nat.succ_mul]; exact Nat.mul_le_mul_right _ hi
              omega
            have hjs : ∀ i j s, (cutRows sz l i)[j]? = some s → j < sz ∧ l[i * sz + j]? = some s := by
              intro i j s hj
              have hjl : j < sz := by
                have := (List.getElem?_eq_some_iff.1 hj).1
                simp [cutRows] at this; omega
              unfold cutRows at hj
              rw [List.getElem?_take_of_lt hjl, List.getElem?_drop] at hj
              exact ⟨hjl, hj⟩
            refine Den.lst sz len (cutRows sz l) _ len w.heap.size 0 (fun i j => vs.getD (i * sz + j) undef) (Nat.le_refl _) (by
                unfold maxLen
                have : len * 1 ≤ len * sz := Nat.mul_le_mul_left _ hpos
                omega) (fun _ => rfl) (fun _ hm => ?_) (fun _ => by simp) (fun i hi => ?_) (fun i j s hi hj => ?_) (fun i j s hi hj => ?_) (fun i j s hi hj => ?_)
            · have := mset_lt hR hM0 _ hm
              omega
            · have : i * sz + sz ≤ len * sz := by rw [← Nat.succ_mul]; exact Nat.mul_le_mul_right _ hi
              simp [cutRows, hls]; omega
            · obtain ⟨q1, q2⟩ := hjs i j s hj
              have := hidx i j hi q1
              exact h1 (i * sz + j) _ (by simp [Array.getD, this])
            · obtain ⟨q1, q2⟩ := hjs i j s hj
              have := hidx i j hi q1
              simp only [World.cell?, hnew, Nat.zero_add]
              simp [Array.getD, this]
            · obtain ⟨q1, q2⟩ := hjs i j s hj
              have := hidx i j hi q1
              exact (hdd _ _ _ q2 (by simp [Array.getD, this])).kept (alloc_below w _)
      · rename_i hw
        exact hput hR h (fun h => (hw h).elim) (fun _ => rfl) (by simp [gsl])
    · exact h.elim
  | _ =>
    simp only [dstepVC] at h
    split at h
    · rename_i y ob hp
      exact hpure hp h.1 h.2
    · exact h.elim
end
end Go.Sx

namespace Go.Sx
open Go Go.RowKit
set_option linter.unusedSimpArgs false

section
variable {P : Program} {N : Nat} {w0 : Base} {M0 : Nat → Prop} {L : Nat → Value} {st : St} {a : Act} {w : World} {F : Nat → Prop}

theorem gsl_optFree {x : LV} (h : optFree x = true) : gsl x = [] := by
  cases x <;> first | rfl | simp [optFree] at h

theorem step_sound {ops : Array Oper} {o : Oper} {so : SO} {K : St → Prop} {K' : Act → World → Prop} {Q : Exit → Act → World → Prop} (hs : slimOper P N ops o = some so) (hR : R N w0 M0 L st a w)
    (hM0 : Safe w0 M0) (hF : ∀ t, ∀ s ∈ gsl (look st.sl t), F s) (hdF : ∀ k, so.dst = some k → ¬ F k) (hgF : ∀ s b, so.g = some (s, b) → F s) (h : stepVC P st so K)
    (hK : ∀ L' st' a' w', K st' → R N w0 M0 L' st' a' w' → (∀ t, ∀ s ∈ gsl (look st'.sl t), F s) → K' a' w') :
    if Region.wanted o (yielded ops a.tmps) then o.wp P a w K' Q else K' (a.put o.dst undef) w := by
  obtain ⟨s, g, rfl, hso, hg, hdN⟩ := slimOper_spec hs
  rcases hso with hso | ⟨xs, rfl⟩
  rotate_left
  · cases g with
    | some p => simp [stepVC, pureVC, pureOp] at h
    | none =>
      have hgn := slimG_none hg
      have hw : Region.wanted o (yielded ops a.tmps) = true := by simp [Region.wanted, hgn]
      rw [if_pos hw]
      simp only [stepVC] at h
      obtain ⟨v, w', st', x, L', hrun, hk, ⟨hinv, hsl⟩, hx, ho, hof⟩ := h w0 M0 (gOf a) (fun t => a.tmps.getD t undef) L w a.eval o rfl hM0 ⟨hR.inv, hR.slot⟩ (fun x => hR.ev x)
      have hR' : R N w0 M0 L' st' a w' := { inv := hinv, size := hR.size, defers := hR.defers, slot := hsl }
      obtain ⟨hR2, hF2⟩ := hR'.put (F := F) (fun t s hs => by rw [gsl_optFree (hof t)] at hs; simp at hs) (fun k hk => ⟨hdN k hk, hdF k hk⟩) hx (fun s hs => by rw [gsl_optFree ho] at hs; simp at hs)
      rcases hrun with hrun | ⟨hrun, rfl⟩
      · exact wp_value hrun (hK _ _ _ _ hk hR2 hF2)
      · exact wp_skip' hrun (hK _ _ _ _ hk hR2 hF2)
  have hd : ∀ k, o.dst = some k → k < N ∧ ¬ F k := fun k hk => ⟨hdN k hk, hdF k hk⟩
  cases g with
  | none =>
    have hgn := slimG_none hg
    have hw : Region.wanted o (yielded ops a.tmps) = true := by simp [Region.wanted, hgn]
    rw [if_pos hw]
    by_cases he : isEff s = false
    · rw [stepVC_pure he] at h
      refine pureVC_sound hso hR hM0 hF hd h (fun x ob hp s' hs' => ?_) hK
      rcases gsl_pure hp with h0 | ⟨y, _, rfl⟩
      · rw [h0] at hs'; simp at hs'
      · exact gsl_ev hF y s' hs'
    · cases s with
      | bad op xs =>
        exfalso
        unfold slimO at hso
        (repeat' split at hso) <;> simp at hso
      | pick c x y =>
        obtain ⟨b, hrun, hk⟩ := pick_sound (P := P) (K := fun z => K (st.put o.dst z)) (inv_pick hso) hR (gs := []) (by simp) h
        refine wp_value hrun ?_
        obtain ⟨hR2, hF2⟩ := hR.put hF hd (x := .sv (.bool b)) (.bool b) (by simp [gsl])
        exact hK _ _ _ _ hk hR2 hF2
      | call f xs =>
        obtain ⟨tys, ho⟩ := inv_call hso
        refine call_sound hR hM0 hF hd (argsOp_func ho) (by simp) (fun i x v hx hv => ?_) h hK
        simp only [List.getElem?_map, Option.map_eq_some_iff, List.getElem?_toArray] at hx hv
        obtain ⟨y, hy, rfl⟩ := hx
        obtain ⟨y', hy', rfl⟩ := hv
        rw [hy] at hy'
        injection hy' with hy'
        subst hy'
        exact hR.ev y
      | callv x xs =>
        obtain ⟨tys, ho⟩ := inv_callv hso
        simp only [stepVC] at h
        have hx := hR.ev x
        split at h
        · rename_i f caps hev
          rw [hev] at hx
          generalize hxv : a.eval x = v at hx
          cases hx with
          | fn _ _ vs hl hh =>
            refine call_sound hR hM0 hF hd (argsOp_val ho hxv) (by simp [hl]) (fun i x v hx hv => ?_) h hK
            rw [List.getElem?_append] at hx
            rw [Array.getElem?_append] at hv
            simp only [List.length_map, List.size_toArray] at hx hv
            split at hx
            · rename_i hlt
              rw [if_pos hlt] at hv
              simp only [List.getElem?_map, Option.map_eq_some_iff, List.getElem?_toArray] at hx hv
              obtain ⟨y, hy, rfl⟩ := hx
              obtain ⟨y', hy', rfl⟩ := hv
              rw [hy] at hy'
              injection hy' with hy'
              subst hy'
              exact hR.ev y
            · rename_i hge
              rw [if_neg hge] at hv
              simp only [List.getElem?_map, Option.map_eq_some_iff] at hx
              obtain ⟨c, hc, rfl⟩ := hx
              exact hh _ _ _ hc hv
        · exact h.elim
      | isnil ne x =>
        obtain ⟨t, e, y, v, ho, hu, hv⟩ := inv_isnil hso
        have hvn : v = .slice none 0 0 := by
          unfold isNilC at hv
          split at hv
          · rfl
          · cases hv
        subst hvn
        simp only [stepVC, isnilVC] at h
        have hx := hR.ev x
        split at h
        · rename_i s hs
          split at h
          · rename_i n get hls
            have hval : ∃ A c, a.eval x = .slice A n c ∧ (A = none → n = 0) := by
              have hden := lend hR hM0 [ev st.sl x] [ev st.sl x] (fun _ h => h) 0 _ s _ rfl hs hx
              obtain ⟨sz0, hz0⟩ : ∃ sz, szOK sz s := by
                cases s with
                | lst sz _ _ => exact ⟨sz, rfl⟩
                | _ => exact ⟨0, trivial⟩
              have := den_lstOf' hls hz0 hden
              generalize hxv : a.eval x = u at this
              cases this with
              | lst _ _ _ A c b o val hc hm hA hM hb hz h1 hcell hh =>
                refine ⟨A, c, rfl, fun hn => ?_⟩
                rcases Nat.eq_zero_or_pos n with h0 | h0
                · exact h0
                · rw [hA h0] at hn; cases hn
            obtain ⟨A, c, hxv, hA⟩ := hval
            obtain ⟨hR2, hF2⟩ := hR.put hF hd (x := .sv (.bool (xor ne A.isNone))) (v := .bool (xor ne A.isNone)) (.bool _) (by simp [gsl])
            refine wp_value (v := .bool (xor ne A.isNone)) ?_ (hK _ _ _ _ (h A.isNone (fun hb => hA (by simpa using hb))) hR2 hF2)
            have hcv : a.eval (.const (.slice none 0 0)) = .slice none 0 0 := rfl
            simp only [execOp, ho, hxv, hcv]
            refine run_v ?_
            cases ne with
            | true =>
              have hg : (eqGuard BinOp.neq t x (.const (.slice none 0 0)) (.slice A n c) (.slice none 0 0)).run P w = .ok () w := by simp [eqGuard]
              simp only [if_true, Sem.run_bind, hg, Result.andThen_ok]
              rw [run_neq_slice_nil_any w t e A n c 0 0 hu]
              simp
            | false =>
              have hg : (eqGuard BinOp.eql t x (.const (.slice none 0 0)) (.slice A n c) (.slice none 0 0)).run P w = .ok () w := by simp [eqGuard]
              simp only [Bool.false_eq_true, if_false, Sem.run_bind, hg, Result.andThen_ok]
              rw [Lib.run_eql_slice_nil w t e A n c 0 0 hu]
              simp
          · exact h.elim
        · exact h.elim
      | box t x =>
        have ho := inv_box hso
        simp only [stepVC, boxVC] at h
        have hfz := Frz.frz st.tb (ev st.sl x)
        have hR1 := hR.frz hfz
        split at h
        · rename_i sv hsh
          split at h
          · rename_i cs hcs
            have hden := shut_den hR1.inv hM0 hsh (hR1.ev x)
            obtain ⟨c1, c2, c3⟩ := cellsOf_sound hcs hden
            have hR2 := hR1.newCells (t := t) c1 c2 c3 true
            have hlen : (frz st.tb (ev st.sl x)).length = st.tb.length := hfz.len
            simp only [hlen] at hR2
            obtain ⟨hR3, hF3⟩ := hR2.put hF hd (x := .ptr st.tb.length 0) (v := .pointer (some ⟨w.heap.size, 0, none⟩)) ⟨by simp [hlen], w.heap.size, upd_same _ _ _, rfl⟩ (by simp [gsl])
            refine wp_value (w' := w.alloc (.cells (a.eval x).cells t)) ?_ (hK _ _ _ _ h hR3 hF3)
            simp [execOp, ho, Instr.box, newVar, newRow]
          · exact h.elim
        · exact h.elim
      | alloc t z =>
        obtain ⟨ho, hz⟩ := inv_alloc hso
        simp only [stepVC] at h
        obtain ⟨zv, hzr, hzc, hz1⟩ := zeroOf_run (P := P) (w := w) hz
        have hR2 := hR.newCells (t := t) (cs := z.map SV.val) (vs := zv.cells) (by rw [← hzc]; simp) (fun i u hi => hz1 u (by rw [← hzc]; exact Array.mem_toList_iff.2 (Array.mem_of_getElem? hi)))
          (fun i s u hi hu => by
            rw [← hzc] at hi
            simp only [List.getElem?_map, Array.getElem?_toList, hu, Option.map_some, Option.some.injEq] at hi
            subst hi
            exact .val u) true
        obtain ⟨hR3, hF3⟩ := hR2.put hF hd (x := .ptr st.tb.length 0) (v := .pointer (some ⟨w.heap.size, 0, none⟩)) ⟨by simp, w.heap.size, upd_same _ _ _, rfl⟩ (by simp [gsl])
        refine wp_value (w' := w.alloc (.cells zv.cells t)) ?_ (hK _ _ _ _ h hR3 hF3)
        simp [execOp, ho, Instr.alloc, hzr, newVar, newRow]
      | store n x v =>
        obtain ⟨t, ho, hn⟩ := inv_store hso
        simp only [stepVC, storeVC] at h
        have hfz := Frz.frz st.tb (ev st.sl v)
        have hR1 := hR.frz hfz
        split at h
        · rename_i sv hsh
          split at h
          · rename_i cs hcs
            split at h
            · rename_i tb' ob hst
              have hden := shut_den hR1.inv hM0 hsh (hR1.ev v)
              obtain ⟨c1, c2, c3⟩ := cellsOf_sound hcs hden
              obtain ⟨w', hrun, hR2⟩ := store_sound (P := P) hR1 hst h.1 (hR1.ev x) c1 c2 c3 hn
              refine wp_skip' (w' := w') (by simp [execOp, ho, hrun]) ?_
              obtain ⟨hR3, hF3⟩ := hR2.put hF hd (x := .any) (v := undef) trivial (by simp [gsl])
              exact hK _ _ _ _ h.2 hR3 hF3
            · exact h.elim
          · exact h.elim
        · exact h.elim
      | buildS e sz len z ps =>
        obtain ⟨t, ho, he', hsz, hz, hbig, hzl, hpos⟩ := inv_buildS hso
        simp only [stepVC, buildSVC] at h
        have hfz := Frz.all ((ps.map fun p => (p.1, ev st.sl p.2)).map fun p => p.2) st.tb
        have hR1 := hR.frz hfz
        split at h
        · rename_i l hl
          obtain ⟨vs, hrun, hvs, hden⟩ := buildS_sound (P := P) hR1 hM0 he' hsz hz hbig hzl (ρ := a.eval) (lvs := ps.map fun p => (p.1, ev st.sl p.2)) (ps := ps) (by simp)
            (fun k i x j y hk hk' => by
              simp only [List.getElem?_map, hk', Option.map_some, Option.some.injEq, Prod.mk.injEq] at hk
              obtain ⟨rfl, rfl⟩ := hk
              exact ⟨rfl, hR1.ev y⟩) hl
          cases hden with
          | agg _ _ hll h1 hdd =>
            have hls : l.length = len * sz := by rw [hll, hvs]
            have hR2 := hR1.newRow (e := e) (sz := sz) (n := len) (get := cutRows sz l) (vs := vs) hvs (by
                unfold maxLen
                have : len * 1 ≤ len * sz := Nat.mul_le_mul_left _ hpos
                omega)
              (fun i hi => by
                have : i * sz + sz ≤ len * sz := by rw [← Nat.succ_mul]; exact Nat.mul_le_mul_right _ hi
                simp [cutRows, hls]; omega) h1
              (fun i j s u hi hj hu => by
                have hjs : j < sz := by
                  have := (List.getElem?_eq_some_iff.1 hj).1
                  simp [cutRows] at this; omega
                unfold cutRows at hj
                rw [List.getElem?_take_of_lt hjs, List.getElem?_drop] at hj
                exact hdd _ _ _ hj hu)
            have hlen := hfz.len
            simp only [hlen] at hR2
            obtain ⟨hR3, hF3⟩ := hR2.put hF hd (x := .own st.tb.length) (v := .slice (some ⟨w.heap.size, 0, none⟩) len len) ⟨by rw [List.length_append, hlen]; simp, (upd_same _ _ _).symm⟩ (by simp [gsl])
            refine wp_value (w' := w.alloc (.cells vs e)) ?_ (hK _ _ _ _ h hR3 hF3)
            simp only [execOp, ho]
            exact run_v hrun
        · exact h.elim
      | build z ps =>
        have hR1 := hR.frz (Frz.all (ps.map fun p => ev st.sl p.2.2) st.tb)
        refine pureVC_sound hso hR1 hM0 hF hd h (fun x ob hp s' hs' => ?_) hK
        rcases gsl_pure hp with h0 | ⟨y, hy, _⟩
        · rw [h0] at hs'; simp at hs'
        · cases hy
      | mkfn f caps =>
        have hR1 := hR.frz (Frz.all (caps.map (ev st.sl)) st.tb)
        refine pureVC_sound hso hR1 hM0 hF hd h (fun x ob hp s' hs' => ?_) hK
        rcases gsl_pure hp with h0 | ⟨y, hy, _⟩
        · rw [h0] at hs'; simp at hs'
        · cases hy
      | makeS e sz by' z x y =>
        obtain ⟨t, ho, he', hsz, hby, hz, hzl⟩ := inv_makeS hso
        simp only [stepVC, makeSVC] at h
        split at h
        · rename_i n c hn hc
          obtain ⟨⟨rfl, h0, hroom⟩, hk⟩ := h
          have hnat : ∀ q : Operand, natOf (ev st.sl q) = some n → ∃ k, a.eval q = .int k n := by
            intro q hq
            have hev := hR.ev q
            unfold natOf at hq
            split at hq
            · rename_i k m hx
              rw [hx] at hev
              injection hq with hq
              subst hq
              generalize hqv : a.eval q = u at hev
              cases hev
              exact ⟨k, rfl⟩
            · cases hq
          obtain ⟨k1, hx⟩ := hnat x hn
          obtain ⟨k2, hy⟩ := hnat y hc
          obtain ⟨it, zv, hit, hzv, hzc, hz1⟩ := zeroOf_spec hz
          obtain ⟨m, rfl⟩ := Int.eq_ofNat_of_zero_le h0
          simp only [Int.toNat_natCast] at hroom hk
          have hits : it.size = sz := by simp only [sizeOf?, hit] at hsz; injection hsz
          have hitb : it.bytes = by' := by simp only [bytesOf?, hit] at hby; injection hby
          have hu := elemOf_spec he'
          have hb' : ((it.bytes : Int) * (m : Int)) ≤ 281474976710656 := by
            have h : it.bytes * m ≤ 281474976710656 := by rw [hitb, Nat.mul_comm]; exact Nat.le_trans hroom.1 (by omega)
            have : ((it.bytes * m : Nat) : Int) ≤ 281474976710656 := by omega
            rwa [Int.natCast_mul] at this
          have h63 : (m : Int) ≤ 9223372036854775807 := by have := hroom.2; simp only [maxLen] at this; omega
          have hrun := run_make (P := P) w t e it zv hu hit hzv k1 k2 m m (by omega) (Int.le_refl _) hb' h63
          simp only [Int.toNat_natCast, hits] at hrun
          have hzs : zv.cells.size = sz := by rw [← hzl, ← hzc]; simp
          have hmade : ∀ i, i < m * sz → (madeCells zv.cells (m * sz))[i]? = z[i % sz]? := by
            intro i hi
            have hpos : 0 < sz := by
              rcases Nat.eq_zero_or_pos sz with h | h
              · rw [h] at hi; omega
              · exact h
            have hm : i % sz < sz := Nat.mod_lt _ hpos
            rw [← hzc]
            simp [madeCells, hi, hzs, hm]
          have hR2 := hR.newRow (e := e) (sz := sz) (n := m) (get := fun _ => z.map SV.val) (vs := madeCells zv.cells (m * sz)) (by simp [madeCells]) hroom.2 (fun i _ => by simp [hzl])
            (fun i u hi => by
              have hlt : i < m * sz := by
                have := (Array.getElem?_eq_some_iff.1 hi).1
                simpa [madeCells] using this
              rw [hmade i hlt] at hi
              exact hz1 u (List.mem_of_getElem? hi))
            (fun i j s u hi hj hu => by
              have hjs : j < sz := by
                have := (List.getElem?_eq_some_iff.1 hj).1
                simpa [hzl] using this
              have : i * sz + sz ≤ m * sz := by rw [← Nat.succ_mul]; exact Nat.mul_le_mul_right _ hi
              rw [hmade _ (by omega), Nat.mul_comm i, Nat.mul_add_mod, Nat.mod_eq_of_lt hjs] at hu
              simp only [List.getElem?_map, hu, Option.map_some, Option.some.injEq] at hj
              subst hj
              exact .val u)
          obtain ⟨hR3, hF3⟩ := hR2.put hF hd (x := .own st.tb.length) (v := .slice (some ⟨w.heap.size, 0, none⟩) m m) ⟨by simp, (upd_same _ _ _).symm⟩ (by simp [gsl])
          refine wp_value (w' := w.alloc (.cells (madeCells zv.cells (m * sz)) e)) ?_ (hK _ _ _ _ hk hR3 hF3)
          simp only [execOp, ho, hx, hy]
          exact run_v hrun
        · exact h.elim
      | app e sz by' z x y =>
        obtain ⟨t, ho, he', hsz, hby, hz, hzl, hpos⟩ := inv_app hso
        simp only [stepVC] at h
        obtain ⟨it, zv, hit, hzv, hzc, hz1⟩ := zeroOf_spec hz
        have hits : it.size = sz := by simp only [sizeOf?, hit] at hsz; injection hsz
        have hitb : it.bytes = by' := by simp only [bytesOf?, hit] at hby; injection hby
        have hty : AppTy P t e sz by' := ⟨elemOf_spec he', ⟨it, zv, hit, hzv, hits, hitb, by rw [← hzl, ← hzc]; simp⟩, fun i z' hi' hz' => by
          rw [hit] at hi'; injection hi' with hi'; subst hi'
          rw [hzv] at hz'; injection hz' with hz'; subst hz'
          rw [hzc]; exact hz1, hpos⟩
        obtain ⟨v, w', L', st', hrun, hk, hR2, hF2⟩ := app_sound (ty := o.type) hR hty h (hR.ev x) (hR.ev y) hF hd
        refine wp_value (w' := w') (v := v) ?_ (hK _ _ _ _ hk hR2 hF2)
        simp [execOp, ho, resolve, invoke, builtin, hrun]
      | cap x =>
        obtain ⟨t, e, ho, hu⟩ := inv_cap hso
        simp only [stepVC] at h
        split at h
        · rename_i i hev
          have hx := hR.ev x
          rw [hev] at hx
          obtain ⟨v, L', st', hrun, hk, hR2, hF2⟩ := cap_sound (ty := o.type) hR hu h hx hd
          refine wp_value (w' := w) (v := v) ?_ (hK _ _ _ _ hk hR2 hF2)
          simp [execOp, ho, resolve, invoke, builtin, hrun]
        · refine pureVC_sound hso hR hM0 hF hd h (fun x ob hp s' hs' => ?_) hK
          rcases gsl_pure hp with h0 | ⟨y, hy, _⟩
          · rw [h0] at hs'; simp at hs'
          · cases hy
      | copy sz x y =>
        obtain ⟨t, t2, e, ho, hu, hsz, hpos⟩ := inv_copy hso
        simp only [stepVC, effVC] at h
        split at h
        · rename_i st' obs hf
          obtain ⟨v, w', L', hrun, hR2, hF2⟩ := copy_sound (ty := o.type) (t2 := t2) hR hu hsz hpos hf h.1 hF hd
          refine wp_value (w' := w') (v := v) ?_ (hK _ _ _ _ h.2 hR2 hF2)
          simp [execOp, ho, resolve, invoke, builtin, hrun]
        · exact h.elim
      | appZ e sz by' z x y =>
        obtain ⟨t, u, k, ho, he', hsz, hby, hz, hzl, hpos, hu⟩ := inv_appZ hso
        simp only [stepVC, effVC] at h
        obtain ⟨it, zv, hit, hzv, hzc, hz1⟩ := zeroOf_spec hz
        have hits : it.size = sz := by simp only [sizeOf?, hit] at hsz; injection hsz
        have hitb : it.bytes = by' := by simp only [bytesOf?, hit] at hby; injection hby
        have hty : AppTy P t e sz by' := ⟨elemOf_spec he', ⟨it, zv, hit, hzv, hits, hitb, by rw [← hzl, ← hzc]; simp⟩, fun i z' hi' hz' => by
          rw [hit] at hi'; injection hi' with hi'; subst hi'
          rw [hzv] at hz'; injection hz' with hz'; subst hz'
          rw [hzc]; exact hz1, hpos⟩
        split at h
        · rename_i st' obs hf
          obtain ⟨v, w', L', hrun, hR2, hF2⟩ := appZ_sound (ty := o.type) hR hty hu hz hf h.1 hF hd
          refine wp_value (w' := w') (v := v) ?_ (hK _ _ _ _ h.2 hR2 hF2)
          simp [execOp, ho, resolve, invoke, builtin, hrun]
        · exact h.elim
      | clear e sz z x =>
        obtain ⟨t, ho, he', hz, hzl⟩ := inv_clear hso
        simp only [stepVC] at h
        obtain ⟨v, w', L', st', hrun, hk, hR2, hF2⟩ := clear_sound (ty := o.type) hR (elemOf_spec he') hz hzl h (hR.ev x) hF hd
        refine wp_value (w' := w') (v := v) ?_ (hK _ _ _ _ hk hR2 hF2)
        simp [execOp, ho, resolve, invoke, builtin, hrun]
      | makeM z =>
        obtain ⟨t, ho, hz⟩ := inv_makeM hso
        simp only [stepVC] at h
        obtain ⟨_, _, _, _, _, hz1⟩ := mapOf_spec hz
        obtain ⟨hR2, hF2⟩ := (makeM_rel hR hz1).put hF hd (x := .own st.tb.length) (v := .map (some w.heap.size)) ⟨by simp, (upd_same _ _ _).symm⟩ (by simp [gsl])
        refine wp_value (w' := w.alloc (.map #[] 0)) (v := .map (some w.heap.size)) ?_ (hK _ _ _ _ h hR2 hF2)
        simp [execOp, ho, Instr.makeMap]
      | mapUp x k v =>
        obtain ⟨t, z, ho, hz⟩ := inv_mapUp hso
        simp only [stepVC] at h
        obtain ⟨w', L', st', hrun, hk, hR2, hF2⟩ := mapUp_sound hR hM0 hz h (hR.ev x) (hR.ev k) (hR.ev v) hF hd
        refine wp_skip' (w' := w') ?_ (hK _ _ _ _ hk hR2 hF2)
        simp [execOp, ho, hrun]
      | _ => simp [isEff] at he
  | some p =>
    obtain ⟨gs, gb⟩ := p
    have hsF : F gs := hgF gs gb rfl
    have hw := wanted_iff (a := a) hg
    have hput : ∀ {tb' : List Blk} {x : LV} {v : Value} {w' : World}, R N w0 M0 L { st with tb := tb' } a w' → (gOf a gs = some gb → LDen (gOf a) w' (mset M0 tb' L) L tb' x v) → (gOf a gs ≠ some gb → v = undef) → (∀ s' ∈ gsl x, F s') →
        K (St.put { st with tb := tb' } o.dst (.opt gs gb x)) → K' (a.put o.dst v) w' := by
      intro tb' x v w' hR' hx hn hgx hk
      obtain ⟨hR2, hF2⟩ := hR'.put (F := F) hF hd (x := .opt gs gb x) (v := v) ⟨hx, hn⟩ (fun s' hs' => by
        simp only [gsl, List.mem_cons] at hs'
        rcases hs' with rfl | hs'
        · exact hsF
        · exact hgx s' hs')
      exact hK _ _ _ _ hk hR2 hF2
    have hpure : ∀ tb', R N w0 M0 L { st with tb := tb' } a w → (∃ x ob, pureOp P tb' (evG st.sl (guards st.sl (some (gs, gb)))) s = some (x, ob) ∧ (gcond st.sl (guards st.sl (some (gs, gb))) → ob) ∧ K (St.put { st with tb := tb' } o.dst (.opt gs gb x))) →
        if Region.wanted o (yielded ops a.tmps) then o.wp P a w K' Q else K' (a.put o.dst undef) w := by
      rintro tb' hR' ⟨x, ob, hp, hob, hk⟩
      have hgx : ∀ s' ∈ gsl x, F s' := by
        intro s' hs'
        rcases gsl_pure hp with h0 | ⟨y, _, rfl⟩
        · rw [h0] at hs'; simp at hs'
        · exact gsl_unopt (gsl_ev hF y) s' hs'
      by_cases hwn : gOf a gs = some gb
      · rw [if_pos (hw.2 hwn)]
        have hgs := guards_sound hR hwn
        obtain ⟨v, hrun, hx⟩ := pure_sound hso hp (hob (gcond_sound hR _ hgs)) hR'.inv hM0 (fun y => evG_sound hR' hgs y)
        exact wp_value hrun (hput hR' (fun _ => hx) (fun h => (h hwn).elim) hgx hk)
      · rw [if_neg (fun h => hwn (hw.1 h))]
        exact hput hR' (fun h => (hwn h).elim) (fun _ => rfl) hgx hk
    have hdst : dstepVC P st ⟨o.dst, s, some (gs, gb)⟩ (fun x => K (st.put o.dst x)) → if Region.wanted o (yielded ops a.tmps) then o.wp P a w K' Q else K' (a.put o.dst undef) w := by
      intro h
      obtain ⟨x, h1, h2⟩ := dstep_ex h
      exact dstep_sound hs hR hM0 hF (fun k hk => (hd k hk).2) hgF h1 (fun a' w' hR' hF' => hK L _ a' w' h2 hR' hF')
    cases s with
    | pick c x y =>
      simp only [stepVC] at h
      by_cases hwn : gOf a gs = some gb
      · rw [if_pos (hw.2 hwn)]
        obtain ⟨b, hrun, hk⟩ := pick_sound (P := P) (K := fun z => K (st.put o.dst (.opt gs gb z))) (inv_pick hso) hR (guards_sound hR hwn) h
        exact wp_value hrun (hput (tb' := st.tb) (x := .sv (.bool b)) hR (fun _ => Den.bool b) (fun h => (h hwn).elim) (by simp [gsl]) hk)
      · rw [if_neg (fun h => hwn (hw.1 h))]
        unfold pickVC at h
        split at h
        · exact hput (tb' := st.tb) hR (fun h => (hwn h).elim) (fun _ => rfl) (by simp [gsl]) h
        · exact h.elim
    | call f xs => exact hdst h
    | callv x xs => exact hdst h
    | buildS e sz len z ps => exact hdst h
    | mkfn f caps =>
      simp only [stepVC] at h
      split at h
      · rename_i x ob hp
        exact hpure _ (hR.frz (Frz.all _ _)) ⟨x, ob, hp, h.1, h.2⟩
      · exact h.elim
    | _ =>
      simp only [stepVC] at h
      split at h
      · rename_i x ob hp
        exact hpure _ hR ⟨x, ob, hp, h.1, h.2⟩
      · exact h.elim

theorem shape_ok {w : World} {M : Nat → Prop} {base : Nat} {k : Blk} {v : Value} (h : BlkOK w M base k v) : hasShape k v := by
  cases k with
  | row t sz n mu get =>
    obtain ⟨xs, ho, _⟩ := h
    rcases ho.2 with ⟨rfl, rfl⟩ | ⟨g, cap, cur, rfl, _⟩
    · exact ⟨none, 0, rfl⟩
    · exact ⟨_, cap, rfl⟩
  | map z ks get =>
    obtain ⟨b, es, cl, rfl, _⟩ := h
    exact ⟨b, rfl⟩
  | _ => trivial

/-- Behind the views there is a plain step. -/
theorem GVC.elim {o : SO} {K : St → Prop} (h : GVC P o K st) (hM0 : Safe w0 M0) (hR : R N w0 M0 L st a w) (hF : ∀ t, ∀ s ∈ gsl (look st.sl t), F s) : ∃ st1 L1, stepVC P st1 o K ∧ R N w0 M0 L1 st1 a w ∧ ∀ t, ∀ s ∈ gsl (look st1.sl t), F s := by
  induction h generalizing L with
  | step h => exact ⟨_, _, h, hR, hF⟩
  | @view st S h1 h2 ih =>
    obtain ⟨st', L', hS, ⟨hinv, hsl⟩, hl⟩ := h1 w0 M0 (gOf a) (fun t => a.tmps.getD t undef) L w hM0 ⟨hR.inv, hR.slot⟩
    refine ih st' hS { inv := hinv, size := hR.size, defers := hR.defers, slot := hsl } (fun t s hs => ?_)
    rcases hl t with h | h
    · rw [h] at hs; exact hF t s hs
    · rw [gsl_optFree h] at hs; simp at hs

/-- A handle's value gets a name. -/
theorem GVC.name {o : SO} {K : St → Prop} (s j : Nat) (k : Blk) (h1 : look st.sl s = .own j) (h2 : st.tb[j]? = some k) (h : ∀ v, hasShape k v → GVC P o K (nameSt st s j v)) : GVC P o K st := by
  refine .view (fun st' => ∃ v, hasShape k v ∧ st' = nameSt st s j v) (fun w0 M0 G sv L w hM0 hb => ?_) (fun st' ⟨v, hv, e⟩ => e ▸ h v hv)
  have hs := hb.slot s
  rw [h1] at hs
  refine ⟨nameSt st s j (L j), L, ⟨L j, shape_ok (hb.inv.ok j k h2), rfl⟩, ⟨hb.inv, fun t => ?_⟩, fun t => ?_⟩
  · simp only [nameSt, look]
    split
    · rename_i e; subst e
      rw [show sv s = L j from hs.2]
      exact Den.val _
    · split
      · exact ⟨hs.1, rfl⟩
      · exact hb.slot t
  · simp only [nameSt, look]
    split
    · exact .inr rfl
    · split
      · exact .inr rfl
      · exact .inl rfl

/-- A named value is the handle again. -/
theorem GVC.unname {o : SO} {K : St → Prop} (s j : Nat) (v : Value) (h1 : look st.sl s = .sv (.val v)) (h2 : look st.sl (nmSlot j) = .isv j v) (h : GVC P o K (unnameSt st s j)) : GVC P o K st := by
  refine .view (fun st' => st' = unnameSt st s j) (fun w0 M0 G sv L w hM0 hb => ?_) (fun st' e => e ▸ h)
  have hs := hb.slot s
  rw [h1] at hs
  have hn := hb.slot (nmSlot j)
  rw [h2] at hn
  refine ⟨_, L, rfl, ⟨hb.inv, fun t => ?_⟩, fun t => ?_⟩
  · simp only [unnameSt, look]
    split
    · rename_i e; subst e
      refine ⟨hn.1, ?_⟩
      have : Den w (mset M0 st.tb L) (.val v) (sv s) := hs
      generalize sv s = u at this
      cases this
      exact hn.2.symm
    · exact hb.slot t
  · simp only [unnameSt, look]
    split
    · exact .inr rfl
    · exact .inl rfl

theorem gstep_sound {ops : Array Oper} {o : Oper} {so : SO} {K : St → Prop} {K' : Act → World → Prop} {Q : Exit → Act → World → Prop} (hs : slimOper P N ops o = some so) (hR : R N w0 M0 L st a w)
    (hM0 : Safe w0 M0) (hF : ∀ t, ∀ s ∈ gsl (look st.sl t), F s) (hdF : ∀ k, so.dst = some k → ¬ F k) (hgF : ∀ s b, so.g = some (s, b) → F s) (h : GVC P so K st)
    (hK : ∀ L' st' a' w', K st' → R N w0 M0 L' st' a' w' → (∀ t, ∀ s ∈ gsl (look st'.sl t), F s) → K' a' w') :
    if Region.wanted o (yielded ops a.tmps) then o.wp P a w K' Q else K' (a.put o.dst undef) w := by
  obtain ⟨st1, L1, h1, hR1, hF1⟩ := h.elim hM0 hR hF
  exact step_sound hs hR1 hM0 hF1 hdF hgF h1 hK
end
end Go.Sx

namespace Go.Sx
open Go Go.RowKit
set_option linter.unusedSimpArgs false

section
variable {P : Program} {N : Nat} {w0 : Base} {M0 : Nat → Prop} {L : Nat → Value} {st : St} {a : Act} {w : World}

def NoOpt (st : St) : Prop := ∀ t, gsl (look st.sl t) = []

theorem look_cleanSl (t : Nat) : ∀ sl : List (Nat × LV), look (cleanSl sl) t = clean (look sl t)
  | [] => rfl
  | (k, x) :: r => by
    cases x <;> simp only [cleanSl, look] <;> split <;> first | rfl | exact look_cleanSl t r

theorem R.clean (h : R N w0 M0 L st a w) : R N w0 M0 L { st with sl := cleanSl st.sl } a w ∧ NoOpt { st with sl := cleanSl st.sl } := by
  refine ⟨{ inv := h.inv, size := h.size, defers := h.defers, slot := fun t => ?_ }, fun t => ?_⟩
  · simp only [look_cleanSl]
    have := h.slot t
    generalize look st.sl t = x at this
    cases x <;> first | exact this | trivial
  · simp only [look_cleanSl]
    generalize look st.sl t = x
    cases x <;> rfl

theorem svles_get : ∀ (as bs : List SV), SVles as bs → as.length = bs.length ∧ ∀ (i : Nat) s', bs[i]? = some s' → ∃ s, as[i]? = some s ∧ SVle s s'
  | [], [], _ => ⟨rfl, fun i s' h => by simp at h⟩
  | x :: as, y :: bs, h => by
    obtain ⟨h1, h2⟩ := svles_get as bs h.2
    refine ⟨by simp [h1], fun i s' hi => ?_⟩
    cases i with
    | zero => simp at hi; subst hi; exact ⟨x, rfl, h.1⟩
    | succ i => simp at hi; simpa using h2 i s' hi
  | [], _ :: _, h => h.elim
  | _ :: _, [], h => h.elim

theorem BlkOK.le {M : Nat → Prop} {base : Nat} {k k' : Blk} {v : Value} (h : BlkOK w M base k v) (hle : BlkLe k k') : BlkOK w M base k' v := by
  cases k' with
  | dead => trivial
  | cells t' mu' cs' =>
    cases k with
    | cells t mu cs =>
      obtain ⟨rfl, _, hcs⟩ := hle
      obtain ⟨h1, h2⟩ := svles_get _ _ hcs
      obtain ⟨b, vs, q1, q2, q3, q4, q5, q6⟩ := h
      refine ⟨b, vs, q1, q2, q3, h1.symm.trans q4, q5, fun i s u hi hu => ?_⟩
      obtain ⟨s0, hs0, hle0⟩ := h2 i s hi
      exact hle0 _ _ _ (q6 i s0 u hs0 hu)
    | _ => exact hle.elim
  | sem S' =>
    cases k with
    | sem S =>
      have e : S = S' := hle
      subst e
      exact h
    | _ => exact hle.elim
  | map z' keys' get' =>
    cases k with
    | map z keys get =>
      obtain ⟨rfl, rfl, hg⟩ := hle
      obtain ⟨b, es, clock, q1, q2, q3, q4, q5, q6, q7, q8⟩ := h
      exact ⟨b, es, clock, q1, q2, q3, q4, q5, q6, fun i k e hk he => hg k _ _ _ (q7 i k e hk he), fun k hk => hg k _ _ _ (q8 k hk)⟩
    | _ => exact hle.elim
  | row t' sz' n' mu' get' =>
    cases k with
    | row t sz n mu get =>
      obtain ⟨rfl, rfl, rfl, _, hg⟩ := hle
      obtain ⟨xs, q1, q2, q3, q4⟩ := h
      refine ⟨xs, q1, fun i hi => (svles_get _ _ (hg i hi)).1.symm.trans (q2 i hi), q3, fun i j s u hi hj hu => ?_⟩
      obtain ⟨s0, hs0, hle0⟩ := (svles_get _ _ (hg i hi)).2 j s hj
      exact hle0 _ _ _ (q4 i j s0 u hi hs0 hu)
    | _ => exact hle.elim

theorem tbLe_get : ∀ (tb tb' : List Blk), TbLe tb tb' → ∀ (i : Nat) k', tb'[i]? = some k' → (∃ k, tb[i]? = some k ∧ BlkLe k k') ∨ (tb.length ≤ i ∧ isNilRow k')
  | _, [], _, i, k', h => by simp at h
  | [], k :: r, h, i, k', hi => by
    cases i with
    | zero => simp at hi; subst hi; exact .inr ⟨by simp, h.1⟩
    | succ i =>
      simp at hi
      rcases tbLe_get [] r h.2 i k' hi with ⟨k0, h0, _⟩ | ⟨_, h1⟩
      · simp at h0
      · exact .inr ⟨by simp, h1⟩
  | k0 :: r0, k :: r, h, i, k', hi => by
    cases i with
    | zero => simp at hi; subst hi; exact .inl ⟨k0, rfl, h.1⟩
    | succ i =>
      simp at hi
      rcases tbLe_get r0 r h.2 i k' hi with ⟨k1, h0, h1⟩ | ⟨h0, h1⟩
      · exact .inl ⟨k1, by simpa using h0, h1⟩
      · exact .inr ⟨by simp; omega, h1⟩

theorem slLe_get {n : Nat} {n' : List Blk} {sl : List (Nat × LV)} : ∀ (sl' : List (Nat × LV)), SlLe n n' sl sl' → ∀ t, LVle n n' (look sl t) (look sl' t)
  | [], _, t => by simp only [look]; cases look sl t <;> trivial
  | (k, x) :: r, h, t => by
    simp only [look]
    split
    · rename_i e; subst e; exact h.1
    · exact slLe_get r h.2 t

theorem R.le (h : R N w0 M0 L st a w) {st' : St} (hle : Le st st') : ∃ L', R N w0 M0 L' st' a w ∧ NoOpt st' := by
  obtain ⟨htb, hsl⟩ := hle
  let L' : Nat → Value := fun i => if i < st.tb.length then L i else .slice none 0 0
  have hL1 : ∀ i, i < st.tb.length → L' i = L i := fun i hi => by simp [L', hi]
  have hL2 : ∀ i, st.tb.length ≤ i → L' i = .slice none 0 0 := fun i hi => by simp [L']; omega
  have hb : ∀ i b, blkNo (L' i) = some b → i < st.tb.length ∧ blkNo (L i) = some b := by
    intro i b hb
    rcases Nat.lt_or_ge i st.tb.length with hi | hi
    · rw [hL1 i hi] at hb; exact ⟨hi, hb⟩
    · rw [hL2 i hi] at hb; simp [blkNo] at hb
  have hM : ∀ b, mset M0 st'.tb L' b → mset M0 st.tb L b := by
    intro b hm
    rcases hm with hm | ⟨i, k', hi, hk, hn⟩
    · exact .inl hm
    · obtain ⟨hil, hn'⟩ := hb i b hn
      rcases tbLe_get _ _ htb i k' hi with ⟨k, hk0, hle⟩ | ⟨h0, _⟩
      · refine .inr ⟨i, k, hk0, ?_, hn'⟩
        cases k' <;> cases k <;> simp only [BlkLe, Blk.mut] at hle hk ⊢ <;> first | exact hle.2.1 hk | exact hle.2.2.2.1 hk | exact hle.elim | (rw [hle]; exact hk) | cases hk
      · omega
  refine ⟨L', { inv := { below := h.inv.below, ok := ?_, apart := ?_, low := ?_ }, size := h.size, defers := h.defers, slot := ?_ }, ?_⟩
  · intro i k' hi
    rcases tbLe_get _ _ htb i k' hi with ⟨k, hk0, hle⟩ | ⟨h0, hnil⟩
    · rw [hL1 i (List.getElem?_eq_some_iff.1 hk0).1]
      exact ((h.inv.ok i k hk0).le hle).less hM
    · rw [hL2 i h0]
      cases k' with
      | cells => exact hnil.elim
      | map => exact hnil.elim
      | sem => exact hnil.elim
      | row t sz n mu get =>
        simp only [isNilRow] at hnil
        subst hnil
        exact ⟨[], World.ownsRow_nil _ _ _ _, fun i hi => by omega, AllOne.nil, fun i j s u hi => by omega⟩
      | dead => trivial
  · intro i j b _ _ hi hj
    obtain ⟨q1, q2⟩ := hb i b hi
    obtain ⟨q3, q4⟩ := hb j b hj
    exact h.inv.apart i j b q1 q3 q2 q4
  · intro i b _ hi
    obtain ⟨q1, q2⟩ := hb i b hi
    exact h.inv.low i b q1 q2
  · intro t
    have h1 := h.slot t
    have h2 := slLe_get _ hsl t
    generalize look st.sl t = x at h1 h2
    generalize look st'.sl t = y at h2
    generalize a.tmps.getD t undef = v at h1
    cases y with
    | any => trivial
    | sv s' =>
      cases x with
      | sv s => exact (h2 _ _ _ h1).less fun b _ => hM b
      | _ => exact h2.elim
    | ptr i' o' =>
      cases x with
      | ptr i o =>
        obtain ⟨rfl, rfl, hlt⟩ := h2
        obtain ⟨hi, b, hl, hv⟩ := h1
        exact ⟨hlt, b, (hL1 i hi).trans hl, hv⟩
      | _ => exact h2.elim
    | own i' =>
      cases x with
      | own i =>
        obtain ⟨rfl, hlt⟩ := h2
        obtain ⟨hi, hv⟩ := h1
        exact ⟨hlt, hv.trans (hL1 i hi).symm⟩
      | sv s =>
        obtain ⟨rfl, hn, hlt⟩ := h2
        refine ⟨hlt, ?_⟩
        cases h1
        exact (hL2 i' hn).symm
      | _ => exact h2.elim
    | part i' a' b' =>
      cases x with
      | part i a b =>
        obtain ⟨rfl, rfl, rfl, hrow⟩ := h2
        obtain ⟨n, t0, sz, mu, get, h3, h4, h5, h6⟩ := h1
        have hi : i < st.tb.length := (List.getElem?_eq_some_iff.1 h3).1
        unfold isRowAt at hrow
        split at hrow
        · rename_i t1 sz1 n1 mu1 get1 h7
          rcases tbLe_get _ _ htb i _ h7 with ⟨k, hk0, hle⟩ | ⟨h0, _⟩
          · rw [h3] at hk0
            injection hk0 with hk0
            subst hk0
            obtain ⟨_, rfl, rfl, _⟩ := hle
            exact ⟨n, t1, sz, mu1, get1, h7, h4, h5, by rw [hL1 i hi]; exact h6⟩
          · omega
        · cases hrow
      | _ => exact h2.elim
    | rp i' a' b' =>
      cases x with
      | rp i a b =>
        obtain ⟨rfl, rfl, rfl, hrow⟩ := h2
        obtain ⟨b0, n, c0, t0, sz, mu, get, h3, h4, h5, h6⟩ := h1
        have hi : i < st.tb.length := (List.getElem?_eq_some_iff.1 h3).1
        unfold isRowAt at hrow
        split at hrow
        · rename_i t1 sz1 n1 mu1 get1 h7
          rcases tbLe_get _ _ htb i _ h7 with ⟨k, hk0, hle⟩ | ⟨h0, _⟩
          · rw [h3] at hk0
            injection hk0 with hk0
            subst hk0
            obtain ⟨_, rfl, rfl, _⟩ := hle
            exact ⟨b0, n, c0, t1, sz, mu1, get1, h7, (hL1 i hi).trans h4, h5, h6⟩
          · omega
        · cases hrow
      | _ => exact h2.elim
    | opt => cases x <;> exact h2.elim
    | exact i' =>
      cases x with
      | exact i =>
        obtain ⟨rfl, hn, hlt⟩ := h2
        obtain ⟨hi, A, n, hl⟩ := h1
        exact ⟨hlt, A, n, (hL1 i hi).trans hl⟩
      | _ => exact h2.elim
    | isv i' v' =>
      cases x with
      | isv i v =>
        obtain ⟨rfl, rfl, hn, hlt⟩ := h2
        obtain ⟨hi, hl⟩ := h1
        exact ⟨hlt, (hL1 i hi).trans hl⟩
      | _ => exact h2.elim
  · intro t
    have h2 := slLe_get _ hsl t
    generalize look st.sl t = x at h2
    generalize look st'.sl t = y at h2
    cases y with
    | opt => cases x <;> exact h2.elim
    | _ => rfl

theorem steps_sound {ops : Array Oper} {K : St → Prop} {Q : Exit → Act → World → Prop} (hM0 : Safe w0 M0) (hK : ∀ L' st' a' w', K st' → R N w0 M0 L' st' a' w' → Q .normal a' w') :
    ∀ (l : List Oper) (sl : List SO), optList (l.map (slimOper P N ops)) = some sl → gOK sl = true → ∀ L st a w, R N w0 M0 L st a w → (∀ t, ∀ s ∈ gsl (look st.sl t), s ∉ dsts sl) →
      stepsVC P sl st K → wpList P ops Q l a w
  | [], sl, h, _, L, st, a, w, hR, _, hv => by
    simp [optList] at h
    subst h
    exact hK L st a w hv hR
  | o :: l, sl, h, hg, L, st, a, w, hR, hF, hv => by
    simp only [List.map_cons] at h
    cases ho : slimOper P N ops o with
    | none => rw [ho] at h; simp [optList] at h
    | some so =>
      rw [ho] at h
      simp only [optList] at h
      split at h
      · rename_i r hr
        injection h with h
        subst h
        simp only [gOK, Bool.and_eq_true] at hg
        refine wpList_step fun K1 hK1 => ?_
        refine gstep_sound (F := fun s => s ∉ dsts (so :: r)) ho hR hM0 hF (fun k hk hn => ?_) (fun s b hsb => ?_) hv (fun L' st' a' w' hv' hR' hF' => hK1 _ _ ?_)
        · exact hn (by simp [dsts, hk])
        · rw [hsb] at hg
          simpa using hg.1
        · refine steps_sound hM0 hK l r hr hg.2 L' st' a' w' hR' (fun t s hs hn => hF' t s hs ?_) hv'
          simp only [dsts]
          split <;> simp [hn]
      · cases h

theorem exists_min {α : Type} (p : α → Prop) (m : α → Nat) (h : ∃ x, p x) : ∃ x, p x ∧ ∀ y, p y → m x ≤ m y := by
  have key : ∀ n, ∀ x, p x → m x ≤ n → ∃ x, p x ∧ ∀ y, p y → m x ≤ m y := by
    intro n
    induction n with
    | zero => intro x hx hm; exact ⟨x, hx, fun y _ => by omega⟩
    | succ n ih =>
      intro x hx hm
      by_cases hex : ∃ y, p y ∧ m y < m x
      · obtain ⟨y, hy, hlt⟩ := hex
        exact ih y hy (by omega)
      · exact ⟨x, hx, fun y hy => by
          rcases Nat.lt_or_ge (m y) (m x) with h | h
          · exact (hex ⟨y, hy, h⟩).elim
          · exact h⟩
  obtain ⟨x, hx⟩ := h
  exact key (m x) x hx (Nat.le_refl _)

/-- What holds of a state and of a symbolic one. -/
def Rel (N : Nat) (w0 : Base) (M0 : Nat → Prop) (st : St) (a : Act) (w : World) : Prop := ∃ L, R N w0 M0 L st a w ∧ NoOpt st

theorem loop_sound {c : Code} {Q : Exit → Act → World → Prop} {ι : Type} (I : ι → St) (m : ι → Nat) (i0 : ι) (h0 : Rel N w0 M0 (I i0) a w)
    (hr : ∀ i a w, Rel N w0 M0 (I i) a w → c.wp P (Exit.then (fun a' w' => ∃ i', m i' < m i ∧ Rel N w0 M0 (I i') a' w') Q) a w) : (Code.loop c).wp P Q a w := by
  let J : Act → World → Prop := fun a w => ∃ i, Rel N w0 M0 (I i) a w
  have hmin : ∀ a w, J a w → ∃ i, Rel N w0 M0 (I i) a w ∧ ∀ j, Rel N w0 M0 (I j) a w → m i ≤ m j := fun a w h => exists_min _ m h
  let μ : Act → World → Nat := fun a w => open Classical in if h : J a w then m (hmin a w h).choose else 0
  refine wp_loop J μ ⟨i0, h0⟩ fun a w hJ => ?_
  have hs := (hmin a w hJ).choose_spec
  refine wp_mono (hr _ a w hs.1) fun e a' w' he => ?_
  cases e with
  | normal =>
    obtain ⟨i', hlt, hrel⟩ := he
    have hJ' : J a' w' := ⟨i', hrel⟩
    refine ⟨hJ', ?_⟩
    have hs' := (hmin a' w' hJ').choose_spec
    simp only [μ, dif_pos hJ, dif_pos hJ']
    exact Nat.lt_of_le_of_lt (hs'.2 i' hrel) hlt
  | _ => exact he
end
end Go.Sx

namespace Go.Sx
open Go Go.RowKit
set_option linter.unusedSimpArgs false

section
variable {P : Program} {N : Nat} {w0 : Base} {M0 : Nat → Prop} {L : Nat → Value} {st : St} {a : Act} {w : World} {F : Nat → Prop}

/-! What an operation looks at. -/

theorem mem_tmpsIn {t : Nat} : ∀ {l : List Operand}, Operand.tmp t ∈ l → t ∈ tmpsIn l
  | [], h => by simp at h
  | x :: r, h => by
    rcases List.mem_cons.1 h with h | h
    · subst h; simp [tmpsIn]
    · have := mem_tmpsIn h
      cases x <;> simp [tmpsIn, this]

structure Agree (sl sl' : List (Nat × LV)) (S : Nat → Prop) : Prop where
  eq : ∀ t, S t → look sl t = look sl' t
  closed : ∀ t s b x, S t → look sl t = .opt s b x → S s

theorem Agree.ev {sl sl' : List (Nat × LV)} {S : Nat → Prop} (h : Agree sl sl' S) {x : Operand} (hx : ∀ t, x = .tmp t → S t) : ev sl x = ev sl' x := by
  cases x with
  | tmp t => exact h.eq t (hx t rfl)
  | _ => rfl

theorem Agree.chain {sl sl' : List (Nat × LV)} {S : Nat → Prop} (h : Agree sl sl' S) : ∀ (f s : Nat), S s → chain sl f s = chain sl' f s ∧ ∀ p ∈ chain sl f s, S p.1
  | 0, s, _ => ⟨rfl, fun p hp => by simp [Sx.chain] at hp⟩
  | f + 1, s, hs => by
    have e := h.eq s hs
    simp only [Sx.chain]
    rw [← e]
    cases hl : look sl s with
    | opt s' b' x =>
      have hs' := h.closed s s' b' x hs hl
      obtain ⟨h1, h2⟩ := h.chain f s' hs'
      simp only []
      rw [h1]
      refine ⟨rfl, fun p hp => ?_⟩
      rcases List.mem_cons.1 hp with rfl | hp
      · exact hs'
      · exact h2 p (by rw [h1]; exact hp)
    | _ => exact ⟨rfl, fun p hp => by simp at hp⟩

theorem Agree.guards {sl sl' : List (Nat × LV)} {S : Nat → Prop} (h : Agree sl sl' S) {g : Option (Nat × Bool)} (hg : ∀ s b, g = some (s, b) → S s) : guards sl g = guards sl' g ∧ ∀ p ∈ guards sl g, S p.1 := by
  cases g with
  | none => exact ⟨rfl, fun p hp => by simp [Sx.guards] at hp⟩
  | some p =>
    obtain ⟨s, b⟩ := p
    obtain ⟨h1, h2⟩ := h.chain 4 s (hg s b rfl)
    simp only [Sx.guards]
    rw [h1]
    refine ⟨rfl, fun p hp => ?_⟩
    rcases List.mem_cons.1 hp with rfl | hp
    · exact hg s b rfl
    · exact h2 p (by rw [h1]; exact hp)

theorem Agree.gcond {sl sl' : List (Nat × LV)} {S : Nat → Prop} (h : Agree sl sl' S) : ∀ (gs : List (Nat × Bool)), (∀ p ∈ gs, S p.1) → gcond sl gs = gcond sl' gs
  | [], _ => rfl
  | (s, b) :: r, hg => by
    simp only [Sx.gcond, boolAt]
    rw [h.eq s (hg (s, b) (by simp)), h.gcond r (fun p hp => hg p (by simp [hp]))]

theorem pureOp_congr {tb : List Blk} {e1 e2 : Operand → LV} {so : SOp} (h : ∀ x ∈ opdsOf so, e1 x = e2 x) : pureOp P tb e1 so = pureOp P tb e2 so := by
  cases so with
  | mkfn f caps =>
    simp only [pureOp]
    rw [show (caps.map fun x => shut tb (e1 x)) = caps.map fun x => shut tb (e2 x) from List.map_congr_left fun x hx => by rw [h x hx]]
  | build z ps =>
    simp only [pureOp]
    rw [show (ps.map fun p => (p.1, p.2.1, shut tb (e1 p.2.2))) = ps.map fun p => (p.1, p.2.1, shut tb (e2 p.2.2)) from List.map_congr_left fun p hp => by rw [h p.2.2 (by simp only [opdsOf]; exact List.mem_map.2 ⟨p, hp, rfl⟩)]]
  | slice sz x lo hi =>
    simp only [pureOp]
    have hlo : (lo.map fun y => natOf (e1 y)) = lo.map fun y => natOf (e2 y) := by
      cases lo with
      | none => rfl
      | some y => simp only [Option.map_some]; rw [h y (by simp [opdsOf])]
    have hhi : (hi.map fun y => natOf (e1 y)) = hi.map fun y => natOf (e2 y) := by
      cases hi with
      | none => rfl
      | some y => simp only [Option.map_some]; rw [h y (by simp [opdsOf])]
    rw [h x (by simp [opdsOf]), hlo, hhi]
  | slice3 sz x lo hi m =>
    simp only [pureOp]
    have hlo : (lo.map fun y => natOf (e1 y)) = lo.map fun y => natOf (e2 y) := by
      cases lo with
      | none => rfl
      | some y => simp only [Option.map_some]; rw [h y (by simp [opdsOf])]
    have hhi : (hi.map fun y => natOf (e1 y)) = hi.map fun y => natOf (e2 y) := by
      cases hi with
      | none => rfl
      | some y => simp only [Option.map_some]; rw [h y (by simp [opdsOf])]
    rw [h x (by simp [opdsOf]), h m (by simp [opdsOf]), hlo, hhi]
  | _ =>
    simp only [opdsOf, List.mem_cons, List.not_mem_nil, or_false, forall_eq_or_imp, forall_eq] at h
    simp only [pureOp] <;> first | rw [h] | rw [h.1, h.2.1, h.2.2] | rw [h.1, h.2] | rfl

theorem dstep_congr {sl sl' : List (Nat × LV)} {tb : List Blk} {S : Nat → Prop} (h : Agree sl sl' S) {o : SO} (hS : ∀ t ∈ tmpsOf o, S t) {K : LV → Prop} (hd : dstepVC P ⟨sl, tb⟩ o K) : dstepVC P ⟨sl', tb⟩ o K := by
  obtain ⟨dst, op, g⟩ := o
  have hg : ∀ s b, g = some (s, b) → S s := fun s b e => hS s (by simp [tmpsOf, e])
  have hop : ∀ x ∈ opdsOf op, ∀ t, x = .tmp t → S t := fun x hx t e => hS t (by
    subst e
    have := mem_tmpsIn hx
    unfold tmpsOf
    cases g with
    | none => exact this
    | some p => obtain ⟨s, b⟩ := p; exact List.mem_cons_of_mem _ this)
  obtain ⟨hg1, hg2⟩ := h.guards hg
  have hc := h.gcond _ hg2
  have hev : ∀ x ∈ opdsOf op, evG sl (guards sl g) x = evG sl' (guards sl' g) x := fun x hx => by
    unfold evG; rw [hg1, h.ev (hop x hx)]
  rw [hg1] at hc
  cases op with
  | pick c x y =>
    simp only [dstepVC, pickVC] at hd ⊢
    have hcS : S c := hop (.tmp c) (by simp [opdsOf]) c rfl
    obtain ⟨hc1, hc2⟩ := h.chain 4 c hcS
    have e1 : evG sl ((c, true) :: (chain sl 4 c ++ guards sl g)) x = evG sl' ((c, true) :: (chain sl' 4 c ++ guards sl' g)) x := by
      unfold evG; rw [hc1, hg1, h.ev (hop x (by simp [opdsOf]))]
    have e2 : evG sl ((c, false) :: (chain sl 4 c ++ guards sl g)) y = evG sl' ((c, false) :: (chain sl' 4 c ++ guards sl' g)) y := by
      unfold evG; rw [hc1, hg1, h.ev (hop y (by simp [opdsOf]))]
    rw [← e1, ← e2, ← h.eq c hcS, ← hg1]
    exact hd
  | call f xs =>
    simp only [dstepVC] at hd ⊢
    rw [← hg1, ← show gcond sl (guards sl g) = gcond sl' (guards sl g) from h.gcond _ hg2, ← show xs.map (evG sl (guards sl g)) = xs.map (evG sl' (guards sl g)) from List.map_congr_left fun x hx => by rw [hev x hx, hg1]]
    exact hd
  | callv x xs =>
    simp only [dstepVC] at hd ⊢
    rw [← hg1, ← show gcond sl (guards sl g) = gcond sl' (guards sl g) from h.gcond _ hg2, ← show xs.map (evG sl (guards sl g)) = xs.map (evG sl' (guards sl g)) from List.map_congr_left fun x hx => by rw [hev x (by simp [opdsOf, hx]), hg1],
      ← show evG sl (guards sl g) x = evG sl' (guards sl g) x from by rw [hev x (by simp [opdsOf]), hg1]]
    exact hd
  | buildS e sz len z ps =>
    simp only [dstepVC] at hd ⊢
    rw [← hg1, ← show (ps.map fun p => (p.1 * sz, sz, shut tb (evG sl (guards sl g) p.2))) = ps.map fun p => (p.1 * sz, sz, shut tb (evG sl' (guards sl g) p.2)) from
      List.map_congr_left fun p hp => by rw [hev p.2 (by simp only [opdsOf]; exact List.mem_map.2 ⟨p, hp, rfl⟩), hg1]]
    exact hd
  | _ =>
    simp only [dstepVC] at hd ⊢
    rw [← pureOp_congr hev, ← show gcond sl (guards sl g) = gcond sl' (guards sl' g) from by rw [← hg1]; exact h.gcond _ hg2]
    exact hd

end
end Go.Sx

namespace Go.Sx
open Go Go.RowKit
set_option linter.unusedSimpArgs false

section
variable {P : Program} {N : Nat} {w0 : Base} {M0 : Nat → Prop} {L : Nat → Value} {st : St} {a : Act} {w : World}

/-- The state behind the first j operations, in the order of the text. -/
def stAt (st : St) (l : List SO) (xs : List LV) : Nat → St
  | 0 => st
  | j + 1 => match l[j]?, xs[j]? with
    | some o, some x => (stAt st l xs j).put o.dst x
    | _, _ => stAt st l xs j

theorem stAt_cons (o : SO) (l : List SO) (x : LV) (xs : List LV) (st : St) : ∀ j, stAt st (o :: l) (x :: xs) (j + 1) = stAt (st.put o.dst x) l xs j
  | 0 => by simp [stAt]
  | j + 1 => by
    rw [stAt, stAt_cons o l x xs st j]
    simp [stAt]

theorem draw_ex : ∀ (l : List SO) (st : St) (K : St → Prop), drawVC P l st K →
    ∃ xs : List LV, xs.length = l.length ∧ (∀ (j : Nat) o x, l[j]? = some o → xs[j]? = some x → dstepVC P (stAt st l xs j) o (fun y => y = x)) ∧ K (stAt st l xs l.length)
  | [], st, K, h => ⟨[], rfl, fun j o x hj => by simp at hj, h⟩
  | o :: l, st, K, h => by
    obtain ⟨x, hx, hr⟩ := dstep_ex h
    obtain ⟨xs, h1, h2, h3⟩ := draw_ex l (st.put o.dst x) K hr
    refine ⟨x :: xs, by simp [h1], fun j p y hj hy => ?_, ?_⟩
    · cases j with
      | zero => simp at hj hy; subst hj hy; exact hx
      | succ j => rw [stAt_cons]; exact h2 j p y (by simpa using hj) (by simpa using hy)
    · rw [List.length_cons, stAt_cons]; exact h3

theorem stAt_tb (l : List SO) (xs : List LV) (st : St) : ∀ j, (stAt st l xs j).tb = st.tb
  | 0 => rfl
  | j + 1 => by
    rw [stAt]
    split
    · rename_i o x _ _
      cases ho : o.dst <;> simp [St.put, stAt_tb l xs st j]
    · exact stAt_tb l xs st j

/-- No two operations write one slot. -/
def Uniq (l : List SO) : Prop := ∀ (i j : Nat) o p d, l[i]? = some o → l[j]? = some p → o.dst = some d → p.dst = some d → i = j

theorem stAt_not (l : List SO) (xs : List LV) (st : St) (t : Nat) : ∀ j, (∀ (i : Nat) o, i < j → l[i]? = some o → o.dst ≠ some t) → look (stAt st l xs j).sl t = look st.sl t
  | 0, _ => rfl
  | j + 1, h => by
    have ih := stAt_not l xs st t j (fun i o hi ho => h i o (by omega) ho)
    rw [stAt]
    split
    · rename_i o x ho _
      have hne := h j o (by omega) ho
      cases hd : o.dst with
      | none => simpa [St.put] using ih
      | some d =>
        simp only [St.put, look]
        rw [if_neg (fun e => hne (by rw [hd, e]))]
        exact ih
    · exact ih

theorem stAt_yes (l : List SO) (xs : List LV) (st : St) (hu : Uniq l) {i t : Nat} {o : SO} {x : LV} (hi : l[i]? = some o) (hd : o.dst = some t) (hx : xs[i]? = some x) : ∀ j, i < j → look (stAt st l xs j).sl t = x
  | 0, h => by omega
  | j + 1, h => by
    rw [stAt]
    by_cases e : j = i
    · subst e
      rw [hi, hx]
      simp [St.put, hd, look]
    · have ih := stAt_yes l xs st hu hi hd hx j (by omega)
      split
      · rename_i p y hp _
        cases hpd : p.dst with
        | none => simpa [St.put] using ih
        | some d =>
          simp only [St.put, look]
          rw [if_neg (fun e' => e (hu j i p o t hp hi (by rw [hpd, e']) hd))]
          exact ih
      · exact ih

theorem optList_map_get {α β : Type} {f : α → Option β} : ∀ (l : List α) (r : List β), optList (l.map f) = some r → l.length = r.length ∧ (∀ (i : Nat) x, l[i]? = some x → ∃ y, r[i]? = some y ∧ f x = some y) := by
  intro l r h
  obtain ⟨h1, h2⟩ := optList_get _ _ h
  simp at h1
  refine ⟨h1, fun i x hi => ?_⟩
  have hlt : i < r.length := by rw [← h1]; exact (List.getElem?_eq_some_iff.1 hi).1
  refine ⟨r[i], List.getElem?_eq_getElem hlt, ?_⟩
  have := h2 i r[i] (List.getElem?_eq_getElem hlt)
  simpa [hi] using this

structure DOK (ops : Array Oper) (l : List SO) : Prop where
  back : ∀ (j : Nat) p e, ops[j]? = some p → j < l.length → e ∈ p.after → Region.binds .any e = true → e.on < j
  read : ∀ (j i : Nat) o p t, l[j]? = some o → l[i]? = some p → t ∈ tmpsOf o → p.dst = some t → i ≠ j → if i < j then waits ops j i = true else waits ops i j = true
  guard : ∀ (j : Nat) o s b, l[j]? = some o → o.g = some (s, b) → ∃ i p, i < j ∧ l[i]? = some p ∧ p.dst = some s
  uniq : Uniq l

theorem drawOK_spec {ops : Array Oper} {l : List SO} (h : drawOK ops l = true) : DOK ops l := by
  unfold drawOK at h
  rw [List.all_eq_true] at h
  have key : ∀ (j : Nat) o, l[j]? = some o → _ := fun j o hj => by
    have := h j (List.mem_range.2 (List.getElem?_eq_some_iff.1 hj).1)
    rw [hj] at this
    simp only [Bool.and_eq_true] at this
    exact this
  refine ⟨fun j p e hp hjl he hb => ?_, fun j i o p t hj hi ht hd hne => ?_, fun j o s b hj hg => ?_, fun i j o p d hi hj ho hp => ?_⟩
  · have := (key j l[j] (List.getElem?_eq_getElem hjl)).1.1.1
    rw [hp] at this
    rw [List.all_eq_true] at this
    have := this e (Array.mem_toList_iff.2 he)
    simpa [hb] using this
  · have := (key j o hj).1.1.2
    rw [List.all_eq_true] at this
    have := this t ht
    rw [List.all_eq_true] at this
    have := this i (List.mem_range.2 (List.getElem?_eq_some_iff.1 hi).1)
    rw [hi] at this
    simp only [Bool.or_eq_true, beq_iff_eq, hd, bne_self_eq_false, Bool.false_eq_true, false_or] at this
    rcases this with h | h
    · exact (hne h).elim
    · split at h <;> rename_i hlt
      · rw [if_pos hlt]; exact h
      · rw [if_neg hlt]; exact h
  · have := (key j o hj).1.2
    rw [hg] at this
    rw [List.any_eq_true] at this
    obtain ⟨i, hi, h⟩ := this
    cases hp : l[i]? with
    | none => rw [hp] at h; cases h
    | some p => rw [hp] at h; exact ⟨i, p, List.mem_range.1 hi, hp, by simpa using h⟩
  · refine Classical.byContradiction fun hne => ?_
    have := (key j p hj).2
    rw [hp] at this
    rw [List.all_eq_true] at this
    have := this i (List.mem_range.2 (List.getElem?_eq_some_iff.1 hi).1)
    rw [hi] at this
    simp [ho] at this
    exact hne this

theorem waits_spec {ops : Array Oper} {j i : Nat} (h : waits ops j i = true) : ∃ o, ops[j]? = some o ∧ ∃ e ∈ o.after, Region.binds .any e = true ∧ e.on = i := by
  unfold waits at h
  cases ho : ops[j]? with
  | none => rw [ho] at h; cases h
  | some o =>
    rw [ho] at h
    rw [List.any_eq_true] at h
    obtain ⟨e, he, h⟩ := h
    simp only [Bool.and_eq_true, beq_iff_eq] at h
    exact ⟨o, rfl, e, Array.mem_toList_iff.1 he, h.1, h.2⟩

theorem dstep_gsl {o : SO} {x : LV} {F : Nat → Prop} (h : dstepVC P st o (fun y => y = x)) (hF : ∀ t, ∀ s ∈ gsl (look st.sl t), F s) (hg : ∀ s b, o.g = some (s, b) → F s) : ∀ s ∈ gsl x, F s := by
  obtain ⟨dst, op, g⟩ := o
  have hwrap : ∀ y, wrapG g y = x → (∀ s ∈ gsl y, F s) → ∀ s ∈ gsl x, F s := by
    intro y hy hgy s hs
    subst hy
    cases g with
    | none => exact hgy s hs
    | some p =>
      obtain ⟨gs, gb⟩ := p
      simp only [wrapG, gsl, List.mem_cons] at hs
      rcases hs with rfl | hs
      · exact hg s gb rfl
      · exact hgy s hs
  have hdc : ∀ {tb : List Blk} {f : FuncId} {ys : List LV} {c : Prop}, dcallVC P tb f ys c (fun r => wrapG g (.sv r) = x) → ∀ s ∈ gsl x, F s := by
    intro tb f ys c hd
    unfold dcallVC at hd
    split at hd
    · exact hd.elim
    · obtain ⟨_, r, _, _, h3⟩ := hd
      exact hwrap _ h3 (by simp [gsl])
  cases op with
  | pick c y z =>
    simp only [dstepVC, pickVC] at h
    split at h
    · exact hwrap _ h (by simp [gsl])
    · exact h.elim
  | call f ys => exact hdc h
  | callv y ys =>
    simp only [dstepVC] at h
    split at h
    · exact hdc h
    · exact h.elim
  | buildS e sz len z ps =>
    simp only [dstepVC] at h
    split at h
    · exact hwrap _ h (by simp [gsl])
    · exact h.elim
  | _ =>
    simp only [dstepVC] at h
    split at h
    · rename_i y ob hp
      refine hwrap _ h.2 (fun s hs => ?_)
      rcases gsl_pure hp with h0 | ⟨z, _, rfl⟩
      · rw [h0] at hs; simp at hs
      · exact gsl_unopt (gsl_ev hF z) s hs
    · exact h.elim

theorem stAt_gsl {ops : Array Oper} {l : List SO} {xs : List LV} (hok : DOK ops l) (hno : NoOpt st) (hx : ∀ (j : Nat) o x, l[j]? = some o → xs[j]? = some x → dstepVC P (stAt st l xs j) o (fun y => y = x)) :
    ∀ (j t : Nat), ∀ s ∈ gsl (look (stAt st l xs j).sl t), ∃ r o, r < j ∧ l[r]? = some o ∧ o.dst = some s
  | 0, t, s, hs => by
    have := hno t
    simp only [stAt] at hs
    rw [this] at hs
    simp at hs
  | j + 1, t, s, hs => by
    have ih := stAt_gsl hok hno hx j
    rw [stAt] at hs
    split at hs
    · rename_i o x ho hxj
      have hgx := dstep_gsl (F := fun s => ∃ r o, r < j ∧ l[r]? = some o ∧ o.dst = some s) (hx j o x ho hxj) ih (fun s b hsb => by
        obtain ⟨i, p, hi, hp, hd⟩ := hok.guard j o s b ho hsb
        exact ⟨i, p, hi, hp, hd⟩)
      have hmono : (∃ r o, r < j ∧ l[r]? = some o ∧ o.dst = some s) → ∃ r o, r < j + 1 ∧ l[r]? = some o ∧ o.dst = some s := fun ⟨r, o, h1, h2, h3⟩ => ⟨r, o, by omega, h2, h3⟩
      cases hd : o.dst with
      | none => rw [hd] at hs; exact hmono (ih t s hs)
      | some d =>
        rw [hd] at hs
        simp only [St.put, look] at hs
        split at hs
        · exact hmono (hgx s hs)
        · exact hmono (ih t s hs)
    · obtain ⟨r, o, h1, h2, h3⟩ := ih t s hs
      exact ⟨r, o, by omega, h2, h3⟩

/-- What has been done so far, in whatever order. -/
structure Done (N : Nat) (w0 : Base) (M0 : Nat → Prop) (L : Nat → Value) (ops : Array Oper) (l : List SO) (xs : List LV) (st : St) (listed : Array Bool) (sl : List (Nat × LV)) (a : Act) (w : World) : Prop where
  size : listed.size = ops.size
  closed : ∀ i, listed.getD i false = true → ∀ o, ops[i]? = some o → ∀ e ∈ o.after, Region.binds .any e = true → listed.getD e.on false = true
  yes : ∀ (i : Nat) o x t, listed.getD i false = true → l[i]? = some o → o.dst = some t → xs[i]? = some x → look sl t = x
  no : ∀ t, (∀ (i : Nat) o, listed.getD i false = true → l[i]? = some o → o.dst ≠ some t) → look sl t = look st.sl t
  rel : R N w0 M0 L ⟨sl, st.tb⟩ a w
  gs : ∀ t, ∀ s ∈ gsl (look sl t), ∃ i o, listed.getD i false = true ∧ l[i]? = some o ∧ o.dst = some s

theorem draw_any {ops : Array Oper} {l : List SO} {xs : List LV} {Q : Exit → Act → World → Prop} (hM0 : Safe w0 M0) (hl : optList (ops.toList.map (slimOper P N ops)) = some l) (hok : DOK ops l) (hno : NoOpt st)
    (hxl : xs.length = l.length) (hx : ∀ (j : Nat) o x, l[j]? = some o → xs[j]? = some x → dstepVC P (stAt st l xs j) o (fun y => y = x))
    (hQ : ∀ a w, R N w0 M0 L (stAt st l xs l.length) a w → Q .normal a w) :
    ∀ (fuel : Nat) (listed : Array Bool) (sl : List (Nat × LV)) (a : Act) (w : World) (rem : List Nat), rem.length ≤ fuel → (∀ i, i < ops.size → listed.getD i false = false → i ∈ rem) →
      Done N w0 M0 L ops l xs st listed sl a w → wpAny P .any ops Q fuel listed a w := by
  obtain ⟨hlen, hget⟩ := optList_map_get _ _ hl
  have hlen' : l.length = ops.size := by rw [← hlen]; simp
  -- all is done
  have fin : ∀ (listed : Array Bool) (sl : List (Nat × LV)) (a : Act) (w : World), (∀ i, i < ops.size → listed.getD i false = true) → Done N w0 M0 L ops l xs st listed sl a w → Q .normal a w := by
    intro listed sl a w hall hD
    refine hQ a w { inv := by rw [stAt_tb]; exact hD.rel.inv, size := hD.rel.size, defers := hD.rel.defers, slot := fun t => ?_ }
    rw [stAt_tb]
    have : look (stAt st l xs l.length).sl t = look sl t := by
      by_cases hw : ∃ (i : Nat) (o : SO), l[i]? = some o ∧ o.dst = some t
      · obtain ⟨i, o, hi, hd⟩ := hw
        have hil := (List.getElem?_eq_some_iff.1 hi).1
        have hxi : xs[i]? = some (xs[i]'(by omega)) := List.getElem?_eq_getElem (by omega)
        rw [stAt_yes l xs st hok.uniq hi hd hxi l.length hil, hD.yes i o _ t (hall i (by omega)) hi hd hxi]
      · rw [stAt_not l xs st t l.length (fun i o _ hi hd => hw ⟨i, o, hi, hd⟩), hD.no t (fun i o _ hi hd => hw ⟨i, o, hi, hd⟩)]
    rw [this]
    exact hD.rel.slot t
  -- where nothing is ready, all is done
  have none_ready : ∀ (listed : Array Bool), listed.size = ops.size → Region.ready .any ops listed = [] → ∀ i, i < ops.size → listed.getD i false = true := by
    intro listed hsz hr i
    induction i using Nat.strongRecOn with
    | _ i ih =>
      intro hi
      refine Classical.byContradiction fun hn => ?_
      have hno' : i ∈ Region.ready .any ops listed := by
        rw [mem_ready]
        refine ⟨?_, ops[i], by simp [hi], fun e he hb => ?_⟩
        · simp only [Bool.not_eq_true] at hn
          rw [Array.getD_eq_getD_getElem?] at hn ⊢
          have hlt : i < listed.size := by omega
          simp [hlt] at hn ⊢
          exact hn
        · have := hok.back i ops[i] e (by simp [hi]) (by omega) he hb
          exact ih e.on this (by omega)
      rw [hr] at hno'
      simp at hno'
  intro fuel
  induction fuel with
  | zero =>
    intro listed sl a w rem hrem hin hD
    have hall : ∀ i, i < ops.size → listed.getD i false = true := by
      intro i hi
      cases hc : listed.getD i false with
      | true => rfl
      | false =>
        have := hin i hi hc
        have hnil : rem = [] := List.eq_nil_of_length_eq_zero (by omega)
        rw [hnil] at this
        simp at this
    refine ⟨?_, fin listed sl a w hall hD⟩
    cases hr : Region.ready .any ops listed with
    | nil => rfl
    | cons j r =>
      have hj : j ∈ Region.ready .any ops listed := by rw [hr]; simp
      rw [mem_ready] at hj
      obtain ⟨h0, o, ho, _⟩ := hj
      have hlt := (Array.getElem?_eq_some_iff.1 ho).1
      have := hall j hlt
      rw [Array.getD_eq_getD_getElem?] at this h0
      have hlt' : j < listed.size := by rw [hD.size]; exact hlt
      simp [hlt'] at this h0
      rw [this] at h0
      cases h0
  | succ fuel ih =>
    intro listed sl a w rem hrem hin hD
    refine ⟨fun hr => fin listed sl a w (none_ready listed hD.size hr) hD, fun j hj => ?_⟩
    rw [mem_ready] at hj
    obtain ⟨hj0, o, ho, hedges⟩ := hj
    have hjlt := (Array.getElem?_eq_some_iff.1 ho).1
    have hjl : j < listed.size := by rw [hD.size]; exact hjlt
    have hjf : listed.getD j false = false := by
      rw [Array.getD_eq_getD_getElem?] at hj0 ⊢
      simp [hjl] at hj0 ⊢
      exact hj0
    obtain ⟨so, hso, hslim⟩ := hget j o (by simpa using ho)
    have hjL : j < l.length := by omega
    have hxj : xs[j]? = some (xs[j]'(by omega)) := List.getElem?_eq_getElem (by omega)
    generalize hxv : xs[j]'(by omega) = x at hxj
    have hstep := hx j so x hso hxj
    -- the slots that it looks at
    have hag : Agree (stAt st l xs j).sl sl (fun t => look (stAt st l xs j).sl t = look sl t) := by
      refine ⟨fun t h => h, fun t s b y ht hopt => ?_⟩
      have hl2 : look sl t = .opt s b y := by rw [← ht]; exact hopt
      obtain ⟨i, p, hpi, hpl, hpd⟩ := hD.gs t s (by rw [hl2]; simp [gsl])
      -- s is written by i, which is done; is i < j?
      have hxi : xs[i]? = some (xs[i]'(by have := (List.getElem?_eq_some_iff.1 hpl).1; omega)) := List.getElem?_eq_getElem _
      have hsl := hD.yes i p _ s hpi hpl hpd hxi
      obtain ⟨r, o2, hr, hlr, hdr⟩ := stAt_gsl hok hno hx j t s (by rw [hopt]; simp [gsl])
      have hir := hok.uniq i r p o2 s hpl hlr hpd hdr
      show look (stAt st l xs j).sl s = look sl s
      rw [stAt_yes l xs st hok.uniq hpl hpd hxi j (by omega), hsl]
    have hreads : ∀ t ∈ tmpsOf so, look (stAt st l xs j).sl t = look sl t := by
      intro t ht
      by_cases hw : ∃ (i : Nat) (p : SO), l[i]? = some p ∧ p.dst = some t
      · obtain ⟨i, p, hi, hd⟩ := hw
        have hxi : xs[i]? = some (xs[i]'(by have := (List.getElem?_eq_some_iff.1 hi).1; omega)) := List.getElem?_eq_getElem _
        have both_no : ¬ listed.getD i false = true → ¬ i < j → look (stAt st l xs j).sl t = look sl t := by
          intro h1 h2
          rw [stAt_not l xs st t j (fun i' o' hi' hl' hd' => h2 (by rw [hok.uniq i i' p o' t hi hl' hd hd']; exact hi')), hD.no t (fun i' o' hi' hl' hd' => h1 (by rw [hok.uniq i i' p o' t hi hl' hd hd']; exact hi'))]
        by_cases hij : i = j
        · subst hij
          exact both_no (by rw [hjf]; simp) (by omega)
        · have hrd := hok.read j i so p t hso hi ht hd hij
          split at hrd
          · rename_i hlt
            obtain ⟨o', ho', e, he, hb, hon⟩ := waits_spec hrd
            rw [ho] at ho'
            injection ho' with ho'
            subst ho'
            have hli := hedges e he hb
            rw [hon] at hli
            rw [stAt_yes l xs st hok.uniq hi hd hxi j hlt, hD.yes i p _ t hli hi hd hxi]
          · rename_i hge
            refine both_no (fun hli => ?_) hge
            obtain ⟨o', ho', e, he, hb, hon⟩ := waits_spec hrd
            have := hD.closed i hli o' ho' e he hb
            rw [hon, hjf] at this
            cases this
      · rw [stAt_not l xs st t j (fun i o _ hi hd => hw ⟨i, o, hi, hd⟩), hD.no t (fun i o _ hi hd => hw ⟨i, o, hi, hd⟩)]
    have hstep' : dstepVC P ⟨sl, st.tb⟩ so (fun y => y = x) := by
      have h1 : dstepVC P ⟨(stAt st l xs j).sl, st.tb⟩ so (fun y => y = x) := by
        have := stAt_tb l xs st j
        rw [← this]
        exact hstep
      exact dstep_congr hag hreads h1
    have hgw : ∀ s b, so.g = some (s, b) → ∃ i o, listed.getD i false = true ∧ l[i]? = some o ∧ o.dst = some s := by
      intro s b hsb
      obtain ⟨i, p, hi, hp, hd⟩ := hok.guard j so s b hso hsb
      have hrd := hok.read j i so p s hso hp (by simp [tmpsOf, hsb]) hd (by omega)
      rw [if_pos hi] at hrd
      obtain ⟨o', ho', e, he, hb, hon⟩ := waits_spec hrd
      rw [ho] at ho'
      injection ho' with ho'
      subst ho'
      have hli := hedges e he hb
      rw [hon] at hli
      exact ⟨i, p, hli, hp, hd⟩
    have hdst : o.dst = so.dst := by
      obtain ⟨s', g', rfl, _⟩ := slimOper_spec hslim
      rfl
    have hres := dstep_sound (F := fun s => ∃ i o, listed.getD i false = true ∧ l[i]? = some o ∧ o.dst = some s) (K' := wpAny P .any ops Q fuel (listed.setIfInBounds j true)) (Q := Q) hslim hD.rel hM0 hD.gs
      (fun k hk ⟨i, p, hi, hp, hd⟩ => by
        have := hok.uniq i j p so k hp hso hd hk
        subst this
        rw [hjf] at hi
        cases hi) hgw hstep' (fun a' w' hR' hF' => by
        have hset : ∀ i, (listed.setIfInBounds j true).getD i false = true ↔ (i = j ∨ listed.getD i false = true) := by
          intro i
          by_cases e : j = i
          · subst e; simp [hjl]
          · rw [getD_set_ne false e]
            exact ⟨.inr, fun h => h.resolve_left (fun h' => e h'.symm)⟩
        refine ih (listed.setIfInBounds j true) (St.put ⟨sl, st.tb⟩ so.dst x).sl a' w' (rem.erase j) ?_ ?_ ?_
        · have := hin j hjlt hjf
          rw [List.length_erase_of_mem this]
          omega
        · intro i hi hc
          have hne : i ≠ j := fun e => by
            have := (hset i).2 (.inl e)
            rw [hc] at this
            cases this
          rw [getD_set_ne false (Ne.symm hne)] at hc
          exact (List.mem_erase_of_ne hne).2 (hin i hi hc)
        · refine { size := by simp [hD.size], closed := ?_, yes := ?_, no := ?_, rel := ?_, gs := ?_ }
          · intro i hi o' ho' e he hb
            rcases (hset i).1 hi with rfl | hi
            · rw [ho] at ho'
              injection ho' with ho'
              subst ho'
              exact (hset _).2 (.inr (hedges e he hb))
            · exact (hset _).2 (.inr (hD.closed i hi o' ho' e he hb))
          · intro i p y t hi hp hd hy
            rcases (hset i).1 hi with rfl | hi
            · rw [hso] at hp
              injection hp with hp
              subst hp
              rw [hxj] at hy
              injection hy with hy
              subst hy
              simp [St.put, hd, look]
            · have hne : i ≠ j := fun e => by rw [e, hjf] at hi; cases hi
              have hyes := hD.yes i p y t hi hp hd hy
              cases hsd : so.dst with
              | none => simpa [St.put] using hyes
              | some d =>
                simp only [St.put, look]
                rw [if_neg (fun e => hne (hok.uniq i j p so t hp hso hd (by rw [hsd, e])))]
                exact hyes
          · intro t ht
            have hnj : so.dst ≠ some t := ht j so ((hset j).2 (.inl rfl)) hso
            have hold := hD.no t (fun i p hi hp => ht i p ((hset i).2 (.inr hi)) hp)
            cases hsd : so.dst with
            | none => simpa [St.put] using hold
            | some d =>
              simp only [St.put, look]
              rw [if_neg (fun e => hnj (by rw [hsd, e]))]
              exact hold
          · cases hsd : so.dst <;> (rw [hsd] at hR'; exact hR')
          · intro t s hs
            obtain ⟨i, p, hi, hp, hd⟩ := hF' t s hs
            exact ⟨i, p, (hset i).2 (.inr hi), hp, hd⟩)
    unfold wpOp
    rw [ho]
    simp only []
    split
    · rename_i hw
      rw [if_pos hw] at hres
      exact .inl hres
    · rename_i hw
      rw [if_neg hw] at hres
      exact hres

theorem draw_sound {ops : Array Oper} {l : List SO} {K : St → Prop} {Q : Exit → Act → World → Prop} {id : Nat} (hm : P.follows .mixedOrders = true) (hM0 : Safe w0 M0)
    (hl : optList (ops.toList.map (slimOper P N ops)) = some l) (hok : drawOK ops l = true) (hR : R N w0 M0 L st a w) (hno : NoOpt st) (h : drawVC P l st K)
    (hK : ∀ st' a' w', K st' → R N w0 M0 L st' a' w' → Q .normal a' w') : (Code.region id ops true).wp P Q a w := by
  obtain ⟨xs, h1, h2, h3⟩ := draw_ex l st K h
  refine wp_region_any hm (draw_any hM0 hl (drawOK_spec hok) hno h1 h2 (fun a w hR => hK _ a w h3 hR) ops.size _ st.sl a _ (List.range ops.size) (by simp) (fun i hi _ => List.mem_range.2 hi) ?_)
  have hrep : ∀ i, (Array.replicate ops.size false).getD i false = false := by
    intro i
    rw [Array.getD_eq_getD_getElem?, Array.getElem?_replicate]
    split <;> rfl
  have hbel : Below w.heap.size w { w with drawn := w.drawn + 1 } := ⟨rfl, rfl, rfl, Nat.le_refl _, fun _ _ => rfl⟩
  refine { size := by simp, closed := ?_, yes := ?_, no := fun _ _ => rfl, rel := hR.keep hbel, gs := ?_ }
  · intro i hi; rw [hrep] at hi; cases hi
  · intro i o x t hi; rw [hrep] at hi; cases hi
  · intro t s hs; rw [hno t] at hs; simp at hs

theorem look_keepSl (sl : List (Nat × LV)) (t : Nat) : ∀ ks : List Nat, look (keepSl ks sl) t = look sl t ∨ look (keepSl ks sl) t = .any
  | [] => .inr rfl
  | k :: ks => by
    simp only [keepSl, List.map_cons, look]
    split
    · rename_i e; subst e; exact .inl rfl
    · exact look_keepSl sl t ks

theorem Rel.weak (h : Rel N w0 M0 st a w) {st' : St} (hw : Weak st st') : Rel N w0 M0 st' a w := by
  induction hw with
  | refl => exact h
  | keep ks _ ih =>
    obtain ⟨L, hR, hno⟩ := ih
    rename_i st1 _
    refine ⟨L, { inv := hR.inv, size := hR.size, defers := hR.defers, slot := fun t => ?_ }, fun t => ?_⟩
    · rcases look_keepSl st1.sl t ks with e | e
      · simp only [e]; exact hR.slot t
      · simp only [e]; trivial
    · rcases look_keepSl st1.sl t ks with e | e
      · simp only [e]; exact hno t
      · simp only [e]; rfl
  | le _ hle ih =>
    obtain ⟨L, hR, _⟩ := ih
    exact hR.le hle

theorem slimOper_ung {ops : Array Oper} {o : Oper} {so : SO} {s : Nat} {b : Bool} (h : slimOper P N ops o = some so) (hg : so.g = some (s, b)) : slimG ops o.guard = some (some (s, b)) ∧ slimOper P N ops { o with guard := none } = some { so with g := none } := by
  unfold slimOper at h ⊢
  split at h
  · rename_i g hsg
    split at h
    · rename_i hd
      injection h with h
      subst h
      simp only at hg
      subst hg
      refine ⟨hsg, ?_⟩
      simp only [slimG]
      rw [if_pos hd]
    · cases h
  · cases h

theorem gOf_known {st : St} {a : Act} {w : World} {L : Nat → Value} {s : Nat} {b : Bool} (hR : R N w0 M0 L st a w) (h : look st.sl s = .sv (.bool b)) : gOf a s = some b := by
  have := hR.slot s
  rw [h] at this
  refine bool_gOf ?_
  generalize a.tmps.getD s undef = v at this
  cases this
  rfl

theorem all_sound {ops : Array Oper} {l : List SO} {K : St → Prop} {Q : Exit → Act → World → Prop} (hM0 : Safe w0 M0) (hl : optList (ops.toList.map (slimOper P N ops)) = some l)
    (hK : ∀ L' st' a' w', K st' → R N w0 M0 L' st' a' w' → Q .normal a' w') :
    ∀ (fuel : Nat) (listed : Array Bool) (done : List Nat) (L : Nat → Value) (st : St) (a : Act) (w : World), listed.size = ops.size → (∀ i, listed.getD i false = true ↔ i ∈ done) → R N w0 M0 L st a w → NoOpt st →
      allVC P l (aftOf ops) fuel done st K → wpAny P .any ops Q fuel listed a w := by
  obtain ⟨hlen, hget⟩ := optList_map_get _ _ hl
  have hlen' : l.length = ops.size := by rw [← hlen]; simp
  have hready : ∀ (listed : Array Bool) (done : List Nat), listed.size = ops.size → (∀ i, listed.getD i false = true ↔ i ∈ done) → ∀ j, j ∈ Region.ready .any ops listed ↔ j ∈ readyA (aftOf ops) done := by
    intro listed done hsz hd j
    rw [mem_ready, readyA, List.mem_filter, List.mem_range]
    simp only [aftOf, List.length_map, Array.length_toList, Bool.and_eq_true, Bool.not_eq_true', List.all_eq_true, List.contains_iff_mem, List.getElem?_map, Array.getElem?_toList]
    constructor
    · rintro ⟨h1, o, ho, h2⟩
      have hj := (Array.getElem?_eq_some_iff.1 ho).1
      refine ⟨hj, ?_, ?_⟩
      · cases hc : done.contains j with
        | false => rfl
        | true =>
          have := (hd j).2 (List.contains_iff_mem.1 hc)
          rw [Array.getD_eq_getD_getElem?] at this h1
          have hlt : j < listed.size := by omega
          simp [hlt] at this h1
          rw [this] at h1
          cases h1
      · rw [ho]
        intro i hi
        simp only [Option.map_some, Option.getD_some, List.mem_map, List.mem_filter] at hi
        obtain ⟨e, ⟨he, hb⟩, rfl⟩ := hi
        exact (hd _).1 (h2 e (by simpa using he) hb)
    · rintro ⟨hj, h1, h2⟩
      refine ⟨?_, ops[j], by simp [hj], fun e he hb => ?_⟩
      · rw [Array.getD_eq_getD_getElem?]
        have hlt : j < listed.size := by omega
        simp only [hlt, getElem?_pos, Option.getD_some]
        cases hc : listed[j] with
        | false => rfl
        | true =>
          have := (hd j).1 (by rw [Array.getD_eq_getD_getElem?]; simp [hlt, hc])
          rw [List.contains_iff_mem.2 this] at h1
          cases h1
      · refine (hd _).2 (h2 _ ?_)
        rw [Array.getElem?_eq_getElem hj]
        simp only [Option.map_some, Option.getD_some, List.mem_map, List.mem_filter]
        exact ⟨e, ⟨by simpa using he, hb⟩, rfl⟩
  have hnil : ∀ (listed : Array Bool) (done : List Nat), listed.size = ops.size → (∀ i, listed.getD i false = true ↔ i ∈ done) → (Region.ready .any ops listed = [] ↔ readyA (aftOf ops) done = []) := by
    intro listed done hsz hd
    simp only [List.eq_nil_iff_forall_not_mem]
    exact ⟨fun h j hj => h j ((hready listed done hsz hd j).2 hj), fun h j hj => h j ((hready listed done hsz hd j).1 hj)⟩
  intro fuel
  induction fuel with
  | zero =>
    intro listed done L st a w hsz hd hR hno h
    exact ⟨(hnil listed done hsz hd).2 h.1, hK L st a w h.2 hR⟩
  | succ fuel ih =>
    intro listed done L st a w hsz hd hR hno h
    refine ⟨fun h0 => hK L st a w (h.1 ((hnil listed done hsz hd).1 h0)) hR, fun j hj => ?_⟩
    have hj' := (hready listed done hsz hd j).1 hj
    rw [mem_ready] at hj
    obtain ⟨hjf, o, ho, _⟩ := hj
    have hjlt := (Array.getElem?_eq_some_iff.1 ho).1
    obtain ⟨so, hso, hslim⟩ := hget j o (by simpa using ho)
    have hstep := h.2 j hj' so hso
    have hnext : ∀ L' st' a' w', (∃ st1, Weak st' st1 ∧ allVC P l (aftOf ops) fuel (j :: done) st1 K) → R N w0 M0 L' st' a' w' → (∀ t, ∀ s ∈ gsl (look st'.sl t), False) → wpAny P .any ops Q fuel (listed.setIfInBounds j true) a' w' :=
      (fun L' st' a' w' hv hR' hF' => by
        obtain ⟨st1, hwk, hv⟩ := hv
        obtain ⟨L1, hR1, hno1⟩ := Rel.weak ⟨L', hR', fun t => List.eq_nil_iff_forall_not_mem.2 fun s hs => hF' t s hs⟩ hwk
        refine ih (listed.setIfInBounds j true) (j :: done) L1 st1 a' w' (by simp [hsz]) (fun i => ?_) hR1 hno1 hv
        by_cases e : j = i
        · subst e
          have hlt : j < listed.size := by omega
          simp [hlt]
        · rw [getD_set_ne false e, hd i]
          simp [Ne.symm e])
    have hres : if Region.wanted o (yielded ops a.tmps) then o.wp P a w (wpAny P .any ops Q fuel (listed.setIfInBounds j true)) Q else wpAny P .any ops Q fuel (listed.setIfInBounds j true) (a.put o.dst undef) w := by
      unfold UVC at hstep
      split at hstep
      · rename_i hgn
        exact gstep_sound (F := fun _ => False) (K' := wpAny P .any ops Q fuel (listed.setIfInBounds j true)) (Q := Q) hslim hR hM0 (fun t s hs => by rw [hno t] at hs; simp at hs) (fun _ _ h => h) (fun s b hsb => by rw [hgn] at hsb; cases hsb) hstep hnext
      · rename_i s b hgn
        obtain ⟨st1, hwk1, c, hlk, rfl, hstep⟩ := hstep
        obtain ⟨L, hR, hno⟩ := Rel.weak ⟨L, hR, hno⟩ hwk1
        obtain ⟨hsg, hslim'⟩ := slimOper_ung hslim hgn
        have hwt : Region.wanted o (yielded ops a.tmps) = true := (wanted_iff (a := a) hsg).2 (gOf_known hR hlk)
        have hr := gstep_sound (F := fun _ => False) (K' := wpAny P .any ops Q fuel (listed.setIfInBounds j true)) (Q := Q) hslim' hR hM0 (fun t s hs => by rw [hno t] at hs; simp at hs) (fun _ _ h => h) (fun s b hsb => by cases hsb) hstep hnext
        rw [if_pos (show Region.wanted ({ o with guard := none } : Oper) (yielded ops a.tmps) = true by simp [Region.wanted])] at hr
        rw [if_pos hwt]
        exact hr
    unfold wpOp
    rw [ho]
    simp only []
    split
    · rename_i hw
      rw [if_pos hw] at hres
      exact .inl hres
    · rename_i hw
      rw [if_neg hw] at hres
      exact hres


/-! Copies first. -/

def noPanic (Q : Exit → Act → World → Prop) (e : Exit) (a : Act) (w : World) : Prop :=
  match e with
  | .panic _ => False
  | e => Q e a w

theorem noPanic_le {Q : Exit → Act → World → Prop} : ∀ e a w, noPanic Q e a w → Q e a w := by
  intro e a w h
  unfold noPanic at h
  split at h
  · exact h.elim
  · exact h

theorem upon_monoQ {o : Oper} {Q Q' : Exit → Act → World → Prop} {K : Act → World → Prop} (hq : ∀ e a w, Q e a w → Q' e a w) {r : Result Next} (hh : o.upon P a K Q r) : o.upon P a K Q' r := by
  have hlo : LetsOut Q → LetsOut Q' := fun ⟨a, w, h⟩ => ⟨a, w, hq _ _ _ h⟩
  cases r with
  | ok n w' =>
    cases n <;> simp only [Oper.upon] at hh ⊢ <;>
      first
        | exact hh
        | exact Calls.mono hh (fun e w'' he => by cases e <;> first | exact he | exact hq _ _ _ he | exact hlo he)
  | halt x w' => cases x <;> simp only [Oper.upon] at hh ⊢ <;> first | exact hh | exact hq _ _ _ hh

theorem wpAny_monoQ {ops : Array Oper} {md : Region.Mode} {Q Q' : Exit → Act → World → Prop} (hq : ∀ e a w, Q e a w → Q' e a w) : ∀ (fuel : Nat) (listed : Array Bool) (a : Act) (w : World), wpAny P md ops Q fuel listed a w → wpAny P md ops Q' fuel listed a w
  | 0, _, _, _, h => ⟨h.1, hq _ _ _ h.2⟩
  | fuel + 1, listed, a, w, h => by
    refine ⟨fun h0 => hq _ _ _ (h.1 h0), fun i hi => ?_⟩
    have h1 := h.2 i hi
    have h2 : wpOp P ops Q i (wpAny P md ops Q' fuel (listed.setIfInBounds i true)) a w := wpOp_mono (fun a w h => wpAny_monoQ hq fuel _ a w h) h1
    unfold wpOp at h2 ⊢
    split
    · rename_i hn; rw [hn] at h2; exact h2
    · rename_i o ho
      rw [ho] at h2
      simp only at h2 ⊢
      split
      · rename_i hw
        rw [if_pos hw] at h2
        rcases h2 with h2 | ⟨h2, a', w', h3⟩
        · exact .inl (upon_monoQ hq h2)
        · exact .inr ⟨h2, a', w', hq _ _ _ h3⟩
      · rename_i hw
        rw [if_neg hw] at h2
        exact h2

def setAll (listed : Array Bool) : List Nat → Array Bool
  | [] => listed
  | i :: r => setAll (listed.setIfInBounds i true) r

theorem hoist_sound {fl : Bool} {ops : Array Oper} {l : List SO} {K : St → Prop} {Q : Exit → Act → World → Prop} (hM0 : Safe w0 M0) (hsel : Region.noSelect ops = true) (hl : optList (ops.toList.map (slimOper P N ops)) = some l) :
    ∀ (H : List Nat) (fuel : Nat) (listed : Array Bool) (L : Nat → Value) (st : St) (a : Act) (w : World), hoistOK P fl ops listed H = true → R N w0 M0 L st a w → NoOpt st → stepsVC P (H.filterMap fun j => l[j]?) st K →
      (∀ L' st' a', K st' → R N w0 M0 L' st' a' w → NoOpt st' → wpAny P .any ops (noPanic Q) fuel (setAll listed H) a' w) → wpAny P .any ops (noPanic Q) (fuel + H.length) listed a w := by
  obtain ⟨hlen, hget⟩ := optList_map_get _ _ hl
  intro H
  induction H with
  | nil => intro fuel listed L st a w _ hR hno h hk; exact hk L st a h hR hno
  | cons i H ih =>
    intro fuel listed L st a w hok hR hno h hk
    simp only [hoistOK, Bool.and_eq_true] at hok
    obtain ⟨hc, hok'⟩ := hok
    simp only [canHoist, Bool.and_eq_true] at hc
    obtain ⟨⟨hcopy, hfree⟩, hready⟩ := hc
    cases ho : ops[i]? with
    | none => rw [ho] at hcopy; cases hcopy
    | some o =>
      rw [ho] at hcopy
      obtain ⟨so, hso, hslim⟩ := hget i o (by simpa using ho)
      obtain ⟨s, g, rfl, hs, hg, hN⟩ := slimOper_spec hslim
      have hgn : o.guard = none := by
        simp only [isFree, isCopy, Bool.or_eq_true, Bool.and_eq_true, Option.isNone_iff_eq_none] at hcopy
        rcases hcopy with h | h
        · exact h.1
        · exact h.2.1
      have hg' : g = none := by
        rw [hgn] at hg
        simp [slimG] at hg
        exact hg.symm
      subst hg'
      have hf : (i :: H).filterMap (fun j => l[j]?) = ⟨o.dst, s, none⟩ :: H.filterMap (fun j => l[j]?) := by
        rw [List.filterMap_cons, hso]
      rw [hf] at h
      obtain ⟨st0, L0, h0, hR, hF0⟩ := GVC.elim (F := fun _ => False) h hM0 hR (fun t s hs => by rw [hno t] at hs; simp at hs)
      have hno : NoOpt st0 := fun t => List.eq_nil_iff_forall_not_mem.2 fun s hs => hF0 t s hs
      clear h
      revert hR hno h0
      generalize st0 = st
      generalize L0 = L
      intro h0 hR hno
      have hwd : Region.wanted o (yielded ops a.tmps) = true := by simp [Region.wanted, hgn]
      obtain ⟨x, v, hrun, hk1, hld, hgx⟩ : ∃ x v, (∀ w', (execOp a.eval o).run P w' = .ok (.value v) w') ∧ stepsVC P (H.filterMap fun j => l[j]?) (st.put o.dst x) K ∧ LDen (gOf a) w (mset M0 st.tb L) L st.tb x v ∧ ∀ s ∈ gsl x, False := by
        have hor : isCopy o = true ∨ (freeO P o.op = true ∧ (slimO P o.op).isSome = true) := by
          simp only [isFree, Bool.or_eq_true, Bool.and_eq_true] at hcopy
          rcases hcopy with h | h
          · exact .inl h
          · exact .inr h.2.2
        rcases hor with hcp | ⟨hfr, hsm⟩
        · obtain ⟨x, hx, hrun⟩ : ∃ x, s = .mov x ∧ ∀ w, (execOp a.eval o).run P w = .ok (.value (a.eval x)) w := by
            obtain ⟨dst, op, type, pos, after, guard⟩ := o
            simp only [isCopy] at hcp
            cases op with
            | move y =>
              rcases hs with hs | ⟨xs, rfl⟩
              · simp [slimO] at hs; exact ⟨y, hs.symm, fun _ => rfl⟩
              · exfalso
                simp only [slimOper, hg] at hslim
                split at hslim
                · simp [slimO] at hslim
                · cases hslim
            | assign y =>
              rcases hs with hs | ⟨xs, rfl⟩
              · simp [slimO] at hs; exact ⟨y, hs.symm, fun _ => rfl⟩
              · exfalso
                simp only [slimOper, hg] at hslim
                split at hslim
                · simp [slimO] at hslim
                · cases hslim
            | _ => simp at hcp
          subst hx
          refine ⟨_, _, hrun, ?_, hR.ev x, fun s hs => ?_⟩
          · simp only [stepVC, pureVC, pureOp] at h0
            exact h0.2
          · cases x with
            | tmp t => simp only [ev] at hs; rw [hno t] at hs; simp at hs
            | const v => cases v <;> simp [ev, constLV, gsl] at hs
            | _ => simp [ev, gsl] at hs
        · rcases hs with hs | ⟨xs, rfl⟩
          · obtain ⟨x, ob, hp, hob, hk2⟩ : ∃ x ob, pureOp P st.tb (ev st.sl) s = some (x, ob) ∧ ob ∧ stepsVC P (H.filterMap fun j => l[j]?) (st.put o.dst x) K := by
              have hsh := freeO_slim hs hfr
              rcases hsh with ⟨op, y, z, rfl⟩ | ⟨n, y, lo, hi, rfl⟩ | ⟨y, rfl⟩ <;>
              · simp only [stepVC, pureVC] at h0
                split at h0
                · rename_i x ob hp
                  exact ⟨x, ob, hp, h0.1, h0.2⟩
                · exact h0.elim
            obtain ⟨v, hr, hd, hg0⟩ := free_sound hs hfr hp hob hR.inv hM0 hR.ev
            exact ⟨x, v, hr, hk2, hd, fun s hs => by rw [gsl_optFree hg0] at hs; simp at hs⟩
          · exfalso
            obtain ⟨so, hso'⟩ := Option.isSome_iff_exists.1 hsm
            simp only [slimOper, hg] at hslim
            split at hslim
            · rw [hso'] at hslim
              injection hslim with hslim
              injection hslim with _ h2 _
              rw [Option.getD_some] at h2
              subst h2
              rcases freeO_slim hso' hfr with ⟨op, y, z, h⟩ | ⟨n, y, lo, hi, h⟩ | ⟨y, h⟩ <;> cases h
            · cases hslim
      obtain ⟨hR1, hF1⟩ := hR.put (F := fun _ => False) (fun t s hs => by rw [hno t] at hs; simp at hs) (fun k hk => ⟨hN k hk, fun h => h⟩) hld hgx
      have hno1 : NoOpt (st.put o.dst x) := fun t => List.eq_nil_iff_forall_not_mem.2 fun s hs => hF1 t s hs
      have := ih fuel (listed.setIfInBounds i true) L (st.put o.dst x) (a.put o.dst v) w hok' hR1 hno1 hk1 hk
      exact wpAny_take (v := v) (fuel := fuel + H.length) ho hsel hfree hready (fun c a w h => h) (.inl ⟨hwd, hrun⟩) this

theorem setAll_size : ∀ (H : List Nat) (listed : Array Bool), (setAll listed H).size = listed.size
  | [], _ => rfl
  | i :: r, listed => by rw [setAll, setAll_size r]; simp

theorem setAll_get {n : Nat} : ∀ (H : List Nat) (listed : Array Bool), listed.size = n → (∀ i ∈ H, i < n) → ∀ i, (setAll listed H).getD i false = true ↔ i ∈ H ∨ listed.getD i false = true
  | [], listed, _, _, i => by simp [setAll]
  | j :: r, listed, hsz, hlt, i => by
    rw [setAll, setAll_get (n := n) r (listed.setIfInBounds j true) (by simpa using hsz) (fun k hk => hlt k (by simp [hk]))]
    have hj : j < listed.size := by rw [hsz]; exact hlt j (by simp)
    by_cases e : j = i
    · subst e; simp [hj]
    · rw [getD_set_ne false e]
      simp only [List.mem_cons]
      constructor
      · rintro (h | h)
        · exact .inl (.inr h)
        · exact .inr h
      · rintro ((h | h) | h)
        · exact (e h.symm).elim
        · exact .inl h
        · exact .inr h

theorem hoistOK_lt {P : Program} {fl : Bool} {ops : Array Oper} : ∀ (H : List Nat) (listed : Array Bool), hoistOK P fl ops listed H = true → ∀ i ∈ H, i < ops.size
  | [], _, _, i, hi => by simp at hi
  | j :: r, listed, h, i, hi => by
    simp only [hoistOK, Bool.and_eq_true] at h
    rcases List.mem_cons.1 hi with rfl | hi
    · have := h.1
      simp only [canHoist, Bool.and_eq_true] at this
      cases ho : ops[i]? with
      | none => rw [ho] at this; simp at this
      | some o => exact (Array.getElem?_eq_some_iff.1 ho).1
    · exact hoistOK_lt r _ h.2 i hi

theorem hoists_length {P : Program} {fl : Bool} {ops : Array Oper} : ∀ (xs : List Nat) (listed : Array Bool), (hoists P fl ops listed xs).length ≤ xs.length
  | [], _ => Nat.le_refl _
  | i :: r, listed => by
    rw [hoists]
    split
    · exact Nat.succ_le_succ (hoists_length r _)
    · exact Nat.le_succ_of_le (hoists_length r _)

theorem hoistsOf_length (P : Program) (fl : Bool) (ops : Array Oper) : (hoistsOf P fl ops).length ≤ ops.size := by
  unfold hoistsOf
  split
  · have := hoists_length (P := P) (fl := fl) (ops := ops) (List.range ops.size) (Array.replicate ops.size false)
    simpa using this
  · simp
end
end Go.Sx

namespace Go.Sx
open Go Go.RowKit
set_option linter.unusedSimpArgs false

section
variable {P : Program} {N : Nat} {w0 : Base} {M0 : Nat → Prop} {L : Nat → Value} {st : St} {a : Act} {w : World}

theorem draw_pre {ops : Array Oper} {L0 l : List SO} {p : Nat} {xs : List LV} {Q : Exit → Act → World → Prop} (hM0 : Safe w0 M0) (hl : optList (ops.toList.map (slimOper P N ops)) = some L0) (hlp : l = L0.take p) (hp : p ≤ ops.size) (hcov : ∀ j, p ≤ j → ∀ (listed : Array Bool), (∀ i, listed.getD i false = true → ∀ o, ops[i]? = some o → ∀ e ∈ o.after, Region.binds .any e = true → listed.getD e.on false = true) → (∀ o, ops[j]? = some o → ∀ e ∈ o.after, Region.binds .any e = true → listed.getD e.on false = true) → j < ops.size → ∀ i, i < p → listed.getD i false = true) (hok : DOK ops l) (hno : NoOpt st)
    (hxl : xs.length = l.length) (hx : ∀ (j : Nat) o x, l[j]? = some o → xs[j]? = some x → dstepVC P (stAt st l xs j) o (fun y => y = x))
    (hQ : ∀ (fuel : Nat) (listed : Array Bool) a w, listed.size = ops.size → (∀ i, listed.getD i false = true ↔ i < p) → ops.size ≤ p + fuel → R N w0 M0 L (stAt st l xs p) a w → (∀ t, ∀ s ∈ gsl (look (stAt st l xs p).sl t), ∃ (i : Nat) (o : SO), l[i]? = some o ∧ o.dst = some s) → wpAny P .any ops Q fuel listed a w) :
    ∀ (fuel : Nat) (listed : Array Bool) (sl : List (Nat × LV)) (a : Act) (w : World) (rem : List Nat), rem.length + (ops.size - p) ≤ fuel → (∀ i, i < p → listed.getD i false = false → i ∈ rem) → (∀ i, p ≤ i → listed.getD i false = false) →
      Done N w0 M0 L ops l xs st listed sl a w → wpAny P .any ops Q fuel listed a w := by
  obtain ⟨hlen, hget0⟩ := optList_map_get _ _ hl
  have hlen0 : L0.length = ops.size := by rw [← hlen]; simp
  have hlen' : l.length = p := by rw [hlp, List.length_take, hlen0]; omega
  have hget : ∀ (i : Nat) x, i < p → ops.toList[i]? = some x → ∃ y, l[i]? = some y ∧ slimOper P N ops x = some y := by
    intro i x hi hx'
    obtain ⟨y, hy, hs⟩ := hget0 i x hx'
    exact ⟨y, by rw [hlp, List.getElem?_take_of_lt hi]; exact hy, hs⟩
  -- all is done
  have fin : ∀ (fuel : Nat) (listed : Array Bool) (sl : List (Nat × LV)) (a : Act) (w : World), ops.size ≤ p + fuel → (∀ i, p ≤ i → listed.getD i false = false) → (∀ i, i < p → listed.getD i false = true) → Done N w0 M0 L ops l xs st listed sl a w → wpAny P .any ops Q fuel listed a w := by
    intro fuel listed sl a w hfuel hrest hall hD
    have hlk : ∀ t, look (stAt st l xs p).sl t = look sl t := by
      intro t
      by_cases hw : ∃ (i : Nat) (o : SO), l[i]? = some o ∧ o.dst = some t
      · obtain ⟨i, o, hi, hd⟩ := hw
        have hil := (List.getElem?_eq_some_iff.1 hi).1
        have hxi : xs[i]? = some (xs[i]'(by omega)) := List.getElem?_eq_getElem (by omega)
        rw [stAt_yes l xs st hok.uniq hi hd hxi p (by omega), hD.yes i o _ t (hall i (by omega)) hi hd hxi]
      · rw [stAt_not l xs st t p (fun i o _ hi hd => hw ⟨i, o, hi, hd⟩), hD.no t (fun i o _ hi hd => hw ⟨i, o, hi, hd⟩)]
    refine hQ fuel listed a w hD.size (fun i => ⟨fun h => ?_, hall i⟩) hfuel { inv := by rw [stAt_tb]; exact hD.rel.inv, size := hD.rel.size, defers := hD.rel.defers, slot := fun t => ?_ } (fun t s hs => ?_)
    · rcases Nat.lt_or_ge i p with h1 | h1
      · exact h1
      · rw [hrest i h1] at h; cases h
    · rw [stAt_tb, hlk t]
      exact hD.rel.slot t
    · rw [hlk t] at hs
      obtain ⟨i, o, _, h1, h2⟩ := hD.gs t s hs
      exact ⟨i, o, h1, h2⟩
  -- where nothing is ready, all is done
  have none_ready : ∀ (listed : Array Bool), listed.size = ops.size → Region.ready .any ops listed = [] → ∀ i, i < p → listed.getD i false = true := by
    intro listed hsz hr i
    induction i using Nat.strongRecOn with
    | _ i ih =>
      intro hip
      have hi : i < ops.size := by omega
      refine Classical.byContradiction fun hn => ?_
      have hno' : i ∈ Region.ready .any ops listed := by
        rw [mem_ready]
        refine ⟨?_, ops[i], by simp [hi], fun e he hb => ?_⟩
        · simp only [Bool.not_eq_true] at hn
          rw [Array.getD_eq_getD_getElem?] at hn ⊢
          have hlt : i < listed.size := by omega
          simp [hlt] at hn ⊢
          exact hn
        · have := hok.back i ops[i] e (by simp [hi]) (by omega) he hb
          exact ih e.on this (by omega)
      rw [hr] at hno'
      simp at hno'
  intro fuel
  induction fuel with
  | zero =>
    intro listed sl a w rem hrem hin hrest hD
    have hall : ∀ i, i < p → listed.getD i false = true := by
      intro i hi
      cases hc : listed.getD i false with
      | true => rfl
      | false =>
        have := hin i hi hc
        have hnil : rem = [] := List.eq_nil_of_length_eq_zero (by omega)
        rw [hnil] at this
        simp at this
    exact fin 0 listed sl a w (by omega) hrest hall hD
  | succ fuel ih =>
    intro listed sl a w rem hrem hin hrest hD
    by_cases hall : ∀ i, i < p → listed.getD i false = true
    · exact fin (fuel + 1) listed sl a w (by omega) hrest hall hD
    refine ⟨fun hr => (hall (none_ready listed hD.size hr)).elim, fun j hj => ?_⟩
    rw [mem_ready] at hj
    obtain ⟨hj0, o, ho, hedges⟩ := hj
    have hjlt := (Array.getElem?_eq_some_iff.1 ho).1
    have hjl : j < listed.size := by rw [hD.size]; exact hjlt
    have hjf : listed.getD j false = false := by
      rw [Array.getD_eq_getD_getElem?] at hj0 ⊢
      simp [hjl] at hj0 ⊢
      exact hj0
    have hjp : j < p := by
      rcases Nat.lt_or_ge j p with h | h
      · exact h
      · exact (hall (hcov j h listed hD.closed (fun o' ho' e he hb => by
          rw [ho] at ho'
          injection ho' with ho'
          subst ho'
          exact hedges e he hb) hjlt)).elim
    obtain ⟨so, hso, hslim⟩ := hget j o hjp (by simpa using ho)
    have hjL : j < l.length := by omega
    have hxj : xs[j]? = some (xs[j]'(by omega)) := List.getElem?_eq_getElem (by omega)
    generalize hxv : xs[j]'(by omega) = x at hxj
    have hstep := hx j so x hso hxj
    -- the slots that it looks at
    have hag : Agree (stAt st l xs j).sl sl (fun t => look (stAt st l xs j).sl t = look sl t) := by
      refine ⟨fun t h => h, fun t s b y ht hopt => ?_⟩
      have hl2 : look sl t = .opt s b y := by rw [← ht]; exact hopt
      obtain ⟨i, p, hpi, hpl, hpd⟩ := hD.gs t s (by rw [hl2]; simp [gsl])
      -- s is written by i, which is done; is i < j?
      have hxi : xs[i]? = some (xs[i]'(by have := (List.getElem?_eq_some_iff.1 hpl).1; omega)) := List.getElem?_eq_getElem _
      have hsl := hD.yes i p _ s hpi hpl hpd hxi
      obtain ⟨r, o2, hr, hlr, hdr⟩ := stAt_gsl hok hno hx j t s (by rw [hopt]; simp [gsl])
      have hir := hok.uniq i r p o2 s hpl hlr hpd hdr
      show look (stAt st l xs j).sl s = look sl s
      rw [stAt_yes l xs st hok.uniq hpl hpd hxi j (by omega), hsl]
    have hreads : ∀ t ∈ tmpsOf so, look (stAt st l xs j).sl t = look sl t := by
      intro t ht
      by_cases hw : ∃ (i : Nat) (p : SO), l[i]? = some p ∧ p.dst = some t
      · obtain ⟨i, p, hi, hd⟩ := hw
        have hxi : xs[i]? = some (xs[i]'(by have := (List.getElem?_eq_some_iff.1 hi).1; omega)) := List.getElem?_eq_getElem _
        have both_no : ¬ listed.getD i false = true → ¬ i < j → look (stAt st l xs j).sl t = look sl t := by
          intro h1 h2
          rw [stAt_not l xs st t j (fun i' o' hi' hl' hd' => h2 (by rw [hok.uniq i i' p o' t hi hl' hd hd']; exact hi')), hD.no t (fun i' o' hi' hl' hd' => h1 (by rw [hok.uniq i i' p o' t hi hl' hd hd']; exact hi'))]
        by_cases hij : i = j
        · subst hij
          exact both_no (by rw [hjf]; simp) (by omega)
        · have hrd := hok.read j i so p t hso hi ht hd hij
          split at hrd
          · rename_i hlt
            obtain ⟨o', ho', e, he, hb, hon⟩ := waits_spec hrd
            rw [ho] at ho'
            injection ho' with ho'
            subst ho'
            have hli := hedges e he hb
            rw [hon] at hli
            rw [stAt_yes l xs st hok.uniq hi hd hxi j hlt, hD.yes i p _ t hli hi hd hxi]
          · rename_i hge
            refine both_no (fun hli => ?_) hge
            obtain ⟨o', ho', e, he, hb, hon⟩ := waits_spec hrd
            have := hD.closed i hli o' ho' e he hb
            rw [hon, hjf] at this
            cases this
      · rw [stAt_not l xs st t j (fun i o _ hi hd => hw ⟨i, o, hi, hd⟩), hD.no t (fun i o _ hi hd => hw ⟨i, o, hi, hd⟩)]
    have hstep' : dstepVC P ⟨sl, st.tb⟩ so (fun y => y = x) := by
      have h1 : dstepVC P ⟨(stAt st l xs j).sl, st.tb⟩ so (fun y => y = x) := by
        have := stAt_tb l xs st j
        rw [← this]
        exact hstep
      exact dstep_congr hag hreads h1
    have hgw : ∀ s b, so.g = some (s, b) → ∃ i o, listed.getD i false = true ∧ l[i]? = some o ∧ o.dst = some s := by
      intro s b hsb
      obtain ⟨i, p, hi, hp, hd⟩ := hok.guard j so s b hso hsb
      have hrd := hok.read j i so p s hso hp (by simp [tmpsOf, hsb]) hd (by omega)
      rw [if_pos hi] at hrd
      obtain ⟨o', ho', e, he, hb, hon⟩ := waits_spec hrd
      rw [ho] at ho'
      injection ho' with ho'
      subst ho'
      have hli := hedges e he hb
      rw [hon] at hli
      exact ⟨i, p, hli, hp, hd⟩
    have hdst : o.dst = so.dst := by
      obtain ⟨s', g', rfl, _⟩ := slimOper_spec hslim
      rfl
    have hres := dstep_sound (F := fun s => ∃ i o, listed.getD i false = true ∧ l[i]? = some o ∧ o.dst = some s) (K' := wpAny P .any ops Q fuel (listed.setIfInBounds j true)) (Q := Q) hslim hD.rel hM0 hD.gs
      (fun k hk ⟨i, p, hi, hp, hd⟩ => by
        have := hok.uniq i j p so k hp hso hd hk
        subst this
        rw [hjf] at hi
        cases hi) hgw hstep' (fun a' w' hR' hF' => by
        have hset : ∀ i, (listed.setIfInBounds j true).getD i false = true ↔ (i = j ∨ listed.getD i false = true) := by
          intro i
          by_cases e : j = i
          · subst e; simp [hjl]
          · rw [getD_set_ne false e]
            exact ⟨.inr, fun h => h.resolve_left (fun h' => e h'.symm)⟩
        refine ih (listed.setIfInBounds j true) (St.put ⟨sl, st.tb⟩ so.dst x).sl a' w' (rem.erase j) ?_ ?_ ?_ ?_
        · have := hin j hjp hjf
          rw [List.length_erase_of_mem this]
          have := List.length_pos_of_mem this
          omega
        · intro i hi hc
          have hne : i ≠ j := fun e => by
            have := (hset i).2 (.inl e)
            rw [hc] at this
            cases this
          rw [getD_set_ne false (Ne.symm hne)] at hc
          exact (List.mem_erase_of_ne hne).2 (hin i hi hc)
        · intro i hi
          rw [getD_set_ne false (by omega)]
          exact hrest i hi
        · refine { size := by simp [hD.size], closed := ?_, yes := ?_, no := ?_, rel := ?_, gs := ?_ }
          · intro i hi o' ho' e he hb
            rcases (hset i).1 hi with rfl | hi
            · rw [ho] at ho'
              injection ho' with ho'
              subst ho'
              exact (hset _).2 (.inr (hedges e he hb))
            · exact (hset _).2 (.inr (hD.closed i hi o' ho' e he hb))
          · intro i p y t hi hp hd hy
            rcases (hset i).1 hi with rfl | hi
            · rw [hso] at hp
              injection hp with hp
              subst hp
              rw [hxj] at hy
              injection hy with hy
              subst hy
              simp [St.put, hd, look]
            · have hne : i ≠ j := fun e => by rw [e, hjf] at hi; cases hi
              have hyes := hD.yes i p y t hi hp hd hy
              cases hsd : so.dst with
              | none => simpa [St.put] using hyes
              | some d =>
                simp only [St.put, look]
                rw [if_neg (fun e => hne (hok.uniq i j p so t hp hso hd (by rw [hsd, e])))]
                exact hyes
          · intro t ht
            have hnj : so.dst ≠ some t := ht j so ((hset j).2 (.inl rfl)) hso
            have hold := hD.no t (fun i p hi hp => ht i p ((hset i).2 (.inr hi)) hp)
            cases hsd : so.dst with
            | none => simpa [St.put] using hold
            | some d =>
              simp only [St.put, look]
              rw [if_neg (fun e => hnj (by rw [hsd, e]))]
              exact hold
          · cases hsd : so.dst <;> (rw [hsd] at hR'; exact hR')
          · intro t s hs
            obtain ⟨i, p, hi, hp, hd⟩ := hF' t s hs
            exact ⟨i, p, (hset i).2 (.inr hi), hp, hd⟩)
    unfold wpOp
    rw [ho]
    simp only []
    split
    · rename_i hw
      rw [if_pos hw] at hres
      exact .inl hres
    · rename_i hw
      rw [if_neg hw] at hres
      exact hres


theorem mem_addNew {x : Nat} : ∀ (l acc : List Nat), x ∈ addNew acc l → x ∈ acc ∨ x ∈ l
  | [], _, h => .inl h
  | y :: r, acc, h => by
    simp only [addNew] at h
    rcases mem_addNew r _ h with h | h
    · split at h
      · exact .inl h
      · rcases List.mem_cons.1 h with h | h
        · exact .inr (by simp [h])
        · exact .inl h
    · exact .inr (by simp [h])

theorem mem_direct {ops : Array Oper} {j i : Nat} (h : i ∈ direct ops j) : ∃ o, ops[j]? = some o ∧ ∃ e ∈ o.after, Region.binds .any e = true ∧ e.on = i := by
  unfold direct at h
  split at h
  · rename_i o ho
    simp only [List.mem_map, List.mem_filter] at h
    obtain ⟨e, ⟨he, hb⟩, rfl⟩ := h
    exact ⟨o, ho, e, by simpa using he, hb, rfl⟩
  · simp at h

theorem clos_listed {ops : Array Oper} {listed : Array Bool} (hc : ∀ i, listed.getD i false = true → ∀ o, ops[i]? = some o → ∀ e ∈ o.after, Region.binds .any e = true → listed.getD e.on false = true) :
    ∀ (n : Nat) (s : List Nat), (∀ i ∈ s, listed.getD i false = true) → ∀ i ∈ clos ops n s, listed.getD i false = true
  | 0, _, h => h
  | n + 1, s, h => clos_listed hc n _ fun i hi => by
    rcases mem_addNew _ _ hi with hi | hi
    · exact h i hi
    · obtain ⟨j, hj, hi⟩ := List.mem_flatMap.1 hi
      obtain ⟨o, ho, e, he, hb, rfl⟩ := mem_direct hi
      exact hc j (h j hj) o ho e he hb

structure TOK (ops : Array Oper) (p : Nat) : Prop where
  back : ∀ (j : Nat) o e, p ≤ j → ops[j]? = some o → e ∈ o.after → Region.binds .any e = true → e.on < j
  cov : ∀ j, p ≤ j → ∀ (listed : Array Bool), (∀ i, listed.getD i false = true → ∀ o, ops[i]? = some o → ∀ e ∈ o.after, Region.binds .any e = true → listed.getD e.on false = true) →
    (∀ o, ops[j]? = some o → ∀ e ∈ o.after, Region.binds .any e = true → listed.getD e.on false = true) → j < ops.size → ∀ i, i < j → listed.getD i false = true

theorem tailOK_spec {ops : Array Oper} {p : Nat} (h : tailOK ops p = true) : TOK ops p := by
  unfold tailOK at h
  rw [List.all_eq_true] at h
  refine ⟨fun j o e hpj ho he hb => ?_, fun j hpj listed hc hj hlt i hi => ?_⟩
  · have hlt := (Array.getElem?_eq_some_iff.1 ho).1
    have := h j (List.mem_range.2 hlt)
    simp only [Bool.or_eq_true, decide_eq_true_eq, Bool.and_eq_true, List.all_eq_true] at this
    rcases this with h1 | ⟨h1, _⟩
    · omega
    · refine h1 e.on ?_
      unfold direct
      rw [ho]
      simp only [List.mem_map, List.mem_filter]
      exact ⟨e, ⟨by simpa using he, hb⟩, rfl⟩
  · have := h j (List.mem_range.2 hlt)
    simp only [Bool.or_eq_true, decide_eq_true_eq, Bool.and_eq_true, List.all_eq_true] at this
    rcases this with h1 | ⟨_, h1⟩
    · omega
    · have hm := List.contains_iff_mem.1 (h1 i (List.mem_range.2 hi))
      refine clos_listed hc 4 _ (fun k hk => ?_) i hm
      obtain ⟨o, ho, e, he, hb, rfl⟩ := mem_direct hk
      exact hj o ho e he hb

theorem uniqDst_spec {l : List SO} (h : uniqDst l = true) : Uniq l := by
  intro i j o p d hi hj hd hd'
  unfold uniqDst at h
  rw [List.all_eq_true] at h
  have h1 := h i (List.mem_range.2 (List.getElem?_eq_some_iff.1 hi).1)
  rw [hi] at h1
  simp only [hd] at h1
  rw [List.all_eq_true] at h1
  have h2 := h1 j (List.mem_range.2 (List.getElem?_eq_some_iff.1 hj).1)
  rw [hj] at h2
  simp only [hd', Bool.or_eq_true, beq_iff_eq, bne_self_eq_false, Bool.false_eq_true, or_false] at h2
  exact h2.symm

theorem suf_sound {ops : Array Oper} {l : List SO} {p : Nat} {K : St → Prop} {Q : Exit → Act → World → Prop} (hM0 : Safe w0 M0) (hl : optList (ops.toList.map (slimOper P N ops)) = some l) (hg : noG (l.drop p) = true) (hT : TOK ops p) (hB : ∀ (j : Nat) o e, ops[j]? = some o → e ∈ o.after → Region.binds .any e = true → e.on < j)
    (hK : ∀ L' st' a' w', K st' → R N w0 M0 L' st' a' w' → Q .normal a' w') :
    ∀ (fuel k : Nat) (listed : Array Bool) (L : Nat → Value) (st : St) (a : Act) (w : World), p ≤ k → listed.size = ops.size → (∀ i, listed.getD i false = true ↔ i < k) → ops.size ≤ k + fuel → k ≤ ops.size → R N w0 M0 L st a w →
      (∀ t, ∀ s ∈ gsl (look st.sl t), s ∉ dsts (l.drop k)) → stepsVC P (l.drop k) st K → wpAny P .any ops Q fuel listed a w := by
  obtain ⟨hlen, hget⟩ := optList_map_get _ _ hl
  have hlen' : l.length = ops.size := by rw [← hlen]; simp
  have hready : ∀ (k : Nat) (listed : Array Bool), p ≤ k → listed.size = ops.size → (∀ i, listed.getD i false = true ↔ i < k) → ∀ j, j ∈ Region.ready .any ops listed ↔ (j = k ∧ k < ops.size) := by
    intro k listed hpk hsz hli j
    rw [mem_ready]
    constructor
    · rintro ⟨h1, o, ho, h2⟩
      have hj := (Array.getElem?_eq_some_iff.1 ho).1
      have hjk : k ≤ j := by
        rcases Nat.lt_or_ge j k with h | h
        · have := (hli j).2 h
          rw [Array.getD_eq_getD_getElem?] at this h1
          have hlt : j < listed.size := by omega
          simp [hlt] at this h1
          rw [this] at h1
          cases h1
        · exact h
      have hcl : ∀ i, listed.getD i false = true → ∀ o, ops[i]? = some o → ∀ e ∈ o.after, Region.binds .any e = true → listed.getD e.on false = true := by
        intro i hi o ho e he hb
        have := hB i o e ho he hb
        have := (hli i).1 hi
        exact (hli _).2 (by omega)
      have := hT.cov j (by omega) listed hcl (fun o' ho' e he hb => by
        rw [ho] at ho'; injection ho' with ho'; subst ho'; exact h2 e he hb) hj
      rcases Nat.lt_or_ge k j with h | h
      · have := (hli k).1 (this k h); omega
      · exact ⟨by omega, by omega⟩
    · rintro ⟨rfl, hj⟩
      refine ⟨?_, ops[j], by simp [hj], fun e he hb => ?_⟩
      · rw [Array.getD_eq_getD_getElem?]
        have hlt : j < listed.size := by omega
        simp only [hlt, getElem?_pos, Option.getD_some]
        cases hc : listed[j] with
        | false => rfl
        | true =>
          have := (hli j).1 (by rw [Array.getD_eq_getD_getElem?]; simp [hlt, hc])
          omega
      · exact (hli _).2 (hT.back j _ e hpk (by simp [hj]) he hb)
  intro fuel
  induction fuel with
  | zero =>
    intro k listed L st a w hpk hsz hli hfu hk hR hF h
    have hkk : k = ops.size := by omega
    refine ⟨?_, ?_⟩
    · cases hr : Region.ready .any ops listed with
      | nil => rfl
      | cons j r =>
        have hj : j ∈ Region.ready .any ops listed := by rw [hr]; simp
        have := (hready k listed hpk hsz hli j).1 hj
        omega
    · rw [List.drop_of_length_le (by omega)] at h
      exact hK L st a w h hR
  | succ fuel ih =>
    intro k listed L st a w hpk hsz hli hfu hk hR hF h
    refine ⟨fun h0 => ?_, fun j hj => ?_⟩
    · have hkk : k = ops.size := by
        rcases Nat.lt_or_ge k ops.size with h1 | h1
        · have := (hready k listed hpk hsz hli k).2 ⟨rfl, h1⟩
          rw [h0] at this
          simp at this
        · omega
      rw [List.drop_of_length_le (by omega)] at h
      exact hK L st a w h hR
    · obtain ⟨rfl, hjlt⟩ := (hready k listed hpk hsz hli j).1 hj
      have ho : ops[j]? = some ops[j] := by simp [hjlt]
      generalize ops[j] = o at ho
      obtain ⟨so, hso, hslim⟩ := hget j o (by simpa using ho)
      have hdrop : l.drop j = so :: l.drop (j + 1) := by
        have hjl : j < l.length := by omega
        rw [List.drop_eq_getElem_cons hjl]
        rw [List.getElem?_eq_getElem hjl] at hso
        injection hso with hso
        rw [hso]
      have hgn : so.g = none := by
        have := (List.all_eq_true.1 hg) so (by
          have : so ∈ l.drop j := by rw [hdrop]; simp
          have h2 : l.drop j = (l.drop p).drop (j - p) := by rw [List.drop_drop]; congr 1; omega
          rw [h2] at this
          exact List.mem_of_mem_drop this)
        simpa using this
      rw [hdrop] at h hF
      have hF' : ∀ t, ∀ s ∈ gsl (look st.sl t), s ∉ dsts (l.drop (j + 1)) ∧ so.dst ≠ some s := by
        intro t s hs
        have := hF t s hs
        simp only [dsts] at this
        cases hd : so.dst with
        | none => rw [hd] at this; exact ⟨this, by simp⟩
        | some d =>
          rw [hd] at this
          simp only [List.mem_cons, not_or] at this
          exact ⟨this.2, by simp; exact fun e => this.1 e.symm⟩
      have hres := gstep_sound (F := fun s => s ∉ dsts (l.drop (j + 1)) ∧ so.dst ≠ some s) (K' := wpAny P .any ops Q fuel (listed.setIfInBounds j true)) (Q := Q) hslim hR hM0 hF' (fun k hk h => h.2 hk) (fun s b hsb => by rw [hgn] at hsb; cases hsb) h
        (fun L' st' a' w' hv hR' hF2 => by
          refine ih (j + 1) (listed.setIfInBounds j true) L' st' a' w' (by omega) (by simp [hsz]) (fun i => ?_) (by omega) (by omega) hR' (fun t s hs => (hF2 t s hs).1) hv
          by_cases e : j = i
          · subst e
            have hlt : j < listed.size := by omega
            simp [hlt]
          · rw [getD_set_ne false e, hli i]
            omega)
      unfold wpOp
      rw [ho]
      simp only []
      split
      · rename_i hw
        rw [if_pos hw] at hres
        exact .inl hres
      · rename_i hw
        rw [if_neg hw] at hres
        exact hres

theorem mem_dsts {d : Nat} : ∀ {l : List SO}, d ∈ dsts l → ∃ (i : Nat) (o : SO), l[i]? = some o ∧ o.dst = some d
  | [], h => by simp [dsts] at h
  | o :: r, h => by
    simp only [dsts] at h
    cases hd : o.dst with
    | none =>
      rw [hd] at h
      obtain ⟨i, p, h1, h2⟩ := mem_dsts h
      exact ⟨i + 1, p, by simpa using h1, h2⟩
    | some e =>
      rw [hd] at h
      rcases List.mem_cons.1 h with rfl | h
      · exact ⟨0, o, by simp, hd⟩
      · obtain ⟨i, p, h1, h2⟩ := mem_dsts h
        exact ⟨i + 1, p, by simpa using h1, h2⟩

theorem tail_sound {ops : Array Oper} {l : List SO} {K : St → Prop} {Q : Exit → Act → World → Prop} {id : Nat} (hm : P.follows .mixedOrders = true) (hM0 : Safe w0 M0)
    (hl : optList (ops.toList.map (slimOper P N ops)) = some l) {hv : List Nat} (hp : preOK hv ops l = true) (hR : R N w0 M0 L st a w) (hno : NoOpt st)
    (h : drawVC P (l.take (firstHeavy hv l)) st fun st1 => stepsVC P (l.drop (firstHeavy hv l)) st1 K)
    (hK : ∀ L' st' a' w', K st' → R N w0 M0 L' st' a' w' → Q .normal a' w') : (Code.region id ops true).wp P Q a w := by
  unfold preOK at hp
  simp only [Bool.and_eq_true, decide_eq_true_eq] at hp
  generalize firstHeavy hv l = p at *
  obtain ⟨⟨⟨⟨hps, hg⟩, hdr⟩, htl⟩, hun⟩ := hp
  have hok := drawOK_spec hdr
  have hT := tailOK_spec htl
  have hU := uniqDst_spec hun
  have hlen' : l.length = ops.size := by rw [← (optList_map_get _ _ hl).1]; simp
  have hltake : (l.take p).length = p := by rw [List.length_take]; omega
  have hB : ∀ (j : Nat) o e, ops[j]? = some o → e ∈ o.after → Region.binds .any e = true → e.on < j := by
    intro j o e ho he hb
    rcases Nat.lt_or_ge j p with h1 | h1
    · exact hok.back j o e ho (by omega) he hb
    · exact hT.back j o e h1 ho he hb
  obtain ⟨xs, h1, h2, h3⟩ := draw_ex (l.take p) st _ h
  rw [hltake] at h3
  have hbel : Below w.heap.size w { w with drawn := w.drawn + 1 } := ⟨rfl, rfl, rfl, Nat.le_refl _, fun _ _ => rfl⟩
  have hrep : ∀ i, (Array.replicate ops.size false).getD i false = false := by
    intro i
    rw [Array.getD_eq_getD_getElem?, Array.getElem?_replicate]
    split <;> rfl
  refine wp_region_any hm (draw_pre (L := L) hM0 hl rfl hps (fun j hpj listed hc hj hlt i hi => hT.cov j hpj listed hc hj hlt i (by omega)) hok hno h1 h2 ?_ ops.size _ st.sl a _ (List.range p) (by simp; omega) (fun i hi _ => List.mem_range.2 hi) (fun i _ => hrep i) ?_)
  · intro fuel listed a' w' hsz hli hfu hR' hgs
    refine suf_sound hM0 hl hg hT hB hK fuel p listed L _ a' w' (Nat.le_refl _) hsz hli hfu hps hR' (fun t s hs hmem => ?_) h3
    obtain ⟨i, o, hi, hd⟩ := hgs t s hs
    obtain ⟨i', o', hi', hd'⟩ := mem_dsts hmem
    have hil := (List.getElem?_eq_some_iff.1 hi).1
    rw [List.getElem?_take_of_lt (by omega)] at hi
    rw [List.getElem?_drop] at hi'
    have := hU i (p + i') o o' s hi hi' hd hd'
    omega
  · refine { size := by simp, closed := ?_, yes := ?_, no := fun _ _ => rfl, rel := hR.keep hbel, gs := ?_ }
    · intro i hi; rw [hrep] at hi; cases hi
    · intro i o x t hi; rw [hrep] at hi; cases hi
    · intro t s hs; rw [hno t] at hs; simp at hs

theorem rel_of_at {st : St} {a : Act} {w : World} (h : AtCode N w0 M0 st a w) : Rel N w0 M0 st a w := by
  obtain ⟨L, h1, h2, ⟨h3, h4⟩, h5⟩ := h
  exact ⟨L, { inv := h3, size := h1, defers := h2, slot := h4 }, fun t => gsl_optFree (h5 t)⟩

theorem at_of_rel {st : St} {a : Act} {w : World} (h : Rel N w0 M0 st a w) : AtCode N w0 M0 st a w := by
  obtain ⟨L, h, hno⟩ := h
  refine ⟨L, h.size, h.defers, ⟨h.inv, h.slot⟩, fun t => ?_⟩
  have := hno t
  cases hx : look st.sl t <;> first | rfl | (rw [hx] at this; simp [gsl] at this)

theorem raw_sound {c : Code} {Q : Exit → St → Prop} {st : St} {a : Act} {w : World} (hM0 : Safe w0 M0) (hR : Rel N w0 M0 st a w) (h : rawVC P c st Q) : c.wp P (fun e a' w' => ∃ st', Q e st' ∧ Rel N w0 M0 st' a' w') a w :=
  wp_mono (h N w0 M0 a w hM0 (at_of_rel hR)) fun _ _ _ ⟨st', hq, hr⟩ => ⟨st', hq, rel_of_at hr⟩

theorem exec_sound {hv : List Nat × List Nat} (hm : P.follows .mixedOrders = true) (hM0 : Safe w0 M0) : ∀ (c : Code) (s : SC), slim P hv N c = some s → ∀ (Q : Exit → St → Prop) (st : St) (a : Act) (w : World), Rel N w0 M0 st a w → exec P s st Q →
    c.wp P (fun e a' w' => ∃ st', Q e st' ∧ Rel N w0 M0 st' a' w') a w
  | .skip, s, hs, Q, st, a, w, hR, h => by simp [slim] at hs; subst hs; exact wp_skip ⟨st, h, hR⟩
  | .ret, s, hs, Q, st, a, w, hR, h => by simp [slim] at hs; subst hs; exact wp_ret ⟨st, h, hR⟩
  | .exit id, s, hs, Q, st, a, w, hR, h => by simp [slim] at hs; subst hs; exact wp_exit ⟨st, h, hR⟩
  | .region id ops draw, s, hs, Q, st, a, w, ⟨L, hR, hno⟩, h => by
    simp only [slim] at hs
    split at hs
    · rename_i l hl
      split at hs
      · rename_i hA
        injection hs with hs
        subst hs
        simp only [Bool.and_eq_true] at hA
        obtain ⟨⟨rfl, _⟩, hp⟩ := hA
        exact tail_sound hm hM0 hl hp hR hno h fun L' st' a' w' hk hR' => ⟨_, hk, L', hR'.clean⟩
      split at hs
      · rename_i hA
        injection hs with hs
        subst hs
        simp only [Bool.and_eq_true] at hA
        obtain ⟨⟨rfl, _⟩, hg⟩ := hA
        have hrep : ∀ i, (Array.replicate ops.size false).getD i false = false := by
          intro i
          rw [Array.getD_eq_getD_getElem?, Array.getElem?_replicate]
          split <;> rfl
        have hbel : Below w.heap.size w { w with drawn := w.drawn + 1 } := ⟨rfl, rfl, rfl, Nat.le_refl _, fun _ _ => rfl⟩
        have hlen' : l.length = ops.size := by rw [← (optList_map_get _ _ hl).1]; simp
        simp only [exec] at h
        refine wp_region_any hm (wpAny_monoQ noPanic_le _ _ _ _ ?_)
        have hho : hoistsOf P (hv.1.contains 1000000) ops = [] ∨ (Region.noSelect ops = true ∧ hoistOK P (hv.1.contains 1000000) ops (Array.replicate ops.size false) (hoistsOf P (hv.1.contains 1000000) ops) = true) := by
          unfold hoistsOf
          split
          · rename_i hc
            simp only [Bool.and_eq_true] at hc
            exact .inr hc
          · exact .inl rfl
        have hgo : ∀ (fuel : Nat) (listed : Array Bool) (L1 : Nat → Value) (st1 : St) (a1 : Act) (w1 : World), listed.size = ops.size → (∀ i, listed.getD i false = true ↔ i ∈ (hoistsOf P (hv.1.contains 1000000) ops).reverse) → R N w0 M0 L1 st1 a1 w1 → NoOpt st1 →
            (∃ st2, Weak st1 st2 ∧ allVC P l (aftOf ops) fuel (hoistsOf P (hv.1.contains 1000000) ops).reverse st2 fun st' => Q .normal { st' with sl := cleanSl st'.sl }) → wpAny P .any ops (noPanic fun e a' w' => ∃ st', Q e st' ∧ Rel N w0 M0 st' a' w') fuel listed a1 w1 := by
          intro fuel listed L1 st1 a1 w1 hsz hli hR1 hno1 ⟨st2, hwk, hv⟩
          obtain ⟨L2, hR2, hno2⟩ := Rel.weak ⟨L1, hR1, hno1⟩ hwk
          exact all_sound hM0 hl (Q := noPanic fun e a' w' => ∃ st', Q e st' ∧ Rel N w0 M0 st' a' w') (fun L' st' a' w' hk hR' => ⟨_, hk, L', hR'.clean⟩) fuel listed _ L2 st2 a1 w1 hsz hli hR2 hno2 hv
        rcases hho with hho | ⟨hsel, hok⟩
        · rw [hho] at h hgo
          simp only [List.filterMap_nil, stepsVC, List.length_nil, Nat.sub_zero] at h
          rw [hlen'] at h
          exact hgo ops.size _ L st a _ (by simp) (fun i => by rw [hrep]; simp) (hR.keep hbel) hno h
        · have hle := hoistsOf_length P (hv.1.contains 1000000) ops
          rw [hlen'] at h
          have := hoist_sound (w0 := w0) (M0 := M0) (Q := fun e a' w' => ∃ st', Q e st' ∧ Rel N w0 M0 st' a' w') hM0 hsel hl (hoistsOf P (hv.1.contains 1000000) ops) (ops.size - (hoistsOf P (hv.1.contains 1000000) ops).length) (Array.replicate ops.size false) L st a _ hok (hR.keep hbel) hno h
            (fun L' st' a' hk hR' hno' => hgo _ _ L' st' a' _ (by rw [setAll_size]; simp) (fun i => by
              rw [setAll_get (n := ops.size) _ _ (by simp) (hoistOK_lt _ _ hok), hrep]
              simp) hR' hno' hk)
          rwa [Nat.sub_add_cancel hle] at this
      split at hs
      · rename_i hok
        injection hs with hs
        subst hs
        simp only [Bool.and_eq_true, Bool.or_eq_true, Bool.not_eq_true'] at hok
        cases draw with
        | false =>
          refine wp_region_list (steps_sound hM0 (fun L' st' a' w' hk hR' => ?_) _ l hl hok.1 L st a w hR (fun t s hs => by rw [hno t] at hs; simp at hs) h)
          exact ⟨_, hk, L', hR'.clean⟩
        | true =>
          refine draw_sound hm hM0 hl (hok.2.resolve_left (by simp)) hR hno h (fun st' a' w' hk hR' => ?_)
          exact ⟨_, hk, L, hR'.clean⟩
      · cases hs
    · cases hs
  | .seq c1 c2, s, hs, Q, st, a, w, hR, h => by
    simp only [slim] at hs
    split at hs
    · rename_i s1 s2 h1 h2
      injection hs with hs
      subst hs
      obtain ⟨st1, hw1, h⟩ := h
      refine wp_seq (wp_mono (exec_sound hm hM0 c1 s1 h1 _ st1 a w (hR.weak hw1) h) fun e a' w' he => ?_)
      obtain ⟨st', hq, hR'⟩ := he
      cases e with
      | normal =>
        obtain ⟨st2, hw2, hq⟩ := hq
        exact exec_sound hm hM0 c2 s2 h2 Q st2 a' w' (hR'.weak hw2) hq
      | _ => exact ⟨st', hq, hR'⟩
    · cases hs
  | .cond c c1 c2, s, hs, Q, st, a, w, hR, h => by
    simp only [slim] at hs
    split at hs
    · rename_i s1 s2 h1 h2
      injection hs with hs
      subst hs
      simp only [exec] at h
      split at h
      · rename_i t hev
        obtain ⟨L, hR0, _⟩ := id hR
        have hc := hR0.ev c
        rw [hev] at hc
        generalize hcv : a.eval c = v at hc
        cases hc
        refine wp_cond_split hcv (fun ht => ?_) (fun ht => ?_)
        · obtain ⟨st1, hw1, h'⟩ := h.1 ht
          exact exec_sound hm hM0 c1 s1 h1 Q st1 a w (hR.weak hw1) h'
        · obtain ⟨st1, hw1, h'⟩ := h.2 ht
          exact exec_sound hm hM0 c2 s2 h2 Q st1 a w (hR.weak hw1) h'
      · exact h.elim
    · cases hs
  | .block id c, s, hs, Q, st, a, w, hR, h => by
    simp only [slim] at hs
    split at hs
    · rename_i s1 h1
      injection hs with hs
      subst hs
      obtain ⟨st1, hw1, h⟩ := h
      refine wp_block (wp_mono (exec_sound hm hM0 c s1 h1 _ st1 a w (hR.weak hw1) h) fun e a' w' he => ?_)
      obtain ⟨st', hq, hR'⟩ := he
      cases e with
      | exit k =>
        simp only [Exit.inBlock] at hq ⊢
        split at hq
        · rename_i e; rw [if_pos e]; exact ⟨st', hq, hR'⟩
        · rename_i e; rw [if_neg e]; exact ⟨st', hq, hR'⟩
      | _ => exact ⟨st', hq, hR'⟩
    · cases hs
  | .loop c, s, hs, Q, st, a, w, ⟨L, hR, hno⟩, h => by
    simp only [slim] at hs
    split at hs
    · rename_i s1 h1
      injection hs with hs
      subst hs
      obtain ⟨ι, I, m, i0, hle, hr⟩ := h
      refine loop_sound I m i0 (hR.le hle) (fun i a' w' hRi => ?_)
      obtain ⟨st1, hw1, hri⟩ := hr i
      refine wp_mono (exec_sound hm hM0 c s1 h1 _ st1 a' w' (hRi.weak hw1) hri) fun e a2 w2 he => ?_
      obtain ⟨st', hq, L', hR', hno'⟩ := he
      cases e with
      | normal =>
        obtain ⟨i', hlt, hle'⟩ := hq
        exact ⟨i', hlt, hR'.le hle'⟩
      | _ => exact ⟨st', hq, L', hR', hno'⟩
    · cases hs
  | .rangeFunc _ _ _ _, s, hs, Q, st, a, w, hR, h => by simp [slim] at hs; subst hs; exact raw_sound hM0 hR h
  | .scope _, s, hs, Q, st, a, w, hR, h => by simp [slim] at hs; subst hs; exact raw_sound hM0 hR h
  | .label _, s, hs, Q, st, a, w, hR, h => by simp [slim] at hs; subst hs; exact raw_sound hM0 hR h
  | .goto _, s, hs, Q, st, a, w, hR, h => by simp [slim] at hs; subst hs; exact raw_sound hM0 hR h
  | .refuse _, s, hs, Q, st, a, w, hR, h => by simp [slim] at hs; subst hs; exact raw_sound hM0 hR h
end
end Go.Sx

namespace Go.Sx
open Go Go.RowKit
set_option linter.unusedSimpArgs false

inductive SR where
  | tmp (t : Nat)
  | cell (n : Option Nat) (t : Nat)

def slimR (P : Program) : ResultVar → Option SR
  | .tmp t => some (.tmp t)
  | .cell a t => match isAgg? P t, sizeOf? P t with
    | some true, some n => some (.cell (some n) a)
    | some false, some _ => some (.cell none a)
    | _, _ => none

structure Fn where
  N : Nat
  code : SC
  res : List SR

def slimFn (P : Program) (hv : List Nat × List Nat) (f : Func) : Option Fn :=
  match f.body with
  | some c => match slim P hv f.ntmps c, optList (f.results.toList.map (slimR P)) with
    | some s, some r => if f.name == "runtime.NumGoroutine" then none else some ⟨f.ntmps, s, r⟩
    | _, _ => none
  | none => none

def initSl : Nat → List SV → List (Nat × LV)
  | _, [] => []
  | k, s :: r => (k, .sv s) :: initSl (k + 1) r

def resLV (st : St) : SR → Option SV
  | .tmp t => match look st.sl t with
    | .own i => match st.tb[i]? with
      | some (.row _ sz n _ get) => some (.lst sz n get)
      | _ => none
    | .sv s => some s
    | .ptr i off => match st.tb[i]? with
      | some (.cells _ _ cs) => some (.ref cs off)
      | _ => none
    | _ => none
  | .cell n t => match addrOf st.tb (look st.sl t) with
    | some (cs, off) => match n with
      | none => cs[off]?
      | some m => if off + m ≤ cs.length then some (.agg ((cs.drop off).take m)) else none
    | none => none

def finSV : List SV → SV
  | [x] => x
  | l => .tup l

def Fin (srs : List SR) (r : SV) (e : Exit) (st : St) : Prop :=
  (e = .normal ∨ e = .ret) ∧ ∃ rs, optList (srs.map (resLV st)) = some rs ∧ SVle (finSV rs) r

/-- The end of a function that hands back a slice of its own. -/
def FinOwn (srs : List SR) (t : TypeId) (sz n : Nat) (get : Nat → List SV) (e : Exit) (st : St) : Prop :=
  (e = .normal ∨ e = .ret) ∧ ((∃ x i m get', srs = [.tmp x] ∧ (look st.sl x = .own i ∧ m = n ∨ look st.sl x = .part i 0 n) ∧ st.tb[i]? = some (.row t sz m true get') ∧ n ≤ m ∧ ∀ j, j < n → SVles (get' j) (get j)) ∨
    ∃ x, srs = [.tmp x] ∧ look st.sl x = .sv (.val (.slice none 0 0)) ∧ n = 0)

/-- The end of a function that took a slice and hands one back. -/
def FinTake (srs : List SR) (t : TypeId) (sz n : Nat) (get : Nat → List SV) (e : Exit) (st : St) : Prop :=
  (e = .normal ∨ e = .ret) ∧ ∃ x i m get', srs = [.tmp x] ∧ (look st.sl x = .own i ∧ m = n ∨ look st.sl x = .part i 0 n) ∧ st.tb[i]? = some (.row t sz m true get') ∧ n ≤ m ∧ ∀ j, j < n → SVles (get' j) (get j)

/-- The slots of arguments, of which one is a row. -/
def initTake (pre post : List SV) : List (Nat × LV) := (pre.length, .own 0) :: (initSl 0 pre ++ initSl (pre.length + 1) post)

section
variable {P : Program} {N : Nat} {w0 : Base} {M0 : Nat → Prop} {L : Nat → Value} {st : St} {a : Act} {w : World}

theorem look_initSl (t : Nat) : ∀ (args : List SV) (k : Nat), look (initSl k args) t = if k ≤ t then (match args[t - k]? with | some s => .sv s | none => .any) else .any
  | [], k => by simp [initSl, look]
  | s :: r, k => by
    simp only [initSl, look]
    by_cases e : k = t
    · subst e; simp
    · rw [if_neg e, look_initSl t r (k + 1)]
      by_cases h : k ≤ t
      · rw [if_pos h, if_pos (by omega), show t - k = (t - (k + 1)) + 1 by omega]
        simp
      · rw [if_neg h, if_neg (by omega)]

theorem init_rel {fn : Func} {args : List SV} {vs : Array Value} (hl : args.length = vs.size) (hn : args.length ≤ fn.ntmps)
    (hd : ∀ (i : Nat) s v, args[i]? = some s → vs[i]? = some v → Den w M0 s v) :
    Rel fn.ntmps ⟨w, fun _ => False⟩ M0 ⟨initSl 0 args, []⟩ { tmps := vs ++ Array.replicate (fn.ntmps - vs.size) undef, defers := [] } w := by
  refine ⟨fun _ => undef, { inv := { below := Ext.refl _ _, ok := fun i k hi => by simp at hi, apart := fun i j b hi => by simp at hi, low := fun i b hi => by simp at hi }, size := by simp; omega, defers := rfl, slot := fun t => ?_ }, fun t => ?_⟩
  · simp only [look_initSl, Nat.zero_le, if_true, Nat.sub_zero]
    cases ha : args[t]? with
    | none => trivial
    | some s =>
      have hlt : t < vs.size := by rw [← hl]; exact (List.getElem?_eq_some_iff.1 ha).1
      have hv : vs[t]? = some vs[t] := by simp [hlt]
      have : (vs ++ Array.replicate (fn.ntmps - vs.size) undef).getD t undef = vs[t] := by
        rw [Array.getD_eq_getD_getElem?, Array.getElem?_append, if_pos hlt, hv]
        rfl
      simp only [this]
      refine (hd t s _ ha hv).less fun b _ hb => ?_
      rcases hb with hb | ⟨i, k, hi, _⟩
      · exact hb
      · simp at hi
  · simp only [look_initSl, Nat.zero_le, if_true, Nat.sub_zero]
    cases args[t]? <;> rfl

theorem not_M0 (hR : R N w0 M0 L st a w) (hM0 : Safe w0 M0) {i b : Nat} (hi : i < st.tb.length) (hb : blkNo (L i) = some b) : ¬ M0 b := fun h => by
  have h1 := hM0 b h
  rcases (hR.inv.low i b hi hb).1 with h2 | h2
  · omega
  · exact h1.2 h2

theorem res_sound (hR : R N w0 M0 L st a w) (hM0 : Safe w0 M0) {rv : ResultVar} {sr : SR} {s : SV} (hs : slimR P rv = some sr) (h : resLV st sr = some s) :
    ∃ v, (match rv with
      | .tmp t => pure (a.tmps.getD t undef)
      | .cell x t => do loadVar t (← asAddr (a.tmps.getD x undef)) : Sem Value).run P w = .ok v w ∧ Den w M0 s v := by
  have hless : ∀ {s v}, Den w (mset M0 st.tb L) s v → Den w M0 s v := fun h => h.less fun b _ hb => .inl hb
  cases rv with
  | tmp t =>
    simp [slimR] at hs
    subst hs
    refine ⟨a.tmps.getD t undef, rfl, ?_⟩
    have hsl := hR.slot t
    simp only [resLV] at h
    split at h
    · rename_i i hx
      rw [hx] at hsl
      split at h
      · rename_i t' sz n mu get hrow
        injection h with h
        subst h
        obtain ⟨hi, hv⟩ := hsl
        rw [hv]
        exact den_of_row ((hR.inv.ok i _ hrow).less fun b hb => .inl hb) fun b hb => not_M0 hR hM0 hi hb
      · cases h
    · rename_i s' hx
      rw [hx] at hsl
      injection h with h
      subst h
      exact hless hsl
    · rename_i i off hx
      rw [hx] at hsl
      split at h
      · rename_i t' mu cs hrow
        injection h with h
        subst h
        obtain ⟨hi, b, hL, hv⟩ := hsl
        rw [hv]
        have hok := (hR.inv.ok i _ hrow).less (M' := M0) fun b hb => .inl hb
        rw [hL] at hok
        exact den_of_cells hok (not_M0 hR hM0 hi (by rw [hL]; rfl))
      · cases h
    · cases h
  | cell x t =>
    simp only [slimR] at hs
    have hsl := hR.slot x
    split at hs
    · rename_i n ha hn
      injection hs with hs
      subst hs
      simp only [resLV] at h
      split at h
      · rename_i cs off hadr
        split at h
        · rename_i hfit
          injection h with h
          subst h
          obtain ⟨b, o, hv, hc⟩ := addrOf_sound hR.inv hadr hsl
          obtain ⟨vs, hr, hd⟩ := loadCells_sound (P := P) hc hfit
          exact ⟨.agg vs, by simp [hv, asAddr, loadVar, run_isAgg ha, run_sizeOf hn, hr], hless hd⟩
        · cases h
      · cases h
    · rename_i n ha hn
      injection hs with hs
      subst hs
      simp only [resLV] at h
      split at h
      · rename_i cs off hadr
        obtain ⟨b, o, hv, hc⟩ := addrOf_sound hR.inv hadr hsl
        obtain ⟨u, hu, _, hd⟩ := hc off s h
        exact ⟨u, by simp [hv, asAddr, loadVar, run_isAgg ha, hu], hless hd⟩
      · cases h
    · cases hs

theorem mapM_sound (hR : R N w0 M0 L st a w) (hM0 : Safe w0 M0) : ∀ (rvs : List ResultVar) (srs : List SR) (rs : List SV), optList (rvs.map (slimR P)) = some srs → optList (srs.map (resLV st)) = some rs →
    ∃ vs : List Value, (rvs.mapM fun
      | .tmp t => pure (a.tmps.getD t undef)
      | .cell x t => do loadVar t (← asAddr (a.tmps.getD x undef)) : Sem (List Value)).run P w = .ok vs w ∧ rs.length = vs.length ∧ ∀ (i : Nat) s v, rs[i]? = some s → vs[i]? = some v → Den w M0 s v
  | [], srs, rs, h1, h2 => by
    simp [optList] at h1
    subst h1
    simp [optList] at h2
    subst h2
    exact ⟨[], by simp, rfl, fun i s v hi => by simp at hi⟩
  | rv :: rvs, srs, rs, h1, h2 => by
    simp only [List.map_cons] at h1
    cases hrv : slimR P rv with
    | none => rw [hrv] at h1; simp [optList] at h1
    | some sr =>
      rw [hrv] at h1
      simp only [optList] at h1
      split at h1
      · rename_i srs' h1'
        injection h1 with h1
        subst h1
        simp only [List.map_cons] at h2
        cases hr : resLV st sr with
        | none => rw [hr] at h2; simp [optList] at h2
        | some s =>
          rw [hr] at h2
          simp only [optList] at h2
          split at h2
          · rename_i rs' h2'
            injection h2 with h2
            subst h2
            obtain ⟨v, hv, hdv⟩ := res_sound hR hM0 hrv hr
            obtain ⟨vs, hvs, hl, hd⟩ := mapM_sound hR hM0 rvs srs' rs' h1' h2'
            refine ⟨v :: vs, ?_, by simp [hl], fun i s' v' hi hv' => ?_⟩
            · rw [List.mapM_cons, Sem.run_bind, hv]
              simp only [Result.andThen_ok, Sem.run_bind, hvs, Sem.run_pure]
            · cases i with
              | zero => simp at hi hv'; subst hi hv'; exact hdv
              | succ i => exact hd i s' v' (by simpa using hi) (by simpa using hv')
          · cases h2
      · cases h1

theorem results_sound {fn : Func} {srs : List SR} {rs : List SV} (hR : R N w0 M0 L st a w) (hM0 : Safe w0 M0) (h1 : optList (fn.results.toList.map (slimR P)) = some srs) (h2 : optList (srs.map (resLV st)) = some rs) :
    ∃ v, (results fn a.tmps).run P w = .ok v w ∧ Den w M0 (finSV rs) v := by
  obtain ⟨vs, hvs, hl, hd⟩ := mapM_sound hR hM0 _ _ _ h1 h2
  unfold results
  rw [Array.mapM_eq_mapM_toList]
  simp only [Sem.run_bind, Sem.run_map]
  erw [hvs]
  simp only [Result.andThen_ok]
  match rs, vs, hl with
  | [s], [v], _ =>
    exact ⟨v, by simp, hd 0 s v rfl rfl⟩
  | [], [], _ => exact ⟨.tuple #[], by simp, .tup [] #[] rfl (fun i s v hi => by simp at hi)⟩
  | s1 :: s2 :: r, v1 :: v2 :: q, hl =>
    exact ⟨.tuple (v1 :: v2 :: q).toArray, by simp, .tup _ _ (by simpa using hl) (fun i s v hi hv => hd i s v hi (by simpa using hv))⟩

theorem slimFn_spec {fn : Func} {hv : List Nat × List Nat} {F : Fn} (h : slimFn P hv fn = some F) : ∃ c, fn.body = some c ∧ slim P hv fn.ntmps c = some F.code ∧ optList (fn.results.toList.map (slimR P)) = some F.res ∧ (fn.name == "runtime.NumGoroutine") = false ∧ F.N = fn.ntmps := by
  unfold slimFn at h
  split at h
  · rename_i c hc
    split at h
    · rename_i s r h1 h2
      split at h
      · cases h
      · rename_i hn
        injection h with h
        subst h
        exact ⟨c, hc, h1, h2, by simpa using hn, rfl⟩
    · cases h
  · cases h

theorem BlkOK.base {M : Nat → Prop} {base base' : Nat} {t : TypeId} {sz n : Nat} {mu : Bool} {get : Nat → List SV} {v : Value} (h : BlkOK w M base (.row t sz n mu get) v) (hb : ∀ b, blkNo v = some b → base' ≤ b) :
    BlkOK w M base' (.row t sz n mu get) v := by
  obtain ⟨xs, ⟨h1, h2⟩, r⟩ := h
  refine ⟨xs, ⟨h1, ?_⟩, r⟩
  rcases h2 with h2 | ⟨g, cap, cur, rfl, _, r⟩
  · exact .inl h2
  · exact .inr ⟨g, cap, cur, rfl, hb g rfl, r⟩

theorem spec_of_exec {f : FuncId} {fn : Func} {hv : List Nat × List Nat} {F : Fn} {args : List SV} {r : SV} (hm : P.follows .mixedOrders = true) (hf : P.funcs[f]? = some fn) (hs : slimFn P hv fn = some F) (hn : args.length ≤ F.N)
    (h : ∃ st1, Weak ⟨initSl 0 args, []⟩ st1 ∧ exec P F.code st1 (Fin F.res r)) : Spec P f args r := by
  obtain ⟨c, hb, hsl, hr, hname, hN⟩ := slimFn_spec hs
  rw [hN] at hn
  refine ⟨⟨fn, hf, by rw [hb]; rfl, hname⟩, fun w M vs hM hl hd => ?_⟩
  obtain ⟨st1, hw, h⟩ := h
  refine calls_of_wp hf hb (wp_mono (exec_sound (w0 := ⟨w, fun _ => False⟩) hm (fun b hb => ⟨hM b hb, fun h => h⟩) c F.code hsl _ st1 _ w ((init_rel hl hn hd).weak hw) h) fun e a' w' he => ?_)
  obtain ⟨st', ⟨he, rs, hrs, hle⟩, L, hR, _⟩ := he
  obtain ⟨v, hrun, hden⟩ := results_sound hR (fun b hb => ⟨hM b hb, fun h => h⟩) hr hrs
  have hfin : a'.defers = [] ∧ ∃ v, (results fn a'.tmps).run P w' = .ok v w' ∧ ∃ v', Ending.returned v = .returned v' ∧ Below w.heap.size w w' ∧ Den w' M r v' :=
    ⟨hR.defers, v, hrun, v, rfl, hR.inv.below.below, hle _ _ _ hden⟩
  rcases he with rfl | rfl
  · exact hfin
  · exact hfin

/-- A row, or the beginning of one, as a row. -/
theorem row_of_part {G : Nat → Option Bool} {M : Nat → Prop} {tb : List Blk} {i m n : Nat} {t : TypeId} {sz : Nat} {mu : Bool} {get : Nat → List SV} {x : LV} {v : Value} (hok : BlkOK w M 0 (.row t sz m mu get) (L i)) (hi : tb[i]? = some (.row t sz m mu get))
    (hx : x = .own i ∧ m = n ∨ x = .part i 0 n) (hnm : n ≤ m) (hd : LDen G w M L tb x v) : BlkOK w M 0 (.row t sz n mu get) v ∧ blkNo v = blkNo (L i) := by
  rcases hx with ⟨rfl, rfl⟩ | rfl
  · rw [hd.2]; exact ⟨hok, rfl⟩
  · obtain ⟨n2, t2, sz2, mu2, get3, h5, _, _, h3⟩ := hd
    rw [hi] at h5
    simp only [Option.some.injEq, Blk.row.injEq] at h5
    obtain ⟨rfl, rfl, rfl, rfl, rfl⟩ := h5
    have hblk : blkNo v = blkNo (L i) := by rcases h3 with ⟨h3, h4⟩ | ⟨b, o, c, h3, _, h4⟩ <;> rw [h3, h4] <;> rfl
    refine ⟨?_, hblk⟩
    obtain ⟨xs, ⟨hxl, ho⟩, hz, h1, hdd⟩ := hok
    have hle : n * sz ≤ m * sz := Nat.mul_le_mul_right _ hnm
    refine ⟨xs.take (n * sz), ⟨by rw [List.length_take]; omega, ?_⟩, fun i hi => hz i (by omega), fun g cur t' fr hg => h1 g cur t' fr (by rw [← hblk]; exact hg), fun i j s u hi' hj hu => ?_⟩
    · rcases h3 with ⟨h3, h4⟩ | ⟨b, o, c, h3, h6, h4⟩
      · rw [h3] at ho
        rcases ho with ⟨_, h0⟩ | ⟨g, cap, cur, hv, _⟩
        · exact .inl ⟨h4, by omega⟩
        · cases hv
      · rw [h3] at ho
        rcases ho with ⟨hv, _⟩ | ⟨g, cap, cur, hv, hg0, hh, hnc, hcm, hcur, htake⟩
        · cases hv
        · simp only [Value.slice.injEq, Option.some.injEq, Addr.mk.injEq, true_and, and_true] at hv
          obtain ⟨rfl, rfl⟩ := hv
          have ho := h6 (.inl rfl)
          simp only [Nat.zero_mul] at ho
          subst ho
          exact .inr ⟨b, c, cur, by simpa using h4, hg0, hh, by omega, hcm, hcur, by rw [← htake, List.take_take, Nat.min_eq_left hle]⟩
    · have hjs : j < sz := by rw [← hz i (by omega)]; exact (List.getElem?_eq_some_iff.1 hj).1
      have e4 : i * sz + sz ≤ n * sz := by rw [← Nat.succ_mul]; exact Nat.mul_le_mul_right _ hi'
      rw [List.getElem?_take_of_lt (by omega)] at hu
      exact hdd i j s u (by omega) hj hu

theorem specOwn_of_exec {f : FuncId} {fn : Func} {hv : List Nat × List Nat} {F : Fn} {args : List SV} {t : TypeId} {sz n : Nat} {get : Nat → List SV} (hm : P.follows .mixedOrders = true) (hf : P.funcs[f]? = some fn) (hs : slimFn P hv fn = some F) (hn : args.length ≤ F.N)
    (h : ∃ st1, Weak ⟨initSl 0 args, []⟩ st1 ∧ exec P F.code st1 (FinOwn F.res t sz n get)) : SpecOwn P f args t sz n get := by
  obtain ⟨c, hb, hsl, hr, hname, hN⟩ := slimFn_spec hs
  rw [hN] at hn
  refine ⟨⟨fn, hf, by rw [hb]; rfl, hname⟩, fun w M vs hM hl hd => ?_⟩
  obtain ⟨st1, hw, h⟩ := h
  refine calls_of_wp hf hb (wp_mono (exec_sound (w0 := ⟨w, fun _ => False⟩) hm (fun b hb => ⟨hM b hb, fun h => h⟩) c F.code hsl _ st1 _ w ((init_rel hl hn hd).weak hw) h) fun e a' w' he => ?_)
  obtain ⟨st', ⟨he, hcase⟩, L, hR, _⟩ := he
  obtain ⟨x, hres⟩ : ∃ x, F.res = [.tmp x] := by
    rcases hcase with ⟨x, _, _, _, h, _⟩ | ⟨x, h, _⟩ <;> exact ⟨x, h⟩
  rw [hres] at hr
  have hfr : fn.results.toList = [.tmp x] := by
    cases hq : fn.results.toList with
    | nil => rw [hq] at hr; simp [optList] at hr
    | cons rv q =>
      rw [hq] at hr
      obtain ⟨e1, e2⟩ := optList_get _ _ hr
      simp at e1
      have hq0 : q = [] := e1
      subst hq0
      have := e2 0 (.tmp x) rfl
      simp at this
      cases rv with
      | tmp t' => simp [slimR] at this; rw [this]
      | cell a' t' => simp only [slimR] at this; (repeat' split at this) <;> simp at this
  have hrun : (results fn a'.tmps).run P w' = .ok (a'.tmps.getD x undef) w' := by
    have : fn.results = #[.tmp x] := by rw [← Array.toArray_toList (xs := fn.results), hfr]
    simp [results, this]
  have hsl := hR.slot x
  have hok' : BlkOK w' (fun b => M b ∨ blkNo (a'.tmps.getD x undef) = some b) w.heap.size (.row t sz n true get) (a'.tmps.getD x undef) := by
    rcases hcase with ⟨x', i, m, get', h1, hx, hrow, hnm, hget⟩ | ⟨x', h1, hx, rfl⟩
    · rw [hres] at h1
      simp only [List.cons.injEq, SR.tmp.injEq, and_true] at h1
      subst h1
      have hi : i < st'.tb.length := (List.getElem?_eq_some_iff.1 hrow).1
      obtain ⟨hok, hv⟩ := row_of_part (hR.inv.ok i _ hrow) hrow hx hnm hsl
      refine (BlkOK.base (hok.less fun b hb => by
        rcases hb with hb | hb
        · exact .inl hb
        · exact .inr ⟨i, _, hrow, rfl, by rw [← hv]; exact hb⟩) fun b hb => ?_).le ⟨rfl, rfl, rfl, fun _ => rfl, hget⟩
      rcases (hR.inv.low i b hi (by rw [← hv]; exact hb)).1 with h | h
      · exact h
      · exact h.elim
    · rw [hres] at h1
      simp only [List.cons.injEq, SR.tmp.injEq, and_true] at h1
      subst h1
      rw [hx] at hsl
      generalize a'.tmps.getD x undef = v at hsl
      cases hsl
      exact ⟨[], World.ownsRow_nil _ _ _ _, fun i hi => by omega, AllOne.nil, fun i j s u hi => by omega⟩
  have hfin : a'.defers = [] ∧ ∃ v, (results fn a'.tmps).run P w' = .ok v w' ∧ ∃ v', Ending.returned v = .returned v' ∧ Below w.heap.size w w' ∧ BlkOK w' (fun b => M b ∨ blkNo v' = some b) w.heap.size (.row t sz n true get) v' :=
    ⟨hR.defers, _, hrun, _, rfl, hR.inv.below.below, hok'⟩
  rcases he with rfl | rfl
  · exact hfin
  · exact hfin

theorem look_append (t : Nat) (r : List (Nat × LV)) : ∀ l : List (Nat × LV), look (l ++ r) t = if l.any (fun p => p.1 == t) then look l t else look r t
  | [] => by simp
  | (k, x) :: l => by
    by_cases e : k = t
    · simp [look, e]
    · simp only [List.cons_append, look, if_neg e, look_append t r l]
      have : (k == t) = false := by simpa using e
      simp only [List.any_cons, this, Bool.false_or]

theorem initSl_any (t : Nat) : ∀ (args : List SV) (k : Nat), (initSl k args).any (fun p => p.1 == t) = decide (k ≤ t ∧ t < k + args.length)
  | [], k => by simp [initSl]
  | s :: r, k => by
    simp only [initSl, List.any_cons, initSl_any t r (k + 1), List.length_cons]
    by_cases e : k = t
    · subst e; simp
    · have : (k == t) = false := by simpa using e
      rw [this, Bool.false_or]
      exact decide_eq_decide.2 (by omega)

theorem look_initTake (pre post : List SV) (t : Nat) : look (initTake pre post) t = if t < pre.length then (match pre[t]? with | some s => .sv s | none => .any) else if t = pre.length then .own 0 else (match post[t - (pre.length + 1)]? with | some s => .sv s | none => .any) := by
  unfold initTake
  simp only [look]
  by_cases e : pre.length = t
  · subst e; simp
  · rw [if_neg e, look_append, initSl_any]
    by_cases h : t < pre.length
    · rw [if_pos (by simpa using h), if_pos h, look_initSl]; simp
    · rw [if_neg (by simpa using h), if_neg h, if_neg (by omega), look_initSl]
      rw [if_pos (by omega)]

theorem specTake_of_exec {f : FuncId} {fn : Func} {hv : List Nat × List Nat} {F : Fn} {pre post : List SV} {t : TypeId} {sz n n' : Nat} {get get' : Nat → List SV} (hm : P.follows .mixedOrders = true) (hf : P.funcs[f]? = some fn) (hs : slimFn P hv fn = some F) (hn : pre.length + 1 + post.length ≤ F.N)
    (h : ∃ st1, Weak ⟨initTake pre post, [.row t sz n true get]⟩ st1 ∧ exec P F.code st1 (FinTake F.res t sz n' get')) : SpecTake P f pre t sz n get post n' get' := by
  obtain ⟨c, hb, hsl, hr, hname, hN⟩ := slimFn_spec hs
  rw [hN] at hn
  refine ⟨⟨fn, hf, by rw [hb]; rfl, hname⟩, fun w M base us vs v hM hbase hvM hl1 hl2 hd1 hd2 hrow => ?_⟩
  obtain ⟨st1, hw, h⟩ := h
  have hmm : ∀ b, mset (fun b => M b ∧ blkNo v ≠ some b) [.row t sz n true get] (fun _ => v) b → M b := by
    rintro b (hb | ⟨i, k, _, _, hn⟩)
    · exact hb.1
    · exact hvM b hn
  have hsafe : Safe ⟨w, fun b => blkNo v = some b⟩ (fun b => M b ∧ blkNo v ≠ some b) := fun b hb => ⟨hM b hb.1, hb.2⟩
  have hrel : Rel fn.ntmps ⟨w, fun b => blkNo v = some b⟩ (fun b => M b ∧ blkNo v ≠ some b) ⟨initTake pre post, [.row t sz n true get]⟩ { tmps := (us ++ v :: vs).toArray ++ Array.replicate (fn.ntmps - (us ++ v :: vs).toArray.size) undef, defers := [] } w := by
    refine ⟨fun _ => v, { inv := { below := Ext.refl _ _, ok := fun i k hi => ?_, apart := fun i j b hi hj _ _ => by simp at hi hj; omega, low := fun i b hi hbn => ⟨.inr hbn, hM b (hvM b hbn)⟩ }, size := by simp; omega, defers := rfl, slot := fun x => ?_ }, fun x => ?_⟩
    · cases i with
      | zero =>
        simp at hi
        subst hi
        exact BlkOK.base (hrow.less hmm) fun b _ => Nat.zero_le _
      | succ i => simp at hi
    · rw [look_initTake]
      have hget : ∀ u, (us ++ v :: vs)[x]? = some u → ((us ++ v :: vs).toArray ++ Array.replicate (fn.ntmps - (us ++ v :: vs).toArray.size) undef).getD x undef = u := by
        intro u hu
        have hlt := (List.getElem?_eq_some_iff.1 hu).1
        rw [Array.getD_eq_getD_getElem?, Array.getElem?_append, if_pos (by simpa using hlt)]
        simp only [List.getElem?_toArray, hu]
        rfl
      split
      · rename_i hlt
        cases hp : pre[x]? with
        | none => trivial
        | some s =>
          have hu : us[x]? = some us[x] := List.getElem?_eq_getElem (by omega)
          rw [hget us[x] (by rw [List.getElem?_append_left (by omega)]; exact hu)]
          exact (hd1 x s _ hp hu).less fun b _ => hmm b
      · split
        · rename_i _ he
          subst he
          rw [hget v (by rw [hl1]; simp)]
          exact ⟨by simp, rfl⟩
        · cases hp : post[x - (pre.length + 1)]? with
          | none => trivial
          | some s =>
            have hlt : x - (pre.length + 1) < vs.length := by rw [← hl2]; exact (List.getElem?_eq_some_iff.1 hp).1
            have hu : vs[x - (pre.length + 1)]? = some vs[x - (pre.length + 1)] := List.getElem?_eq_getElem hlt
            rw [hget (vs[x - (pre.length + 1)]) (by
              rw [List.getElem?_append_right (by omega), ← hl1, show x - pre.length = (x - (pre.length + 1)) + 1 by omega]
              simp [hlt])]
            exact (hd2 _ s _ hp hu).less fun b _ => hmm b
    · rw [look_initTake]
      split
      · cases pre[x]? <;> rfl
      · split
        · rfl
        · cases post[x - (pre.length + 1)]? <;> rfl
  refine calls_of_wp hf hb (wp_mono (exec_sound hm hsafe c F.code hsl _ st1 _ w (hrel.weak hw) h) fun e a' w' he => ?_)
  obtain ⟨st', ⟨he, x, i, m, get2, hres, hx, hi, hnm, hget⟩, L, hR, _⟩ := he
  rw [hres] at hr
  have hfr : fn.results.toList = [.tmp x] := by
    cases hq : fn.results.toList with
    | nil => rw [hq] at hr; simp [optList] at hr
    | cons rv q =>
      rw [hq] at hr
      obtain ⟨e1, e2⟩ := optList_get _ _ hr
      simp at e1
      have hq0 : q = [] := e1
      subst hq0
      have := e2 0 (.tmp x) rfl
      simp at this
      cases rv with
      | tmp t' => simp [slimR] at this; rw [this]
      | cell a' t' => simp only [slimR] at this; (repeat' split at this) <;> simp at this
  have hrun : (results fn a'.tmps).run P w' = .ok (a'.tmps.getD x undef) w' := by
    have : fn.results = #[.tmp x] := by rw [← Array.toArray_toList (xs := fn.results), hfr]
    simp [results, this]
  have hsl := hR.slot x
  generalize a'.tmps.getD x undef = v' at hsl hrun
  have hok := hR.inv.ok i _ hi
  have hil : i < st'.tb.length := (List.getElem?_eq_some_iff.1 hi).1
  obtain ⟨hrow', hblk⟩ := row_of_part hok hi hx hnm hsl
  have hok' : BlkOK w' (fun b => (M b ∧ blkNo v ≠ some b) ∨ blkNo v' = some b) base (.row t sz n' true get') v' := by
    refine BlkOK.base ((hrow'.less fun b hb => ?_).le ⟨rfl, rfl, rfl, fun _ => rfl, hget⟩) fun b hb => ?_
    · rcases hb with hb | hb
      · exact .inl hb
      · exact .inr ⟨i, _, hi, rfl, by rw [← hblk]; exact hb⟩
    · rcases (hR.inv.low i b hil (by rw [← hblk]; exact hb)).1 with h | h
      · exact Nat.le_trans hbase h
      · obtain ⟨xs, ho, _⟩ := hrow
        rcases ho.2 with ⟨hv, _⟩ | ⟨g, cap, cur, hv, hg, _⟩
        · have h : blkNo v = some b := h
          rw [hv] at h; simp [blkNo] at h
        · have h : blkNo v = some b := h
          rw [hv] at h; simp [blkNo] at h; omega
  have hfin : a'.defers = [] ∧ ∃ u, (results fn a'.tmps).run P w' = .ok u w' ∧ ∃ u', Ending.returned u = .returned u' ∧ w.grownBy w' (blkNo v) ∧ (∀ b, blkNo u' = some b → blkNo v = some b ∨ w.heap.size ≤ b) ∧
      BlkOK w' (fun b => (M b ∧ blkNo v ≠ some b) ∨ blkNo u' = some b) base (.row t sz n' true get') u' :=
    ⟨hR.defers, _, hrun, _, rfl, ⟨hR.inv.below.os, hR.inv.below.tape, hR.inv.below.output, hR.inv.below.size, fun k hk hne => hR.inv.below.block k hk (fun e => hne (Eq.symm e))⟩,
      fun b hb => (hR.inv.low i b hil (by rw [← hblk]; exact hb)).1.symm, hok'⟩
  rcases he with rfl | rfl
  · exact hfin
  · exact hfin

/-- A slice of new memory is a slice. -/
theorem SpecOwn.spec {f : FuncId} {args : List SV} {t : TypeId} {sz n : Nat} {get : Nat → List SV} (h : SpecOwn P f args t sz n get) : Spec P f args (.lst sz n get) := by
  refine ⟨h.1, fun w M vs hM hl hd => (h.2 w M vs hM hl hd).mono fun e w' he => ?_⟩
  obtain ⟨v, rfl, hb, hok⟩ := he
  refine ⟨v, rfl, hb, den_of_row (hok.less fun b hb => .inl hb) fun b hbn hm => ?_⟩
  obtain ⟨xs, ho, _⟩ := hok
  have := hM b hm
  rcases ho.2 with ⟨rfl, _⟩ | ⟨g, cap, cur, rfl, hg, _⟩
  · simp [blkNo] at hbn
  · simp [blkNo] at hbn; omega
end
end Go.Sx

/- An entry of a map that is written in two steps; the check of a pointer; a map that is read by its name. -/
namespace Go.Sx
open Go Go.RowKit
set_option linter.unusedVariables false
set_option linter.unusedSimpArgs false

def noOptB : List (Nat × LV) → Bool
  | [] => true
  | (_, x) :: r => optFree x && noOptB r

theorem noOptB_look (t : Nat) : ∀ sl : List (Nat × LV), noOptB sl = true → optFree (look sl t) = true
  | [], _ => rfl
  | (k, x) :: r, h => by
    simp only [noOptB, Bool.and_eq_true] at h
    simp only [look]
    split
    · exact h.1
    · exact noOptB_look t r h.2

/-- A map with the stamp of an entry. -/
def entS (zero : Value) (keys : List Int) (get : Int → SV) (key stamp : Int) (ph : Bool) : SemBlk where
  mu := true
  info := .ent zero keys get key stamp ph
  ok w M v := EntOK w M zero keys get key stamp ph v
  spec _ _ _ _ _ _ h := by cases h; exact ⟨rfl, fun _ _ _ h => h⟩
  ext w w' M M' v h he hM hb := by
    obtain ⟨b, es, clock, rfl, hh, h1, h2, h3, h4, h5, h6, h7, h8, h9⟩ := h
    exact ⟨b, es, clock, rfl, (hb b rfl).trans hh, h1, h2, h3, h4, fun i k e hk he' => (h5 i k e hk he').ext he hM, fun k hk => (h6 k hk).ext he hM, h7, h8, h9⟩

/-- The first such block whose handle has a name. -/
def nmEnt (tb : List Blk) (ev : Operand → LV) : Nat → Option (Nat × Value)
  | 0 => none
  | n + 1 => match nmEnt tb ev n with
    | some r => some r
    | none => match tb[n]?, ev (.tmp (nmSlot n)) with
      | some (.sem S), .isv j v => if j = n then match S.info with
        | .ent _ _ _ _ _ _ => some (n, v)
        | .none => none
        else none
      | _, _ => none

def entOfLV (tb : List Blk) (ev : Operand → LV) : LV → Option (Nat × List Prop)
  | .own i => some (i, [])
  | .sv (.val u) => match nmEnt tb ev tb.length with
    | some (i, v) => some (i, [v = u])
    | none => none
  | _ => none

def opB (P : Program) (st : St) : SO → Option (St × List Prop)
  | ⟨d, .bad (.nilCheck x) _, none⟩ => if noOptB st.sl then match ev st.sl x with
    | .ptr i k => some (st.put d (.ptr i k), [])
    | .sv (.ref cs k) => some (st.put d (.sv (.ref cs k)), [])
    | _ => none else none
  | ⟨d, .bad (.mapEntry t m k) _, none⟩ => if noOptB st.sl then match entOfLV st.tb (ev st.sl) (ev st.sl m), ev st.sl k with
    | some (i, obs), .sv (.int .i64 n) => match st.tb[i]? with
      | some (.sem S) => match S.info with
        | .ent z' keys get key stamp false => some (St.put { st with tb := st.tb.set i (.sem (entS z' (putKey keys key) get key stamp true)) } d (.sv (.tup [get key, .int .i64 stamp])), obs ++ [n = key, mapOf P t = some z'])
        | _ => none
      | _ => none
    | _, _ => none else none
  | ⟨d, .bad (.entryStore t m s x) _, none⟩ => if noOptB st.sl then match entOfLV st.tb (ev st.sl) (ev st.sl m), ev st.sl s, ev st.sl x with
    | some (i, obs), .sv (.int .i64 q), .sv sx => match st.tb[i]? with
      | some (.sem S) => match S.info with
        | .ent z keys get key stamp true => some (St.put { st with tb := st.tb.set i (.map z keys (putGet key sx get)) } d .any, obs ++ [q = stamp])
        | _ => none
      | _ => none
    | _, _, _ => none else none
  | ⟨d, .lookup z ok (.tmp s) k, none⟩ => match look st.sl s with
    | .sv (.val u) => match nmMap st.tb (ev st.sl) st.tb.length with
      | some (i, v) => match pureOp P st.tb (ev ((s, .own i) :: st.sl)) (.lookup z ok (.tmp s) k) with
        | some (x, ob) => some (St.put ⟨(s, .own i) :: st.sl, st.tb⟩ d x, [v = u, ob])
        | none => none
      | none => none
    | _ => none
  | _ => none

section
variable {P : Program} {w0 : Base} {M0 : Nat → Prop} {L : Nat → Value} {w : World}

theorem AllP_app : ∀ (a b : List Prop), AllP (a ++ b) → AllP a ∧ AllP b
  | [], b, h => ⟨trivial, h⟩
  | p :: r, b, h => ⟨⟨h.1, (AllP_app r b h.2).1⟩, (AllP_app r b h.2).2⟩

theorem nmEnt_spec {tb : List Blk} {ev : Operand → LV} {i : Nat} {v : Value} : ∀ n, nmEnt tb ev n = some (i, v) → ev (.tmp (nmSlot i)) = .isv i v
  | 0, h => by simp [nmEnt] at h
  | n + 1, h => by
    simp only [nmEnt] at h
    split at h
    · rename_i r hr; injection h with h; subst h; exact nmEnt_spec n hr
    · split at h
      · rename_i S j v' h1 h2
        split at h
        · rename_i e
          subst e
          split at h
          · injection h with h
            simp only [Prod.mk.injEq] at h
            obtain ⟨rfl, rfl⟩ := h
            exact h2
          · cases h
        · cases h
      · cases h

theorem nmMap_spec {tb : List Blk} {ev : Operand → LV} {i : Nat} {v : Value} : ∀ n, nmMap tb ev n = some (i, v) → ev (.tmp (nmSlot i)) = .isv i v
  | 0, h => by simp [nmMap] at h
  | n + 1, h => by
    simp only [nmMap] at h
    split at h
    · rename_i r hr; injection h with h; subst h; exact nmMap_spec n hr
    · split at h
      · rename_i z ks g j v' h1 h2
        split at h
        · rename_i e
          subst e
          injection h with h
          simp only [Prod.mk.injEq] at h
          obtain ⟨rfl, rfl⟩ := h
          exact h2
        · cases h
      · cases h

theorem entOfLV_sound {G : Nat → Option Bool} {M : Nat → Prop} {tb : List Blk} {evf : Operand → LV} {ρ : Operand → Value} {x : LV} {vx : Value} {i : Nat} {obs : List Prop} (hρ : ∀ y, LDen G w M L tb (evf y) (ρ y)) (h : entOfLV tb evf x = some (i, obs)) (ho : AllP obs) (hx : LDen G w M L tb x vx) : vx = L i := by
  unfold entOfLV at h
  split at h
  · simp only [Option.some.injEq, Prod.mk.injEq] at h
    obtain ⟨rfl, rfl⟩ := h
    exact hx.2
  · split at h
    · rename_i i' v hn
      simp only [Option.some.injEq, Prod.mk.injEq] at h
      obtain ⟨rfl, rfl⟩ := h
      have h1 := hρ (.tmp (nmSlot i'))
      rw [nmEnt_spec _ hn] at h1
      have h2 : Den w M (.val _) vx := hx
      cases h2
      rw [← ho.1]
      exact h1.2.symm
    · cases h
  · cases h

/-- The first step: the entry is there. -/
theorem mapEntry_run {t : TypeId} {z : Value} (hz : mapOf P t = some z) {M : Nat → Prop} {keys : List Int} {get : Int → SV} {key stamp : Int} {ph : Bool} {v : Value} (h : EntOK w M z keys get key stamp ph v) :
    ∃ (b : Nat) (es' : Array MapEntry) (clock' : Nat) (u : Value), v = .map (some b) ∧ b < w.heap.size ∧ (Instr.mapEntry t v (.int .i64 key)).run P w = .ok (.tuple #[u, .int .i64 stamp]) { w with heap := w.heap.setIfInBounds b (.map es' clock') } ∧ Den w M (get key) u ∧
      es'.toList.map (·.key) = (putKey keys key).map (Value.int .i64) ∧ (putKey keys key).Nodup ∧ (∀ e ∈ es'.toList, e.born < clock') ∧ (es'.toList.map (·.born)).Nodup ∧
      (∀ (i : Nat) k e, (putKey keys key)[i]? = some k → es'.toList[i]? = some e → Den w M (get k) e.val) ∧ (∀ (i : Nat) e, (putKey keys key)[i]? = some key → es'.toList[i]? = some e → (e.born : Int) = stamp) := by
  obtain ⟨b, es, clock, rfl, hb, h1, h2, h3, h4, h5, h6, h7, h8, h9⟩ := h
  obtain ⟨kt, e, hu, hk, hzr, _⟩ := mapOf_spec hz
  have hbl : b < w.heap.size := (Array.getElem?_eq_some_iff.1 hb).1
  have hlen : es.toList.length = keys.length := by have := congrArg List.length h1; simpa using this
  rcases findNow_int .i64 es.toList keys 0 key h1 with ⟨hn, hf⟩ | ⟨j, en, hj, he, hf⟩
  · have hst := h8 hn
    refine ⟨b, es.push ⟨.int .i64 key, z, clock⟩, clock + 1, z, rfl, hbl, ?_, h6 key hn, ?_, ?_, ?_, ?_, ?_, ?_⟩
    · simp [Instr.mapEntry, run_under hu, MapKept.run_getObj_map hb, checkKey_int hk, Instr.findKey, run_under hk, hf, MapKept.run_setObj_map _ hb, hzr, goInt, hst]
    · simp [putKey, hn, h1]
    · rw [putKey, if_neg hn, List.nodup_append]
      exact ⟨h2, by simp, fun a ha b hb' => by simp at hb'; subst hb'; intro e; subst e; exact hn ha⟩
    · intro e' he'
      simp only [Array.toList_push, List.mem_append, List.mem_singleton] at he'
      rcases he' with he' | rfl
      · have := h3 e' he'; omega
      · show clock < clock + 1; omega
    · rw [Array.toList_push, List.map_append, List.nodup_append]
      refine ⟨h4, by simp, fun a ha c hc => ?_⟩
      simp only [List.map_cons, List.map_nil, List.mem_singleton] at hc
      obtain ⟨e', he', rfl⟩ := List.mem_map.1 ha
      have := h3 e' he'
      omega
    · intro i k e' hi he'
      rw [putKey, if_neg hn, List.getElem?_append] at hi
      rw [Array.toList_push, List.getElem?_append] at he'
      split at hi
      · rename_i hlt
        rw [if_pos (by omega)] at he'
        exact h5 i k e' hi he'
      · rename_i hge
        rw [if_neg (by omega)] at he'
        have hi0 : i - keys.length = 0 := by
          have := (List.getElem?_eq_some_iff.1 hi).1
          simp at this; omega
        rw [hi0] at hi
        rw [hlen, hi0] at he'
        simp at hi he'
        subst hi he'
        exact h6 _ hn
    · intro i e' hi he'
      rw [putKey, if_neg hn, List.getElem?_append] at hi
      rw [Array.toList_push, List.getElem?_append] at he'
      split at hi
      · exact (hn (List.mem_of_getElem? hi)).elim
      · rename_i hge
        rw [if_neg (by omega)] at he'
        have hi0 : i - keys.length = 0 := by
          have := (List.getElem?_eq_some_iff.1 hi).1
          simp at this; omega
        rw [hlen, hi0] at he'
        simp at he'
        subst he'
        exact hst
  · have hmem : key ∈ keys := List.mem_of_getElem? hj
    have hkey : en.key = .int .i64 key := by
      have := congrArg (fun l => l[j]?) h1
      simp only [List.getElem?_map, he, hj, Option.map_some, Option.some.injEq] at this
      exact this
    have hee : es[j]? = some en := by simpa using he
    have hst : (Instr.keyThatStays en.key (.int .i64 key)).run P w = .ok (.int .i64 key) w := by
      rw [hkey]
      have : Instr.sameBits 10000 (.int .i64 key) (.int .i64 key) = true := by simp [Instr.sameBits]
      simp [Instr.keyThatStays, this]
    have hmod : (es.modify j fun e => { e with key := .int .i64 key }) = es := by
      apply Array.ext_getElem?
      intro i
      rw [Array.getElem?_modify]
      split
      · rename_i e; subst e; rw [hee]; simp only [Option.map_some]; rw [← hkey]
      · rfl
    have hstamp := h7 j en hj he
    refine ⟨b, es, clock, en.val, rfl, hbl, ?_, h5 j key en hj he, ?_, ?_, h3, h4, ?_, ?_⟩
    · simp [Instr.mapEntry, run_under hu, MapKept.run_getObj_map hb, checkKey_int hk, Instr.findKey, run_under hk, hf, MapKept.run_setObj_map _ hb, hee, hst, hmod, goInt, hstamp]
    · rw [putKey, if_pos hmem, h1]
    · rw [putKey, if_pos hmem]; exact h2
    · rw [putKey, if_pos hmem]; exact h5
    · rw [putKey, if_pos hmem]; exact h7

/-- The second step: the entry gets its value. -/
theorem entryStore_run {t : TypeId} {M : Nat → Prop} {z : Value} {keys : List Int} {get : Int → SV} {key stamp : Int} {v x : Value} (h : EntOK w M z keys get key stamp true v) :
    ∃ (b : Nat) (es' : Array MapEntry) (clock' : Nat), v = .map (some b) ∧ b < w.heap.size ∧ (Instr.entryStore t v (.int .i64 stamp) x).run P w = .ok () { w with heap := w.heap.setIfInBounds b (.map es' clock') } ∧
      es'.toList.map (·.key) = keys.map (Value.int .i64) ∧ keys.Nodup ∧ (∀ e ∈ es'.toList, e.born < clock') ∧ (es'.toList.map (·.born)).Nodup ∧
      ∀ (i : Nat) k e', keys[i]? = some k → es'.toList[i]? = some e' → (k = key ∧ e'.val = x) ∨ (k ≠ key ∧ Den w M (get k) e'.val) := by
  obtain ⟨b, es, clock, rfl, hb, h1, h2, h3, h4, h5, h6, h7, h8, h9⟩ := h
  have hbl : b < w.heap.size := (Array.getElem?_eq_some_iff.1 hb).1
  have hlen : es.toList.length = keys.length := by have := congrArg List.length h1; simpa using this
  obtain ⟨j, hj⟩ := List.mem_iff_getElem?.1 (h9 rfl)
  have hjl : j < es.toList.length := by rw [hlen]; exact (List.getElem?_eq_some_iff.1 hj).1
  have hen := List.getElem?_eq_getElem hjl
  generalize hde : es.toList[j] = en at hen
  have hee : es[j]? = some en := by simpa using hen
  have hstamp := h7 j en hj hen
  have hjs : j < es.size := by simpa using hjl
  have hinj : ∀ i, i < es.size → ∀ e, es[i]? = some e → (e.born : Int) = stamp → i = j := by
    intro i hi e hie hb'
    have hbb : e.born = en.born := by omega
    have i1 : (es.toList.map (·.born))[i]? = some e.born := by rw [List.getElem?_map, Array.getElem?_toList, hie]; rfl
    have i2 : (es.toList.map (·.born))[j]? = some e.born := by rw [List.getElem?_map, hen, hbb]; rfl
    have q1 := List.getElem?_eq_some_iff.1 i1
    have q2 := List.getElem?_eq_some_iff.1 i2
    exact (List.getElem_inj h4).1 (q1.2.trans q2.2.symm)
  have hfi : es.findIdx? (fun e => (e.born : Int) == stamp) = some j := by
    rw [Array.findIdx?_eq_some_iff_getElem]
    refine ⟨hjs, ?_, fun i hi => ?_⟩
    · have : es[j] = en := by rw [Array.getElem?_eq_getElem hjs] at hee; injection hee
      rw [this]; simpa using hstamp
    · have hil : i < es.size := by omega
      have := hinj i hil es[i] (Array.getElem?_eq_getElem hil)
      intro hc
      have := this (by simpa using hc)
      omega
  have hmod : ∀ i, (es.modify j fun e => { e with val := x }).toList[i]? = if i = j then some { en with val := x } else es.toList[i]? := by
    intro i
    simp only [Array.getElem?_toList, Array.getElem?_modify]
    by_cases e : j = i
    · subst e; simp [hee]
    · rw [if_neg e, if_neg (Ne.symm e)]
  refine ⟨b, es.modify j fun e => { e with val := x }, clock, rfl, hbl, ?_, ?_, h2, ?_, ?_, ?_⟩
  · simp [Instr.entryStore, MapKept.run_getObj_map hb, asInt, asIntOf, hfi, MapKept.run_setObj_map _ hb]
  · rw [← h1]
    apply List.ext_getElem?
    intro i
    rw [List.getElem?_map, List.getElem?_map, hmod]
    split
    · rename_i e; subst e; rw [hen]; rfl
    · rfl
  · intro e' he'
    obtain ⟨i, hi⟩ := List.mem_iff_getElem?.1 he'
    rw [hmod] at hi
    split at hi
    · injection hi with hi; subst hi; exact h3 en (List.mem_of_getElem? hen)
    · exact h3 e' (List.mem_of_getElem? hi)
  · have : (es.modify j fun e => { e with val := x }).toList.map (·.born) = es.toList.map (·.born) := by
      apply List.ext_getElem?
      intro i
      rw [List.getElem?_map, List.getElem?_map, hmod]
      split
      · rename_i e; subst e; rw [hen]; rfl
      · rfl
    rw [this]; exact h4
  · intro i k e' hi he'
    rw [hmod] at he'
    by_cases e : i = j
    · subst e
      rw [if_pos rfl] at he'
      injection he' with he'
      subst he'
      rw [hj] at hi
      injection hi with hi
      exact .inl ⟨hi.symm, rfl⟩
    · rw [if_neg e] at he'
      refine .inr ⟨fun hkn => e ?_, h5 i k e' hi he'⟩
      subst hkn
      have i1 := (List.getElem?_eq_some_iff.1 hi)
      have i2 := (List.getElem?_eq_some_iff.1 hj)
      exact (List.getElem_inj h2).1 (i1.2.trans i2.2.symm)

/-- A block of a map is turned. -/
theorem behind_map {G : Nat → Option Bool} {sv : Nat → Value} {st : St} (hb : Behind w0 M0 G sv st L w) {i : Nat} {S : SemBlk} {k' : Blk} {b : Nat} {es' : Array MapEntry} {clock' : Nat} (hi : st.tb[i]? = some (.sem S)) (hmu : S.mu = true) (hL : L i = .map (some b)) (hbl : b < w.heap.size)
    (hk : ∀ M' : Nat → Prop, (∀ s v, Den w (mset M0 st.tb L) s v → Den { w with heap := w.heap.setIfInBounds b (.map es' clock') } M' s v) → BlkOK { w with heap := w.heap.setIfInBounds b (.map es' clock') } M' 0 k' (L i)) :
    Behind w0 M0 G sv { st with tb := st.tb.set i k' } L { w with heap := w.heap.setIfInBounds b (.map es' clock') } ∧
      ∀ s v, Den w (mset M0 st.tb L) s v → Den { w with heap := w.heap.setIfInBounds b (.map es' clock') } (mset M0 (st.tb.set i k') L) s v := by
  have hil : i < st.tb.length := (List.getElem?_eq_some_iff.1 hi).1
  have hg : w.grownBy { w with heap := w.heap.setIfInBounds b (.map es' clock') } (blkNo (L i)) := by
    rw [hL]
    refine ⟨rfl, rfl, rfl, by simp, fun k' _ hk' => ?_⟩
    have : b ≠ k' := fun e => hk' (by rw [← e]; rfl)
    simp [Array.getElem?_setIfInBounds, this]
  have hms := mset_set (w := w) (M0 := M0) (L := L) (tb := st.tb) (k' := k') (v := L i) hi hmu (fun _ h => .inl h)
  have hup : upd L i (L i) = L := funext fun j => by unfold upd; split <;> simp_all
  rw [hup] at hms
  have hext : Ext (mset M0 st.tb L) w { w with heap := w.heap.setIfInBounds b (.map es' clock') } :=
    ⟨hg.os, hg.tape, hg.output, hg.size, fun k' hk' hnk => hg.block k' hk' (fun e => hnk (.inr ⟨i, _, hi, hmu, e.symm⟩))⟩
  have hden : ∀ s v, Den w (mset M0 st.tb L) s v → Den { w with heap := w.heap.setIfInBounds b (.map es' clock') } (mset M0 (st.tb.set i k') L) s v := fun s v h => h.ext hext hms
  have hset := hb.inv.set (k' := k') (v := L i) hi hmu hg (fun c' hc' => ⟨.inl hc', by
    have := (hb.inv.low i c' hil hc').2
    simpa using this⟩) (by rw [hup]; exact hk _ hden)
  rw [hup] at hset
  refine ⟨⟨hset.1, fun t => ?_⟩, hden⟩
  refine LDen.turn hden (fun _ _ => rfl) (by simp) (fun q t' sz n mu g hq => ?_) _ _ (hb.slot t)
  have hne : i ≠ q := fun e => by subst e; rw [hi] at hq; cases hq
  exact ⟨t', mu, g, by rw [List.getElem?_set_ne hne]; exact hq⟩

theorem opB_sound {st st' : St} {o : SO} {obs : List Prop} {K : St → Prop} (h : opB P st o = some (st', obs)) (ho : AllP obs) (hk : K st') : GVC P o K st := by
  unfold opB at h
  split at h
  · rename_i d x xs
    split at h
    · rename_i hno
      refine GVC.step ?_
      show opVC P st (.nilCheck x) d K
      intro w0 M0 G sv L w ρ o ho' hM0 hb hρ
      have hx := hρ x
      split at h
      · rename_i i k hev
        simp only [Option.some.injEq, Prod.mk.injEq] at h
        obtain ⟨rfl, rfl⟩ := h
        rw [hev] at hx
        obtain ⟨_, b, h1, h2⟩ := id hx
        refine ⟨ρ x, w, st, .ptr i k, L, .inl ?_, hk, hb, hx, rfl, fun t => noOptB_look t _ hno⟩
        simp [execOp, ho', h2]
      · rename_i cs k hev
        simp only [Option.some.injEq, Prod.mk.injEq] at h
        obtain ⟨rfl, rfl⟩ := h
        rw [hev] at hx
        have hx' : Den w (mset M0 st.tb L) (.ref cs k) (ρ x) := hx
        have hp : ∃ a, ρ x = .pointer (some a) := by
          generalize ρ x = vx at hx'
          cases hx'
          exact ⟨_, rfl⟩
        obtain ⟨a, ha⟩ := hp
        refine ⟨ρ x, w, st, .sv (.ref cs k), L, .inl ?_, hk, hb, hx, rfl, fun t => noOptB_look t _ hno⟩
        simp [execOp, ho', ha]
      · cases h
    · cases h
  · rename_i d t m k xs
    split at h
    · rename_i hno
      split at h
      · rename_i i obs' n hent hkn
        split at h
        · rename_i S hi
          split at h
          · rename_i z' keys get key stamp hinfo
            simp only [Option.some.injEq, Prod.mk.injEq] at h
            obtain ⟨rfl, rfl⟩ := h
            obtain ⟨ho1, ho2⟩ := AllP_app _ _ ho
            obtain ⟨rfl, hz, _⟩ := ho2
            refine GVC.step ?_
            show opVC P st (.mapEntry t m k) d K
            intro w0 M0 G sv L w ρ o ho' hM0 hb hρ
            have hm := hρ m
            have hk' := hρ k
            rw [hkn] at hk'
            have hk2 : ρ k = .int .i64 n := by
              have hk3 : Den w (mset M0 st.tb L) (.int .i64 n) (ρ k) := hk'
              generalize ρ k = vk at hk3
              cases hk3; rfl
            have hml := entOfLV_sound (fun y => hρ y) hent ho1 hm
            obtain ⟨hmu, hS⟩ := S.spec _ _ _ _ _ _ hinfo
            have hok := hS _ _ _ (hb.inv.ok i _ hi)
            obtain ⟨b, es', clock', u, hL, hbl, hrun, hu, k1, k2, k3, k4, k5, k6⟩ := mapEntry_run hz hok
            obtain ⟨hB, hden⟩ := behind_map (es' := es') (clock' := clock') (k' := .sem (entS z' (putKey keys n) get n stamp true)) hb hi hmu hL hbl (fun M' hd => by
              rw [hL]
              refine ⟨b, es', clock', rfl, by simp [hbl], k1, k2, k3, k4, fun j k e hj he => hd _ _ (k5 j k e hj he), fun k hk => ?_, k6, fun hn => ?_, fun _ => ?_⟩
              · obtain ⟨_, _, _, _, _, _, _, _, _, _, h6, _⟩ := hok
                refine hd _ _ (h6 k fun hm => hk ?_)
                unfold putKey; split <;> simp [hm]
              · exfalso; apply hn; unfold putKey; split <;> simp_all
              · unfold putKey; split <;> simp_all)
            refine ⟨.tuple #[u, .int .i64 stamp], _, _, .sv (.tup [get n, .int .i64 stamp]), L, .inl ?_, hk, hB, ?_, rfl, fun t => noOptB_look t _ hno⟩
            · simp only [execOp, ho', hml, hk2]
              exact run_v hrun
            · refine .tup _ _ rfl fun q s v hs hv => ?_
              match q, hs, hv with
              | 0, hs, hv => cases hs; cases hv; exact hden _ _ hu
              | 1, hs, hv => cases hs; cases hv; exact .int _ _
              | q + 2, hs, _ => simp at hs
          · cases h
        · cases h
      · cases h
    · cases h
  · rename_i d t m s x xs
    split at h
    · rename_i hno
      split at h
      · rename_i i obs' q sx hent hsn hxn
        split at h
        · rename_i S hi
          split at h
          · rename_i z keys get key stamp hinfo
            simp only [Option.some.injEq, Prod.mk.injEq] at h
            obtain ⟨rfl, rfl⟩ := h
            obtain ⟨ho1, ho2⟩ := AllP_app _ _ ho
            obtain ⟨rfl, _⟩ := ho2
            refine GVC.step ?_
            show opVC P st (.entryStore t m s x) d K
            intro w0 M0 G sv L w ρ o ho' hM0 hb hρ
            have hm := hρ m
            have hs' := hρ s
            rw [hsn] at hs'
            have hs2 : ρ s = .int .i64 q := by
              have hs3 : Den w (mset M0 st.tb L) (.int .i64 q) (ρ s) := hs'
              generalize ρ s = vs at hs3
              cases hs3; rfl
            have hx' := hρ x
            rw [hxn] at hx'
            have hx2 : Den w (mset M0 st.tb L) sx (ρ x) := hx'
            have hml := entOfLV_sound (fun y => hρ y) hent ho1 hm
            obtain ⟨hmu, hS⟩ := S.spec _ _ _ _ _ _ hinfo
            have hok := hS _ _ _ (hb.inv.ok i _ hi)
            obtain ⟨b, es', clock', hL, hbl, hrun, k1, k2, k3, k4, k5⟩ := entryStore_run (P := P) (t := t) (x := ρ x) hok
            have hkk : key ∈ keys := by obtain ⟨_, _, _, _, _, _, _, _, _, _, _, _, _, h9⟩ := hok; exact h9 rfl
            obtain ⟨hB, hden⟩ := behind_map (es' := es') (clock' := clock') (k' := .map z keys (putGet key sx get)) hb hi hmu hL hbl (fun M' hd => by
              rw [hL]
              refine ⟨b, es', clock', rfl, by simp [hbl], k1, k2, k3, k4, fun j k e hj he => ?_, fun k hk => ?_⟩
              · rcases k5 j k e hj he with ⟨rfl, he2⟩ | ⟨hne, he2⟩
                · rw [putGet, if_pos rfl, he2]; exact hd _ _ hx2
                · rw [putGet, if_neg hne]; exact hd _ _ he2
              · have hne : k ≠ key := fun e => hk (e ▸ hkk)
                rw [putGet, if_neg hne]
                obtain ⟨_, _, _, _, _, _, _, _, _, _, h6, _⟩ := hok
                exact hd _ _ (h6 k hk))
            refine ⟨undef, _, _, .any, L, .inr ⟨?_, rfl⟩, hk, hB, trivial, rfl, fun t => noOptB_look t _ hno⟩
            simp only [execOp, ho', hml, hs2]
            simp [hrun]
          · cases h
        · cases h
      · cases h
    · cases h
  · rename_i d z ok s k
    split at h
    · rename_i u hs
      split at h
      · rename_i i v hn
        split at h
        · rename_i x ob hp
          simp only [Option.some.injEq, Prod.mk.injEq] at h
          obtain ⟨rfl, rfl⟩ := h
          obtain ⟨rfl, hob, _⟩ := ho
          refine GVC.view (fun st' => st' = ⟨(s, .own i) :: st.sl, st.tb⟩) (fun w0 M0 G sv L w hM0 hb => ?_) (fun st' e => e ▸ GVC.step ?_)
          · have h1 := hb.slot s
            rw [hs] at h1
            have h2 := hb.slot (nmSlot i)
            have h3 : look st.sl (nmSlot i) = .isv i v := nmMap_spec _ hn
            rw [h3] at h2
            have h4 : Den w (mset M0 st.tb L) (.val v) (sv s) := h1
            refine ⟨_, L, rfl, ⟨hb.inv, fun t => ?_⟩, fun t => ?_⟩
            · simp only [look]
              split
              · rename_i e; subst e
                refine ⟨h2.1, ?_⟩
                generalize sv s = x at h4
                cases h4
                exact h2.2.symm
              · exact hb.slot t
            · simp only [look]
              split
              · exact .inr rfl
              · exact .inl rfl
          · show stepVC P ⟨(s, .own i) :: st.sl, st.tb⟩ ⟨d, .lookup z ok (.tmp s) k, none⟩ K
            simp only [stepVC, pureVC, hp]
            exact ⟨hob, hk⟩
        · cases h
      · cases h
    · cases h
  · cases h
end
end Go.Sx

