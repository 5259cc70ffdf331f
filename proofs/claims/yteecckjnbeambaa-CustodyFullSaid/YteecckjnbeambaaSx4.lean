/- A symbolic executor for the code of Go functions: calls that are handed blocks; regions that are cut. -/
import Derived.Maps.RangeRun
import Derived.Test.YteecckjnbeambaaSx3
import Derived.KernelRfl
/- Contracts of functions that are handed blocks of the caller's: rows, maps, cells. -/
namespace Go.Sx
open Go Go.RowKit
set_option linter.unusedVariables false
set_option linter.unusedSimpArgs false

abbrev noG0 : Nat → Option Bool := fun _ => none

/-- The blocks of a table. -/
def XB (tb : List Blk) (L : Nat → Value) (b : Nat) : Prop := ∃ i, i < tb.length ∧ blkNo (L i) = some b

/-- A way out: the results, the table, the names that are known. -/
structure Out where
  res : List LV
  tb : List Blk
  nm : List (Nat × Value)

def resDen (G : Nat → Option Bool) (w : World) (M : Nat → Prop) (L : Nat → Value) (tb : List Blk) (xs : List LV) (v : Value) : Prop :=
  ∃ vs : List Value, xs.length = vs.length ∧ (v = match vs with | [u] => u | l => .tuple l.toArray) ∧ ∀ (i : Nat) x u, xs[i]? = some x → vs[i]? = some u → LDen G w M L tb x u

def SpecX (P : Program) (f : FuncId) (us : Nat → Value) (as : List LV) (tb : List Blk) (O : Out → Prop) : Prop :=
  HasBody P f ∧ ∀ (w : World) (M0 : Nat → Prop) (L : Nat → Value) (vs : Array Value), (∀ i, i < tb.length → L i = us i) → Safe ⟨w, XB tb L⟩ M0 → Inv ⟨w, XB tb L⟩ M0 L tb w → as.length = vs.size →
    (∀ (i : Nat) x v, as[i]? = some x → vs[i]? = some v → LDen noG0 w (mset M0 tb L) L tb x v) →
    Calls P f vs w fun e w' => ∃ v o L', e = .returned v ∧ O o ∧ Inv ⟨w, XB tb L⟩ M0 L' o.tb w' ∧ resDen noG0 w' (mset M0 o.tb L') L' o.tb o.res v ∧ ∀ p ∈ o.nm, p.1 < o.tb.length ∧ L' p.1 = p.2

/-- The slots at the start: the arguments, and the names of what is handed over. -/
def initLV (k : Nat) : List LV → List (Nat × LV)
  | [] => []
  | x :: r => (k, x) :: initLV (k + 1) r

def initNm (us : Nat → Value) : Nat → List (Nat × LV)
  | 0 => []
  | n + 1 => (nmSlot n, .isv n (us n)) :: initNm us n

def initX (as : List LV) (tb : List Blk) (us : Nat → Value) : St := ⟨initLV 0 as ++ initNm us tb.length, tb⟩

def resTmp : SR → Option Nat
  | .tmp t => some t
  | _ => none

/-- The state at the end of such a function. -/
def outSt (ts : List Nat) (o : Out) : St := ⟨ts.zip o.res ++ o.nm.map (fun p => (nmSlot p.1, .isv p.1 p.2)), o.tb⟩

def nodupB : List Nat → Bool
  | [] => true
  | x :: r => !r.contains x && nodupB r

def tsOK (ts : List Nat) (o : Out) : Bool := nodupB (o.nm.map (·.1)) && nodupB ts && ts.all (fun t => decide (t < 2000000)) && decide (ts.length = o.res.length)

/-- The end of such a function. -/
def FinX (srs : List SR) (O : Out → Prop) (e : Exit) (st : St) : Prop :=
  (e = .normal ∨ e = .ret) ∧ ∃ ts, optList (srs.map resTmp) = some ts ∧ ∃ o, O o ∧ tsOK ts o = true ∧ Le st (outSt ts o)

theorem look_zip : ∀ (ts : List Nat) (xs : List LV) (r : List (Nat × LV)) (i t : Nat) (x : LV), nodupB ts = true → ts[i]? = some t → xs[i]? = some x → look (ts.zip xs ++ r) t = x
  | t0 :: ts, x0 :: xs, r, 0, t, x, _, ht, hx => by
    simp at ht hx; subst ht hx; simp [look]
  | t0 :: ts, x0 :: xs, r, i + 1, t, x, hn, ht, hx => by
    simp only [nodupB, Bool.and_eq_true, Bool.not_eq_true'] at hn
    have hne : t0 ≠ t := fun e => by
      subst e
      have : t0 ∈ ts := List.mem_of_getElem? (by simpa using ht)
      have h2 := hn.1
      simp [this] at h2
    simp only [List.zip_cons_cons, List.cons_append, look, if_neg hne]
    exact look_zip ts xs r i t x hn.2 (by simpa using ht) (by simpa using hx)
  | [], _, _, _, _, _, _, ht, _ => by simp at ht
  | _ :: _, [], _, _, _, _, _, _, hx => by simp at hx

theorem look_skip : ∀ (ts : List Nat) (xs : List LV) (r : List (Nat × LV)) (t : Nat), t ∉ ts → look (ts.zip xs ++ r) t = look r t
  | [], xs, r, t, _ => by simp
  | t0 :: ts, [], r, t, _ => by simp
  | t0 :: ts, x0 :: xs, r, t, h => by
    simp only [List.mem_cons, not_or] at h
    simp only [List.zip_cons_cons, List.cons_append, look, if_neg (Ne.symm h.1)]
    exact look_skip ts xs r t h.2

theorem look_nm : ∀ (nm : List (Nat × Value)) (r : List (Nat × LV)) (i : Nat) (v : Value), nodupB (nm.map (·.1)) = true → (i, v) ∈ nm → look (nm.map (fun p => (nmSlot p.1, LV.isv p.1 p.2)) ++ r) (nmSlot i) = .isv i v
  | [], r, i, v, _, h => by simp at h
  | (j, u) :: nm, r, i, v, hn, h => by
    simp only [List.map_cons, nodupB, Bool.and_eq_true, Bool.not_eq_true'] at hn
    simp only [List.map_cons, List.cons_append, look]
    rcases List.mem_cons.1 h with h | h
    · simp only [Prod.mk.injEq] at h
      obtain ⟨rfl, rfl⟩ := h
      rw [if_pos rfl]
    · have hne : nmSlot j ≠ nmSlot i := fun e => by
        have : j = i := by unfold nmSlot at e; omega
        subst this
        have h1 : j ∈ nm.map (·.1) := List.mem_map.2 ⟨(j, v), h, rfl⟩
        have h2 := hn.1
        simp only [List.contains_eq_mem, decide_eq_false_iff_not] at h2
        exact h2 h1
      rw [if_neg hne]
      exact look_nm nm r i v hn.2 h

theorem look_initNm (us : Nat → Value) (t : Nat) : ∀ n, look (initNm us n) t = if nmSlot 0 ≤ t ∧ t < nmSlot n then .isv (t - nmSlot 0) (us (t - nmSlot 0)) else .any
  | 0 => by simp only [initNm, look]; rw [if_neg (by omega)]
  | n + 1 => by
    simp only [initNm, look, look_initNm us t n]
    by_cases e : nmSlot n = t
    · subst e
      rw [if_pos rfl, if_pos (by unfold nmSlot; omega)]
      have : nmSlot n - nmSlot 0 = n := by unfold nmSlot; omega
      rw [this]
    · rw [if_neg e]
      by_cases h : nmSlot 0 ≤ t ∧ t < nmSlot n
      · rw [if_pos h, if_pos (by unfold nmSlot at *; omega)]
      · rw [if_neg h, if_neg (by unfold nmSlot at *; omega)]

theorem look_initLV (t : Nat) : ∀ (as : List LV) (k : Nat), look (initLV k as) t = if k ≤ t then (as[t - k]?).getD .any else .any
  | [], k => by simp [initLV, look]
  | x :: r, k => by
    simp only [initLV, look, look_initLV t r (k + 1)]
    by_cases e : k = t
    · subst e; simp
    · rw [if_neg e]
      by_cases h : k ≤ t
      · rw [if_pos h, if_pos (by omega), show t - k = (t - (k + 1)) + 1 by omega]; simp
      · rw [if_neg h, if_neg (by omega)]

theorem initLV_any (t : Nat) : ∀ (as : List LV) (k : Nat), (initLV k as).any (fun p => p.1 == t) = decide (k ≤ t ∧ t < k + as.length)
  | [], k => by simp [initLV]
  | x :: r, k => by
    simp only [initLV, List.any_cons, initLV_any t r (k + 1), List.length_cons]
    by_cases e : k = t
    · subst e; simp
    · have : (k == t) = false := by simpa using e
      rw [this, Bool.false_or]
      exact decide_eq_decide.2 (by omega)

theorem mapM_tmps {P : Program} {w : World} (tmps : Array Value) : ∀ (rvs : List ResultVar) (srs : List SR) (ts : List Nat), optList (rvs.map (slimR P)) = some srs → optList (srs.map resTmp) = some ts →
    (rvs.mapM fun
      | .tmp t => pure (tmps.getD t undef)
      | .cell x t => do loadVar t (← asAddr (tmps.getD x undef)) : Sem (List Value)).run P w = .ok (ts.map fun t => tmps.getD t undef) w
  | [], srs, ts, h1, h2 => by
    simp [optList] at h1
    subst h1
    simp [optList] at h2
    subst h2
    rfl
  | rv :: rvs, srs, ts, h1, h2 => by
    simp only [List.map_cons] at h1
    cases hr : slimR P rv with
    | none => rw [hr] at h1; simp [optList] at h1
    | some sr =>
      rw [hr] at h1
      simp only [optList] at h1
      split at h1
      · rename_i srs' hsrs
        injection h1 with h1
        subst h1
        simp only [List.map_cons] at h2
        cases ht : resTmp sr with
        | none => rw [ht] at h2; simp [optList] at h2
        | some t =>
          rw [ht] at h2
          simp only [optList] at h2
          split at h2
          · rename_i ts' hts
            injection h2 with h2
            subst h2
            have ih := mapM_tmps (P := P) (w := w) tmps rvs srs' ts' hsrs hts
            cases rv with
            | tmp t' =>
              simp [slimR] at hr
              subst hr
              simp [resTmp] at ht
              subst ht
              rw [List.mapM_cons]
              simp only [Sem.run_bind, Sem.run_pure, List.map_cons, Result.andThen_ok]
              rw [ih]
              rfl
            | cell a' t' =>
              simp only [slimR] at hr
              (repeat' split at hr) <;> simp at hr
              all_goals (subst hr; simp [resTmp] at ht)
          · cases h2
      · cases h1

theorem specX_of_exec {P : Program} {f : FuncId} {fn : Func} {hv : List Nat × List Nat} {F : Fn} {us : Nat → Value} {as : List LV} {tb : List Blk} {O : Out → Prop} (hm : P.follows .mixedOrders = true) (hf : P.funcs[f]? = some fn) (hs : slimFn P hv fn = some F)
    (hn : as.length ≤ F.N) (hN2 : F.N ≤ 2000000) (hof : ∀ x ∈ as, optFree x = true)
    (h : ∃ st1, Weak (initX as tb us) st1 ∧ exec P F.code st1 (FinX F.res O)) : SpecX P f us as tb O := by
  obtain ⟨c, hb, hsl, hr, hname, hN⟩ := slimFn_spec hs
  rw [hN] at hn hN2
  have hgf : ∀ y, optFree y = true → gsl y = [] := by
    intro y hy
    cases y <;> first | rfl | simp [optFree] at hy
  refine ⟨⟨fn, hf, by rw [hb]; rfl, hname⟩, fun w M0 L vs hus hsafe hinv hl hd => ?_⟩
  obtain ⟨st1, hw, h⟩ := h
  have hlook : ∀ t, look (initX as tb us).sl t = if t < as.length then (as[t]?).getD .any else look (initNm us tb.length) t := by
    intro t
    simp only [initX]
    rw [look_append, initLV_any]
    by_cases ht : t < as.length
    · rw [if_pos (by simpa using ht), if_pos ht, look_initLV, if_pos (Nat.zero_le _), Nat.sub_zero]
    · rw [if_neg (by simpa using ht), if_neg ht]
  have hno : ∀ t, gsl (look (initX as tb us).sl t) = [] := by
    intro t
    rw [hlook]
    split
    · rename_i ht
      rw [List.getElem?_eq_getElem ht]
      exact hgf _ (hof _ (List.getElem_mem ht))
    · rw [look_initNm]
      split <;> rfl
  have hrel : Rel fn.ntmps ⟨w, XB tb L⟩ M0 (initX as tb us) { tmps := vs ++ Array.replicate (fn.ntmps - vs.size) undef, defers := [] } w := by
    refine ⟨L, { inv := hinv, size := by simp; omega, defers := rfl, slot := fun t => ?_ }, hno⟩
    have hnt := hno t
    rw [hlook] at hnt ⊢
    split
    · rename_i ht
      have hlt : t < vs.size := by rw [← hl]; exact ht
      have hv : vs[t]? = some vs[t] := by simp [hlt]
      have : (vs ++ Array.replicate (fn.ntmps - vs.size) undef).getD t undef = vs[t] := by
        rw [Array.getD_eq_getD_getElem?, Array.getElem?_append, if_pos hlt, hv]
        rfl
      simp only [this]
      rw [if_pos ht] at hnt
      rw [List.getElem?_eq_getElem ht] at hnt ⊢
      exact LDen.congrG _ _ (fun s hs => by simp only [Option.getD_some] at hnt; simp only [Option.getD_some] at hs; rw [hnt] at hs; simp at hs) (hd t _ _ (List.getElem?_eq_getElem ht) hv)
    · rw [look_initNm]
      split
      · rename_i h1
        have hlt : t - nmSlot 0 < tb.length := by unfold nmSlot at *; omega
        exact ⟨hlt, hus _ hlt⟩
      · trivial
  refine calls_of_wp hf hb (wp_mono (exec_sound hm hsafe c F.code hsl _ st1 _ w (hrel.weak hw) h) fun e a' w' he => ?_)
  obtain ⟨st', ⟨he, ts, hts, o, hO, hok, hle⟩, L1, hR1, hno1⟩ := he
  obtain ⟨L', hR, hno'⟩ := hR1.le hle
  simp only [tsOK, Bool.and_eq_true, decide_eq_true_eq, List.all_eq_true] at hok
  obtain ⟨⟨⟨hnn, hnt⟩, hsmall⟩, hlen⟩ := hok
  have hrun := mapM_tmps (P := P) (w := w') a'.tmps _ _ _ hr hts
  have hv : ∃ v, (results fn a'.tmps).run P w' = .ok v w' ∧ v = (match ts.map fun t => a'.tmps.getD t undef with | [u] => u | l => .tuple l.toArray) := by
    unfold results
    rw [Array.mapM_eq_mapM_toList]
    simp only [Sem.run_bind, Sem.run_map]
    erw [hrun]
    simp only [Result.andThen_ok]
    match ts with
    | [] => exact ⟨_, by simp, rfl⟩
    | [t] => exact ⟨_, by simp, rfl⟩
    | t1 :: t2 :: r => exact ⟨_, by simp, rfl⟩
  obtain ⟨v, hv1, hv2⟩ := hv
  have hfin : a'.defers = [] ∧ ∃ v, (results fn a'.tmps).run P w' = .ok v w' ∧ ∃ v' o L'', Ending.returned v = .returned v' ∧ O o ∧ Inv ⟨w, XB tb L⟩ M0 L'' o.tb w' ∧ resDen noG0 w' (mset M0 o.tb L'') L'' o.tb o.res v' ∧ ∀ p ∈ o.nm, p.1 < o.tb.length ∧ L'' p.1 = p.2 := by
    refine ⟨hR.defers, v, hv1, v, o, L', rfl, hO, hR.inv, ⟨ts.map fun t => a'.tmps.getD t undef, by simp [hlen], hv2, fun i x u hx hu => ?_⟩, fun p hp => ?_⟩
    · rw [List.getElem?_map] at hu
      cases ht : ts[i]? with
      | none => rw [ht] at hu; cases hu
      | some t =>
        rw [ht] at hu
        simp only [Option.map_some, Option.some.injEq] at hu
        subst hu
        have := hR.slot t
        simp only [outSt] at this
        rw [look_zip ts o.res _ i t x hnt ht hx] at this
        have hnx := hno' t
        simp only [outSt] at hnx
        rw [look_zip ts o.res _ i t x hnt ht hx] at hnx
        exact LDen.congrG _ _ (fun s hs => by rw [hnx] at hs; simp at hs) this
    · have := hR.slot (nmSlot p.1)
      simp only [outSt] at this
      rw [look_skip ts _ _ _ (fun h => by have := hsmall _ h; unfold nmSlot at this; omega)] at this
      have h2 := look_nm o.nm [] p.1 p.2 hnn hp
      rw [List.append_nil] at h2
      rw [h2] at this
      exact this
  rcases he with rfl | rfl
  · exact hfin
  · exact hfin
end Go.Sx

/- Contracts of functions that are handed blocks: the caller's side. -/
namespace Go.Sx
open Go Go.RowKit
set_option linter.unusedVariables false
set_option linter.unusedSimpArgs false

/-- Where the blocks of a callee lie in the caller's table. -/
def rhoAt (rho : List Nat) (n i : Nat) : Nat :=
  match rho[i]? with
  | some j => j
  | none => n + (i - rho.length)

def setBlks : List Blk → List Nat → List Blk → List Blk
  | T, j :: rho, k :: ks => setBlks (T.set j k) rho ks
  | T, _, _ => T

def backTb (rho : List Nat) (T otb : List Blk) : List Blk := setBlks T rho otb ++ otb.drop rho.length

def idxIn : List Nat → Nat → Option Nat
  | [], _ => none
  | r :: rho, j => if r = j then some 0 else match idxIn rho j with
    | some i => some (i + 1)
    | none => none

def backL (rho : List Nat) (n : Nat) (L' L : Nat → Value) (j : Nat) : Value :=
  match idxIn rho j with
  | some i => L' i
  | none => if j < n then L j else L' (rho.length + (j - n))

def mapLV (rho : List Nat) (n : Nat) : LV → LV
  | .sv s => .sv s
  | .own i => .own (rhoAt rho n i)
  | .ptr i o => .ptr (rhoAt rho n i) o
  | _ => .any

/-- Is a block handed over whose handle is not known to be kept? -/
def lost : List Nat → List Nat → Nat → Nat → Bool
  | [], _, _, _ => false
  | r :: rho, kept, i, j => (r == j && !kept.contains i) || lost rho kept (i + 1) j

def killX (rho kept : List Nat) : LV → LV
  | .own j => if lost rho kept 0 j then .any else .own j
  | .ptr j o => if lost rho kept 0 j then .any else .ptr j o
  | .isv j v => if lost rho kept 0 j then .any else .isv j v
  | .rp j k o => if rho.contains j then .any else .rp j k o
  | .part j a b => if rho.contains j then .any else .part j a b
  | .exact j => if rho.contains j then .any else .exact j
  | .opt _ _ _ => .any
  | x => x

def killXs (rho kept : List Nat) : List (Nat × LV) → List (Nat × LV)
  | [] => []
  | (t, x) :: r => (t, killX rho kept x) :: killXs rho kept r

def lents : List LV → List LV → List LV
  | x :: xs, .sv _ :: as => x :: lents xs as
  | _ :: xs, _ :: as => lents xs as
  | _, _ => []

def nmOf : List (Nat × Value) → Nat → Option Value
  | [], _ => none
  | (j, v) :: r, i => if j = i then some v else nmOf r i

def resSV (nm : List (Nat × Value)) : LV → Option SV
  | .sv s => some s
  | .own i => match nmOf nm i with
    | some v => some (.val v)
    | none => none
  | .ptr i 0 => match nmOf nm i with
    | some v => some (.val v)
    | none => none
  | _ => none

def resX (rho : List Nat) (n : Nat) (o : Out) : Option LV :=
  match o.res with
  | [r] => some (mapLV rho n r)
  | l => match optList (l.map (resSV o.nm)) with
    | some ss => some (.sv (.tup ss))
    | none => none

def backSt (rho kept : List Nat) (sl : List (Nat × LV)) (T1 : List Blk) (o : Out) : St :=
  ⟨o.nm.map (fun p => (nmSlot (rhoAt rho T1.length p.1), LV.isv (rhoAt rho T1.length p.1) p.2)) ++ killXs rho kept sl, backTb rho T1 o.tb⟩

/-- What is to be shown for an argument. -/
def argX (rho : List Nat) (sl : List (Nat × LV)) (T : List Blk) (x : LV) : LV → List Prop
  | .any => []
  | .sv s' => match argSV T x with
    | some s => svObs s s'
    | none => [False]
  | .own i => match x with
    | .own j => if rho[i]? = some j then [] else [False]
    | .sv (.val v) => match rho[i]? with
      | some j => match look sl (nmSlot j) with
        | .isv j' v' => if j' = j then [v' = v] else [False]
        | _ => [False]
      | none => [False]
    | _ => [False]
  | .ptr i o => match x with
    | .ptr j o' => if rho[i]? = some j ∧ o = o' then [] else [False]
    | .sv (.val v) => match rho[i]? with
      | some j => match look sl (nmSlot j), T[j]? with
        | .isv j' v', some (.cells _ _ _) => if j' = j ∧ o = 0 then [v' = v] else [False]
        | _, _ => [False]
      | none => [False]
    | _ => [False]
  | _ => [False]

def argsX (rho : List Nat) (sl : List (Nat × LV)) (T : List Blk) : List LV → List LV → List Prop
  | [], [] => []
  | x :: xs, a :: as => argX rho sl T x a ++ argsX rho sl T xs as
  | _, _ => [False]

/-- What is to be shown for the blocks that are handed over. -/
def blksX (us : Nat → Value) (sl : List (Nat × LV)) (T1 : List Blk) : Nat → List Nat → List Blk → List Prop
  | _, [], [] => []
  | i, j :: rho, k' :: tb => (match T1[j]? with
      | some k => (if k.mut then [] else [False]) ++ blkObs k k'
      | none => [False]) ++ (match look sl (nmSlot j) with
      | .isv j' v => if j' = j then [v = us i] else [False]
      | _ => [False]) ++ blksX us sl T1 (i + 1) rho tb
  | _, _, _ => [False]

section
variable {rho kept : List Nat} {n : Nat}

theorem idxIn_some : ∀ (rho : List Nat) (j i : Nat), idxIn rho j = some i → rho[i]? = some j
  | r :: rho, j, i, h => by
    simp only [idxIn] at h
    split at h
    · rename_i e; injection h with h; subst h e; rfl
    · split at h
      · rename_i k hk; injection h with h; subst h; simpa using idxIn_some rho j k hk
      · cases h
  | [], _, _, h => by simp [idxIn] at h

theorem idxIn_of : ∀ (rho : List Nat) (i j : Nat), rho.Nodup → rho[i]? = some j → idxIn rho j = some i
  | [], i, j, _, h => by simp at h
  | r :: rho, 0, j, _, h => by simp at h; subst h; simp [idxIn]
  | r :: rho, i + 1, j, hn, h => by
    have h' : rho[i]? = some j := by simpa using h
    have hne : r ≠ j := fun e => by subst e; exact (List.nodup_cons.1 hn).1 (List.mem_of_getElem? h')
    simp only [idxIn, if_neg hne, idxIn_of rho i j (List.nodup_cons.1 hn).2 h']

theorem setBlks_length : ∀ (T : List Blk) (rho : List Nat) (ks : List Blk), (setBlks T rho ks).length = T.length
  | T, [], _ => by simp [setBlks]
  | T, _ :: _, [] => by simp [setBlks]
  | T, j :: rho, k :: ks => by rw [setBlks, setBlks_length]; simp

theorem setBlks_other : ∀ (T : List Blk) (rho : List Nat) (ks : List Blk) (j : Nat), j ∉ rho → (setBlks T rho ks)[j]? = T[j]?
  | T, [], _, _, _ => by simp [setBlks]
  | T, _ :: _, [], _, _ => by simp [setBlks]
  | T, r :: rho, k :: ks, j, h => by
    simp only [List.mem_cons, not_or] at h
    rw [setBlks, setBlks_other _ rho ks j h.2, List.getElem?_set_ne (Ne.symm h.1)]

theorem setBlks_at : ∀ (T : List Blk) (rho : List Nat) (ks : List Blk) (i j : Nat), rho.Nodup → (∀ r ∈ rho, r < T.length) → rho[i]? = some j → rho.length ≤ ks.length → (setBlks T rho ks)[j]? = ks[i]?
  | T, [], _, _, _, _, _, h, _ => by simp at h
  | T, _ :: _, [], _, _, _, _, _, h => by simp at h
  | T, r :: rho, k :: ks, 0, j, hn, hlt, h, hl => by
    simp at h; subst h
    rw [setBlks, setBlks_other _ rho ks r (List.nodup_cons.1 hn).1, List.getElem?_set_self (hlt r (by simp))]; rfl
  | T, r :: rho, k :: ks, i + 1, j, hn, hlt, h, hl => by
    rw [setBlks, setBlks_at _ rho ks i j (List.nodup_cons.1 hn).2 (fun r' hr' => by simp; exact hlt r' (by simp [hr'])) (by simpa using h) (by simpa using hl)]
    simp

theorem backTb_length {T otb : List Blk} : (backTb rho T otb).length = T.length + (otb.length - rho.length) := by
  simp [backTb, setBlks_length]

theorem backTb_at {T otb : List Blk} (hn : rho.Nodup) (hlt : ∀ r ∈ rho, r < T.length) (hl : rho.length ≤ otb.length) (i : Nat) : (backTb rho T otb)[rhoAt rho T.length i]? = otb[i]? := by
  unfold rhoAt
  cases h : rho[i]? with
  | some j =>
    have hj : j < T.length := hlt j (List.mem_of_getElem? h)
    simp only [backTb]
    rw [List.getElem?_append_left (by rw [setBlks_length]; exact hj)]
    exact setBlks_at T rho otb i j hn hlt h hl
  | none =>
    have hi : rho.length ≤ i := by simpa using h
    simp only [backTb]
    rw [List.getElem?_append_right (by rw [setBlks_length]; omega), setBlks_length, List.getElem?_drop]
    congr 1; omega

theorem backTb_other {T otb : List Blk} {j : Nat} (hj : j < T.length) (h : j ∉ rho) : (backTb rho T otb)[j]? = T[j]? := by
  unfold backTb
  rw [List.getElem?_append_left (by rw [setBlks_length]; exact hj), setBlks_other _ _ _ _ h]

theorem backL_at {L' L : Nat → Value} (hn : rho.Nodup) (hlt : ∀ r ∈ rho, r < n) (i : Nat) : backL rho n L' L (rhoAt rho n i) = L' i := by
  unfold rhoAt
  cases h : rho[i]? with
  | some j => simp only [backL, idxIn_of rho i j hn h]
  | none =>
    have hi : rho.length ≤ i := by simpa using h
    have hno : idxIn rho (n + (i - rho.length)) = none := by
      cases hx : idxIn rho (n + (i - rho.length)) with
      | none => rfl
      | some k =>
        have := hlt _ (List.mem_of_getElem? (idxIn_some _ _ _ hx))
        omega
    simp only [backL, hno]
    rw [if_neg (by omega)]
    congr 1; omega

theorem backL_other {L' L : Nat → Value} {j : Nat} (hj : j < n) (h : j ∉ rho) : backL rho n L' L j = L j := by
  unfold backL
  cases hx : idxIn rho j with
  | none => simp [hj]
  | some k => exact (h (List.mem_of_getElem? (idxIn_some _ _ _ hx))).elim

/-- An index of the table behind a call. -/
theorem back_cases {T otb : List Blk} (hl : rho.length ≤ otb.length) {j : Nat} (hj : j < (backTb rho T otb).length) : (∃ i, i < otb.length ∧ j = rhoAt rho T.length i) ∨ (j < T.length ∧ j ∉ rho) := by
  rw [backTb_length] at hj
  by_cases h : j ∈ rho
  · obtain ⟨i, hi⟩ := List.mem_iff_getElem?.1 h
    have := (List.getElem?_eq_some_iff.1 hi).1
    exact .inl ⟨i, by omega, by simp [rhoAt, hi]⟩
  · by_cases hjt : j < T.length
    · exact .inr ⟨hjt, h⟩
    · refine .inl ⟨rho.length + (j - T.length), by omega, ?_⟩
      have : rho[rho.length + (j - T.length)]? = none := by simp
      simp only [rhoAt, this]
      omega

theorem lost_kept : ∀ (rho kept : List Nat) (s j : Nat), lost rho kept s j = false → ∀ i, rho[i]? = some j → s + i ∈ kept
  | [], _, _, _, _, i, h => by simp at h
  | r :: rho, kept, s, j, hl, 0, h => by
    simp at h; subst h
    simp only [lost, Bool.or_eq_false_iff] at hl
    have := hl.1
    simp at this
    simpa using this
  | r :: rho, kept, s, j, hl, i + 1, h => by
    simp only [lost, Bool.or_eq_false_iff] at hl
    have := lost_kept rho kept (s + 1) j hl.2 i (by simpa using h)
    rwa [show s + (i + 1) = s + 1 + i by omega]

theorem look_killXs (rho kept : List Nat) (t : Nat) : ∀ sl : List (Nat × LV), look (killXs rho kept sl) t = killX rho kept (look sl t)
  | [] => rfl
  | (k, x) :: r => by
    simp only [killXs, look]
    split
    · rfl
    · exact look_killXs rho kept t r

theorem killX_free (x : LV) : optFree (killX rho kept x) = true := by
  cases x <;> simp only [killX] <;> (try split) <;> rfl

theorem look_nms (g : Nat → Nat) (t : Nat) (sl : List (Nat × LV)) : ∀ nm : List (Nat × Value), (∃ p ∈ nm, look (nm.map (fun p => (nmSlot (g p.1), LV.isv (g p.1) p.2)) ++ sl) t = .isv (g p.1) p.2) ∨ look (nm.map (fun p => (nmSlot (g p.1), LV.isv (g p.1) p.2)) ++ sl) t = look sl t
  | [] => .inr rfl
  | (i, v) :: nm => by
    simp only [List.map_cons, List.cons_append, look]
    split
    · exact .inl ⟨(i, v), by simp, rfl⟩
    · rcases look_nms g t sl nm with ⟨p, hp, h⟩ | h
      · exact .inl ⟨p, by simp [hp], h⟩
      · exact .inr h

theorem nmOf_mem : ∀ (nm : List (Nat × Value)) (i : Nat) (v : Value), nmOf nm i = some v → (i, v) ∈ nm
  | (j, u) :: nm, i, v, h => by
    simp only [nmOf] at h
    split at h
    · rename_i e; injection h with h; subst e h; simp
    · simp [nmOf_mem nm i v h]
  | [], _, _, h => by simp [nmOf] at h
end

/-- The blocks, as facts. -/
theorem blksX_sound {us : Nat → Value} {sl : List (Nat × LV)} {T1 : List Blk} : ∀ (s : Nat) (rho : List Nat) (tb : List Blk), AllP (blksX us sl T1 s rho tb) →
    rho.length = tb.length ∧ ∀ i j k', rho[i]? = some j → tb[i]? = some k' → (∃ k, T1[j]? = some k ∧ k.mut = true ∧ BlkLe k k') ∧ look sl (nmSlot j) = .isv j (us (s + i))
  | _, [], [], _ => ⟨rfl, fun i j k' h => by simp at h⟩
  | _, [], _ :: _, h => h.1.elim
  | _, _ :: _, [], h => h.1.elim
  | s, r :: rho, k0 :: tb, h => by
    simp only [blksX] at h
    obtain ⟨h12, h3⟩ := AllP_append _ _ h
    obtain ⟨h1, h2⟩ := AllP_append _ _ h12
    obtain ⟨hl, hr⟩ := blksX_sound (s + 1) rho tb h3
    refine ⟨by simp [hl], fun i j k' hi hk => ?_⟩
    cases i with
    | zero =>
      simp at hi hk
      subst hi hk
      refine ⟨?_, ?_⟩
      · split at h1
        · rename_i k hk
          obtain ⟨q1, q2⟩ := AllP_append _ _ h1
          split at q1
          · rename_i hm; exact ⟨k, hk, hm, blkObs_sound q2⟩
          · exact q1.1.elim
        · exact h1.1.elim
      · split at h2
        · rename_i j' v hj
          split at h2
          · rename_i e; subst e; rw [hj, h2.1]; rfl
          · exact h2.1.elim
        · exact h2.1.elim
    | succ i =>
      obtain ⟨q1, q2⟩ := hr i j k' (by simpa using hi) (by simpa using hk)
      exact ⟨q1, by rw [q2]; congr 2; omega⟩

theorem mem_lents : ∀ (xs as : List LV) (i : Nat) (x : LV) (s : SV), xs[i]? = some x → as[i]? = some (.sv s) → x ∈ lents xs as
  | x0 :: xs, a0 :: as, 0, x, s, hx, ha => by simp at hx ha; subst hx ha; simp [lents]
  | x0 :: xs, a0 :: as, i + 1, x, s, hx, ha => by
    have := mem_lents xs as i x s (by simpa using hx) (by simpa using ha)
    cases a0 <;> simp [lents, this]
  | [], _, _, _, _, hx, _ => by simp at hx
  | _ :: _, [], _, _, _, _, ha => by simp at ha

theorem argsX_sound {rho : List Nat} {sl : List (Nat × LV)} {T : List Blk} : ∀ (xs as : List LV), AllP (argsX rho sl T xs as) → xs.length = as.length ∧ ∀ (i : Nat) x a, xs[i]? = some x → as[i]? = some a → AllP (argX rho sl T x a)
  | [], [], _ => ⟨rfl, fun i x a h => by simp at h⟩
  | [], _ :: _, h => h.1.elim
  | _ :: _, [], h => h.1.elim
  | x0 :: xs, a0 :: as, h => by
    simp only [argsX] at h
    obtain ⟨h1, h2⟩ := AllP_append _ _ h
    obtain ⟨hl, hr⟩ := argsX_sound xs as h2
    refine ⟨by simp [hl], fun i x a hx ha => ?_⟩
    cases i with
    | zero => simp at hx ha; subst hx ha; exact h1
    | succ i => exact hr i x a (by simpa using hx) (by simpa using ha)
end Go.Sx

/- Contracts of functions that are handed blocks: the rule. -/
namespace Go.Sx
open Go Go.RowKit
set_option linter.unusedVariables false
set_option linter.unusedSimpArgs false

/-- Everything but the slots and the result. -/
theorem back_inv {w0 : Base} {M0 : Nat → Prop} {L L' : Nat → Value} {T1 tb otb : List Blk} {rho : List Nat} {w w' : World} (hM0 : Safe w0 M0) (hinv : Inv w0 M0 L T1 w) (hn : rho.Nodup) (hlt : ∀ r ∈ rho, r < T1.length) (hlen : rho.length = tb.length)
    (hmut : ∀ r ∈ rho, ∃ k, T1[r]? = some k ∧ k.mut = true) (hl : rho.length ≤ otb.length)
    (hX : Inv ⟨w, XB tb (fun i => L (rhoAt rho T1.length i))⟩ (fun b => mset M0 T1 L b ∧ ¬ XB tb (fun i => L (rhoAt rho T1.length i)) b) L' otb w') :
    Inv w0 M0 (backL rho T1.length L' L) (backTb rho T1 otb) w' ∧ (∀ b, mset M0 (backTb rho T1 otb) (backL rho T1.length L' L) b → mset (fun b => mset M0 T1 L b ∧ ¬ XB tb (fun i => L (rhoAt rho T1.length i)) b) otb L' b) ∧
      Ext (mset M0 T1 L) w w' ∧ (∀ b, b < w.heap.size → mset M0 (backTb rho T1 otb) (backL rho T1.length L' L) b → mset M0 T1 L b) := by
  have hat : ∀ i, i < rho.length → ∃ j, rho[i]? = some j ∧ rhoAt rho T1.length i = j := fun i hi => ⟨rho[i], List.getElem?_eq_getElem hi, by simp [rhoAt, hi]⟩
  have hXr : ∀ b, XB tb (fun i => L (rhoAt rho T1.length i)) b → ∃ j, j ∈ rho ∧ blkNo (L j) = some b := by
    rintro b ⟨i, hi, hb⟩
    obtain ⟨j, h1, h2⟩ := hat i (by omega)
    exact ⟨j, List.mem_of_getElem? h1, by rw [← h2]; exact hb⟩
  have hXm : ∀ b, XB tb (fun i => L (rhoAt rho T1.length i)) b → mset M0 T1 L b := by
    intro b hb
    obtain ⟨j, h1, h2⟩ := hXr b hb
    obtain ⟨k, h3, h4⟩ := hmut j h1
    exact .inr ⟨j, k, h3, h4, h2⟩
  have hXown : ∀ b, XB tb (fun i => L (rhoAt rho T1.length i)) b → w0.own b ∧ b < w.heap.size := by
    intro b hb
    obtain ⟨j, h1, h2⟩ := hXr b hb
    exact hinv.low j b (hlt j h1) h2
  have hXun : ∀ j b, j < T1.length → j ∉ rho → blkNo (L j) = some b → ¬ XB tb (fun i => L (rhoAt rho T1.length i)) b := by
    intro j b hj hjr hb hx
    obtain ⟨j', h1, h2⟩ := hXr b hx
    have := hinv.apart j j' b hj (hlt j' h1) hb h2
    exact hjr (this ▸ h1)
  have hM0X : ∀ b, M0 b → ¬ XB tb (fun i => L (rhoAt rho T1.length i)) b := by
    intro b hb hx
    have h1 := hM0 b hb
    rcases (hXown b hx).1 with h2 | h2
    · omega
    · exact h1.2 h2
  have hext : Ext (mset M0 T1 L) w w' := ⟨hX.below.os, hX.below.tape, hX.below.output, hX.below.size, fun k hk hnk => hX.below.block k hk (fun hx => hnk (hXm k hx))⟩
  -- the blocks that may be written
  have hms : ∀ b, mset M0 (backTb rho T1 otb) (backL rho T1.length L' L) b → mset (fun b => mset M0 T1 L b ∧ ¬ XB tb (fun i => L (rhoAt rho T1.length i)) b) otb L' b := by
    rintro b (hb | ⟨j, k, hj, hk, hb⟩)
    · exact .inl ⟨.inl hb, hM0X b hb⟩
    · rcases back_cases hl (List.getElem?_eq_some_iff.1 hj).1 with ⟨i, hi, rfl⟩ | ⟨hjt, hjr⟩
      · rw [backTb_at hn hlt hl] at hj
        rw [backL_at hn hlt] at hb
        exact .inr ⟨i, k, hj, hk, hb⟩
      · rw [backTb_other hjt hjr] at hj
        rw [backL_other hjt hjr] at hb
        exact .inl ⟨.inr ⟨j, k, hj, hk, hb⟩, hXun j b hjt hjr hb⟩
  have hms2 : ∀ b, b < w.heap.size → mset M0 (backTb rho T1 otb) (backL rho T1.length L' L) b → mset M0 T1 L b := by
    intro b hb hm
    rcases hms b hm with h | ⟨i, k, hi, hk, hbn⟩
    · exact h.1
    · rcases (hX.low i b (List.getElem?_eq_some_iff.1 hi).1 hbn).1 with h | h
      · simp at h; omega
      · exact hXm b h
  refine ⟨{ below := ?_, ok := ?_, apart := ?_, low := ?_ }, hms, hext, hms2⟩
  · refine ⟨hX.below.os.trans hinv.below.os, hX.below.tape.trans hinv.below.tape, hX.below.output.trans hinv.below.output, Nat.le_trans hinv.below.size hX.below.size, fun k hk hnk => (hX.below.block k (Nat.lt_of_lt_of_le hk hinv.below.size) (fun hx => ?_)).trans (hinv.below.block k hk hnk)⟩
    rcases (hXown k hx).1 with h | h
    · omega
    · exact hnk h
  · intro j k hj
    rcases back_cases hl (List.getElem?_eq_some_iff.1 hj).1 with ⟨i, hi, rfl⟩ | ⟨hjt, hjr⟩
    · rw [backTb_at hn hlt hl] at hj
      rw [backL_at hn hlt]
      exact (hX.ok i k hj).less hms
    · rw [backTb_other hjt hjr] at hj
      rw [backL_other hjt hjr]
      exact (hinv.ok j k hj).ext hext hms2 fun b hb => hX.below.block b (hinv.low j b hjt hb).2 (hXun j b hjt hjr hb)
  · intro i j b hi hj hbi hbj
    have mix : ∀ i j b, i < otb.length → j < T1.length → j ∉ rho → blkNo (L' i) = some b → blkNo (L j) = some b → False := by
      intro i j b hi hj hjr h1 h2
      have hlow := hinv.low j b hj h2
      rcases (hX.low i b hi h1).1 with h | h
      · simp at h; omega
      · exact hXun j b hj hjr h2 h
    rcases back_cases hl hi with ⟨i', hi', rfl⟩ | ⟨hit, hir⟩ <;> rcases back_cases hl hj with ⟨j', hj', rfl⟩ | ⟨hjt, hjr⟩
    · rw [backL_at hn hlt] at hbi hbj
      rw [hX.apart i' j' b hi' hj' hbi hbj]
    · rw [backL_at hn hlt] at hbi
      rw [backL_other hjt hjr] at hbj
      exact (mix i' j b hi' hjt hjr hbi hbj).elim
    · rw [backL_at hn hlt] at hbj
      rw [backL_other hit hir] at hbi
      exact (mix j' i b hj' hit hir hbj hbi).elim
    · rw [backL_other hit hir] at hbi
      rw [backL_other hjt hjr] at hbj
      exact hinv.apart i j b hit hjt hbi hbj
  · intro j b hj hb
    rcases back_cases hl hj with ⟨i, hi, rfl⟩ | ⟨hjt, hjr⟩
    · rw [backL_at hn hlt] at hb
      have h := hX.low i b hi hb
      refine ⟨?_, h.2⟩
      rcases h.1 with h1 | h1
      · exact .inl (Nat.le_trans hinv.below.size h1)
      · exact (hXown b h1).1
    · rw [backL_other hjt hjr] at hb
      have h := hinv.low j b hjt hb
      exact ⟨h.1, Nat.lt_of_lt_of_le h.2 hX.below.size⟩

theorem emptyR {w0 : Base} {M0 : Nat → Prop} {L : Nat → Value} {T : List Blk} {w : World} (h : Inv w0 M0 L T w) : R 0 w0 M0 L ⟨[], T⟩ ⟨#[], []⟩ w :=
  { inv := h, size := rfl, defers := rfl, slot := fun t => trivial }

theorem semVC_of_specX {P : Program} {st : St} {f : FuncId} {xs : List LV} {d : Option Nat} {K : St → Prop} {us : Nat → Value} {as : List LV} {tb : List Blk} {O : Out → Prop} (rho kept : List Nat) (hs : SpecX P f us as tb O)
    (hn : nodupB rho = true) (hb : AllP (blksX us st.sl (frzOwns st.tb (lents xs as)) 0 rho tb)) (ha : AllP (argsX rho st.sl st.tb xs as))
    (hK : ∀ o, O o → rho.length ≤ o.tb.length ∧ (∀ i ∈ kept, i < rho.length → (i, us i) ∈ o.nm) ∧ ∃ x, resX rho st.tb.length o = some x ∧ K (St.put (backSt rho kept st.sl (frzOwns st.tb (lents xs as)) o) d x)) : semVC P st f xs d K := by
  refine ⟨hs.1, fun w0 M0 G sv L w vs hM0 hbe hxl hxd => ?_⟩
  obtain ⟨hlen, hblk⟩ := blksX_sound 0 rho tb hb
  obtain ⟨hal, harg⟩ := argsX_sound xs as ha
  have hnd : rho.Nodup := by
    clear hb ha hK hlen hblk harg
    induction rho with
    | nil => simp
    | cons r rho ih =>
      simp only [nodupB, Bool.and_eq_true, Bool.not_eq_true'] at hn
      refine List.nodup_cons.2 ⟨fun h => ?_, ih hn.2⟩
      have := hn.1
      simp [h] at this
  generalize hT1 : frzOwns st.tb (lents xs as) = T1 at *
  have hfz : Frz st.tb T1 := hT1 ▸ Frz.owns (lents xs as) st.tb
  have hinv : Inv w0 M0 L T1 w := hfz.inv _ _ _ _ hbe.inv
  have hTl : T1.length = st.tb.length := hfz.len
  have hmut : ∀ r ∈ rho, ∃ k, T1[r]? = some k ∧ k.mut = true := by
    intro r hr
    obtain ⟨i, hi⟩ := List.mem_iff_getElem?.1 hr
    have hil : i < tb.length := by rw [← hlen]; exact (List.getElem?_eq_some_iff.1 hi).1
    obtain ⟨⟨k, h1, h2, _⟩, _⟩ := hblk i r _ hi (List.getElem?_eq_getElem hil)
    exact ⟨k, h1, h2⟩
  have hlt : ∀ r ∈ rho, r < T1.length := fun r hr => by
    obtain ⟨k, h1, _⟩ := hmut r hr
    exact (List.getElem?_eq_some_iff.1 h1).1
  have hat : ∀ i, i < rho.length → ∃ j, rho[i]? = some j ∧ rhoAt rho T1.length i = j := fun i hi => ⟨rho[i], List.getElem?_eq_getElem hi, by simp [rhoAt, hi]⟩
  have hnm : ∀ i, i < tb.length → L (rhoAt rho T1.length i) = us i := by
    intro i hi
    obtain ⟨j, h1, h2⟩ := hat i (by omega)
    have h3 := (hblk i j _ h1 (List.getElem?_eq_getElem hi)).2
    have h4 := hbe.slot (nmSlot j)
    rw [h3] at h4
    rw [h2, h4.2]
    congr 1; omega
  have hmle : ∀ b, mset (fun b => mset M0 T1 L b ∧ ¬ XB tb (fun i => L (rhoAt rho T1.length i)) b) tb (fun i => L (rhoAt rho T1.length i)) b → mset M0 T1 L b := by
    rintro b (hb | ⟨i, k', hi, hk, hbn⟩)
    · exact hb.1
    · have hil := (List.getElem?_eq_some_iff.1 hi).1
      obtain ⟨j, h1, h2⟩ := hat i (by omega)
      obtain ⟨⟨k, h3, h4, _⟩, _⟩ := hblk i j k' h1 hi
      exact .inr ⟨j, k, h3, h4, by rw [← h2]; exact hbn⟩
  have hsafe : Safe ⟨w, XB tb (fun i => L (rhoAt rho T1.length i))⟩ (fun b => mset M0 T1 L b ∧ ¬ XB tb (fun i => L (rhoAt rho T1.length i)) b) := by
    intro b hb
    refine ⟨?_, hb.2⟩
    rcases hb.1 with h | ⟨i, k, hi, _, hbn⟩
    · exact Nat.lt_of_lt_of_le (hM0 b h).1 hinv.below.size
    · exact (hinv.low i b (List.getElem?_eq_some_iff.1 hi).1 hbn).2
  have hXinv : Inv ⟨w, XB tb (fun i => L (rhoAt rho T1.length i))⟩ (fun b => mset M0 T1 L b ∧ ¬ XB tb (fun i => L (rhoAt rho T1.length i)) b) (fun i => L (rhoAt rho T1.length i)) tb w := by
    refine { below := Ext.refl _ _, ok := fun i k' hi => ?_, apart := fun i j b hi hj hbi hbj => ?_, low := fun i b hi hbi => ?_ }
    · have hil := (List.getElem?_eq_some_iff.1 hi).1
      obtain ⟨j, h1, h2⟩ := hat i (by omega)
      obtain ⟨⟨k, h3, _, h4⟩, _⟩ := hblk i j k' h1 hi
      simp only [h2]
      exact ((hinv.ok j k h3).le h4).less hmle
    · obtain ⟨i', h1, h2⟩ := hat i (by omega)
      obtain ⟨j', h3, h4⟩ := hat j (by omega)
      simp only [h2, h4] at hbi hbj
      have := hinv.apart i' j' b (hlt _ (List.mem_of_getElem? h1)) (hlt _ (List.mem_of_getElem? h3)) hbi hbj
      subst this
      have h5 := idxIn_of rho i i' hnd h1
      rw [idxIn_of rho j i' hnd h3] at h5
      injection h5 with h5
      exact h5.symm
    · obtain ⟨i', h1, h2⟩ := hat i (by omega)
      refine ⟨.inr ⟨i, hi, hbi⟩, ?_⟩
      simp only [h2] at hbi
      exact (hinv.low i' b (hlt _ (List.mem_of_getElem? h1)) hbi).2
  have hR0 := emptyR hbe.inv
  refine (hs.2 w _ _ vs hnm hsafe hXinv (by omega) (fun i a v hai hvi => ?_)).mono fun e w' he => ?_
  · have hil : i < xs.length := by
      have := (Array.getElem?_eq_some_iff.1 hvi).1
      omega
    have hxi := List.getElem?_eq_getElem hil
    have hden := hxd i _ v hxi hvi
    have hob := harg i _ a hxi hai
    cases a with
    | any => trivial
    | sv s' =>
      simp only [argX] at hob
      split at hob
      · rename_i s hsx
        have hden0 : LDen (gOf ⟨#[], []⟩) w (mset M0 st.tb L) L st.tb xs[i] v := by
          generalize xs[i] = x at hsx hden
          cases x <;> first | exact hden | simp [argSV, shut] at hsx
        have := lend hR0 hM0 (lents xs as) (lents xs as) (fun _ h => h)
        obtain ⟨m, hm⟩ := List.mem_iff_getElem?.1 (mem_lents xs as i _ s' hxi hai)
        have h2 := this m _ s v hm hsx hden0
        simp only [hT1] at h2
        exact ((svObs_sound _ _ hob) _ _ _ h2).less fun b _ => hmle b
      · exact hob.1.elim
    | own i' =>
      simp only [argX] at hob
      have key : ∀ j, rho[i']? = some j → v = L j → LDen noG0 w (mset (fun b => mset M0 T1 L b ∧ ¬ XB tb (fun i => L (rhoAt rho T1.length i)) b) tb (fun i => L (rhoAt rho T1.length i))) (fun i => L (rhoAt rho T1.length i)) tb (.own i') v := by
        intro j hj hv
        have := (List.getElem?_eq_some_iff.1 hj).1
        refine ⟨by omega, ?_⟩
        simp only [rhoAt, hj]
        exact hv
      split at hob
      · rename_i j hx
        rw [hx] at hden
        split at hob
        · rename_i hj; exact key j hj hden.2
        · exact hob.1.elim
      · rename_i u hx
        rw [hx] at hden
        split at hob
        · rename_i j hj
          split at hob
          · rename_i j' v' hl
            split at hob
            · rename_i e
              subst e
              have h4 := hbe.slot (nmSlot j')
              rw [hl] at h4
              have hvu : Den w (mset M0 st.tb L) (.val u) v := hden
              cases hvu
              exact key j' hj (by rw [h4.2]; exact hob.1.symm)
            · exact hob.1.elim
          · exact hob.1.elim
        · exact hob.1.elim
      · exact hob.1.elim
    | ptr i' o =>
      simp only [argX] at hob
      split at hob
      · rename_i j o' hx
        rw [hx] at hden
        split at hob
        · rename_i hj
          obtain ⟨hj, rfl⟩ := hj
          obtain ⟨_, b, h1, h2⟩ := hden
          have := (List.getElem?_eq_some_iff.1 hj).1
          refine ⟨by omega, b, ?_, h2⟩
          simp only [rhoAt, hj]
          exact h1
        · exact hob.1.elim
      · rename_i u hx
        rw [hx] at hden
        split at hob
        · rename_i j hj
          split at hob
          · rename_i j' v' t0 mu0 cs0 hl hT
            split at hob
            · rename_i e
              obtain ⟨rfl, rfl⟩ := e
              have h4 := hbe.slot (nmSlot j')
              rw [hl] at h4
              have hvu : Den w (mset M0 st.tb L) (.val u) v := hden
              cases hvu
              obtain ⟨b, vs', h5, _⟩ := hbe.inv.ok j' _ hT
              have := (List.getElem?_eq_some_iff.1 hj).1
              refine ⟨by omega, b, ?_, ?_⟩
              · simp only [rhoAt, hj]; exact h5
              · have h7 : L j' = v := h4.2.trans hob.1
                rw [← h7]; exact h5
            · exact hob.1.elim
          · exact hob.1.elim
        · exact hob.1.elim
      · exact hob.1.elim
    | _ => simp only [argX] at hob; exact hob.1.elim
  · obtain ⟨v, o, L', rfl, hO, hX, hres, hnames⟩ := he
    obtain ⟨hl, hkept, x, hx, hk⟩ := hK o hO
    obtain ⟨hI, hms, hext, hms2⟩ := back_inv hM0 hinv hnd hlt hlen hmut hl hX
    have hden2 : ∀ s u, Den w (mset M0 st.tb L) s u → Den w' (mset M0 (backTb rho T1 o.tb) (backL rho T1.length L' L)) s u := fun s u h =>
      (h.less fun b _ => hfz.mset M0 L b).ext hext hms2
    have hden3 : ∀ s u, Den w' (mset (fun b => mset M0 T1 L b ∧ ¬ XB tb (fun i => L (rhoAt rho T1.length i)) b) o.tb L') s u → Den w' (mset M0 (backTb rho T1 o.tb) (backL rho T1.length L' L)) s u := fun s u h => h.less fun b _ => hms b
    have hltb : ∀ i, i < o.tb.length → rhoAt rho T1.length i < (backTb rho T1 o.tb).length := fun i hi => by
      have h1 := backTb_at (T := T1) (otb := o.tb) hnd hlt hl i
      rw [List.getElem?_eq_getElem hi] at h1
      exact (List.getElem?_eq_some_iff.1 h1).1
    have hkeep : ∀ j, j < st.tb.length → lost rho kept 0 j = false → backL rho T1.length L' L j = L j := by
      intro j hj hlo
      by_cases hjr : j ∈ rho
      · obtain ⟨i, hi⟩ := List.mem_iff_getElem?.1 hjr
        have hik := lost_kept rho kept 0 j hlo i hi
        rw [Nat.zero_add] at hik
        have hil := (List.getElem?_eq_some_iff.1 hi).1
        have h1 := (hnames _ (hkept i hik hil)).2
        have h2 : rhoAt rho T1.length i = j := by simp [rhoAt, hi]
        have h3 := hnm i (by omega)
        rw [h2] at h3
        rw [← h2, backL_at hnd hlt, h2]
        exact h1.trans h3.symm
      · exact backL_other (by omega) hjr
    have hbl : st.tb.length ≤ (backTb rho T1 o.tb).length := by rw [backTb_length]; omega
    refine ⟨v, backSt rho kept st.sl T1 o, x, backL rho T1.length L' L, rfl, hk, ⟨hI, fun t => ?_⟩, ?_, ?_, fun t => ?_⟩
    · simp only [backSt]
      rcases look_nms (rhoAt rho T1.length) t (killXs rho kept st.sl) o.nm with ⟨p, hp, h⟩ | h
      · rw [h]
        obtain ⟨h1, h2⟩ := hnames p hp
        exact ⟨hltb _ h1, by rw [backL_at hnd hlt]; exact h2⟩
      · rw [h, look_killXs]
        have hsl := hbe.slot t
        generalize look st.sl t = y at hsl
        generalize sv t = u at hsl
        cases y with
        | any => trivial
        | sv s => exact hden2 _ _ hsl
        | ptr j off =>
          simp only [killX]
          split
          · trivial
          · rename_i hlo
            obtain ⟨hj, b, h1, h2⟩ := hsl
            exact ⟨by omega, b, by rw [hkeep j hj (by simpa using hlo)]; exact h1, h2⟩
        | own j =>
          simp only [killX]
          split
          · trivial
          · rename_i hlo
            obtain ⟨hj, h1⟩ := hsl
            exact ⟨by omega, by rw [hkeep j hj (by simpa using hlo)]; exact h1⟩
        | isv j u' =>
          simp only [killX]
          split
          · trivial
          · rename_i hlo
            obtain ⟨hj, h1⟩ := hsl
            exact ⟨by omega, by rw [hkeep j hj (by simpa using hlo)]; exact h1⟩
        | rp j k off =>
          simp only [killX]
          split
          · trivial
          · rename_i hlo
            have hjr : j ∉ rho := by simpa using hlo
            obtain ⟨b, n, c, t, sz, mu, get, h1, h2, h3, h4⟩ := hsl
            obtain ⟨mu', h5⟩ := hfz.row _ _ _ _ _ _ h1
            have hj := (List.getElem?_eq_some_iff.1 h1).1
            exact ⟨b, n, c, t, sz, mu', get, by show (backTb rho T1 o.tb)[j]? = _; rw [backTb_other (by omega) hjr]; exact h5, by rw [backL_other (by omega) hjr]; exact h2, h3, h4⟩
        | part j a b =>
          simp only [killX]
          split
          · trivial
          · rename_i hlo
            have hjr : j ∉ rho := by simpa using hlo
            obtain ⟨n, t, sz, mu, get, h1, h2, h3, h4⟩ := hsl
            obtain ⟨mu', h5⟩ := hfz.row _ _ _ _ _ _ h1
            have hj := (List.getElem?_eq_some_iff.1 h1).1
            exact ⟨n, t, sz, mu', get, by show (backTb rho T1 o.tb)[j]? = _; rw [backTb_other (by omega) hjr]; exact h5, h2, h3, by rw [backL_other (by omega) hjr]; exact h4⟩
        | exact j =>
          simp only [killX]
          split
          · trivial
          · rename_i hlo
            have hjr : j ∉ rho := by simpa using hlo
            obtain ⟨hj, h1⟩ := hsl
            exact ⟨by omega, by rw [backL_other (by omega) hjr]; exact h1⟩
        | opt s b x => trivial
    · -- the result
      obtain ⟨ws, hwl, hwv, hwd⟩ := hres
      have hone : ∀ r u, LDen noG0 w' (mset (fun b => mset M0 T1 L b ∧ ¬ XB tb (fun i => L (rhoAt rho T1.length i)) b) o.tb L') L' o.tb r u → LDen G w' (mset M0 (backTb rho T1 o.tb) (backL rho T1.length L' L)) (backL rho T1.length L' L) (backTb rho T1 o.tb) (mapLV rho T1.length r) u := by
        intro r u hr
        cases r with
        | sv s => exact hden3 _ _ hr
        | own i => exact ⟨hltb i hr.1, by rw [backL_at hnd hlt]; exact hr.2⟩
        | ptr i off =>
          obtain ⟨hi, b, h1, h2⟩ := hr
          exact ⟨hltb i hi, b, by rw [backL_at hnd hlt]; exact h1, h2⟩
        | _ => trivial
      unfold resX at hx
      split at hx
      · rename_i r hr
        injection hx with hx
        subst hx
        rw [hr] at hwl hwd
        match ws, hwl with
        | [u], _ =>
          simp only at hwv
          subst hwv
          have := hone r v (hwd 0 r v rfl rfl)
          rw [hTl] at this
          simpa only [backSt, hTl] using this
      · rename_i hne
        split at hx
        · rename_i ss hss
          injection hx with hx
          subst hx
          obtain ⟨e1, e2⟩ := optList_get _ _ hss
          simp only [List.length_map] at e1
          have hwv' : v = .tuple ws.toArray := by
            match ws, hwl with
            | [], _ => exact hwv
            | [u], hwl =>
              match hr : o.res, hwl with
              | [r], _ => exact (hne r hr).elim
            | _ :: _ :: _, _ => exact hwv
          rw [hwv']
          refine Den.tup ss ws.toArray (by simp; omega) fun i s u hi hu => ?_
          have hu' : ws[i]? = some u := by simpa using hu
          have hr := e2 i s hi
          rw [List.getElem?_map] at hr
          cases hri : o.res[i]? with
          | none => rw [hri] at hr; simp at hr
          | some r =>
            rw [hri] at hr
            simp only [Option.map_some, Option.some.injEq] at hr
            have hd := hwd i r u hri hu'
            cases r with
            | sv s0 => simp [resSV] at hr; subst hr; exact hden3 _ _ hd
            | own i' =>
              simp only [resSV] at hr
              split at hr
              · rename_i v0 hv0
                injection hr with hr
                subst hr
                have := (hnames _ (nmOf_mem _ _ _ hv0)).2
                rw [hd.2, this]
                exact .val _
              · cases hr
            | ptr i' off =>
              cases off with
              | zero =>
                simp only [resSV] at hr
                split at hr
                · rename_i v0 hv0
                  injection hr with hr
                  subst hr
                  have := (hnames _ (nmOf_mem _ _ _ hv0)).2
                  obtain ⟨_, b, h1, h2⟩ := hd
                  rw [h2, ← h1, this]
                  exact .val _
                · cases hr
              | succ => simp [resSV] at hr
            | _ => simp [resSV] at hr
        · cases hx
    · unfold resX at hx
      split at hx
      · rename_i r hr
        injection hx with hx
        subst hx
        cases r <;> rfl
      · split at hx
        · injection hx with hx; subst hx; rfl
        · cases hx
    · simp only [backSt]
      rcases look_nms (rhoAt rho T1.length) t (killXs rho kept st.sl) o.nm with ⟨p, hp, h⟩ | h
      · rw [h]; rfl
      · rw [h, look_killXs]; exact killX_free _
end Go.Sx

/- Contracts of functions that are handed blocks: the machine's rules. -/
namespace Go.Sx
open Go Go.RowKit
set_option linter.unusedVariables false
set_option linter.unusedSimpArgs false

/-- The call at which the machine stands. -/
def xAt : Cf → Option (FuncId × List LV)
  | ⟨.l false (⟨_, .call f xs, none⟩ :: _) :: _, .normal, st⟩ => some (f, xs.map (ev st.sl))
  | ⟨.l false (⟨_, .callv x xs, none⟩ :: _) :: _, .normal, st⟩ => match ev st.sl x with
    | .sv (.fn f caps) => some (f, xs.map (ev st.sl) ++ caps.map LV.sv)
    | _ => none
  | _ => none

def xArgs (cf : Cf) : List LV :=
  match xAt cf with
  | some (_, xs) => xs
  | none => []

def xTb (as : List LV) (cf : Cf) : List Blk := frzOwns cf.st.tb (lents (xArgs cf) as)

def xBlks (us : Nat → Value) (rho : List Nat) (as : List LV) (tb : List Blk) (cf : Cf) : List Prop := blksX us cf.st.sl (xTb as cf) 0 rho tb

def xArgObs (rho : List Nat) (as : List LV) (cf : Cf) : List Prop := argsX rho cf.st.sl cf.st.tb (xArgs cf) as

def keptObs (us : Nat → Value) (nm : List (Nat × Value)) : List Nat → List Prop
  | [] => []
  | i :: r => (match nmOf nm i with
    | some v => [v = us i]
    | none => [False]) ++ keptObs us nm r

def xObs (rho kept : List Nat) (us : Nat → Value) (o : Out) : List Prop :=
  (if rho.length ≤ o.tb.length then [] else [False]) ++ keptObs us o.nm kept ++ (if (resX rho 0 o).isSome then [] else [False])

def xGo (rho kept : List Nat) (as : List LV) (o : Out) (cf : Cf) : Cf :=
  match cf.todo with
  | .l false (op :: l) :: k => ⟨.l false l :: k, cf.e, St.put (backSt rho kept cf.st.sl (xTb as cf) o) op.dst ((resX rho cf.st.tb.length o).getD .any)⟩
  | _ => cf

theorem keptObs_sound {us : Nat → Value} {nm : List (Nat × Value)} : ∀ kept : List Nat, AllP (keptObs us nm kept) → ∀ i ∈ kept, (i, us i) ∈ nm
  | [], _, i, h => by simp at h
  | j :: r, h, i, hi => by
    simp only [keptObs] at h
    obtain ⟨h1, h2⟩ := AllP_append _ _ h
    rcases List.mem_cons.1 hi with rfl | hi
    · split at h1
      · rename_i v hv; have := nmOf_mem _ _ _ hv; rwa [← h1.1]
      · exact h1.1.elim
    · exact keptObs_sound r h2 i hi

theorem resX_some {rho : List Nat} {n : Nat} {o : Out} (h : (resX rho 0 o).isSome = true) : ∃ x, resX rho n o = some x := by
  unfold resX at h ⊢
  split at h
  · exact ⟨_, rfl⟩
  · split at h
    · exact ⟨_, rfl⟩
    · cases h

section
variable {P : Program} {Q : Exit → St → Prop}

theorem goodD_callx {cf : Cf} {f : FuncId} {xs : List LV} {us : Nat → Value} {as : List LV} {tb : List Blk} {O : Out → Prop} (rho kept : List Nat) (hs : SpecX P f us as tb O) (h : xAt cf = some (f, xs)) (hn : nodupB rho = true)
    (h1 : AllP (xBlks us rho as tb cf)) (h2 : AllP (xArgObs rho as cf)) (hK : ∀ o, O o → AllP (xObs rho kept us o) ∧ GoodD P Q (xGo rho kept as o cf)) : GoodD P Q cf := by
  obtain ⟨todo, e, st⟩ := cf
  have hxs : xArgs ⟨todo, e, st⟩ = xs := by simp only [xArgs, h]
  unfold xBlks xTb at h1
  unfold xArgObs at h2
  rw [hxs] at h1 h2
  simp only at h1 h2
  have key : ∀ (op : SO) (l : List SO) (k : List Item), todo = .l false (op :: l) :: k → e = .normal → semVC P st f xs op.dst (fun st' => stepsVC P l st' (kont P Q k .normal)) := by
    intro op l k ht he
    subst ht he
    refine semVC_of_specX rho kept hs hn h1 h2 fun o hO => ?_
    obtain ⟨q1, q2⟩ := hK o hO
    unfold xObs at q1
    obtain ⟨q12, q3⟩ := AllP_append _ _ q1
    obtain ⟨q4, q5⟩ := AllP_append _ _ q12
    have hl : rho.length ≤ o.tb.length := by
      split at q4
      · assumption
      · exact q4.1.elim
    have hr : (resX rho 0 o).isSome = true := by
      split at q3
      · assumption
      · exact q3.1.elim
    obtain ⟨x, hx⟩ := resX_some (n := st.tb.length) hr
    refine ⟨hl, fun i hi _ => keptObs_sound kept q5 i hi, x, hx, ?_⟩
    simp only [xGo, hx, Option.getD_some, xTb, hxs] at q2
    exact q2
  unfold xAt at h
  split at h
  · rename_i d f' xs' l k st' heq
    simp only [Cf.mk.injEq] at heq
    obtain ⟨rfl, rfl, rfl⟩ := heq
    simp only [Option.some.injEq, Prod.mk.injEq] at h
    obtain ⟨rfl, rfl⟩ := h
    refine GVC.step ?_
    show stepVC P st ⟨d, .call f' xs', none⟩ (fun st' => stepsVC P l st' (kont P Q k .normal))
    simp only [stepVC, callVC]
    exact .inr (.inr (key _ l k rfl rfl))
  · rename_i d x xs' l k st' heq
    simp only [Cf.mk.injEq] at heq
    obtain ⟨rfl, rfl, rfl⟩ := heq
    split at h
    · rename_i f' caps hev
      simp only [Option.some.injEq, Prod.mk.injEq] at h
      obtain ⟨rfl, rfl⟩ := h
      refine GVC.step ?_
      show stepVC P st ⟨d, .callv x xs', none⟩ (fun st' => stepsVC P l st' (kont P Q k .normal))
      simp only [stepVC, hev, callVC]
      exact .inr (.inr (key _ l k rfl rfl))
    · cases h
  · cases h

def xFn (cf : Cf) : Option FuncId :=
  match xAt cf with
  | some (f, _) => some f
  | none => none

theorem good_callx {cf : Cf} {f : FuncId} {us : Nat → Value} {as : List LV} {tb : List Blk} {O : Out → Prop} (rho kept : List Nat) (hs : SpecX P f us as tb O) (h : xFn cf = some f) (hn : nodupB rho = true)
    (ob1 ob2 : List Prop) (h1 : xBlks us rho as tb cf = ob1) (ho1 : AllP ob1) (h2 : xArgObs rho as cf = ob2) (ho2 : AllP ob2) (hK : ∀ o, O o → AllP (xObs rho kept us o) ∧ Good P Q (xGo rho kept as o cf)) : Good P Q cf :=
by
  unfold xFn at h
  split at h
  · rename_i f' xs hx
    injection h with h
    subst h
    exact ⟨goodD_callx rho kept hs hx hn (h1 ▸ ho1) (h2 ▸ ho2) fun o hO => ⟨(hK o hO).1, (hK o hO).2.ok⟩⟩
  · cases h

/-! The end of a function. -/

def finXObs (srs : List SR) (o : Out) : Cf → List Prop
  | ⟨[], .ret, st⟩ => match optList (srs.map resTmp) with
    | some ts => if tsOK ts o then leObs st (outSt ts o) else [False]
    | none => [False]
  | ⟨[], .normal, st⟩ => match optList (srs.map resTmp) with
    | some ts => if tsOK ts o then leObs st (outSt ts o) else [False]
    | none => [False]
  | _ => [False]

theorem good_finX {srs : List SR} {O : Out → Prop} {cf : Cf} (o : Out) (hO : O o) (obs : List Prop) (h : finXObs srs o cf = obs) (ho : AllP obs) : Good P (FinX srs O) cf := by
  subst h
  refine ⟨?_⟩
  unfold finXObs at ho
  split at ho
  · split at ho
    · rename_i ts hts
      split at ho
      · rename_i hok; exact ⟨.inr rfl, ts, hts, o, hO, hok, leObs_sound ho⟩
      · exact ho.1.elim
    · exact ho.1.elim
  · split at ho
    · rename_i ts hts
      split at ho
      · rename_i hok; exact ⟨.inl rfl, ts, hts, o, hO, hok, leObs_sound ho⟩
      · exact ho.1.elim
    · exact ho.1.elim
  · exact ho.1.elim

theorem specX_of_good {f : FuncId} {fn : Func} {hv : List Nat × List Nat} {F : Fn} {us : Nat → Value} {as : List LV} {tb : List Blk} {O : Out → Prop} (hm : P.follows .mixedOrders = true) (hf : P.funcs[f]? = some fn) (hs : slimFn P hv fn = some F)
    (hn : Nat.ble as.length F.N = true) (hN : Nat.ble F.N 2000000 = true) (hof : as.all optFree = true) (h : Good P (FinX F.res O) ⟨[.c F.code], .normal, initX as tb us⟩) : SpecX P f us as tb O :=
  specX_of_exec hm hf hs (Nat.le_of_ble_eq_true hn) (Nat.le_of_ble_eq_true hN) (fun x hx => List.all_eq_true.1 hof x hx) h.ok

/-! Names. -/

def hasForm : Blk → Value → Prop
  | .row _ _ n _ _, v => ∃ A c, v = .slice A n c
  | .map _ _ _, v => ∃ b, v = .map (some b)
  | .cells _ _ _, v => ∃ b, v = .pointer (some ⟨b, 0, none⟩)
  | _, _ => True

theorem form_ok {w : World} {M : Nat → Prop} {base : Nat} {k : Blk} {v : Value} (h : BlkOK w M base k v) : hasForm k v := by
  cases k with
  | cells t mu cs => obtain ⟨b, vs, rfl, _⟩ := h; exact ⟨b, rfl⟩
  | row t sz n mu get => exact shape_ok h
  | map z ks get => exact shape_ok h
  | _ => trivial

/-- A block gets a name. -/
def tagAt (j : Nat) : Cf → Option Blk
  | ⟨.l false (_ :: _) :: _, .normal, st⟩ => st.tb[j]?
  | _ => none

def tagGo (j : Nat) (v : Value) (cf : Cf) : Cf := { cf with st := { cf.st with sl := (nmSlot j, .isv j v) :: cf.st.sl } }

theorem goodD_tag {cf : Cf} (j : Nat) (k : Blk) (h : tagAt j cf = some k) (hg : ∀ v, hasForm k v → GoodD P Q (tagGo j v cf)) : GoodD P Q cf := by
  obtain ⟨todo, e, st⟩ := cf
  unfold tagAt at h
  split at h
  · rename_i o l kk st' heq
    simp only [Cf.mk.injEq] at heq
    obtain ⟨rfl, rfl, rfl⟩ := heq
    refine GVC.view (fun st' => ∃ v, hasForm k v ∧ st' = ⟨(nmSlot j, .isv j v) :: st.sl, st.tb⟩) (fun w0 M0 G sv L w hM0 hb => ?_) (fun st' ⟨v, hv, e⟩ => e ▸ hg v hv)
    refine ⟨_, L, ⟨L j, form_ok (hb.inv.ok j k h), rfl⟩, ⟨hb.inv, fun t => ?_⟩, fun t => ?_⟩
    · simp only [look]
      split
      · exact ⟨(List.getElem?_eq_some_iff.1 h).1, rfl⟩
      · exact hb.slot t
    · simp only [look]
      split
      · exact .inr rfl
      · exact .inl rfl
  · cases h

/-- A handle, as its value. -/
def valAt (s j : Nat) : Cf → Option Value
  | ⟨.l false (_ :: _) :: _, .normal, st⟩ => match look st.sl s, look st.sl (nmSlot j) with
    | .own i, .isv i' v => if i = j ∧ i' = j then some v else none
    | .ptr i 0, .isv i' v => if i = j ∧ i' = j then some v else none
    | _, _ => none
  | _ => none

def valGo (s : Nat) (v : Value) (cf : Cf) : Cf := { cf with st := { cf.st with sl := (s, .sv (.val v)) :: cf.st.sl } }

theorem goodD_val {cf : Cf} (s j : Nat) (v : Value) (h : valAt s j cf = some v) (hg : GoodD P Q (valGo s v cf)) : GoodD P Q cf := by
  obtain ⟨todo, e, st⟩ := cf
  unfold valAt at h
  split at h
  · rename_i o l kk st' heq
    simp only [Cf.mk.injEq] at heq
    obtain ⟨rfl, rfl, rfl⟩ := heq
    refine GVC.view (fun st' => st' = ⟨(s, .sv (.val v)) :: st.sl, st.tb⟩) (fun w0 M0 G sv L w hM0 hb => ?_) (fun st' e => e ▸ hg)
    have hs := hb.slot s
    have hn := hb.slot (nmSlot j)
    have hv : sv s = v := by
      split at h
      · rename_i i i' v' h1 h2
        split at h
        · rename_i e
          obtain ⟨rfl, rfl⟩ := e
          injection h with h
          subst h
          rw [h1] at hs
          rw [h2] at hn
          exact hs.2.trans hn.2
        · cases h
      · rename_i i i' v' h1 h2
        split at h
        · rename_i e
          obtain ⟨rfl, rfl⟩ := e
          injection h with h
          subst h
          rw [h1] at hs
          rw [h2] at hn
          obtain ⟨_, b, h3, h4⟩ := hs
          rw [h4, ← h3]
          exact hn.2
        · cases h
      · cases h
    refine ⟨_, L, rfl, ⟨hb.inv, fun t => ?_⟩, fun t => ?_⟩
    · simp only [look]
      split
      · rename_i e; subst e; rw [hv]; exact Den.val _
      · exact hb.slot t
    · simp only [look]
      split
      · exact .inr rfl
      · exact .inl rfl
  · cases h

/-- A named value, as a pointer to cells. -/
def refAt (s j : Nat) : Cf → Option (Value × Value)
  | ⟨.l false (_ :: _) :: _, .normal, st⟩ => match look st.sl s, look st.sl (nmSlot j), st.tb[j]? with
    | .sv (.val v), .isv i v', some (.cells _ _ _) => if i = j then some (v, v') else none
    | _, _, _ => none
  | _ => none

def refGo (s j : Nat) (cf : Cf) : Cf := { cf with st := { cf.st with sl := (s, .ptr j 0) :: cf.st.sl } }

theorem goodD_ref {cf : Cf} (s j : Nat) (v : Value) (h : refAt s j cf = some (v, v)) (hg : GoodD P Q (refGo s j cf)) : GoodD P Q cf := by
  obtain ⟨todo, e, st⟩ := cf
  unfold refAt at h
  split at h
  · rename_i o l kk st' heq
    simp only [Cf.mk.injEq] at heq
    obtain ⟨rfl, rfl, rfl⟩ := heq
    refine GVC.view (fun st' => st' = ⟨(s, .ptr j 0) :: st.sl, st.tb⟩) (fun w0 M0 G sv L w hM0 hb => ?_) (fun st' e => e ▸ hg)
    have hs := hb.slot s
    have hn := hb.slot (nmSlot j)
    split at h
    · rename_i u i u' t0 mu0 cs0 h1 h2 h3
      split at h
      · rename_i e
        subst e
        simp only [Option.some.injEq, Prod.mk.injEq] at h
        obtain ⟨rfl, rfl⟩ := h
        rw [h1] at hs
        rw [h2] at hn
        have hs' : Den w (mset M0 st.tb L) (.val _) (sv s) := hs
        refine ⟨_, L, rfl, ⟨hb.inv, fun t => ?_⟩, fun t => ?_⟩
        · simp only [look]
          split
          · rename_i e; subst e
            obtain ⟨b, vs, h4, _⟩ := hb.inv.ok i _ h3
            refine ⟨hn.1, b, h4, ?_⟩
            generalize sv s = x at hs'
            cases hs'
            rw [← h4]; exact hn.2.symm
          · exact hb.slot t
        · simp only [look]
          split
          · exact .inr rfl
          · exact .inl rfl
      · cases h
    · cases h
  · cases h

theorem good_tag {cf : Cf} (j : Nat) (k : Blk) (h : tagAt j cf = some k) (hg : ∀ v, hasForm k v → Good P Q (tagGo j v cf)) : Good P Q cf := ⟨goodD_tag j k h fun v hv => (hg v hv).ok⟩
theorem good_tagMap {cf : Cf} (j : Nat) {z : Value} {ks : List Int} {get : Int → SV} (h : tagAt j cf = some (.map z ks get)) (hg : ∀ (b : Nat), Good P Q (tagGo j (.map (some b)) cf)) : Good P Q cf :=
  good_tag j _ h fun v hv => by obtain ⟨b, rfl⟩ := hv; exact hg b
theorem good_tagCells {cf : Cf} (j : Nat) {t : TypeId} {mu : Bool} {cs : List SV} (h : tagAt j cf = some (.cells t mu cs)) (hg : ∀ (b : Nat), Good P Q (tagGo j (.pointer (some ⟨b, 0, none⟩)) cf)) : Good P Q cf :=
  good_tag j _ h fun v hv => by obtain ⟨b, rfl⟩ := hv; exact hg b
theorem good_val {cf : Cf} (s j : Nat) (v : Value) (h : valAt s j cf = some v) (hg : Good P Q (valGo s v cf)) : Good P Q cf := ⟨goodD_val s j v h hg.ok⟩
theorem good_ref {cf : Cf} (s j : Nat) (v : Value) (h : refAt s j cf = some (v, v)) (hg : Good P Q (refGo s j cf)) : Good P Q cf := ⟨goodD_ref s j v h hg.ok⟩
end
end Go.Sx

/- A region whose order is drawn, cut where all orders meet. -/
namespace Go.Sx
open Go Go.RowKit
set_option linter.unusedVariables false
set_option linter.unusedSimpArgs false

section
variable {P : Program} {Q : Exit → St → Prop}

/-- The beginning of a row that is not written any more, as a list. -/
def partAt (s : Nat) : Cf → Option (Nat × Nat × Nat × (Nat → List SV))
  | ⟨.l false (_ :: _) :: _, .normal, st⟩ => match look st.sl s with
    | .part i 0 n => match st.tb[i]? with
      | some (.row _ sz _ _ get) => some (i, sz, n, get)
      | _ => none
    | .own i => match st.tb[i]? with
      | some (.row _ sz n _ get) => some (i, sz, n, get)
      | _ => none
    | _ => none
  | _ => none

def partGo (s i : Nat) (b : SV) (cf : Cf) : Cf := { cf with st := { sl := (s, .sv b) :: cf.st.sl, tb := frzAt cf.st.tb i } }

theorem goodD_part {cf : Cf} (s i sz n : Nat) (get : Nat → List SV) (h : partAt s cf = some (i, sz, n, get)) (hg : GoodD P Q (partGo s i (.lst sz n get) cf)) : GoodD P Q cf := by
  obtain ⟨todo, e, st⟩ := cf
  unfold partAt at h
  split at h
  · rename_i o l kk st' heq
    simp only [Cf.mk.injEq] at heq
    obtain ⟨rfl, rfl, rfl⟩ := heq
    refine GVC.view (fun st' => st' = ⟨(s, .sv (.lst sz n get)) :: st.sl, frzAt st.tb i⟩) (fun w0 M0 G sv L w hM0 hb => ?_) (fun st' e => e ▸ hg)
    have hs := hb.slot s
    have hx : ∃ t m mu, (look st.sl s = .own i ∧ m = n ∨ look st.sl s = .part i 0 n) ∧ st.tb[i]? = some (.row t sz m mu get) ∧ n ≤ m := by
      split at h
      · rename_i j n' hl
        split at h
        · rename_i t sz' m mu get' hrow
          simp only [Option.some.injEq, Prod.mk.injEq] at h
          obtain ⟨rfl, rfl, rfl, rfl⟩ := h
          rw [hl] at hs
          obtain ⟨n2, t2, sz2, mu2, get2, h5, _, h6, _⟩ := hs
          rw [hrow] at h5
          simp only [Option.some.injEq, Blk.row.injEq] at h5
          obtain ⟨rfl, rfl, rfl, rfl, rfl⟩ := h5
          exact ⟨t, m, mu, .inr hl, hrow, h6⟩
        · cases h
      · rename_i j hl
        split at h
        · rename_i t sz' m mu get' hrow
          simp only [Option.some.injEq, Prod.mk.injEq] at h
          obtain ⟨rfl, rfl, rfl, rfl⟩ := h
          exact ⟨t, m, mu, .inl ⟨hl, rfl⟩, hrow, Nat.le_refl _⟩
        · cases h
      · cases h
    obtain ⟨t, m, mu, hl, hrow, hnm⟩ := hx
    have hfz := Frz.at st.tb i
    have hinv := hfz.inv _ _ _ _ hb.inv
    have hil : i < st.tb.length := (List.getElem?_eq_some_iff.1 hrow).1
    have hfro : (frzAt st.tb i)[i]? = some (.row t sz m false get) := by
      simp only [frzAt, hrow]
      rw [List.getElem?_set_self hil]
      rfl
    have hturn : ∀ (x : LV) (v : Value), LDen G w (mset M0 st.tb L) L st.tb x v → LDen G w (mset M0 (frzAt st.tb i) L) L (frzAt st.tb i) x v :=
      LDen.turn (fun s u hden => hden.less fun b _ => hfz.mset M0 L b) (fun _ _ => rfl) (by rw [hfz.len]; exact Nat.le_refl _) (fun j t' sz n' mu get' hj => by
        obtain ⟨mu', h'⟩ := hfz.row j t' sz n' mu get' hj
        exact ⟨t', mu', get', h'⟩)
    refine ⟨_, L, rfl, ⟨hinv, fun t' => ?_⟩, fun t' => ?_⟩
    · simp only [look]
      split
      · rename_i e; subst e
        obtain ⟨hok, hbn⟩ := row_of_part (hinv.ok i _ hfro) hfro hl hnm (hturn _ _ hs)
        exact den_of_row hok fun b hb' => not_mset hinv hM0 hfro rfl (by rw [← hbn]; exact hb')
      · exact hturn _ _ (hb.slot t')
    · simp only [look]
      split
      · exact .inr rfl
      · exact .inl rfl
  · cases h

theorem good_part {cf : Cf} (s i sz n : Nat) (get : Nat → List SV) (h : partAt s cf = some (i, sz, n, get)) (hg : Good P Q (partGo s i (.lst sz n get) cf)) : Good P Q cf := ⟨goodD_part s i sz n get h hg.ok⟩

end
end Go.Sx

/- Ranging over a map. -/
namespace Go.Sx
open Go Go.RowKit Go.ChangeMaps
set_option linter.unusedVariables false
set_option linter.unusedSimpArgs false

/-- A map that is not written any more. -/
def fmapS (zero : Value) (keys : List Int) (get : Int → SV) : SemBlk where
  mu := false
  ok w M v := BlkOK w M 0 (.map zero keys get) v
  ext w w' M M' v h he hM hb := BlkOK.ext h he hM hb

structure MapOK (w : World) (M : Nat → Prop) (keys : List Int) (get : Int → SV) (m : Nat) (es : Array MapEntry) (clock : Nat) : Prop where
  heap : w.heap[m]? = some (.map es clock)
  hkeys : es.toList.map (·.key) = keys.map (Value.int .i64)
  nodup : keys.Nodup
  born : ∀ e ∈ es.toList, e.born < clock
  births : (es.toList.map (·.born)).Nodup
  vals : ∀ (i : Nat) k e, keys[i]? = some k → es.toList[i]? = some e → Den w M (get k) e.val

/-- What an iterator over such a map knows: the keys that have been handed out. -/
structure IterOK (w : World) (M : Nat → Prop) (keys : List Int) (get : Int → SV) (seen : List Int) (r m since c0 : Nat) (seenB : Array Nat) (es : Array MapEntry) (clock : Nat) : Prop where
  iter : w.heap[r]? = some (.mapIter (some m) since seenB c0)
  lt : m < w.heap.size
  free : ¬ M m
  map : MapOK w M keys get m es clock
  old : ∀ e ∈ es.toList, e.born < since
  since0 : since ≤ c0
  since1 : since ≤ clock
  hseen : ∀ (i : Nat) k e, keys[i]? = some k → es.toList[i]? = some e → (e.born ∈ seenB.toList ↔ k ∈ seen)
  last : ∀ k, seen.getLast? = some k → ∃ (i : Nat) (e : MapEntry) (pre : Array Nat), keys[i]? = some k ∧ es.toList[i]? = some e ∧ seenB = pre.push e.born ∧ c0 = clock

def iterS (keys : List Int) (get : Int → SV) (seen : List Int) : SemBlk where
  mu := true
  ok w M v := ∃ r m since c0 seenB es clock, v = .pointer (some ⟨r, 0, none⟩) ∧ IterOK w M keys get seen r m since c0 seenB es clock
  ext w w' M M' v h he hM hb := by
    obtain ⟨r, m, since, c0, seenB, es, clock, rfl, h⟩ := h
    exact ⟨r, m, since, c0, seenB, es, clock, rfl,
      { iter := (hb r rfl).trans h.iter, lt := Nat.lt_of_lt_of_le h.lt he.size, free := fun hm => h.free (hM m h.lt hm),
        map := { heap := (he.block m h.lt h.free).trans h.map.heap, hkeys := h.map.hkeys, nodup := h.map.nodup, born := h.map.born, births := h.map.births, vals := fun i k e hk he' => (h.map.vals i k e hk he').ext he hM },
        old := h.old, since0 := h.since0, since1 := h.since1, hseen := h.hseen, last := h.last }⟩

section
variable {P : Program} {Q : Exit → St → Prop} {w0 : Base} {M0 : Nat → Prop} {L : Nat → Value} {tb : List Blk} {w : World}

/-- A block is told otherwise, and written less. -/
theorem Inv.demote (h : Inv w0 M0 L tb w) {i : Nat} {k k' : Blk} (hi : tb[i]? = some k) (hm : k'.mut = true → k.mut = true) (hk : ∀ M' : Nat → Prop, (∀ b, M' b → mset M0 tb L b) → BlkOK w M' 0 k' (L i)) :
    Inv w0 M0 L (tb.set i k') w ∧ ∀ b, mset M0 (tb.set i k') L b → mset M0 tb L b := by
  have hlt : i < tb.length := (List.getElem?_eq_some_iff.1 hi).1
  have hms : ∀ b, mset M0 (tb.set i k') L b → mset M0 tb L b := by
    rintro b (hb | ⟨j, kj, hj, hkm, hb⟩)
    · exact .inl hb
    · by_cases e : j = i
      · subst e
        rw [List.getElem?_set_self hlt] at hj
        injection hj with hj
        subst hj
        exact .inr ⟨j, k, hi, hm hkm, hb⟩
      · rw [List.getElem?_set_ne (Ne.symm e)] at hj
        exact .inr ⟨j, kj, hj, hkm, hb⟩
  refine ⟨{ below := h.below, ok := fun j kj hj => ?_, apart := fun a b c ha hb => h.apart a b c (by simpa using ha) (by simpa using hb), low := fun a b ha => h.low a b (by simpa using ha) }, hms⟩
  by_cases e : j = i
  · subst e
    rw [List.getElem?_set_self hlt] at hj
    injection hj with hj
    subst hj
    exact hk _ hms
  · rw [List.getElem?_set_ne (Ne.symm e)] at hj
    exact (h.ok j kj hj).less hms

/-- At a range over a map. -/
def rangeAt : Cf → Option (TypeId × Nat × Value × List Int × (Int → SV))
  | ⟨.l false (⟨_, .bad (.range t x) _, none⟩ :: _) :: _, .normal, st⟩ => match ev st.sl x with
    | .own i => match st.tb[i]? with
      | some (.map z keys get) => some (t, i, z, keys, get)
      | _ => none
    | _ => none
  | _ => none

def rangeGo (i : Nat) (z : Value) (keys : List Int) (get : Int → SV) : Cf → Cf
  | ⟨.l false (o :: l) :: k, e, st⟩ => ⟨.l false l :: k, e, St.put { sl := st.sl, tb := st.tb.set i (.sem (fmapS z keys get)) ++ [.sem (iterS keys get [])] } o.dst (.ptr st.tb.length 0)⟩
  | cf => cf

def isMapT (P : Program) (t : TypeId) : Bool :=
  match P.underlying t with
  | some (.map _ _) => true
  | _ => false

theorem goodD_range {cf : Cf} (t : TypeId) (i : Nat) (z : Value) (keys : List Int) (get : Int → SV) (h : rangeAt cf = some (t, i, z, keys, get)) (ht : isMapT P t = true) (hno : noOptB cf.st.sl = true) (hg : GoodD P Q (rangeGo i z keys get cf)) : GoodD P Q cf := by
  obtain ⟨todo, e, st⟩ := cf
  unfold rangeAt at h
  split at h
  · rename_i d t' x xs l kk st' heq
    simp only [Cf.mk.injEq] at heq
    obtain ⟨rfl, rfl, rfl⟩ := heq
    split at h
    · rename_i i' hx
      split at h
      · rename_i z' keys' get' hi
        simp only [Option.some.injEq, Prod.mk.injEq] at h
        obtain ⟨rfl, rfl, rfl, rfl, rfl⟩ := h
        refine GVC.step ?_
        show stepVC P st ⟨d, .bad (.range t' x) xs, none⟩ (fun st' => stepsVC P l st' (kont P Q kk .normal))
        simp only [stepVC]
        intro w0 M0 G sv L w ρ o ho hM0 hb hρ
        have hil : i' < st.tb.length := (List.getElem?_eq_some_iff.1 hi).1
        obtain ⟨b, es, clock, hL, hh, h1, h2, h3, h4, h5, h6⟩ := hb.inv.ok i' _ hi
        have hbl : b < w.heap.size := (hb.inv.low i' b hil (by rw [hL]; rfl)).2
        have hv : ρ x = .map (some b) := by
          have := hρ x
          rw [hx] at this
          rw [this.2, hL]
        obtain ⟨kt, et, hu⟩ : ∃ k e, P.underlying t' = some (.map k e) := by
          unfold isMapT at ht
          split at ht
          · exact ⟨_, _, ‹_›⟩
          · cases ht
        have hrun := run_range_map (P := P) w t' kt et b es clock hu hh
        obtain ⟨hI1, hms1⟩ := hb.inv.demote (k' := .sem (fmapS z' keys' get')) hi (fun h => by cases h) (fun M' hM' => (hb.inv.ok i' _ hi).less hM')
        have hfree : ¬ mset M0 (st.tb.set i' (.sem (fmapS z' keys' get'))) L b := not_mset hI1 hM0 (List.getElem?_set_self hil) rfl (by rw [hL]; rfl)
        have hbel := alloc_below w (.mapIter (some b) clock #[] clock)
        have hlen : (st.tb.set i' (.sem (fmapS z' keys' get'))).length = st.tb.length := by simp
        have hfresh : ∀ b', blkNo (.pointer (some ⟨w.heap.size, 0, none⟩)) = some b' → w.heap.size ≤ b' := fun b' hb' => by simp [blkNo] at hb'; omega
        have hpm : ∀ b', b' < w.heap.size → mset M0 (st.tb.set i' (.sem (fmapS z' keys' get')) ++ [.sem (iterS keys' get' [])]) (upd L (st.tb.set i' (.sem (fmapS z' keys' get'))).length (.pointer (some ⟨w.heap.size, 0, none⟩))) b' → mset M0 (st.tb.set i' (.sem (fmapS z' keys' get'))) L b' :=
          mset_push hfresh
        have hI2 := hI1.push (k := .sem (iterS keys' get' [])) (v := .pointer (some ⟨w.heap.size, 0, none⟩)) hbel (fun b' hb' => by simp [blkNo] at hb'; subst hb'; simp) (by
          refine ⟨w.heap.size, b, clock, clock, #[], es, clock, rfl, { iter := heap_alloc_new w _, lt := by simp; omega, free := fun hm => hfree (hpm b hbl hm), map := { heap := by rw [Below.heap_alloc w _ b hbl]; exact hh, hkeys := h1, nodup := h2, born := h3, births := h4, vals := fun i k e hk he => ?_ }, old := h3, since0 := Nat.le_refl _, since1 := Nat.le_refl _, hseen := fun i k e _ _ => by simp, last := fun k hk => by simp at hk }⟩
          exact ((h5 i k e hk he).less fun b' _ hm => hms1 b' hm).ext (.of_below hbel) hpm)
        refine ⟨.pointer (some ⟨w.heap.size, 0, none⟩), _, (⟨st.sl, (st.tb.set i' (Blk.sem (fmapS z' keys' get')) ++ [Blk.sem (iterS keys' get' [])] : List Blk)⟩ : St), .ptr st.tb.length 0, _, .inl ?_, ?_, ⟨hI2, fun t => ?_⟩, ?_, rfl, fun t => noOptB_look t _ hno⟩
        · simp only [execOp, ho, hv]
          exact run_v hrun
        · exact hg
        · refine LDen.turn (fun s u hden => ?_) (fun j hj => upd_other _ _ _ _ (by rw [hlen]; omega)) (by simp) (fun j t' sz n mu g hj => ?_) _ _ (hb.slot t)
          · exact (hden.less fun b' _ hm => hms1 b' hm).ext (.of_below hbel) hpm
          · have hji : i' ≠ j := fun e => by subst e; rw [hi] at hj; cases hj
            have hjl := (List.getElem?_eq_some_iff.1 hj).1
            exact ⟨t', mu, g, by rw [List.getElem?_append_left (by rw [hlen]; exact hjl), List.getElem?_set_ne hji]; exact hj⟩
        · refine ⟨by simp, w.heap.size, ?_, rfl⟩
          rw [← hlen]; exact upd_same _ _ _
      · cases h
    · cases h
  · cases h

/-- At the next step of an iterator. -/
def nextAt : Cf → Option (Nat × Blk)
  | ⟨.l false (⟨_, .bad (.next x false) _, none⟩ :: _) :: _, .normal, st⟩ => match ev st.sl x with
    | .ptr j 0 => match st.tb[j]? with
      | some k => some (j, k)
      | none => none
    | _ => none
  | _ => none

def nextGo (j : Nat) (keys : List Int) (get : Int → SV) (seen : List Int) (k : Int) : Cf → Cf
  | ⟨.l false (o :: l) :: kk, e, st⟩ => ⟨.l false l :: kk, e, St.put { sl := st.sl, tb := st.tb.set j (.sem (iterS keys get (seen ++ [k]))) } o.dst (.sv (.tup [.bool true, .int .i64 k, get k]))⟩
  | cf => cf

def nextEnd : Cf → Cf
  | ⟨.l false (o :: l) :: kk, e, st⟩ => ⟨.l false l :: kk, e, St.put st o.dst (.sv (.tup [.bool false]))⟩
  | cf => cf

theorem goodD_next {cf : Cf} (j : Nat) (keys : List Int) (get : Int → SV) (seen : List Int) (h : nextAt cf = some (j, .sem (iterS keys get seen))) (hno : noOptB cf.st.sl = true)
    (hg : ∀ k, k ∈ keys → k ∉ seen → GoodD P Q (nextGo j keys get seen k cf)) (he : (∀ k ∈ keys, k ∈ seen) → GoodD P Q (nextEnd cf)) : GoodD P Q cf := by
  obtain ⟨todo, e, st⟩ := cf
  unfold nextAt at h
  split at h
  · rename_i d x xs l kk st' heq
    simp only [Cf.mk.injEq] at heq
    obtain ⟨rfl, rfl, rfl⟩ := heq
    split at h
    · rename_i j' hx
      split at h
      · rename_i kb hj
        simp only [Option.some.injEq, Prod.mk.injEq] at h
        obtain ⟨rfl, rfl⟩ := h
        refine GVC.step ?_
        show stepVC P st ⟨d, .bad (.next x false) xs, none⟩ (fun st' => stepsVC P l st' (kont P Q kk .normal))
        simp only [stepVC]
        intro w0 M0 G sv L w ρ o ho hM0 hb hρ
        have hjl : j' < st.tb.length := (List.getElem?_eq_some_iff.1 hj).1
        obtain ⟨r, m, since, c0, seenB, es, clock, hL, hok⟩ := hb.inv.ok j' _ hj
        have hv : ρ x = .pointer (some ⟨r, 0, none⟩) := by
          have := hρ x
          rw [hx] at this
          obtain ⟨_, b, h1, h2⟩ := this
          rw [hL] at h1
          injection h1 with h1
          injection h1 with h1
          rw [h2]
          have : r = b := by injection h1
          rw [this]
        have hrl : r < w.heap.size := (hb.inv.low j' r hjl (by rw [hL]; rfl)).2
        have hmr : m ≠ r := fun e => by
          have h1 := hok.iter
          rw [← e, hok.map.heap] at h1
          cases h1
        rcases run_next_at (P := P) w o.type r m since c0 seenB es clock hok.iter hok.map.heap hok.old hok.since0 with ⟨hz, hrun⟩ | ⟨en, hen, w1, hw1, hrun⟩
        · have hall : ∀ k ∈ keys, k ∈ seen := by
            intro k hk
            obtain ⟨i, hi⟩ := List.mem_iff_getElem?.1 hk
            have hlen : es.toList.length = keys.length := by have := congrArg List.length hok.map.hkeys; simpa using this
            have hil : i < es.toList.length := by rw [hlen]; exact (List.getElem?_eq_some_iff.1 hi).1
            refine (hok.hseen i k _ hi (List.getElem?_eq_getElem hil)).1 (Classical.byContradiction fun hn => ?_)
            have hmem : es.toList[i] ∈ (leftOf es seenB).toList := by
              unfold leftOf
              simp only [Array.toList_filter, List.mem_filter, Bool.not_eq_true']
              refine ⟨List.getElem_mem hil, ?_⟩
              simpa using hn
            have : (leftOf es seenB).toList = [] := List.eq_nil_of_length_eq_zero (by simpa using hz)
            rw [this] at hmem
            simp at hmem
          refine ⟨.tuple #[.bool false], w, st, .sv (.tup [.bool false]), L, .inl ?_, he hall, hb, ?_, rfl, fun t => noOptB_look t _ hno⟩
          · simp only [execOp, ho, hv]
            exact run_v hrun
          · exact .tup _ _ rfl fun i s v hs hv => by
              match i, hs, hv with
              | 0, hs, hv => cases hs; cases hv; exact .bool _
              | i + 1, hs, _ => simp at hs
        · have hen' : en ∈ es.toList ∧ en.born ∉ seenB.toList := by
            unfold leftOf at hen
            simp only [Array.toList_filter, List.mem_filter, Bool.not_eq_true'] at hen
            exact ⟨hen.1, by simpa using hen.2⟩
          obtain ⟨i, hi⟩ := List.mem_iff_getElem?.1 hen'.1
          have hlen : es.toList.length = keys.length := by have := congrArg List.length hok.map.hkeys; simpa using this
          have hil : i < keys.length := by rw [← hlen]; exact (List.getElem?_eq_some_iff.1 hi).1
          have hki := List.getElem?_eq_getElem hil
          generalize hkk : keys[i] = k at hki
          have hkey : en.key = .int .i64 k := by
            have := congrArg (fun l => l[i]?) hok.map.hkeys
            simp only [List.getElem?_map, hi, hki, Option.map_some, Option.some.injEq] at this
            exact this
          have hkn : k ∉ seen := fun hs => hen'.2 ((hok.hseen i k en hki hi).2 hs)
          have hw1' : w1.heap = w.heap ∧ w1.os = w.os ∧ w1.tape = w.tape ∧ w1.output = w.output := by
            rcases hw1 with rfl | rfl
            · exact ⟨rfl, rfl, rfl, rfl⟩
            · exact ⟨rfl, rfl, rfl, rfl⟩
          have hgrow : w.grownBy (setBlock w1 r (.mapIter (some m) since (seenB.push en.born) clock)) (blkNo (L j')) := by
            rw [hL]
            refine ⟨hw1'.2.1, hw1'.2.2.1, hw1'.2.2.2, by simp [setBlock, hw1'.1], fun b hbl hne => ?_⟩
            have : r ≠ b := fun e => hne (by rw [← e]; rfl)
            simp [setBlock, hw1'.1, Array.getElem?_setIfInBounds, this]
          have hext : Ext (mset M0 st.tb L) w (setBlock w1 r (.mapIter (some m) since (seenB.push en.born) clock)) :=
            ⟨hgrow.os, hgrow.tape, hgrow.output, hgrow.size, fun b hb' hn => hgrow.block b hb' (fun e => hn (.inr ⟨j', _, hj, rfl, e.symm⟩))⟩
          have hms := mset_set (w := w) (M0 := M0) (L := L) (tb := st.tb) (k' := .sem (iterS keys get (seen ++ [k]))) (v := L j') hj rfl (fun _ h => .inl h)
          have hup : upd L j' (L j') = L := funext fun q => by unfold upd; split <;> simp_all
          have hset := hb.inv.set (k' := .sem (iterS keys get (seen ++ [k]))) (v := L j') hj rfl hgrow (fun c hc => ⟨.inl hc, by
            have := (hb.inv.low j' c hjl hc).2
            exact Nat.lt_of_lt_of_le this hgrow.size⟩) (by
            refine ⟨r, m, since, clock, seenB.push en.born, es, clock, hL, { iter := ?_, lt := ?_, free := ?_, map := { heap := ?_, hkeys := hok.map.hkeys, nodup := hok.map.nodup, born := hok.map.born, births := hok.map.births, vals := fun i k e hk he => ?_ }, old := hok.old, since0 := hok.since1, since1 := hok.since1, hseen := fun i' k' e' hk' he' => ?_, last := fun k' hk' => ⟨i, en, seenB, by rw [List.getLast?_append] at hk'; simp at hk'; subst hk'; exact hki, hi, rfl, rfl⟩ }⟩
            · simp [setBlock, hw1'.1, hrl]
            · exact Nat.lt_of_lt_of_le hok.lt hgrow.size
            · exact fun hm => hok.free (hms m hok.lt hm)
            · rw [hgrow.block m hok.lt (by rw [hL]; intro e; injection e with e; exact hmr e)]; exact hok.map.heap
            · exact (hok.map.vals i k e hk he).ext hext hms
            · rw [Array.toList_push, List.mem_append, List.mem_append, hok.hseen i' k' e' hk' he', List.mem_singleton, List.mem_singleton]
              have hidx : e'.born = en.born ↔ k' = k := by
                have b1 : (es.toList.map (·.born))[i']? = some e'.born := by rw [List.getElem?_map, he']; rfl
                have b2 : (es.toList.map (·.born))[i]? = some en.born := by rw [List.getElem?_map, hi]; rfl
                have i1 := List.getElem?_eq_some_iff.1 b1
                have i2 := List.getElem?_eq_some_iff.1 b2
                have k1 := List.getElem?_eq_some_iff.1 hk'
                have k2 := List.getElem?_eq_some_iff.1 hki
                constructor
                · intro e
                  have : i' = i := (List.getElem_inj hok.map.births).1 (i1.2.trans (e.trans i2.2.symm))
                  subst this
                  rw [hk'] at hki
                  injection hki
                · intro e
                  have : i' = i := (List.getElem_inj hok.map.nodup).1 (k1.2.trans (e.trans k2.2.symm))
                  subst this
                  rw [he'] at hi
                  injection hi with hi
                  rw [hi]
              rw [hidx])
          rw [hup] at hset hms
          refine ⟨.tuple #[.bool true, en.key, en.val], _, ⟨st.sl, st.tb.set j' (.sem (iterS keys get (seen ++ [k])))⟩, .sv (.tup [.bool true, .int .i64 k, get k]), L, .inl ?_, hg k (List.mem_of_getElem? hki) hkn, ⟨hset.1, fun t => ?_⟩, ?_, rfl, fun t => noOptB_look t _ hno⟩
          · simp only [execOp, ho, hv]
            exact run_v hrun
          · refine LDen.turn (fun s u hden => hden.ext hext hms) (fun _ _ => rfl) (by simp) (fun q t' sz n mu g hq => ?_) _ _ (hb.slot t)
            have hne : j' ≠ q := fun e => by subst e; rw [hj] at hq; cases hq
            exact ⟨t', mu, g, by rw [List.getElem?_set_ne hne]; exact hq⟩
          · refine .tup _ _ rfl fun q s v hs hv => ?_
            match q, hs, hv with
            | 0, hs, hv => cases hs; cases hv; exact .bool _
            | 1, hs, hv => cases hs; cases hv; rw [hkey]; exact .int _ _
            | 2, hs, hv => cases hs; cases hv; exact (hok.map.vals i k en hki hi).ext hext hms
            | q + 3, hs, _ => simp at hs
      · cases h
    · cases h
  · cases h

/-- The entry that was handed out last. -/
def entryAt : Cf → Option (Nat × Blk)
  | ⟨.l false (⟨_, .bad (.entry x) _, none⟩ :: _) :: _, .normal, st⟩ => match ev st.sl x with
    | .ptr j 0 => match st.tb[j]? with
      | some k => some (j, k)
      | none => none
    | _ => none
  | _ => none

def entryGo (k : Int) (s : SV) : Cf → Cf
  | ⟨.l false (o :: l) :: kk, e, st⟩ => ⟨.l false l :: kk, e, St.put st o.dst (.sv (.tup [.int .i64 k, s]))⟩
  | cf => cf

theorem goodD_entry {cf : Cf} (j : Nat) (keys : List Int) (get : Int → SV) (seen : List Int) (k : Int) (h : entryAt cf = some (j, .sem (iterS keys get (seen ++ [k])))) (hno : noOptB cf.st.sl = true)
    (hg : GoodD P Q (entryGo k (get k) cf)) : GoodD P Q cf := by
  obtain ⟨todo, e, st⟩ := cf
  unfold entryAt at h
  split at h
  · rename_i d x xs l kk st' heq
    simp only [Cf.mk.injEq] at heq
    obtain ⟨rfl, rfl, rfl⟩ := heq
    split at h
    · rename_i j' hx
      split at h
      · rename_i kb hj
        simp only [Option.some.injEq, Prod.mk.injEq] at h
        obtain ⟨rfl, rfl⟩ := h
        refine GVC.step ?_
        show stepVC P st ⟨d, .bad (.entry x) xs, none⟩ (fun st' => stepsVC P l st' (kont P Q kk .normal))
        simp only [stepVC]
        intro w0 M0 G sv L w ρ o ho hM0 hb hρ
        obtain ⟨r, m, since, c0, seenB, es, clock, hL, hok⟩ := hb.inv.ok j' _ hj
        have hv : ρ x = .pointer (some ⟨r, 0, none⟩) := by
          have := hρ x
          rw [hx] at this
          obtain ⟨_, b, h1, h2⟩ := this
          rw [hL] at h1
          injection h1 with h1
          injection h1 with h1
          rw [h2]
          have : r = b := by injection h1
          rw [this]
        obtain ⟨i, en, pre, hki, hi, hpre, hc0⟩ := hok.last k (by simp)
        have hkey : en.key = .int .i64 k := by
          have := congrArg (fun l => l[i]?) hok.map.hkeys
          simp only [List.getElem?_map, hi, hki, Option.map_some, Option.some.injEq] at this
          exact this
        have hrun := run_entry_at (P := P) w r m since pre es clock en (by rw [hok.iter, hpre, hc0]) hok.map.heap (List.mem_of_getElem? hi) hok.map.births
        refine ⟨.tuple #[en.key, en.val], w, st, .sv (.tup [.int .i64 k, get k]), L, .inl ?_, hg, hb, ?_, rfl, fun t => noOptB_look t _ hno⟩
        · simp only [execOp, ho, hv]
          exact run_v hrun
        · refine .tup _ _ rfl fun q s v hs hv => ?_
          match q, hs, hv with
          | 0, hs, hv => cases hs; cases hv; rw [hkey]; exact .int _ _
          | 1, hs, hv => cases hs; cases hv; exact hok.map.vals i k en hki hi
          | q + 2, hs, _ => simp at hs
      · cases h
    · cases h
  · cases h

theorem good_entry {cf : Cf} (j : Nat) (keys : List Int) (get : Int → SV) (seen : List Int) (k : Int) (h : entryAt cf = some (j, .sem (iterS keys get (seen ++ [k])))) (hno : noOptB cf.st.sl = true)
    (hg : Good P Q (entryGo k (get k) cf)) : Good P Q cf := ⟨goodD_entry j keys get seen k h hno hg.ok⟩
theorem good_range {cf : Cf} (t : TypeId) (i : Nat) (z : Value) (keys : List Int) (get : Int → SV) (h : rangeAt cf = some (t, i, z, keys, get)) (ht : isMapT P t = true) (hno : noOptB cf.st.sl = true) (hg : Good P Q (rangeGo i z keys get cf)) : Good P Q cf :=
  ⟨goodD_range t i z keys get h ht hno hg.ok⟩
theorem good_next {cf : Cf} (j : Nat) (keys : List Int) (get : Int → SV) (seen : List Int) (h : nextAt cf = some (j, .sem (iterS keys get seen))) (hno : noOptB cf.st.sl = true)
    (hg : ∀ k, k ∈ keys → k ∉ seen → Good P Q (nextGo j keys get seen k cf)) (he : (∀ k ∈ keys, k ∈ seen) → Good P Q (nextEnd cf)) : Good P Q cf :=
  ⟨goodD_next j keys get seen h hno (fun k h1 h2 => (hg k h1 h2).ok) fun h => (he h).ok⟩

/-- An entry of a map will be written: its stamp gets a name. -/
def stampGo (j : Nat) (z : Value) (ks : List Int) (get : Int → SV) (key s : Int) (cf : Cf) : Cf := { cf with st := { cf.st with tb := cf.st.tb.set j (.sem (entS z ks get key s false)) } }

theorem goodD_stamp {cf : Cf} (j : Nat) {z : Value} {ks : List Int} {get : Int → SV} (key : Int) (h : tagAt j cf = some (.map z ks get)) (hg : ∀ s : Int, GoodD P Q (stampGo j z ks get key s cf)) : GoodD P Q cf := by
  obtain ⟨todo, e, st⟩ := cf
  unfold tagAt at h
  split at h
  · rename_i o l kk st' heq
    simp only [Cf.mk.injEq] at heq
    obtain ⟨rfl, rfl, rfl⟩ := heq
    refine GVC.view (fun st' => ∃ s, st' = ⟨st.sl, st.tb.set j (.sem (entS z ks get key s false))⟩) (fun w0 M0 G sv L w hM0 hb => ?_) (fun st' ⟨s, e⟩ => e ▸ hg s)
    obtain ⟨b, es, clock, hL, hh, h1, h2, h3, h4, h5, h6⟩ := hb.inv.ok j _ h
    have hst : ∃ s : Int, (∀ (i : Nat) e, ks[i]? = some key → es.toList[i]? = some e → (e.born : Int) = s) ∧ (key ∉ ks → (clock : Int) = s) := by
      by_cases hk : key ∈ ks
      · obtain ⟨i, hi⟩ := List.mem_iff_getElem?.1 hk
        have hlen : es.toList.length = ks.length := by have := congrArg List.length h1; simpa using this
        have hil : i < es.toList.length := by rw [hlen]; exact (List.getElem?_eq_some_iff.1 hi).1
        refine ⟨(es.toList[i].born : Int), fun i' e' hi' he' => ?_, fun hn => (hn hk).elim⟩
        have i1 := List.getElem?_eq_some_iff.1 hi
        have i2 := List.getElem?_eq_some_iff.1 hi'
        have : i' = i := (List.getElem_inj h2).1 (i2.2.trans i1.2.symm)
        subst this
        rw [List.getElem?_eq_getElem hil] at he'
        injection he' with he'
        rw [he']
      · exact ⟨clock, fun i e hi _ => (hk (List.mem_of_getElem? hi)).elim, fun _ => rfl⟩
    obtain ⟨s, hs1, hs2⟩ := hst
    obtain ⟨hI, hms⟩ := hb.inv.demote (k' := .sem (entS z ks get key s false)) h (fun _ => rfl) (fun M' hM' => by
      rw [hL]
      exact ⟨b, es, clock, rfl, hh, h1, h2, h3, h4, fun i k e hk he => (h5 i k e hk he).less fun b' _ hm => hM' b' hm, fun k hk => (h6 k hk).less fun b' _ hm => hM' b' hm, hs1, hs2, fun h => by cases h⟩)
    refine ⟨_, L, ⟨s, rfl⟩, ⟨hI, fun t => ?_⟩, fun t => .inl rfl⟩
    refine LDen.turn (fun s u hden => hden.less fun b' _ hm => hms b' hm) (fun _ _ => rfl) (by simp) (fun q t' sz n mu g hq => ?_) _ _ (hb.slot t)
    have hne : j ≠ q := fun e => by subst e; rw [h] at hq; cases hq
    exact ⟨t', mu, g, by rw [List.getElem?_set_ne hne]; exact hq⟩
  · cases h

theorem good_stamp {cf : Cf} (j : Nat) {z : Value} {ks : List Int} {get : Int → SV} (key : Int) (h : tagAt j cf = some (.map z ks get)) (hg : ∀ s : Int, Good P Q (stampGo j z ks get key s cf)) : Good P Q cf := ⟨goodD_stamp j key h fun s => (hg s).ok⟩
end
end Go.Sx

/- A block is told otherwise: a row whose elements say less. -/
namespace Go.Sx
open Go Go.RowKit
set_option linter.unusedVariables false
set_option linter.unusedSimpArgs false

section
variable {P : Program} {Q : Exit → St → Prop}

/-- The row j, at an operation. -/
def rowAt (j : Nat) : Cf → Option (TypeId × Nat × Nat × Bool × (Nat → List SV))
  | ⟨.l false (_ :: _) :: _, .normal, st⟩ => match st.tb[j]? with
    | some (.row t sz n mu get) => some (t, sz, n, mu, get)
    | _ => none
  | _ => none

def blkGo (j : Nat) (k : Blk) (cf : Cf) : Cf := { cf with st := { cf.st with tb := cf.st.tb.set j k } }

theorem goodD_row {cf : Cf} (j : Nat) {t : TypeId} {sz n : Nat} {mu : Bool} {get : Nat → List SV} (get' : Nat → List SV) (h : rowAt j cf = some (t, sz, n, mu, get)) (hle : ∀ i, i < n → SVles (get i) (get' i))
    (hg : GoodD P Q (blkGo j (.row t sz n mu get') cf)) : GoodD P Q cf := by
  obtain ⟨todo, e, st⟩ := cf
  unfold rowAt at h
  split at h
  · rename_i o l kk st' heq
    simp only [Cf.mk.injEq] at heq
    obtain ⟨rfl, rfl, rfl⟩ := heq
    split at h
    · rename_i t' sz' n' mu' g' hj
      simp only [Option.some.injEq, Prod.mk.injEq] at h
      obtain ⟨rfl, rfl, rfl, rfl, rfl⟩ := h
      refine GVC.view (fun st' => st' = ⟨st.sl, st.tb.set j (.row t' sz' n' mu' get')⟩) (fun w0 M0 G sv L w hM0 hb => ?_) (fun st' e => e ▸ hg)
      obtain ⟨hI, hms⟩ := hb.inv.demote (k' := .row t' sz' n' mu' get') hj (fun h => h) (fun M' hM' => BlkOK.le ((hb.inv.ok j _ hj).less hM') ⟨rfl, rfl, rfl, fun h => h, hle⟩)
      refine ⟨_, L, rfl, ⟨hI, fun s => ?_⟩, fun s => .inl rfl⟩
      refine LDen.turn (fun s u hden => hden.less fun b' _ hm => hms b' hm) (fun _ _ => rfl) (by simp) (fun i t sz n mu g hi => ?_) _ _ (hb.slot s)
      by_cases e : i = j
      · subst e
        rw [hj] at hi
        injection hi with hi
        injection hi with q1 q2 q3 q4 q5
        subst q1 q2 q3 q4 q5
        exact ⟨t', mu', get', List.getElem?_set_self (List.getElem?_eq_some_iff.1 hj).1⟩
      · exact ⟨t, mu, g, by rw [List.getElem?_set_ne (Ne.symm e)]; exact hi⟩
    · cases h
  · cases h
end

theorem good_row {P : Program} {Q : Exit → St → Prop} {cf : Cf} (j : Nat) {t : TypeId} {sz n : Nat} {mu : Bool} {get : Nat → List SV} (get' : Nat → List SV) (h : rowAt j cf = some (t, sz, n, mu, get)) (hle : ∀ i, i < n → SVles (get i) (get' i))
    (hg : Good P Q (blkGo j (.row t sz n mu get') cf)) : Good P Q cf := ⟨goodD_row j get' h hle hg.ok⟩
end Go.Sx
namespace Go.Sx
open Go Go.RowKit
set_option linter.unusedVariables false
set_option linter.unusedSimpArgs false

/-! All orders one by one; the blocks that the region has laid are dropped at its end. -/

def livesB (tb : List Blk) (i : Nat) : Bool :=
  match tb[i]? with
  | none => false
  | some .dead => false
  | some _ => true

def okB (tb : List Blk) : LV → Bool
  | .any => true
  | .sv _ => true
  | .ptr i _ => livesB tb i
  | .own i => livesB tb i
  | .part i _ _ => isRowAt tb i
  | .isv i _ => livesB tb i
  | _ => false

def safeLV (tb : List Blk) (x : LV) : LV := if okB tb x then x else .any

def dropB (n0 : Nat) (tb : List Blk) : List Blk := tb.take n0 ++ (tb.drop n0).map fun _ => Blk.dead

def safeSl (tb : List Blk) (sl : List (Nat × LV)) (ks : List Nat) : List (Nat × LV) := ks.map fun t => (t, safeLV tb (look sl t))

def canonB (ks : List Nat) (n0 : Nat) (st : St) : St := { sl := safeSl (dropB n0 st.tb) (cleanSl st.sl) ks, tb := dropB n0 st.tb }

theorem svles_refl' : ∀ cs : List SV, SVles cs cs
  | [] => trivial
  | s :: r => ⟨fun _ _ _ h => h, svles_refl' r⟩

theorem blkLe_refl : ∀ k : Blk, BlkLe k k
  | .cells _ _ cs => ⟨rfl, fun h => h, svles_refl' cs⟩
  | .row _ _ n _ get => ⟨rfl, rfl, rfl, fun h => h, fun i _ => svles_refl' _⟩
  | .map _ _ get => ⟨rfl, rfl, fun k _ _ _ h => h⟩
  | .dead => trivial
  | .sem _ => rfl

theorem tbLe_dead : ∀ tb : List Blk, TbLe tb (tb.map fun _ => Blk.dead)
  | [] => trivial
  | k :: r => ⟨by cases k <;> trivial, tbLe_dead r⟩

theorem tbLe_drop : ∀ (n0 : Nat) (tb : List Blk), TbLe tb (dropB n0 tb)
  | 0, tb => by simpa [dropB] using tbLe_dead tb
  | n + 1, [] => by simp [dropB, TbLe]
  | n + 1, k :: r => by
    have := tbLe_drop n r
    simp only [dropB, List.take_succ_cons, List.drop_succ_cons, List.cons_append] at this ⊢
    exact ⟨blkLe_refl k, this⟩

theorem livesB_lt {tb : List Blk} {i : Nat} (h : livesB tb i = true) : i < tb.length := by
  unfold livesB at h
  split at h
  · cases h
  · cases h
  · rename_i hk; exact (List.getElem?_eq_some_iff.1 hk).1

theorem lvle_safe {n : Nat} {tb : List Blk} (hn : tb.length ≤ n) (x : LV) : LVle n tb x (safeLV tb x) := by
  unfold safeLV
  by_cases h : okB tb x = true
  · rw [if_pos h]
    cases x with
    | any => trivial
    | sv s => exact fun _ _ _ h => h
    | ptr i o => exact ⟨rfl, rfl, livesB_lt h⟩
    | own i => exact ⟨rfl, livesB_lt h⟩
    | part i a b => exact ⟨rfl, rfl, rfl, h⟩
    | isv i v => have := livesB_lt h; exact ⟨rfl, rfl, by omega, this⟩
    | rp _ _ _ => cases h
    | opt _ _ _ => cases h
    | exact _ => cases h
  · rw [if_neg h]
    cases x <;> trivial

theorem slLe_safe {n : Nat} {tb : List Blk} (hn : tb.length ≤ n) (sl : List (Nat × LV)) : ∀ ks : List Nat, SlLe n tb sl (safeSl tb sl ks)
  | [] => trivial
  | t :: r => ⟨lvle_safe hn _, slLe_safe hn sl r⟩

theorem canonB_weak (ks : List Nat) (n0 : Nat) (st : St) : Weak { st with sl := cleanSl st.sl } (canonB ks n0 st) :=
  .le .refl ⟨tbLe_drop n0 st.tb, slLe_safe (by show (dropB n0 st.tb).length ≤ st.tb.length; simp [dropB]; omega) _ ks⟩

section
variable {P : Program} {Q : Exit → St → Prop}

/-- What comes behind the ends of blocks. -/
def skipBlk : List Item → List Item
  | .blk _ :: k => skipBlk k
  | k => k

theorem kont_skip (st : St) : ∀ k : List Item, kont P Q k .normal st = kont P Q (skipBlk k) .normal st
  | [] => rfl
  | .blk _ :: k => by
    rw [skipBlk, ← kont_skip st k]
    rfl
  | .c _ :: _ => rfl
  | .l _ _ :: _ => rfl
  | .a _ _ _ _ :: _ => rfl
  | .cl :: _ => rfl

def isC : List Item → Bool
  | .c _ :: _ => true
  | _ => false

def endsB (P : Program) (ks : List Nat) (n0 : Nat) : Cf → Option (List (St × List Prop))
  | ⟨.a l aft n done :: .cl :: k, .normal, st⟩ => if isC (skipBlk k) then match runsA P l aft n done st with
    | some rs => some (rs.map fun r => (canonB ks n0 r.1, obsL r.2))
    | none => none
    else none
  | _ => none

def goB (P : Program) (ks : List Nat) (n0 : Nat) : Cf → Cf
  | ⟨.a l aft n done :: .cl :: k, .normal, st⟩ => match runsA P l aft n done st with
    | some (r :: _) => ⟨skipBlk k, .normal, canonB ks n0 r.1⟩
    | _ => ⟨[], .normal, st⟩
  | cf => cf

theorem goodD_allB {cf : Cf} (ks : List Nat) (n0 : Nat) (N : Nat) (obs : List Prop) (h : endsB P ks n0 cf = some (List.replicate N ((goB P ks n0 cf).st, obs))) (ho : AllP obs) (hg : GoodD P Q (goB P ks n0 cf)) : GoodD P Q cf := by
  obtain ⟨todo, e, st⟩ := cf
  unfold endsB at h
  split at h
  · rename_i l aft n done k st' heq
    simp only [Cf.mk.injEq] at heq
    obtain ⟨rfl, rfl, rfl⟩ := heq
    split at h
    · rename_i hc
      split at h
      · rename_i rs hrs
        injection h with h
        refine ⟨st, .refl, runs_sound n done st rs hrs fun r hr => ?_⟩
        have hmem : (canonB ks n0 r.1, obsL r.2) ∈ List.replicate N ((goB P ks n0 ⟨.a l aft n done :: .cl :: k, .normal, st⟩).st, obs) := by
          rw [← h]; exact List.mem_map.2 ⟨r, hr, rfl⟩
        have heq := (List.mem_replicate.1 hmem).2
        simp only [Prod.mk.injEq] at heq
        obtain ⟨h1, h2⟩ := heq
        refine ⟨by rw [h2]; exact ho, ?_⟩
        have hgo : goB P ks n0 ⟨.a l aft n done :: .cl :: k, .normal, st⟩ = ⟨skipBlk k, .normal, canonB ks n0 r.1⟩ := by
          rw [h1]
          simp only [goB, hrs]
          cases rs with
          | nil => simp at hr
          | cons r0 t => rfl
        rw [hgo] at hg
        show kont P Q k .normal { r.1 with sl := cleanSl r.1.sl }
        rw [kont_skip]
        unfold GoodD at hg
        simp only at hg
        cases hk : skipBlk k with
        | nil => rw [hk] at hc; cases hc
        | cons x k' =>
          rw [hk] at hc hg
          cases x with
          | c c =>
            obtain ⟨st1, hw, hx⟩ := hg
            exact ⟨st1, Weak.trans (canonB_weak ks n0 r.1) hw, hx⟩
          | _ => cases hc
      · cases h
    · cases h
  · cases h
end
theorem good_allB {P : Program} {Q : Exit → St → Prop} {cf : Cf} (ks : List Nat) (n0 : Nat) (N : Nat) (obs : List Prop) (h : endsB P ks n0 cf = some (List.replicate N ((goB P ks n0 cf).st, obs))) (ho : AllP obs) (hg : Good P Q (goB P ks n0 cf)) : Good P Q cf := ⟨goodD_allB ks n0 N obs h ho hg.ok⟩
end Go.Sx

/- An entry of a map is struck. -/
namespace Go.Sx
open Go Go.RowKit Go.ChangeMaps
set_option linter.unusedVariables false
set_option linter.unusedSimpArgs false

section
variable {P : Program} {Q : Exit → St → Prop} {w0 : Base} {M0 : Nat → Prop} {L : Nat → Value} {tb : List Blk} {w : World}

end
end Go.Sx

