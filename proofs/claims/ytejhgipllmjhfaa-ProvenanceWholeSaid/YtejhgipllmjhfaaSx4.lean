/- A symbolic executor for the code of Go functions: calls that are handed blocks; regions that are cut. -/
import Derived.Maps.RangeRun
import Derived.Test.YtejhgipllmjhfaaSx3
import Derived.KernelRfl
/- Contracts of functions that are handed blocks of the caller's: rows, maps, cells. -/
namespace Go.Sx
open Go Go.RowKit
set_option linter.unusedVariables false
set_option linter.unusedSimpArgs false

abbrev noG0 : Nat → Option Bool := fun _ => none

/-- The blocks of a table. -/
def XB (tb : List Blk) (L : Nat → Value) (b : Nat) : Prop := ∃ i, i < tb.length ∧ blkNo (L i) = some b

/-- A way out: the results, the table, the names that are known. -/
structure Out where
  res : List LV
  tb : List Blk
  nm : List (Nat × Value)

def resDen (G : Nat → Option Bool) (w : World) (M : Nat → Prop) (L : Nat → Value) (tb : List Blk) (xs : List LV) (v : Value) : Prop :=
  ∃ vs : List Value, xs.length = vs.length ∧ (v = match vs with | [u] => u | l => .tuple l.toArray) ∧ ∀ (i : Nat) x u, xs[i]? = some x → vs[i]? = some u → LDen G w M L tb x u

def SpecX (P : Program) (f : FuncId) (us : Nat → Value) (as : List LV) (tb : List Blk) (O : Out → Prop) : Prop :=
  HasBody P f ∧ ∀ (w : World) (M0 : Nat → Prop) (L : Nat → Value) (vs : Array Value), (∀ i, i < tb.length → L i = us i) → Safe ⟨w, XB tb L⟩ M0 → Inv ⟨w, XB tb L⟩ M0 L tb w → as.length = vs.size →
    (∀ (i : Nat) x v, as[i]? = some x → vs[i]? = some v → LDen noG0 w (mset M0 tb L) L tb x v) →
    Calls P f vs w fun e w' => ∃ v o L', e = .returned v ∧ O o ∧ Inv ⟨w, XB tb L⟩ M0 L' o.tb w' ∧ resDen noG0 w' (mset M0 o.tb L') L' o.tb o.res v ∧ ∀ p ∈ o.nm, p.1 < o.tb.length ∧ L' p.1 = p.2

/-- The slots at the start: the arguments, and the names of what is handed over. -/
def initLV (k : Nat) : List LV → List (Nat × LV)
  | [] => []
  | x :: r => (k, x) :: initLV (k + 1) r

def initNm (us : Nat → Value) : Nat → List (Nat × LV)
  | 0 => []
  | n + 1 => (nmSlot n, .isv n (us n)) :: initNm us n

def initX (as : List LV) (tb : List Blk) (us : Nat → Value) : St := ⟨initLV 0 as ++ initNm us tb.length, tb⟩

def resTmp : SR → Option Nat
  | .tmp t => some t
  | _ => none

/-- The state at the end of such a function. -/
def outSt (ts : List Nat) (o : Out) : St := ⟨ts.zip o.res ++ o.nm.map (fun p => (nmSlot p.1, .isv p.1 p.2)), o.tb⟩

def nodupB : List Nat → Bool
  | [] => true
  | x :: r => !r.contains x && nodupB r

def tsOK (ts : List Nat) (o : Out) : Bool := nodupB (o.nm.map (·.1)) && nodupB ts && ts.all (fun t => decide (t < 2000000)) && decide (ts.length = o.res.length)

/-- The end of such a function. -/
def FinX (srs : List SR) (O : Out → Prop) (e : Exit) (st : St) : Prop :=
  (e = .normal ∨ e = .ret) ∧ ∃ ts, optList (srs.map resTmp) = some ts ∧ ∃ o, O o ∧ tsOK ts o = true ∧ Le st (outSt ts o)

end Go.Sx

/- Contracts of functions that are handed blocks: the caller's side. -/
namespace Go.Sx
open Go Go.RowKit
set_option linter.unusedVariables false
set_option linter.unusedSimpArgs false

/-- Where the blocks of a callee lie in the caller's table. -/
def rhoAt (rho : List Nat) (n i : Nat) : Nat :=
  match rho[i]? with
  | some j => j
  | none => n + (i - rho.length)

def setBlks : List Blk → List Nat → List Blk → List Blk
  | T, j :: rho, k :: ks => setBlks (T.set j k) rho ks
  | T, _, _ => T

def backTb (rho : List Nat) (T otb : List Blk) : List Blk := setBlks T rho otb ++ otb.drop rho.length

def idxIn : List Nat → Nat → Option Nat
  | [], _ => none
  | r :: rho, j => if r = j then some 0 else match idxIn rho j with
    | some i => some (i + 1)
    | none => none

def backL (rho : List Nat) (n : Nat) (L' L : Nat → Value) (j : Nat) : Value :=
  match idxIn rho j with
  | some i => L' i
  | none => if j < n then L j else L' (rho.length + (j - n))

def mapLV (rho : List Nat) (n : Nat) : LV → LV
  | .sv s => .sv s
  | .own i => .own (rhoAt rho n i)
  | .ptr i o => .ptr (rhoAt rho n i) o
  | _ => .any

/-- Is a block handed over whose handle is not known to be kept? -/
def lost : List Nat → List Nat → Nat → Nat → Bool
  | [], _, _, _ => false
  | r :: rho, kept, i, j => (r == j && !kept.contains i) || lost rho kept (i + 1) j

def killX (rho kept : List Nat) : LV → LV
  | .own j => if lost rho kept 0 j then .any else .own j
  | .ptr j o => if lost rho kept 0 j then .any else .ptr j o
  | .isv j v => if lost rho kept 0 j then .any else .isv j v
  | .rp j k o => if rho.contains j then .any else .rp j k o
  | .part j a b => if rho.contains j then .any else .part j a b
  | .exact j => if rho.contains j then .any else .exact j
  | .opt _ _ _ => .any
  | x => x

def killXs (rho kept : List Nat) : List (Nat × LV) → List (Nat × LV)
  | [] => []
  | (t, x) :: r => (t, killX rho kept x) :: killXs rho kept r

def lents : List LV → List LV → List LV
  | x :: xs, .sv _ :: as => x :: lents xs as
  | _ :: xs, _ :: as => lents xs as
  | _, _ => []

def nmOf : List (Nat × Value) → Nat → Option Value
  | [], _ => none
  | (j, v) :: r, i => if j = i then some v else nmOf r i

def resSV (nm : List (Nat × Value)) : LV → Option SV
  | .sv s => some s
  | .own i => match nmOf nm i with
    | some v => some (.val v)
    | none => none
  | .ptr i 0 => match nmOf nm i with
    | some v => some (.val v)
    | none => none
  | _ => none

def resX (rho : List Nat) (n : Nat) (o : Out) : Option LV :=
  match o.res with
  | [r] => some (mapLV rho n r)
  | l => match optList (l.map (resSV o.nm)) with
    | some ss => some (.sv (.tup ss))
    | none => none

def backSt (rho kept : List Nat) (sl : List (Nat × LV)) (T1 : List Blk) (o : Out) : St :=
  ⟨o.nm.map (fun p => (nmSlot (rhoAt rho T1.length p.1), LV.isv (rhoAt rho T1.length p.1) p.2)) ++ killXs rho kept sl, backTb rho T1 o.tb⟩

/-- What is to be shown for an argument. -/
def argX (rho : List Nat) (sl : List (Nat × LV)) (T : List Blk) (x : LV) : LV → List Prop
  | .any => []
  | .sv s' => match argSV T x with
    | some s => svObs s s'
    | none => [False]
  | .own i => match x with
    | .own j => if rho[i]? = some j then [] else [False]
    | .sv (.val v) => match rho[i]? with
      | some j => match look sl (nmSlot j) with
        | .isv j' v' => if j' = j then [v' = v] else [False]
        | _ => [False]
      | none => [False]
    | _ => [False]
  | .ptr i o => match x with
    | .ptr j o' => if rho[i]? = some j ∧ o = o' then [] else [False]
    | .sv (.val v) => match rho[i]? with
      | some j => match look sl (nmSlot j), T[j]? with
        | .isv j' v', some (.cells _ _ _) => if j' = j ∧ o = 0 then [v' = v] else [False]
        | _, _ => [False]
      | none => [False]
    | _ => [False]
  | _ => [False]

def argsX (rho : List Nat) (sl : List (Nat × LV)) (T : List Blk) : List LV → List LV → List Prop
  | [], [] => []
  | x :: xs, a :: as => argX rho sl T x a ++ argsX rho sl T xs as
  | _, _ => [False]

/-- What is to be shown for the blocks that are handed over. -/
def blksX (us : Nat → Value) (sl : List (Nat × LV)) (T1 : List Blk) : Nat → List Nat → List Blk → List Prop
  | _, [], [] => []
  | i, j :: rho, k' :: tb => (match T1[j]? with
      | some k => (if k.mut then [] else [False]) ++ blkObs k k'
      | none => [False]) ++ (match look sl (nmSlot j) with
      | .isv j' v => if j' = j then [v = us i] else [False]
      | _ => [False]) ++ blksX us sl T1 (i + 1) rho tb
  | _, _, _ => [False]

section
variable {rho kept : List Nat} {n : Nat}

end

end Go.Sx

/- Contracts of functions that are handed blocks: the rule. -/
namespace Go.Sx
open Go Go.RowKit
set_option linter.unusedVariables false
set_option linter.unusedSimpArgs false

end Go.Sx

/- Contracts of functions that are handed blocks: the machine's rules. -/
namespace Go.Sx
open Go Go.RowKit
set_option linter.unusedVariables false
set_option linter.unusedSimpArgs false

/-- The call at which the machine stands. -/
def xAt : Cf → Option (FuncId × List LV)
  | ⟨.l false (⟨_, .call f xs, none⟩ :: _) :: _, .normal, st⟩ => some (f, xs.map (ev st.sl))
  | ⟨.l false (⟨_, .callv x xs, none⟩ :: _) :: _, .normal, st⟩ => match ev st.sl x with
    | .sv (.fn f caps) => some (f, xs.map (ev st.sl) ++ caps.map LV.sv)
    | _ => none
  | _ => none

def xArgs (cf : Cf) : List LV :=
  match xAt cf with
  | some (_, xs) => xs
  | none => []

def xTb (as : List LV) (cf : Cf) : List Blk := frzOwns cf.st.tb (lents (xArgs cf) as)

def xBlks (us : Nat → Value) (rho : List Nat) (as : List LV) (tb : List Blk) (cf : Cf) : List Prop := blksX us cf.st.sl (xTb as cf) 0 rho tb

def xArgObs (rho : List Nat) (as : List LV) (cf : Cf) : List Prop := argsX rho cf.st.sl cf.st.tb (xArgs cf) as

def keptObs (us : Nat → Value) (nm : List (Nat × Value)) : List Nat → List Prop
  | [] => []
  | i :: r => (match nmOf nm i with
    | some v => [v = us i]
    | none => [False]) ++ keptObs us nm r

def xObs (rho kept : List Nat) (us : Nat → Value) (o : Out) : List Prop :=
  (if rho.length ≤ o.tb.length then [] else [False]) ++ keptObs us o.nm kept ++ (if (resX rho 0 o).isSome then [] else [False])

def xGo (rho kept : List Nat) (as : List LV) (o : Out) (cf : Cf) : Cf :=
  match cf.todo with
  | .l false (op :: l) :: k => ⟨.l false l :: k, cf.e, St.put (backSt rho kept cf.st.sl (xTb as cf) o) op.dst ((resX rho cf.st.tb.length o).getD .any)⟩
  | _ => cf

section
variable {P : Program} {Q : Exit → St → Prop}

def xFn (cf : Cf) : Option FuncId :=
  match xAt cf with
  | some (f, _) => some f
  | none => none

/-! The end of a function. -/

def finXObs (srs : List SR) (o : Out) : Cf → List Prop
  | ⟨[], .ret, st⟩ => match optList (srs.map resTmp) with
    | some ts => if tsOK ts o then leObs st (outSt ts o) else [False]
    | none => [False]
  | ⟨[], .normal, st⟩ => match optList (srs.map resTmp) with
    | some ts => if tsOK ts o then leObs st (outSt ts o) else [False]
    | none => [False]
  | _ => [False]

/-! Names. -/

def hasForm : Blk → Value → Prop
  | .row _ _ n _ _, v => ∃ A c, v = .slice A n c
  | .map _ _ _, v => ∃ b, v = .map (some b)
  | .cells _ _ _, v => ∃ b, v = .pointer (some ⟨b, 0, none⟩)
  | _, _ => True

/-- A block gets a name. -/
def tagAt (j : Nat) : Cf → Option Blk
  | ⟨.l false (_ :: _) :: _, .normal, st⟩ => st.tb[j]?
  | _ => none

def tagGo (j : Nat) (v : Value) (cf : Cf) : Cf := { cf with st := { cf.st with sl := (nmSlot j, .isv j v) :: cf.st.sl } }

/-- A handle, as its value. -/
def valAt (s j : Nat) : Cf → Option Value
  | ⟨.l false (_ :: _) :: _, .normal, st⟩ => match look st.sl s, look st.sl (nmSlot j) with
    | .own i, .isv i' v => if i = j ∧ i' = j then some v else none
    | .ptr i 0, .isv i' v => if i = j ∧ i' = j then some v else none
    | _, _ => none
  | _ => none

def valGo (s : Nat) (v : Value) (cf : Cf) : Cf := { cf with st := { cf.st with sl := (s, .sv (.val v)) :: cf.st.sl } }

/-- A named value, as a pointer to cells. -/
def refAt (s j : Nat) : Cf → Option (Value × Value)
  | ⟨.l false (_ :: _) :: _, .normal, st⟩ => match look st.sl s, look st.sl (nmSlot j), st.tb[j]? with
    | .sv (.val v), .isv i v', some (.cells _ _ _) => if i = j then some (v, v') else none
    | _, _, _ => none
  | _ => none

def refGo (s j : Nat) (cf : Cf) : Cf := { cf with st := { cf.st with sl := (s, .ptr j 0) :: cf.st.sl } }

/-- A slot's value, told otherwise. -/
def svAt (s : Nat) : Cf → Option SV
  | ⟨.l false (_ :: _) :: _, .normal, st⟩ => match look st.sl s with
    | .sv a => some a
    | _ => none
  | _ => none

def svGo (s : Nat) (b : SV) (cf : Cf) : Cf := { cf with st := { cf.st with sl := (s, .sv b) :: cf.st.sl } }

end
end Go.Sx

/- A step's condition, with more that is known behind it. -/
namespace Go.Sx
open Go Go.RowKit
set_option linter.unusedVariables false
set_option linter.unusedSimpArgs false
section
variable {P : Program} {st : St} {K1 K2 : St → Prop}

theorem semVC_mono (hK : ∀ st, K1 st → K2 st) {f : FuncId} {xs : List LV} {d : Option Nat} (h : semVC P st f xs d K1) : semVC P st f xs d K2 := by
  refine ⟨h.1, fun w0 M0 G sv L w vs hs hb hl hx => (h.2 w0 M0 G sv L w vs hs hb hl hx).mono fun e w' he => ?_⟩
  obtain ⟨v, st', x, L', h1, h2, h3⟩ := he
  exact ⟨v, st', x, L', h1, hK _ h2, h3⟩

theorem opVC_mono (hK : ∀ st, K1 st → K2 st) {op : Op} {d : Option Nat} (h : opVC P st op d K1) : opVC P st op d K2 := by
  intro w0 M0 G sv L w ρ o ho hs hb hx
  obtain ⟨v, w', st', x, L', h1, h2, h3⟩ := h w0 M0 G sv L w ρ o ho hs hb hx
  exact ⟨v, w', st', x, L', h1, hK _ h2, h3⟩

theorem takeVC1_mono (hK : ∀ st, K1 st → K2 st) {f : FuncId} {xs : List LV} {d : Option Nat} (h : takeVC1 P st f xs d K1) : takeVC1 P st f xs d K2 := by
  revert h
  unfold takeVC1
  split
  · exact id
  · split
    · split
      · rintro (⟨a, b, c, e, h1, h2, h3, h4⟩ | ⟨a, b, c, h1, h2, h3, h4⟩)
        · exact .inl ⟨a, b, c, e, h1, h2, h3, hK _ h4⟩
        · exact .inr ⟨a, b, c, h1, h2, h3, hK _ h4⟩
      · exact id
    · exact id

theorem callVC_mono (hK : ∀ st, K1 st → K2 st) {f : FuncId} {xs : List LV} {d : Option Nat} (h : callVC P st f xs d K1) : callVC P st f xs d K2 := by
  rcases h with h | h | h
  · refine .inl ?_
    revert h
    split
    · exact id
    · rintro (⟨a, r, h1, h2, h3⟩ | ⟨a, t, sz, n, g, h1, h2, h3⟩)
      · exact .inl ⟨a, r, h1, h2, hK _ h3⟩
      · exact .inr ⟨a, t, sz, n, g, h1, h2, hK _ h3⟩
  · refine .inr (.inl ?_)
    unfold takeVC at h ⊢
    revert h
    split
    · exact id
    · exact takeVC1_mono hK
  · exact .inr (.inr (semVC_mono hK h))

theorem pickVC_mono {L1 L2 : LV → Prop} (hK : ∀ x, L1 x → L2 x) {gs : List (Nat × Bool)} {c : Nat} {a b : Operand} (h : pickVC st gs c a b L1) : pickVC st gs c a b L2 := by
  revert h
  unfold pickVC
  split
  · exact hK _
  · exact id

theorem dcallVC_mono {L1 L2 : SV → Prop} (hK : ∀ x, L1 x → L2 x) {tb : List Blk} {f : FuncId} {xs : List LV} {c : Prop} (h : dcallVC P tb f xs c L1) : dcallVC P tb f xs c L2 := by
  revert h
  unfold dcallVC
  split
  · exact id
  · rintro ⟨a, r, h1, h2, h3⟩; exact ⟨a, r, h1, h2, hK _ h3⟩

theorem dstepVC_mono {L1 L2 : LV → Prop} (hK : ∀ x, L1 x → L2 x) {o : SO} (h : dstepVC P st o L1) : dstepVC P st o L2 := by
  revert h
  unfold dstepVC
  split
  · exact pickVC_mono fun x => hK _
  · exact dcallVC_mono fun x => hK _
  · split
    · exact dcallVC_mono fun x => hK _
    · exact id
  · split
    · exact hK _
    · exact id
  · split
    · exact fun h => ⟨h.1, hK _ h.2⟩
    · exact id

theorem pureVC_mono (hK : ∀ st, K1 st → K2 st) {op : SOp} {d : Option Nat} (h : pureVC P st op d K1) : pureVC P st op d K2 := by
  revert h
  unfold pureVC
  split
  · exact fun h => ⟨h.1, hK _ h.2⟩
  · exact id

theorem effVC_mono (hK : ∀ st, K1 st → K2 st) {op : SOp} {d : Option Nat} (h : effVC st op d K1) : effVC st op d K2 := by
  revert h
  unfold effVC
  split
  · exact fun h => ⟨h.1, hK _ h.2⟩
  · exact id

theorem stepVC_mono (hK : ∀ st, K1 st → K2 st) {o : SO} (h : stepVC P st o K1) : stepVC P st o K2 := by
  obtain ⟨d, op, g⟩ := o
  cases g with
  | none =>
    cases op with
    | pick c a b => exact pickVC_mono (fun x => hK _) h
    | call f xs => exact callVC_mono hK h
    | callv x xs =>
      simp only [stepVC] at h ⊢
      revert h
      split
      · exact callVC_mono hK
      · exact id
    | isnil ne x =>
      simp only [stepVC, isnilVC] at h ⊢
      revert h
      split
      · split
        · exact fun h b hb => hK _ (h b hb)
        · exact id
      · exact id
    | box t x =>
      simp only [stepVC, boxVC] at h ⊢
      revert h
      split
      · split
        · exact hK _
        · exact id
      · exact id
    | alloc t z => exact hK _ h
    | store n x v =>
      simp only [stepVC, storeVC] at h ⊢
      revert h
      split
      · split
        · split
          · exact fun h => ⟨h.1, hK _ h.2⟩
          · exact id
        · exact id
      · exact id
    | buildS e sz len z ps =>
      simp only [stepVC, buildSVC] at h ⊢
      revert h
      split
      · exact hK _
      · exact id
    | build z ps => exact pureVC_mono hK h
    | mkfn f caps => exact pureVC_mono hK h
    | makeS e sz by' z x y =>
      simp only [stepVC, makeSVC] at h ⊢
      revert h
      split
      · exact fun h => ⟨h.1, hK _ h.2⟩
      · exact id
    | app e sz by' z x y =>
      simp only [stepVC, appVC] at h ⊢
      revert h
      split
      · split
        · split
          · exact fun h => ⟨h.1, hK _ h.2⟩
          · exact id
        · exact id
      · split
        · exact fun h => ⟨h.1, hK _ h.2⟩
        · exact id
      · split
        · split
          · exact fun h => ⟨h.1, hK _ h.2⟩
          · exact id
        · exact id
      · exact id
    | clear e sz z x =>
      simp only [stepVC, clearVC] at h ⊢
      revert h
      split
      · split
        · exact fun h => ⟨h.1, hK _ h.2⟩
        · exact id
      · exact id
    | makeM z => exact hK _ h
    | mapUp x k v =>
      simp only [stepVC, mapUpVC] at h ⊢
      revert h
      split
      · split
        · split
          · exact fun h => ⟨h.1, hK _ h.2⟩
          · exact id
        · exact id
      · exact id
    | bad op xs => exact opVC_mono hK h
    | cap x =>
      simp only [stepVC] at h ⊢
      revert h
      split
      · unfold capVC
        simp only
        split
        · exact fun h c g h1 h2 h3 => hK _ (h c g h1 h2 h3)
        · exact id
      · exact pureVC_mono hK
    | copy sz x y => exact effVC_mono hK h
    | appZ e sz by' z x n => exact effVC_mono hK h
    | _ => simp only [stepVC] at h ⊢; exact pureVC_mono hK h
  | some p =>
    obtain ⟨s, b⟩ := p
    cases op with
    | pick c x y => simp only [stepVC] at h ⊢; exact pickVC_mono (fun x => hK _) h
    | call f xs => simp only [stepVC] at h ⊢; exact dstepVC_mono (fun x => hK _) h
    | callv x xs => simp only [stepVC] at h ⊢; exact dstepVC_mono (fun x => hK _) h
    | buildS e sz len z ps => simp only [stepVC] at h ⊢; exact dstepVC_mono (fun x => hK _) h
    | mkfn f caps =>
      simp only [stepVC] at h ⊢
      revert h
      split
      · exact fun h => ⟨h.1, hK _ h.2⟩
      · exact id
    | _ =>
      simp only [stepVC] at h ⊢
      revert h
      split
      · exact fun h => ⟨h.1, hK _ h.2⟩
      · exact id

theorem GVC.mono (hK : ∀ st, K1 st → K2 st) {o : SO} (h : GVC P o K1 st) : GVC P o K2 st := by
  induction h with
  | step h => exact .step (stepVC_mono hK h)
  | view S h1 h2 ih => exact .view S h1 ih
end
end Go.Sx

/- A region whose order is drawn, cut where all orders meet. -/
namespace Go.Sx
open Go Go.RowKit
set_option linter.unusedVariables false
set_option linter.unusedSimpArgs false

def cutAft (S : List Nat) (n : Nat) : Nat → List (List Nat) → List (List Nat)
  | _, [] => []
  | i, a :: r => (if S.contains i then a else [n]) :: cutAft S n (i + 1) r

def closA (aft : List (List Nat)) : Nat → List Nat → List Nat
  | 0, s => s
  | n + 1, s => closA aft n (s ++ s.flatMap fun i => (aft[i]?).getD [])

def subB (a b : List Nat) : Bool := a.all fun i => b.contains i

/-- All that is not in S waits for S. -/
def splitOK (S : List Nat) (aft : List (List Nat)) (done : List Nat) : Bool :=
  subB done S && (done.all fun i => subB ((aft[i]?).getD []) done) && S.all (fun i => decide (i < aft.length) && ((aft[i]?).getD []).all fun k => S.contains k && decide (k < i)) &&
  (List.range aft.length).all fun j => S.contains j || subB S (done ++ closA aft 6 ((aft[j]?).getD []))

section
variable {P : Program} {Q : Exit → St → Prop}

def splitAt (S : List Nat) : Cf → Bool
  | ⟨.a l aft n done :: _, .normal, _⟩ => splitOK S aft done && decide (S.length - done.length ≤ n)
  | _ => false

def splitGo (S : List Nat) : Cf → Cf
  | ⟨.a l aft n done :: k, e, st⟩ => ⟨.a l (cutAft S aft.length 0 aft) (S.length - done.length) done :: .a l aft (n - (S.length - done.length)) S :: k, e, st⟩
  | cf => cf

/-- The beginning of a row that is not written any more, as a list. -/
def partAt (s : Nat) : Cf → Option (Nat × Nat × Nat × (Nat → List SV))
  | ⟨.l false (_ :: _) :: _, .normal, st⟩ => match look st.sl s with
    | .part i 0 n => match st.tb[i]? with
      | some (.row _ sz _ _ get) => some (i, sz, n, get)
      | _ => none
    | .own i => match st.tb[i]? with
      | some (.row _ sz n _ get) => some (i, sz, n, get)
      | _ => none
    | _ => none
  | _ => none

def partGo (s i : Nat) (b : SV) (cf : Cf) : Cf := { cf with st := { sl := (s, .sv b) :: cf.st.sl, tb := frzAt cf.st.tb i } }

end
end Go.Sx

/- Ranging over a map. -/
namespace Go.Sx
open Go Go.RowKit Go.ChangeMaps
set_option linter.unusedVariables false
set_option linter.unusedSimpArgs false

/-- A map that is not written any more. -/
def fmapS (zero : Value) (keys : List Int) (get : Int → SV) : SemBlk where
  mu := false
  ok w M v := BlkOK w M 0 (.map zero keys get) v
  ext w w' M M' v h he hM hb := BlkOK.ext h he hM hb

structure MapOK (w : World) (M : Nat → Prop) (keys : List Int) (get : Int → SV) (m : Nat) (es : Array MapEntry) (clock : Nat) : Prop where
  heap : w.heap[m]? = some (.map es clock)
  hkeys : es.toList.map (·.key) = keys.map (Value.int .i64)
  nodup : keys.Nodup
  born : ∀ e ∈ es.toList, e.born < clock
  births : (es.toList.map (·.born)).Nodup
  vals : ∀ (i : Nat) k e, keys[i]? = some k → es.toList[i]? = some e → Den w M (get k) e.val

/-- What an iterator over such a map knows: the keys that have been handed out. -/
structure IterOK (w : World) (M : Nat → Prop) (keys : List Int) (get : Int → SV) (seen : List Int) (r m since c0 : Nat) (seenB : Array Nat) (es : Array MapEntry) (clock : Nat) : Prop where
  iter : w.heap[r]? = some (.mapIter (some m) since seenB c0)
  lt : m < w.heap.size
  free : ¬ M m
  map : MapOK w M keys get m es clock
  old : ∀ e ∈ es.toList, e.born < since
  since0 : since ≤ c0
  since1 : since ≤ clock
  hseen : ∀ (i : Nat) k e, keys[i]? = some k → es.toList[i]? = some e → (e.born ∈ seenB.toList ↔ k ∈ seen)
  last : ∀ k, seen.getLast? = some k → ∃ (i : Nat) (e : MapEntry) (pre : Array Nat), keys[i]? = some k ∧ es.toList[i]? = some e ∧ seenB = pre.push e.born ∧ c0 = clock

def iterS (keys : List Int) (get : Int → SV) (seen : List Int) : SemBlk where
  mu := true
  ok w M v := ∃ r m since c0 seenB es clock, v = .pointer (some ⟨r, 0, none⟩) ∧ IterOK w M keys get seen r m since c0 seenB es clock
  ext w w' M M' v h he hM hb := by
    obtain ⟨r, m, since, c0, seenB, es, clock, rfl, h⟩ := h
    exact ⟨r, m, since, c0, seenB, es, clock, rfl,
      { iter := (hb r rfl).trans h.iter, lt := Nat.lt_of_lt_of_le h.lt he.size, free := fun hm => h.free (hM m h.lt hm),
        map := { heap := (he.block m h.lt h.free).trans h.map.heap, hkeys := h.map.hkeys, nodup := h.map.nodup, born := h.map.born, births := h.map.births, vals := fun i k e hk he' => (h.map.vals i k e hk he').ext he hM },
        old := h.old, since0 := h.since0, since1 := h.since1, hseen := h.hseen, last := h.last }⟩

section
variable {P : Program} {Q : Exit → St → Prop} {w0 : Base} {M0 : Nat → Prop} {L : Nat → Value} {tb : List Blk} {w : World}

/-- A block is told otherwise, and written less. -/
theorem Inv.demote (h : Inv w0 M0 L tb w) {i : Nat} {k k' : Blk} (hi : tb[i]? = some k) (hm : k'.mut = true → k.mut = true) (hk : ∀ M' : Nat → Prop, (∀ b, M' b → mset M0 tb L b) → BlkOK w M' 0 k' (L i)) :
    Inv w0 M0 L (tb.set i k') w ∧ ∀ b, mset M0 (tb.set i k') L b → mset M0 tb L b := by
  have hlt : i < tb.length := (List.getElem?_eq_some_iff.1 hi).1
  have hms : ∀ b, mset M0 (tb.set i k') L b → mset M0 tb L b := by
    rintro b (hb | ⟨j, kj, hj, hkm, hb⟩)
    · exact .inl hb
    · by_cases e : j = i
      · subst e
        rw [List.getElem?_set_self hlt] at hj
        injection hj with hj
        subst hj
        exact .inr ⟨j, k, hi, hm hkm, hb⟩
      · rw [List.getElem?_set_ne (Ne.symm e)] at hj
        exact .inr ⟨j, kj, hj, hkm, hb⟩
  refine ⟨{ below := h.below, ok := fun j kj hj => ?_, apart := fun a b c ha hb => h.apart a b c (by simpa using ha) (by simpa using hb), low := fun a b ha => h.low a b (by simpa using ha) }, hms⟩
  by_cases e : j = i
  · subst e
    rw [List.getElem?_set_self hlt] at hj
    injection hj with hj
    subst hj
    exact hk _ hms
  · rw [List.getElem?_set_ne (Ne.symm e)] at hj
    exact (h.ok j kj hj).less hms

/-- At a range over a map. -/
def rangeAt : Cf → Option (TypeId × Nat × Value × List Int × (Int → SV))
  | ⟨.l false (⟨_, .bad (.range t x) _, none⟩ :: _) :: _, .normal, st⟩ => match ev st.sl x with
    | .own i => match st.tb[i]? with
      | some (.map z keys get) => some (t, i, z, keys, get)
      | _ => none
    | _ => none
  | _ => none

def rangeGo (i : Nat) (z : Value) (keys : List Int) (get : Int → SV) : Cf → Cf
  | ⟨.l false (o :: l) :: k, e, st⟩ => ⟨.l false l :: k, e, St.put { sl := st.sl, tb := st.tb.set i (.sem (fmapS z keys get)) ++ [.sem (iterS keys get [])] } o.dst (.ptr st.tb.length 0)⟩
  | cf => cf

def isMapT (P : Program) (t : TypeId) : Bool :=
  match P.underlying t with
  | some (.map _ _) => true
  | _ => false

theorem goodD_range {cf : Cf} (t : TypeId) (i : Nat) (z : Value) (keys : List Int) (get : Int → SV) (h : rangeAt cf = some (t, i, z, keys, get)) (ht : isMapT P t = true) (hno : noOptB cf.st.sl = true) (hg : GoodD P Q (rangeGo i z keys get cf)) : GoodD P Q cf := by
  obtain ⟨todo, e, st⟩ := cf
  unfold rangeAt at h
  split at h
  · rename_i d t' x xs l kk st' heq
    simp only [Cf.mk.injEq] at heq
    obtain ⟨rfl, rfl, rfl⟩ := heq
    split at h
    · rename_i i' hx
      split at h
      · rename_i z' keys' get' hi
        simp only [Option.some.injEq, Prod.mk.injEq] at h
        obtain ⟨rfl, rfl, rfl, rfl, rfl⟩ := h
        refine GVC.step ?_
        show stepVC P st ⟨d, .bad (.range t' x) xs, none⟩ (fun st' => stepsVC P l st' (kont P Q kk .normal))
        simp only [stepVC]
        intro w0 M0 G sv L w ρ o ho hM0 hb hρ
        have hil : i' < st.tb.length := (List.getElem?_eq_some_iff.1 hi).1
        obtain ⟨b, es, clock, hL, hh, h1, h2, h3, h4, h5, h6⟩ := hb.inv.ok i' _ hi
        have hbl : b < w.heap.size := (hb.inv.low i' b hil (by rw [hL]; rfl)).2
        have hv : ρ x = .map (some b) := by
          have := hρ x
          rw [hx] at this
          rw [this.2, hL]
        obtain ⟨kt, et, hu⟩ : ∃ k e, P.underlying t' = some (.map k e) := by
          unfold isMapT at ht
          split at ht
          · exact ⟨_, _, ‹_›⟩
          · cases ht
        have hrun := run_range_map (P := P) w t' kt et b es clock hu hh
        obtain ⟨hI1, hms1⟩ := hb.inv.demote (k' := .sem (fmapS z' keys' get')) hi (fun h => by cases h) (fun M' hM' => (hb.inv.ok i' _ hi).less hM')
        have hfree : ¬ mset M0 (st.tb.set i' (.sem (fmapS z' keys' get'))) L b := not_mset hI1 hM0 (List.getElem?_set_self hil) rfl (by rw [hL]; rfl)
        have hbel := alloc_below w (.mapIter (some b) clock #[] clock)
        have hlen : (st.tb.set i' (.sem (fmapS z' keys' get'))).length = st.tb.length := by simp
        have hfresh : ∀ b', blkNo (.pointer (some ⟨w.heap.size, 0, none⟩)) = some b' → w.heap.size ≤ b' := fun b' hb' => by simp [blkNo] at hb'; omega
        have hpm : ∀ b', b' < w.heap.size → mset M0 (st.tb.set i' (.sem (fmapS z' keys' get')) ++ [.sem (iterS keys' get' [])]) (upd L (st.tb.set i' (.sem (fmapS z' keys' get'))).length (.pointer (some ⟨w.heap.size, 0, none⟩))) b' → mset M0 (st.tb.set i' (.sem (fmapS z' keys' get'))) L b' :=
          mset_push hfresh
        have hI2 := hI1.push (k := .sem (iterS keys' get' [])) (v := .pointer (some ⟨w.heap.size, 0, none⟩)) hbel (fun b' hb' => by simp [blkNo] at hb'; subst hb'; simp) (by
          refine ⟨w.heap.size, b, clock, clock, #[], es, clock, rfl, { iter := heap_alloc_new w _, lt := by simp; omega, free := fun hm => hfree (hpm b hbl hm), map := { heap := by rw [Below.heap_alloc w _ b hbl]; exact hh, hkeys := h1, nodup := h2, born := h3, births := h4, vals := fun i k e hk he => ?_ }, old := h3, since0 := Nat.le_refl _, since1 := Nat.le_refl _, hseen := fun i k e _ _ => by simp, last := fun k hk => by simp at hk }⟩
          exact ((h5 i k e hk he).less fun b' _ hm => hms1 b' hm).ext (.of_below hbel) hpm)
        refine ⟨.pointer (some ⟨w.heap.size, 0, none⟩), _, (⟨st.sl, (st.tb.set i' (Blk.sem (fmapS z' keys' get')) ++ [Blk.sem (iterS keys' get' [])] : List Blk)⟩ : St), .ptr st.tb.length 0, _, .inl ?_, ?_, ⟨hI2, fun t => ?_⟩, ?_, rfl, fun t => noOptB_look t _ hno⟩
        · simp only [execOp, ho, hv]
          exact run_v hrun
        · exact hg
        · refine LDen.turn (fun s u hden => ?_) (fun j hj => upd_other _ _ _ _ (by rw [hlen]; omega)) (by simp) (fun j t' sz n mu g hj => ?_) _ _ (hb.slot t)
          · exact (hden.less fun b' _ hm => hms1 b' hm).ext (.of_below hbel) hpm
          · have hji : i' ≠ j := fun e => by subst e; rw [hi] at hj; cases hj
            have hjl := (List.getElem?_eq_some_iff.1 hj).1
            exact ⟨t', mu, g, by rw [List.getElem?_append_left (by rw [hlen]; exact hjl), List.getElem?_set_ne hji]; exact hj⟩
        · refine ⟨by simp, w.heap.size, ?_, rfl⟩
          rw [← hlen]; exact upd_same _ _ _
      · cases h
    · cases h
  · cases h

/-- At the next step of an iterator. -/
def nextAt : Cf → Option (Nat × Blk)
  | ⟨.l false (⟨_, .bad (.next x false) _, none⟩ :: _) :: _, .normal, st⟩ => match ev st.sl x with
    | .ptr j 0 => match st.tb[j]? with
      | some k => some (j, k)
      | none => none
    | _ => none
  | _ => none

def nextGo (j : Nat) (keys : List Int) (get : Int → SV) (seen : List Int) (k : Int) : Cf → Cf
  | ⟨.l false (o :: l) :: kk, e, st⟩ => ⟨.l false l :: kk, e, St.put { sl := st.sl, tb := st.tb.set j (.sem (iterS keys get (seen ++ [k]))) } o.dst (.sv (.tup [.bool true, .int .i64 k, get k]))⟩
  | cf => cf

def nextEnd : Cf → Cf
  | ⟨.l false (o :: l) :: kk, e, st⟩ => ⟨.l false l :: kk, e, St.put st o.dst (.sv (.tup [.bool false]))⟩
  | cf => cf

theorem goodD_next {cf : Cf} (j : Nat) (keys : List Int) (get : Int → SV) (seen : List Int) (h : nextAt cf = some (j, .sem (iterS keys get seen))) (hno : noOptB cf.st.sl = true)
    (hg : ∀ k, k ∈ keys → k ∉ seen → GoodD P Q (nextGo j keys get seen k cf)) (he : (∀ k ∈ keys, k ∈ seen) → GoodD P Q (nextEnd cf)) : GoodD P Q cf := by
  obtain ⟨todo, e, st⟩ := cf
  unfold nextAt at h
  split at h
  · rename_i d x xs l kk st' heq
    simp only [Cf.mk.injEq] at heq
    obtain ⟨rfl, rfl, rfl⟩ := heq
    split at h
    · rename_i j' hx
      split at h
      · rename_i kb hj
        simp only [Option.some.injEq, Prod.mk.injEq] at h
        obtain ⟨rfl, rfl⟩ := h
        refine GVC.step ?_
        show stepVC P st ⟨d, .bad (.next x false) xs, none⟩ (fun st' => stepsVC P l st' (kont P Q kk .normal))
        simp only [stepVC]
        intro w0 M0 G sv L w ρ o ho hM0 hb hρ
        have hjl : j' < st.tb.length := (List.getElem?_eq_some_iff.1 hj).1
        obtain ⟨r, m, since, c0, seenB, es, clock, hL, hok⟩ := hb.inv.ok j' _ hj
        have hv : ρ x = .pointer (some ⟨r, 0, none⟩) := by
          have := hρ x
          rw [hx] at this
          obtain ⟨_, b, h1, h2⟩ := this
          rw [hL] at h1
          injection h1 with h1
          injection h1 with h1
          rw [h2]
          have : r = b := by injection h1
          rw [this]
        have hrl : r < w.heap.size := (hb.inv.low j' r hjl (by rw [hL]; rfl)).2
        have hmr : m ≠ r := fun e => by
          have h1 := hok.iter
          rw [← e, hok.map.heap] at h1
          cases h1
        rcases run_next_at (P := P) w o.type r m since c0 seenB es clock hok.iter hok.map.heap hok.old hok.since0 with ⟨hz, hrun⟩ | ⟨en, hen, w1, hw1, hrun⟩
        · have hall : ∀ k ∈ keys, k ∈ seen := by
            intro k hk
            obtain ⟨i, hi⟩ := List.mem_iff_getElem?.1 hk
            have hlen : es.toList.length = keys.length := by have := congrArg List.length hok.map.hkeys; simpa using this
            have hil : i < es.toList.length := by rw [hlen]; exact (List.getElem?_eq_some_iff.1 hi).1
            refine (hok.hseen i k _ hi (List.getElem?_eq_getElem hil)).1 (Classical.byContradiction fun hn => ?_)
            have hmem : es.toList[i] ∈ (leftOf es seenB).toList := by
              unfold leftOf
              simp only [Array.toList_filter, List.mem_filter, Bool.not_eq_true']
              refine ⟨List.getElem_mem hil, ?_⟩
              simpa using hn
            have : (leftOf es seenB).toList = [] := List.eq_nil_of_length_eq_zero (by simpa using hz)
            rw [this] at hmem
            simp at hmem
          refine ⟨.tuple #[.bool false], w, st, .sv (.tup [.bool false]), L, .inl ?_, he hall, hb, ?_, rfl, fun t => noOptB_look t _ hno⟩
          · simp only [execOp, ho, hv]
            exact run_v hrun
          · exact .tup _ _ rfl fun i s v hs hv => by
              match i, hs, hv with
              | 0, hs, hv => cases hs; cases hv; exact .bool _
              | i + 1, hs, _ => simp at hs
        · have hen' : en ∈ es.toList ∧ en.born ∉ seenB.toList := by
            unfold leftOf at hen
            simp only [Array.toList_filter, List.mem_filter, Bool.not_eq_true'] at hen
            exact ⟨hen.1, by simpa using hen.2⟩
          obtain ⟨i, hi⟩ := List.mem_iff_getElem?.1 hen'.1
          have hlen : es.toList.length = keys.length := by have := congrArg List.length hok.map.hkeys; simpa using this
          have hil : i < keys.length := by rw [← hlen]; exact (List.getElem?_eq_some_iff.1 hi).1
          have hki := List.getElem?_eq_getElem hil
          generalize hkk : keys[i] = k at hki
          have hkey : en.key = .int .i64 k := by
            have := congrArg (fun l => l[i]?) hok.map.hkeys
            simp only [List.getElem?_map, hi, hki, Option.map_some, Option.some.injEq] at this
            exact this
          have hkn : k ∉ seen := fun hs => hen'.2 ((hok.hseen i k en hki hi).2 hs)
          have hw1' : w1.heap = w.heap ∧ w1.os = w.os ∧ w1.tape = w.tape ∧ w1.output = w.output := by
            rcases hw1 with rfl | rfl
            · exact ⟨rfl, rfl, rfl, rfl⟩
            · exact ⟨rfl, rfl, rfl, rfl⟩
          have hgrow : w.grownBy (setBlock w1 r (.mapIter (some m) since (seenB.push en.born) clock)) (blkNo (L j')) := by
            rw [hL]
            refine ⟨hw1'.2.1, hw1'.2.2.1, hw1'.2.2.2, by simp [setBlock, hw1'.1], fun b hbl hne => ?_⟩
            have : r ≠ b := fun e => hne (by rw [← e]; rfl)
            simp [setBlock, hw1'.1, Array.getElem?_setIfInBounds, this]
          have hext : Ext (mset M0 st.tb L) w (setBlock w1 r (.mapIter (some m) since (seenB.push en.born) clock)) :=
            ⟨hgrow.os, hgrow.tape, hgrow.output, hgrow.size, fun b hb' hn => hgrow.block b hb' (fun e => hn (.inr ⟨j', _, hj, rfl, e.symm⟩))⟩
          have hms := mset_set (w := w) (M0 := M0) (L := L) (tb := st.tb) (k' := .sem (iterS keys get (seen ++ [k]))) (v := L j') hj rfl (fun _ h => .inl h)
          have hup : upd L j' (L j') = L := funext fun q => by unfold upd; split <;> simp_all
          have hset := hb.inv.set (k' := .sem (iterS keys get (seen ++ [k]))) (v := L j') hj rfl hgrow (fun c hc => ⟨.inl hc, by
            have := (hb.inv.low j' c hjl hc).2
            exact Nat.lt_of_lt_of_le this hgrow.size⟩) (by
            refine ⟨r, m, since, clock, seenB.push en.born, es, clock, hL, { iter := ?_, lt := ?_, free := ?_, map := { heap := ?_, hkeys := hok.map.hkeys, nodup := hok.map.nodup, born := hok.map.born, births := hok.map.births, vals := fun i k e hk he => ?_ }, old := hok.old, since0 := hok.since1, since1 := hok.since1, hseen := fun i' k' e' hk' he' => ?_, last := fun k' hk' => ⟨i, en, seenB, by rw [List.getLast?_append] at hk'; simp at hk'; subst hk'; exact hki, hi, rfl, rfl⟩ }⟩
            · simp [setBlock, hw1'.1, hrl]
            · exact Nat.lt_of_lt_of_le hok.lt hgrow.size
            · exact fun hm => hok.free (hms m hok.lt hm)
            · rw [hgrow.block m hok.lt (by rw [hL]; intro e; injection e with e; exact hmr e)]; exact hok.map.heap
            · exact (hok.map.vals i k e hk he).ext hext hms
            · rw [Array.toList_push, List.mem_append, List.mem_append, hok.hseen i' k' e' hk' he', List.mem_singleton, List.mem_singleton]
              have hidx : e'.born = en.born ↔ k' = k := by
                have b1 : (es.toList.map (·.born))[i']? = some e'.born := by rw [List.getElem?_map, he']; rfl
                have b2 : (es.toList.map (·.born))[i]? = some en.born := by rw [List.getElem?_map, hi]; rfl
                have i1 := List.getElem?_eq_some_iff.1 b1
                have i2 := List.getElem?_eq_some_iff.1 b2
                have k1 := List.getElem?_eq_some_iff.1 hk'
                have k2 := List.getElem?_eq_some_iff.1 hki
                constructor
                · intro e
                  have : i' = i := (List.getElem_inj hok.map.births).1 (i1.2.trans (e.trans i2.2.symm))
                  subst this
                  rw [hk'] at hki
                  injection hki
                · intro e
                  have : i' = i := (List.getElem_inj hok.map.nodup).1 (k1.2.trans (e.trans k2.2.symm))
                  subst this
                  rw [he'] at hi
                  injection hi with hi
                  rw [hi]
              rw [hidx])
          rw [hup] at hset hms
          refine ⟨.tuple #[.bool true, en.key, en.val], _, ⟨st.sl, st.tb.set j' (.sem (iterS keys get (seen ++ [k])))⟩, .sv (.tup [.bool true, .int .i64 k, get k]), L, .inl ?_, hg k (List.mem_of_getElem? hki) hkn, ⟨hset.1, fun t => ?_⟩, ?_, rfl, fun t => noOptB_look t _ hno⟩
          · simp only [execOp, ho, hv]
            exact run_v hrun
          · refine LDen.turn (fun s u hden => hden.ext hext hms) (fun _ _ => rfl) (by simp) (fun q t' sz n mu g hq => ?_) _ _ (hb.slot t)
            have hne : j' ≠ q := fun e => by subst e; rw [hj] at hq; cases hq
            exact ⟨t', mu, g, by rw [List.getElem?_set_ne hne]; exact hq⟩
          · refine .tup _ _ rfl fun q s v hs hv => ?_
            match q, hs, hv with
            | 0, hs, hv => cases hs; cases hv; exact .bool _
            | 1, hs, hv => cases hs; cases hv; rw [hkey]; exact .int _ _
            | 2, hs, hv => cases hs; cases hv; exact (hok.map.vals i k en hki hi).ext hext hms
            | q + 3, hs, _ => simp at hs
      · cases h
    · cases h
  · cases h

/-- The entry that was handed out last. -/
def entryAt : Cf → Option (Nat × Blk)
  | ⟨.l false (⟨_, .bad (.entry x) _, none⟩ :: _) :: _, .normal, st⟩ => match ev st.sl x with
    | .ptr j 0 => match st.tb[j]? with
      | some k => some (j, k)
      | none => none
    | _ => none
  | _ => none

def entryGo (k : Int) (s : SV) : Cf → Cf
  | ⟨.l false (o :: l) :: kk, e, st⟩ => ⟨.l false l :: kk, e, St.put st o.dst (.sv (.tup [.int .i64 k, s]))⟩
  | cf => cf

theorem goodD_entry {cf : Cf} (j : Nat) (keys : List Int) (get : Int → SV) (seen : List Int) (k : Int) (h : entryAt cf = some (j, .sem (iterS keys get (seen ++ [k])))) (hno : noOptB cf.st.sl = true)
    (hg : GoodD P Q (entryGo k (get k) cf)) : GoodD P Q cf := by
  obtain ⟨todo, e, st⟩ := cf
  unfold entryAt at h
  split at h
  · rename_i d x xs l kk st' heq
    simp only [Cf.mk.injEq] at heq
    obtain ⟨rfl, rfl, rfl⟩ := heq
    split at h
    · rename_i j' hx
      split at h
      · rename_i kb hj
        simp only [Option.some.injEq, Prod.mk.injEq] at h
        obtain ⟨rfl, rfl⟩ := h
        refine GVC.step ?_
        show stepVC P st ⟨d, .bad (.entry x) xs, none⟩ (fun st' => stepsVC P l st' (kont P Q kk .normal))
        simp only [stepVC]
        intro w0 M0 G sv L w ρ o ho hM0 hb hρ
        obtain ⟨r, m, since, c0, seenB, es, clock, hL, hok⟩ := hb.inv.ok j' _ hj
        have hv : ρ x = .pointer (some ⟨r, 0, none⟩) := by
          have := hρ x
          rw [hx] at this
          obtain ⟨_, b, h1, h2⟩ := this
          rw [hL] at h1
          injection h1 with h1
          injection h1 with h1
          rw [h2]
          have : r = b := by injection h1
          rw [this]
        obtain ⟨i, en, pre, hki, hi, hpre, hc0⟩ := hok.last k (by simp)
        have hkey : en.key = .int .i64 k := by
          have := congrArg (fun l => l[i]?) hok.map.hkeys
          simp only [List.getElem?_map, hi, hki, Option.map_some, Option.some.injEq] at this
          exact this
        have hrun := run_entry_at (P := P) w r m since pre es clock en (by rw [hok.iter, hpre, hc0]) hok.map.heap (List.mem_of_getElem? hi) hok.map.births
        refine ⟨.tuple #[en.key, en.val], w, st, .sv (.tup [.int .i64 k, get k]), L, .inl ?_, hg, hb, ?_, rfl, fun t => noOptB_look t _ hno⟩
        · simp only [execOp, ho, hv]
          exact run_v hrun
        · refine .tup _ _ rfl fun q s v hs hv => ?_
          match q, hs, hv with
          | 0, hs, hv => cases hs; cases hv; rw [hkey]; exact .int _ _
          | 1, hs, hv => cases hs; cases hv; exact hok.map.vals i k en hki hi
          | q + 2, hs, _ => simp at hs
      · cases h
    · cases h
  · cases h

theorem good_entry {cf : Cf} (j : Nat) (keys : List Int) (get : Int → SV) (seen : List Int) (k : Int) (h : entryAt cf = some (j, .sem (iterS keys get (seen ++ [k])))) (hno : noOptB cf.st.sl = true)
    (hg : Good P Q (entryGo k (get k) cf)) : Good P Q cf := ⟨goodD_entry j keys get seen k h hno hg.ok⟩
theorem good_range {cf : Cf} (t : TypeId) (i : Nat) (z : Value) (keys : List Int) (get : Int → SV) (h : rangeAt cf = some (t, i, z, keys, get)) (ht : isMapT P t = true) (hno : noOptB cf.st.sl = true) (hg : Good P Q (rangeGo i z keys get cf)) : Good P Q cf :=
  ⟨goodD_range t i z keys get h ht hno hg.ok⟩
theorem good_next {cf : Cf} (j : Nat) (keys : List Int) (get : Int → SV) (seen : List Int) (h : nextAt cf = some (j, .sem (iterS keys get seen))) (hno : noOptB cf.st.sl = true)
    (hg : ∀ k, k ∈ keys → k ∉ seen → Good P Q (nextGo j keys get seen k cf)) (he : (∀ k ∈ keys, k ∈ seen) → Good P Q (nextEnd cf)) : Good P Q cf :=
  ⟨goodD_next j keys get seen h hno (fun k h1 h2 => (hg k h1 h2).ok) fun h => (he h).ok⟩

/-- An entry of a map will be written: its stamp gets a name. -/
def stampGo (j : Nat) (z : Value) (ks : List Int) (get : Int → SV) (key s : Int) (cf : Cf) : Cf := { cf with st := { cf.st with tb := cf.st.tb.set j (.sem (entS z ks get key s false)) } }

end
end Go.Sx

/- A block is told otherwise: a row whose elements say less. -/
namespace Go.Sx
open Go Go.RowKit
set_option linter.unusedVariables false
set_option linter.unusedSimpArgs false

section
variable {P : Program} {Q : Exit → St → Prop}

/-- The row j, at an operation. -/
def rowAt (j : Nat) : Cf → Option (TypeId × Nat × Nat × Bool × (Nat → List SV))
  | ⟨.l false (_ :: _) :: _, .normal, st⟩ => match st.tb[j]? with
    | some (.row t sz n mu get) => some (t, sz, n, mu, get)
    | _ => none
  | _ => none

def blkGo (j : Nat) (k : Blk) (cf : Cf) : Cf := { cf with st := { cf.st with tb := cf.st.tb.set j k } }

end

end Go.Sx
namespace Go.Sx
open Go Go.RowKit
set_option linter.unusedVariables false
set_option linter.unusedSimpArgs false

/-! All orders one by one; the blocks that the region has laid are dropped at its end. -/

def livesB (tb : List Blk) (i : Nat) : Bool :=
  match tb[i]? with
  | none => false
  | some .dead => false
  | some _ => true

def okB (tb : List Blk) : LV → Bool
  | .any => true
  | .sv _ => true
  | .ptr i _ => livesB tb i
  | .own i => livesB tb i
  | .part i _ _ => isRowAt tb i
  | .isv i _ => livesB tb i
  | _ => false

def safeLV (tb : List Blk) (x : LV) : LV := if okB tb x then x else .any

def dropB (n0 : Nat) (tb : List Blk) : List Blk := tb.take n0 ++ (tb.drop n0).map fun _ => Blk.dead

def safeSl (tb : List Blk) (sl : List (Nat × LV)) (ks : List Nat) : List (Nat × LV) := ks.map fun t => (t, safeLV tb (look sl t))

def canonB (ks : List Nat) (n0 : Nat) (st : St) : St := { sl := safeSl (dropB n0 st.tb) (cleanSl st.sl) ks, tb := dropB n0 st.tb }

section
variable {P : Program} {Q : Exit → St → Prop}

/-- What comes behind the ends of blocks. -/
def skipBlk : List Item → List Item
  | .blk _ :: k => skipBlk k
  | k => k

def isC : List Item → Bool
  | .c _ :: _ => true
  | _ => false

def endsB (P : Program) (ks : List Nat) (n0 : Nat) : Cf → Option (List (St × List Prop))
  | ⟨.a l aft n done :: .cl :: k, .normal, st⟩ => if isC (skipBlk k) then match runsA P l aft n done st with
    | some rs => some (rs.map fun r => (canonB ks n0 r.1, obsL r.2))
    | none => none
    else none
  | _ => none

def goB (P : Program) (ks : List Nat) (n0 : Nat) : Cf → Cf
  | ⟨.a l aft n done :: .cl :: k, .normal, st⟩ => match runsA P l aft n done st with
    | some (r :: _) => ⟨skipBlk k, .normal, canonB ks n0 r.1⟩
    | _ => ⟨[], .normal, st⟩
  | cf => cf

end
end Go.Sx

/- An entry of a map is struck. -/
namespace Go.Sx
open Go Go.RowKit Go.ChangeMaps
set_option linter.unusedVariables false
set_option linter.unusedSimpArgs false

def delKey (keys : List Int) (n : Int) : List Int := keys.filter fun k => !decide (k = n)
def delGet (z : Value) (n : Int) (get : Int → SV) (k : Int) : SV := if k = n then valSV z else get k

theorem delKey_not {keys : List Int} {n : Int} (h : n ∉ keys) : delKey keys n = keys := by
  unfold delKey
  rw [List.filter_eq_self]
  intro k hk
  have : k ≠ n := fun e => h (e ▸ hk)
  simp [this]

theorem delKey_idx : ∀ {keys : List Int} {n : Int} (j : Nat), keys.Nodup → keys[j]? = some n → delKey keys n = keys.eraseIdx j
  | [], n, j, _, h => by simp at h
  | k :: r, n, 0, hn, h => by
    simp only [List.getElem?_cons_zero, Option.some.injEq] at h
    subst h
    have hk := (List.nodup_cons.1 hn).1
    show delKey (k :: r) k = r
    have : delKey (k :: r) k = delKey r k := by simp [delKey]
    rw [this, delKey_not hk]
  | k :: r, n, j + 1, hn, h => by
    simp only [List.getElem?_cons_succ] at h
    have hk := (List.nodup_cons.1 hn).1
    have hne : k ≠ n := fun e => hk (e ▸ List.mem_of_getElem? h)
    have : delKey (k :: r) n = k :: delKey r n := by simp [delKey, hne]
    rw [this, delKey_idx j (List.nodup_cons.1 hn).2 h, List.eraseIdx_cons_succ]

theorem map_eraseIdx' {α β : Type} (f : α → β) : ∀ (l : List α) (j : Nat), (l.eraseIdx j).map f = (l.map f).eraseIdx j
  | [], _ => by simp
  | a :: r, 0 => rfl
  | a :: r, j + 1 => by simp [List.eraseIdx_cons_succ, map_eraseIdx' f r j]

section
variable {P : Program} {Q : Exit → St → Prop} {w0 : Base} {M0 : Nat → Prop} {L : Nat → Value} {tb : List Blk} {w : World}

theorem del_run {t t2 : TypeId} {z : Value} (hz : mapOf P t = some z) {b : Nat} {es : Array MapEntry} {clock : Nat} {keys : List Int} (hb : w.heap[b]? = some (.map es clock)) (h1 : es.toList.map (·.key) = keys.map (Value.int .i64)) (h2 : keys.Nodup)
    (h4 : (es.toList.map (·.born)).Nodup) (n : Int) (ty : TypeId) :
    ∃ es' : Array MapEntry, (Builtin.delete_ #[t, t2] ty #[.map (some b), .int .i64 n]).run P w = .ok (.tuple #[]) { w with heap := w.heap.setIfInBounds b (.map es' clock) } ∧ es'.toList.map (·.key) = (delKey keys n).map (Value.int .i64) ∧
      (∀ e ∈ es'.toList, e ∈ es.toList) ∧ (es'.toList.map (·.born)).Nodup ∧
      ∀ (i : Nat) k e', (delKey keys n)[i]? = some k → es'.toList[i]? = some e' → ∃ j : Nat, keys[j]? = some k ∧ es.toList[j]? = some e' := by
  obtain ⟨kt, e, hu, hk, _, _⟩ := mapOf_spec hz
  have hlen : es.toList.length = keys.length := by have := congrArg List.length h1; simpa using this
  rcases findNow_int .i64 es.toList keys 0 n h1 with ⟨hn, hf⟩ | ⟨j, en, hj, he, hf⟩
  · refine ⟨es, ?_, by rw [delKey_not hn, h1], fun _ h => h, h4, fun i k e' hi he' => ⟨i, by rw [delKey_not hn] at hi; exact hi, he'⟩⟩
    simp [Builtin.delete_, run_under hu, MapKept.run_getObj_map hb, checkKey_int hk, Instr.findKey, run_under hk, hf, MapKept.run_setObj_map _ hb]
  · have hjl : j < es.size := by have := (List.getElem?_eq_some_iff.1 he).1; simpa using this
    have htl : (es.eraseIdxIfInBounds j).toList = es.toList.eraseIdx j := by
      rw [Array.eraseIdxIfInBounds, dif_pos hjl, Array.toList_eraseIdx]
    refine ⟨es.eraseIdxIfInBounds j, ?_, ?_, ?_, ?_, ?_⟩
    · simp [Builtin.delete_, run_under hu, MapKept.run_getObj_map hb, checkKey_int hk, Instr.findKey, run_under hk, hf, MapKept.run_setObj_map _ hb]
    · rw [htl, delKey_idx j h2 hj, map_eraseIdx', h1, map_eraseIdx']
    · intro e' he'
      rw [htl] at he'
      exact List.mem_of_mem_eraseIdx he'
    · rw [htl, map_eraseIdx']
      exact h4.sublist (List.eraseIdx_sublist _ _)
    · intro i k e' hi he'
      rw [delKey_idx j h2 hj, List.getElem?_eraseIdx] at hi
      rw [htl, List.getElem?_eraseIdx] at he'
      split at hi
      · rename_i h; rw [if_pos h] at he'; exact ⟨i, hi, he'⟩
      · rename_i h; rw [if_neg h] at he'; exact ⟨i + 1, hi, he'⟩

/-- At a deletion. -/
def delAt : Cf → Option (TypeId × Nat × Value × List Int × (Int → SV) × Int)
  | ⟨.l false (⟨_, .bad (.call ⟨.builtin .delete, ⟨[x, y]⟩, ⟨[t, _]⟩⟩) _, none⟩ :: _) :: _, .normal, st⟩ => match ev st.sl x, ev st.sl y with
    | .own i, .sv (.int .i64 n) => match st.tb[i]? with
      | some (.map z keys get) => some (t, i, z, keys, get, n)
      | _ => none
    | _, _ => none
  | _ => none

def delGo (i : Nat) (z : Value) (keys : List Int) (get : Int → SV) (n : Int) : Cf → Cf
  | ⟨.l false (o :: l) :: k, e, st⟩ => ⟨.l false l :: k, e, St.put { sl := st.sl, tb := st.tb.set i (.map z (delKey keys n) (delGet z n get)) } o.dst .any⟩
  | cf => cf

theorem goodD_del {cf : Cf} (t : TypeId) (i : Nat) (z : Value) (keys : List Int) (get : Int → SV) (n : Int) (h : delAt cf = some (t, i, z, keys, get, n)) (ht : mapOf P t = some z) (hno : noOptB cf.st.sl = true) (hg : GoodD P Q (delGo i z keys get n cf)) : GoodD P Q cf := by
  obtain ⟨todo, e, st⟩ := cf
  unfold delAt at h
  split at h
  · rename_i d x y t' t2 xs l kk st' heq
    simp only [Cf.mk.injEq] at heq
    obtain ⟨rfl, rfl, rfl⟩ := heq
    split at h
    · rename_i i' n' hx hy
      split at h
      · rename_i z' keys' get' hi
        simp only [Option.some.injEq, Prod.mk.injEq] at h
        obtain ⟨rfl, rfl, rfl, rfl, rfl, rfl⟩ := h
        refine GVC.step ?_
        show stepVC P st ⟨d, .bad (.call ⟨.builtin .delete, ⟨[x, y]⟩, ⟨[t', t2]⟩⟩) xs, none⟩ (fun st' => stepsVC P l st' (kont P Q kk .normal))
        simp only [stepVC]
        intro w0 M0 G sv L w ρ o ho hM0 hb hρ
        have hil : i' < st.tb.length := (List.getElem?_eq_some_iff.1 hi).1
        obtain ⟨b, es, clock, hL, hh, h1, h2, h3, h4, h5, h6⟩ := hb.inv.ok i' _ hi
        have hbl : b < w.heap.size := (hb.inv.low i' b hil (by rw [hL]; rfl)).2
        have hv : ρ x = .map (some b) := by
          have := hρ x
          rw [hx] at this
          rw [this.2, hL]
        have hv2 : ρ y = .int .i64 n' := by
          have := hρ y
          rw [hy] at this
          have h3 : Den w (mset M0 st.tb L) (.int .i64 n') (ρ y) := this
          generalize ρ y = vs at h3
          cases h3; rfl
        obtain ⟨es', hrun, k1, k2, k3, k4⟩ := del_run (t2 := t2) ht hh h1 h2 h4 n' o.type
        obtain ⟨_, _, _, _, _, hone⟩ := mapOf_spec ht
        have hgr : w.grownBy { w with heap := w.heap.setIfInBounds b (.map es' clock) } (blkNo (L i')) := by
          rw [hL]
          refine ⟨rfl, rfl, rfl, by simp, fun k' _ hk' => ?_⟩
          have : b ≠ k' := fun e => hk' (by rw [← e]; rfl)
          simp [Array.getElem?_setIfInBounds, this]
        have hext : Ext (mset M0 st.tb L) w { w with heap := w.heap.setIfInBounds b (.map es' clock) } :=
          ⟨hgr.os, hgr.tape, hgr.output, hgr.size, fun k' hk' hnk => hgr.block k' hk' (fun e => hnk (.inr ⟨i', _, hi, rfl, e.symm⟩))⟩
        have hms := mset_set (w := w) (M0 := M0) (L := L) (tb := st.tb) (k' := .map z' (delKey keys' n') (delGet z' n' get')) (v := L i') hi rfl (fun _ h => .inl h)
        have hset := hb.inv.set (k' := .map z' (delKey keys' n') (delGet z' n' get')) (v := L i') hi rfl hgr (fun c' hc' => ⟨.inl hc', by
          have := (hb.inv.low i' c' hil hc').2
          simpa using this⟩) (by
          rw [hL]
          refine ⟨b, es', clock, rfl, by simp [hbl], k1, h2.sublist List.filter_sublist, fun e he => h3 e (k2 e he), k3, fun j k' e' hj he' => ?_, fun k' hk' => ?_⟩
          · rw [← hL]
            obtain ⟨j2, hj2, he2⟩ := k4 j k' e' hj he'
            have hne : k' ≠ n' := fun e => by
              have := List.mem_of_getElem? hj
              unfold delKey at this
              rw [List.mem_filter] at this
              simp [e] at this
            rw [delGet, if_neg hne]
            exact (h5 j2 k' e' hj2 he2).ext hext hms
          · rw [← hL]
            by_cases e : k' = n'
            · rw [delGet, if_pos e]; exact valSV_den hone
            · rw [delGet, if_neg e]
              refine (h6 k' fun hm => hk' ?_).ext hext hms
              unfold delKey
              rw [List.mem_filter]
              exact ⟨hm, by simp [e]⟩)
        have hup : upd L i' (L i') = L := funext fun q => by unfold upd; split <;> simp_all
        rw [hup] at hset hms
        refine ⟨.tuple #[], _, ⟨st.sl, st.tb.set i' (.map z' (delKey keys' n') (delGet z' n' get'))⟩, .any, L, .inl ?_, hg, ⟨hset.1, fun t => ?_⟩, trivial, rfl, fun t => noOptB_look t _ hno⟩
        · simp [execOp, ho, resolve, invoke, builtin, hv, hv2, hrun]
        · refine LDen.turn (fun s u hden => hden.ext hext hms) (fun _ _ => rfl) (by simp) (fun q t' sz n mu g hq => ?_) _ _ (hb.slot t)
          have hne : i' ≠ q := fun e => by subst e; rw [hi] at hq; cases hq
          exact ⟨t', mu, g, by rw [List.getElem?_set_ne hne]; exact hq⟩
      · cases h
    · cases h
  · cases h

theorem good_del {cf : Cf} (t : TypeId) (i : Nat) (z : Value) (keys : List Int) (get : Int → SV) (n : Int) (h : delAt cf = some (t, i, z, keys, get, n)) (ht : mapOf P t = some z) (hno : noOptB cf.st.sl = true) (hg : Good P Q (delGo i z keys get n cf)) : Good P Q cf :=
  ⟨goodD_del t i z keys get n h ht hno hg.ok⟩
end
end Go.Sx

