/- A symbolic executor for the code of Go functions: what its values stand for, and that its plain operations are right. -/
import Derived.Below
import Derived.Laws.OwnMore
import Derived.Orders
import Derived.Laws.Cells
import Derived.IntWalk
import Derived.Laws.Small
import Derived.Laws.BitsAllLaws
import Derived.Laws.BitsLemmas
import Derived.Laws.Externs
import Derived.Laws.Tables
import Derived.Laws.CopyRow
import Derived.Maps.AppendAt
import Derived.Laws.MakeOwn
import Derived.Lib.AppendZerosOnto
import Derived.Lib.AppendZeros
/- The symbolic executor: slimmed code, symbolic values, the verification condition `exec`. Definitions alone. -/
namespace Go.Sx
open Go Go.RowKit

/-- A symbolic value. `lst`: an immutable view of a slice; `ref`: a pointer to immutable cells. -/
inductive SV where
  | int (k : IntKind) (n : Int)
  | bool (b : Bool)
  | val (v : Value)
  | agg (cs : List SV)
  | tup (vs : List SV)
  | ref (cs : List SV) (off : Nat)
  | lst (sz n : Nat) (get : Nat → List SV)
  | fn (f : FuncId) (caps : List SV)

/-- What a slot holds: a value; a pointer into a local block; a pointer into a local row; a local row itself; a value under a guard. -/
inductive LV where
  | any
  | sv (s : SV)
  | ptr (i off : Nat)
  | rp (i k off : Nat)
  | own (i : Nat)
  | part (i lo hi : Nat)
  | opt (s : Nat) (b : Bool) (x : LV)
  | exact (i : Nat)
  | isv (i : Nat) (v : Value)

def blkNo : Value → Option Nat
  | .pointer (some a) => some a.block
  | .slice (some a) _ _ => some a.block
  | .map (some b) => some b
  | _ => none

/-- A world in which nothing has turned but blocks that are in M. -/
structure Ext (M : Nat → Prop) (w w' : World) : Prop where
  os : w'.os = w.os
  tape : w'.tape = w.tape
  output : w'.output = w.output
  size : w.heap.size ≤ w'.heap.size
  block : ∀ k, k < w.heap.size → ¬ M k → w'.heap[k]? = w.heap[k]?

/-! What a symbolic value stands for. -/

inductive Den (w : World) (M : Nat → Prop) : SV → Value → Prop where
  | int (k : IntKind) (n : Int) : Den w M (.int k n) (.int k n)
  | bool (b : Bool) : Den w M (.bool b) (.bool b)
  | val (v : Value) : Den w M (.val v) v
  | agg (cs : List SV) (vs : Array Value) (hl : cs.length = vs.size) (h1 : ∀ (i : Nat) v, vs[i]? = some v → v.oneCell' = true)
      (h : ∀ (i : Nat) s v, cs[i]? = some s → vs[i]? = some v → Den w M s v) : Den w M (.agg cs) (.agg vs)
  | tup (cs : List SV) (vs : Array Value) (hl : cs.length = vs.size)
      (h : ∀ (i : Nat) s v, cs[i]? = some s → vs[i]? = some v → Den w M s v) : Den w M (.tup cs) (.tuple vs)
  | ref (cs : List SV) (off b o : Nat) (val : Nat → Value) (hM : ¬ M b) (hb : b < w.heap.size)
      (h1 : ∀ (i : Nat) s, cs[i]? = some s → (val i).oneCell' = true)
      (hc : ∀ (i : Nat) s, cs[i]? = some s → w.cell? ⟨b, o + i, none⟩ = some (val i))
      (h : ∀ (i : Nat) s, cs[i]? = some s → Den w M s (val i)) : Den w M (.ref cs off) (.pointer (some ⟨b, o + off, none⟩))
  | lst (sz n : Nat) (get : Nat → List SV) (A : Option Addr) (c b o : Nat) (val : Nat → Nat → Value) (hc : n ≤ c) (hm : c ≤ maxLen)
      (hA : 0 < n → A = some ⟨b, o, none⟩) (hM : 0 < n → ¬ M b) (hb : 0 < n → b < w.heap.size) (hz : ∀ i, i < n → (get i).length = sz)
      (h1 : ∀ (i j : Nat) s, i < n → (get i)[j]? = some s → (val i j).oneCell' = true)
      (hcell : ∀ (i j : Nat) s, i < n → (get i)[j]? = some s → w.cell? ⟨b, o + (i * sz + j), none⟩ = some (val i j))
      (h : ∀ (i j : Nat) s, i < n → (get i)[j]? = some s → Den w M s (val i j)) : Den w M (.lst sz n get) (.slice A n c)
  | fn (f : FuncId) (cs : List SV) (vs : Array Value) (hl : cs.length = vs.size)
      (h : ∀ (i : Nat) s v, cs[i]? = some s → vs[i]? = some v → Den w M s v) : Den w M (.fn f cs) (.func (.func f) #[] vs)

/-- A map one of whose entries is about to be written: the stamp of the entry of a key, the one that is there or the one that will be. -/
def EntOK (w : World) (M : Nat → Prop) (zero : Value) (keys : List Int) (get : Int → SV) (key stamp : Int) (ph : Bool) (v : Value) : Prop :=
  ∃ (b : Nat) (es : Array MapEntry) (clock : Nat), v = .map (some b) ∧ w.heap[b]? = some (.map es clock) ∧ es.toList.map (·.key) = keys.map (Value.int .i64) ∧ keys.Nodup ∧
      (∀ e ∈ es.toList, e.born < clock) ∧ (es.toList.map (·.born)).Nodup ∧ (∀ (i : Nat) k e, keys[i]? = some k → es.toList[i]? = some e → Den w M (get k) e.val) ∧ (∀ k, k ∉ keys → Den w M (get k) zero) ∧
      (∀ (i : Nat) e, keys[i]? = some key → es.toList[i]? = some e → (e.born : Int) = stamp) ∧ (key ∉ keys → (clock : Int) = stamp) ∧ (ph = true → key ∈ keys)

/-- What the executor can read off a block of a further kind. -/
inductive BInfo where
  | none
  | ent (zero : Value) (keys : List Int) (get : Int → SV) (key stamp : Int) (ph : Bool)

/-- A block of a further kind: what it says of a world, and that it goes on saying so. -/
structure SemBlk where
  mu : Bool
  info : BInfo := .none
  ok : World → (Nat → Prop) → Value → Prop
  spec : ∀ z ks g k s p, info = .ent z ks g k s p → mu = true ∧ ∀ (w : World) (M : Nat → Prop) (v : Value), ok w M v → EntOK w M z ks g k s p v := by intro _ _ _ _ _ _ h; cases h
  ext : ∀ (w w' : World) (M M' : Nat → Prop) (v : Value), ok w M v → Ext M w w' → (∀ b, b < w.heap.size → M' b → M b) → (∀ b, blkNo v = some b → w'.heap[b]? = w.heap[b]?) → ok w' M' v

/-- A local block: cells known one by one; a row (a slice of the call's own). `mu`: it may be written. -/
inductive Blk where
  | cells (t : TypeId) (mu : Bool) (cs : List SV)
  | row (t : TypeId) (sz n : Nat) (mu : Bool) (get : Nat → List SV)
  | map (zero : Value) (keys : List Int) (get : Int → SV)
  | dead
  | sem (S : SemBlk)

def Blk.mut : Blk → Bool
  | .cells _ m _ => m
  | .row _ _ _ m _ => m
  | .map _ _ _ => true
  | .dead => false
  | .sem S => S.mu

structure St where
  sl : List (Nat × LV)
  tb : List Blk

def look : List (Nat × LV) → Nat → LV
  | [], _ => .any
  | (k, v) :: r, t => if k = t then v else look r t

/-- Slimmed operations: the types' facts are written into them. -/
inductive SOp where
  | mov (x : Operand)
  | pick (c : Nat) (a b : Operand)
  | load1 (x : Operand)
  | loadN (n : Nat) (x : Operand)
  | fld (off : Nat) (x : Operand)
  | idx (sz : Nat) (x i : Operand)
  | idxA (len sz : Nat) (x i : Operand)
  | bin (op : BinOp) (x y : Operand)
  | binB (op : BinOp) (x y : Operand)
  | binA (ne : Bool) (t : TypeId) (x y : Operand)
  | un (op : UnOp) (x : Operand)
  | conv (k : IntKind) (x : Operand)
  | ext (x : Operand) (i : Nat)
  | fval (off : Nat) (n : Option Nat) (x : Operand)
  | len (x : Operand)
  | mm (mx : Bool) (x y : Operand)
  | mkfn (f : FuncId) (caps : List Operand)
  | build (zero : List Value) (parts : List (Nat × Nat × Operand))
  | slice (sz : Nat) (x : Operand) (lo hi : Option Operand)
  | slice3 (sz : Nat) (x : Operand) (lo hi : Option Operand) (mx : Operand)
  | clear (e : TypeId) (sz : Nat) (zero : List Value) (x : Operand)
  | box (t : TypeId) (x : Operand)
  | alloc (t : TypeId) (zero : List Value)
  | store (n : Nat) (x v : Operand)
  | buildS (e : TypeId) (sz len : Nat) (zero : List Value) (parts : List (Nat × Operand))
  | app (e : TypeId) (sz bytes : Nat) (zero : List Value) (x y : Operand)
  | makeS (e : TypeId) (sz bytes : Nat) (zero : List Value) (n c : Operand)
  | isnil (ne : Bool) (x : Operand)
  | makeM (zero : Value)
  | lookup (zero : Value) (ok : Bool) (x k : Operand)
  | mapUp (x k v : Operand)
  | cap (x : Operand)
  | copy (sz : Nat) (x y : Operand)
  | appZ (e : TypeId) (sz bytes : Nat) (zero : List Value) (x n : Operand)
  | ovl (f : FuncId) (t : TypeId) (x y : Operand)
  | bad (op : Op) (xs : List Operand)
  | call (f : FuncId) (args : List Operand)
  | callv (x : Operand) (args : List Operand)

structure SO where
  dst : Option Nat
  op : SOp
  g : Option (Nat × Bool)

inductive SC where
  | skip
  | ret
  | exit (id : Nat)
  | ops (draw : Bool) (l : List SO)
  | opsA (h : List Nat) (l : List SO) (aft : List (List Nat))
  | opsD (p : Nat) (l : List SO)
  | seq (a b : SC)
  | cond (c : Operand) (a b : SC)
  | block (id : Nat) (b : SC)
  | loop (b : SC)
  | raw (c : Code)

/-- The blocks that may be written: those of the callers, and the call's own that are not frozen. -/
def mset (M0 : Nat → Prop) (tb : List Blk) (L : Nat → Value) (b : Nat) : Prop :=
  M0 b ∨ ∃ (i : Nat) (k : Blk), tb[i]? = some k ∧ k.mut = true ∧ blkNo (L i) = some b

/-- All cells of a block are single ones. -/
def AllOne (w : World) (v : Value) : Prop := ∀ (g : Nat) (cur : Array Value) (t : TypeId) (fr : Nat × Nat), blkNo v = some g → w.heap[g]? = some (.cells cur t fr) → ∀ u ∈ cur.toList, u.oneCell' = true

def BlkOK (w : World) (M : Nat → Prop) (base : Nat) : Blk → Value → Prop
  | .cells t _ cs, v => ∃ (b : Nat) (vs : Array Value), v = .pointer (some ⟨b, 0, none⟩) ∧ base ≤ b ∧ w.heap[b]? = some (.cells vs t (0, 0)) ∧ cs.length = vs.size ∧
      (∀ (i : Nat) u, vs[i]? = some u → u.oneCell' = true) ∧ ∀ (i : Nat) s u, cs[i]? = some s → vs[i]? = some u → Den w M s u
  | .row t sz n _ get, v => ∃ xs : List Value, w.ownsRow base t sz v n xs ∧ (∀ i, i < n → (get i).length = sz) ∧ AllOne w v ∧
      ∀ (i j : Nat) s u, i < n → (get i)[j]? = some s → xs[i * sz + j]? = some u → Den w M s u
  | .map zero keys get, v => ∃ (b : Nat) (es : Array MapEntry) (clock : Nat), v = .map (some b) ∧ w.heap[b]? = some (.map es clock) ∧ es.toList.map (·.key) = keys.map (Value.int .i64) ∧ keys.Nodup ∧
      (∀ e ∈ es.toList, e.born < clock) ∧ (es.toList.map (·.born)).Nodup ∧ (∀ (i : Nat) k e, keys[i]? = some k → es.toList[i]? = some e → Den w M (get k) e.val) ∧ ∀ k, k ∉ keys → Den w M (get k) zero
  | .dead, _ => True
  | .sem S, v => S.ok w M v

/-- Where a call began: its world, and the blocks that were handed over to it. -/
structure Base where
  w : World
  X : Nat → Prop

def Base.own (B : Base) (b : Nat) : Prop := B.w.heap.size ≤ b ∨ B.X b

def Safe (B : Base) (M0 : Nat → Prop) : Prop := ∀ b, M0 b → b < B.w.heap.size ∧ ¬ B.X b

structure Inv (w0 : Base) (M0 : Nat → Prop) (L : Nat → Value) (tb : List Blk) (w : World) : Prop where
  below : Ext w0.X w0.w w
  ok : ∀ (i : Nat) k, tb[i]? = some k → BlkOK w (mset M0 tb L) 0 k (L i)
  apart : ∀ (i j : Nat) b, i < tb.length → j < tb.length → blkNo (L i) = some b → blkNo (L j) = some b → i = j
  low : ∀ (i : Nat) b, i < tb.length → blkNo (L i) = some b → w0.own b ∧ b < w.heap.size

def LDen (G : Nat → Option Bool) (w : World) (M : Nat → Prop) (L : Nat → Value) (tb : List Blk) : LV → Value → Prop
  | .any, _ => True
  | .sv s, v => Den w M s v
  | .ptr i off, v => i < tb.length ∧ ∃ b, L i = .pointer (some ⟨b, 0, none⟩) ∧ v = .pointer (some ⟨b, off, none⟩)
  | .rp i k off, v => ∃ (b n c : Nat) (t : TypeId) (sz : Nat) (mu : Bool) (get : Nat → List SV), tb[i]? = some (.row t sz n mu get) ∧ L i = .slice (some ⟨b, 0, none⟩) n c ∧ k < n ∧
      v = .pointer (some ⟨b, k * sz + off, none⟩)
  | .own i, v => i < tb.length ∧ v = L i
  | .part i lo hi, v => ∃ (n : Nat) (t : TypeId) (sz : Nat) (mu : Bool) (get : Nat → List SV), tb[i]? = some (.row t sz n mu get) ∧ lo ≤ hi ∧ hi ≤ n ∧
      ((L i = .slice none 0 0 ∧ v = .slice none 0 0) ∨ ∃ b o c, L i = .slice (some ⟨b, 0, none⟩) n c ∧ (lo = 0 ∨ lo < c → o = lo * sz) ∧ v = .slice (some ⟨b, o, none⟩) (hi - lo) (c - lo))
  | .opt s b x, v => (G s = some b → LDen G w M L tb x v) ∧ (G s ≠ some b → v = undef)
  | .exact i, _ => i < tb.length ∧ ∃ A n, L i = .slice A n n
  | .isv i v, _ => i < tb.length ∧ L i = v

/-! Evaluation. -/

def constLV : Value → LV
  | .int k n => .sv (.int k n)
  | .bool b => .sv (.bool b)
  | v => .sv (.val v)

def ev (sl : List (Nat × LV)) : Operand → LV
  | .tmp t => look sl t
  | .const v => constLV v
  | .func f => .sv (.fn f [])
  | .global _ => .any

def unopt (gs : List (Nat × Bool)) : LV → LV
  | .opt s b x => if (s, b) ∈ gs then x else .any
  | x => x

def evG (sl : List (Nat × LV)) (gs : List (Nat × Bool)) (x : Operand) : LV := unopt gs (ev sl x)

/-- The guards that hold where the slot s is a bool. -/
def chain (sl : List (Nat × LV)) : Nat → Nat → List (Nat × Bool)
  | 0, _ => []
  | f + 1, s => match look sl s with
    | .opt s' b' _ => (s', b') :: chain sl f s'
    | _ => []

def guards (sl : List (Nat × LV)) : Option (Nat × Bool) → List (Nat × Bool)
  | none => []
  | some (s, b) => (s, b) :: chain sl 4 s

def boolAt (sl : List (Nat × LV)) (s : Nat) : Option Bool :=
  match look sl s with
  | .sv (.bool b) => some b
  | .opt _ _ (.sv (.bool b)) => some b
  | _ => none

def gcond (sl : List (Nat × LV)) : List (Nat × Bool) → Prop
  | [] => True
  | (s, b) :: r => (match boolAt sl s with | some c => c = b | none => True) ∧ gcond sl r

/-- The cells behind an address. -/
def addrOf (tb : List Blk) : LV → Option (List SV × Nat)
  | .ptr i off => match tb[i]? with
    | some (.cells _ _ cs) => some (cs, off)
    | _ => none
  | .rp i k off => match tb[i]? with
    | some (.row _ _ _ _ get) => some (get k, off)
    | _ => none
  | .sv (.ref cs off) => some (cs, off)
  | _ => none

/-- A local handle as an immutable value, where it is frozen. -/
def shut (tb : List Blk) : LV → Option SV
  | .sv s => some s
  | .own i => match tb[i]? with
    | some (.row _ sz n false get) => some (.lst sz n get)
    | _ => none
  | .ptr i off => match tb[i]? with
    | some (.cells _ false cs) => some (.ref cs off)
    | _ => none
  | _ => none

/-- The cells of a value that is stored. -/
def cellsOf : SV → Option (List SV)
  | .agg cs => some cs
  | .tup _ => none
  | .val v => if v.oneCell' then some [.val v] else none
  | s => some [s]

def InK (k : IntKind) (n : Int) : Prop := k.min ≤ n ∧ n ≤ k.max

def binI (op : BinOp) (k : IntKind) (a b : Int) : Option (SV × Prop) :=
  match op with
  | .add => some (.int k (a + b), InK k (a + b))
  | .sub => some (.int k (a - b), InK k (a - b))
  | .mul => some (.int k (a * b), InK k (a * b))
  | .quo => some (.int k (a / b), 0 ≤ a ∧ 0 < b ∧ InK k (a / b))
  | .rem => some (.int k (a % b), 0 ≤ a ∧ 0 < b)
  | .eql => some (.bool (decide (a = b)), True)
  | .neq => some (.bool (!decide (a = b)), True)
  | .lss => some (.bool (decide (a < b)), True)
  | .leq => some (.bool (decide (a ≤ b)), True)
  | .gtr => some (.bool (decide (b < a)), True)
  | .geq => some (.bool (decide (b ≤ a)), True)
  | .shr => some (.int k (a / 2 ^ b.toNat), 0 ≤ b ∧ b.toNat ≤ k.bits)
  | .and => some (.int k ((a.toNat &&& b.toNat : Nat) : Int), k = .i64 ∧ 0 ≤ a ∧ 0 ≤ b ∧ InK k a ∧ InK k b)
  | .or => some (.int k ((a.toNat ||| b.toNat : Nat) : Int), k = .i64 ∧ 0 ≤ a ∧ 0 ≤ b ∧ InK k a ∧ InK k b)
  | _ => none

/-- A number that is told as a value: what is done with it may wrap. -/
def binW (op : BinOp) (k : IntKind) (a b : Int) : Option (SV × Prop) :=
  match op with
  | .add => some (.val (.int k (k.wrap (a + b))), True)
  | _ => none

def binSV (op : BinOp) : SV → SV → Option (SV × Prop)
  | .int k a, .int k' b => if k = k' then binI op k a b else none
  | .val (.int k a), .int k' b => if k = k' then binW op k a b else none
  | _, _ => none

def binB (op : BinOp) : SV → SV → Option (SV × Prop)
  | .bool a, .bool b => match op with
    | .eql => some (.bool (a == b), True)
    | .neq => some (.bool (a != b), True)
    | _ => none
  | _, _ => none

/-- The numbers of a value all of whose cells are of type int. -/
def intsOf : List SV → Option (List Int)
  | [] => some []
  | .int .i64 n :: r => match intsOf r with
    | some l => some (n :: l)
    | none => none
  | _ :: _ => none

/-- The comparison of two such values of a type. -/
def EqOK (P : Program) (t : TypeId) (n : Nat) : Prop :=
  ∀ (w : World) (ne : Bool) (x y : Operand) (as bs : List Int), as.length = n → bs.length = n →
    (do eqGuard (if ne then .neq else .eql) t x y (.agg (as.map (Value.int .i64)).toArray) (.agg (bs.map (Value.int .i64)).toArray)
        binOp (if ne then .neq else .eql) t (.agg (as.map (Value.int .i64)).toArray) (.agg (bs.map (Value.int .i64)).toArray) : Sem Value).run P w = .ok (.bool (xor ne (decide (as = bs)))) w

def unSV (op : UnOp) : SV → Option (SV × Prop)
  | .bool b => match op with
    | .not => some (.bool (!b), True)
    | _ => none
  | .int k n => match op with
    | .neg => some (.int k (0 - n), InK k (0 - n))
    | _ => none
  | .val (.int k n) => match op with
    | .neg => some (.val (.int k (k.wrap (0 - n))), True)
    | _ => none
  | _ => none

def optList {α : Type} : List (Option α) → Option (List α)
  | [] => some []
  | none :: _ => none
  | some x :: r => match optList r with
    | some l => some (x :: l)
    | none => none

/-- The slots of one value's cells are laid over others, from an offset on. -/
def lay (cs : List SV) (off : Nat) : List SV → List SV
  | [] => cs
  | s :: r => lay (cs.set off s) (off + 1) r

def fillSV (cs : List SV) : List (Nat × Nat × Option SV) → Option (List SV)
  | [] => some cs
  | (off, n, some s) :: r => match cellsOf s with
    | some l => if l.length = n ∧ off + n ≤ cs.length then fillSV (lay cs off l) r else none
    | none => none
  | (_, _, none) :: _ => none

def natOf : LV → Option Int
  | .sv (.int _ n) => some n
  | _ => none

/-- The function is the library's slices.overlaps at a slice type. -/
def OvlOK (P : Program) (f : FuncId) (t : TypeId) : Prop :=
  ∃ (fn : Func) (r e : TypeId) (n : Nat), P.funcs[f]? = some fn ∧ (fn.name == "runtime.NumGoroutine") = false ∧ fn.body.isNone = true ∧ Extern.findNext fn = none ∧ Extern.find fn = some (Extern.SlicesOverlaps.overlaps #[t, t] #[r]) ∧
    P.underlying t = some (.slice e) ∧ (P.info? e).map (·.size) = some n

def lstOf : SV → Option (Nat × (Nat → List SV))
  | .lst _ n get => some (n, get)
  | .val (.slice none 0 0) => some (0, fun _ => [])
  | _ => none

def szOK (sz : Nat) : SV → Prop
  | .lst s _ _ => s = sz
  | _ => True

/-- A part of a row of the call's own. -/
def rowPart (tb : List Blk) : LV → Option (Nat × Nat × Nat × Nat × Nat)
  | .own j => match tb[j]? with
    | some (.row _ sz n _ _) => some (j, 0, n, sz, n)
    | _ => none
  | .part j a b => match tb[j]? with
    | some (.row _ sz n _ _) => some (j, a, b, sz, n)
    | _ => none
  | _ => none

/-- The slot under which a handle's value is noted. -/
def nmSlot (j : Nat) : Nat := 2000000 + j

/-- The first map whose handle has a name. -/
def nmMap (tb : List Blk) (ev : Operand → LV) : Nat → Option (Nat × Value)
  | 0 => none
  | n + 1 => match nmMap tb ev n with
    | some r => some r
    | none => match tb[n]?, ev (.tmp (nmSlot n)) with
      | some (.map _ _ _), .isv j v => if j = n then some (n, v) else none
      | _, _ => none

/-- The block of a map: a handle, or the named value of one. -/
def mapOfLV (tb : List Blk) (ev : Operand → LV) : LV → Option (Nat × List Prop)
  | .own i => some (i, [])
  | .sv (.val u) => match nmMap tb ev tb.length with
    | some (i, v) => some (i, [v = u])
    | none => none
  | _ => none

/-- The operations that leave memory alone. -/
def pureOp (P : Program) (tb : List Blk) (ev : Operand → LV) : SOp → Option (LV × Prop)
  | .mov x => some (ev x, True)
  | .load1 x => match addrOf tb (ev x) with
    | some (cs, off) => match cs[off]? with
      | some s => some (.sv s, True)
      | none => none
    | none => none
  | .loadN n x => match addrOf tb (ev x) with
    | some (cs, off) => some (.sv (.agg ((cs.drop off).take n)), off + n ≤ cs.length)
    | none => none
  | .fld off x => match ev x with
    | .ptr i o => some (.ptr i (o + off), True)
    | .rp i k o => some (.rp i k (o + off), True)
    | .sv (.ref cs o) => some (.sv (.ref cs (o + off)), True)
    | _ => none
  | .idx sz x i => match ev x, ev i with
    | .sv (.lst sz' n get), .sv (.int _ k) => some (.sv (.ref (get k.toNat) 0), sz' = sz ∧ 0 ≤ k ∧ k < n)
    | .own j, .sv (.int _ k) => match tb[j]? with
      | some (.row _ sz' n _ _) => some (.rp j k.toNat 0, sz' = sz ∧ 0 ≤ k ∧ k < n)
      | _ => none
    | .part j a b, .sv (.int _ k) => match tb[j]? with
      | some (.row _ sz' _ _ _) => some (.rp j (a + k.toNat) 0, sz' = sz ∧ 0 ≤ k ∧ a + k.toNat < b)
      | _ => none
    | _, _ => none
  | .idxA len sz x i => match ev x, ev i with
    | .ptr j o, .sv (.int _ k) => some (.ptr j (o + k.toNat * sz), 0 ≤ k ∧ k < len)
    | .sv (.ref cs o), .sv (.int _ k) => some (.sv (.ref cs (o + k.toNat * sz)), 0 ≤ k ∧ k < len)
    | .rp j q 0, .sv (.int _ k) => match tb[j]? with
      | some (.row _ sz' n _ _) => some (.rp j (q + k.toNat) 0, sz' = sz ∧ 0 ≤ k ∧ k < len ∧ q + k.toNat < n)
      | _ => none
    | _, _ => none
  | .bin op x y => match ev x, ev y with
    | .sv a, .sv b => match binSV op a b with
      | some (s, ob) => some (.sv s, ob)
      | none => none
    | _, _ => none
  | .binB op x y => match ev x, ev y with
    | .sv a, .sv b => match binB op a b with
      | some (s, ob) => some (.sv s, ob)
      | none => none
    | _, _ => none
  | .binA ne t x y => match ev x, ev y with
    | .sv (.agg a), .sv (.agg b) => match intsOf a, intsOf b with
      | some as, some bs => some (.sv (.bool (xor ne (decide (as = bs)))), EqOK P t as.length ∧ as.length = bs.length)
      | _, _ => none
    | _, _ => none
  | .un op x => match ev x with
    | .sv a => match unSV op a with
      | some (s, ob) => some (.sv s, ob)
      | none => none
    | _ => none
  | .conv k x => match ev x with
    | .sv (.int _ n) => some (.sv (.int k n), InK k n)
    | _ => none
  | .ext x i => match ev x with
    | .sv (.tup vs) => match vs[i]? with
      | some s => some (.sv s, True)
      | none => none
    | _ => none
  | .fval off n x => match ev x with
    | .sv (.agg cs) => match n with
      | none => match cs[off]? with
        | some s => some (.sv s, True)
        | none => none
      | some m => some (.sv (.agg ((cs.drop off).take m)), True)
    | _ => none
  | .len x => match ev x with
    | .sv s => match lstOf s with
      | some (n, _) => some (.sv (.int .i64 n), True)
      | none => none
    | .own j => match tb[j]? with
      | some (.row _ _ n _ _) => some (.sv (.int .i64 n), True)
      | _ => none
    | .part _ a b => some (.sv (.int .i64 ((b - a : Nat) : Int)), True)
    | _ => none
  | .mm mx x y => match ev x, ev y with
    | .sv (.int k a), .sv (.int _ b) => some (.sv (.int k (if mx then max a b else min a b)), True)
    | .sv (.val (.int k a)), .sv (.val (.int _ b)) => some (.sv (.int k (if mx then max a b else min a b)), True)
    | _, _ => none
  | .mkfn f caps => match optList (caps.map fun x => shut tb (ev x)) with
    | some l => some (.sv (.fn f l), True)
    | none => none
  | .build zero parts => match fillSV (zero.map SV.val) (parts.map fun p => (p.1, p.2.1, shut tb (ev p.2.2))) with
    | some l => some (.sv (.agg l), True)
    | none => none
  | .cap x => match ev x with
    | .sv (.val (.slice none 0 0)) => some (.sv (.int .i64 0), True)
    | _ => none
  | .ovl f t x y => match ev x, ev y, ev (.func f) with
    | .sv (.lst sz _ _), .part j _ _, .sv (.fn f' []) => match tb[j]? with
      | some (.row _ _ _ true _) => some (.sv (.bool false), OvlOK P f' t ∧ 0 < sz)
      | _ => none
    | _, _, _ => none
  | .slice sz x lo hi => match shut tb (ev x) with
    | some (.val (.slice none 0 0)) => match (lo.map fun y => natOf (ev y)).getD (some 0), (hi.map fun y => natOf (ev y)).getD (some 0) with
      | some l, some h => some (.sv (.val (.slice none 0 0)), l = 0 ∧ h = 0)
      | _, _ => none
    | some s => match lstOf s with
      | some (n, get) => match (lo.map fun y => natOf (ev y)).getD (some 0), (hi.map fun y => natOf (ev y)).getD (some n) with
        | some l, some h => some (.sv (.lst sz (h.toNat - l.toNat) fun i => get (l.toNat + i)), szOK sz s ∧ 0 ≤ l ∧ l ≤ h ∧ h ≤ n)
        | _, _ => none
      | none => none
    | none => match rowPart tb (ev x) with
      | some (j, a, b, sz', n) => match (lo.map fun y => natOf (ev y)).getD (some 0), (hi.map fun y => natOf (ev y)).getD (some ((b - a : Nat) : Int)) with
        | some l, some h => some (.part j (a + l.toNat) (a + h.toNat), sz' = sz ∧ 0 ≤ l ∧ l ≤ h ∧ a + h.toNat ≤ n)
        | _, _ => none
      | none => none
  | .lookup zero ok x k => match ev x, ev k with
    | .own i, .sv (.int .i64 n) => match tb[i]? with
      | some (.map z keys get) => some (.sv (if ok then .tup [get n, .bool (decide (n ∈ keys))] else get n), z = zero)
      | _ => none
    | _, _ => none
  | .slice3 sz x lo hi mx => match rowPart tb (ev x) with
    | some (_, a, _, sz', n) => match (lo.map fun y => natOf (ev y)).getD (some 0), (hi.map fun y => natOf (ev y)), natOf (ev mx) with
      | some l, some (some h), some m => some (.any, sz' = sz ∧ 0 ≤ l ∧ l ≤ h ∧ h ≤ m ∧ a + m.toNat ≤ n)
      | _, _, _ => none
    | none => none
  | _ => none

end Go.Sx

namespace Go.Sx
open Go Go.RowKit

def noMem : SV → Bool
  | .int _ _ => true
  | .bool _ => true
  | .val _ => true
  | .tup l => noMems l
  | .agg l => noMems l
  | _ => false
  where noMems : List SV → Bool
  | [] => true
  | s :: r => noMem s && noMems r

def HasBody (P : Program) (f : FuncId) : Prop := ∃ fn, P.funcs[f]? = some fn ∧ fn.body.isSome = true ∧ (fn.name == "runtime.NumGoroutine") = false

/-- What a function gives for arguments: it returns, and nothing that was there has turned. -/
def Spec (P : Program) (f : FuncId) (args : List SV) (r : SV) : Prop :=
  HasBody P f ∧ ∀ (w : World) (M : Nat → Prop) (vs : Array Value), (∀ b, M b → b < w.heap.size) → args.length = vs.size →
    (∀ (i : Nat) s v, args[i]? = some s → vs[i]? = some v → Den w M s v) →
    Calls P f vs w fun e w' => ∃ v, e = .returned v ∧ Below w.heap.size w w' ∧ Den w' M r v

/-- The same, the result being a slice of new memory that nobody else holds. -/
def SpecOwn (P : Program) (f : FuncId) (args : List SV) (t : TypeId) (sz n : Nat) (get : Nat → List SV) : Prop :=
  HasBody P f ∧ ∀ (w : World) (M : Nat → Prop) (vs : Array Value), (∀ b, M b → b < w.heap.size) → args.length = vs.size →
    (∀ (i : Nat) s v, args[i]? = some s → vs[i]? = some v → Den w M s v) →
    Calls P f vs w fun e w' => ∃ v, e = .returned v ∧ Below w.heap.size w w' ∧ BlkOK w' (fun b => M b ∨ blkNo v = some b) w.heap.size (.row t sz n true get) v

/-- A function that takes a slice of the caller's own and hands one back in its place. -/
def SpecTake (P : Program) (f : FuncId) (pre : List SV) (t : TypeId) (sz n : Nat) (get : Nat → List SV) (post : List SV) (n' : Nat) (get' : Nat → List SV) : Prop :=
  HasBody P f ∧ ∀ (w : World) (M : Nat → Prop) (base : Nat) (us vs : List Value) (v : Value), (∀ b, M b → b < w.heap.size) → base ≤ w.heap.size → (∀ b, blkNo v = some b → M b) → pre.length = us.length → post.length = vs.length →
    (∀ (i : Nat) s u, pre[i]? = some s → us[i]? = some u → Den w M s u) → (∀ (i : Nat) s u, post[i]? = some s → vs[i]? = some u → Den w M s u) → BlkOK w M base (.row t sz n true get) v →
    Calls P f (us ++ v :: vs).toArray w fun e w' => ∃ v', e = .returned v' ∧ w.grownBy w' (blkNo v) ∧ (∀ b, blkNo v' = some b → blkNo v = some b ∨ w.heap.size ≤ b) ∧ BlkOK w' (fun b => (M b ∧ blkNo v ≠ some b) ∨ blkNo v' = some b) base (.row t sz n' true get') v'

/-- A function that writes into a slice of the caller's own and returns nothing. -/
def SpecSort (P : Program) (f : FuncId) (pre : List SV) (t : TypeId) (sz n : Nat) (get : Nat → List SV) (post : List SV) (get' : Nat → List SV) : Prop :=
  HasBody P f ∧ ∀ (w : World) (M : Nat → Prop) (base : Nat) (us vs : List Value) (v : Value), (∀ b, M b → b < w.heap.size) → base ≤ w.heap.size → (∀ b, blkNo v = some b → M b) → pre.length = us.length → post.length = vs.length →
    (∀ (i : Nat) s u, pre[i]? = some s → us[i]? = some u → Den w M s u) → (∀ (i : Nat) s u, post[i]? = some s → vs[i]? = some u → Den w M s u) → BlkOK w M base (.row t sz n true get) v →
    Calls P f (us ++ v :: vs).toArray w fun e w' => e = .returned (.tuple #[]) ∧ w.grownBy w' (blkNo v) ∧ BlkOK w' M base (.row t sz n true get') v

def SVle (s s' : SV) : Prop := ∀ w M v, Den w M s v → Den w M s' v

def SVles : List SV → List SV → Prop
  | [], [] => True
  | s :: r, s' :: r' => SVle s s' ∧ SVles r r'
  | _, _ => False

def St.put (st : St) (d : Option Nat) (x : LV) : St :=
  match d with
  | some d => { st with sl := (d, x) :: st.sl }
  | none => st

def kill (i : Nat) : LV → LV
  | .own j => if j = i then .any else .own j
  | .rp j k o => if j = i then .any else .rp j k o
  | .part j a b => if j = i then .any else .part j a b
  | .ptr j o => if j = i then .any else .ptr j o
  | .opt _ _ _ => .any
  | .exact j => if j = i then .any else .exact j
  | .isv j v => if j = i then .any else .isv j v
  | x => x

def killSl (i : Nat) : List (Nat × LV) → List (Nat × LV)
  | [] => []
  | (t, x) :: r => (t, kill i x) :: killSl i r

def freeze : Blk → Blk
  | .cells t _ cs => .cells t false cs
  | .row t sz n _ get => .row t sz n false get
  | .map z keys get => .map z keys get
  | .dead => .dead
  | .sem S => .sem S

def frzAt (tb : List Blk) (i : Nat) : List Blk :=
  match tb[i]? with
  | some k => tb.set i (freeze k)
  | none => tb

/-- Freeze what is handed on by a value. -/
def frz (tb : List Blk) : LV → List Blk
  | .own i => frzAt tb i
  | .ptr i _ => frzAt tb i
  | _ => tb

def frzAll (tb : List Blk) : List LV → List Blk
  | [] => tb
  | x :: r => frzAll (frz tb x) r

def frzOwn (tb : List Blk) : LV → List Blk
  | .own i => frzAt tb i
  | _ => tb

def frzOwns (tb : List Blk) : List LV → List Blk
  | [] => tb
  | x :: r => frzOwns (frzOwn tb x) r

/-- An argument: a row may be lent out as it is. -/
def argSV (tb : List Blk) : LV → Option SV
  | .own i => match tb[i]? with
    | some (.row _ sz n _ get) => some (.lst sz n get)
    | _ => none
  | x => shut tb x

def srcOf (tb : List Blk) (sz : Nat) (i : Nat) : LV → Option (Nat × (Nat → List SV) × Prop)
  | .sv s => match lstOf s with
    | some (n, get) => some (n, get, szOK sz s)
    | none => none
  | .own j => if j = i then none else match tb[j]? with
    | some (.row _ sz' n _ get) => some (n, get, sz' = sz)
    | _ => none
  | _ => none

def joinGet (n : Nat) (get get' : Nat → List SV) (k : Nat) : List SV := if k < n then get k else get' (k - n)

/-- Elements are laid over those from k on, as many as m. -/
def spliceGet (k m : Nat) (get' get : Nat → List SV) (i : Nat) : List SV := if k ≤ i ∧ i < k + m then get' (i - k) else get i

def roomOK (n bytes : Nat) : Prop := n * bytes ≤ 140737488355328 ∧ n ≤ maxLen

def cutRows (sz : Nat) (cs : List SV) (k : Nat) : List SV := (cs.drop (k * sz)).take sz

/-- The first argument that is a row of the call's own. -/
def splitOwn : List LV → Option (List LV × Nat × List LV)
  | [] => none
  | .own i :: r => some ([], i, r)
  | x :: r => match splitOwn r with
    | some (a, i, b) => some (x :: a, i, b)
    | none => none

def takeVC1 (P : Program) (st : St) (f : FuncId) (xs : List LV) (d : Option Nat) (K : St → Prop) : Prop :=
  match splitOwn xs with
  | none => False
  | some (a, i, b) => match st.tb[i]? with
    | some (.row t sz n true get) => match optList (a.map (shut st.tb)), optList (b.map (shut st.tb)) with
      | some ps, some qs =>
        (∃ ps' qs' n' get', SVles ps ps' ∧ SVles qs qs' ∧ SpecTake P f ps' t sz n get qs' n' get' ∧ K (St.put { sl := killSl i st.sl, tb := st.tb.set i (.row t sz n' true get') } d (.own i))) ∨
        (∃ ps' qs' get', SVles ps ps' ∧ SVles qs qs' ∧ SpecSort P f ps' t sz n get qs' get' ∧ K (St.put { st with tb := st.tb.set i (.row t sz n true get') } d (.sv (.tup []))))
      | _, _ => False
    | _ => False

/-- Rows that are handed over beside the one that is taken are lent out for good. -/
def frzSt (st : St) (xs : List LV) : St := { st with tb := frzOwns st.tb xs }

def takeVC (P : Program) (st : St) (f : FuncId) (xs : List LV) (d : Option Nat) (K : St → Prop) : Prop :=
  match splitOwn xs with
  | none => False
  | some (a, _, b) => takeVC1 P (frzSt st (a ++ b)) f xs d K

/-- The handles' values, and the world, behind a state. -/
structure Behind (w0 : Base) (M0 : Nat → Prop) (G : Nat → Option Bool) (sv : Nat → Value) (st : St) (L : Nat → Value) (w : World) : Prop where
  inv : Inv w0 M0 L st.tb w
  slot : ∀ t, LDen G w (mset M0 st.tb L) L st.tb (look st.sl t) (sv t)

def optFree : LV → Bool
  | .opt _ _ _ => false
  | _ => true

/-- A call by what it does to the world: a door for further rules. -/
def semVC (P : Program) (st : St) (f : FuncId) (xs : List LV) (d : Option Nat) (K : St → Prop) : Prop :=
  HasBody P f ∧ ∀ (w0 : Base) (M0 : Nat → Prop) (G : Nat → Option Bool) (sv : Nat → Value) (L : Nat → Value) (w : World) (vs : Array Value), Safe w0 M0 → Behind w0 M0 G sv st L w → xs.length = vs.size →
    (∀ (i : Nat) x v, xs[i]? = some x → vs[i]? = some v → LDen G w (mset M0 st.tb L) L st.tb x v) →
    Calls P f vs w fun e w' => ∃ v st' x L', e = .returned v ∧ K (St.put st' d x) ∧ Behind w0 M0 G sv st' L' w' ∧ LDen G w' (mset M0 st'.tb L') L' st'.tb x v ∧ optFree x = true ∧ ∀ t, optFree (look st'.sl t) = true

/-- An operation by what it does to the world: a door for further rules. -/
def opVC (P : Program) (st : St) (op : Op) (d : Option Nat) (K : St → Prop) : Prop :=
  ∀ (w0 : Base) (M0 : Nat → Prop) (G : Nat → Option Bool) (sv : Nat → Value) (L : Nat → Value) (w : World) (ρ : Operand → Value) (o : Oper), o.op = op → Safe w0 M0 → Behind w0 M0 G sv st L w →
    (∀ x, LDen G w (mset M0 st.tb L) L st.tb (ev st.sl x) (ρ x)) →
    ∃ v w' st' x L', ((execOp ρ o).run P w = .ok (.value v) w' ∨ (execOp ρ o).run P w = .ok .skip w' ∧ v = undef) ∧ K (St.put st' d x) ∧ Behind w0 M0 G sv st' L' w' ∧
      LDen G w' (mset M0 st'.tb L') L' st'.tb x v ∧ optFree x = true ∧ ∀ t, optFree (look st'.sl t) = true

def gOf (a : Act) (s : Nat) : Option Bool :=
  match a.tmps[s]? with
  | some (.bool b) => some b
  | _ => none

/-- What stands behind a state at a place in the code. -/
def AtCode (N : Nat) (w0 : Base) (M0 : Nat → Prop) (st : St) (a : Act) (w : World) : Prop :=
  ∃ L, a.tmps.size = N ∧ a.defers = [] ∧ Behind w0 M0 (gOf a) (fun t => a.tmps.getD t undef) st L w ∧ ∀ t, optFree (look st.sl t) = true

/-- Code by what it does to the world: a door for further rules. -/
def rawVC (P : Program) (c : Code) (st : St) (Q : Exit → St → Prop) : Prop :=
  ∀ (N : Nat) (w0 : Base) (M0 : Nat → Prop) (a : Act) (w : World), Safe w0 M0 → AtCode N w0 M0 st a w → c.wp P (fun e a' w' => ∃ st', Q e st' ∧ AtCode N w0 M0 st' a' w') a w

def callVC (P : Program) (st : St) (f : FuncId) (xs : List LV) (d : Option Nat) (K : St → Prop) : Prop :=
  (match optList (xs.map (argSV st.tb)) with
  | none => False
  | some args =>
    (∃ args' r, SVles args args' ∧ Spec P f args' r ∧ K (St.put { st with tb := if noMem r then st.tb else frzOwns st.tb xs } d (.sv r))) ∨
    (∃ args' t sz n get, SVles args args' ∧ SpecOwn P f args' t sz n get ∧ K (St.put { st with tb := frzOwns st.tb xs ++ [.row t sz n true get] } d (.own st.tb.length)))) ∨
  takeVC P st f xs d K ∨ semVC P st f xs d K

def boxVC (st : St) (t : TypeId) (x : LV) (d : Option Nat) (K : St → Prop) : Prop :=
  match shut (frz st.tb x) x with
  | some s => match cellsOf s with
    | some cs => K (St.put { st with tb := frz st.tb x ++ [.cells t true cs] } d (.ptr st.tb.length 0))
    | none => False
  | none => False

def storeAt (tb : List Blk) (n : Nat) (cs : List SV) : LV → Option (List Blk × Prop)
  | .ptr i off => match tb[i]? with
    | some (.cells t true old) => some (tb.set i (.cells t true (lay old off cs)), cs.length = n ∧ off + n ≤ old.length)
    | _ => none
  | .rp i k off => match tb[i]? with
    | some (.row t sz m true get) => some (tb.set i (.row t sz m true fun j => if j = k then lay (get k) off cs else get j), cs.length = n ∧ off + n ≤ sz)
    | _ => none
  | _ => none

def storeVC (st : St) (n : Nat) (x v : LV) (d : Option Nat) (K : St → Prop) : Prop :=
  match shut (frz st.tb v) v with
  | some s => match cellsOf s with
    | some cs => match storeAt (frz st.tb v) n cs x with
      | some (tb, ob) => ob ∧ K (St.put { st with tb := tb } d .any)
      | none => False
    | none => False
  | none => False

def buildSVC (st : St) (e : TypeId) (sz len : Nat) (zero : List Value) (parts : List (Nat × LV)) (d : Option Nat) (K : St → Prop) : Prop :=
  match fillSV (((List.range len).map fun _ => zero.map SV.val).flatten) (parts.map fun p => (p.1 * sz, sz, shut (frzAll st.tb (parts.map fun p => p.2)) p.2)) with
  | some l => K (St.put { st with tb := frzAll st.tb (parts.map fun p => p.2) ++ [.row e sz len true (cutRows sz l)] } d (.own st.tb.length))
  | none => False

def appVC (st : St) (e : TypeId) (sz bytes : Nat) (x y : LV) (d : Option Nat) (K : St → Prop) : Prop :=
  match x with
  | .own i => match st.tb[i]? with
    | some (.row e' sz' n true get) => match srcOf st.tb sz i y with
      | some (m, get', ob) => (e' = e ∧ sz' = sz ∧ ob ∧ roomOK (n + m) bytes) ∧
          K (St.put { sl := killSl i st.sl, tb := st.tb.set i (.row e sz (n + m) true (joinGet n get get')) } d (.own i))
      | none => False
    | _ => False
  | .sv (.val (.slice none 0 0)) => match srcOf st.tb sz st.tb.length y with
    | some (m, get', ob) => (ob ∧ roomOK m bytes) ∧ K (St.put { st with tb := st.tb ++ [.row e sz m true get'] } d (.own st.tb.length))
    | none => False
  | .part i 0 k => match st.tb[i]? with
    | some (.row e' sz' n true get) => match y with
      | .part j a b => (j = i ∧ e' = e ∧ sz' = sz ∧ k + (b - a) ≤ n) ∧ K (St.put { st with tb := st.tb.set i (.row e sz n true (spliceGet k (b - a) (fun j => get (a + j)) get)) } d (.part i 0 (k + (b - a))))
      | _ => False
    | _ => False
  | _ => False

/-- The elements of a part of a row are cleared. -/
def clearVC (st : St) (sz : Nat) (zero : List Value) (x : LV) (d : Option Nat) (K : St → Prop) : Prop :=
  match x with
  | .part i a b => match st.tb[i]? with
    | some (.row e sz' n true get) => sz' = sz ∧ K (St.put { st with tb := st.tb.set i (.row e sz' n true (spliceGet a (b - a) (fun _ => zero.map SV.val) get)) } d (.sv (.tup [])))
    | _ => False
  | _ => False

/-- A comparison with nil: nothing is known of its outcome but that a slice that is nil is empty. -/
def isnilVC (st : St) (ne : Bool) (x : LV) (d : Option Nat) (K : St → Prop) : Prop :=
  match argSV st.tb x with
  | some s => match lstOf s with
    | some (n, _) => ∀ b : Bool, (b = true → n = 0) → K (st.put d (.sv (.bool (xor ne b))))
    | none => False
  | none => False

def makeSVC (st : St) (e : TypeId) (sz bytes : Nat) (zero : List Value) (x y : LV) (d : Option Nat) (K : St → Prop) : Prop :=
  match natOf x, natOf y with
  | some n, some c => (n = c ∧ 0 ≤ n ∧ roomOK n.toNat bytes) ∧ K (St.put { st with tb := st.tb ++ [.row e sz n.toNat true fun _ => zero.map SV.val] } d (.own st.tb.length))
  | _, _ => False

/-- The row's whole capacity: what was the row is a part of it now. -/
def expand (i n : Nat) : LV → LV
  | .own j => if j = i then .part j 0 n else .own j
  | x => kill i x

def expandSl (i n : Nat) : List (Nat × LV) → List (Nat × LV)
  | [] => []
  | (t, x) :: r => (t, expand i n x) :: expandSl i n r

/-- The slot under which it is noted that a row has all its capacity. -/
def exSlot (i : Nat) : Nat := 1000000 + i

def capSt (st : St) (i n : Nat) (t : TypeId) (sz c : Nat) (get' : Nat → List SV) (d : Option Nat) : St :=
  St.put { sl := (exSlot i, .exact i) :: expandSl i n st.sl, tb := st.tb.set i (.row t sz c true get') } d (.sv (.int .i64 c))

def capVC (st : St) (x : LV) (d : Option Nat) (K : St → Prop) : Prop :=
  match x with
  | .own i => match st.tb[i]? with
    | some (.row t sz n true get) => ∀ (c : Nat) (get' : Nat → List SV), n ≤ c → c ≤ maxLen → (∀ j, j < n → get' j = get j) → K (capSt st i n t sz c get' d)
    | _ => False
  | _ => False

/-- What is copied: from a list, a row, or a part of one. -/
def srcP (tb : List Blk) (sz : Nat) : LV → Option (Nat × (Nat → List SV) × Prop)
  | .sv s => match lstOf s with
    | some (n, get) => some (n, get, szOK sz s)
    | none => none
  | .own j => match tb[j]? with
    | some (.row _ sz' n _ get) => some (n, get, sz' = sz)
    | _ => none
  | .part j a b => match tb[j]? with
    | some (.row _ sz' _ _ get) => some (b - a, fun k => get (a + k), sz' = sz)
    | _ => none
  | _ => none

def isExact : LV → Nat → Bool
  | .exact j, i => decide (j = i)
  | _, _ => false

/-- Further operations that write, and what they owe. -/
def effF (st : St) (op : SOp) (d : Option Nat) : Option (St × List Prop) :=
  match op with
  | .copy sz x y => match ev st.sl x with
    | .part i a b => match st.tb[i]? with
      | some (.row t sz' n true get) => match srcP st.tb sz (ev st.sl y) with
        | some (m, get2, ob) => some (St.put { st with tb := st.tb.set i (.row t sz' n true (spliceGet a (min m (b - a)) get2 get)) } d (.sv (.int .i64 ((min m (b - a) : Nat) : Int))), [sz' = sz ∧ ob])
        | none => none
      | _ => none
    | _ => none
  | .appZ e sz bytes zero x n => match ev st.sl x, natOf (ev st.sl n) with
    | .sv (.val (.slice none 0 0)), some m => some (St.put { st with tb := st.tb ++ [.row e sz m.toNat true fun _ => zero.map SV.val] } d (.own st.tb.length), [0 < m ∧ roomOK m.toNat bytes])
    | .part i 0 k, some m => match st.tb[i]? with
      | some (.row e' sz' n' true get) => if isExact (look st.sl (exSlot i)) i then
          some (St.put { st with tb := st.tb ++ [.row e sz (k + m.toNat) true (joinGet k get fun _ => zero.map SV.val)] } d (.own st.tb.length), [e' = e ∧ sz' = sz ∧ 0 < m ∧ n' < k + m.toNat ∧ roomOK (k + m.toNat) bytes])
        else none
      | _ => none
    | _, _ => none
  | _ => none

def AllP : List Prop → Prop
  | [] => True
  | p :: r => p ∧ AllP r

def effVC (st : St) (op : SOp) (d : Option Nat) (K : St → Prop) : Prop :=
  match effF st op d with
  | some (st', obs) => AllP obs ∧ K st'
  | none => False

/-- A value as a symbolic one. -/
def valSV : Value → SV
  | .int k n => .int k n
  | .bool b => .bool b
  | .agg ⟨cs⟩ => .agg (cs.map fun v => match v with
    | .int k n => .int k n
    | .bool b => .bool b
    | v => .val v)
  | v => .val v

def putKey (keys : List Int) (k : Int) : List Int := if k ∈ keys then keys else keys ++ [k]

def putGet (k : Int) (s : SV) (get : Int → SV) (j : Int) : SV := if j = k then s else get j

def mapUpVC (st : St) (x k v : LV) (d : Option Nat) (K : St → Prop) : Prop :=
  match mapOfLV st.tb (ev st.sl) x, k with
  | some (i, obs), .sv (.int .i64 n) => match shut (frz st.tb v) v with
    | some s => match (frz st.tb v)[i]? with
      | some (.map z keys get) => AllP obs ∧ K (St.put { st with tb := (frz st.tb v).set i (.map z (putKey keys n) (putGet n s get)) } d .any)
      | _ => False
    | none => False
  | _, _ => False

def pureVC (P : Program) (st : St) (op : SOp) (d : Option Nat) (K : St → Prop) : Prop :=
  match pureOp P st.tb (ev st.sl) op with
  | some (x, ob) => ob ∧ K (st.put d x)
  | none => False

def pickVC (st : St) (gs : List (Nat × Bool)) (c : Nat) (a b : Operand) (K : LV → Prop) : Prop :=
  match unopt gs (look st.sl c), evG st.sl ((c, true) :: (chain st.sl 4 c ++ gs)) a, evG st.sl ((c, false) :: (chain st.sl 4 c ++ gs)) b with
  | .sv (.bool c), .sv (.bool x), .sv (.bool y) => K (.sv (.bool (cond c x y)))
  | _, _, _ => False

def wrapG : Option (Nat × Bool) → LV → LV
  | none, x => x
  | some (s, b), x => .opt s b x

/-- A row that may be written. -/
def isOwn (tb : List Blk) : LV → Bool
  | .own i => match tb[i]? with
    | some k => k.mut
    | none => false
  | _ => false

def dcallVC (P : Program) (tb : List Blk) (f : FuncId) (xs : List LV) (c : Prop) (K : SV → Prop) : Prop :=
  match optList (xs.map (argSV tb)) with
  | none => False
  | some args => ∃ args' r, (c → SVles args args' ∧ Spec P f args' r) ∧ (noMem r = true ∨ xs.all (fun x => !isOwn tb x) = true) ∧ K r

def dstepVC (P : Program) (st : St) (o : SO) (K : LV → Prop) : Prop :=
  match o.op with
  | .pick c x y => pickVC st (guards st.sl o.g) c x y fun z => K (wrapG o.g z)
  | .call f xs => dcallVC P st.tb f (xs.map (evG st.sl (guards st.sl o.g))) (gcond st.sl (guards st.sl o.g)) fun r => K (wrapG o.g (.sv r))
  | .callv x xs => match evG st.sl (guards st.sl o.g) x with
    | .sv (.fn f caps) => dcallVC P st.tb f (xs.map (evG st.sl (guards st.sl o.g)) ++ caps.map LV.sv) (gcond st.sl (guards st.sl o.g)) fun r => K (wrapG o.g (.sv r))
    | _ => False
  | .buildS _ sz len zero parts =>
    match fillSV (((List.range len).map fun _ => zero.map SV.val).flatten) (parts.map fun p => (p.1 * sz, sz, shut st.tb (evG st.sl (guards st.sl o.g) p.2))) with
    | some l => K (wrapG o.g (.sv (.lst sz len (cutRows sz l))))
    | none => False
  | op => match pureOp P st.tb (evG st.sl (guards st.sl o.g)) op with
    | some (x, ob) => (gcond st.sl (guards st.sl o.g) → ob) ∧ K (wrapG o.g x)
    | none => False

def stepVC (P : Program) (st : St) (o : SO) (K : St → Prop) : Prop :=
  match o.g with
  | none =>
    match o.op with
    | .pick c a b => pickVC st [] c a b fun x => K (st.put o.dst x)
    | .call f xs => callVC P st f (xs.map (ev st.sl)) o.dst K
    | .callv x xs => match ev st.sl x with
      | .sv (.fn f caps) => callVC P st f (xs.map (ev st.sl) ++ caps.map LV.sv) o.dst K
      | _ => False
    | .isnil ne x => isnilVC st ne (ev st.sl x) o.dst K
    | .box t x => boxVC st t (ev st.sl x) o.dst K
    | .alloc t zero => K (St.put { st with tb := st.tb ++ [.cells t true (zero.map SV.val)] } o.dst (.ptr st.tb.length 0))
    | .store n x v => storeVC st n (ev st.sl x) (ev st.sl v) o.dst K
    | .buildS e sz len zero parts => buildSVC st e sz len zero (parts.map fun p => (p.1, ev st.sl p.2)) o.dst K
    | .build zero parts => pureVC P { st with tb := frzAll st.tb (parts.map fun p => ev st.sl p.2.2) } (.build zero parts) o.dst K
    | .mkfn f caps => pureVC P { st with tb := frzAll st.tb (caps.map (ev st.sl)) } (.mkfn f caps) o.dst K
    | .makeS e sz bytes zero x y => makeSVC st e sz bytes zero (ev st.sl x) (ev st.sl y) o.dst K
    | .app e sz bytes _ x y => appVC st e sz bytes (ev st.sl x) (ev st.sl y) o.dst K
    | .clear _ sz zero x => clearVC st sz zero (ev st.sl x) o.dst K
    | .makeM zero => K (St.put { st with tb := st.tb ++ [.map zero [] fun _ => valSV zero] } o.dst (.own st.tb.length))
    | .mapUp x k v => mapUpVC st (ev st.sl x) (ev st.sl k) (ev st.sl v) o.dst K
    | .bad op _ => opVC P st op o.dst K
    | .cap x => match ev st.sl x with
      | .own i => capVC st (.own i) o.dst K
      | _ => pureVC P st (.cap x) o.dst K
    | .copy sz x y => effVC st (.copy sz x y) o.dst K
    | .appZ e sz bytes zero x n => effVC st (.appZ e sz bytes zero x n) o.dst K
    | op => pureVC P st op o.dst K
  | some (s, b) =>
    match o.op with
    | .pick c x y => pickVC st (guards st.sl o.g) c x y fun z => K (st.put o.dst (.opt s b z))
    | .call f xs => dstepVC P st ⟨o.dst, .call f xs, o.g⟩ fun x => K (st.put o.dst x)
    | .callv x xs => dstepVC P st ⟨o.dst, .callv x xs, o.g⟩ fun x => K (st.put o.dst x)
    | .buildS e sz len zero parts => dstepVC P st ⟨o.dst, .buildS e sz len zero parts, o.g⟩ fun x => K (st.put o.dst x)
    | .mkfn f caps => match pureOp P (frzAll st.tb (caps.map (evG st.sl (guards st.sl o.g)))) (evG st.sl (guards st.sl o.g)) (.mkfn f caps) with
      | some (x, ob) => (gcond st.sl (guards st.sl o.g) → ob) ∧ K (St.put { st with tb := frzAll st.tb (caps.map (evG st.sl (guards st.sl o.g))) } o.dst (.opt s b x))
      | none => False
    | op => match pureOp P st.tb (evG st.sl (guards st.sl o.g)) op with
      | some (x, ob) => (gcond st.sl (guards st.sl o.g) → ob) ∧ K (st.put o.dst (.opt s b x))
      | none => False

/-! Names: a handle's value, and back. -/

def hasShape : Blk → Value → Prop
  | .row _ _ n _ _, v => ∃ A c, v = .slice A n c
  | .map _ _ _, v => ∃ b, v = .map (some b)
  | _, _ => True

def nameSt (st : St) (s j : Nat) (v : Value) : St := { st with sl := (s, .sv (.val v)) :: (nmSlot j, .isv j v) :: st.sl }

def unnameSt (st : St) (s j : Nat) : St := { st with sl := (s, .own j) :: st.sl }

/-- A step, behind other views of what is there. -/
inductive GVC (P : Program) (o : SO) (K : St → Prop) : St → Prop where
  | step {st : St} (h : stepVC P st o K) : GVC P o K st
  | view {st : St} (S : St → Prop) (h1 : ∀ (w0 : Base) (M0 : Nat → Prop) (G : Nat → Option Bool) (sv : Nat → Value) (L : Nat → Value) (w : World), Safe w0 M0 → Behind w0 M0 G sv st L w →
      ∃ st' L', S st' ∧ Behind w0 M0 G sv st' L' w ∧ ∀ t, look st'.sl t = look st.sl t ∨ optFree (look st'.sl t) = true) (h2 : ∀ st', S st' → GVC P o K st') : GVC P o K st

def stepsVC (P : Program) : List SO → St → (St → Prop) → Prop
  | [], st, K => K st
  | o :: r, st, K => GVC P o (fun st' => stepsVC P r st' K) st

def clean : LV → LV
  | .opt _ _ _ => .any
  | x => x

def cleanSl : List (Nat × LV) → List (Nat × LV)
  | [] => []
  | (t, .opt _ _ _) :: r => (t, .any) :: cleanSl r
  | p :: r => p :: cleanSl r

/-! One state tells less than another. -/

def isNilRow : Blk → Prop
  | .row _ _ n _ _ => n = 0
  | .dead => True
  | _ => False

def BlkLe : Blk → Blk → Prop
  | _, .dead => True
  | .cells t mu cs, .cells t' mu' cs' => t = t' ∧ (mu' = true → mu = true) ∧ SVles cs cs'
  | .row t sz n mu get, .row t' sz' n' mu' get' => t = t' ∧ sz = sz' ∧ n = n' ∧ (mu' = true → mu = true) ∧ ∀ i, i < n → SVles (get i) (get' i)
  | .map z keys get, .map z' keys' get' => z = z' ∧ keys = keys' ∧ ∀ k, SVle (get k) (get' k)
  | .sem S, .sem S' => S = S'
  | _, _ => False

def TbLe : List Blk → List Blk → Prop
  | _, [] => True
  | [], k :: r => isNilRow k ∧ TbLe [] r
  | k :: r, k' :: r' => BlkLe k k' ∧ TbLe r r'

def isRowAt (tb : List Blk) (i : Nat) : Bool :=
  match tb[i]? with
  | some (.row _ _ _ _ _) => true
  | _ => false

def LVle (n : Nat) (tb' : List Blk) : LV → LV → Prop
  | _, .any => True
  | .sv s, .sv s' => SVle s s'
  | .sv s, .own i => s = .val (.slice none 0 0) ∧ n ≤ i ∧ i < tb'.length
  | .ptr i o, .ptr i' o' => i = i' ∧ o = o' ∧ i < tb'.length
  | .own i, .own i' => i = i' ∧ i < tb'.length
  | .part i a b, .part i' a' b' => i = i' ∧ a = a' ∧ b = b' ∧ isRowAt tb' i = true
  | .rp i a b, .rp i' a' b' => i = i' ∧ a = a' ∧ b = b' ∧ isRowAt tb' i = true
  | .exact i, .exact i' => i = i' ∧ i < n ∧ i < tb'.length
  | .isv i v, .isv i' v' => i = i' ∧ v = v' ∧ i < n ∧ i < tb'.length
  | _, _ => False

def SlLe (n : Nat) (tb' : List Blk) (sl : List (Nat × LV)) : List (Nat × LV) → Prop
  | [] => True
  | (t, x) :: r => LVle n tb' (look sl t) x ∧ SlLe n tb' sl r

def Le (st st' : St) : Prop := TbLe st.tb st'.tb ∧ SlLe st.tb.length st'.tb st.sl st'.sl

/-! Regions whose order is drawn. -/

def drawVC (P : Program) : List SO → St → (St → Prop) → Prop
  | [], st, K => K st
  | o :: r, st, K => dstepVC P st o fun x => drawVC P r (st.put o.dst x) K

def keepSl (ks : List Nat) (sl : List (Nat × LV)) : List (Nat × LV) := ks.map fun t => (t, look sl t)

/-- A state that tells no more. -/
inductive Weak (st : St) : St → Prop where
  | refl : Weak st st
  | keep {st1 : St} (ks : List Nat) (h : Weak st st1) : Weak st { st1 with sl := keepSl ks st1.sl }
  | le {st1 st2 : St} (h : Weak st st1) (hle : Le st1 st2) : Weak st st2

theorem Weak.trans {a b c : St} (h : Weak a b) (k : Weak b c) : Weak a c := by
  induction k with
  | refl => exact h
  | keep ks _ ih => exact .keep ks ih
  | le _ hle ih => exact .le ih hle

/-- The operations that may come next, where those of a list are done. -/
def readyA (aft : List (List Nat)) (done : List Nat) : List Nat :=
  (List.range aft.length).filter fun j => !done.contains j && ((aft[j]?).getD []).all fun i => done.contains i

/-- All orders, one after the other. -/
def allVC (P : Program) (l : List SO) (aft : List (List Nat)) : Nat → List Nat → St → (St → Prop) → Prop
  | 0, done, st, K => readyA aft done = [] ∧ K st
  | n + 1, done, st, K => (readyA aft done = [] → K st) ∧ ∀ j ∈ readyA aft done, ∀ o, l[j]? = some o → GVC P o (fun st' => ∃ st1, Weak st' st1 ∧ allVC P l aft n (j :: done) st1 K) st

def exec (P : Program) : SC → St → (Exit → St → Prop) → Prop
  | .skip, st, Q => Q .normal st
  | .ret, st, Q => Q .ret st
  | .exit id, st, Q => Q (.exit id) st
  | .ops false l, st, Q => stepsVC P l st fun st' => Q .normal { st' with sl := cleanSl st'.sl }
  | .ops true l, st, Q => drawVC P l st fun st' => Q .normal { st' with sl := cleanSl st'.sl }
  | .opsA h l aft, st, Q => stepsVC P (h.filterMap fun j => l[j]?) st fun st1 => ∃ st2, Weak st1 st2 ∧ allVC P l aft (l.length - h.length) h.reverse st2 fun st' => Q .normal { st' with sl := cleanSl st'.sl }
  | .opsD p l, st, Q => drawVC P (l.take p) st fun st1 => stepsVC P (l.drop p) st1 fun st' => Q .normal { st' with sl := cleanSl st'.sl }
  | .seq a b, st, Q => ∃ st1, Weak st st1 ∧ exec P a st1 fun e st' => match e with
    | .normal => ∃ st2, Weak st' st2 ∧ exec P b st2 Q
    | e => Q e st'
  | .cond c a b, st, Q => match ev st.sl c with
    | .sv (.bool t) => (t = true → ∃ st1, Weak st st1 ∧ exec P a st1 Q) ∧ (t = false → ∃ st1, Weak st st1 ∧ exec P b st1 Q)
    | _ => False
  | .block id b, st, Q => ∃ st1, Weak st st1 ∧ exec P b st1 fun e st' => match e with
    | .exit k => if k = id then Q .normal st' else Q (.exit k) st'
    | e => Q e st'
  | .loop b, st, Q => ∃ (ι : Type) (I : ι → St) (m : ι → Nat) (i0 : ι), Le st (I i0) ∧ ∀ i, ∃ st1, Weak (I i) st1 ∧ exec P b st1 fun e st' => match e with
    | .normal => ∃ i', m i' < m i ∧ Le st' (I i')
    | e => Q e st'
  | .raw c, st, Q => rawVC P c st Q

end Go.Sx

namespace Go.Sx
open Go Go.RowKit

def zeroOf (P : Program) (t : TypeId) : Option (List Value) :=
  match P.info? t with
  | some i => match i.zero with
    | some z => if z.cells.toList.all (fun v => v.oneCell') then some z.cells.toList else none
    | none => none
  | none => none

def sizeOf? (P : Program) (t : TypeId) : Option Nat :=
  match P.info? t with
  | some i => some i.size
  | none => none

def bytesOf? (P : Program) (t : TypeId) : Option Nat :=
  match P.info? t with
  | some i => some i.bytes
  | none => none

def fieldOf (P : Program) (s : TypeId) (f : Nat) : Option (Nat × TypeId) :=
  match P.underlying s with
  | some (.struct fs) => match fs[f]? with
    | some fd => some (fd.offset, fd.type)
    | none => none
  | _ => none

def elemOf? (P : Program) (t : TypeId) : Option TypeId :=
  match P.underlying t with
  | some (.slice e) => some e
  | _ => none

def isAgg? (P : Program) (t : TypeId) : Option Bool :=
  match P.underlying t with
  | some (.struct _) => some true
  | some (.array _ _) => some true
  | some _ => some false
  | none => none

def placeOf (P : Program) (t : TypeId) : Option (Nat → Option (Nat × Nat)) :=
  match P.underlying t with
  | some (.array _ e) => match P.info? e with
    | some ie => some fun i => some (i * ie.size, ie.size)
    | none => none
  | some (.struct fields) => match fields.toList.mapM (fun f => (P.info? f.type).map fun i => (f.offset, i.size)) with
    | some places => some (places.toArray[·]?)
    | none => none
  | _ => none

def partOf (place : Nat → Option (Nat × Nat)) (p : Nat × Operand) : Option (Nat × Nat × Operand) :=
  match place p.1 with
  | some (off, n) => some (off, n, p.2)
  | none => none

def isNilC : Value → Bool
  | .slice none 0 0 => true
  | _ => false

/-- The zero value of a type, if it is made of single cells. -/
def zeroV (P : Program) (t : TypeId) : Option Value :=
  match P.info? t with
  | some i => match i.zero with
    | some z => if z.cells.toList.all (fun v => v.oneCell') then some z else none
    | none => none
  | none => none

/-- The zero value of the elements of a map whose keys are numbers. -/
def mapOf (P : Program) (t : TypeId) : Option Value :=
  match P.underlying t with
  | some (.map k e) => match P.underlying k with
    | some (.int .i64) => zeroV P e
    | _ => none
  | _ => none

def isInt? (P : Program) (t : TypeId) : Bool :=
  match P.underlying t with
  | some (.int _) => true
  | _ => false

/-- A function whose body is not there. -/
def noBody (P : Program) (f : FuncId) : Bool :=
  match P.funcs[f]? with
  | some fn => fn.body.isNone
  | none => false

def slimO (P : Program) : Op → Option SOp
  | .move x => some (.mov x)
  | .assign x => some (.mov x)
  | .pick (.tmp c) a b => some (.pick c a b)
  | .load t x => match isAgg? P t, sizeOf? P t with
    | some true, some n => some (.loadN n x)
    | some false, some _ => some (.load1 x)
    | _, _ => none
  | .fieldAddr s x f => match fieldOf P s f with
    | some (off, t) => match sizeOf? P t with
      | some (_ + 1) => some (.fld off x)
      | _ => none
    | none => none
  | .indexAddr t x i => match P.underlying t with
    | some (.slice e) => match sizeOf? P e with
      | some n => some (.idx n x i)
      | none => none
    | some (.array len e) => match sizeOf? P e with
      | some n => some (.idxA len n x i)
      | none => none
    | _ => none
  | .binOp op t x y _ => match P.underlying t with
    | some (.int _) => some (.bin op x y)
    | some .bool => some (.binB op x y)
    | some (.struct _) => match op with
      | .eql => some (.binA false t x y)
      | .neq => some (.binA true t x y)
      | _ => none
    | some (.array _ _) => match op with
      | .eql => some (.binA false t x y)
      | .neq => some (.binA true t x y)
      | _ => none
    | some (.slice _) => match y with
      | .const v => if isNilC v then match op with
        | .eql => some (.isnil false x)
        | .neq => some (.isnil true x)
        | _ => none
        else none
      | _ => none
    | _ => none
  | .unOp op _ x => some (.un op x)
  | .convert s d x => match P.underlying s, P.underlying d with
    | some (.int _), some (.int k) => some (.conv k x)
    | _, _ => none
  | .extract x i => some (.ext x i)
  | .field s x f => match fieldOf P s f with
    | some (off, t) => match isAgg? P t, sizeOf? P t with
      | some true, some n => some (.fval off (some n) x)
      | some false, some _ => some (.fval off none x)
      | _, _ => none
    | none => none
  | .makeFunc (.func f) ⟨[]⟩ caps => some (.mkfn f caps.toList)
  | .build t parts => match placeOf P t, zeroOf P t with
    | some place, some z => match optList (parts.toList.map (partOf place)) with
      | some ps => some (.build z ps)
      | none => none
    | _, _ => none
  | .slice t x lo hi none => match elemOf? P t with
    | some e => match sizeOf? P e with
      | some n => some (.slice n x lo hi)
      | none => none
    | none => none
  | .slice t x lo hi (some m) => match elemOf? P t with
    | some e => match sizeOf? P e with
      | some n => some (.slice3 n x lo hi m)
      | none => none
    | none => none
  | .box t x => some (.box t x)
  | .alloc t => match zeroOf P t with
    | some z => some (.alloc t z)
    | none => none
  | .store t x v => match sizeOf? P t with
    | some n => some (.store n x v)
    | none => none
  | .buildSlice t len parts => match elemOf? P t with
    | some e => match sizeOf? P e, zeroOf P e with
      | some n, some z => if len * n ≤ 16777216 ∧ z.length = n ∧ 0 < n then some (.buildS e n len z parts.toList) else none
      | _, _ => none
    | none => none
  | .makeSlice t n c => match elemOf? P t with
    | some e => match sizeOf? P e, bytesOf? P e, zeroOf P e with
      | some sz, some by', some z => if z.length = sz then some (.makeS e sz by' z n c) else none
      | _, _, _ => none
    | none => none
  | .call ⟨.builtin .len, ⟨[x]⟩, ⟨[t]⟩⟩ => match elemOf? P t with
    | some _ => some (.len x)
    | none => none
  | .call ⟨.builtin .cap, ⟨[x]⟩, ⟨[t]⟩⟩ => match elemOf? P t with
    | some _ => some (.cap x)
    | none => none
  | .call ⟨.builtin .copy, ⟨[x, y]⟩, ⟨[t, _]⟩⟩ => match elemOf? P t with
    | some e => match sizeOf? P e with
      | some (sz + 1) => some (.copy (sz + 1) x y)
      | _ => none
    | none => none
  | .makeMap t none => match mapOf P t with
    | some z => some (.makeM z)
    | none => none
  | .lookup t x k ok => match mapOf P t with
    | some z => some (.lookup z ok x k)
    | none => none
  | .mapUpdate t x k v => match mapOf P t with
    | some _ => some (.mapUp x k v)
    | none => none
  | .call ⟨.builtin .clear, ⟨[x]⟩, ⟨[t]⟩⟩ => match elemOf? P t with
    | some e => match sizeOf? P e, zeroOf P e with
      | some sz, some z => if z.length = sz then some (.clear e sz z x) else none
      | _, _ => none
    | none => none
  | .call ⟨.builtin .min, ⟨[x, y]⟩, _⟩ => some (.mm false x y)
  | .call ⟨.builtin .max, ⟨[x, y]⟩, _⟩ => some (.mm true x y)
  | .call ⟨.builtin .append, ⟨[x, y]⟩, ⟨[t, u]⟩⟩ => match elemOf? P t with
    | some e => match sizeOf? P e, bytesOf? P e, zeroOf P e with
      | some (sz + 1), some by', some z => if z.length = sz + 1 ∧ t = u then some (.app e (sz + 1) by' z x y) else if z.length = sz + 1 ∧ isInt? P u = true then some (.appZ e (sz + 1) by' z x y) else none
      | _, _, _ => none
    | none => none
  | .call ⟨.value (.func f), xs, ⟨ts⟩⟩ => if noBody P f then match xs, ts with
      | ⟨[x, y]⟩, [t, _] => some (.ovl f t x y)
      | _, _ => none
    else some (.call f xs.toList)
  | .call ⟨.value (.tmp t), xs, _⟩ => some (.callv (.tmp t) xs.toList)
  | _ => none

def slimG (ops : Array Oper) : Option (Nat × Bool) → Option (Option (Nat × Bool))
  | none => some none
  | some (j, b) => match ops[j]? with
    | some o => match o.dst with
      | some s => some (some (s, b))
      | none => none
    | none => none

def dsts : List SO → List Nat
  | [] => []
  | o :: r => match o.dst with
    | some d => d :: dsts r
    | none => dsts r

/-- No guard's slot is written at the guarded operation or behind it. -/
def gOK : List SO → Bool
  | [] => true
  | o :: r => (match o.g with
    | some (s, _) => !(dsts (o :: r)).contains s
    | none => true) && gOK r

def opdsOf : SOp → List Operand
  | .mov x => [x]
  | .pick c a b => [.tmp c, a, b]
  | .load1 x => [x]
  | .loadN _ x => [x]
  | .fld _ x => [x]
  | .idx _ x i => [x, i]
  | .idxA _ _ x i => [x, i]
  | .bin _ x y => [x, y]
  | .binB _ x y => [x, y]
  | .binA _ _ x y => [x, y]
  | .un _ x => [x]
  | .conv _ x => [x]
  | .ext x _ => [x]
  | .fval _ _ x => [x]
  | .len x => [x]
  | .mm _ x y => [x, y]
  | .mkfn _ caps => caps
  | .build _ ps => ps.map fun p => p.2.2
  | .slice _ x lo hi => x :: (lo.toList ++ hi.toList)
  | .slice3 _ x lo hi m => x :: m :: (lo.toList ++ hi.toList)
  | .clear _ _ _ x => [x]
  | .box _ x => [x]
  | .alloc _ _ => []
  | .store _ x v => [x, v]
  | .buildS _ _ _ _ ps => ps.map fun p => p.2
  | .app _ _ _ _ x y => [x, y]
  | .makeS _ _ _ _ x y => [x, y]
  | .isnil _ x => [x]
  | .makeM _ => []
  | .lookup _ _ x k => [x, k]
  | .mapUp x k v => [x, k, v]
  | .cap x => [x]
  | .copy _ x y => [x, y]
  | .appZ _ _ _ _ x n => [x, n]
  | .ovl f _ x y => [x, y, .func f]
  | .bad _ xs => xs
  | .call _ xs => xs
  | .callv x xs => x :: xs

def tmpsIn : List Operand → List Nat
  | [] => []
  | .tmp t :: r => t :: tmpsIn r
  | _ :: r => tmpsIn r

def tmpsOf (o : SO) : List Nat :=
  match o.g with
  | some (s, _) => s :: tmpsIn (opdsOf o.op)
  | none => tmpsIn (opdsOf o.op)

def waits (ops : Array Oper) (j i : Nat) : Bool :=
  match ops[j]? with
  | some o => o.after.toList.any fun e => Region.binds .any e && e.on == i
  | none => false

/-- The order of a region's operations is free as far as their slots go. -/
def drawOK (ops : Array Oper) (l : List SO) : Bool :=
  (List.range l.length).all fun j => match l[j]? with
    | none => true
    | some o =>
      (match ops[j]? with
        | some p => p.after.toList.all fun e => !Region.binds .any e || e.on < j
        | none => true) &&
      ((tmpsOf o).all fun t => (List.range l.length).all fun i => i == j || match l[i]? with
        | some p => p.dst != some t || (if i < j then waits ops j i else waits ops i j)
        | none => true) &&
      (match o.g with
        | none => true
        | some (s, _) => (List.range j).any fun i => match l[i]? with
          | some p => p.dst == some s
          | none => false) &&
      (match o.dst with
        | none => true
        | some d => (List.range l.length).all fun i => i == j || match l[i]? with
          | some p => p.dst != some d
          | none => true)

def dstOK (N : Nat) : Option Nat → Bool
  | some d => decide (d < N)
  | none => true

def slimOper (P : Program) (N : Nat) (ops : Array Oper) (o : Oper) : Option SO :=
  match slimG ops o.guard with
  | some g => if dstOK N o.dst then some ⟨o.dst, (slimO P o.op).getD (.bad o.op ((tmpsIn o.op.operands.toList).map .tmp)), g⟩ else none
  | none => none

/-- Operations whose place in an order matters; `hv`: the functions that count among them. -/
def isHeavy (hv : List Nat) : SOp → Bool
  | .call f _ => hv.contains f
  | .box _ _ => true
  | .alloc _ _ => true
  | .store _ _ _ => true
  | .app _ _ _ _ _ _ => true
  | .makeS _ _ _ _ _ _ => true
  | .clear _ _ _ _ => true
  | .makeM _ => true
  | .mapUp _ _ _ => true
  | .cap _ => true
  | .copy _ _ _ => true
  | .appZ _ _ _ _ _ _ => true
  | .bad _ _ => true
  | _ => false

def noG (l : List SO) : Bool := l.all fun o => o.g.isNone

def aftOf (ops : Array Oper) : List (List Nat) := ops.toList.map fun o => (o.after.toList.filter (Region.binds .any)).map (·.on)

/-! Copies that can be made ahead of all else. -/

def isCopy (o : Oper) : Bool :=
  o.guard.isNone && match o.op with
    | .move _ => true
    | .assign _ => true
    | _ => false

def canHoist (ops : Array Oper) (listed : Array Bool) (i : Nat) : Bool :=
  (match ops[i]? with
    | some o => isCopy o
    | none => false) && Region.free .any ops listed i && (Region.ready .any ops listed).contains i

def hoistOK (ops : Array Oper) : Array Bool → List Nat → Bool
  | _, [] => true
  | listed, i :: r => canHoist ops listed i && hoistOK ops (listed.setIfInBounds i true) r

/-- The copies, one after the other. -/
def hoists (ops : Array Oper) (listed : Array Bool) : List Nat → List Nat
  | [] => []
  | i :: r => if canHoist ops listed i then i :: hoists ops (listed.setIfInBounds i true) r else hoists ops listed r

def hoistsOf (ops : Array Oper) : List Nat :=
  if Region.noSelect ops && hoistOK ops (Array.replicate ops.size false) (hoists ops (Array.replicate ops.size false) (List.range ops.size)) then hoists ops (Array.replicate ops.size false) (List.range ops.size) else []

/-! Regions of which the last operations have one order alone. -/

def direct (ops : Array Oper) (j : Nat) : List Nat :=
  match ops[j]? with
  | some o => (o.after.toList.filter (Region.binds .any)).map (·.on)
  | none => []

def addNew (acc : List Nat) : List Nat → List Nat
  | [] => acc
  | x :: r => addNew (if acc.contains x then acc else x :: acc) r

def clos (ops : Array Oper) : Nat → List Nat → List Nat
  | 0, s => s
  | n + 1, s => clos ops n (addNew s (s.flatMap (direct ops)))

def tailOK (ops : Array Oper) (p : Nat) : Bool :=
  (List.range ops.size).all fun j => decide (j < p) || ((direct ops j).all (fun i => decide (i < j)) && (List.range j).all fun i => (clos ops 4 (direct ops j)).contains i)

def uniqDst (l : List SO) : Bool :=
  (List.range l.length).all fun j => match l[j]? with
    | none => true
    | some o => match o.dst with
      | none => true
      | some d => (List.range l.length).all fun i => i == j || match l[i]? with
        | some p => p.dst != some d
        | none => true

def firstHeavy (hv : List Nat) : List SO → Nat
  | [] => 0
  | o :: r => if isHeavy hv o.op then 0 else firstHeavy hv r + 1

def preOK (hv : List Nat) (ops : Array Oper) (l : List SO) : Bool :=
  decide (firstHeavy hv l ≤ ops.size) && noG (l.drop (firstHeavy hv l)) && drawOK ops (l.take (firstHeavy hv l)) && tailOK ops (firstHeavy hv l) && uniqDst l

/-- The functions that count as heavy in a region: those of the second list, where the region appends or calls one of the first list. -/
def eff (hv : List Nat × List Nat) (l : List SO) : List Nat :=
  if l.any fun o => match o.op with
    | .call f _ => hv.1.contains f
    | .app _ _ _ _ _ _ => true
    | _ => false
  then hv.2 else []

def slim (P : Program) (hv : List Nat × List Nat) (N : Nat) : Code → Option SC
  | .skip => some .skip
  | .ret => some .ret
  | .exit id => some (.exit id)
  | .region _ ops draw => match optList (ops.toList.map (slimOper P N ops)) with
    | some l => if draw && (l.any fun o => isHeavy (eff hv l) o.op) && preOK (eff hv l) ops l then some (.opsD (firstHeavy (eff hv l) l) l) else if draw && (l.any fun o => isHeavy (eff hv l) o.op) && noG l then some (.opsA (hoistsOf ops) l (aftOf ops)) else if gOK l && (!draw || drawOK ops l) then some (.ops draw l) else none
    | none => none
  | .seq a b => match slim P hv N a, slim P hv N b with
    | some a, some b => some (.seq a b)
    | _, _ => none
  | .cond c a b => match slim P hv N a, slim P hv N b with
    | some a, some b => some (.cond c a b)
    | _, _ => none
  | .block id b => match slim P hv N b with
    | some b => some (.block id b)
    | none => none
  | .loop b => match slim P hv N b with
    | some b => some (.loop b)
    | none => none
  | c => some (.raw c)

end Go.Sx

namespace Go.Sx
open Go Go.RowKit

theorem Den.mono {w w' : World} {M M' : Nat → Prop} {s : SV} {v : Value} (h : Den w M s v) (hs : w.heap.size ≤ w'.heap.size)
    (hM : ∀ b, b < w.heap.size → M' b → M b) (hc : ∀ (a : Addr) u, a.block < w.heap.size → ¬ M a.block → w.cell? a = some u → w'.cell? a = some u) : Den w' M' s v := by
  induction h with
  | int k n => exact .int k n
  | bool b => exact .bool b
  | val v => exact .val v
  | agg cs vs hl h1 _ ih => exact .agg cs vs hl h1 ih
  | tup cs vs hl _ ih => exact .tup cs vs hl ih
  | ref cs off b o val hM1 hb h1 hcell _ ih =>
    exact .ref cs off b o val (fun h => hM1 (hM b hb h)) (Nat.lt_of_lt_of_le hb hs) h1 (fun i s hi => hc ⟨b, o + i, none⟩ _ hb hM1 (hcell i s hi)) ih
  | lst sz n get A c b o val hc1 hm hA hM1 hb hz h1 hcell _ ih =>
    refine .lst sz n get A c b o val hc1 hm hA (fun h0 h => hM1 h0 (hM b (hb h0) h)) (fun h0 => Nat.lt_of_lt_of_le (hb h0) hs) hz h1 (fun i j s hi hj => ?_) ih
    have h0 : 0 < n := by omega
    exact hc ⟨b, o + (i * sz + j), none⟩ _ (hb h0) (hM1 h0) (hcell i j s hi hj)
  | fn f cs vs hl _ ih => exact .fn f cs vs hl ih

theorem Den.kept {w w' : World} {M : Nat → Prop} {s : SV} {v : Value} (h : Den w M s v) (hb : Below w.heap.size w w') : Den w' M s v :=
  h.mono hb.size (fun _ _ h => h) (fun a u ha _ hc => by rw [hb.cell ha]; exact hc)

theorem Den.less {w : World} {M M' : Nat → Prop} {s : SV} {v : Value} (h : Den w M s v) (hM : ∀ b, b < w.heap.size → M' b → M b) : Den w M' s v :=
  h.mono (Nat.le_refl _) hM (fun _ _ _ _ h => h)

theorem Ext.refl (M : Nat → Prop) (w : World) : Ext M w w := ⟨rfl, rfl, rfl, Nat.le_refl _, fun _ _ _ => rfl⟩
theorem Ext.trans_below {M : Nat → Prop} {a b c : World} (h : Ext M a b) (k : Below b.heap.size b c) : Ext M a c :=
  ⟨k.os.trans h.os, k.tape.trans h.tape, k.output.trans h.output, Nat.le_trans h.size k.size, fun i hi hn => (k.block i (Nat.lt_of_lt_of_le hi h.size)).trans (h.block i hi hn)⟩
theorem Ext.below {a b : World} (h : Ext (fun _ => False) a b) : Below a.heap.size a b := ⟨h.os, h.tape, h.output, h.size, fun k hk => h.block k hk (fun x => x)⟩
theorem Base.own_new {B : Base} {M : Nat → Prop} {w : World} (h : Ext M B.w w) {b : Nat} (hb : w.heap.size ≤ b) : B.own b := .inl (Nat.le_trans h.size hb)

theorem Ext.of_below {M : Nat → Prop} {w w' : World} (h : Below w.heap.size w w') : Ext M w w' := ⟨h.os, h.tape, h.output, h.size, fun k hk _ => h.block k hk⟩

theorem Den.ext {w w' : World} {M M' : Nat → Prop} {s : SV} {v : Value} (h : Den w M s v) (he : Ext M w w') (hM : ∀ b, b < w.heap.size → M' b → M b) : Den w' M' s v :=
  h.mono he.size hM (fun a u ha hn hc => by rw [World.cell?_of_block (w := w) (he.block a.block ha hn)]; exact hc)

theorem noMem_den_list {w w' : World} {M M' : Nat → Prop} (l : List SV) (ih : ∀ s ∈ l, noMem s = true → ∀ v, Den w M s v → Den w' M' s v) (h : noMem.noMems l = true) :
    ∀ (i : Nat) s v, l[i]? = some s → Den w M s v → Den w' M' s v := by
  induction l with
  | nil => intro i s v hi; simp at hi
  | cons x r ihr =>
    intro i s v hi hd
    simp only [noMem.noMems, Bool.and_eq_true] at h
    cases i with
    | zero => simp at hi; subst hi; exact ih x (by simp) h.1 v hd
    | succ i => exact ihr (fun s hs => ih s (by simp [hs])) h.2 i s v (by simpa using hi) hd

theorem noMem_den {w w' : World} {M M' : Nat → Prop} : ∀ (s : SV), noMem s = true → ∀ v, Den w M s v → Den w' M' s v
  | .int k n, _, v, h => by cases h; exact .int k n
  | .bool b, _, v, h => by cases h; exact .bool b
  | .val u, _, v, h => by cases h; exact .val u
  | .tup l, hn, v, h => by
    cases h with
    | tup _ vs hl hh =>
      simp only [noMem] at hn
      exact .tup l vs hl fun i s v hi hv => noMem_den_list l (fun s hs hns v hd => noMem_den s hns v hd) hn i s v hi (hh i s v hi hv)
  | .agg l, hn, v, h => by
    cases h with
    | agg _ vs hl h1 hh =>
      simp only [noMem] at hn
      exact .agg l vs hl h1 fun i s v hi hv => noMem_den_list l (fun s hs hns v hd => noMem_den s hns v hd) hn i s v hi (hh i s v hi hv)
  | .ref .., hn, _, _ => by simp [noMem] at hn
  | .lst .., hn, _, _ => by simp [noMem] at hn
  | .fn .., hn, _, _ => by simp [noMem] at hn

/-! Blocks under a change of the world. -/

theorem AllOne.xs {w : World} {base : Nat} {e : TypeId} {sz n : Nat} {v : Value} {xs : List Value} (h : AllOne w v) (ho : w.ownsRow base e sz v n xs) : ∀ u ∈ xs, u.oneCell' = true := by
  obtain ⟨hl, ho⟩ := ho
  rcases ho with ⟨rfl, rfl⟩ | ⟨g, cap, cur, rfl, hg, hh, hnc, hcm, hcur, htake⟩
  · have hx : xs = [] := List.eq_nil_of_length_eq_zero (by simpa using hl)
    subst hx
    intro u hu
    simp at hu
  · intro u hu
    rw [← htake] at hu
    exact h g cur e (0, 0) rfl hh u (List.mem_of_mem_take hu)

theorem AllOne.nil {w : World} : AllOne w (.slice none 0 0) := fun g _ _ _ h => by cases h
theorem AllOne.of_heap {w : World} {v : Value} {g : Nat} {cur : Array Value} {t : TypeId} {fr : Nat × Nat} (hv : blkNo v = some g) (hh : w.heap[g]? = some (.cells cur t fr)) (h : ∀ u ∈ cur.toList, u.oneCell' = true) : AllOne w v := by
  intro g' cur' t' fr' hg' hh' u hu
  rw [hv] at hg'
  injection hg' with hg'
  subst hg'
  rw [hh] at hh'
  simp only [Option.some.injEq, Obj.cells.injEq] at hh'
  exact h u (hh'.1 ▸ hu)

theorem BlkOK.ext {w w' : World} {M M' : Nat → Prop} {base : Nat} {k : Blk} {v : Value} (h : BlkOK w M base k v) (he : Ext M w w') (hM : ∀ b, b < w.heap.size → M' b → M b)
    (hb : ∀ b, blkNo v = some b → w'.heap[b]? = w.heap[b]?) : BlkOK w' M' base k v := by
  cases k with
  | cells t mu cs =>
    obtain ⟨b, vs, rfl, h0, hh, hl, h1, hd⟩ := h
    exact ⟨b, vs, rfl, h0, (hb b rfl).trans hh, hl, h1, fun i s u hi hu => (hd i s u hi hu).ext he hM⟩
  | row t sz n mu get =>
    obtain ⟨xs, ho, hz, h1, hd⟩ := h
    refine ⟨xs, ?_, hz, fun g cur t' fr hg hh => h1 g cur t' fr hg ((hb g hg).symm.trans hh), fun i j s u hi hj hu => (hd i j s u hi hj hu).ext he hM⟩
    obtain ⟨hl, ho⟩ := ho
    refine ⟨hl, ?_⟩
    rcases ho with ho | ⟨g, cap, cur, rfl, hg, hh, r⟩
    · exact .inl ho
    · exact .inr ⟨g, cap, cur, rfl, hg, (hb g rfl).trans hh, r⟩
  | map z keys get =>
    obtain ⟨b, es, clock, rfl, hh, h1, h2, h3, h4, h5, h6⟩ := h
    exact ⟨b, es, clock, rfl, (hb b rfl).trans hh, h1, h2, h3, h4, fun i k e hk he' => (h5 i k e hk he').ext he hM, fun k hk => (h6 k hk).ext he hM⟩
  | dead => trivial
  | sem S => exact S.ext _ _ _ _ _ h he hM hb

/-- Whatever leaves all blocks that were there alone keeps the invariant. -/
theorem Inv.keep {w0 : Base} {M0 : Nat → Prop} {L : Nat → Value} {tb : List Blk} {w w' : World} (h : Inv w0 M0 L tb w) (hb : Below w.heap.size w w') : Inv w0 M0 L tb w' where
  below := h.below.trans_below hb
  ok i k hi := (h.ok i k hi).ext (.of_below hb) (fun _ _ h => h) (fun b hbn => hb.block b (by
    have hl : i < tb.length := (List.getElem?_eq_some_iff.1 hi).1
    exact (h.low i b hl hbn).2))
  apart := h.apart
  low i b hi hbn := ⟨(h.low i b hi hbn).1, Nat.lt_of_lt_of_le (h.low i b hi hbn).2 hb.size⟩

theorem LDen.keep {G : Nat → Option Bool} {w w' : World} {M : Nat → Prop} {L : Nat → Value} {tb : List Blk} (hb : Below w.heap.size w w') : ∀ (x : LV) (v : Value), LDen G w M L tb x v → LDen G w' M L tb x v
  | .any, _, _ => trivial
  | .sv _, _, h => Den.kept h hb
  | .ptr .., _, h => h
  | .rp .., _, h => h
  | .own .., _, h => h
  | .part .., _, h => h
  | .exact .., _, h => h
  | .isv .., _, h => h
  | .opt _ _ x, v, h => ⟨fun hg => LDen.keep hb x v (h.1 hg), h.2⟩

/-- A change of the table, of the handles and of the world that keeps what a slot says. -/
theorem LDen.turn {G : Nat → Option Bool} {w w' : World} {M M' : Nat → Prop} {L L' : Nat → Value} {tb tb' : List Blk} (hd : ∀ s v, Den w M s v → Den w' M' s v)
    (hL : ∀ i, i < tb.length → L' i = L i) (hlen : tb.length ≤ tb'.length)
    (hrow : ∀ (i : Nat) t sz n mu get, tb[i]? = some (.row t sz n mu get) → ∃ t' mu' get', tb'[i]? = some (.row t' sz n mu' get')) :
    ∀ (x : LV) (v : Value), LDen G w M L tb x v → LDen G w' M' L' tb' x v
  | .any, _, _ => trivial
  | .sv _, _, h => hd _ _ h
  | .ptr i _, _, ⟨hi, b, hl, hv⟩ => ⟨Nat.lt_of_lt_of_le hi hlen, b, (hL i hi).trans hl, hv⟩
  | .rp i k off, _, ⟨b, n, c, t, sz, mu, get, ht, hl, hk, hv⟩ => by
    obtain ⟨t', mu', get', h'⟩ := hrow i t sz n mu get ht
    have hi : i < tb.length := (List.getElem?_eq_some_iff.1 ht).1
    exact ⟨b, n, c, t', sz, mu', get', h', (hL i hi).trans hl, hk, hv⟩
  | .own i, _, ⟨hi, hv⟩ => ⟨Nat.lt_of_lt_of_le hi hlen, hv.trans (hL i hi).symm⟩
  | .part i lo hi, _, ⟨n, t, sz, mu, get, ht, h1, h2, h3⟩ => by
    obtain ⟨t', mu', get', h'⟩ := hrow i t sz n mu get ht
    have hi : i < tb.length := (List.getElem?_eq_some_iff.1 ht).1
    refine ⟨n, t', sz, mu', get', h', h1, h2, ?_⟩
    rw [hL i hi]
    exact h3
  | .exact i, _, ⟨hi, A, n, h⟩ => ⟨Nat.lt_of_lt_of_le hi hlen, A, n, (hL i hi).trans h⟩
  | .isv i v, _, ⟨hi, h⟩ => ⟨Nat.lt_of_lt_of_le hi hlen, (hL i hi).trans h⟩
  | .opt _ _ x, v, h => ⟨fun hg => LDen.turn hd hL hlen hrow x v (h.1 hg), h.2⟩

end Go.Sx

namespace Go.Sx
open Go Go.RowKit

def upd (L : Nat → Value) (i : Nat) (v : Value) (j : Nat) : Value := if j = i then v else L j

theorem upd_same (L : Nat → Value) (i : Nat) (v : Value) : upd L i v i = v := by simp [upd]
theorem upd_other (L : Nat → Value) (i j : Nat) (v : Value) (h : j ≠ i) : upd L i v j = L j := by simp [upd, h]

section
variable {w0 : Base} {M0 : Nat → Prop} {L : Nat → Value} {tb : List Blk} {w w' : World}

theorem mset_push {k : Blk} {v : Value} (hf : ∀ b, blkNo v = some b → w.heap.size ≤ b) : ∀ b, b < w.heap.size → mset M0 (tb ++ [k]) (upd L tb.length v) b → mset M0 tb L b := by
  intro b hb h
  rcases h with h | ⟨i, k', hi, hk, hn⟩
  · exact .inl h
  · rw [List.getElem?_append] at hi
    split at hi
    · rename_i hlt
      rw [upd_other _ _ _ _ (by omega)] at hn
      exact .inr ⟨i, k', hi, hk, hn⟩
    · rename_i hge
      have : i = tb.length := by
        have := (List.getElem?_eq_some_iff.1 hi).1
        simp at this; omega
      subst this
      rw [upd_same] at hn
      have := hf b hn
      omega

/-- A new block of the call's own. -/
theorem Inv.push (h : Inv w0 M0 L tb w) (hb : Below w.heap.size w w') {k : Blk} {v : Value} (hf : ∀ b, blkNo v = some b → w.heap.size ≤ b ∧ b < w'.heap.size)
    (hk : BlkOK w' (mset M0 (tb ++ [k]) (upd L tb.length v)) 0 k v) : Inv w0 M0 (upd L tb.length v) (tb ++ [k]) w' where
  below := h.below.trans_below hb
  ok i k' hi := by
    rw [List.getElem?_append] at hi
    split at hi
    · rename_i hlt
      rw [upd_other _ _ _ _ (by omega)]
      exact (h.ok i k' hi).ext (.of_below hb) (mset_push fun b hbn => (hf b hbn).1) (fun b hbn => hb.block b (h.low i b hlt hbn).2)
    · rename_i hge
      have hi' := hi
      have : i = tb.length := by
        have := (List.getElem?_eq_some_iff.1 hi).1
        simp at this; omega
      subst this
      simp at hi'
      subst hi'
      rw [upd_same]
      exact hk
  apart i j b hi hj hbi hbj := by
    simp at hi hj
    have key : ∀ i, i < tb.length → blkNo (L i) = some b → blkNo v = some b → False := fun i hi h1 h2 => by
      have := (h.low i b hi h1).2
      have := (hf b h2).1
      omega
    by_cases e1 : i = tb.length <;> by_cases e2 : j = tb.length
    · omega
    · subst e1; rw [upd_same] at hbi; rw [upd_other _ _ _ _ e2] at hbj; exact (key j (by omega) hbj hbi).elim
    · subst e2; rw [upd_same] at hbj; rw [upd_other _ _ _ _ e1] at hbi; exact (key i (by omega) hbi hbj).elim
    · rw [upd_other _ _ _ _ e1] at hbi; rw [upd_other _ _ _ _ e2] at hbj; exact h.apart i j b (by omega) (by omega) hbi hbj
  low i b hi hbi := by
    simp at hi
    by_cases e1 : i = tb.length
    · subst e1; rw [upd_same] at hbi; exact ⟨Base.own_new h.below (hf b hbi).1, (hf b hbi).2⟩
    · rw [upd_other _ _ _ _ e1] at hbi
      have := h.low i b (by omega) hbi
      exact ⟨this.1, Nat.lt_of_lt_of_le this.2 hb.size⟩

theorem mset_set {i : Nat} {k k' : Blk} {v : Value} (hi : tb[i]? = some k) (hm : k.mut = true) (hf : ∀ b, blkNo v = some b → blkNo (L i) = some b ∨ w.heap.size ≤ b) :
    ∀ b, b < w.heap.size → mset M0 (tb.set i k') (upd L i v) b → mset M0 tb L b := by
  intro b hb h
  rcases h with h | ⟨j, k'', hj, hk, hn⟩
  · exact .inl h
  · by_cases e : j = i
    · subst e
      rw [upd_same] at hn
      rcases hf b hn with h1 | h1
      · exact .inr ⟨j, k, hi, hm, h1⟩
      · omega
    · rw [upd_other _ _ _ _ e] at hn
      rw [List.getElem?_set_ne (by omega)] at hj
      exact .inr ⟨j, k'', hj, hk, hn⟩

/-- A block of the call's own that may be written turns. -/
theorem Inv.set (h : Inv w0 M0 L tb w) {i : Nat} {k k' : Blk} {v : Value} (hi : tb[i]? = some k) (hm : k.mut = true) (hg : w.grownBy w' (blkNo (L i)))
    (hf : ∀ b, blkNo v = some b → (blkNo (L i) = some b ∨ w.heap.size ≤ b) ∧ b < w'.heap.size)
    (hk : BlkOK w' (mset M0 (tb.set i k') (upd L i v)) 0 k' v) : Inv w0 M0 (upd L i v) (tb.set i k') w' ∧ Ext (mset M0 tb L) w w' := by
  have hlt : i < tb.length := (List.getElem?_eq_some_iff.1 hi).1
  have hex : Ext (mset M0 tb L) w w' := ⟨hg.os, hg.tape, hg.output, hg.size, fun b hb hn => hg.block b hb (fun e => hn (.inr ⟨i, k, hi, hm, e.symm⟩))⟩
  refine ⟨{ below := ?_, ok := ?_, apart := ?_, low := ?_ }, hex⟩
  · refine ⟨hg.os.trans h.below.os, hg.tape.trans h.below.tape, hg.output.trans h.below.output, Nat.le_trans h.below.size hg.size, fun b hb hX => (hg.block b (Nat.lt_of_lt_of_le hb h.below.size) (fun e => ?_)).trans (h.below.block b hb hX)⟩
    rcases (h.low i b hlt e.symm).1 with h1 | h1
    · omega
    · exact hX h1
  · intro j k'' hj
    by_cases e : j = i
    · subst e
      rw [List.getElem?_set_self hlt] at hj
      injection hj with hj
      subst hj
      rw [upd_same]
      exact hk
    · rw [List.getElem?_set_ne (by omega)] at hj
      rw [upd_other _ _ _ _ e]
      have hjl : j < tb.length := (List.getElem?_eq_some_iff.1 hj).1
      refine (h.ok j k'' hj).ext hex (mset_set hi hm fun b hb => (hf b hb).1) (fun b hbn => hg.block b (h.low j b hjl hbn).2 (fun e' => ?_))
      exact e (h.apart j i b hjl hlt hbn e'.symm)
  · intro a b c ha hb hca hcb
    simp at ha hb
    have key : ∀ j, j < tb.length → j ≠ i → blkNo (L j) = some c → blkNo v = some c → False := fun j hj hne h1 h2 => by
      rcases (hf c h2).1 with h3 | h3
      · exact hne (h.apart j i c hj hlt h1 h3)
      · have := (h.low j c hj h1).2; omega
    by_cases e1 : a = i <;> by_cases e2 : b = i
    · omega
    · subst e1; rw [upd_same] at hca; rw [upd_other _ _ _ _ e2] at hcb; exact (key b hb e2 hcb hca).elim
    · subst e2; rw [upd_same] at hcb; rw [upd_other _ _ _ _ e1] at hca; exact (key a ha e1 hca hcb).elim
    · rw [upd_other _ _ _ _ e1] at hca; rw [upd_other _ _ _ _ e2] at hcb; exact h.apart a b c ha hb hca hcb
  · intro j b hj hb
    simp at hj
    by_cases e : j = i
    · subst e
      rw [upd_same] at hb
      refine ⟨?_, (hf b hb).2⟩
      rcases (hf b hb).1 with h1 | h1
      · exact (h.low j b hj h1).1
      · exact Base.own_new h.below h1
    · rw [upd_other _ _ _ _ e] at hb
      have := h.low j b hj hb
      exact ⟨this.1, Nat.lt_of_lt_of_le this.2 hg.size⟩

/-! Freezing. -/

theorem mset_frzAt (i : Nat) : ∀ b, mset M0 (frzAt tb i) L b → mset M0 tb L b := by
  intro b h
  rcases h with h | ⟨j, k, hj, hk, hn⟩
  · exact .inl h
  · unfold frzAt at hj
    cases hi : tb[i]? with
    | none => rw [hi] at hj; exact .inr ⟨j, k, hj, hk, hn⟩
    | some k' =>
      rw [hi] at hj
      by_cases e : j = i
      · subst e
        have hlt : j < tb.length := (List.getElem?_eq_some_iff.1 hi).1
        simp only [List.getElem?_set_self hlt] at hj
        injection hj with hj
        subst hj
        cases k' with
        | map z keys get => exact .inr ⟨j, _, hi, rfl, hn⟩
        | sem S => exact .inr ⟨j, _, hi, hk, hn⟩
        | _ => simp [freeze, Blk.mut] at hk
      · simp only [List.getElem?_set_ne (Ne.symm e)] at hj
        exact .inr ⟨j, k, hj, hk, hn⟩

theorem frzAt_length (tb : List Blk) (i : Nat) : (frzAt tb i).length = tb.length := by
  unfold frzAt; split <;> simp

theorem frzAt_get {i j : Nat} {k : Blk} (h : (frzAt tb i)[j]? = some k) : ∃ k', tb[j]? = some k' ∧ (k = k' ∨ k = freeze k') := by
  unfold frzAt at h
  cases hi : tb[i]? with
  | none => rw [hi] at h; exact ⟨k, h, .inl rfl⟩
  | some k' =>
    rw [hi] at h
    by_cases e : j = i
    · subst e
      have hlt : j < tb.length := (List.getElem?_eq_some_iff.1 hi).1
      simp only [List.getElem?_set_self hlt] at h
      injection h with h
      exact ⟨k', hi, .inr h.symm⟩
    · simp only [List.getElem?_set_ne (Ne.symm e)] at h
      exact ⟨k, h, .inl rfl⟩

theorem frzAt_row {i j : Nat} {t : TypeId} {sz n : Nat} {mu : Bool} {get : Nat → List SV} (h : tb[j]? = some (.row t sz n mu get)) : ∃ mu', (frzAt tb i)[j]? = some (.row t sz n mu' get) := by
  unfold frzAt
  cases hi : tb[i]? with
  | none => exact ⟨mu, h⟩
  | some k' =>
    by_cases e : j = i
    · subst e
      have hlt : j < tb.length := (List.getElem?_eq_some_iff.1 hi).1
      rw [h] at hi
      injection hi with hi
      subst hi
      exact ⟨false, by simp [List.getElem?_set_self hlt, freeze]⟩
    · exact ⟨mu, by simp only [List.getElem?_set_ne (Ne.symm e)]; exact h⟩

theorem BlkOK.freeze {M M' : Nat → Prop} {base : Nat} {k : Blk} {v : Value} (h : BlkOK w M base k v) (hM : ∀ b, M' b → M b) : BlkOK w M' base (freeze k) v := by
  cases k with
  | cells t mu cs => obtain ⟨b, vs, h1, h2, h3, h4, h5, h6⟩ := h; exact ⟨b, vs, h1, h2, h3, h4, h5, fun i s u hi hu => (h6 i s u hi hu).less fun b _ => hM b⟩
  | row t sz n mu get => obtain ⟨xs, h1, h2, h3, h4⟩ := h; exact ⟨xs, h1, h2, h3, fun i j s u hi hj hu => (h4 i j s u hi hj hu).less fun b _ => hM b⟩
  | map z keys get => obtain ⟨b, es, clock, h1, h2, h3, h4, h5, h6, h7, h8⟩ := h; exact ⟨b, es, clock, h1, h2, h3, h4, h5, h6, fun i k e hk he => (h7 i k e hk he).less fun b _ => hM b, fun k hk => (h8 k hk).less fun b _ => hM b⟩
  | dead => trivial
  | sem S => exact S.ext _ _ _ _ _ h (Ext.refl _ _) (fun b _ => hM b) (fun _ _ => rfl)

theorem BlkOK.less {M M' : Nat → Prop} {base : Nat} {k : Blk} {v : Value} (h : BlkOK w M base k v) (hM : ∀ b, M' b → M b) : BlkOK w M' base k v := by
  cases k with
  | cells t mu cs => obtain ⟨b, vs, h1, h2, h3, h4, h5, h6⟩ := h; exact ⟨b, vs, h1, h2, h3, h4, h5, fun i s u hi hu => (h6 i s u hi hu).less fun b _ => hM b⟩
  | row t sz n mu get => obtain ⟨xs, h1, h2, h3, h4⟩ := h; exact ⟨xs, h1, h2, h3, fun i j s u hi hj hu => (h4 i j s u hi hj hu).less fun b _ => hM b⟩
  | map z keys get => obtain ⟨b, es, clock, h1, h2, h3, h4, h5, h6, h7, h8⟩ := h; exact ⟨b, es, clock, h1, h2, h3, h4, h5, h6, fun i k e hk he => (h7 i k e hk he).less fun b _ => hM b, fun k hk => (h8 k hk).less fun b _ => hM b⟩
  | dead => trivial
  | sem S => exact S.ext _ _ _ _ _ h (Ext.refl _ _) (fun b _ => hM b) (fun _ _ => rfl)

theorem Inv.frzAt (h : Inv w0 M0 L tb w) (i : Nat) : Inv w0 M0 L (frzAt tb i) w where
  below := h.below
  ok j k hj := by
    obtain ⟨k', hk', e⟩ := frzAt_get hj
    rcases e with rfl | rfl
    · exact (h.ok j _ hk').less (mset_frzAt i)
    · exact (h.ok j _ hk').freeze (mset_frzAt i)
  apart a b c ha hb := h.apart a b c (by rwa [frzAt_length] at ha) (by rwa [frzAt_length] at hb)
  low a b ha := h.low a b (by rwa [frzAt_length] at ha)

/-- A table that is frozen in part. -/
structure Frz (tb tb' : List Blk) : Prop where
  len : tb'.length = tb.length
  mset : ∀ (M0 : Nat → Prop) L b, mset M0 tb' L b → mset M0 tb L b
  row : ∀ (i : Nat) t sz n mu get, tb[i]? = some (.row t sz n mu get) → ∃ mu', tb'[i]? = some (.row t sz n mu' get)
  inv : ∀ w0 M0 L w, Inv w0 M0 L tb w → Inv w0 M0 L tb' w

theorem Frz.refl (tb : List Blk) : Frz tb tb := ⟨rfl, fun _ _ _ h => h, fun _ _ _ _ mu _ h => ⟨mu, h⟩, fun _ _ _ _ h => h⟩
theorem Frz.trans {a b c : List Blk} (h : Frz a b) (k : Frz b c) : Frz a c :=
  ⟨k.len.trans h.len, fun M0 L b' hb => h.mset _ _ _ (k.mset M0 L b' hb), fun i t sz n mu get hi => by obtain ⟨mu', h'⟩ := h.row i t sz n mu get hi; exact k.row i t sz n mu' get h',
    fun w0 M0 L w hi => k.inv _ _ _ _ (h.inv w0 M0 L w hi)⟩
theorem Frz.at (tb : List Blk) (i : Nat) : Frz tb (Sx.frzAt tb i) :=
  ⟨frzAt_length tb i, fun _ _ => mset_frzAt i, fun _ _ _ _ _ _ h => frzAt_row h, fun _ _ _ _ h => h.frzAt i⟩
theorem Frz.frz (tb : List Blk) (x : LV) : Frz tb (frz tb x) := by
  cases x <;> first | exact Frz.refl _ | exact Frz.at _ _
theorem Frz.all (xs : List LV) : ∀ tb : List Blk, Frz tb (frzAll tb xs) := by
  induction xs with
  | nil => exact fun tb => Frz.refl tb
  | cons x r ih => exact fun tb => (Frz.frz tb x).trans (ih _)
theorem Frz.own (tb : List Blk) (x : LV) : Frz tb (frzOwn tb x) := by
  cases x <;> first | exact Frz.refl _ | exact Frz.at _ _
theorem Frz.owns (xs : List LV) : ∀ tb : List Blk, Frz tb (frzOwns tb xs) := by
  induction xs with
  | nil => exact fun tb => Frz.refl tb
  | cons x r ih => exact fun tb => (Frz.own tb x).trans (ih _)

/-! Frozen blocks as values. -/

theorem not_mset {i : Nat} {k : Blk} {b : Nat} (h : Inv w0 M0 L tb w) (hM0 : Safe w0 M0) (hi : tb[i]? = some k) (hm : k.mut = false) (hb : blkNo (L i) = some b) : ¬ mset M0 tb L b := by
  have hlt : i < tb.length := (List.getElem?_eq_some_iff.1 hi).1
  rintro (h1 | ⟨j, k', hj, hk', hn⟩)
  · have h2 := hM0 b h1
    rcases (h.low i b hlt hb).1 with h3 | h3
    · omega
    · exact h2.2 h3
  · have hjl : j < tb.length := (List.getElem?_eq_some_iff.1 hj).1
    have := h.apart i j b hlt hjl hb hn
    subst this
    rw [hi] at hj
    injection hj with hj
    subst hj
    rw [hm] at hk'
    cases hk'

theorem den_of_row {M : Nat → Prop} {base t sz n : Nat} {mu : Bool} {get : Nat → List SV} {v : Value} (h : BlkOK w M base (.row t sz n mu get) v) (hn : ∀ b, blkNo v = some b → ¬ M b) :
    Den w M (.lst sz n get) v := by
  obtain ⟨xs, ⟨hl, ho⟩, hz, h1a, hd⟩ := h
  have h1 := h1a.xs ⟨hl, ho⟩
  rcases ho with ⟨rfl, rfl⟩ | ⟨g, cap, cur, rfl, hg, hh, hnc, hcm, hcur, htake⟩
  · exact .lst sz 0 get none 0 0 0 (fun _ _ => undef) (Nat.le_refl _) (by simp [maxLen]) (fun h => by omega) (fun h => by omega) (fun h => by omega) hz (fun _ _ _ h => by omega) (fun _ _ _ h => by omega) (fun _ _ _ h => by omega)
  · have hlen : ∀ i j s, i < n → (get i)[j]? = some s → i * sz + j < xs.length := by
      intro i j s hi hj
      have := hz i hi
      have hj' := (List.getElem?_eq_some_iff.1 hj).1
      rw [hl]
      calc i * sz + j < i * sz + sz := by omega
        _ = (i + 1) * sz := by rw [Nat.succ_mul]
        _ ≤ n * sz := Nat.mul_le_mul_right _ (by omega)
    have hx : ∀ i j s, i < n → (get i)[j]? = some s → xs[i * sz + j]? = some (xs.getD (i * sz + j) undef) := by
      intro i j s hi hj
      have := hlen i j s hi hj
      simp [List.getD, this]
    have hgl : g < w.heap.size := by
      rcases Nat.lt_or_ge g w.heap.size with h | h
      · exact h
      · rw [Array.getElem?_eq_none h] at hh; cases hh
    refine .lst sz n get _ cap g 0 (fun i j => xs.getD (i * sz + j) undef) hnc hcm (fun _ => rfl) (fun _ => hn g rfl) (fun _ => hgl) hz ?_ ?_ ?_
    · intro i j s hi hj
      exact h1 _ (List.mem_of_getElem? (hx i j s hi hj))
    · intro i j s hi hj
      have hx' := hx i j s hi hj
      rw [← htake] at hx'
      have h2 := hlen i j s hi hj
      rw [hl] at h2
      rw [List.getElem?_take_of_lt h2] at hx'
      simp only [World.cell?, hh, Nat.zero_add]
      simpa [htake] using hx'
    · intro i j s hi hj
      exact hd i j s _ hi hj (hx i j s hi hj)

theorem den_of_cells {M : Nat → Prop} {base t off : Nat} {mu : Bool} {cs : List SV} {b : Nat} (h : BlkOK w M base (.cells t mu cs) (.pointer (some ⟨b, 0, none⟩))) (hn : ¬ M b) :
    Den w M (.ref cs off) (.pointer (some ⟨b, off, none⟩)) := by
  obtain ⟨b', vs, hv, _, hh, hl, h1, hd⟩ := h
  injection hv with hv
  injection hv with hv
  injection hv with hv _
  subst hv
  have hx : ∀ i s, cs[i]? = some s → vs[i]? = some (vs.getD i undef) := by
    intro i s hi
    have := (List.getElem?_eq_some_iff.1 hi).1
    rw [hl] at this
    simp [Array.getD, this]
  have hgl : b < w.heap.size := by
    rcases Nat.lt_or_ge b w.heap.size with h | h
    · exact h
    · rw [Array.getElem?_eq_none h] at hh; cases hh
  have := Den.ref (w := w) (M := M) cs off b 0 (fun i => vs.getD i undef) hn hgl (fun i s hi => h1 i _ (hx i s hi)) (fun i s hi => by simp only [World.cell?, hh, Nat.zero_add]; exact hx i s hi) (fun i s hi => hd i s _ hi (hx i s hi))
  simpa using this

theorem shut_den {G : Nat → Option Bool} (h : Inv w0 M0 L tb w) (hM0 : Safe w0 M0) {x : LV} {s : SV} {v : Value} (hs : shut tb x = some s) (hd : LDen G w (mset M0 tb L) L tb x v) : Den w (mset M0 tb L) s v := by
  cases x with
  | sv s' => simp [shut] at hs; subst hs; exact hd
  | own i =>
    simp only [shut] at hs
    split at hs
    · rename_i t sz n get hi
      injection hs with hs
      subst hs
      obtain ⟨_, rfl⟩ := hd
      exact den_of_row (h.ok i _ hi) fun b hb => not_mset h hM0 hi rfl hb
    · cases hs
  | ptr i off =>
    simp only [shut] at hs
    split at hs
    · rename_i t cs hi
      injection hs with hs
      subst hs
      obtain ⟨_, b, hl, rfl⟩ := hd
      have hok := h.ok i _ hi
      rw [hl] at hok
      exact den_of_cells hok (not_mset h hM0 hi rfl (by rw [hl]; rfl))
    · cases hs
  | any => simp [shut] at hs
  | rp => simp [shut] at hs
  | part => simp [shut] at hs
  | opt => simp [shut] at hs
  | exact => simp [shut] at hs
  | isv => simp [shut] at hs
end
end Go.Sx

namespace Go.Sx
open Go Go.RowKit

theorem add_none (b o j : Nat) : (⟨b, o, none⟩ : Addr).add j = ⟨b, o + j, none⟩ := by
  unfold Addr.add; split
  · rename_i h; subst h; rfl
  · rfl

section
variable {P : Program} {w : World}

theorem run_isAgg {t : TypeId} {b : Bool} (h : isAgg? P t = some b) : (isAgg t).run P w = .ok b w := by
  unfold isAgg? at h
  cases hu : P.underlying t with
  | none => rw [hu] at h; cases h
  | some d =>
    rw [hu] at h
    cases d <;> simp at h <;> subst h <;> simp [isAgg, underlying, hu, program, Sem.run]

theorem run_sizeOf {t : TypeId} {n : Nat} (h : sizeOf? P t = some n) : (sizeOf t).run P w = .ok n w := by
  unfold sizeOf? at h
  cases hu : P.info? t with
  | none => rw [hu] at h; cases h
  | some d => rw [hu] at h; simp at h; subst h; simp [sizeOf, typeInfo, hu, program, Sem.run]

theorem run_under {t : TypeId} {d : TypeDesc} (h : P.underlying t = some d) : (underlying t).run P w = .ok d w := by
  simp [underlying, h, program, Sem.run]

theorem run_zero {t : TypeId} {z : List Value} (h : zeroOf P t = some z) : ∃ v, (zeroValue t).run P w = .ok v w ∧ v.cells.toList = z ∧ ∀ u ∈ z, u.oneCell' = true := by
  unfold zeroOf at h
  cases hu : P.info? t with
  | none => rw [hu] at h; cases h
  | some d =>
    rw [hu] at h
    simp only at h
    cases hz : d.zero with
    | none => rw [hz] at h; cases h
    | some v =>
      rw [hz] at h
      simp only at h
      split at h
      · rename_i hall
        injection h with h
        subst h
        exact ⟨v, by simp [zeroValue, typeInfo, hu, program, Sem.run, hz], rfl, fun u hu => by simpa using List.all_eq_true.1 hall u hu⟩
      · cases h
end

section
variable {P : Program} {w0 : Base} {M0 : Nat → Prop} {L : Nat → Value} {tb : List Blk} {w : World} {G : Nat → Option Bool}

theorem addrOf_sound (hI : Inv w0 M0 L tb w) {x : LV} {v : Value} {cs : List SV} {off : Nat} (h : addrOf tb x = some (cs, off)) (hd : LDen G w (mset M0 tb L) L tb x v) :
    ∃ b o, v = .pointer (some ⟨b, o + off, none⟩) ∧ ∀ (i : Nat) s, cs[i]? = some s → ∃ u, w.cell? ⟨b, o + i, none⟩ = some u ∧ u.oneCell' = true ∧ Den w (mset M0 tb L) s u := by
  cases x with
  | ptr i off' =>
    simp only [addrOf] at h
    split at h
    · rename_i t mu cs' hi
      simp only [Option.some.injEq, Prod.mk.injEq] at h
      obtain ⟨rfl, rfl⟩ := h
      obtain ⟨_, b, hl, rfl⟩ := hd
      obtain ⟨b', vs, hv, _, hh, hlen, h1, hden⟩ := hI.ok i _ hi
      rw [hl] at hv
      injection hv with hv
      injection hv with hv
      injection hv with hv _
      subst hv
      refine ⟨b, 0, by simp, fun j s hj => ?_⟩
      have hj' : j < vs.size := by rw [← hlen]; exact (List.getElem?_eq_some_iff.1 hj).1
      refine ⟨vs[j], ?_, h1 j _ (by simp [hj']), hden j s _ hj (by simp [hj'])⟩
      simp [World.cell?, hh, hj']
    · cases h
  | rp i k off' =>
    simp only [addrOf] at h
    split at h
    · rename_i t sz n mu get hi
      simp only [Option.some.injEq, Prod.mk.injEq] at h
      obtain ⟨rfl, rfl⟩ := h
      obtain ⟨b, n', c, t', sz', mu', get', hi', hl, hk, rfl⟩ := hd
      rw [hi] at hi'
      injection hi' with hi'
      injection hi' with e1 e2 e3 e4 e5
      subst e2 e3
      obtain ⟨xs, ⟨hxl, ho⟩, hz, h1a, hden⟩ := hI.ok i _ hi
      have h1 := h1a.xs ⟨hxl, ho⟩
      rw [hl] at ho
      rcases ho with ⟨hx, _⟩ | ⟨g, cap, cur, hv, hg, hh, hnc, hcm, hcur, htake⟩
      · cases hx
      · injection hv with hv1 _ hv2
        injection hv1 with hv1
        injection hv1 with hv1 _
        subst hv1 hv2
        refine ⟨b, k * sz, rfl, fun j s hj => ?_⟩
        have hj' := (List.getElem?_eq_some_iff.1 hj).1
        have hzk := hz k hk
        have hlt : k * sz + j < n * sz := by
          calc k * sz + j < k * sz + sz := by omega
            _ = (k + 1) * sz := by rw [Nat.succ_mul]
            _ ≤ n * sz := Nat.mul_le_mul_right _ (by omega)
        have hx : xs[k * sz + j]? = some (xs[k * sz + j]'(by omega)) := List.getElem?_eq_getElem (by omega)
        refine ⟨_, ?_, h1 _ (List.mem_of_getElem? hx), hden k j s _ hk hj hx⟩
        rw [← hx, ← htake, List.getElem?_take_of_lt hlt]
        simp [World.cell?, hh]
    · cases h
  | sv s =>
    cases s with
    | ref cs' off' =>
      simp only [addrOf, Option.some.injEq, Prod.mk.injEq] at h
      obtain ⟨rfl, rfl⟩ := h
      cases hd with
      | ref _ _ b o val hM hb h1 hc hden => exact ⟨b, o, rfl, fun i s hi => ⟨val i, hc i s hi, h1 i s hi, hden i s hi⟩⟩
    | _ => simp [addrOf] at h
  | any => simp [addrOf] at h
  | own => simp [addrOf] at h
  | part => simp [addrOf] at h
  | opt => simp [addrOf] at h
  | exact => simp [addrOf] at h
  | isv => simp [addrOf] at h

/-- The cells of a run of the row behind an address. -/
theorem loadCells_sound {M : Nat → Prop} {b o off n : Nat} {cs : List SV} (hc : ∀ (i : Nat) s, cs[i]? = some s → ∃ u, w.cell? ⟨b, o + i, none⟩ = some u ∧ u.oneCell' = true ∧ Den w M s u) (hn : off + n ≤ cs.length) :
    ∃ vs : Array Value, (loadCells ⟨b, o + off, none⟩ n).run P w = .ok vs w ∧ Den w M (.agg ((cs.drop off).take n)) (.agg vs) := by
  have hx : ∀ j, j < n → ∃ u, w.cell? ((⟨b, o + off, none⟩ : Addr).add j) = some u ∧ u.oneCell' = true ∧ ∀ s, cs[off + j]? = some s → Den w M s u := by
    intro j hj
    obtain ⟨u, h1, h2, h3⟩ := hc (off + j) (cs[off + j]'(by omega)) (List.getElem?_eq_getElem (by omega))
    refine ⟨u, ?_, h2, fun s hs => ?_⟩
    · rw [add_none, Nat.add_assoc]; exact h1
    · rw [List.getElem?_eq_getElem (by omega)] at hs; injection hs with hs; subst hs; exact h3
  let f : Nat → Value := fun j => if h : j < n then (hx j h).choose else undef
  have hf : ∀ j (h : j < n), f j = (hx j h).choose := fun j h => by simp [f, h]
  refine ⟨((List.range n).map f).toArray, run_loadCells w _ n f (fun j hj => by rw [hf j hj]; exact (hx j hj).choose_spec.1), ?_⟩
  refine .agg _ _ (by simp; omega) ?_ ?_
  · intro i v hi
    simp only [List.getElem?_toArray, List.getElem?_map, Option.map_eq_some_iff] at hi
    obtain ⟨j, hj, rfl⟩ := hi
    have hlt := (List.getElem?_eq_some_iff.1 hj).1
    rw [List.getElem?_range (by simpa using hlt)] at hj
    injection hj with hj
    subst hj
    simp at hlt
    rw [hf i hlt]
    exact (hx i hlt).choose_spec.2.1
  · intro i s v hs hi
    simp only [List.getElem?_toArray, List.getElem?_map, Option.map_eq_some_iff] at hi
    obtain ⟨j, hj, rfl⟩ := hi
    have hlt := (List.getElem?_eq_some_iff.1 hj).1
    rw [List.getElem?_range (by simpa using hlt)] at hj
    injection hj with hj
    subst hj
    simp at hlt
    rw [hf i hlt]
    refine (hx i hlt).choose_spec.2.2 s ?_
    rw [List.getElem?_take_of_lt hlt, List.getElem?_drop] at hs
    exact hs

theorem wrap_in {k : IntKind} {n : Int} (h : InK k n) : k.wrap n = n := by
  unfold InK at h
  cases k <;> simp [IntKind.min, IntKind.max, IntKind.signed, IntKind.bits] at h <;> simp [IntKind.wrap, IntKind.signed, IntKind.bits] <;> omega

theorem ofInt_i64 (a : Nat) (ha : a < 9223372036854775808) : (BitVec.ofInt 64 (a : Int)).toNat = a := by
  rw [BitVec.ofInt_natCast, BitVec.toNat_ofNat]; exact Nat.mod_eq_of_lt (by omega)

theorem bits_and (a b : Nat) (ha : a < 9223372036854775808) (hb : b < 9223372036854775808) : (Op.intBits .and .i64 (a : Int) (b : Int)).run P w = .ok (.int .i64 ((a &&& b : Nat) : Int)) w := by
  have hx : a &&& b < 2 ^ 63 := Nat.and_lt_two_pow _ (by omega)
  have hy : (BitVec.ofInt 64 (a : Int) &&& BitVec.ofInt 64 (b : Int)).toNat = a &&& b := by rw [BitVec.toNat_and, ofInt_i64 a ha, ofInt_i64 b hb]
  show Result.ok (Value.int .i64 (IntKind.i64.wrap ((BitVec.ofInt 64 (a : Int) &&& BitVec.ofInt 64 (b : Int)).toNat : Int))) w = _
  rw [hy, wrap_in]
  unfold InK
  simp [IntKind.min, IntKind.max, IntKind.signed, IntKind.bits]
  omega

theorem bits_or (a b : Nat) (ha : a < 9223372036854775808) (hb : b < 9223372036854775808) : (Op.intBits .or .i64 (a : Int) (b : Int)).run P w = .ok (.int .i64 ((a ||| b : Nat) : Int)) w := by
  have hx : a ||| b < 2 ^ 63 := Nat.or_lt_two_pow (by omega) (by omega)
  have hy : (BitVec.ofInt 64 (a : Int) ||| BitVec.ofInt 64 (b : Int)).toNat = a ||| b := by rw [BitVec.toNat_or, ofInt_i64 a ha, ofInt_i64 b hb]
  show Result.ok (Value.int .i64 (IntKind.i64.wrap ((BitVec.ofInt 64 (a : Int) ||| BitVec.ofInt 64 (b : Int)).toNat : Int))) w = _
  rw [hy, wrap_in]
  unfold InK
  simp [IntKind.min, IntKind.max, IntKind.signed, IntKind.bits]
  omega

theorem inK_i64 {n : Int} (h : InK .i64 n) : -9223372036854775808 ≤ n ∧ n ≤ 9223372036854775807 := by
  unfold InK at h; simpa [IntKind.min, IntKind.max, IntKind.signed, IntKind.bits] using h

theorem binSV_sound {M : Nat → Prop} {op : BinOp} {t : TypeId} {x y : Operand} {a b s : SV} {u v : Value} {ob : Prop} (h : binSV op a b = some (s, ob)) (hob : ob) (ha : Den w M a u) (hb : Den w M b v) :
    ∃ r, (do eqGuard op t x y u v; binOp op t u v : Sem Value).run P w = .ok r w ∧ Den w M s r := by
  cases ha with
  | int k n =>
    cases hb with
    | int k' m =>
      have hg : (eqGuard op t x y (.int k n) (.int k' m)).run P w = .ok () w := by
        cases op <;> simp [eqGuard]
      simp only [binSV] at h
      split at h
      case isFalse => cases h
      rename_i hkk
      subst hkk
      cases op <;> simp only [binI, Option.some.injEq, Prod.mk.injEq, reduceCtorEq] at h
      case shr =>
        obtain ⟨rfl, rfl⟩ := h
        refine ⟨_, ?_, .int _ _⟩
        simp only [Sem.run_bind, hg, Result.andThen, binOp, Op.shift]
        rw [if_neg (by omega), Nat.min_eq_left (by omega)]
        show Result.ok _ w = _
        congr 2
        rw [Int.fdiv_eq_ediv_of_nonneg]
        exact Int.le_of_lt (Int.pow_pos (by omega))
      case and =>
        obtain ⟨rfl, rfl⟩ := h
        obtain ⟨rfl, h0, h1, h2, h3⟩ := hob
        have h2 := inK_i64 h2
        have h3 := inK_i64 h3
        obtain ⟨p, rfl⟩ := Int.eq_ofNat_of_zero_le h0
        obtain ⟨q, rfl⟩ := Int.eq_ofNat_of_zero_le h1
        refine ⟨_, ?_, .int _ _⟩
        simp only [Sem.run_bind, hg, Result.andThen, binOp, ne_eq, not_true_eq_false, if_false, Int.toNat_natCast]
        exact bits_and p q (by omega) (by omega)
      case or =>
        obtain ⟨rfl, rfl⟩ := h
        obtain ⟨rfl, h0, h1, h2, h3⟩ := hob
        have h2 := inK_i64 h2
        have h3 := inK_i64 h3
        obtain ⟨p, rfl⟩ := Int.eq_ofNat_of_zero_le h0
        obtain ⟨q, rfl⟩ := Int.eq_ofNat_of_zero_le h1
        refine ⟨_, ?_, .int _ _⟩
        simp only [Sem.run_bind, hg, Result.andThen, binOp, ne_eq, not_true_eq_false, if_false, Int.toNat_natCast]
        exact bits_or p q (by omega) (by omega)
      case quo =>
        obtain ⟨rfl, rfl⟩ := h
        obtain ⟨h0, h1, h2⟩ := hob
        refine ⟨_, ?_, .int _ _⟩
        simp only [Sem.run_bind, hg, Result.andThen, binOp, ne_eq, not_true_eq_false, if_false, Op.intDiv]
        rw [if_neg (by omega), Int.tdiv_eq_ediv_of_nonneg h0, wrap_in h2]
        rfl
      case rem =>
        obtain ⟨rfl, rfl⟩ := h
        obtain ⟨h0, h1⟩ := hob
        refine ⟨_, ?_, .int _ _⟩
        simp only [Sem.run_bind, hg, Result.andThen, binOp, ne_eq, not_true_eq_false, if_false, Op.intDiv]
        rw [if_neg (by omega), Int.tmod_eq_emod_of_nonneg h0]
        rfl
      all_goals
        obtain ⟨rfl, rfl⟩ := h
        first
          | (refine ⟨_, ?_, .int _ _⟩
             simp only [Sem.run_bind, hg, Result.andThen, binOp, ne_eq, not_true_eq_false, if_false, Op.intArith, wrap_in hob]
             rfl)
          | (refine ⟨_, ?_, .bool _⟩
             simp only [Sem.run_bind, hg, Result.andThen, binOp, ne_eq, not_true_eq_false, if_false, Op.intCmp]
             rfl)
    | _ => simp [binSV] at h
  | val u =>
    cases u with
    | int k n =>
      cases hb with
      | int k' m =>
        have hg : (eqGuard op t x y (.int k n) (.int k' m)).run P w = .ok () w := by
          cases op <;> simp [eqGuard]
        simp only [binSV] at h
        split at h
        case isFalse => cases h
        rename_i hkk
        subst hkk
        cases op <;> simp only [binW, Option.some.injEq, Prod.mk.injEq, reduceCtorEq] at h
        obtain ⟨rfl, rfl⟩ := h
        refine ⟨_, ?_, .val _⟩
        simp only [Sem.run_bind, hg, Result.andThen, binOp, ne_eq, not_true_eq_false, if_false, Op.intArith]
        rfl
      | _ => simp [binSV] at h
    | _ => cases hb <;> simp [binSV] at h
  | _ => cases hb <;> simp [binSV] at h

theorem binB_sound {M : Nat → Prop} {op : BinOp} {t : TypeId} {x y : Operand} {a b s : SV} {u v : Value} {ob : Prop} (ht : P.underlying t = some .bool) (h : binB op a b = some (s, ob)) (ha : Den w M a u) (hb : Den w M b v) :
    ∃ r, (do eqGuard op t x y u v; binOp op t u v : Sem Value).run P w = .ok r w ∧ Den w M s r := by
  cases ha with
  | bool c =>
    cases hb with
    | bool d =>
      have hg : (eqGuard op t x y (.bool c) (.bool d)).run P w = .ok () w := by
        cases op <;> simp [eqGuard]
      cases op <;> simp only [binB, Option.some.injEq, Prod.mk.injEq, reduceCtorEq] at h
      all_goals
        obtain ⟨rfl, rfl⟩ := h
        refine ⟨_, ?_, .bool _⟩
        simp only [Sem.run_bind, hg, Result.andThen]
        first | exact run_eql_bool _ _ _ _ ht | exact run_neq_bool _ _ _ _ ht
    | _ => simp [binB] at h
  | _ => cases hb <;> simp [binB] at h

theorem intsOf_sound {M : Nat → Prop} : ∀ (cs : List SV) (l : List Int) (vs : List Value), intsOf cs = some l → cs.length = vs.length → (∀ (i : Nat) s v, cs[i]? = some s → vs[i]? = some v → Den w M s v) → vs = l.map (Value.int .i64)
  | [], l, vs, h, hl, _ => by simp [intsOf] at h; subst h; simp at hl; simp [List.eq_nil_of_length_eq_zero hl.symm]
  | c :: r, l, [], h, hl, _ => by simp at hl
  | c :: r, l, v :: vs, h, hl, hd => by
    have h0 := hd 0 c v rfl rfl
    unfold intsOf at h
    split at h
    · rename_i e; cases e
    · rename_i n r' e
      injection e with e1 e2
      subst e1 e2
      split at h
      · rename_i l' hl'
        injection h with h
        subst h
        cases h0
        simp [intsOf_sound r l' vs hl' (by simpa using hl) (fun i s v hi hv => hd (i + 1) s v (by simpa using hi) (by simpa using hv))]
      · cases h
    · cases h
end
end Go.Sx

namespace Go.Sx
open Go Go.RowKit

section
variable {P : Program} {w0 : Base} {M0 : Nat → Prop} {L : Nat → Value} {tb : List Blk} {w : World} {G : Nat → Option Bool}

theorem optList_get {α : Type} : ∀ (l : List (Option α)) (r : List α), optList l = some r → l.length = r.length ∧ ∀ (i : Nat) x, r[i]? = some x → l[i]? = some (some x)
  | [], r, h => by simp [optList] at h; subst h; simp
  | none :: _, r, h => by simp [optList] at h
  | some x :: l, r, h => by
    simp only [optList] at h
    split at h
    · rename_i r' hr
      injection h with h
      subst h
      obtain ⟨h1, h2⟩ := optList_get l r' hr
      refine ⟨by simp [h1], fun i y hi => ?_⟩
      cases i with
      | zero => simp at hi; subst hi; rfl
      | succ i => simp at hi; simpa using h2 i y hi
    · cases h

theorem den_lstOf {M : Nat → Prop} {s : SV} {v : Value} {n : Nat} {get : Nat → List SV} (h : lstOf s = some (n, get)) (hd : Den w M s v) : ∃ A c, v = .slice A n c := by
  unfold lstOf at h
  split at h
  · simp only [Option.some.injEq, Prod.mk.injEq] at h
    obtain ⟨rfl, rfl⟩ := h
    cases hd
    exact ⟨_, _, rfl⟩
  · simp only [Option.some.injEq, Prod.mk.injEq] at h
    obtain ⟨rfl, rfl⟩ := h
    cases hd
    exact ⟨_, _, rfl⟩
  · cases h

/-- A slice value's cells, whatever it was known as. -/
theorem den_lstOf' {M : Nat → Prop} {s : SV} {v : Value} {n sz : Nat} {get : Nat → List SV} (h : lstOf s = some (n, get)) (hz : szOK sz s) (hd : Den w M s v) : Den w M (.lst sz n get) v := by
  unfold lstOf at h
  split at h
  · simp only [Option.some.injEq, Prod.mk.injEq] at h
    obtain ⟨rfl, rfl⟩ := h
    simp only [szOK] at hz
    subst hz
    exact hd
  · simp only [Option.some.injEq, Prod.mk.injEq] at h
    obtain ⟨rfl, rfl⟩ := h
    cases hd
    exact .lst sz 0 _ none 0 0 0 (fun _ _ => undef) (Nat.le_refl _) (by simp [maxLen]) (fun h => by omega) (fun h => by omega) (fun h => by omega) (fun i h => by omega) (fun _ _ _ h => by omega) (fun _ _ _ h => by omega) (fun _ _ _ h => by omega)
  · cases h

theorem cellsOf_sound {M : Nat → Prop} {s : SV} {cs : List SV} {v : Value} (h : cellsOf s = some cs) (hd : Den w M s v) :
    cs.length = v.cells.size ∧ (∀ (i : Nat) u, v.cells[i]? = some u → u.oneCell' = true) ∧ ∀ (i : Nat) s u, cs[i]? = some s → v.cells[i]? = some u → Den w M s u := by
  have one : ∀ (s : SV) (v : Value), v.cells = #[v] → v.oneCell' = true → Den w M s v →
      [s].length = v.cells.size ∧ (∀ (i : Nat) u, v.cells[i]? = some u → u.oneCell' = true) ∧ ∀ (i : Nat) s' u, [s][i]? = some s' → v.cells[i]? = some u → Den w M s' u := by
    intro s v hv h1 hd
    rw [hv]
    refine ⟨by simp, fun i u hi => ?_, fun i s' u hi hu => ?_⟩
    · cases i with
      | zero => simp at hi; subst hi; exact h1
      | succ i => simp at hi
    · cases i with
      | zero => simp at hi hu; subst hi hu; exact hd
      | succ i => simp at hi
  cases hd with
  | int k n => simp [cellsOf] at h; subst h; exact one _ _ rfl rfl (.int k n)
  | bool b => simp [cellsOf] at h; subst h; exact one _ _ rfl rfl (.bool b)
  | val v =>
    simp only [cellsOf] at h
    split at h
    · rename_i h1
      injection h with h
      subst h
      refine one _ _ ?_ h1 (.val v)
      cases v <;> simp [Value.oneCell'] at h1 <;> rfl
    · cases h
  | agg cs' vs hl h1 hh => simp [cellsOf] at h; subst h; exact ⟨hl, h1, hh⟩
  | tup => simp [cellsOf] at h
  | ref cs' off b o val hM hb h1 hc hh => simp [cellsOf] at h; subst h; exact one _ _ rfl rfl (.ref cs' off b o val hM hb h1 hc hh)
  | lst sz n get A c b o val hc hm hA hM hb hz h1 hcell hh => simp [cellsOf] at h; subst h; exact one _ _ rfl rfl (.lst sz n get A c b o val hc hm hA hM hb hz h1 hcell hh)
  | fn f cs' vs hl hh => simp [cellsOf] at h; subst h; exact one _ _ rfl rfl (.fn f cs' vs hl hh)

theorem lay_length : ∀ (l cs : List SV) (off : Nat), (lay cs off l).length = cs.length
  | [], cs, off => rfl
  | s :: r, cs, off => by simp [lay, lay_length r]

theorem lay_get : ∀ (l cs : List SV) (off i : Nat), off + l.length ≤ cs.length → (lay cs off l)[i]? = if off ≤ i ∧ i < off + l.length then l[i - off]? else cs[i]?
  | [], cs, off, i, h => by simp [lay]; intro h1 h2; omega
  | s :: r, cs, off, i, h => by
    simp only [List.length_cons] at h
    rw [lay, lay_get r (cs.set off s) (off + 1) i (by simp; omega)]
    by_cases h1 : off + 1 ≤ i ∧ i < off + 1 + r.length
    · rw [if_pos h1, if_pos (by simp; omega)]
      rw [show i - off = (i - (off + 1)) + 1 by omega]
      simp
    · rw [if_neg h1]
      by_cases h2 : i = off
      · subst h2
        rw [if_pos (by simp)]
        simp [List.getElem?_set_self (show i < cs.length by omega)]
      · rw [if_neg (by simp; omega), List.getElem?_set_ne (by omega)]

/-- What the model's fold over cells gives. -/
theorem fold_set : ∀ (l : List Value) (cs : Array Value) (off k i : Nat), ((l.zipIdx k).foldl (fun cs (p : Value × Nat) => cs.setIfInBounds (off + p.2) p.1) cs)[i]? =
    if off + k ≤ i ∧ i < off + k + l.length ∧ i < cs.size then l[i - (off + k)]? else cs[i]?
  | [], cs, off, k, i => by simp; intro h1 h2; omega
  | v :: r, cs, off, k, i => by
    simp only [List.zipIdx_cons, List.foldl_cons]
    rw [fold_set r (cs.setIfInBounds (off + k) v) off (k + 1) i]
    simp only [Array.size_setIfInBounds, List.length_cons]
    by_cases h1 : off + (k + 1) ≤ i ∧ i < off + (k + 1) + r.length ∧ i < cs.size
    · rw [if_pos h1, if_pos (by omega), show i - (off + k) = (i - (off + (k + 1))) + 1 by omega]
      simp
    · rw [if_neg h1]
      by_cases h2 : i = off + k
      · subst h2
        by_cases h3 : off + k < cs.size
        · rw [if_pos (by omega)]; simp [h3]
        · rw [if_neg (by omega)]; simp [h3]
      · rw [if_neg (by omega), Array.getElem?_setIfInBounds_ne (by omega)]

theorem fold_size : ∀ (l : List (Value × Nat)) (cs : Array Value) (off : Nat), (l.foldl (fun cs (p : Value × Nat) => cs.setIfInBounds (off + p.2) p.1) cs).size = cs.size
  | [], cs, off => rfl
  | v :: r, cs, off => by simp only [List.foldl_cons]; rw [fold_size r]; simp

/-- The model's `fill` against ours. -/
theorem fill_sound {M : Nat → Prop} {place : Nat → Option (Nat × Nat)} : ∀ (parts : List (Nat × Nat × Option SV)) (vals : List (Nat × Value)) (cs cs' : List SV) (vs : Array Value),
    parts.length = vals.length →
    (∀ (k : Nat) off n s i v, parts[k]? = some (off, n, some s) → vals[k]? = some (i, v) → place i = some (off, n) ∧ Den w M s v) →
    cs.length = vs.size → (∀ (i : Nat) v, vs[i]? = some v → v.oneCell' = true) → (∀ (i : Nat) s v, cs[i]? = some s → vs[i]? = some v → Den w M s v) →
    fillSV cs parts = some cs' → ∃ vs', Instr.fill place vs vals = some vs' ∧ Den w M (.agg cs') (.agg vs') := by
  intro parts
  induction parts with
  | nil =>
    intro vals cs cs' vs hl hp hlen h1 hd h
    have : vals = [] := List.eq_nil_of_length_eq_zero (by simpa using hl.symm)
    subst this
    simp [fillSV] at h
    subst h
    exact ⟨vs, rfl, .agg cs vs hlen h1 hd⟩
  | cons p parts ih =>
    intro vals cs cs' vs hl hp hlen h1 hd h
    match vals, hl with
    | (i, v) :: vals, hl =>
      obtain ⟨off, n, os⟩ := p
      cases os with
      | none => simp [fillSV] at h
      | some s =>
        obtain ⟨hpl, hds⟩ := hp 0 off n s i v rfl rfl
        simp only [fillSV] at h
        split at h
        · rename_i l hcl
          split at h
          · rename_i hok
            obtain ⟨c1, c2, c3⟩ := cellsOf_sound hcl hds
            have hsz : v.cells.size = n := by rw [← c1]; exact hok.1
            let vs1 : Array Value := v.cells.zipIdx.foldl (fun cs (c, j) => cs.setIfInBounds (off + j) c) vs
            have hvs1 : vs1 = (v.cells.toList.zipIdx 0).foldl (fun cs (p : Value × Nat) => cs.setIfInBounds (off + p.2) p.1) vs := by
              show Array.foldl _ _ _ = _
              rw [← Array.foldl_toList, Array.toList_zipIdx]
            have hg : ∀ i, vs1[i]? = if off ≤ i ∧ i < off + v.cells.size ∧ i < vs.size then v.cells[i - off]? else vs[i]? := by
              intro i
              rw [hvs1, fold_set]
              simp
            have hs1 : vs1.size = vs.size := by rw [hvs1, fold_size]
            have hfit : off + v.cells.size ≤ vs.size := by rw [hsz, ← hlen]; exact hok.2
            obtain ⟨vs', hf, hdf⟩ := ih vals (lay cs off l) cs' vs1 (by simpa using hl) (fun k off' n' s' i' v' hk hv => hp (k + 1) off' n' s' i' v' (by simpa using hk) (by simpa using hv))
              (by rw [lay_length, hs1, hlen])
              (fun j u hj => by
                rw [hg] at hj
                split at hj
                · exact c2 _ _ hj
                · exact h1 _ _ hj)
              (fun j s' u hj hu => by
                rw [hg] at hu
                rw [lay_get _ _ _ _ (by rw [hok.1]; exact hok.2)] at hj
                by_cases hin : off ≤ j ∧ j < off + v.cells.size
                · rw [if_pos (by omega)] at hu
                  rw [if_pos (by omega)] at hj
                  exact c3 _ _ _ hj hu
                · rw [if_neg (by omega)] at hu
                  rw [if_neg (by omega)] at hj
                  exact hd _ _ _ hj hu)
              h
            refine ⟨vs', ?_, hdf⟩
            simp only [Instr.fill, hpl, hsz]
            rw [if_neg (by simp; omega)]
            exact hf
          · cases h
        · cases h
    | [], hl => simp at hl
end
end Go.Sx

namespace Go.Sx
set_option linter.unusedSimpArgs false
open Go Go.RowKit

section
variable {P : Program} {w0 : Base} {M0 : Nat → Prop} {L : Nat → Value} {tb : List Blk} {w : World} {G : Nat → Option Bool}

theorem run_v {s : Sem Value} {v : Value} {w' : World} (h : s.run P w = .ok v w') : (do pure (.value (← s)) : Sem Next).run P w = .ok (.value v) w' := by
  simp [Sem.run_bind, h]

theorem run_sure {a : Addr} : (Instr.sureAddr (.pointer (some a))).run P w = .ok a w := rfl

theorem fieldOf_spec {s : TypeId} {f off : Nat} {t : TypeId} (h : fieldOf P s f = some (off, t)) : ∃ fs fd, P.underlying s = some (.struct fs) ∧ fs[f]? = some fd ∧ fd.offset = off ∧ fd.type = t := by
  unfold fieldOf at h
  split at h
  · rename_i fs hu
    split at h
    · rename_i fd hf
      simp only [Option.some.injEq, Prod.mk.injEq] at h
      exact ⟨fs, fd, hu, hf, h.1, h.2⟩
    · cases h
  · cases h

theorem elemOf_spec {t e : TypeId} (h : elemOf? P t = some e) : P.underlying t = some (.slice e) := by
  unfold elemOf? at h
  split at h
  · rename_i e' hu; injection h with h; subst h; exact hu
  · cases h

theorem run_fieldAt {s : TypeId} {f off n : Nat} {t : TypeId} {b o : Nat} (h : fieldOf P s f = some (off, t)) (hn : sizeOf? P t = some (n + 1)) :
    (Instr.fieldAt s (.pointer (some ⟨b, o, none⟩)) f).run P w = .ok (.pointer (some ⟨b, o + off, none⟩)) w := by
  obtain ⟨fs, fd, hu, hf, rfl, rfl⟩ := fieldOf_spec h
  simp [Instr.fieldAt, Sem.run_bind, run_under hu, hf, run_sure, fieldPlace, run_sizeOf hn, add_none]

theorem run_part_one {t : TypeId} {vs : Array Value} {off : Nat} {v : Value} (h : isAgg? P t = some false) (hv : vs[off]? = some v) : (part t vs off).run P w = .ok v w := by
  simp [part, Sem.run_bind, run_isAgg h, hv]

theorem run_part_agg {t : TypeId} {vs : Array Value} {off n : Nat} (h : isAgg? P t = some true) (hn : sizeOf? P t = some n) : (part t vs off).run P w = .ok (.agg (vs.extract off (off + n))) w := by
  simp [part, Sem.run_bind, run_isAgg h, run_sizeOf hn]

theorem run_bound {k : IntKind} {n : Int} {y : Nat} {code : BoundsCode} (h0 : 0 ≤ n) (h1 : n ≤ y) : (Instr.sliceBound (.int k n) y code).run P w = .ok n.toNat w := by
  simp [Instr.sliceBound, Sem.run_bind, asIntOf, h0, h1]

theorem zeroOf_spec {t : TypeId} {z : List Value} (h : zeroOf P t = some z) : ∃ it v, P.info? t = some it ∧ it.zero = some v ∧ v.cells.toList = z ∧ ∀ u ∈ z, u.oneCell' = true := by
  unfold zeroOf at h
  split at h
  · rename_i it hit
    split at h
    · rename_i v hv
      split at h
      · rename_i hall
        injection h with h
        subst h
        exact ⟨it, v, hit, hv, rfl, fun u hu => by simpa using List.all_eq_true.1 hall u hu⟩
      · cases h
    · cases h
  · cases h

theorem slim_alloc {t : TypeId} {so : SOp} {ev' : Operand → LV} {r : LV × Prop} (hs : slimO P (.alloc t) = some so) (hp : pureOp P tb ev' so = some r) : False := by
  simp only [slimO] at hs
  split at hs
  · injection hs with hs; subst hs; simp [pureOp] at hp
  · cases hs
theorem slim_store {t : TypeId} {x v : Operand} {so : SOp} {ev' : Operand → LV} {r : LV × Prop} (hs : slimO P (.store t x v) = some so) (hp : pureOp P tb ev' so = some r) : False := by
  simp only [slimO] at hs
  split at hs
  · injection hs with hs; subst hs; simp [pureOp] at hp
  · cases hs
theorem slim_buildSlice {t : TypeId} {n : Nat} {ps : Array (Nat × Operand)} {so : SOp} {ev' : Operand → LV} {r : LV × Prop} (hs : slimO P (.buildSlice t n ps) = some so) (hp : pureOp P tb ev' so = some r) : False := by
  simp only [slimO] at hs
  split at hs
  · split at hs
    · split at hs
      · injection hs with hs; subst hs; simp [pureOp] at hp
      · cases hs
    · cases hs
  · cases hs
theorem slim_makeSlice {t : TypeId} {x v : Operand} {so : SOp} {ev' : Operand → LV} {r : LV × Prop} (hs : slimO P (.makeSlice t x v) = some so) (hp : pureOp P tb ev' so = some r) : False := by
  simp only [slimO] at hs
  split at hs
  · split at hs
    · split at hs
      · injection hs with hs; subst hs; simp [pureOp] at hp
      · cases hs
    · cases hs
  · cases hs

theorem slim_append {args : List Operand} {tys : List TypeId} {so : SOp} {ev' : Operand → LV} {r : LV × Prop} (hs : slimO P (.call ⟨.builtin .append, ⟨args⟩, ⟨tys⟩⟩) = some so) (hp : pureOp P tb ev' so = some r) : False := by
  match args, tys, hs with
  | [y, z], [t, u], hs =>
    simp only [slimO] at hs
    split at hs
    · split at hs
      · split at hs
        · injection hs with hs; subst hs; simp [pureOp] at hp
        · split at hs
          · injection hs with hs; subst hs; simp [pureOp] at hp
          · cases hs
      · cases hs
    · cases hs
  | [], _, hs => simp [slimO] at hs
  | [_], _, hs => simp [slimO] at hs
  | _ :: _ :: _ :: _, _, hs => simp [slimO] at hs
  | [_, _], [], hs => simp [slimO] at hs
  | [_, _], [_], hs => simp [slimO] at hs
  | [_, _], _ :: _ :: _ :: _, hs => simp [slimO] at hs

theorem slim_copy {args : List Operand} {tys : List TypeId} {so : SOp} {ev' : Operand → LV} {r : LV × Prop} (hs : slimO P (.call ⟨.builtin .copy, ⟨args⟩, ⟨tys⟩⟩) = some so) (hp : pureOp P tb ev' so = some r) : False := by
  match args, tys, hs with
  | [y, z], [t, u], hs =>
    simp only [slimO] at hs
    split at hs
    · split at hs
      · injection hs with hs; subst hs; simp [pureOp] at hp
      · cases hs
    · cases hs
  | [], _, hs => simp [slimO] at hs
  | [_], _, hs => simp [slimO] at hs
  | _ :: _ :: _ :: _, _, hs => simp [slimO] at hs
  | [_, _], [], hs => simp [slimO] at hs
  | [_, _], [_], hs => simp [slimO] at hs
  | [_, _], _ :: _ :: _ :: _, hs => simp [slimO] at hs

theorem slim_clear {args : List Operand} {tys : List TypeId} {so : SOp} {ev' : Operand → LV} {r : LV × Prop} (hs : slimO P (.call ⟨.builtin .clear, ⟨args⟩, ⟨tys⟩⟩) = some so) (hp : pureOp P tb ev' so = some r) : False := by
  match args, tys, hs with
  | [x], [t], hs =>
    simp only [slimO] at hs
    split at hs
    · split at hs
      · split at hs
        · injection hs with hs; subst hs; simp [pureOp] at hp
        · cases hs
      · cases hs
    · cases hs
  | [], _, hs => simp [slimO] at hs
  | _ :: _ :: _, _, hs => simp [slimO] at hs
  | [_], [], hs => simp [slimO] at hs
  | [_], _ :: _ :: _, hs => simp [slimO] at hs

theorem rowPart_sound (hI : Inv w0 M0 L tb w) {M : Nat → Prop} {x : LV} {v : Value} {j a b sz n : Nat} (h : rowPart tb x = some (j, a, b, sz, n)) (hd : LDen G w M L tb x v) :
    ∃ t mu get, tb[j]? = some (.row t sz n mu get) ∧ a ≤ b ∧ b ≤ n ∧ ((L j = .slice none 0 0 ∧ v = .slice none 0 0 ∧ n = 0) ∨
      ∃ g o c, L j = .slice (some ⟨g, 0, none⟩) n c ∧ (a = 0 ∨ a < c → o = a * sz) ∧ v = .slice (some ⟨g, o, none⟩) (b - a) (c - a) ∧ n ≤ c) := by
  have key : ∀ t mu get, tb[j]? = some (.row t sz n mu get) → (L j = .slice none 0 0 ∧ n = 0) ∨ ∃ g c, L j = .slice (some ⟨g, 0, none⟩) n c ∧ n ≤ c := by
    intro t mu get ht
    obtain ⟨xs, ⟨_, ho⟩, _⟩ := hI.ok j _ ht
    rcases ho with ⟨h1, h2⟩ | ⟨g, cap, cur, hL, _, _, hnc, _⟩
    · exact .inl ⟨h1, h2⟩
    · exact .inr ⟨g, cap, hL, hnc⟩
  unfold rowPart at h
  split at h
  · split at h
    · rename_i t sz' n' mu get ht
      simp only [Option.some.injEq, Prod.mk.injEq] at h
      obtain ⟨rfl, rfl, rfl, rfl, rfl⟩ := h
      obtain ⟨_, rfl⟩ := hd
      refine ⟨t, mu, get, ht, Nat.zero_le _, Nat.le_refl _, ?_⟩
      rcases key _ _ _ ht with ⟨h1, h2⟩ | ⟨g, c, hL, hc⟩
      · exact .inl ⟨h1, h1, h2⟩
      · exact .inr ⟨g, 0, c, hL, fun _ => by simp, by simpa using hL, hc⟩
    · cases h
  · split at h
    · rename_i t sz' n' mu get ht
      simp only [Option.some.injEq, Prod.mk.injEq] at h
      obtain ⟨rfl, rfl, rfl, rfl, rfl⟩ := h
      obtain ⟨n2, t2, sz2, mu2, get2, ht2, h1, h2, h3⟩ := hd
      rw [ht] at ht2
      simp only [Option.some.injEq, Blk.row.injEq] at ht2
      obtain ⟨rfl, rfl, rfl, rfl, rfl⟩ := ht2
      refine ⟨t, mu, get, ht, h1, h2, ?_⟩
      rcases key _ _ _ ht with ⟨k1, k2⟩ | ⟨g, c, hL, hc⟩
      · rcases h3 with ⟨_, h4⟩ | ⟨b, o, c, h4, _⟩
        · exact .inl ⟨k1, h4, k2⟩
        · rw [k1] at h4; cases h4
      · rcases h3 with ⟨h4, _⟩ | ⟨b, o, c', h4, h5, h6⟩
        · rw [hL] at h4; cases h4
        · rw [hL] at h4
          simp only [Value.slice.injEq, Option.some.injEq, Addr.mk.injEq] at h4
          obtain ⟨⟨rfl, _⟩, _, rfl⟩ := h4
          exact .inr ⟨g, o, c, hL, h5, h6, hc⟩
    · cases h
  · cases h

theorem natOpt {ρ : Operand → Value} {ev' : Operand → LV} {M : Nat → Prop} (hev : ∀ y, LDen G w M L tb (ev' y) (ρ y)) (q : Option Operand) (d r : Int) (hq : (q.map fun y => natOf (ev' y)).getD (some d) = some r) :
    (q = none ∧ d = r) ∨ ∃ z k, q = some z ∧ ρ z = .int k r := by
  cases q with
  | none => simp at hq; exact .inl ⟨rfl, hq⟩
  | some z =>
    simp at hq
    have hz := hev z
    unfold natOf at hq
    split at hq
    · rename_i k n' hx
      rw [hx] at hz
      injection hq with hq
      subst hq
      generalize hzv : ρ z = u at hz
      cases hz
      exact .inr ⟨z, k, rfl, hzv⟩
    · cases hq

theorem run_sliceBounds {ρ : Operand → Value} {ev' : Operand → LV} {M : Nat → Prop} (hev : ∀ y, LDen G w M L tb (ev' y) (ρ y)) {lo hi : Option Operand} {m c : Nat} {l h : Int}
    (hlo : (lo.map fun y => natOf (ev' y)).getD (some 0) = some l) (hhi : (hi.map fun y => natOf (ev' y)).getD (some (m : Int)) = some h) (h0 : 0 ≤ l) (h1 : l ≤ h) (h2 : h ≤ c) :
    (Instr.sliceBounds true m c (lo.map ρ) (hi.map ρ) none).run P w = .ok (l.toNat, h.toNat, c) w := by
  rcases natOpt hev lo 0 l hlo with ⟨rfl, rfl⟩ | ⟨z, k, rfl, hz⟩ <;> rcases natOpt hev hi m h hhi with ⟨rfl, rfl⟩ | ⟨z', k', rfl, hz'⟩
  · simp [Instr.sliceBounds]
  · simp [Instr.sliceBounds, hz', run_bound (P := P) (w := w) (show (0 : Int) ≤ h by omega) (show h ≤ (c : Int) by omega)]
  · simp [Instr.sliceBounds, hz, run_bound (P := P) (w := w) (show (0 : Int) ≤ l by omega) (show l ≤ (m : Int) by omega)]
  · simp [Instr.sliceBounds, hz, hz', run_bound (P := P) (w := w) (show (0 : Int) ≤ h by omega) (show h ≤ (c : Int) by omega), run_bound (P := P) (w := w) (show (0 : Int) ≤ l by omega) (show l ≤ (h.toNat : Int) by omega)]

theorem findNow_int (q : IntKind) : ∀ (es : List MapEntry) (keys : List Int) (i : Nat) (n : Int), es.map (·.key) = keys.map (Value.int .i64) →
    (n ∉ keys ∧ Instr.findNow (.int q) (.int .i64 n) es i = some none) ∨ ∃ j e, keys[j]? = some n ∧ es[j]? = some e ∧ Instr.findNow (.int q) (.int .i64 n) es i = some (some (i + j, e.val))
  | [], keys, i, n, h => by
    cases keys with
    | nil => exact .inl ⟨by simp, rfl⟩
    | cons k r => simp at h
  | e :: es, keys, i, n, h => by
    cases keys with
    | nil => simp at h
    | cons k r =>
      simp only [List.map_cons, List.cons.injEq] at h
      simp only [Instr.findNow, h.1, Instr.sameNow, if_true]
      by_cases hk : n = k
      · subst hk
        right
        exact ⟨0, e, by simp, by simp, by simp⟩
      · have hb : (n == k) = false := by simpa using hk
        rw [hb]
        simp only []
        rcases findNow_int q es r (i + 1) n h.2 with ⟨h1, h2⟩ | ⟨j, e', h1, h2, h3⟩
        · exact .inl ⟨by simp [hk, h1], h2⟩
        · exact .inr ⟨j + 1, e', by simpa using h1, by simpa using h2, by rw [h3]; congr 3; omega⟩

theorem mapOf_spec {t : TypeId} {z : Value} (h : mapOf P t = some z) : ∃ k e, P.underlying t = some (.map k e) ∧ P.underlying k = some (.int .i64) ∧ (∀ w : World, (zeroValue e).run P w = .ok z w) ∧ ∀ u ∈ z.cells.toList, u.oneCell' = true := by
  unfold mapOf at h
  split at h
  · rename_i k e hu
    split at h
    · rename_i hk
      refine ⟨k, e, hu, hk, ?_⟩
      unfold zeroV at h
      split at h
      · rename_i it hi
        split at h
        · rename_i z' hz
          split at h
          · rename_i hall
            injection h with h
            subst h
            exact ⟨fun w => by simp [zeroValue, typeInfo, hi, hz], fun u hu' => (List.all_eq_true.1 hall) u hu'⟩
          · cases h
        · cases h
      · cases h
    · cases h
  · cases h

theorem checkKey_int {k : TypeId} {b : Bool} {n : Int} (hk : P.underlying k = some (.int .i64)) : (Instr.checkKey b 10000 k (.int .i64 n)).run P w = .ok () w := by
  have key : ∀ d, (Instr.checkKey b (d + 1) k (.int .i64 n)).run P w = .ok () w := by
    intro d
    simp [Instr.checkKey, run_under hk]
  exact key 9999

theorem ovl_run {t r e : TypeId} {ne : Nat} (hu : P.underlying t = some (.slice e)) (hsz : (P.info? e).map (·.size) = some ne) (A B : Option Addr) (la ca lb cb : Nat)
    (hAB : ∀ ad bd, A = some ad → B = some bd → la = 0 ∨ lb = 0 ∨ ne = 0 ∨ (ad.block ≠ bd.block ∧ (∃ cs tt fr, w.heap[ad.block]? = some (.cells cs tt fr) ∧ 0 < cs.size) ∧ ∃ cs tt, w.heap[bd.block]? = some (.cells cs tt (0, 0)))) :
    (Extern.SlicesOverlaps.overlaps #[t, t] #[r] #[.slice A la ca, .slice B lb cb]).run P w = .ok (.bool false) w := by
  have hszr : ∀ w : World, (sizeOf e).run P w = .ok ne w := by
    intro w
    obtain ⟨it, hit, hn⟩ := Option.map_eq_some_iff.1 hsz
    simp [sizeOf, typeInfo, hit, hn]
  change Sem.run P (α := Value) (do
    let some t := (#[t, t] : Array TypeId)[0]? | stuck "slices.overlaps: no parameter types"
    let .slice elem ← underlying t | stuck "slices.overlaps: slice type expected"
    let size ← sizeOf elem
    match A, B with
    | some a, some b =>
      if la = 0 ∨ lb = 0 ∨ size = 0 then pure (Value.bool false)
      else if a.block != b.block && (← frozen a) && (← frozen b) then unsupported .addressObserved
      else do
        if a.block != b.block then do
          noView a; noView b
          if ← mayBeOne a b then return Value.bool ((← choose (.extern "sameAddr.stringBytes" 2)) == 1)
        pure (Value.bool (a.block == b.block && a.off < b.off + lb * size && b.off < a.off + la * size))
    | _, _ => pure (Value.bool false)) w = _
  cases A with
  | none => simp [run_under hu, hszr]
  | some ad =>
    cases B with
    | none => simp [run_under hu, hszr]
    | some bd =>
      by_cases h0 : la = 0 ∨ lb = 0 ∨ ne = 0
      · simp [run_under hu, hszr, h0]
      · rcases hAB ad bd rfl rfl with h | h | h | ⟨hne, ⟨cs, tt, fr, hha, hcs⟩, cs', tt', hhb⟩
        · exact absurd (.inl h) h0
        · exact absurd (.inr (.inl h)) h0
        · exact absurd (.inr (.inr h)) h0
        · have hnb : (ad.block != bd.block) = true := by simpa using hne
          have hnb' : (ad.block == bd.block) = false := by simpa using hne
          have hsa : w.shape? ad.block = some (tt, cs.size) := by simp [World.shape?, hha]
          have hsb : w.shape? bd.block = some (tt', cs'.size) := by simp [World.shape?, hhb]
          have hfb : ∀ q, w.frozen? { block := bd.block, off := q } = false := by intro q; simp [World.frozen?, hhb]
          have hfb' : w.frozen? bd = false := by simp [World.frozen?, hhb]
          obtain ⟨k, hk⟩ : ∃ k, cs.size = k + 1 := ⟨cs.size - 1, by omega⟩
          rw [hk] at hsa
          simp [run_under hu, hszr, h0, hnb, hnb', frozen, noView, viewAt, mayBeOne, stringish, shape, Sem.run, hsa, hsb, hfb, hfb']

theorem nmMap_sound {ev' : Operand → LV} {ρ : Operand → Value} (hev : ∀ y, LDen G w (mset M0 tb L) L tb (ev' y) (ρ y)) : ∀ (n i : Nat) (v : Value), nmMap tb ev' n = some (i, v) → L i = v
  | 0, i, v, h => by simp [nmMap] at h
  | n + 1, i, v, h => by
    simp only [nmMap] at h
    split at h
    · rename_i r hr; injection h with h; subst h; exact nmMap_sound hev n i v hr
    · split at h
      · rename_i j u _ hj
        split at h
        · rename_i e
          subst e
          simp only [Option.some.injEq, Prod.mk.injEq] at h
          obtain ⟨rfl, rfl⟩ := h
          have := hev (.tmp (nmSlot j))
          rw [hj] at this
          exact this.2
        · cases h
      · cases h

theorem mapOfLV_sound {ev' : Operand → LV} {ρ : Operand → Value} (hev : ∀ y, LDen G w (mset M0 tb L) L tb (ev' y) (ρ y)) {x : LV} {v : Value} {i : Nat} {obs : List Prop} (h : mapOfLV tb ev' x = some (i, obs)) (ho : AllP obs)
    (hx : LDen G w (mset M0 tb L) L tb x v) : v = L i := by
  unfold mapOfLV at h
  split at h
  · simp only [Option.some.injEq, Prod.mk.injEq] at h
    obtain ⟨rfl, rfl⟩ := h
    exact hx.2
  · split at h
    · rename_i u _ j u' hn
      simp only [Option.some.injEq, Prod.mk.injEq] at h
      obtain ⟨rfl, rfl⟩ := h
      have h1 := nmMap_sound hev _ _ _ hn
      have hd : Den w (mset M0 tb L) (.val u) v := hx
      cases hd
      rw [h1]; exact ho.1.symm
    · cases h
  · cases h

theorem pure_sound {o : Oper} {so : SOp} {ρ : Operand → Value} {ev' : Operand → LV} {x : LV} {ob : Prop} (hs : slimO P o.op = some so) (hp : pureOp P tb ev' so = some (x, ob)) (hob : ob)
    (hI : Inv w0 M0 L tb w) (hM0 : Safe w0 M0) (hev : ∀ y, LDen G w (mset M0 tb L) L tb (ev' y) (ρ y)) :
    ∃ v, (execOp ρ o).run P w = .ok (.value v) w ∧ LDen G w (mset M0 tb L) L tb x v := by
  obtain ⟨dst, op, type, pos, after, guard⟩ := o
  simp only at hs
  cases op with
  | move y =>
    simp [slimO] at hs; subst hs
    simp only [pureOp, Option.some.injEq, Prod.mk.injEq] at hp
    obtain ⟨rfl, rfl⟩ := hp
    exact ⟨ρ y, rfl, hev y⟩
  | assign y =>
    simp [slimO] at hs; subst hs
    simp only [pureOp, Option.some.injEq, Prod.mk.injEq] at hp
    obtain ⟨rfl, rfl⟩ := hp
    exact ⟨ρ y, rfl, hev y⟩
  | load t y =>
    simp only [slimO] at hs
    split at hs
    · rename_i n ha hn
      injection hs with hs; subst hs
      simp only [pureOp] at hp
      split at hp
      · rename_i cs off hadr
        simp only [Option.some.injEq, Prod.mk.injEq] at hp
        obtain ⟨rfl, rfl⟩ := hp
        obtain ⟨b, o, hv, hc⟩ := addrOf_sound hI hadr (hev y)
        obtain ⟨vs, hr, hd⟩ := loadCells_sound (P := P) hc hob
        refine ⟨.agg vs, run_v ?_, hd⟩
        simp [Instr.loadAt, Sem.run_bind, hv, run_sure, loadVar, run_isAgg ha, run_sizeOf hn, hr]
      · cases hp
    · rename_i n ha hn
      injection hs with hs; subst hs
      simp only [pureOp] at hp
      split at hp
      · rename_i cs off hadr
        split at hp
        · rename_i s hcs
          simp only [Option.some.injEq, Prod.mk.injEq] at hp
          obtain ⟨rfl, rfl⟩ := hp
          obtain ⟨b, o, hv, hc⟩ := addrOf_sound hI hadr (hev y)
          obtain ⟨u, hu, _, hd⟩ := hc off s hcs
          refine ⟨u, run_v ?_, hd⟩
          simp [Instr.loadAt, Sem.run_bind, hv, run_sure, loadVar, run_isAgg ha, hu]
        · cases hp
      · cases hp
    · cases hs
  | fieldAddr s y f =>
    simp only [slimO] at hs
    split at hs
    · rename_i off t hf
      split at hs
      · rename_i n hn
        injection hs with hs; subst hs
        simp only [pureOp] at hp
        have hy := hev y
        split at hp
        · rename_i i o hx
          rw [hx] at hy
          simp only [Option.some.injEq, Prod.mk.injEq] at hp
          obtain ⟨rfl, rfl⟩ := hp
          obtain ⟨hi, b, hl, hv⟩ := hy
          exact ⟨_, run_v (by rw [hv]; exact run_fieldAt hf hn), hi, b, hl, rfl⟩
        · rename_i i k o hx
          rw [hx] at hy
          simp only [Option.some.injEq, Prod.mk.injEq] at hp
          obtain ⟨rfl, rfl⟩ := hp
          obtain ⟨b, n', c, t', sz, mu, get, ht, hl, hk, hv⟩ := hy
          exact ⟨_, run_v (by rw [hv]; exact run_fieldAt hf hn), b, n', c, t', sz, mu, get, ht, hl, hk, by rw [Nat.add_assoc]⟩
        · rename_i cs o hx
          rw [hx] at hy
          simp only [Option.some.injEq, Prod.mk.injEq] at hp
          obtain ⟨rfl, rfl⟩ := hp
          generalize hv : ρ y = v at hy
          cases hy with
          | ref _ _ b o' val h1 h2 h3 h4 h5 =>
            refine ⟨_, run_v (by rw [hv]; exact run_fieldAt hf hn), ?_⟩
            rw [Nat.add_assoc]
            exact .ref cs (o + off) b o' val h1 h2 h3 h4 h5
        · cases hp
      · cases hs
    · cases hs
  | indexAddr t y z =>
    simp only [slimO] at hs
    have hy := hev y
    have hz := hev z
    split at hs
    · rename_i e hu
      split at hs
      · rename_i n hn
        injection hs with hs; subst hs
        simp only [pureOp] at hp
        split at hp
        · rename_i sz' m get kk k hx1 hx2
          rw [hx1] at hy
          rw [hx2] at hz
          simp only [Option.some.injEq, Prod.mk.injEq] at hp
          obtain ⟨rfl, rfl⟩ := hp
          obtain ⟨rfl, h0, h1⟩ := hob
          generalize hv : ρ y = v at hy
          generalize hu' : ρ z = u at hz
          cases hz
          cases hy with
          | lst _ _ _ A c b o val hc hm hA hM hb hzz h1c hcell hd =>
            have hpos : 0 < m := by omega
            have hkn : k.toNat < m := by omega
            refine ⟨.pointer (some ⟨b, o + k.toNat * sz', none⟩), run_v ?_, ?_⟩
            · simp [hv, hu', Instr.indexAt, Sem.run_bind, asIntOf, run_under hu, hA hpos, h0, h1, run_sizeOf hn, add_none]
            · exact .ref (get k.toNat) 0 b (o + k.toNat * sz') (fun j => val k.toNat j) (hM hpos) (hb hpos) (fun j s hj => h1c _ j s hkn hj) (fun j s hj => by rw [Nat.add_assoc]; exact hcell _ j s hkn hj) (fun j s hj => hd _ j s hkn hj)
        · rename_i j kk k hx1 hx2
          rw [hx1] at hy
          rw [hx2] at hz
          split at hp
          · rename_i t' sz' m mu get hrow
            simp only [Option.some.injEq, Prod.mk.injEq] at hp
            obtain ⟨rfl, rfl⟩ := hp
            obtain ⟨rfl, h0, h1⟩ := hob
            generalize hu' : ρ z = u at hz
            cases hz
            obtain ⟨_, hv⟩ := hy
            have hpos : 0 < m := by omega
            obtain ⟨xs, ⟨_, ho⟩, _⟩ := hI.ok j _ hrow
            rcases ho with ⟨_, h00⟩ | ⟨g, cap, cur, hL, _⟩
            · omega
            · refine ⟨.pointer (some ⟨g, k.toNat * sz', none⟩), run_v ?_, g, m, cap, t', sz', mu, get, hrow, hL, by omega, rfl⟩
              simp [hv, hL, hu', Instr.indexAt, Sem.run_bind, asIntOf, run_under hu, h0, h1, run_sizeOf hn, add_none]
          · cases hp
        · rename_i j a b kk k hx1 hx2
          rw [hx1] at hy
          rw [hx2] at hz
          split at hp
          · rename_i t' sz' m mu get hrow
            simp only [Option.some.injEq, Prod.mk.injEq] at hp
            obtain ⟨rfl, rfl⟩ := hp
            obtain ⟨rfl, h0, h1⟩ := hob
            generalize hu' : ρ z = u at hz
            cases hz
            have hrp : rowPart tb (.part j a b) = some (j, a, b, sz', m) := by simp [rowPart, hrow]
            obtain ⟨t2, mu2, get2, hrow2, hab, hbn, hc⟩ := rowPart_sound hI hrp hy
            rcases hc with ⟨_, _, h00⟩ | ⟨g, o, c, hL, ho, hv, hnc⟩
            · omega
            · have ho' := ho (by omega)
              subst ho'
              refine ⟨.pointer (some ⟨g, (a + k.toNat) * sz', none⟩), run_v ?_, g, m, c, t', sz', mu, get, hrow, hL, by omega, by simp⟩
              have h1' : k < ((b - a : Nat) : Int) := by omega
              simp [hv, hu', Instr.indexAt, Sem.run_bind, asIntOf, run_under hu, h0, h1', run_sizeOf hn, add_none, Nat.add_mul]
          · cases hp
        · cases hp
      · cases hs
    · rename_i len e hu
      split at hs
      · rename_i n hn
        injection hs with hs; subst hs
        simp only [pureOp] at hp
        split at hp
        · rename_i j o kk k hx1 hx2
          rw [hx1] at hy
          rw [hx2] at hz
          simp only [Option.some.injEq, Prod.mk.injEq] at hp
          obtain ⟨rfl, rfl⟩ := hp
          generalize hu' : ρ z = u at hz
          cases hz
          obtain ⟨hi, b, hl, hv⟩ := hy
          refine ⟨.pointer (some ⟨b, o + k.toNat * n, none⟩), run_v ?_, hi, b, hl, rfl⟩
          simp [hv, hu', Instr.indexAt, Sem.run_bind, asIntOf, run_under hu, run_sure, hob.1, hob.2, run_sizeOf hn, add_none]
        · rename_i cs o kk k hx1 hx2
          rw [hx1] at hy
          rw [hx2] at hz
          simp only [Option.some.injEq, Prod.mk.injEq] at hp
          obtain ⟨rfl, rfl⟩ := hp
          generalize hv : ρ y = v at hy
          generalize hu' : ρ z = u at hz
          cases hz
          cases hy with
          | ref _ _ b o' val h1 h2 h3 h4 h5 =>
            refine ⟨.pointer (some ⟨b, o' + (o + k.toNat * n), none⟩), run_v ?_, .ref cs _ b o' val h1 h2 h3 h4 h5⟩
            simp [hv, hu', Instr.indexAt, Sem.run_bind, asIntOf, run_under hu, run_sure, hob.1, hob.2, run_sizeOf hn, add_none, Nat.add_assoc]
        · rename_i j q kk k hx1 hx2
          rw [hx1] at hy
          rw [hx2] at hz
          split at hp
          · rename_i t' sz' m mu get hrow
            simp only [Option.some.injEq, Prod.mk.injEq] at hp
            obtain ⟨rfl, rfl⟩ := hp
            obtain ⟨rfl, h0, h1, h2⟩ := hob
            generalize hu' : ρ z = u at hz
            cases hz
            obtain ⟨b, n', c, t2, sz2, mu2, get2, ht, hl, hk, hv⟩ := hy
            rw [hrow] at ht
            injection ht with ht
            injection ht with q1 q2 q3 q4 q5
            subst q1 q2 q3 q4 q5
            refine ⟨.pointer (some ⟨b, (q + k.toNat) * sz', none⟩), run_v ?_, b, m, c, t', sz', mu, get, hrow, hl, h2, rfl⟩
            simp [hv, hu', Instr.indexAt, Sem.run_bind, asIntOf, run_under hu, run_sure, h0, h1, run_sizeOf hn, add_none, Nat.add_mul]
          · cases hp
        · cases hp
      · cases hs
    · cases hs
  | binOp op t y z ty =>
    simp only [slimO] at hs
    have hy := hev y
    have hz := hev z
    have hA : ∀ ne, so = .binA ne t y z → (if ne then BinOp.neq else BinOp.eql) = op → ∃ v, (execOp ρ ⟨dst, .binOp op t y z ty, type, pos, after, guard⟩).run P w = .ok (.value v) w ∧ LDen G w (mset M0 tb L) L tb x v := by
      rintro ne rfl rfl
      simp only [pureOp] at hp
      split at hp
      · rename_i a b hx1 hx2
        rw [hx1] at hy
        rw [hx2] at hz
        split at hp
        · rename_i as bs ha hb
          simp only [Option.some.injEq, Prod.mk.injEq] at hp
          obtain ⟨rfl, rfl⟩ := hp
          generalize hv : ρ y = v at hy
          generalize hu' : ρ z = u at hz
          cases hy with
          | agg _ va hla _ hda =>
            cases hz with
            | agg _ vb hlb _ hdb =>
              have e1 := intsOf_sound (w := w) (M := mset M0 tb L) a as va.toList ha (by simpa using hla) (by simpa using hda)
              have e2 := intsOf_sound (w := w) (M := mset M0 tb L) b bs vb.toList hb (by simpa using hlb) (by simpa using hdb)
              have e1' : va = (as.map (Value.int .i64)).toArray := by rw [← e1]
              have e2' : vb = (bs.map (Value.int .i64)).toArray := by rw [← e2]
              refine ⟨_, run_v ?_, .bool _⟩
              rw [hv, hu', e1', e2']
              exact hob.1 w ne y z as bs rfl hob.2.symm
        · cases hp
      · cases hp
    split at hs
    · injection hs with hs; subst hs
      simp only [pureOp] at hp
      split at hp
      · rename_i a b hx1 hx2
        rw [hx1] at hy
        rw [hx2] at hz
        split at hp
        · rename_i s ob' hb
          simp only [Option.some.injEq, Prod.mk.injEq] at hp
          obtain ⟨rfl, rfl⟩ := hp
          obtain ⟨r, hr, hd⟩ := binSV_sound (P := P) (t := t) (x := y) (y := z) hb hob hy hz
          exact ⟨r, run_v hr, hd⟩
        · cases hp
      · cases hp
    · rename_i hu
      injection hs with hs; subst hs
      simp only [pureOp] at hp
      split at hp
      · rename_i a b hx1 hx2
        rw [hx1] at hy
        rw [hx2] at hz
        split at hp
        · rename_i s ob' hb
          simp only [Option.some.injEq, Prod.mk.injEq] at hp
          obtain ⟨rfl, rfl⟩ := hp
          obtain ⟨r, hr, hd⟩ := binB_sound (P := P) (x := y) (y := z) hu hb hy hz
          exact ⟨r, run_v hr, hd⟩
        · cases hp
      · cases hp
    · split at hs
      · injection hs with hs; exact hA false hs.symm rfl
      · injection hs with hs; exact hA true hs.symm rfl
      · cases hs
    · split at hs
      · injection hs with hs; exact hA false hs.symm rfl
      · injection hs with hs; exact hA true hs.symm rfl
      · cases hs
    · split at hs
      · split at hs
        · split at hs
          · injection hs with hs; subst hs; simp [pureOp] at hp
          · injection hs with hs; subst hs; simp [pureOp] at hp
          · cases hs
        · cases hs
      · cases hs
    · cases hs
  | unOp op t y =>
    simp only [slimO, Option.some.injEq] at hs; subst hs
    have hy := hev y
    simp only [pureOp] at hp
    split at hp
    · rename_i a hx
      rw [hx] at hy
      generalize hv : ρ y = v at hy
      split at hp
      · rename_i s ob' hb
        simp only [Option.some.injEq, Prod.mk.injEq] at hp
        obtain ⟨rfl, rfl⟩ := hp
        cases hy with
        | int k n =>
          cases op <;> simp only [unSV, Option.some.injEq, Prod.mk.injEq, reduceCtorEq] at hb
          obtain ⟨rfl, rfl⟩ := hb
          refine ⟨_, run_v ?_, .int _ _⟩
          rw [hv]
          simp only [Op.unary, Op.intArith, wrap_in hob]
          rfl
        | bool b =>
          cases op <;> simp only [unSV, Option.some.injEq, Prod.mk.injEq, reduceCtorEq] at hb
          obtain ⟨rfl, rfl⟩ := hb
          refine ⟨_, run_v ?_, .bool _⟩
          rw [hv]
          rfl
        | val =>
          cases v with
          | int k n =>
            cases op <;> simp only [unSV, Option.some.injEq, Prod.mk.injEq, reduceCtorEq] at hb
            obtain ⟨rfl, rfl⟩ := hb
            refine ⟨_, run_v ?_, .val _⟩
            rw [hv]
            simp only [Op.unary, Op.intArith]
            rfl
          | _ => simp [unSV] at hb
        | _ => simp [unSV] at hb
      · cases hp
    · cases hp
  | convert s d y =>
    simp only [slimO] at hs
    split at hs
    · rename_i k1 k2 hu1 hu2
      injection hs with hs; subst hs
      have hy := hev y
      simp only [pureOp] at hp
      split at hp
      · rename_i k n hx
        rw [hx] at hy
        simp only [Option.some.injEq, Prod.mk.injEq] at hp
        obtain ⟨rfl, rfl⟩ := hp
        generalize hv : ρ y = v at hy
        cases hy
        refine ⟨_, run_v ?_, .int _ _⟩
        rw [hv]
        simp [convert, Sem.run_bind, run_under hu1, run_under hu2, Conv.intToInt, wrap_in hob]
      · cases hp
    · cases hs
  | extract y i =>
    simp only [slimO, Option.some.injEq] at hs; subst hs
    have hy := hev y
    simp only [pureOp] at hp
    split at hp
    · rename_i vs hx
      rw [hx] at hy
      split at hp
      · rename_i s hi
        simp only [Option.some.injEq, Prod.mk.injEq] at hp
        obtain ⟨rfl, rfl⟩ := hp
        generalize hv : ρ y = v at hy
        cases hy with
        | tup _ us hl hh =>
          have hlt : i < us.size := by rw [← hl]; exact (List.getElem?_eq_some_iff.1 hi).1
          refine ⟨us[i], run_v ?_, hh i s _ hi (by simp [hlt])⟩
          rw [hv]
          simp [Instr.extract, hlt]
      · cases hp
    · cases hp
  | field s y f =>
    simp only [slimO] at hs
    split at hs
    · rename_i off t hf
      obtain ⟨fs, fd, hu, hfd, rfl, rfl⟩ := fieldOf_spec hf
      have hy := hev y
      split at hs
      · rename_i n ha hn
        injection hs with hs; subst hs
        simp only [pureOp] at hp
        split at hp
        · rename_i cs hx
          rw [hx] at hy
          simp only [Option.some.injEq, Prod.mk.injEq] at hp
          obtain ⟨rfl, rfl⟩ := hp
          generalize hv : ρ y = v at hy
          cases hy with
          | agg _ vs hl h1 hh =>
            refine ⟨.agg (vs.extract fd.offset (fd.offset + n)), run_v ?_, ?_⟩
            · rw [hv]
              simp [Instr.field, Sem.run_bind, run_under hu, hfd, asAgg, run_part_agg ha hn]
            · refine .agg _ _ ?_ ?_ ?_
              · simp; omega
              · intro i v' hi
                rw [Array.getElem?_extract] at hi
                split at hi
                · exact h1 _ _ hi
                · cases hi
              · intro i s' v' hs' hi
                rw [Array.getElem?_extract] at hi
                split at hi
                · have hlt : i < n := by omega
                  rw [List.getElem?_take_of_lt hlt, List.getElem?_drop] at hs'
                  exact hh _ _ _ hs' hi
                · cases hi
        · cases hp
      · rename_i n ha hn
        injection hs with hs; subst hs
        simp only [pureOp] at hp
        split at hp
        · rename_i cs hx
          rw [hx] at hy
          split at hp
          · rename_i s' hcs
            simp only [Option.some.injEq, Prod.mk.injEq] at hp
            obtain ⟨rfl, rfl⟩ := hp
            generalize hv : ρ y = v at hy
            cases hy with
            | agg _ vs hl h1 hh =>
              have hlt : fd.offset < vs.size := by rw [← hl]; exact (List.getElem?_eq_some_iff.1 hcs).1
              refine ⟨vs[fd.offset], run_v ?_, hh _ _ _ hcs (by simp [hlt])⟩
              rw [hv]
              simp [Instr.field, Sem.run_bind, run_under hu, hfd, asAgg, run_part_one ha (show vs[fd.offset]? = some vs[fd.offset] by simp [hlt])]
          · cases hp
        · cases hp
      · cases hs
    · cases hs
  | makeFunc fn first caps =>
    have hcase : ∃ f, fn = .func f ∧ first = ⟨[]⟩ ∧ so = .mkfn f caps.toList := by
      cases fn with
      | func f =>
        obtain ⟨l⟩ := first
        cases l with
        | nil => simp [slimO] at hs; exact ⟨f, rfl, rfl, hs.symm⟩
        | cons _ _ => simp [slimO] at hs
      | _ => simp [slimO] at hs
    obtain ⟨f, rfl, rfl, rfl⟩ := hcase
    simp only [pureOp] at hp
    split at hp
    · rename_i l hl
      simp only [Option.some.injEq, Prod.mk.injEq] at hp
      obtain ⟨rfl, rfl⟩ := hp
      obtain ⟨h1, h2⟩ := optList_get _ _ hl
      refine ⟨.func (.func f) #[] (caps.map ρ), by simp [execOp, Instr.makeFunc], .fn f l _ (by simpa using h1.symm) fun i s v hi hv => ?_⟩
      have := h2 i s hi
      simp only [List.getElem?_map, Option.map_eq_some_iff] at this
      obtain ⟨y, hy, hsh⟩ := this
      rw [Array.getElem?_map] at hv
      have hy' : caps[i]? = some y := by simpa using hy
      rw [hy'] at hv
      simp at hv
      subst hv
      exact shut_den hI hM0 hsh (hev y)
    · cases hp
  | build t parts =>
    simp only [slimO] at hs
    split at hs
    · rename_i place z hpl hz
      split at hs
      · rename_i ps hps
        injection hs with hs; subst hs
        obtain ⟨h1, h2⟩ := optList_get _ _ hps
        obtain ⟨it, zv, hit, hzv, hzc, hz1⟩ := zeroOf_spec hz
        simp only [pureOp] at hp
        split at hp
        · rename_i l hl
          simp only [Option.some.injEq, Prod.mk.injEq] at hp
          obtain ⟨rfl, rfl⟩ := hp
          have hone : ∀ (i : Nat) v, zv.cells[i]? = some v → v.oneCell' = true := fun i v hv => hz1 v (by rw [← hzc]; exact Array.mem_toList_iff.2 (Array.mem_of_getElem? hv))
          have hz' : (z.map SV.val).length = zv.cells.size := by rw [← hzc]; simp
          have hzd : ∀ (i : Nat) s v, (z.map SV.val)[i]? = some s → zv.cells[i]? = some v → Den w (mset M0 tb L) s v := by
            intro i s v hi hv
            rw [← hzc] at hi
            simp only [List.getElem?_map, Array.getElem?_toList, hv, Option.map_some, Option.some.injEq] at hi
            subst hi
            exact .val v
          obtain ⟨vs', hf, hd⟩ : ∃ vs', Instr.fill place zv.cells (parts.toList.map fun p => (p.1, ρ p.2)) = some vs' ∧ Den w (mset M0 tb L) (.agg l) (.agg vs') := by
            refine fill_sound _ _ _ _ _ (by simp at h1 ⊢; omega) (fun k off n s i v hk hv => ?_) hz' hone hzd hl
            simp only [List.getElem?_map, Option.map_eq_some_iff] at hk hv
            obtain ⟨⟨o1, o2, o3⟩, hk1, hk2⟩ := hk
            obtain ⟨⟨i', x'⟩, hv1, hv2⟩ := hv
            simp only [Prod.mk.injEq] at hk2 hv2
            obtain ⟨rfl, rfl, hk2⟩ := hk2
            obtain ⟨rfl, rfl⟩ := hv2
            have hpo := h2 k _ hk1
            simp only [List.getElem?_map, hv1, Option.map_some, Option.some.injEq, partOf] at hpo
            split at hpo
            · rename_i o n hpi
              simp only [Option.some.injEq, Prod.mk.injEq] at hpo
              obtain ⟨rfl, rfl, rfl⟩ := hpo
              exact ⟨hpi, shut_den hI hM0 hk2 (hev _)⟩
            · cases hpo
          refine ⟨.agg vs', run_v (run_build w t _ vs' ?_), hd⟩
          unfold placeOf at hpl
          have hmap : (Array.map (fun x => (x.fst, ρ x.snd)) parts).toList = parts.toList.map fun p => (p.1, ρ p.2) := by simp
          unfold Program.built
          split at hpl
          · rename_i len e hu
            split at hpl
            · rename_i ie hie
              injection hpl with hpl
              subst hpl
              simp only [hit, hu, hzv, hie]
              rw [hmap]
              exact hf
            · cases hpl
          · rename_i fields hu
            split at hpl
            · rename_i places hpp
              injection hpl with hpl
              subst hpl
              simp only [hit, hu, hzv, hpp]
              rw [hmap]
              exact hf
            · cases hpl
          · cases hpl
        · cases hp
      · cases hs
    · cases hs
  | slice t y lo hi mx =>
    cases mx with
    | some mx =>
      simp only [slimO] at hs
      split at hs
      · rename_i e he
        have hu := elemOf_spec he
        split at hs
        · rename_i n hn
          injection hs with hs; subst hs
          simp only [pureOp] at hp
          split at hp
          · rename_i j a b sz' m hrp
            obtain ⟨t2, mu2, get2, hrow2, hab, hbn, hc⟩ := rowPart_sound hI hrp (hev y)
            split at hp
            · rename_i l h mm hlo hhi hmx
              simp only [Option.some.injEq, Prod.mk.injEq] at hp
              obtain ⟨rfl, rfl⟩ := hp
              obtain ⟨hsz, h0, h1, h2, h3⟩ := hob
              have hmx' := natOpt hev (some mx) 0 mm (by simpa using hmx)
              have hhi' : (hi.map fun y => natOf (ev' y)).getD (some 0) = some h := by rw [hhi]; rfl
              rcases hmx' with ⟨hx, _⟩ | ⟨z3, k3, hz3, hm3⟩
              · cases hx
              injection hz3 with hz3
              subst hz3
              have hbd : ∀ len c : Nat, mm ≤ c → (Instr.sliceBounds true len c (lo.map ρ) (hi.map ρ) (some (ρ mx))).run P w = .ok (l.toNat, h.toNat, mm.toNat) w := by
                intro len c hmc
                rcases natOpt hev hi 0 h hhi' with ⟨rfl, _⟩ | ⟨z', k', rfl, hz'⟩
                · cases hhi
                rcases natOpt hev lo 0 l hlo with ⟨rfl, rfl⟩ | ⟨z, k, rfl, hz⟩
                · simp [Instr.sliceBounds, hz', hm3, run_bound (P := P) (w := w) (show (0 : Int) ≤ mm by omega) (show mm ≤ (c : Int) by omega), run_bound (P := P) (w := w) (show (0 : Int) ≤ h by omega) (show h ≤ (mm.toNat : Int) by omega)]
                · simp [Instr.sliceBounds, hz, hz', hm3, run_bound (P := P) (w := w) (show (0 : Int) ≤ mm by omega) (show mm ≤ (c : Int) by omega), run_bound (P := P) (w := w) (show (0 : Int) ≤ h by omega) (show h ≤ (mm.toNat : Int) by omega), run_bound (P := P) (w := w) (show (0 : Int) ≤ l by omega) (show l ≤ (h.toNat : Int) by omega)]
              rcases hc with ⟨_, hv, h00⟩ | ⟨g, o, c, hL, ho, hv, hnc⟩
              · refine ⟨.slice (if mm.toNat = l.toNat then none else Option.map (fun z : Addr => z.add (l.toNat * n)) none) (h.toNat - l.toNat) (mm.toNat - l.toNat), run_v ?_, trivial⟩
                simp only [Instr.sliceAt, Sem.run_bind, run_under hu, Result.andThen_ok, Instr.slice, hv, Option.map_some, hbd 0 0 (by omega), run_sizeOf hn, Sem.run_pure]
              · refine ⟨.slice (if mm.toNat = l.toNat then some ⟨g, o, none⟩ else Option.map (fun z : Addr => z.add (l.toNat * n)) (some ⟨g, o, none⟩)) (h.toNat - l.toNat) (mm.toNat - l.toNat), run_v ?_, trivial⟩
                simp only [Instr.sliceAt, Sem.run_bind, run_under hu, Result.andThen_ok, Instr.slice, hv, Option.map_some, hbd (b - a) (c - a) (by omega), run_sizeOf hn, Sem.run_pure]
            · cases hp
          · cases hp
        · cases hs
      · cases hs
    | none =>
      simp only [slimO] at hs
      split at hs
      · rename_i e he
        have hu := elemOf_spec he
        split at hs
        · rename_i n hn
          injection hs with hs; subst hs
          simp only [pureOp] at hp
          split at hp
          · rename_i hsh
            have hy := shut_den hI hM0 hsh (hev y)
            split at hp
            · rename_i l h hlo hhi
              simp only [Option.some.injEq, Prod.mk.injEq] at hp
              obtain ⟨rfl, rfl⟩ := hp
              obtain ⟨rfl, rfl⟩ := hob
              generalize hv : ρ y = v at hy
              cases hy
              have hbd := run_sliceBounds (P := P) hev (m := 0) (c := 0) hlo hhi (Int.le_refl _) (Int.le_refl _) (by omega)
              refine ⟨.slice none 0 0, run_v ?_, .val _⟩
              simp [Instr.sliceAt, Sem.run_bind, run_under hu, Result.andThen_ok, Instr.slice, hv, hbd, run_sizeOf hn, Sem.run_pure]
            · cases hp
          · rename_i s _ hsh
            have hy := shut_den hI hM0 hsh (hev y)
            split at hp
            · rename_i m get hls
              split at hp
              · rename_i l h hlo hhi
                simp only [Option.some.injEq, Prod.mk.injEq] at hp
                obtain ⟨rfl, rfl⟩ := hp
                obtain ⟨hsz, h0, h1, h2⟩ := hob
                have hd := den_lstOf' hls hsz hy
                generalize hv : ρ y = v at hd
                cases hd with
                | lst _ _ _ A c b o val hc hm hA hM hb hzz h1c hcell hdd =>
                  have hopt : ∀ (q : Option Operand) (d r : Int), (q.map fun y => natOf (ev' y)).getD (some d) = some r → (q = none ∧ d = r) ∨ ∃ z k, q = some z ∧ ρ z = .int k r := by
                    intro q d r hq
                    cases q with
                    | none => simp at hq; exact .inl ⟨rfl, hq⟩
                    | some z =>
                      simp at hq
                      have hz := hev z
                      unfold natOf at hq
                      split at hq
                      · rename_i k n' hx
                        rw [hx] at hz
                        injection hq with hq
                        subst hq
                        generalize hzv : ρ z = u at hz
                        cases hz
                        exact .inr ⟨z, k, rfl, hzv⟩
                      · cases hq
                  have hbounds : (Instr.sliceBounds true m c (lo.map ρ) (hi.map ρ) none).run P w = .ok (l.toNat, h.toNat, c) w := by
                    rcases hopt lo 0 l hlo with ⟨rfl, rfl⟩ | ⟨z, k, rfl, hz⟩ <;> rcases hopt hi m h hhi with ⟨rfl, rfl⟩ | ⟨z', k', rfl, hz'⟩
                    · simp [Instr.sliceBounds]
                    · simp [Instr.sliceBounds, hz', run_bound (P := P) (w := w) (show (0 : Int) ≤ h by omega) (show h ≤ (c : Int) by omega)]
                    · simp [Instr.sliceBounds, hz, run_bound (P := P) (w := w) (show (0 : Int) ≤ l by omega) (show l ≤ (m : Int) by omega)]
                    · simp [Instr.sliceBounds, hz, hz', run_bound (P := P) (w := w) (show (0 : Int) ≤ h by omega) (show h ≤ (c : Int) by omega), run_bound (P := P) (w := w) (show (0 : Int) ≤ l by omega) (show l ≤ (h.toNat : Int) by omega)]
                  refine ⟨.slice (if c = l.toNat then A else A.map (·.add (l.toNat * n))) (h.toNat - l.toNat) (c - l.toNat), run_v ?_, ?_⟩
                  · simp only [Instr.sliceAt, Sem.run_bind, run_under hu, Result.andThen_ok, Instr.slice, hv, Option.map_none, hbounds, run_sizeOf hn, Sem.run_pure]
                  · refine .lst n _ _ _ _ b (o + l.toNat * n) (fun i j => val (l.toNat + i) j) (by omega) (by omega) (fun hpos => ?_) (fun hpos => hM (by omega)) (fun hpos => hb (by omega)) (fun i hi => hzz _ (by omega)) (fun i j s hi hj => h1c _ j s (by omega) hj) (fun i j s hi hj => ?_) (fun i j s hi hj => hdd _ j s (by omega) hj)
                    · rw [if_neg (by omega), hA (by omega)]
                      simp [add_none]
                    · rw [show o + l.toNat * n + (i * n + j) = o + ((l.toNat + i) * n + j) by rw [Nat.add_mul]; omega]
                      exact hcell _ j s (by omega) hj
              · cases hp
            · cases hp
          · split at hp
            · rename_i j a b sz' m hrp
              obtain ⟨t2, mu2, get2, hrow2, hab, hbn, hc⟩ := rowPart_sound hI hrp (hev y)
              split at hp
              · rename_i l h hlo hhi
                simp only [Option.some.injEq, Prod.mk.injEq] at hp
                obtain ⟨rfl, rfl⟩ := hp
                obtain ⟨rfl, h0, h1, h2⟩ := hob
                rcases hc with ⟨hL, hv, h00⟩ | ⟨g, o, c, hL, ho, hv, hnc⟩
                · have hb0 : b - a = 0 := by omega
                  rw [hb0] at hhi
                  have hbd := run_sliceBounds (P := P) hev (m := 0) (c := 0) hlo hhi h0 h1 (by omega)
                  have e1 : l.toNat = 0 := by omega
                  have e2 : h.toNat = 0 := by omega
                  rw [e1, e2] at hbd
                  refine ⟨.slice none 0 0, run_v ?_, m, t2, sz', mu2, get2, hrow2, by omega, by omega, .inl ⟨hL, rfl⟩⟩
                  simp [Instr.sliceAt, Sem.run_bind, run_under hu, Result.andThen_ok, Instr.slice, hv, hbd, run_sizeOf hn, Sem.run_pure]
                · have hbd := run_sliceBounds (P := P) hev (m := b - a) (c := c - a) hlo hhi h0 h1 (by omega)
                  refine ⟨.slice (if c - a = l.toNat then some ⟨g, o, none⟩ else (some ⟨g, o, none⟩ : Option Addr).map (·.add (l.toNat * sz'))) (h.toNat - l.toNat) (c - a - l.toNat), run_v ?_, m, t2, sz', mu2, get2, hrow2, by omega, by omega, .inr ⟨g, if c - a = l.toNat then o else o + l.toNat * sz', c, hL, fun hlt => ?_, ?_⟩⟩
                  · simp only [Instr.sliceAt, Sem.run_bind, run_under hu, Result.andThen_ok, Instr.slice, hv, Option.map_none, hbd, run_sizeOf hn, Sem.run_pure]
                  · split
                    · rw [ho (by omega)]
                      rcases hlt with hlt | hlt
                      · rw [hlt, show a = 0 by omega]
                      · omega
                    · rw [ho (by omega), Nat.add_mul]
                  · rw [show a + h.toNat - (a + l.toNat) = h.toNat - l.toNat by omega, show c - (a + l.toNat) = c - a - l.toNat by omega]
                    split <;> simp [add_none]
              · cases hp
            · cases hp
        · cases hs
      · cases hs
  | call c =>
    obtain ⟨callee, args, tys⟩ := c
    obtain ⟨args⟩ := args
    obtain ⟨tys⟩ := tys
    cases callee with
    | builtin bi =>
      cases bi with
      | len =>
        match args, tys, hs with
        | [y], [t], hs =>
          simp only [slimO] at hs
          split at hs
          · rename_i e he
            have hu := elemOf_spec he
            injection hs with hs; subst hs
            have hy := hev y
            have hlen : ∀ A n c, ρ y = .slice A n c → (execOp ρ ⟨dst, .call ⟨.builtin .len, ⟨[y]⟩, ⟨[t]⟩⟩, type, pos, after, guard⟩).run P w = .ok (.value (.int .i64 n)) w := by
              intro A n c hv
              simp [execOp, resolve, invoke, builtin, Builtin.len_, hv, run_under hu, goInt]
            simp only [pureOp] at hp
            split at hp
            · rename_i s hx
              rw [hx] at hy
              split at hp
              · rename_i n get hls
                simp only [Option.some.injEq, Prod.mk.injEq] at hp
                obtain ⟨rfl, rfl⟩ := hp
                obtain ⟨A, c, hv⟩ := den_lstOf hls hy
                exact ⟨_, hlen A n c hv, .int _ _⟩
              · cases hp
            · rename_i j hx
              rw [hx] at hy
              split at hp
              · rename_i t' sz n mu get hrow
                simp only [Option.some.injEq, Prod.mk.injEq] at hp
                obtain ⟨rfl, rfl⟩ := hp
                obtain ⟨_, hv⟩ := hy
                obtain ⟨xs, ⟨_, ho⟩, _⟩ := hI.ok j _ hrow
                rcases ho with ⟨hL, h00⟩ | ⟨g, cap, cur, hL, _⟩
                · subst h00; rw [hL] at hv; exact ⟨_, hlen _ _ _ hv, .int _ _⟩
                · rw [hL] at hv; exact ⟨_, hlen _ _ _ hv, .int _ _⟩
              · cases hp
            · rename_i j a b hx
              rw [hx] at hy
              simp only [Option.some.injEq, Prod.mk.injEq] at hp
              obtain ⟨rfl, rfl⟩ := hp
              obtain ⟨n, t', sz, mu, get, hrow, h1, h2, h3⟩ := hy
              rcases h3 with ⟨hL, hv⟩ | ⟨b', o, c, hL, _, hv⟩
              · obtain ⟨xs, ⟨_, ho⟩, _⟩ := hI.ok j _ hrow
                rcases ho with ⟨_, h00⟩ | ⟨g, cap, cur, hL', _⟩
                · have : b - a = 0 := by omega
                  rw [this]
                  exact ⟨_, hlen _ _ _ hv, .int _ _⟩
                · rw [hL] at hL'; cases hL'
              · exact ⟨_, hlen _ _ _ hv, .int _ _⟩
            · cases hp
          · cases hs
        | [], _, hs => simp [slimO] at hs
        | _ :: _ :: _, _, hs => simp [slimO] at hs
        | [_], [], hs => simp [slimO] at hs
        | [_], _ :: _ :: _, hs => simp [slimO] at hs
      | min =>
        match args, hs with
        | [y, z], hs =>
          simp only [slimO, Option.some.injEq] at hs; subst hs
          have hy := hev y
          have hz := hev z
          simp only [pureOp] at hp
          split at hp
          · rename_i k a k' b hx1 hx2
            rw [hx1] at hy
            rw [hx2] at hz
            simp only [Option.some.injEq, Prod.mk.injEq] at hp
            obtain ⟨rfl, rfl⟩ := hp
            generalize hv : ρ y = v at hy
            generalize hu' : ρ z = u at hz
            cases hz
            cases hy
            refine ⟨.int k (min a b), ?_, .int _ _⟩
            simp [execOp, resolve, invoke, builtin, Builtin.min_, hv, hu', Builtin.min2]
            omega
          · rename_i k a k' b hx1 hx2
            rw [hx1] at hy
            rw [hx2] at hz
            simp only [Option.some.injEq, Prod.mk.injEq] at hp
            obtain ⟨rfl, rfl⟩ := hp
            generalize hv : ρ y = v at hy
            generalize hu' : ρ z = u at hz
            cases hz
            cases hy
            refine ⟨.int k (min a b), ?_, .int _ _⟩
            simp [execOp, resolve, invoke, builtin, Builtin.min_, hv, hu', Builtin.min2]
            omega
          · cases hp
        | [], hs => simp [slimO] at hs
        | [_], hs => simp [slimO] at hs
        | _ :: _ :: _ :: _, hs => simp [slimO] at hs
      | max =>
        match args, hs with
        | [y, z], hs =>
          simp only [slimO, Option.some.injEq] at hs; subst hs
          have hy := hev y
          have hz := hev z
          simp only [pureOp] at hp
          split at hp
          · rename_i k a k' b hx1 hx2
            rw [hx1] at hy
            rw [hx2] at hz
            simp only [Option.some.injEq, Prod.mk.injEq] at hp
            obtain ⟨rfl, rfl⟩ := hp
            generalize hv : ρ y = v at hy
            generalize hu' : ρ z = u at hz
            cases hz
            cases hy
            refine ⟨.int k (max a b), ?_, .int _ _⟩
            simp [execOp, resolve, invoke, builtin, Builtin.max_, hv, hu', Builtin.max2]
            omega
          · rename_i k a k' b hx1 hx2
            rw [hx1] at hy
            rw [hx2] at hz
            simp only [Option.some.injEq, Prod.mk.injEq] at hp
            obtain ⟨rfl, rfl⟩ := hp
            generalize hv : ρ y = v at hy
            generalize hu' : ρ z = u at hz
            cases hz
            cases hy
            refine ⟨.int k (max a b), ?_, .int _ _⟩
            simp [execOp, resolve, invoke, builtin, Builtin.max_, hv, hu', Builtin.max2]
            omega
          · cases hp
        | [], hs => simp [slimO] at hs
        | [_], hs => simp [slimO] at hs
        | _ :: _ :: _ :: _, hs => simp [slimO] at hs
      | append => exact (slim_append hs hp).elim
      | clear => exact (slim_clear hs hp).elim
      | copy => exact (slim_copy hs hp).elim
      | cap =>
        match args, tys, hs with
        | [y], [t], hs =>
          simp only [slimO] at hs
          split at hs
          · rename_i e he
            have hu := elemOf_spec he
            injection hs with hs; subst hs
            have hy := hev y
            simp only [pureOp] at hp
            split at hp
            · rename_i hx
              rw [hx] at hy
              simp only [Option.some.injEq, Prod.mk.injEq] at hp
              obtain ⟨rfl, rfl⟩ := hp
              generalize hv : ρ y = v at hy
              cases hy
              exact ⟨.int .i64 0, by simp [execOp, resolve, invoke, builtin, Builtin.cap_, hv, run_under hu, goInt], .int _ _⟩
            · cases hp
          · cases hs
        | [], _, hs => simp [slimO] at hs
        | _ :: _ :: _, _, hs => simp [slimO] at hs
        | [_], [], hs => simp [slimO] at hs
        | [_], _ :: _ :: _, hs => simp [slimO] at hs
      | _ => simp [slimO] at hs
    | value f =>
      cases f with
      | func f =>
        simp only [slimO] at hs
        split at hs
        · split at hs
          · rename_i x y t u hargs
            simp only [Array.mk.injEq] at hargs
            subst hargs
            injection hs with hs; subst hs
            have hx := hev x
            have hy := hev y
            simp only [pureOp] at hp
            split at hp
            · rename_i sz n get j lo hi f' hx1 hx2 hx3
              rw [hx1] at hx
              rw [hx2] at hy
              have hff := hev (.func f)
              rw [hx3] at hff
              split at hp
              · rename_i t0 sz0 n0 get0 hrow
                simp only [Option.some.injEq, Prod.mk.injEq] at hp
                obtain ⟨rfl, rfl⟩ := hp
                obtain ⟨⟨fn, r, e, ne, hf, hname, hbody, hfn, hfe, hu, hsz⟩, hsz0⟩ := hob
                refine ⟨.bool false, ?_, .bool _⟩
                have hrun : (callFunc f' #[ρ x, ρ y]).run P w = .ok (.value (.bool false)) w := by
                  rw [run_callFunc_extern hf hname hbody hfn hfe]
                  obtain ⟨A, c, b, o, hxv, hA, hMb, hcell⟩ : ∃ (A : Option Addr) (c b o : Nat), ρ x = .slice A n c ∧ (0 < n → A = some ⟨b, o, none⟩) ∧ (0 < n → ¬ mset M0 tb L b) ∧ (0 < n → ∃ v, w.cell? ⟨b, o, none⟩ = some v) := by
                    generalize ρ x = v at hx
                    cases hx with
                    | lst _ _ _ A c b o val hc hm hA hM hb hz h1 hcell hd =>
                      refine ⟨A, c, b, o, rfl, hA, hM, fun h0 => ?_⟩
                      have hl := hz 0 h0
                      cases hg : get 0 with
                      | nil => rw [hg] at hl; simp at hl; omega
                      | cons q qs =>
                        have := hcell 0 0 q h0 (by rw [hg]; rfl)
                        exact ⟨_, by simpa using this⟩
                  obtain ⟨n', t', sz', mu', get', hj', h1, h2, h3⟩ := hy
                  obtain ⟨xs, ⟨hxl, ho⟩, _⟩ := hI.ok j _ hrow
                  rcases h3 with ⟨hL, hyv⟩ | ⟨b', o', c', hL, _, hyv⟩
                  · rw [hxv, hyv, ovl_run hu hsz _ _ _ _ _ _ (fun ad bd _ h => by cases h)]
                    rfl
                  · rw [hxv, hyv, ovl_run hu hsz _ _ _ _ _ _ (fun ad bd hA' hB' => ?_)]
                    · rfl
                    · rcases Nat.eq_zero_or_pos n with h0 | h0
                      · exact .inl h0
                      · right; right; right
                        rw [hA h0] at hA'
                        injection hA' with hA'
                        injection hB' with hB'
                        subst hA' hB'
                        have hm : mset M0 tb L b' := .inr ⟨j, _, hrow, rfl, by rw [hL]; rfl⟩
                        refine ⟨fun he => hMb h0 (by rw [show b = b' from he]; exact hm), ?_, ?_⟩
                        · obtain ⟨v, hv⟩ := hcell h0
                          unfold World.cell? at hv
                          split at hv
                          · rename_i cs tt fr hh
                            refine ⟨cs, tt, fr, hh, ?_⟩
                            simp at hv
                            obtain ⟨q, _⟩ := Array.getElem?_eq_some_iff.1 hv
                            omega
                          · cases hv
                        · rcases ho with ⟨hl, _⟩ | ⟨g, cap, cur, hl, hg0, hh, _⟩
                          · rw [hL] at hl; cases hl
                          · rw [hL] at hl
                            injection hl with e1 _ _
                            injection e1 with e1
                            injection e1 with e1 _
                            subst e1
                            exact ⟨cur, t0, hh⟩
                generalize hfv : ρ (.func f) = vf at hff
                cases hff with
                | fn _ _ vs hl hh =>
                  have hvs : vs = #[] := Array.eq_empty_of_size_eq_zero (by simpa using hl.symm)
                  subst hvs
                  simpa [execOp, resolve, invoke, hfv, Deferred.ofValue] using hrun
              · cases hp
            · cases hp
          · cases hs
        · injection hs with hs; subst hs; simp [pureOp] at hp
      | _ => simp [slimO] at hs <;> subst hs <;> simp [pureOp] at hp
    | invoke r m => simp [slimO] at hs
  | box t y => simp [slimO] at hs; subst hs; simp [pureOp] at hp
  | buildSlice t len parts => exact (slim_buildSlice hs hp).elim
  | makeSlice t n c => exact (slim_makeSlice hs hp).elim
  | alloc t => exact (slim_alloc hs hp).elim
  | store t y v => exact (slim_store hs hp).elim
  | pick c a b => cases c <;> simp [slimO] at hs; subst hs; simp [pureOp] at hp
  | makeMap t r =>
    cases r with
    | some r => simp [slimO] at hs
    | none =>
      simp only [slimO] at hs
      split at hs
      · injection hs with hs; subst hs; simp [pureOp] at hp
      · cases hs
  | mapUpdate t m k v =>
    simp only [slimO] at hs
    split at hs
    · injection hs with hs; subst hs; simp [pureOp] at hp
    · cases hs
  | lookup t y k ok =>
    simp only [slimO] at hs
    split at hs
    · rename_i z hz
      obtain ⟨kt, e, hu, hk, hzr, hz1⟩ := mapOf_spec hz
      injection hs with hs; subst hs
      have hy := hev y
      have hkk := hev k
      simp only [pureOp] at hp
      split at hp
      · rename_i i n hx1 hx2
        rw [hx1] at hy
        rw [hx2] at hkk
        split at hp
        · rename_i z' keys get hi
          simp only [Option.some.injEq, Prod.mk.injEq] at hp
          obtain ⟨rfl, rfl⟩ := hp
          subst hob
          generalize hkv : ρ k = kv at hkk
          cases hkk
          obtain ⟨_, hyv⟩ := hy
          obtain ⟨b, es, clock, hL, hh, h1, h2, h3, h4, h5, h6⟩ := hI.ok i _ hi
          rw [hL] at hyv
          have hobj : (getObj b).run P w = .ok (.map es clock) w := by simp [getObj, Sem.run, hh]
          rcases findNow_int .i64 es.toList keys 0 n h1 with ⟨hn, hf⟩ | ⟨j, en, hj, he, hf⟩
          · have hd := h6 n hn
            have hdec : decide (n ∈ keys) = false := by simpa using hn
            cases ok with
            | true =>
              refine ⟨.tuple #[z', .bool false], run_v ?_, .tup _ _ rfl (fun q s v hs hv => ?_)⟩
              · simp [hyv, hkv, Instr.lookup, Sem.run_bind, run_under hu, run_under hk, hobj, checkKey_int hk, Instr.findKey, hf, hzr]
              · match q, hs, hv with
                | 0, hs, hv => cases hs; cases hv; exact hd
                | 1, hs, hv => simp only [hdec] at hs; cases hs; cases hv; exact .bool _
                | q + 2, hs, _ => cases hs
            | false =>
              refine ⟨z', run_v ?_, hd⟩
              simp [hyv, hkv, Instr.lookup, Sem.run_bind, run_under hu, run_under hk, hobj, checkKey_int hk, Instr.findKey, hf, hzr]
          · have hd := h5 j n en hj he
            have hdec : decide (n ∈ keys) = true := by simpa using List.mem_of_getElem? hj
            cases ok with
            | true =>
              refine ⟨.tuple #[en.val, .bool true], run_v ?_, .tup _ _ rfl (fun q s v hs hv => ?_)⟩
              · simp [hyv, hkv, Instr.lookup, Sem.run_bind, run_under hu, run_under hk, hobj, checkKey_int hk, Instr.findKey, hf]
              · match q, hs, hv with
                | 0, hs, hv => cases hs; cases hv; exact hd
                | 1, hs, hv => simp only [hdec] at hs; cases hs; cases hv; exact .bool _
                | q + 2, hs, _ => cases hs
            | false =>
              refine ⟨en.val, run_v ?_, hd⟩
              simp [hyv, hkv, Instr.lookup, Sem.run_bind, run_under hu, run_under hk, hobj, checkKey_int hk, Instr.findKey, hf]
        · cases hp
      · cases hp
    · cases hs
  | _ => first | (simp [slimO] at hs; done) | (simp only [slimO] at hs; repeat' split at hs; all_goals first | (cases hs; done) | (injection hs with hs; subst hs; simp [pureOp] at hp))
end
end Go.Sx

namespace Go.Sx
open Go Go.RowKit
set_option linter.unusedSimpArgs false

structure R (N : Nat) (w0 : Base) (M0 : Nat → Prop) (L : Nat → Value) (st : St) (a : Act) (w : World) : Prop where
  inv : Inv w0 M0 L st.tb w
  size : a.tmps.size = N
  defers : a.defers = []
  slot : ∀ t, LDen (gOf a) w (mset M0 st.tb L) L st.tb (look st.sl t) (a.tmps.getD t undef)

def gsl : LV → List Nat
  | .opt s _ x => s :: gsl x
  | _ => []

theorem LDen.congrG {G G' : Nat → Option Bool} {w : World} {M : Nat → Prop} {L : Nat → Value} {tb : List Blk} : ∀ (x : LV) (v : Value), (∀ s ∈ gsl x, G s = G' s) → LDen G w M L tb x v → LDen G' w M L tb x v
  | .any, _, _, _ => trivial
  | .sv _, _, _, h => h
  | .ptr .., _, _, h => h
  | .rp .., _, _, h => h
  | .own .., _, _, h => h
  | .part .., _, _, h => h
  | .exact .., _, _, h => h
  | .isv .., _, _, h => h
  | .opt s b x, v, hg, h => by
    have e : G s = G' s := hg s (by simp [gsl])
    exact ⟨fun h' => LDen.congrG x v (fun s' hs' => hg s' (by simp [gsl, hs'])) (h.1 (e.trans h')), fun h' => h.2 (fun e' => h' (e.symm.trans e'))⟩

section
variable {P : Program} {N : Nat} {w0 : Base} {M0 : Nat → Prop} {L : Nat → Value} {st : St} {a : Act} {w : World} {F : Nat → Prop}

theorem R.ev (h : R N w0 M0 L st a w) (x : Operand) : LDen (gOf a) w (mset M0 st.tb L) L st.tb (ev st.sl x) (a.eval x) := by
  cases x with
  | tmp t => exact h.slot t
  | const v =>
    simp only [Sx.ev, Act.eval]
    unfold constLV
    split
    · exact .int _ _
    · exact .bool _
    · exact .val _
  | global g => trivial
  | func f => exact .fn f [] #[] rfl (fun i s v hi => by simp at hi)

theorem getD_put (a : Act) (d : Nat) (v : Value) (hd : d < a.tmps.size) (t : Nat) : (a.put (some d) v).tmps.getD t undef = if d = t then v else a.tmps.getD t undef := by
  simp only [Act.put, Array.getD_eq_getD_getElem?, Array.getElem?_setIfInBounds]
  split
  · rename_i h; subst h; simp [hd]
  · rfl

theorem gOf_put (a : Act) (d : Nat) (v : Value) (s : Nat) (h : s ≠ d) : gOf (a.put (some d) v) s = gOf a s := by
  unfold gOf
  simp only [Act.put]
  rw [Array.getElem?_setIfInBounds_ne (by omega)]

/-- A slot is written. -/
theorem R.put (h : R N w0 M0 L st a w) (hF : ∀ t, ∀ s ∈ gsl (look st.sl t), F s) {d : Option Nat} (hd : ∀ k, d = some k → k < N ∧ ¬ F k) {x : LV} {v : Value}
    (hx : LDen (gOf a) w (mset M0 st.tb L) L st.tb x v) (hg : ∀ s ∈ gsl x, F s) :
    R N w0 M0 L (st.put d x) (a.put d v) w ∧ ∀ t, ∀ s ∈ gsl (look (st.put d x).sl t), F s := by
  cases d with
  | none => exact ⟨h, hF⟩
  | some d =>
    obtain ⟨hdN, hdF⟩ := hd d rfl
    have hsz : d < a.tmps.size := by rw [h.size]; exact hdN
    refine ⟨{ inv := h.inv, size := by simp [Act.put, h.size], defers := h.defers, slot := fun t => ?_ }, fun t s hs => ?_⟩
    · rw [getD_put a d v hsz]
      simp only [St.put, look]
      split
      · exact LDen.congrG x v (fun s hs => (gOf_put a d v s (fun e => hdF (e ▸ hg s hs))).symm) hx
      · exact LDen.congrG _ _ (fun s hs => (gOf_put a d v s (fun e => hdF (e ▸ hF t s hs))).symm) (h.slot t)
    · simp only [St.put, look] at hs
      split at hs
      · exact hg s hs
      · exact hF t s hs

/-- The world and the table turn; the slots stay. -/
theorem R.turn (h : R N w0 M0 L st a w) {L' : Nat → Value} {tb' : List Blk} {w' : World} (hI : Inv w0 M0 L' tb' w') (hd : ∀ s v, Den w (mset M0 st.tb L) s v → Den w' (mset M0 tb' L') s v)
    (hL : ∀ i, i < st.tb.length → L' i = L i) (hlen : st.tb.length ≤ tb'.length)
    (hrow : ∀ (i : Nat) t sz n mu get, st.tb[i]? = some (.row t sz n mu get) → ∃ t' mu' get', tb'[i]? = some (.row t' sz n mu' get')) :
    R N w0 M0 L' { st with tb := tb' } a w' :=
  { inv := hI, size := h.size, defers := h.defers, slot := fun t => LDen.turn hd hL hlen hrow _ _ (h.slot t) }

theorem R.keep (h : R N w0 M0 L st a w) {w' : World} (hb : Below w.heap.size w w') : R N w0 M0 L st a w' :=
  { inv := h.inv.keep hb, size := h.size, defers := h.defers, slot := fun t => LDen.keep hb _ _ (h.slot t) }

theorem R.frz (h : R N w0 M0 L st a w) {tb' : List Blk} (hf : Frz st.tb tb') : R N w0 M0 L { st with tb := tb' } a w :=
  h.turn (hf.inv _ _ _ _ h.inv) (fun s v hd => hd.less fun b _ hb => hf.mset _ _ _ hb) (fun _ _ => rfl) (Nat.le_of_eq hf.len.symm)
    (fun i t sz n mu get hi => by obtain ⟨mu', h'⟩ := hf.row i t sz n mu get hi; exact ⟨t, mu', get, h'⟩)

theorem R.push (h : R N w0 M0 L st a w) {w' : World} (hb : Below w.heap.size w w') {k : Blk} {v : Value} (hf : ∀ b, blkNo v = some b → w.heap.size ≤ b ∧ b < w'.heap.size)
    (hk : BlkOK w' (mset M0 (st.tb ++ [k]) (upd L st.tb.length v)) 0 k v) : R N w0 M0 (upd L st.tb.length v) { st with tb := st.tb ++ [k] } a w' :=
  h.turn (h.inv.push hb hf hk) (fun s v' hd => hd.mono hb.size (mset_push fun b hbn => (hf b hbn).1) (fun ad u ha _ hc => by rw [hb.cell ha]; exact hc))
    (fun i hi => upd_other _ _ _ _ (by omega)) (by simp)
    (fun i t sz n mu get hi => ⟨t, mu, get, by rw [List.getElem?_append_left (List.getElem?_eq_some_iff.1 hi).1]; exact hi⟩)

theorem wp_value {o : Oper} {K : Act → World → Prop} {Q : Exit → Act → World → Prop} {v : Value} {w' : World} (h : (execOp a.eval o).run P w = .ok (.value v) w') (hk : K (a.put o.dst v) w') : o.wp P a w K Q := by
  unfold Oper.wp; rw [h]; exact hk

theorem wp_skip' {o : Oper} {K : Act → World → Prop} {Q : Exit → Act → World → Prop} {w' : World} (h : (execOp a.eval o).run P w = .ok .skip w') (hk : K (a.put o.dst undef) w') : o.wp P a w K Q := by
  unfold Oper.wp; rw [h]; exact hk

/-! Guards. -/

theorem chain_sound (h : R N w0 M0 L st a w) : ∀ (f s : Nat) (b : Bool), gOf a s = some b → ∀ p ∈ chain st.sl f s, gOf a p.1 = some p.2
  | 0, _, _, _, p, hp => by simp [chain] at hp
  | f + 1, s, b, hs, p, hp => by
    simp only [chain] at hp
    split at hp
    · rename_i s' b' x hl
      have hsl := h.slot s
      rw [hl] at hsl
      have hg : gOf a s' = some b' := by
        refine Classical.byContradiction fun hn => ?_
        have hv := hsl.2 hn
        unfold gOf at hs
        rw [Array.getD_eq_getD_getElem?] at hv
        cases hx : a.tmps[s]? with
        | none => rw [hx] at hs; simp at hs
        | some u => rw [hx] at hs hv; simp at hv; subst hv; simp [undef] at hs
      rcases List.mem_cons.1 hp with rfl | hp
      · exact hg
      · exact chain_sound h f s' b' hg p hp
    · simp at hp

theorem guards_sound (h : R N w0 M0 L st a w) {s : Nat} {b : Bool} (hs : gOf a s = some b) : ∀ p ∈ guards st.sl (some (s, b)), gOf a p.1 = some p.2 := by
  intro p hp
  simp only [guards] at hp
  rcases List.mem_cons.1 hp with rfl | hp
  · exact hs
  · exact chain_sound h 4 s b hs p hp

theorem unopt_sound {G : Nat → Option Bool} {M : Nat → Prop} {tb : List Blk} {gs : List (Nat × Bool)} (hg : ∀ p ∈ gs, G p.1 = some p.2) {x : LV} {v : Value} (h : LDen G w M L tb x v) : LDen G w M L tb (unopt gs x) v := by
  cases x with
  | opt s b x =>
    simp only [unopt]
    split
    · rename_i hin; exact h.1 (hg _ hin)
    · trivial
  | _ => exact h

theorem evG_sound (h : R N w0 M0 L st a w) {gs : List (Nat × Bool)} (hg : ∀ p ∈ gs, gOf a p.1 = some p.2) (x : Operand) : LDen (gOf a) w (mset M0 st.tb L) L st.tb (evG st.sl gs x) (a.eval x) :=
  unopt_sound hg (h.ev x)

theorem bool_gOf {s : Nat} {c : Bool} (h : a.tmps.getD s undef = .bool c) : gOf a s = some c := by
  rw [Array.getD_eq_getD_getElem?] at h
  unfold gOf
  cases hx : a.tmps[s]? with
  | none => rw [hx] at h; simp [undef] at h
  | some u => rw [hx] at h; simp at h; subst h; rfl

theorem gcond_sound (h : R N w0 M0 L st a w) : ∀ (gs : List (Nat × Bool)), (∀ p ∈ gs, gOf a p.1 = some p.2) → gcond st.sl gs
  | [], _ => trivial
  | (s, b) :: r, hg => by
    refine ⟨?_, gcond_sound h r (fun p hp => hg p (by simp [hp]))⟩
    have hb := hg (s, b) (by simp)
    have hsl := h.slot s
    have hden : ∀ c, Den w (mset M0 st.tb L) (.bool c) (a.tmps.getD s undef) → c = b := by
      intro c hd
      generalize hv : a.tmps.getD s undef = v at hd
      cases hd
      have := bool_gOf hv
      rw [hb] at this
      injection this with this
      exact this.symm
    split
    · rename_i c hc
      unfold boolAt at hc
      split at hc
      · rename_i b' hl
        injection hc with hc
        subst hc
        rw [hl] at hsl
        exact hden _ hsl
      · rename_i s' b1 b' hl
        injection hc with hc
        subst hc
        rw [hl] at hsl
        by_cases hn : gOf a s' = some b1
        · exact hden _ (hsl.1 hn)
        · have hv := hsl.2 hn
          simp only at hb
          unfold gOf at hb
          rw [Array.getD_eq_getD_getElem?] at hv
          cases hx : a.tmps[s]? with
          | none => rw [hx] at hb; simp at hb
          | some u => rw [hx] at hb hv; simp at hv; subst hv; simp [undef] at hb
      · cases hc
    · trivial

/-! Calls. -/

theorem lend (h : R N w0 M0 L st a w) (hM0 : Safe w0 M0) : ∀ (xs all : List LV), (∀ x ∈ xs, x ∈ all) → ∀ (i : Nat) (x : LV) (s : SV) (v : Value), xs[i]? = some x → argSV st.tb x = some s →
    LDen (gOf a) w (mset M0 st.tb L) L st.tb x v → Den w (mset M0 (frzOwns st.tb all) L) s v := by
  intro xs all hall i x s v hx hs hd
  have hR := h.frz (Frz.owns all st.tb)
  have hless : ∀ b, mset M0 (frzOwns st.tb all) L b → mset M0 st.tb L b := (Frz.owns all st.tb).mset M0 L
  cases x with
  | own j =>
    simp only [argSV] at hs
    split at hs
    · rename_i t sz n mu get hrow
      injection hs with hs
      subst hs
      obtain ⟨hj, rfl⟩ := hd
      have hfro : (frzOwns st.tb all)[j]? = some (.row t sz n false get) := by
        have hmem : LV.own j ∈ all := hall _ (List.mem_of_getElem? hx)
        clear hR hless hall hx
        have gen : ∀ (all : List LV) (tb : List Blk) (mu : Bool), tb[j]? = some (.row t sz n mu get) → (LV.own j ∈ all ∨ mu = false) → (frzOwns tb all)[j]? = some (.row t sz n false get) := by
          intro all
          induction all with
          | nil => intro tb mu hr hm; simp at hm; subst hm; exact hr
          | cons y r ih =>
            intro tb mu hr hm
            simp only [frzOwns]
            by_cases hy : y = .own j
            · subst hy
              refine ih _ false ?_ (.inr rfl)
              simp only [frzOwn, frzAt, hr]
              rw [List.getElem?_set_self (List.getElem?_eq_some_iff.1 hr).1]
              rfl
            · have hfy : ∃ mu', (frzOwn tb y)[j]? = some (.row t sz n mu' get) ∧ (mu = false → mu' = false) := by
                cases y with
                | own i' =>
                  have hne : i' ≠ j := fun e => hy (by rw [e])
                  refine ⟨mu, ?_, id⟩
                  simp only [frzOwn, frzAt]
                  split
                  · rw [List.getElem?_set_ne hne]; exact hr
                  · exact hr
                | _ => exact ⟨mu, hr, id⟩
              obtain ⟨mu', hr', hmu⟩ := hfy
              refine ih _ mu' hr' ?_
              rcases hm with hm | hm
              · rcases List.mem_cons.1 hm with hm | hm
                · exact (hy hm.symm).elim
                · exact .inl hm
              · exact .inr (hmu hm)
        exact gen all st.tb mu hrow (.inl hmem)
      exact den_of_row (hR.inv.ok j _ hfro) fun b hb => not_mset hR.inv hM0 hfro rfl hb
    · cases hs
  | sv s' => simp [argSV, shut] at hs; subst hs; exact Den.less hd fun b _ => hless b
  | ptr j off =>
    have := shut_den h.inv hM0 (x := .ptr j off) (s := s) (by simpa [argSV] using hs) hd
    exact this.less fun b _ => hless b
  | any => simp [argSV, shut] at hs
  | rp => simp [argSV, shut] at hs
  | part => simp [argSV, shut] at hs
  | opt => simp [argSV, shut] at hs
  | exact => simp [argSV, shut] at hs
  | isv => simp [argSV, shut] at hs

theorem svles_den {M : Nat → Prop} : ∀ (as bs : List SV) (vs : Array Value) (k : Nat), SVles as bs → (∀ (i : Nat) s v, as[i]? = some s → vs[k + i]? = some v → Den w M s v) →
    as.length = bs.length ∧ ∀ (i : Nat) s v, bs[i]? = some s → vs[k + i]? = some v → Den w M s v
  | [], [], _, _, _, _ => ⟨rfl, fun i s v hi => by simp at hi⟩
  | x :: as, y :: bs, vs, k, h, hd => by
    obtain ⟨h1, h2⟩ := svles_den as bs vs (k + 1) h.2 (fun i s v hi hv => hd (i + 1) s v (by simpa using hi) (by rw [← hv]; congr 1; omega))
    refine ⟨by simp [h1], fun i s v hi hv => ?_⟩
    cases i with
    | zero => simp at hi; subst hi; exact h.1 _ _ _ (hd 0 x v rfl hv)
    | succ i => exact h2 i s v (by simpa using hi) (by rw [← hv]; congr 1; omega)
  | [], _ :: _, _, _, h, _ => h.elim
  | _ :: _, [], _, _, h, _ => h.elim

/-- The operation calls a function. -/
def CallsOp (P : Program) (o : Oper) (ρ : Operand → Value) (f : FuncId) (vs : Array Value) : Prop :=
  ∀ w : World, HasBody P f → (execOp ρ o).run P w = .ok (.enter f vs) w

theorem run_callFunc {f : FuncId} {vs : Array Value} (h : HasBody P f) : (callFunc f vs).run P w = .ok (.enter f vs) w := by
  obtain ⟨fn, h1, h2, h3⟩ := h
  obtain ⟨c, hc⟩ := Option.isSome_iff_exists.1 h2
  have h3' : ¬ fn.name = "runtime.NumGoroutine" := by simpa using h3
  simp [callFunc, program, Sem.run, h1, h3', hc]
end
end Go.Sx

namespace Go.Sx
open Go Go.RowKit
set_option linter.unusedSimpArgs false

section
variable {P : Program} {N : Nat} {w0 : Base} {M0 : Nat → Prop} {L : Nat → Value} {st : St} {a : Act} {w : World} {F : Nat → Prop}

theorem mset_lt (h : R N w0 M0 L st a w) (hM0 : Safe w0 M0) : ∀ b, mset M0 st.tb L b → b < w.heap.size := by
  intro b hb
  rcases hb with hb | ⟨i, k, hi, _, hn⟩
  · exact Nat.lt_of_lt_of_le (hM0 b hb).1 h.inv.below.size
  · exact (h.inv.low i b (List.getElem?_eq_some_iff.1 hi).1 hn).2

theorem ownsRow_base {base base' : Nat} {t : TypeId} {sz n : Nat} {v : Value} {xs : List Value} (h : w.ownsRow base t sz v n xs) (hb : base' ≤ base) : w.ownsRow base' t sz v n xs := by
  obtain ⟨h1, h2⟩ := h
  refine ⟨h1, ?_⟩
  rcases h2 with h2 | ⟨g, cap, cur, hv, hg, r⟩
  · exact .inl h2
  · exact .inr ⟨g, cap, cur, hv, Nat.le_trans hb hg, r⟩

theorem splitOwn_spec : ∀ (xs a : List LV) (i : Nat) (b : List LV), splitOwn xs = some (a, i, b) → xs = a ++ .own i :: b
  | [], a, i, b, h => by simp [splitOwn] at h
  | x :: r, a, i, b, h => by
    cases x with
    | own j =>
      simp only [splitOwn, Option.some.injEq, Prod.mk.injEq] at h
      obtain ⟨rfl, rfl, rfl⟩ := h
      rfl
    | _ =>
      simp only [splitOwn] at h
      split at h
      · rename_i a' i' b' hr
        simp only [Option.some.injEq, Prod.mk.injEq] at h
        obtain ⟨rfl, rfl, rfl⟩ := h
        rw [splitOwn_spec r a' i' b' hr]
        rfl
      · cases h

theorem kill_rel (hR : R N w0 M0 L st a w) {i : Nat} {k' : Blk} {v' : Value} {w' : World} (hI : Inv w0 M0 (upd L i v') (st.tb.set i k') w')
    (hdt : ∀ s u, Den w (mset M0 st.tb L) s u → Den w' (mset M0 (st.tb.set i k') (upd L i v')) s u) : R N w0 M0 (upd L i v') { sl := killSl i st.sl, tb := st.tb.set i k' } a w' ∧ ∀ t, gsl (look (killSl i st.sl) t) = [] := by
  have hlook : ∀ t, ∀ sl : List (Nat × LV), look (killSl i sl) t = kill i (look sl t) := by
    intro t sl
    induction sl with
    | nil => rfl
    | cons p r ih =>
      obtain ⟨k, x⟩ := p
      simp only [killSl, look]
      split
      · rfl
      · exact ih
  refine ⟨{ inv := hI, size := hR.size, defers := hR.defers, slot := fun t => ?_ }, fun t => ?_⟩
  · simp only [hlook]
    have hs := hR.slot t
    generalize look st.sl t = q at hs
    cases q with
    | any => trivial
    | sv s => exact hdt _ _ hs
    | ptr j off =>
      simp only [kill]
      split
      · trivial
      · rename_i hne
        obtain ⟨hj, b, hl, hv⟩ := hs
        exact ⟨by simpa using hj, b, by rw [upd_other _ _ _ _ hne]; exact hl, hv⟩
    | rp j k off =>
      simp only [kill]
      split
      · trivial
      · rename_i hne
        obtain ⟨b, n', c, t', sz2, mu, g, hj, hl, hk', hv⟩ := hs
        exact ⟨b, n', c, t', sz2, mu, g, by rw [List.getElem?_set_ne (by omega)]; exact hj, by rw [upd_other _ _ _ _ hne]; exact hl, hk', hv⟩
    | own j =>
      simp only [kill]
      split
      · trivial
      · rename_i hne
        obtain ⟨hj, hv⟩ := hs
        exact ⟨by simpa using hj, by rw [upd_other _ _ _ _ hne]; exact hv⟩
    | part j lo hi =>
      simp only [kill]
      split
      · trivial
      · rename_i hne
        obtain ⟨n', t', sz2, mu, g, hj, q1, q2, q3⟩ := hs
        exact ⟨n', t', sz2, mu, g, by rw [List.getElem?_set_ne (by omega)]; exact hj, q1, q2, by rw [upd_other _ _ _ _ hne]; exact q3⟩
    | opt => trivial
    | exact j =>
      simp only [kill]
      split
      · trivial
      · rename_i hne
        obtain ⟨hj, A, n', hs⟩ := hs
        exact ⟨by simpa using hj, A, n', by rw [upd_other _ _ _ _ hne]; exact hs⟩
    | isv j v =>
      simp only [kill]
      split
      · trivial
      · rename_i hne
        obtain ⟨hj, hs⟩ := hs
        exact ⟨by simpa using hj, by rw [upd_other _ _ _ _ hne]; exact hs⟩
  · rw [hlook]
    generalize look st.sl t = q
    cases q <;> simp [kill] <;> (try split) <;> simp [gsl]

theorem take_sound1 {o : Oper} {f : FuncId} {xs : List LV} {vs : Array Value} {K : St → Prop} {K' : Act → World → Prop} {Q : Exit → Act → World → Prop} (hR : R N w0 M0 L st a w) (hM0 : Safe w0 M0)
    (hF : ∀ t, ∀ s ∈ gsl (look st.sl t), F s) (hd : ∀ k, o.dst = some k → k < N ∧ ¬ F k) (hop : CallsOp P o a.eval f vs) (hl : xs.length = vs.size)
    (hxs : ∀ (i : Nat) x v, xs[i]? = some x → vs[i]? = some v → LDen (gOf a) w (mset M0 st.tb L) L st.tb x v) (h : takeVC1 P st f xs o.dst K)
    (hK : ∀ L' st' a' w', K st' → R N w0 M0 L' st' a' w' → (∀ t, ∀ s ∈ gsl (look st'.sl t), F s) → K' a' w') : o.wp P a w K' Q := by
  unfold takeVC1 at h
  split at h
  · exact h.elim
  · rename_i xa i xb hsp
    split at h
    · rename_i t sz n get hi
      split at h
      · rename_i ps qs hps hqs
        have hxe := splitOwn_spec _ _ _ _ hsp
        have hil : i < st.tb.length := (List.getElem?_eq_some_iff.1 hi).1
        obtain ⟨p1, p2⟩ := optList_get _ _ hps
        obtain ⟨q1, q2⟩ := optList_get _ _ hqs
        simp only [List.length_map] at p1 q1
        have hvl : vs.size = xa.length + (xb.length + 1) := by rw [← hl, hxe]; simp
        let us := vs.toList.take xa.length
        let ws := vs.toList.drop (xa.length + 1)
        have hus : us.length = xa.length := by simp [us]; omega
        have hws : ws.length = xb.length := by simp [ws]; omega
        have hget : ∀ j, j < vs.size → vs[j]? = some (vs.getD j undef) := fun j hj => by simp [Array.getD, hj]
        have hmid : vs[xa.length]? = some (L i) := by
          have h1 := hget xa.length (by omega)
          have h2 := hxs xa.length (.own i) _ (by rw [hxe]; simp) h1
          rw [h1, h2.2]
        have hsplit : vs = (us ++ L i :: ws).toArray := by
          apply Array.ext'
          rw [List.toList_toArray]
          have hm : vs.toList[xa.length]? = some (L i) := by simpa using hmid
          have hlt : xa.length < vs.toList.length := by simp; omega
          rw [List.getElem?_eq_getElem hlt] at hm
          injection hm with hm
          show vs.toList = vs.toList.take xa.length ++ L i :: vs.toList.drop (xa.length + 1)
          rw [← hm, List.getElem_cons_drop, List.take_append_drop]
        have hdus : ∀ (j : Nat) s u, ps[j]? = some s → us[j]? = some u → Den w (mset M0 st.tb L) s u := by
          intro j s u hj hu
          have hjl : j < xa.length := by rw [← hus]; exact (List.getElem?_eq_some_iff.1 hu).1
          have := p2 j s hj
          simp only [List.getElem?_map, Option.map_eq_some_iff] at this
          obtain ⟨x, hx, hsh⟩ := this
          have hvj : vs[j]? = some u := by
            simp only [us, List.getElem?_take_of_lt hjl] at hu
            simpa using hu
          exact shut_den hR.inv hM0 hsh (hxs j x u (by rw [hxe, List.getElem?_append_left hjl]; exact hx) hvj)
        have hdws : ∀ (j : Nat) s u, qs[j]? = some s → ws[j]? = some u → Den w (mset M0 st.tb L) s u := by
          intro j s u hj hu
          have := q2 j s hj
          simp only [List.getElem?_map, Option.map_eq_some_iff] at this
          obtain ⟨x, hx, hsh⟩ := this
          have hvj : vs[xa.length + 1 + j]? = some u := by
            simp only [ws, List.getElem?_drop] at hu
            simpa using hu
          refine shut_den hR.inv hM0 hsh (hxs (xa.length + 1 + j) x u ?_ hvj)
          rw [hxe, List.getElem?_append_right (by omega), show xa.length + 1 + j - xa.length = j + 1 by omega]
          simpa using hx
        have hMi : ∀ b, blkNo (L i) = some b → mset M0 st.tb L b := fun b hb => .inr ⟨i, _, hi, rfl, hb⟩
        rcases h with ⟨ps', qs', n', get', hle1, hle2, ⟨hbody, hspec⟩, hk⟩ | ⟨ps', qs', get', hle1, hle2, ⟨hbody, hspec⟩, hk⟩
        · obtain ⟨e1, d1⟩ := svles_den ps ps' us.toArray 0 hle1 (by simpa using hdus)
          obtain ⟨e2, d2⟩ := svles_den qs qs' ws.toArray 0 hle2 (by simpa using hdws)
          have hc := hspec w _ 0 us ws (L i) (mset_lt hR hM0) (Nat.zero_le _) hMi (by omega) (by omega) (by simpa using d1) (by simpa using d2) (hR.inv.ok i _ hi)
          unfold Oper.wp
          rw [hop w hbody, hsplit]
          refine Calls.mono hc fun e w' he => ?_
          obtain ⟨v', rfl, hg, hfr, hok⟩ := he
          show K' (a.put o.dst v') w'
          have hb' : ∀ b, blkNo v' = some b → b < w'.heap.size := by
            intro b hb
            obtain ⟨xs', ho, _⟩ := hok
            rcases ho.2 with ⟨rfl, _⟩ | ⟨g, cap, cur, rfl, _, hh, _⟩
            · simp [blkNo] at hb
            · simp [blkNo] at hb
              subst hb
              rcases Nat.lt_or_ge g w'.heap.size with h | h
              · exact h
              · rw [Array.getElem?_eq_none h] at hh; cases hh
          have hset := hR.inv.set (k' := .row t sz n' true get') (v := v') hi rfl hg (fun b hb => ⟨hfr b hb, hb' b hb⟩) (by
            refine hok.less fun b hb => ?_
            rcases hb with hb | ⟨j, k, hj, hk', hn⟩
            · refine .inl ⟨.inl hb, fun e => ?_⟩
              have q1 := hM0 b hb
              rcases (hR.inv.low i b hil e).1 with q2 | q2
              · omega
              · exact q1.2 q2
            · by_cases e : j = i
              · subst e; rw [upd_same] at hn; exact .inr hn
              · rw [upd_other _ _ _ _ e] at hn
                rw [List.getElem?_set_ne (by omega)] at hj
                exact .inl ⟨.inr ⟨j, k, hj, hk', hn⟩, fun e' => e (hR.inv.apart j i b (List.getElem?_eq_some_iff.1 hj).1 hil hn e')⟩)
          obtain ⟨hR1, hg1⟩ := kill_rel hR hset.1 (fun s u hden => hden.ext hset.2 (mset_set hi rfl hfr))
          obtain ⟨hR2, hF2⟩ := hR1.put (F := F) (fun t s hs => by rw [hg1 t] at hs; simp at hs) hd (x := .own i) (v := v') ⟨by simpa using hil, (upd_same _ _ _).symm⟩ (by simp [gsl])
          exact hK _ _ _ _ hk hR2 hF2
        · obtain ⟨e1, d1⟩ := svles_den ps ps' us.toArray 0 hle1 (by simpa using hdus)
          obtain ⟨e2, d2⟩ := svles_den qs qs' ws.toArray 0 hle2 (by simpa using hdws)
          have hc := hspec w _ 0 us ws (L i) (mset_lt hR hM0) (Nat.zero_le _) hMi (by omega) (by omega) (by simpa using d1) (by simpa using d2) (hR.inv.ok i _ hi)
          unfold Oper.wp
          rw [hop w hbody, hsplit]
          refine Calls.mono hc fun e w' he => ?_
          obtain ⟨rfl, hg, hok⟩ := he
          show K' (a.put o.dst (.tuple #[])) w'
          have hup : upd L i (L i) = L := funext fun j => by unfold upd; split <;> simp_all
          have hset := hR.inv.set (k' := .row t sz n true get') (v := L i) hi rfl hg (fun b hb => ⟨.inl hb, Nat.lt_of_lt_of_le (hR.inv.low i b hil hb).2 hg.size⟩) (by
            rw [hup]
            refine hok.less fun b hb => ?_
            rcases hb with hb | ⟨j, k, hj, hk', hn⟩
            · exact .inl hb
            · by_cases e : j = i
              · subst e; exact .inr ⟨j, _, hi, rfl, hn⟩
              · rw [List.getElem?_set_ne (by omega)] at hj
                exact .inr ⟨j, k, hj, hk', hn⟩)
          rw [hup] at hset
          have hR1 : R N w0 M0 L { st with tb := st.tb.set i (.row t sz n true get') } a w' := by
            refine hR.turn hset.1 (fun s c hden => hden.ext hset.2 (fun c' hc' h' => by
              have := mset_set (w := w) (k' := .row t sz n true get') (v := L i) hi rfl (fun _ h => .inl h) c' hc' (by rw [hup]; exact h')
              exact this)) (fun _ _ => rfl) (by simp) (fun j t' sz' n' mu' g' hj => ?_)
            by_cases e : j = i
            · subst e
              rw [hi] at hj
              injection hj with hj
              injection hj with q1 q2 q3 q4 q5
              subst q2 q3
              exact ⟨t, true, _, by rw [List.getElem?_set_self hil]⟩
            · exact ⟨t', mu', g', by rw [List.getElem?_set_ne (by omega)]; exact hj⟩
          obtain ⟨hR2, hF2⟩ := hR1.put (F := F) hF hd (x := .sv (.tup [])) (v := .tuple #[]) (Den.tup [] #[] rfl (fun i s v hi => by simp at hi)) (by simp [gsl])
          exact hK _ _ _ _ hk hR2 hF2
      · exact h.elim
    · exact h.elim

theorem take_sound {o : Oper} {f : FuncId} {xs : List LV} {vs : Array Value} {K : St → Prop} {K' : Act → World → Prop} {Q : Exit → Act → World → Prop} (hR : R N w0 M0 L st a w) (hM0 : Safe w0 M0)
    (hF : ∀ t, ∀ s ∈ gsl (look st.sl t), F s) (hd : ∀ k, o.dst = some k → k < N ∧ ¬ F k) (hop : CallsOp P o a.eval f vs) (hl : xs.length = vs.size)
    (hxs : ∀ (i : Nat) x v, xs[i]? = some x → vs[i]? = some v → LDen (gOf a) w (mset M0 st.tb L) L st.tb x v) (h : takeVC P st f xs o.dst K)
    (hK : ∀ L' st' a' w', K st' → R N w0 M0 L' st' a' w' → (∀ t, ∀ s ∈ gsl (look st'.sl t), F s) → K' a' w') : o.wp P a w K' Q := by
  unfold takeVC at h
  split at h
  · exact h.elim
  · rename_i xa i xb hsp
    have hf := Frz.owns (xa ++ xb) st.tb
    refine take_sound1 (st := frzSt st (xa ++ xb)) (hR.frz hf) hM0 hF hd hop hl (fun i x v hx hv => ?_) h hK
    exact LDen.turn (fun s v hd => hd.less fun b _ hb => hf.mset _ _ _ hb) (fun _ _ => rfl) (Nat.le_of_eq hf.len.symm)
      (fun i t sz n mu get hi => by obtain ⟨mu', h'⟩ := hf.row i t sz n mu get hi; exact ⟨t, mu', get, h'⟩) _ _ (hxs i x v hx hv)

theorem call_sound {o : Oper} {f : FuncId} {xs : List LV} {vs : Array Value} {K : St → Prop} {K' : Act → World → Prop} {Q : Exit → Act → World → Prop} (hR : R N w0 M0 L st a w) (hM0 : Safe w0 M0)
    (hF : ∀ t, ∀ s ∈ gsl (look st.sl t), F s) (hd : ∀ k, o.dst = some k → k < N ∧ ¬ F k) (hop : CallsOp P o a.eval f vs) (hl : xs.length = vs.size)
    (hxs : ∀ (i : Nat) x v, xs[i]? = some x → vs[i]? = some v → LDen (gOf a) w (mset M0 st.tb L) L st.tb x v) (h : callVC P st f xs o.dst K)
    (hK : ∀ L' st' a' w', K st' → R N w0 M0 L' st' a' w' → (∀ t, ∀ s ∈ gsl (look st'.sl t), F s) → K' a' w') : o.wp P a w K' Q := by
  unfold callVC at h
  rcases h with h | htake | hsem
  rotate_left
  · exact take_sound hR hM0 hF hd hop hl hxs htake hK
  · obtain ⟨hb, hsem⟩ := hsem
    have hc := hsem w0 M0 (gOf a) (fun t => a.tmps.getD t undef) L w vs hM0 ⟨hR.inv, hR.slot⟩ hl hxs
    unfold Oper.wp
    rw [hop w hb]
    refine Calls.mono hc fun e w' he => ?_
    obtain ⟨v, st', x, L', rfl, hk, hh, hx, hox, hof⟩ := he
    show K' (a.put o.dst v) w'
    have hgf : ∀ y, optFree y = true → gsl y = [] := by
      intro y hy
      cases y <;> first | rfl | simp [optFree] at hy
    have hR1 : R N w0 M0 L' st' a w' := { inv := hh.inv, size := hR.size, defers := hR.defers, slot := hh.slot }
    obtain ⟨hR2, hF2⟩ := hR1.put (F := F) (fun t s hs => by rw [hgf _ (hof t)] at hs; simp at hs) hd hx (by rw [hgf _ hox]; simp)
    exact hK _ _ _ _ hk hR2 hF2
  split at h
  · exact h.elim
  · rename_i args hargs
    obtain ⟨ha1, ha2⟩ := optList_get _ _ hargs
    have hfz := Frz.owns xs st.tb
    have hRf := hR.frz hfz
    have hden : ∀ (i : Nat) s v, args[i]? = some s → vs[i]? = some v → Den w (mset M0 (frzOwns st.tb xs) L) s v := by
      intro i s v hi hv
      have := ha2 i s hi
      simp only [List.getElem?_map, Option.map_eq_some_iff] at this
      obtain ⟨x, hx, hs⟩ := this
      exact lend hR hM0 xs xs (fun _ h => h) i x s v hx hs (hxs i x v hx hv)
    have hlen : args.length = vs.size := by rw [← hl]; simpa using ha1.symm
    have hMlt := mset_lt hRf hM0
    rcases h with ⟨args', r, hle, ⟨hb, hspec⟩, hk⟩ | ⟨args', t, sz, n, get, hle, ⟨hb, hspec⟩, hk⟩
    · obtain ⟨hl2, hd2⟩ := svles_den args args' vs 0 hle (by simpa using hden)
      have hc := hspec w _ vs hMlt (hl2.symm.trans hlen) (by simpa using hd2)
      unfold Oper.wp
      rw [hop w hb]
      refine Calls.mono hc fun e w' he => ?_
      obtain ⟨v, rfl, hbel, hres⟩ := he
      show K' (a.put o.dst v) w'
      cases hn : noMem r with
      | true =>
        rw [hn] at hk
        have hR' := hR.keep hbel
        obtain ⟨hR2, hF2⟩ := hR'.put hF hd (x := .sv r) (v := v) (noMem_den r hn v hres) (by simp [gsl])
        exact hK _ _ _ _ hk hR2 hF2
      | false =>
        rw [hn] at hk
        have hR' := hRf.keep hbel
        obtain ⟨hR2, hF2⟩ := hR'.put hF hd (x := .sv r) (v := v) hres (by simp [gsl])
        exact hK _ _ _ _ hk hR2 hF2
    · obtain ⟨hl2, hd2⟩ := svles_den args args' vs 0 hle (by simpa using hden)
      have hc := hspec w _ vs hMlt (hl2.symm.trans hlen) (by simpa using hd2)
      unfold Oper.wp
      rw [hop w hb]
      refine Calls.mono hc fun e w' he => ?_
      obtain ⟨v, rfl, hbel, xs', ho, hz, h1, hdd⟩ := he
      show K' (a.put o.dst v) w'
      have hfresh : ∀ b, blkNo v = some b → w.heap.size ≤ b ∧ b < w'.heap.size := by
        intro b hb'
        rcases ho.2 with ⟨rfl, _⟩ | ⟨g, cap, cur, rfl, hg, hh, _⟩
        · simp [blkNo] at hb'
        · simp [blkNo] at hb'
          subst hb'
          refine ⟨hg, ?_⟩
          rcases Nat.lt_or_ge g w'.heap.size with h | h
          · exact h
          · rw [Array.getElem?_eq_none h] at hh; cases hh
      have hR' := hRf.push hbel (k := .row t sz n true get) (v := v) hfresh (by
        refine ⟨xs', ownsRow_base ho (Nat.zero_le _), hz, h1, fun i j s u hi hj hu => (hdd i j s u hi hj hu).less fun b _ hb' => ?_⟩
        rcases hb' with hb' | ⟨i', k', hi', hk', hn'⟩
        · exact .inl (.inl hb')
        · rw [List.getElem?_append] at hi'
          split at hi'
          · rename_i hlt
            rw [upd_other _ _ _ _ (Nat.ne_of_lt hlt)] at hn'
            exact .inl (.inr ⟨i', k', hi', hk', hn'⟩)
          · rename_i hge
            have : i' = (frzOwns st.tb xs).length := by
              have h1 := (List.getElem?_eq_some_iff.1 hi').1
              simp only [List.length_cons, List.length_nil] at h1 hge
              omega
            subst this
            rw [upd_same] at hn'
            exact .inr hn')
      have hlen' : (frzOwns st.tb xs).length = st.tb.length := hfz.len
      obtain ⟨hR2, hF2⟩ := hR'.put hF hd (x := .own st.tb.length) (v := v) ⟨by simp [hlen'], by simp only [hlen']; rw [upd_same]⟩ (by simp [gsl])
      exact hK _ _ _ _ hk hR2 hF2

/-- A call whose contract is known. -/
theorem call_plain {o : Oper} {f : FuncId} {xs : List LV} {vs : Array Value} {args args' : List SV} {r : SV} {K' : Act → World → Prop} {Q : Exit → Act → World → Prop} (hR : R N w0 M0 L st a w) (hM0 : Safe w0 M0)
    (hop : CallsOp P o a.eval f vs) (hl : xs.length = vs.size) (hxs : ∀ (i : Nat) x v, xs[i]? = some x → vs[i]? = some v → LDen (gOf a) w (mset M0 st.tb L) L st.tb x v)
    (hargs : optList (xs.map (argSV st.tb)) = some args) (hle : SVles args args') (hs : Spec P f args' r)
    (hK : ∀ v w', Below w.heap.size w w' → Den w' (mset M0 (frzOwns st.tb xs) L) r v → K' (a.put o.dst v) w') : o.wp P a w K' Q := by
  obtain ⟨ha1, ha2⟩ := optList_get _ _ hargs
  have hfz := Frz.owns xs st.tb
  have hRf := hR.frz hfz
  have hden : ∀ (i : Nat) s v, args[i]? = some s → vs[i]? = some v → Den w (mset M0 (frzOwns st.tb xs) L) s v := by
    intro i s v hi hv
    have := ha2 i s hi
    simp only [List.getElem?_map, Option.map_eq_some_iff] at this
    obtain ⟨x, hx, hs⟩ := this
    exact lend hR hM0 xs xs (fun _ h => h) i x s v hx hs (hxs i x v hx hv)
  have hlen : args.length = vs.size := by rw [← hl]; simpa using ha1.symm
  have hMlt := mset_lt hRf hM0
  obtain ⟨hl2, hd2⟩ := svles_den args args' vs 0 hle (by simpa using hden)
  have hc := hs.2 w _ vs hMlt (hl2.symm.trans hlen) (by simpa using hd2)
  unfold Oper.wp
  rw [hop w hs.1]
  refine Calls.mono hc fun e w' he => ?_
  obtain ⟨v, rfl, hbel, hres⟩ := he
  exact hK v w' hbel hres

theorem alloc_below (w : World) (o : Obj) : Below w.heap.size w (w.alloc o) := (Below.refl _ _).alloc (Nat.le_refl _) o

/-- A new block of cells. -/
theorem R.newCells (hR : R N w0 M0 L st a w) {t : TypeId} {cs : List SV} {vs : Array Value} (hl : cs.length = vs.size) (h1 : ∀ (i : Nat) u, vs[i]? = some u → u.oneCell' = true)
    (hd : ∀ (i : Nat) s u, cs[i]? = some s → vs[i]? = some u → Den w (mset M0 st.tb L) s u) (mu : Bool) :
    R N w0 M0 (upd L st.tb.length (.pointer (some ⟨w.heap.size, 0, none⟩))) { st with tb := st.tb ++ [.cells t mu cs] } a (w.alloc (.cells vs t)) := by
  refine hR.push (alloc_below w _) (fun b hb => ?_) ?_
  · simp [blkNo] at hb; subst hb; simp
  · refine ⟨w.heap.size, vs, rfl, Nat.zero_le _, heap_alloc_new w _, hl, h1, fun i s u hi hu => (hd i s u hi hu).mono (by simp) (mset_push fun b hb => ?_) (fun ad u' ha _ hc => ?_)⟩
    · simp [blkNo] at hb; omega
    · rw [World.cell?_alloc_lt w _ ad ha]; exact hc

/-- A new row. -/
theorem R.newRow (hR : R N w0 M0 L st a w) {e : TypeId} {sz n : Nat} {get : Nat → List SV} {vs : Array Value} (hsz : vs.size = n * sz) (hm : n ≤ maxLen) (hz : ∀ i, i < n → (get i).length = sz)
    (h1 : ∀ (i : Nat) u, vs[i]? = some u → u.oneCell' = true) (hd : ∀ (i j : Nat) s u, i < n → (get i)[j]? = some s → vs[i * sz + j]? = some u → Den w (mset M0 st.tb L) s u) :
    R N w0 M0 (upd L st.tb.length (.slice (some ⟨w.heap.size, 0, none⟩) n n)) { st with tb := st.tb ++ [.row e sz n true get] } a (w.alloc (.cells vs e)) := by
  refine hR.push (alloc_below w _) (fun b hb => ?_) ?_
  · simp [blkNo] at hb; subst hb; simp
  · refine ⟨vs.toList, World.ownsRow_lit w vs n (Nat.zero_le _) hm hsz, hz, AllOne.of_heap (g := w.heap.size) rfl (heap_alloc_new w _) (fun u hu => ?_), fun i j s u hi hj hu => ?_⟩
    · obtain ⟨i, hi⟩ := List.mem_iff_getElem?.1 hu
      exact h1 i u (by simpa using hi)
    · refine (hd i j s u hi hj (by simpa using hu)).mono (by simp) (mset_push fun b hb => ?_) (fun ad u' ha _ hc => ?_)
      · simp [blkNo] at hb; omega
      · rw [World.cell?_alloc_lt w _ ad ha]; exact hc

theorem lay_len (l cs : List SV) (off : Nat) : (lay cs off l).length = cs.length := lay_length l cs off

theorem splice_get (cur vs : List Value) (o i : Nat) (h : o + vs.length ≤ cur.length) : (cur.take o ++ vs ++ cur.drop (o + vs.length))[i]? = if o ≤ i ∧ i < o + vs.length then vs[i - o]? else cur[i]? := by
  rw [List.append_assoc, List.getElem?_append, List.length_take, Nat.min_eq_left (by omega)]
  by_cases h1 : i < o
  · rw [if_pos h1, if_neg (by omega), List.getElem?_take_of_lt h1]
  · rw [if_neg h1, List.getElem?_append]
    by_cases h2 : i - o < vs.length
    · rw [if_pos h2, if_pos (by omega)]
    · rw [if_neg h2, if_neg (by omega), List.getElem?_drop]
      congr 1
      omega

theorem setRow_grown (w : World) (g : Nat) (cs : Array Value) : w.grownBy (w.setRow g cs) (some g) :=
  ⟨rfl, rfl, rfl, by simp, fun k _ hk => setRow_other w g k cs (fun e => hk (by rw [e]))⟩

/-- A store into a block of the call's own. -/
theorem store_sound (hR : R N w0 M0 L st a w) {n : Nat} {cs : List SV} {x : LV} {tb' : List Blk} {ob : Prop} {u v : Value} (h : storeAt st.tb n cs x = some (tb', ob)) (hob : ob)
    (hx : LDen (gOf a) w (mset M0 st.tb L) L st.tb x u) (hl : cs.length = v.cells.size) (h1 : ∀ (i : Nat) c, v.cells[i]? = some c → c.oneCell' = true)
    (hd : ∀ (i : Nat) s c, cs[i]? = some s → v.cells[i]? = some c → Den w (mset M0 st.tb L) s c) {t : TypeId} (hn : sizeOf? P t = some n) :
    ∃ w', (Instr.storeAt t u v).run P w = .ok () w' ∧ R N w0 M0 L { st with tb := tb' } a w' := by
  cases x with
  | ptr i off =>
    simp only [storeAt] at h
    split at h
    · rename_i t0 old hi
      simp only [Option.some.injEq, Prod.mk.injEq] at h
      obtain ⟨rfl, rfl⟩ := h
      obtain ⟨hcl, hfit⟩ := hob
      obtain ⟨hil, b, hL, rfl⟩ := hx
      obtain ⟨b', vs, hv, hb0, hh, hlen, h1', hdd⟩ := hR.inv.ok i _ hi
      rw [hL] at hv
      injection hv with hv
      injection hv with hv
      injection hv with hv _
      subst hv
      have hvl : v.cells.toList.length = n := by simp [← hl, hcl]
      have hrun := run_storeCells_at P b off t0 v.cells.toList 0 vs w hh (by rw [hvl, ← hlen]; simpa using hfit) (fun c hc => by
        obtain ⟨j, hj⟩ := List.mem_iff_getElem?.1 hc
        exact h1 j c (by simpa using hj))
      simp only [Nat.add_zero] at hrun
      let vs' : Array Value := (vs.toList.take off ++ v.cells.toList ++ vs.toList.drop (off + v.cells.toList.length)).toArray
      have hget : ∀ j, vs'[j]? = if off ≤ j ∧ j < off + v.cells.size then v.cells[j - off]? else vs[j]? := by
        intro j
        have := splice_get vs.toList v.cells.toList off j (by rw [hvl]; simp [← hlen]; exact hfit)
        simpa [vs'] using this
      have hsz' : vs'.size = vs.size := by
        simp only [vs', List.size_toArray, List.length_append, List.length_take, List.length_drop, Array.length_toList]
        have := hfit
        rw [hlen] at this
        rw [Array.length_toList] at hvl
        omega
      refine ⟨w.setRow b vs', by simp [Instr.storeAt, run_sure, storeVar, run_sizeOf hn, ← hl, hcl, hrun, vs'], ?_⟩
      have hg : w.grownBy (w.setRow b vs') (blkNo (L i)) := by rw [hL]; exact setRow_grown w b vs'
      have hset := hR.inv.set (k' := .cells t0 true (lay old off cs)) (v := L i) hi rfl hg (fun c hc => ⟨.inl hc, by
        have := (hR.inv.low i c hil hc).2
        simpa using this⟩) (by
        rw [hL]
        refine ⟨b, vs', rfl, hb0, setRow_heap w b vs vs' t0 (0, 0) hh, by rw [lay_len, hlen, hsz'], fun j c hj => ?_, fun j s c hj hc => ?_⟩
        · rw [hget] at hj
          split at hj
          · exact h1 _ _ hj
          · exact h1' _ _ hj
        · rw [hget] at hc
          rw [lay_get _ _ _ _ (by rw [hcl]; exact hfit)] at hj
          have hden : Den w (mset M0 st.tb L) s c := by
            by_cases hin : off ≤ j ∧ j < off + v.cells.size
            · rw [if_pos hin] at hc; rw [if_pos (by omega)] at hj; exact hd _ _ _ hj hc
            · rw [if_neg hin] at hc; rw [if_neg (by omega)] at hj; exact hdd _ _ _ hj hc
          refine hden.ext ⟨hg.os, hg.tape, hg.output, hg.size, fun k hk hnk => hg.block k hk (fun e => hnk (.inr ⟨i, _, hi, rfl, e.symm⟩))⟩ (mset_set hi rfl fun c' hc' => .inl (by rw [hL]; exact hc')))
      have hup : upd L i (L i) = L := funext fun j => by unfold upd; split <;> simp_all
      rw [hup] at hset
      refine hR.turn hset.1 (fun s c hden => hden.ext hset.2 (fun c' hc' h' => by
        have := mset_set (w := w) (k' := .cells t0 true (lay old off cs)) (v := L i) hi rfl (fun _ h => .inl h) c' hc' (by rw [hup]; exact h')
        exact this)) (fun _ _ => rfl) (by simp) (fun j t' sz' n' mu' get' hj => ?_)
      by_cases e : j = i
      · subst e; rw [hi] at hj; cases hj
      · exact ⟨t', mu', get', by rw [List.getElem?_set_ne (by omega)]; exact hj⟩
    · cases h
  | rp i k off =>
    simp only [storeAt] at h
    split at h
    · rename_i t0 sz m get hi
      simp only [Option.some.injEq, Prod.mk.injEq] at h
      obtain ⟨rfl, rfl⟩ := h
      obtain ⟨hcl, hfit⟩ := hob
      obtain ⟨b, n', c, t', sz', mu', get', hi', hL, hk, rfl⟩ := hx
      rw [hi] at hi'
      injection hi' with hi'
      injection hi' with e1 e2 e3 e4 e5
      subst e2 e3
      have hil : i < st.tb.length := (List.getElem?_eq_some_iff.1 hi).1
      obtain ⟨xs, ⟨hxl, ho⟩, hz, h1', hdd⟩ := hR.inv.ok i _ hi
      rw [hL] at ho
      rcases ho with ⟨hx, _⟩ | ⟨g, cap, cur, hv, hg0, hh, hnc, hcm, hcur, htake⟩
      · cases hx
      · injection hv with hv1 _ hv2
        injection hv1 with hv1
        injection hv1 with hv1 _
        subst hv1 hv2
        have hvl : v.cells.toList.length = n := by simp [← hl, hcl]
        have hksz : k * sz + sz ≤ m * sz := by rw [← Nat.succ_mul]; exact Nat.mul_le_mul_right _ hk
        have hmc : m * sz ≤ c * sz := Nat.mul_le_mul_right _ hnc
        have hrun := run_storeCells_at P b (k * sz + off) t0 v.cells.toList 0 cur w hh (by rw [hvl, hcur]; omega) (fun c' hc' => by
          obtain ⟨j, hj⟩ := List.mem_iff_getElem?.1 hc'
          exact h1 j c' (by simpa using hj))
        simp only [Nat.add_zero] at hrun
        let cur' : Array Value := (cur.toList.take (k * sz + off) ++ v.cells.toList ++ cur.toList.drop (k * sz + off + v.cells.toList.length)).toArray
        have hget : ∀ j, cur'[j]? = if k * sz + off ≤ j ∧ j < k * sz + off + v.cells.size then v.cells[j - (k * sz + off)]? else cur[j]? := by
          intro j
          have := splice_get cur.toList v.cells.toList (k * sz + off) j (by rw [hvl]; simp [hcur]; omega)
          simpa [cur'] using this
        have hsz' : cur'.size = cur.size := by
          simp only [cur', List.size_toArray, List.length_append, List.length_take, List.length_drop, Array.length_toList]
          rw [Array.length_toList] at hvl
          omega
        refine ⟨w.setRow b cur', by simp [Instr.storeAt, run_sure, storeVar, run_sizeOf hn, ← hl, hcl, hrun, cur'], ?_⟩
        have hg : w.grownBy (w.setRow b cur') (blkNo (L i)) := by rw [hL]; exact setRow_grown w b cur'
        have hxs : ∀ j, j < m * sz → xs[j]? = cur[j]? := by
          intro j hj
          rw [← htake, List.getElem?_take_of_lt hj]
          simp
        have hset := hR.inv.set (k' := .row t0 sz m true fun j => if j = k then lay (get k) off cs else get j) (v := L i) hi rfl hg (fun c' hc' => ⟨.inl hc', by
          have := (hR.inv.low i c' hil hc').2
          simpa using this⟩) (by
          rw [hL]
          refine ⟨cur'.toList.take (m * sz), ⟨by rw [List.length_take, Array.length_toList, hsz', hcur]; omega, .inr ⟨b, c, cur', rfl, hg0, setRow_heap w b cur cur' t0 (0, 0) hh, hnc, hcm, by rw [hsz', hcur], rfl⟩⟩, fun j hj => ?_, AllOne.of_heap (g := b) rfl (setRow_heap w b cur cur' t0 (0, 0) hh) (fun c' hc' => ?_), fun i' j s c' hi' hj hc' => ?_⟩
          · show (if j = k then lay (get k) off cs else get j).length = sz
            split
            · rw [lay_len]; exact hz k hk
            · exact hz j hj
          · obtain ⟨j, hj⟩ := List.mem_iff_getElem?.1 hc'
            have hj' : cur'[j]? = some c' := by simpa using hj
            rw [hget] at hj'
            split at hj'
            · exact h1 _ _ hj'
            · exact h1' b cur t0 (0, 0) (by rw [hL]; rfl) hh c' (Array.mem_toList_iff.2 (Array.mem_of_getElem? hj'))
          · have hz' := hz i' hi'
            have hi2 : i' * sz + sz ≤ m * sz := by rw [← Nat.succ_mul]; exact Nat.mul_le_mul_right _ hi'
            have hlen2 : (if i' = k then lay (get k) off cs else get i').length = sz := by
              split
              · rw [lay_len]; exact hz k hk
              · exact hz'
            have hjs : j < sz := by
              have : j < (if i' = k then lay (get k) off cs else get i').length := (List.getElem?_eq_some_iff.1 hj).1
              rwa [hlen2] at this
            have hjl : i' * sz + j < m * sz := by omega
            rw [List.getElem?_take_of_lt hjl] at hc'
            have hc2 : cur'[i' * sz + j]? = some c' := by simpa using hc'
            rw [hget] at hc2
            have hden : Den w (mset M0 st.tb L) s c' := by
              by_cases e : i' = k
              · subst e
                simp only [if_true] at hj
                rw [lay_get _ _ _ _ (by rw [hcl, hz']; exact hfit)] at hj
                by_cases hin : off ≤ j ∧ j < off + cs.length
                · rw [if_pos hin] at hj
                  rw [if_pos (by omega)] at hc2
                  exact hd _ _ _ hj (by rw [← hc2]; congr 1; omega)
                · rw [if_neg hin] at hj
                  rw [if_neg (by omega)] at hc2
                  exact hdd i' j s c' hi' hj ((hxs _ hjl).trans hc2)
              · simp only [if_neg e] at hj
                have hne : ¬ (k * sz + off ≤ i' * sz + j ∧ i' * sz + j < k * sz + off + v.cells.size) := by
                  rintro ⟨q1, q2⟩
                  rcases Nat.lt_or_ge i' k with hlt | hge
                  · have : i' * sz + sz ≤ k * sz := by rw [← Nat.succ_mul]; exact Nat.mul_le_mul_right _ hlt
                    omega
                  · have : k * sz + sz ≤ i' * sz := by rw [← Nat.succ_mul]; exact Nat.mul_le_mul_right _ (by omega)
                    omega
                rw [if_neg hne] at hc2
                exact hdd i' j s c' hi' hj ((hxs _ hjl).trans hc2)
            refine hden.ext ⟨hg.os, hg.tape, hg.output, hg.size, fun k' hk' hnk => hg.block k' hk' (fun e => hnk (.inr ⟨i, _, hi, rfl, e.symm⟩))⟩ (mset_set hi rfl fun c'' hc'' => .inl (by rw [hL]; exact hc'')))
        have hup : upd L i (L i) = L := funext fun j => by unfold upd; split <;> simp_all
        rw [hup] at hset
        refine hR.turn hset.1 (fun s c' hden => hden.ext hset.2 (fun c'' hc'' h' => by
          have := mset_set (w := w) (k' := .row t0 sz m true fun j => if j = k then lay (get k) off cs else get j) (v := L i) hi rfl (fun _ h => .inl h) c'' hc'' (by rw [hup]; exact h')
          exact this)) (fun _ _ => rfl) (by simp) (fun j t' sz' n' mu' get' hj => ?_)
        by_cases e : j = i
        · subst e
          rw [hi] at hj
          injection hj with hj
          injection hj with q1 q2 q3 q4 q5
          subst q2 q3
          exact ⟨t0, true, _, by rw [List.getElem?_set_self hil]⟩
        · exact ⟨t', mu', get', by rw [List.getElem?_set_ne (by omega)]; exact hj⟩
    · cases h
  | any => simp [storeAt] at h
  | sv => simp [storeAt] at h
  | own => simp [storeAt] at h
  | part => simp [storeAt] at h
  | opt => simp [storeAt] at h
  | exact => simp [storeAt] at h
  | isv => simp [storeAt] at h
end
end Go.Sx

namespace Go.Sx
open Go Go.RowKit
set_option linter.unusedSimpArgs false

section
variable {P : Program} {N : Nat} {w0 : Base} {M0 : Nat → Prop} {L : Nat → Value} {st : St} {a : Act} {w : World} {F : Nat → Prop}

/-- What is appended. -/
def Src (w : World) (M : Nat → Prop) (sz m : Nat) (get : Nat → List SV) (u : Value) : Prop :=
  ∃ (A : Option Addr) (c : Nat) (news : List Value), u = .slice A m c ∧ news.length = m * sz ∧ (∀ v ∈ news, v.oneCell' = true) ∧
    (∀ ad, A = some ad → ∀ (j : Nat) v, news[j]? = some v → w.cell? (ad.add j) = some v) ∧ (A = none → m = 0) ∧ (∀ i, i < m → (get i).length = sz) ∧
    ∀ (i j : Nat) s v, i < m → (get i)[j]? = some s → news[i * sz + j]? = some v → Den w M s v

theorem src_of_den {M : Nat → Prop} {sz m : Nat} {get : Nat → List SV} {u : Value} (hsz : 0 < sz) (h : Den w M (.lst sz m get) u) : Src w M sz m get u := by
  cases h with
  | lst _ _ _ A c b o val hc hm hA hM hb hz h1 hcell hd =>
    have hdm : ∀ k, k < m * sz → k / sz < m ∧ k % sz < sz ∧ k / sz * sz + k % sz = k := by
      intro k hk
      exact ⟨Nat.div_lt_of_lt_mul (by rwa [Nat.mul_comm] at hk), Nat.mod_lt _ hsz, Nat.div_add_mod' k sz⟩
    have hgs : ∀ i j, i < m → j < sz → ∃ s, (get i)[j]? = some s := fun i j hi hj => ⟨_, List.getElem?_eq_getElem (by rw [hz i hi]; exact hj)⟩
    refine ⟨A, c, (List.range (m * sz)).map fun k => val (k / sz) (k % sz), rfl, by simp, ?_, ?_, ?_, hz, ?_⟩
    · intro v hv
      simp only [List.mem_map, List.mem_range] at hv
      obtain ⟨k, hk, rfl⟩ := hv
      obtain ⟨q1, q2, q3⟩ := hdm k hk
      obtain ⟨s, hs⟩ := hgs _ _ q1 q2
      exact h1 _ _ s q1 hs
    · intro ad had j v hj
      simp only [List.getElem?_map, Option.map_eq_some_iff] at hj
      obtain ⟨k, hk, rfl⟩ := hj
      have hkl := (List.getElem?_eq_some_iff.1 hk).1
      rw [List.getElem?_range (by simpa using hkl)] at hk
      injection hk with hk
      subst hk
      simp at hkl
      obtain ⟨q1, q2, q3⟩ := hdm j hkl
      obtain ⟨s, hs⟩ := hgs _ _ q1 q2
      have := hA (Nat.lt_of_le_of_lt (Nat.zero_le _) q1)
      rw [had] at this
      injection this with this
      subst this
      rw [add_none]
      have hc' := hcell _ _ s q1 hs
      rwa [q3] at hc'
    · intro hn
      rcases Nat.eq_zero_or_pos m with h0 | h0
      · exact h0
      · rw [hA h0] at hn; cases hn
    · intro i j s v hi hj hv
      have hjs : j < sz := by rw [← hz i hi]; exact (List.getElem?_eq_some_iff.1 hj).1
      simp only [List.getElem?_map, Option.map_eq_some_iff] at hv
      obtain ⟨k, hk, rfl⟩ := hv
      have hkl := (List.getElem?_eq_some_iff.1 hk).1
      rw [List.getElem?_range (by simpa using hkl)] at hk
      injection hk with hk
      subst hk
      have e1 : (i * sz + j) / sz = i := by rw [Nat.mul_comm, Nat.mul_add_div hsz, Nat.div_eq_of_lt hjs]; rfl
      have e2 : (i * sz + j) % sz = j := by rw [Nat.mul_comm, Nat.mul_add_mod, Nat.mod_eq_of_lt hjs]
      rw [e1, e2]
      exact hd i j s hi hj

theorem src_of_row {M : Nat → Prop} {base t sz m : Nat} {mu : Bool} {get : Nat → List SV} {u : Value} (h : BlkOK w M base (.row t sz m mu get) u) : Src w M sz m get u := by
  obtain ⟨xs, ⟨hl, ho⟩, hz, h1a, hd⟩ := h
  have h1 := h1a.xs ⟨hl, ho⟩
  rcases ho with ⟨rfl, rfl⟩ | ⟨g, cap, cur, rfl, hg, hh, hnc, hcm, hcur, htake⟩
  · have hx : xs = [] := List.eq_nil_of_length_eq_zero (by simpa using hl)
    subst hx
    exact ⟨none, 0, [], rfl, by simp, by simp, by simp, fun _ => rfl, fun i h => by omega, fun i j s v hi => by omega⟩
  · refine ⟨_, cap, xs, rfl, hl, h1, ?_, (fun h => by cases h), hz, hd⟩
    intro ad had j v hj
    injection had with had
    subst had
    rw [add_none, Nat.zero_add]
    rw [← htake] at hj
    have hjl : j < m * sz := by
      have := (List.getElem?_eq_some_iff.1 hj).1
      simp at this; omega
    rw [List.getElem?_take_of_lt hjl] at hj
    simp only [World.cell?, hh]
    simpa using hj

theorem src_sound (hR : R N w0 M0 L st a w) {sz i m : Nat} {get : Nat → List SV} {ob : Prop} {y : LV} {u : Value} (hsz : 0 < sz) (h : srcOf st.tb sz i y = some (m, get, ob)) (hob : ob)
    (hy : LDen (gOf a) w (mset M0 st.tb L) L st.tb y u) : Src w (mset M0 st.tb L) sz m get u := by
  cases y with
  | sv s =>
    simp only [srcOf] at h
    split at h
    · rename_i n g hls
      simp only [Option.some.injEq, Prod.mk.injEq] at h
      obtain ⟨rfl, rfl, rfl⟩ := h
      exact src_of_den hsz (den_lstOf' hls hob hy)
    · cases h
  | own j =>
    simp only [srcOf] at h
    split at h
    · cases h
    · split at h
      · rename_i t sz' n mu g hrow
        simp only [Option.some.injEq, Prod.mk.injEq] at h
        obtain ⟨rfl, rfl, rfl⟩ := h
        subst hob
        obtain ⟨_, rfl⟩ := hy
        exact src_of_row (hR.inv.ok j _ hrow)
      · cases h
  | any => simp [srcOf] at h
  | ptr => simp [srcOf] at h
  | rp => simp [srcOf] at h
  | part => simp [srcOf] at h
  | opt => simp [srcOf] at h
  | exact => simp [srcOf] at h
  | isv => simp [srcOf] at h

theorem run_append_of_nil (base : Nat) (t ty e : TypeId) (i : TypeInfo) (size : Nat) (ht : P.underlying t = some (.slice e)) (hi : P.info? e = some i)
    (v : Value) (n : Nat) (xs : List Value) (hown : w.ownsRow base e size v n xs) (c : Nat) : (Builtin.append_ #[t, t] ty #[v, .slice none 0 c]).run P w = .ok v w := by
  rcases hown.2 with ⟨rfl, rfl⟩ | ⟨g, cap, cur, rfl, _, _, hnc, _⟩
  · simp [Builtin.append_, run_underlying ht, sizeOf, typeInfo, hi, Builtin.lenOf, Builtin.firstCells]
  · simp [Builtin.append_, run_underlying ht, sizeOf, typeInfo, hi, Builtin.lenOf, Builtin.firstCells, hnc, storeCells]

structure AppTy (P : Program) (t e : TypeId) (sz bytes : Nat) : Prop where
  und : P.underlying t = some (.slice e)
  inf : ∃ i z, P.info? e = some i ∧ i.zero = some z ∧ i.size = sz ∧ i.bytes = bytes ∧ z.cells.size = sz
  one : ∀ i z, P.info? e = some i → i.zero = some z → ∀ u ∈ z.cells.toList, u.oneCell' = true
  pos : 0 < sz

theorem zeroCells_one {z : Array Value} (h : ∀ u ∈ z.toList, u.oneCell' = true) (n : Nat) : ∀ u ∈ (Builtin.zeroCells z n).toList, u.oneCell' = true := by
  intro u hu
  obtain ⟨i, hi⟩ := List.mem_iff_getElem?.1 hu
  have hil : i < n * z.size := by
    have := (List.getElem?_eq_some_iff.1 hi).1
    simpa [Builtin.zeroCells] using this
  have hp : 0 < z.size := Nat.pos_of_ne_zero fun h => by rw [h] at hil; simp at hil
  have hm : i % z.size < z.size := Nat.mod_lt _ hp
  have : (Builtin.zeroCells z n).toList[i]? = z[i % z.size]? := by simp [Builtin.zeroCells, hil, hm]
  rw [this] at hi
  exact h u (Array.mem_toList_iff.2 (Array.mem_of_getElem? hi))

theorem app_allOne {t e ty : TypeId} {sz bytes : Nat} (ht : AppTy P t e sz bytes) {base n : Nat} {v : Value} {xs : List Value} (hown : w.ownsRow base e sz v n xs) (hone : AllOne w v) (ad : Addr) (m c : Nat) (news : List Value) (hl : news.length = m * sz)
    (hnews : ∀ j u, news[j]? = some u → w.cell? (ad.add j) = some u) (h1 : ∀ u ∈ news, u.oneCell' = true) (hroom : roomOK (n + m) bytes) {v' : Value} {w' : World}
    (hrun : (Builtin.append_ #[t, t] ty #[v, .slice (some ad) m c]).run P w = .ok v' w') : AllOne w' v' := by
  obtain ⟨i, z, hi, hzz, hs, hb, hzs⟩ := ht.inf
  have hz1 := ht.one i z hi hzz
  subst hs hb
  have hx1 := hone.xs hown
  have h63 : n + m ≤ 9223372036854775807 := by have := hroom.2; simp only [maxLen] at this; omega
  rcases hown.2 with ⟨rfl, rfl⟩ | ⟨g, cap, cur, rfl, hbg, hg, hnc, hcm, hcs, htake⟩
  · by_cases hm : m = 0
    · subst hm
      have hn : news = [] := List.eq_nil_of_length_eq_zero (by simpa using hl)
      subst hn
      have : (Builtin.append_ #[t, t] ty #[.slice none 0 0, .slice (some ad) 0 c]).run P w = .ok (.slice none 0 0) w := by
        simp [Builtin.append_, run_underlying ht.und, sizeOf, typeInfo, hi, Builtin.lenOf, Builtin.firstCells, loadCells, loadCellsFrom]
      rw [this] at hrun
      injection hrun with e1 e2
      subst e1 e2
      exact AllOne.nil
    · have hr := run_append_nil (P := P) w t ty e i z ht.und hi hzz ad m c news hl hnews (by omega) (by omega) (by have hb := hroom.1; simp only [Nat.zero_add] at hb; omega)
      rw [hr] at hrun
      injection hrun with e1 e2
      subst e1 e2
      refine AllOne.of_heap (g := w.heap.size) rfl (heap_alloc_new w.drew _) fun u hu => ?_
      simp only [Array.toList_append, List.mem_append] at hu
      rcases hu with hu | hu
      · exact h1 u hu
      · exact zeroCells_one hz1 _ u hu
  · by_cases hfit : n + m ≤ cap
    · have hf : n * i.size + news.length ≤ cur.size := by rw [hl, hcs, ← Nat.add_mul]; exact Nat.mul_le_mul_right _ hfit
      have hr := run_append_room (P := P) w t ty e i ht.und hi g n cap cur hg ad m c news hl hnews h1 hfit hf
      rw [hr] at hrun
      injection hrun with e1 e2
      subst e1 e2
      refine AllOne.of_heap (g := g) rfl (setRow_heap w g cur _ e _ hg) fun u hu => ?_
      simp only [List.mem_append] at hu
      have ho := hone g cur e (0, 0) rfl hg
      rcases hu with (hu | hu) | hu
      · exact ho u (List.mem_of_mem_take hu)
      · exact h1 u hu
      · exact ho u (List.mem_of_mem_drop hu)
    · have holds : ∀ j u, xs[j]? = some u → w.cell? ((⟨g, 0, none⟩ : Addr).add j) = some u := hown.cells (g := g) rfl
      have hr := run_append_grow (P := P) w t ty e i z ht.und hi hzz ⟨g, 0, none⟩ n cap xs hown.1 holds ad m c news hl hnews (by omega) (by omega) (growslice_fits (by omega) hroom.1)
      rw [hr] at hrun
      injection hrun with e1 e2
      subst e1 e2
      refine AllOne.of_heap (g := w.heap.size) rfl (heap_alloc_new w.drew _) fun u hu => ?_
      simp only [Array.toList_append, List.mem_append] at hu
      rcases hu with (hu | hu) | hu
      · exact hx1 u hu
      · exact h1 u hu
      · exact zeroCells_one hz1 _ u hu

theorem run_app {t e : TypeId} {sz bytes : Nat} (ht : AppTy P t e sz bytes) (ty : TypeId) (base : Nat) {M : Nat → Prop} {m : Nat} {get' : Nat → List SV} {u v : Value} {n : Nat} {xs : List Value} (hown : w.ownsRow base e sz v n xs) (hone : AllOne w v)
    (hsrc : Src w M sz m get' u) (hroom : roomOK (n + m) bytes) (hbase : base ≤ w.heap.size) :
    ∃ v' w' news, AllOne w' v' ∧ (Builtin.append_ #[t, t] ty #[v, u]).run P w = .ok v' w' ∧ w'.ownsRow base e sz v' (n + m) (xs ++ news) ∧ w.grownBy w' v.ownBlock ∧ (v'.ownBlock = v.ownBlock ∨ v'.ownBlock = some w.heap.size) ∧
      news.length = m * sz ∧ (∀ x ∈ news, x.oneCell' = true) ∧ (∀ i, i < m → (get' i).length = sz) ∧ ∀ (i j : Nat) s x, i < m → (get' i)[j]? = some s → news[i * sz + j]? = some x → Den w M s x := by
  obtain ⟨A, c, news, rfl, hl, h1, hcell, hnil, hz, hd⟩ := hsrc
  obtain ⟨i, z, hi, hzz, hs, hb, hzs⟩ := ht.inf
  cases A with
  | none =>
    have hm : m = 0 := hnil rfl
    subst hm
    have hn : news = [] := List.eq_nil_of_length_eq_zero (by simpa using hl)
    subst hn
    exact ⟨v, w, [], hone, run_append_of_nil base t ty e i sz ht.und hi v n xs hown c, by simpa using hown, (⟨rfl, rfl, rfl, Nat.le_refl _, fun _ _ _ => rfl⟩ : w.grownBy w _), .inl rfl, by simp, by simp, hz, hd⟩
  | some ad =>
    obtain ⟨v', w', hrun, h2, h3, _, h5⟩ := run_append_own_at (P := P) w base t ty e i z sz bytes ht.und hi hzz hs hb hzs ht.pos v n xs hown ad m c news hl (hcell ad rfl) h1 hroom.2 hroom.1 hbase
    exact ⟨v', w', news, app_allOne ht hown hone ad m c news hl (hcell ad rfl) h1 hroom hrun, hrun, h2, h3, h5, hl, h1, hz, hd⟩

theorem ownBlock_eq {base : Nat} {e : TypeId} {sz n : Nat} {v : Value} {xs : List Value} (h : w.ownsRow base e sz v n xs) : v.ownBlock = blkNo v := by
  rcases h.2 with ⟨rfl, _⟩ | ⟨g, cap, cur, rfl, _⟩ <;> rfl

theorem look_killSl (i t : Nat) : ∀ sl : List (Nat × LV), look (killSl i sl) t = kill i (look sl t)
  | [] => rfl
  | (k, x) :: r => by
    simp only [killSl, look]
    split
    · rfl
    · exact look_killSl i t r

theorem gsl_kill (i : Nat) (x : LV) : gsl (kill i x) = [] := by
  cases x <;> simp [kill] <;> (try split) <;> simp [gsl]

theorem row_join {M M' : Nat → Prop} {w' : World} {sz n m : Nat} {get get' : Nat → List SV} {xs news : List Value} (hxl : xs.length = n * sz) (hz : ∀ i, i < n → (get i).length = sz) (hz' : ∀ i, i < m → (get' i).length = sz)
    (hd : ∀ (i j : Nat) s u, i < n → (get i)[j]? = some s → xs[i * sz + j]? = some u → Den w M s u) (hd' : ∀ (i j : Nat) s u, i < m → (get' i)[j]? = some s → news[i * sz + j]? = some u → Den w M s u)
    (hm : ∀ s u, Den w M s u → Den w' M' s u) :
    (∀ i, i < n + m → (joinGet n get get' i).length = sz) ∧ ∀ (i j : Nat) s u, i < n + m → (joinGet n get get' i)[j]? = some s → (xs ++ news)[i * sz + j]? = some u → Den w' M' s u := by
  refine ⟨fun i hi => ?_, fun i j s u hi hj hu => hm _ _ ?_⟩
  · unfold joinGet
    split
    · exact hz _ ‹_›
    · exact hz' _ (by omega)
  · unfold joinGet at hj
    split at hj
    · rename_i hlt
      have hjs : j < sz := by rw [← hz i hlt]; exact (List.getElem?_eq_some_iff.1 hj).1
      have : i * sz + sz ≤ n * sz := by rw [← Nat.succ_mul]; exact Nat.mul_le_mul_right _ hlt
      rw [List.getElem?_append_left (by omega)] at hu
      exact hd i j s u hlt hj hu
    · rename_i hge
      have : n * sz ≤ i * sz := Nat.mul_le_mul_right _ (by omega)
      rw [List.getElem?_append_right (by omega)] at hu
      refine hd' (i - n) j s u (by omega) hj ?_
      rw [← hu, Nat.sub_mul, hxl]
      congr 1
      omega

/-- Elements of a row of the call's own are laid anew. -/
theorem row_splice (hR : R N w0 M0 L st a w) {i : Nat} {t0 : TypeId} {sz m : Nat} {get : Nat → List SV} (hi : st.tb[i]? = some (.row t0 sz m true get)) {b c : Nat} {cur : Array Value} (hL : L i = .slice (some ⟨b, 0, none⟩) m c)
    (hh : w.heap[b]? = some (.cells cur t0 (0, 0))) {k q : Nat} {get2 : Nat → List SV} {vs : List Value} (hkq : k + q ≤ m) (hvl : vs.length = q * sz) (h1 : ∀ v ∈ vs, v.oneCell' = true) (hz2 : ∀ j, j < q → (get2 j).length = sz)
    (hd : ∀ (i j : Nat) s u, i < q → (get2 i)[j]? = some s → vs[i * sz + j]? = some u → Den w (mset M0 st.tb L) s u) :
    R N w0 M0 L { st with tb := st.tb.set i (.row t0 sz m true (spliceGet k q get2 get)) } a (w.setRow b (cur.toList.take (k * sz) ++ vs ++ cur.toList.drop (k * sz + vs.length)).toArray) := by
  have hil : i < st.tb.length := (List.getElem?_eq_some_iff.1 hi).1
  obtain ⟨xs, ⟨hxl, ho⟩, hz, h1a, hdd⟩ := hR.inv.ok i _ hi
  have h1' := h1a.xs ⟨hxl, ho⟩
  rw [hL] at ho
  rcases ho with ⟨hx, _⟩ | ⟨g, cap, cur0, hv, hg0, hh0, hnc, hcm, hcur, htake⟩
  · cases hx
  injection hv with hv1 _ hv2
  injection hv1 with hv1
  injection hv1 with hv1 _
  subst hv1 hv2
  rw [hh] at hh0
  simp only [Option.some.injEq, Obj.cells.injEq, and_true] at hh0
  subst hh0
  have hksz : k * sz + q * sz ≤ m * sz := by rw [← Nat.add_mul]; exact Nat.mul_le_mul_right _ hkq
  have hmc : m * sz ≤ c * sz := Nat.mul_le_mul_right _ hnc
  generalize hcur' : (cur.toList.take (k * sz) ++ vs ++ cur.toList.drop (k * sz + vs.length)).toArray = cur'
  have hget : ∀ j, cur'[j]? = if k * sz ≤ j ∧ j < k * sz + vs.length then vs[j - (k * sz)]? else cur[j]? := by
    intro j
    have := splice_get cur.toList vs (k * sz) j (by rw [hvl]; simp [hcur]; omega)
    rw [← hcur']
    simpa using this
  have hsz' : cur'.size = cur.size := by
    rw [← hcur']
    simp only [List.size_toArray, List.length_append, List.length_take, List.length_drop, Array.length_toList]
    omega
  have hg : w.grownBy (w.setRow b cur') (blkNo (L i)) := by rw [hL]; exact setRow_grown w b cur'
  have hxs : ∀ j, j < m * sz → xs[j]? = cur[j]? := by
    intro j hj
    rw [← htake, List.getElem?_take_of_lt hj]
    simp
  have hset := hR.inv.set (k' := .row t0 sz m true (spliceGet k q get2 get)) (v := L i) hi rfl hg (fun c' hc' => ⟨.inl hc', by
    have := (hR.inv.low i c' hil hc').2
    simpa using this⟩) (by
    rw [hL]
    refine ⟨cur'.toList.take (m * sz), ⟨by rw [List.length_take, Array.length_toList, hsz', hcur]; omega, .inr ⟨b, c, cur', rfl, hg0, setRow_heap w b cur cur' t0 (0, 0) hh, hnc, hcm, by rw [hsz', hcur], rfl⟩⟩, fun j hj => ?_, AllOne.of_heap (g := b) rfl (setRow_heap w b cur cur' t0 (0, 0) hh) (fun c' hc' => ?_), fun i' j s c' hi' hj hc' => ?_⟩
    · unfold spliceGet
      split
      · exact hz2 _ (by omega)
      · exact hz j hj
    · obtain ⟨j, hj⟩ := List.mem_iff_getElem?.1 hc'
      have hj' : cur'[j]? = some c' := by simpa using hj
      rw [hget] at hj'
      split at hj'
      · exact h1 _ (List.mem_of_getElem? hj')
      · exact h1a b cur t0 (0, 0) (by rw [hL]; rfl) hh c' (Array.mem_toList_iff.2 (Array.mem_of_getElem? hj'))
    · have hz' := hz i' hi'
      have hi2 : i' * sz + sz ≤ m * sz := by rw [← Nat.succ_mul]; exact Nat.mul_le_mul_right _ hi'
      have hlen2 : (spliceGet k q get2 get i').length = sz := by
        unfold spliceGet
        split
        · exact hz2 _ (by omega)
        · exact hz'
      have hjs : j < sz := by
        have := (List.getElem?_eq_some_iff.1 hj).1
        rwa [hlen2] at this
      have hjl : i' * sz + j < m * sz := by omega
      rw [List.getElem?_take_of_lt hjl] at hc'
      have hc2 : cur'[i' * sz + j]? = some c' := by simpa using hc'
      rw [hget] at hc2
      have hden : Den w (mset M0 st.tb L) s c' := by
        unfold spliceGet at hj
        by_cases e : k ≤ i' ∧ i' < k + q
        · rw [if_pos e] at hj
          have e1 : k * sz ≤ i' * sz := Nat.mul_le_mul_right _ e.1
          have e2 : i' * sz + sz ≤ (k + q) * sz := by rw [← Nat.succ_mul]; exact Nat.mul_le_mul_right _ e.2
          rw [Nat.add_mul] at e2
          rw [if_pos (by omega)] at hc2
          refine hd (i' - k) j s c' (by omega) hj ?_
          rw [← hc2, Nat.sub_mul]
          congr 1
          omega
        · rw [if_neg e] at hj
          have hne : ¬ (k * sz ≤ i' * sz + j ∧ i' * sz + j < k * sz + vs.length) := by
            rintro ⟨q1, q2⟩
            rcases Nat.lt_or_ge i' k with hlt | hge
            · have : i' * sz + sz ≤ k * sz := by rw [← Nat.succ_mul]; exact Nat.mul_le_mul_right _ hlt
              omega
            · have : (k + q) * sz ≤ i' * sz := Nat.mul_le_mul_right _ (by omega)
              rw [Nat.add_mul] at this
              omega
          rw [if_neg hne] at hc2
          exact hdd i' j s c' hi' hj ((hxs _ hjl).trans hc2)
      refine hden.ext ⟨hg.os, hg.tape, hg.output, hg.size, fun k' hk' hnk => hg.block k' hk' (fun e => hnk (.inr ⟨i, _, hi, rfl, e.symm⟩))⟩ (mset_set hi rfl fun c'' hc'' => .inl (by rw [hL]; exact hc'')))
  have hup : upd L i (L i) = L := funext fun j => by unfold upd; split <;> simp_all
  rw [hup] at hset
  refine hR.turn hset.1 (fun s c' hden => hden.ext hset.2 (fun c'' hc'' h' => by
    have := mset_set (w := w) (k' := .row t0 sz m true (spliceGet k q get2 get)) (v := L i) hi rfl (fun _ h => .inl h) c'' hc'' (by rw [hup]; exact h')
    exact this)) (fun _ _ => rfl) (by simp) (fun j t' sz' n' mu' get' hj => ?_)
  by_cases e : j = i
  · subst e
    rw [hi] at hj
    injection hj with hj
    injection hj with q1 q2 q3 q4 q5
    subst q2 q3
    exact ⟨t0, true, _, by rw [List.getElem?_set_self hil]⟩
  · exact ⟨t', mu', get', by rw [List.getElem?_set_ne (by omega)]; exact hj⟩

/-- append onto a row of the call's own. -/
theorem app_sound (hR : R N w0 M0 L st a w) {t e ty : TypeId} {sz bytes : Nat} (ht : AppTy P t e sz bytes) {d : Option Nat} {x y : LV} {vx vy : Value} {K : St → Prop} (h : appVC st e sz bytes x y d K)
    (hx : LDen (gOf a) w (mset M0 st.tb L) L st.tb x vx) (hy : LDen (gOf a) w (mset M0 st.tb L) L st.tb y vy) (hF : ∀ t, ∀ s ∈ gsl (look st.sl t), F s) (hd : ∀ k, d = some k → k < N ∧ ¬ F k) :
    ∃ v w' L' st', (Builtin.append_ #[t, t] ty #[vx, vy]).run P w = .ok v w' ∧ K st' ∧ R N w0 M0 L' st' (a.put d v) w' ∧ ∀ t, ∀ s ∈ gsl (look st'.sl t), F s := by
  unfold appVC at h
  split at h
  · rename_i i
    split at h
    · rename_i e' sz' n get hi
      split at h
      · rename_i m get' ob hsrc
        obtain ⟨⟨rfl, rfl, hob, hroom⟩, hk⟩ := h
        have hil : i < st.tb.length := (List.getElem?_eq_some_iff.1 hi).1
        obtain ⟨_, rfl⟩ := hx
        obtain ⟨xs, hown, hz, h1, hdd⟩ := hR.inv.ok i _ hi
        obtain ⟨v', w', news, hone', hrun, hown', hg, hblk, hnl, hn1, hnz, hnd⟩ := run_app ht ty 0 hown h1 (src_sound hR ht.pos hsrc hob hy) hroom (Nat.zero_le _)
        rw [ownBlock_eq hown, ownBlock_eq hown'] at hblk
        rw [ownBlock_eq hown] at hg
        have hf : ∀ b, blkNo v' = some b → (blkNo (L i) = some b ∨ w.heap.size ≤ b) ∧ b < w'.heap.size := by
          intro b hb
          refine ⟨?_, ?_⟩
          · rcases hblk with h | h
            · exact .inl (h ▸ hb)
            · rw [hb] at h; injection h with h; exact .inr (by omega)
          · exact (hown'.lt b (by rw [ownBlock_eq hown']; exact hb)).2
        have hset := hR.inv.set (k' := .row e' sz' (n + m) true (joinGet n get get')) (v := v') hi rfl hg hf (by
          have hj := row_join (w := w) (w' := w') (M := mset M0 st.tb L) (M' := mset M0 (st.tb.set i (.row e' sz' (n + m) true (joinGet n get get'))) (upd L i v')) hown.1 hz hnz hdd hnd
            (fun s u hden => hden.ext ⟨hg.os, hg.tape, hg.output, hg.size, fun k hk hnk => hg.block k hk (fun e => hnk (.inr ⟨i, _, hi, rfl, e.symm⟩))⟩ (mset_set hi rfl fun b hb => (hf b hb).1))
          exact ⟨xs ++ news, hown', hj.1, hone', hj.2⟩)
        have hR' : R N w0 M0 (upd L i v') { sl := killSl i st.sl, tb := st.tb.set i (.row e' sz' (n + m) true (joinGet n get get')) } a w' := by
          refine { inv := hset.1, size := hR.size, defers := hR.defers, slot := fun t => ?_ }
          simp only [look_killSl]
          have hs := hR.slot t
          have hdt : ∀ s u, Den w (mset M0 st.tb L) s u → Den w' (mset M0 (st.tb.set i (.row e' sz' (n + m) true (joinGet n get get'))) (upd L i v')) s u :=
            fun s u hden => hden.ext hset.2 (mset_set hi rfl fun b hb => (hf b hb).1)
          generalize look st.sl t = q at hs
          cases q with
          | any => trivial
          | sv s => exact hdt _ _ hs
          | ptr j off =>
            simp only [kill]
            split
            · trivial
            · rename_i hne
              obtain ⟨hj, b, hl, hv⟩ := hs
              exact ⟨by simpa using hj, b, by rw [upd_other _ _ _ _ hne]; exact hl, hv⟩
          | rp j k off =>
            simp only [kill]
            split
            · trivial
            · rename_i hne
              obtain ⟨b, n', c, t', sz2, mu, g, hj, hl, hk', hv⟩ := hs
              exact ⟨b, n', c, t', sz2, mu, g, by rw [List.getElem?_set_ne (by omega)]; exact hj, by rw [upd_other _ _ _ _ hne]; exact hl, hk', hv⟩
          | own j =>
            simp only [kill]
            split
            · trivial
            · rename_i hne
              obtain ⟨hj, hv⟩ := hs
              exact ⟨by simpa using hj, by rw [upd_other _ _ _ _ hne]; exact hv⟩
          | part j lo hi =>
            simp only [kill]
            split
            · trivial
            · rename_i hne
              obtain ⟨n', t', sz2, mu, g, hj, q1, q2, q3⟩ := hs
              exact ⟨n', t', sz2, mu, g, by rw [List.getElem?_set_ne (by omega)]; exact hj, q1, q2, by rw [upd_other _ _ _ _ hne]; exact q3⟩
          | opt => trivial
          | exact j =>
            simp only [kill]
            split
            · trivial
            · rename_i hne
              obtain ⟨hj, A, n', hs⟩ := hs
              exact ⟨by simpa using hj, A, n', by rw [upd_other _ _ _ _ hne]; exact hs⟩
          | isv j v =>
            simp only [kill]
            split
            · trivial
            · rename_i hne
              obtain ⟨hj, hs⟩ := hs
              exact ⟨by simpa using hj, by rw [upd_other _ _ _ _ hne]; exact hs⟩
        obtain ⟨hR2, hF2⟩ := hR'.put (F := F) (fun t s hs => by rw [look_killSl, gsl_kill] at hs; simp at hs) hd (x := .own i) (v := v') ⟨by simpa using hil, (upd_same _ _ _).symm⟩ (by simp [gsl])
        exact ⟨v', w', _, _, hrun, hk, hR2, hF2⟩
      · exact h.elim
    · exact h.elim
  · split at h
    · rename_i m get' ob hsrc
      obtain ⟨⟨hob, hroom⟩, hk⟩ := h
      have hvx : vx = .slice none 0 0 := by cases hx; rfl
      subst hvx
      obtain ⟨v', w', news, hone', hrun, hown', hg, hblk, hnl, hn1, hnz, hnd⟩ := run_app ht ty 0 (World.ownsRow_nil w 0 e sz) AllOne.nil (src_sound hR ht.pos hsrc hob hy) (by simpa using hroom) (Nat.zero_le _)
      simp only [Nat.zero_add, List.nil_append] at hown'
      rw [ownBlock_eq hown'] at hblk
      have hbel : Below w.heap.size w w' := ⟨hg.os, hg.tape, hg.output, hg.size, fun k hk => hg.block k hk (by simp [Value.ownBlock])⟩
      have hf : ∀ b, blkNo v' = some b → w.heap.size ≤ b ∧ b < w'.heap.size := by
        intro b hb
        refine ⟨?_, (hown'.lt b (by rw [ownBlock_eq hown']; exact hb)).2⟩
        rcases hblk with h | h
        · rw [h] at hb; simp [Value.ownBlock] at hb
        · rw [hb] at h; injection h with h; omega
      have hR' := hR.push hbel (k := .row e sz m true get') (v := v') hf ⟨news, hown', hnz, hone', fun i j s u hi hj hu => (hnd i j s u hi hj hu).mono hbel.size (mset_push fun b hb => (hf b hb).1) (fun ad u' ha _ hc => by rw [hbel.cell ha]; exact hc)⟩
      obtain ⟨hR2, hF2⟩ := hR'.put hF hd (x := .own st.tb.length) (v := v') ⟨by simp, (upd_same _ _ _).symm⟩ (by simp [gsl])
      exact ⟨v', w', _, _, hrun, hk, hR2, hF2⟩
    · exact h.elim
  · rename_i i k
    split at h
    · rename_i e' sz' n get hi
      split at h
      · rename_i j p q
        obtain ⟨⟨rfl, rfl, rfl, hkn⟩, hk⟩ := h
        have hil : j < st.tb.length := (List.getElem?_eq_some_iff.1 hi).1
        obtain ⟨_, _, _, hi1, _, hk1, hcx⟩ := rowPart_sound hR.inv (x := .part j 0 k) (j := j) (a := 0) (b := k) (sz := sz') (n := n) (by simp [rowPart, hi]) hx
        obtain ⟨_, _, _, hi2, hpq, hqn, hcy⟩ := rowPart_sound hR.inv (x := .part j p q) (j := j) (a := p) (b := q) (sz := sz') (n := n) (by simp [rowPart, hi]) hy
        obtain ⟨inf, z, hinf, hzz, hsz, hbb, hzs⟩ := ht.inf
        have hstay : q - p = 0 → ∀ v, LDen (gOf a) w (mset M0 st.tb L) L st.tb (.part j 0 (k + (q - p))) v → (Builtin.append_ #[t, t] ty #[vx, vy]).run P w = .ok v w → ∃ v w' L' st', (Builtin.append_ #[t, t] ty #[vx, vy]).run P w = .ok v w' ∧ K st' ∧ R N w0 M0 L' st' (a.put d v) w' ∧ ∀ t, ∀ s ∈ gsl (look st'.sl t), F s := by
          intro h0 v hv hrun
          have hsame : ({ st with tb := st.tb.set j (.row e' sz' n true (spliceGet k (q - p) (fun j => get (p + j)) get)) } : St) = st := by
            have hg : spliceGet k (q - p) (fun j => get (p + j)) get = get := funext fun j' => by unfold spliceGet; rw [if_neg (by omega)]
            rw [hg]
            have : st.tb.set j (.row e' sz' n true get) = st.tb := by
              apply List.ext_getElem?
              intro j'
              by_cases e : j = j'
              · subst e; rw [List.getElem?_set_self hil, hi]
              · rw [List.getElem?_set_ne e]
            rw [this]
          rw [hsame] at hk
          obtain ⟨hR2, hF2⟩ := hR.put hF hd (x := .part j 0 (k + (q - p))) (v := v) hv (by simp [gsl])
          exact ⟨v, w, L, _, hrun, hk, hR2, hF2⟩
        rcases hcx with ⟨hLn, rfl, h00⟩ | ⟨g, o, c, hL, hox, rfl, hnc⟩
        · rcases hcy with ⟨_, rfl, _⟩ | ⟨g, o, c, hL, _⟩
          · refine hstay (by omega) (.slice none 0 0) ⟨n, e', sz', true, get, hi, Nat.zero_le _, by omega, .inl ⟨hLn, rfl⟩⟩ ?_
            simp [Builtin.append_, run_underlying ht.und, sizeOf, typeInfo, hinf, Builtin.lenOf, Builtin.firstCells]
          · rw [hLn] at hL; cases hL
        · rcases hcy with ⟨hL', _⟩ | ⟨g', o', c', hL', hoy, rfl, _⟩
          · rw [hL] at hL'; cases hL'
          rw [hL] at hL'
          simp only [Value.slice.injEq, Option.some.injEq, Addr.mk.injEq, true_and, and_true] at hL'
          obtain ⟨rfl, rfl⟩ := hL'
          obtain ⟨xs, ⟨hxl, ho⟩, hz, h1a, hdd⟩ := hR.inv.ok j _ hi
          have h1 := h1a.xs ⟨hxl, ho⟩
          rw [hL] at ho
          rcases ho with ⟨hx', _⟩ | ⟨g2, cap, cur, hv, hg0, hh, _, hcm, hcur, htake⟩
          · cases hx'
          simp only [Value.slice.injEq, Option.some.injEq, Addr.mk.injEq, true_and, and_true] at hv
          obtain ⟨rfl, rfl⟩ := hv
          have e1 : p * sz' + (q - p) * sz' ≤ n * sz' := by rw [← Nat.add_mul]; exact Nat.mul_le_mul_right _ (by omega)
          have e2 : n * sz' ≤ c * sz' := Nat.mul_le_mul_right _ hnc
          have e3 : k * sz' + (q - p) * sz' ≤ n * sz' := by rw [← Nat.add_mul]; exact Nat.mul_le_mul_right _ (by omega)
          generalize hvs : (cur.toList.drop (p * sz')).take ((q - p) * sz') = vs
          have hvl : vs.length = (q - p) * sz' := by
            rw [← hvs, List.length_take, List.length_drop, Array.length_toList, hcur]; omega
          have hvg : ∀ j', j' < (q - p) * sz' → vs[j']? = cur[p * sz' + j']? := by
            intro j' hj'
            rw [← hvs, List.getElem?_take_of_lt hj', List.getElem?_drop]
            simp
          have hxs : ∀ j, j < n * sz' → xs[j]? = cur[j]? := by
            intro j hj
            rw [← htake, List.getElem?_take_of_lt hj]
            simp
          have h1v : ∀ v ∈ vs, v.oneCell' = true := by
            intro v hv
            obtain ⟨j', hj'⟩ := List.mem_iff_getElem?.1 hv
            have hlt := (List.getElem?_eq_some_iff.1 hj').1
            rw [hvl] at hlt
            rw [hvg j' hlt, ← hxs _ (by omega)] at hj'
            exact h1 v (List.mem_of_getElem? hj')
          have hload : (loadCells ⟨g, o', none⟩ ((q - p) * sz')).run P w = .ok vs.toArray w := by
            rw [← hvl]
            refine run_loadCells_list w _ vs fun j' v hj' => ?_
            have hlt := (List.getElem?_eq_some_iff.1 hj').1
            rw [hvl] at hlt
            have hpos : 0 < q - p := Nat.pos_of_ne_zero fun h0 => by rw [h0] at hlt; simp at hlt
            rw [hoy (by omega), add_none]
            simp only [World.cell?, hh]
            rw [← hvg j' hlt]
            exact hj'
          rcases Nat.eq_zero_or_pos (q - p) with h0 | h0
          · refine hstay h0 (.slice (some ⟨g, o, none⟩) (k + (q - p) - 0) (c - 0)) ⟨n, e', sz', true, get, hi, Nat.zero_le _, by omega, .inr ⟨g, o, c, hL, hox, rfl⟩⟩ ?_
            rw [h0] at hload ⊢
            simp only [Nat.zero_mul] at hload
            have hv0 : vs = [] := List.eq_nil_of_length_eq_zero (by rw [hvl, h0]; simp)
            subst hv0
            have : k ≤ c := by omega
            simp [Builtin.append_, run_underlying ht.und, sizeOf, typeInfo, hinf, Builtin.lenOf, Builtin.firstCells, hload, this, storeCells]
          · have hc0 : 0 < c := by omega
            have ho0 := hox (by omega)
            simp only [Nat.zero_mul] at ho0
            subst ho0
            have ho1 := hoy (by omega)
            subst ho1
            have hstore := run_storeCells_at P g (k * sz') e' vs 0 cur w hh (by rw [hvl, hcur]; omega) h1v
            have hR1 := row_splice hR hi hL hh (k := k) (q := q - p) (get2 := fun j => get (p + j)) (vs := vs) hkn hvl h1v (fun j' hj' => hz _ (by omega)) (fun i' j' s u hi' hj' hu => by
              have hjs : j' < sz' := by rw [← hz (p + i') (by omega)]; exact (List.getElem?_eq_some_iff.1 hj').1
              have e4 : i' * sz' + sz' ≤ (q - p) * sz' := by rw [← Nat.succ_mul]; exact Nat.mul_le_mul_right _ hi'
              refine hdd (p + i') j' s u (by omega) hj' ?_
              rw [hvg _ (by omega)] at hu
              rw [Nat.add_mul, hxs _ (by omega), ← hu]
              congr 1
              omega)
            have hset1 : (st.tb.set j (.row e' sz' n true (spliceGet k (q - p) (fun j => get (p + j)) get)))[j]? = some (.row e' sz' n true (spliceGet k (q - p) (fun j => get (p + j)) get)) := by rw [List.getElem?_set_self hil]
            obtain ⟨hR2, hF2⟩ := hR1.put hF hd (x := .part j 0 (k + (q - p))) (v := .slice (some ⟨g, 0, none⟩) (k + (q - p)) c) ⟨n, e', sz', true, _, hset1, Nat.zero_le _, by omega, .inr ⟨g, 0, c, hL, fun _ => by simp, by simp⟩⟩ (by simp [gsl])
            refine ⟨_, _, L, _, ?_, hk, hR2, hF2⟩
            have : k + (q - p) ≤ c := by omega
            simp [Builtin.append_, run_underlying ht.und, sizeOf, typeInfo, hinf, hsz, Builtin.lenOf, Builtin.firstCells, hload, this, add_none]
            simp only [Nat.add_zero, List.append_assoc] at hstore
            rw [hstore]
            rfl
      · exact h.elim
    · exact h.elim
  · exact h.elim

theorem zeroCells_get (z : Array Value) (n i : Nat) (hi : i < n * z.size) : (Builtin.zeroCells z n).toList[i]? = z[i % z.size]? := by
  have hp : 0 < z.size := Nat.pos_of_ne_zero fun h => by rw [h] at hi; simp at hi
  have hm : i % z.size < z.size := Nat.mod_lt _ hp
  simp [Builtin.zeroCells, hi, hm]

/-- clear on a part of a row of the call's own. -/
theorem clear_sound (hR : R N w0 M0 L st a w) {t e ty : TypeId} {sz : Nat} {z : List Value} (hu : P.underlying t = some (.slice e)) (hz0 : zeroOf P e = some z) (hzl : z.length = sz) {d : Option Nat} {x : LV} {vx : Value} {K : St → Prop}
    (h : clearVC st sz z x d K) (hx : LDen (gOf a) w (mset M0 st.tb L) L st.tb x vx) (hF : ∀ t, ∀ s ∈ gsl (look st.sl t), F s) (hd : ∀ k, d = some k → k < N ∧ ¬ F k) :
    ∃ v w' L' st', (Builtin.clear_ #[t] ty #[vx]).run P w = .ok v w' ∧ K st' ∧ R N w0 M0 L' st' (a.put d v) w' ∧ ∀ t, ∀ s ∈ gsl (look st'.sl t), F s := by
  unfold clearVC at h
  split at h
  · rename_i j p q
    split at h
    · rename_i e' sz' n get hi
      obtain ⟨rfl, hk⟩ := h
      have hil : j < st.tb.length := (List.getElem?_eq_some_iff.1 hi).1
      obtain ⟨_, _, _, hi1, hpq, hqn, hcx⟩ := rowPart_sound hR.inv (x := .part j p q) (j := j) (a := p) (b := q) (sz := sz') (n := n) (by simp [rowPart, hi]) hx
      have hstay : q - p = 0 → (Builtin.clear_ #[t] ty #[vx]).run P w = .ok (.tuple #[]) w → ∃ v w' L' st', (Builtin.clear_ #[t] ty #[vx]).run P w = .ok v w' ∧ K st' ∧ R N w0 M0 L' st' (a.put d v) w' ∧ ∀ t, ∀ s ∈ gsl (look st'.sl t), F s := by
        intro h0 hrun
        have hsame : ({ st with tb := st.tb.set j (.row e' sz' n true (spliceGet p (q - p) (fun _ => z.map SV.val) get)) } : St) = st := by
          have hg : spliceGet p (q - p) (fun _ => z.map SV.val) get = get := funext fun j' => by unfold spliceGet; rw [if_neg (by omega)]
          rw [hg]
          have : st.tb.set j (.row e' sz' n true get) = st.tb := by
            apply List.ext_getElem?
            intro j'
            by_cases e : j = j'
            · subst e; rw [List.getElem?_set_self hil, hi]
            · rw [List.getElem?_set_ne e]
          rw [this]
        rw [hsame] at hk
        obtain ⟨hR2, hF2⟩ := hR.put hF hd (x := .sv (.tup [])) (v := .tuple #[]) (.tup [] #[] rfl (by simp)) (by simp [gsl])
        exact ⟨_, w, L, _, hrun, hk, hR2, hF2⟩
      rcases hcx with ⟨hLn, rfl, h00⟩ | ⟨g, o, c, hL, hox, rfl, hnc⟩
      · refine hstay (by omega) ?_
        simp [Builtin.clear_, run_underlying hu]
      · rcases Nat.eq_zero_or_pos (q - p) with h0 | h0
        · refine hstay h0 ?_
          rw [h0]
          simp [Builtin.clear_, run_underlying hu]
        · obtain ⟨xs, ⟨hxl, ho⟩, hz, h1, hdd⟩ := hR.inv.ok j _ hi
          rw [hL] at ho
          rcases ho with ⟨hx', _⟩ | ⟨g2, cap, cur, hv, hg0, hh, _, hcm, hcur, htake⟩
          · cases hx'
          simp only [Value.slice.injEq, Option.some.injEq, Addr.mk.injEq, true_and, and_true] at hv
          obtain ⟨rfl, rfl⟩ := hv
          have ho1 := hox (by omega)
          subst ho1
          obtain ⟨zv, hzr, hzc, hz1⟩ := run_zero (P := P) (w := w) hz0
          have e1 : p * sz' + (q - p) * sz' ≤ n * sz' := by rw [← Nat.add_mul]; exact Nat.mul_le_mul_right _ (by omega)
          have e2 : n * sz' ≤ c * sz' := Nat.mul_le_mul_right _ hnc
          have hzs : zv.cells.size = sz' := by rw [← hzl, ← hzc]; simp
          have hvl : (Builtin.zeroCells zv.cells (q - p)).toList.length = (q - p) * sz' := by simp [Builtin.zeroCells, hzs]
          have hvg : ∀ i, i < (q - p) * sz' → (Builtin.zeroCells zv.cells (q - p)).toList[i]? = z[i % sz']? := by
            intro i hi
            rw [zeroCells_get _ _ _ (by rw [hzs]; exact hi), hzs, ← hzc]
            simp
          have h1v : ∀ v ∈ (Builtin.zeroCells zv.cells (q - p)).toList, v.oneCell' = true := by
            intro v hv
            obtain ⟨j', hj'⟩ := List.mem_iff_getElem?.1 hv
            have hlt := (List.getElem?_eq_some_iff.1 hj').1
            rw [hvl] at hlt
            rw [hvg j' hlt] at hj'
            exact hz1 v (List.mem_of_getElem? hj')
          have hstore := run_storeCells_at P g (p * sz') e' (Builtin.zeroCells zv.cells (q - p)).toList 0 cur w hh (by rw [hvl, hcur]; omega) h1v
          have hR1 := row_splice hR hi hL hh (k := p) (q := q - p) (get2 := fun _ => z.map SV.val) (vs := (Builtin.zeroCells zv.cells (q - p)).toList) (by omega) hvl h1v (fun j' hj' => by simp [hzl]) (fun i' j' s u hi' hj' hu => by
            have hjs : j' < sz' := by
              have := (List.getElem?_eq_some_iff.1 hj').1
              simpa [hzl] using this
            have e4 : i' * sz' + sz' ≤ (q - p) * sz' := by rw [← Nat.succ_mul]; exact Nat.mul_le_mul_right _ hi'
            rw [hvg _ (by omega), Nat.mul_add_mod_self_right, Nat.mod_eq_of_lt hjs] at hu
            simp only [List.getElem?_map, hu, Option.map_some, Option.some.injEq] at hj'
            subst hj'
            exact .val u)
          obtain ⟨hR2, hF2⟩ := hR1.put hF hd (x := .sv (.tup [])) (v := .tuple #[]) (.tup [] #[] rfl (by simp)) (by simp [gsl])
          refine ⟨_, _, L, _, ?_, hk, hR2, hF2⟩
          have hne : ∃ m, q - p = m + 1 := ⟨q - p - 1, by omega⟩
          obtain ⟨m, hm⟩ := hne
          simp only [Nat.add_zero] at hstore
          rw [hm] at hstore ⊢
          simp [Builtin.clear_, run_underlying hu, hzr]
          simp only [List.append_assoc] at hstore
          rw [hstore]
          simp
    · exact h.elim
  · exact h.elim
end
end Go.Sx

namespace Go.Sx
open Go Go.RowKit
set_option linter.unusedSimpArgs false

section
variable {P : Program} {N : Nat} {w0 : Base} {M0 : Nat → Prop} {L : Nat → Value} {st : St} {a : Act} {w : World} {F : Nat → Prop}

theorem look_expandSl (i n t : Nat) : ∀ sl : List (Nat × LV), look (expandSl i n sl) t = if t ∈ sl.map (·.1) then expand i n (look sl t) else .any
  | [] => rfl
  | (k, x) :: r => by
    simp only [expandSl, look, List.map_cons, List.mem_cons]
    by_cases h : k = t
    · simp [h]
    · have h' : ¬ t = k := fun e => h e.symm
      simp only [if_neg h, h', false_or]
      exact look_expandSl i n t r

theorem gsl_expand (i n : Nat) (x : LV) : gsl (expand i n x) = [] := by
  cases x <;> simp only [expand] <;> first | exact gsl_kill _ _ | (split <;> simp [gsl])

/-- The capacity of a row of the call's own. -/
theorem cap_sound (hR : R N w0 M0 L st a w) {t e ty : TypeId} (hu : P.underlying t = some (.slice e)) {d : Option Nat} {i : Nat} {vx : Value} {K : St → Prop} (h : capVC st (.own i) d K)
    (hx : LDen (gOf a) w (mset M0 st.tb L) L st.tb (.own i) vx) (hd : ∀ k, d = some k → k < N ∧ ¬ F k) :
    ∃ v L' st', (Builtin.cap_ #[t] ty #[vx]).run P w = .ok v w ∧ K st' ∧ R N w0 M0 L' st' (a.put d v) w ∧ ∀ t, ∀ s ∈ gsl (look st'.sl t), F s := by
  simp only [capVC] at h
  split at h
  · rename_i t0 sz n get hi
    have hil : i < st.tb.length := (List.getElem?_eq_some_iff.1 hi).1
    obtain ⟨_, rfl⟩ := hx
    obtain ⟨xs, ⟨hxl, ho⟩, hz, h1, hdd⟩ := hR.inv.ok i _ hi
    -- the row with all its capacity
    have key : ∀ (c : Nat) (v' : Value) (get' : Nat → List SV), n ≤ c → c ≤ maxLen → (∀ j, j < n → get' j = get j) → (∃ A, L i = .slice A n c) → blkNo v' = blkNo (L i) → (∃ A, v' = .slice A c c) → (L i = .slice none 0 0 → v' = .slice none 0 0) →
        (∀ g c', L i = .slice (some ⟨g, 0, none⟩) n c' → v' = .slice (some ⟨g, 0, none⟩) c' c') → BlkOK w (mset M0 st.tb L) 0 (.row t0 sz c true get') v' →
        ∃ v L' st', (Builtin.cap_ #[t] ty #[L i]).run P w = .ok v w ∧ K st' ∧ R N w0 M0 L' st' (a.put d v) w ∧ ∀ t, ∀ s ∈ gsl (look st'.sl t), F s := by
      intro c v' get' hnc hcm hag ⟨A, hLA⟩ hblk ⟨A', hA'⟩ hnil hsome hok
      have hms : ∀ b, b < w.heap.size → mset M0 (st.tb.set i (.row t0 sz c true get')) (upd L i v') b → mset M0 st.tb L b := mset_set hi rfl fun b hb => .inl (by rw [← hblk]; exact hb)
      have hset := hR.inv.set (k' := .row t0 sz c true get') (v := v') hi rfl (w' := w) ⟨rfl, rfl, rfl, Nat.le_refl _, fun _ _ _ => rfl⟩ (fun b hb => by
        rw [hblk] at hb
        exact ⟨.inl hb, (hR.inv.low i b hil hb).2⟩) (hok.ext (Ext.refl _ w) hms (fun _ _ => rfl))
      have hdt : ∀ s u, Den w (mset M0 st.tb L) s u → Den w (mset M0 (st.tb.set i (.row t0 sz c true get')) (upd L i v')) s u := fun s u hden => hden.ext (Ext.refl _ w) hms
      have hget : (st.tb.set i (.row t0 sz c true get'))[i]? = some (.row t0 sz c true get') := by rw [List.getElem?_set_self hil]
      have hk := (kill_rel (a := a) hR hset.1 hdt).1
      have hR' : R N w0 M0 (upd L i v') { sl := (exSlot i, .exact i) :: expandSl i n st.sl, tb := st.tb.set i (.row t0 sz c true get') } a w := by
        refine { inv := hset.1, size := hR.size, defers := hR.defers, slot := fun t => ?_ }
        simp only [look]
        split
        · exact ⟨by simpa using hil, A', c, by rw [upd_same]; exact hA'⟩
        · rw [look_expandSl]
          split
          · have hs := hR.slot t
            have hsk := hk.slot t
            rw [look_killSl] at hsk
            generalize look st.sl t = q at hs hsk
            cases q with
            | own j =>
              simp only [expand]
              split
              · rename_i hj
                subst hj
                obtain ⟨_, hv⟩ := hs
                refine ⟨c, t0, sz, true, get', hget, Nat.zero_le _, hnc, ?_⟩
                rw [hv, upd_same]
                rcases ho with ⟨hn0, h00⟩ | ⟨g, cap, cur, hl, _⟩
                · exact .inl ⟨hnil hn0, hn0⟩
                · have := hsome g cap hl
                  have hcc : cap = c := by
                    rw [hLA] at hl
                    injection hl with _ _ hcc
                    exact hcc.symm
                  subst hcc
                  exact .inr ⟨g, 0, cap, this, fun _ => by simp, by rw [hl]; simp⟩
              · rename_i hj
                simp only [kill, if_neg hj] at hsk
                exact hsk
            | any => trivial
            | sv s => exact hsk
            | ptr j o => exact hsk
            | rp j k o => exact hsk
            | part j lo hi => exact hsk
            | opt s b x => exact hsk
            | exact j => exact hsk
            | isv j v => exact hsk
          · trivial
      obtain ⟨hR2, hF2⟩ := hR'.put (F := F) (fun t s hs => by
        simp only [look] at hs
        split at hs
        · simp [gsl] at hs
        · rw [look_expandSl] at hs
          split at hs
          · rw [gsl_expand] at hs; simp at hs
          · simp [gsl] at hs) hd (x := .sv (.int .i64 c)) (v := .int .i64 c) (.int _ _) (by simp [gsl])
      refine ⟨_, _, _, ?_, h c get' hnc hcm hag, hR2, hF2⟩
      rw [hLA]
      simp [Builtin.cap_, run_underlying hu, goInt]
    rcases ho with ⟨hn0, h00⟩ | ⟨g, cap, cur, hl, hg0, hh, hnc, hcm, hcur, htake⟩
    · subst h00
      refine key 0 (.slice none 0 0) get (Nat.le_refl _) (by simp [maxLen]) (fun _ _ => rfl) ⟨none, hn0⟩ (by rw [hn0]) ⟨none, rfl⟩ (fun _ => rfl) (fun g c' hl => by rw [hn0] at hl; cases hl) ?_
      have := hR.inv.ok i _ hi
      rw [hn0] at this
      exact this
    · refine key cap (.slice (some ⟨g, 0, none⟩) cap cap) (fun j => if j < n then get j else (List.range sz).map fun k => .val (cur.getD (j * sz + k) undef)) hnc hcm (fun j hj => by simp [hj]) ⟨_, hl⟩ (by rw [hl]; rfl) ⟨_, rfl⟩
        (fun h => by rw [hl] at h; cases h) (fun g' c' hl' => by rw [hl] at hl'; injection hl' with e1 _ e3; injection e1 with e1; injection e1 with e1 _; subst e1 e3; rfl) ?_
      have hone := h1 g cur t0 (0, 0) (by rw [hl]; rfl) hh
      refine ⟨cur.toList, ⟨by simp [hcur], .inr ⟨g, cap, cur, rfl, hg0, hh, Nat.le_refl _, hcm, hcur, List.take_of_length_le (by simp [hcur])⟩⟩, fun j hj => ?_, AllOne.of_heap (g := g) rfl hh hone, fun i' j s u hi' hj hu => ?_⟩
      · show (if j < n then get j else (List.range sz).map fun k => SV.val (cur.getD (j * sz + k) undef)).length = sz
        split
        · rename_i hlt; exact hz j hlt
        · simp
      · have hj : (if i' < n then get i' else (List.range sz).map fun k => SV.val (cur.getD (i' * sz + k) undef))[j]? = some s := hj
        split at hj
        · rename_i hlt
          refine hdd i' j s u hlt hj ?_
          have hjs : j < sz := by rw [← hz i' hlt]; exact (List.getElem?_eq_some_iff.1 hj).1
          have : i' * sz + sz ≤ n * sz := by rw [← Nat.succ_mul]; exact Nat.mul_le_mul_right _ hlt
          rw [← htake, List.getElem?_take_of_lt (by omega)]
          exact hu
        · simp only [List.getElem?_map, Option.map_eq_some_iff] at hj
          obtain ⟨k, hk, rfl⟩ := hj
          have hkl := (List.getElem?_eq_some_iff.1 hk).1
          rw [List.getElem?_range (by simpa using hkl)] at hk
          injection hk with hk
          subst hk
          have hul : i' * sz + j < cur.size := by
            have := (List.getElem?_eq_some_iff.1 hu).1
            simpa using this
          have : cur.getD (i' * sz + j) undef = u := by
            have hu' : cur[i' * sz + j]? = some u := by simpa using hu
            simp [Array.getD, hul]
            rw [Array.getElem?_eq_getElem hul] at hu'
            injection hu'
          rw [this]
          exact .val u
  · exact h.elim

/-- What is read of a part of a row. -/
theorem src_of_part (hR : R N w0 M0 L st a w) {j lo hi n sz : Nat} {t : TypeId} {mu : Bool} {get : Nat → List SV} {u : Value} (hj : st.tb[j]? = some (.row t sz n mu get)) (hy : LDen (gOf a) w (mset M0 st.tb L) L st.tb (.part j lo hi) u) :
    Src w (mset M0 st.tb L) sz (hi - lo) (fun k => get (lo + k)) u := by
  obtain ⟨n', t', sz', mu', get', hj', h1, h2, h3⟩ := hy
  rw [hj] at hj'
  injection hj' with hj'
  injection hj' with e1 e2 e3 e4 e5
  subst e1 e2 e3 e4 e5
  obtain ⟨xs, hown, hz, hone, hdd⟩ := hR.inv.ok j _ hj
  have hx1 := hone.xs hown
  obtain ⟨hxl, ho⟩ := hown
  rcases h3 with ⟨hL, rfl⟩ | ⟨b, o, c, hL, hoo, rfl⟩
  · rcases ho with ⟨_, h00⟩ | ⟨g, cap, cur, hl, _⟩
    · have : hi - lo = 0 := by omega
      rw [this]
      exact ⟨none, 0, [], rfl, by simp, by simp, by simp, fun _ => rfl, fun i h => by omega, fun i j s v hi => by omega⟩
    · rw [hL] at hl; cases hl
  · rcases ho with ⟨hl, _⟩ | ⟨g, cap, cur, hl, hg0, hh, hnc, hcm, hcur, htake⟩
    · rw [hL] at hl; cases hl
    rw [hL] at hl
    injection hl with e1 _ e3
    injection e1 with e1
    injection e1 with e1 _
    subst e1 e3
    have hlen : lo * sz + (hi - lo) * sz ≤ n * sz := by rw [← Nat.add_mul]; exact Nat.mul_le_mul_right _ (by omega)
    refine ⟨some ⟨b, o, none⟩, c - lo, (xs.drop (lo * sz)).take ((hi - lo) * sz), rfl, by rw [List.length_take, List.length_drop, hxl]; omega, fun v hv => hx1 v (List.mem_of_mem_drop (List.mem_of_mem_take hv)), ?_, (fun h => by cases h), fun i hi' => hz _ (by omega), ?_⟩
    · intro ad had k v hk
      injection had with had
      subst had
      have hkl := (List.getElem?_eq_some_iff.1 hk).1
      rw [List.length_take, List.length_drop, hxl] at hkl
      have hk2 : k < (hi - lo) * sz := by omega
      have hpos : 0 < hi - lo := Nat.pos_of_ne_zero fun h0 => by rw [h0] at hk2; simp at hk2
      rw [hoo (by omega), add_none]
      rw [List.getElem?_take_of_lt hk2, List.getElem?_drop, ← htake, List.getElem?_take_of_lt (by omega)] at hk
      simp only [World.cell?, hh]
      simpa using hk
    · intro i k s v hi' hk hv
      have hks : k < sz := by rw [← hz (lo + i) (by omega)]; exact (List.getElem?_eq_some_iff.1 hk).1
      have e4 : i * sz + sz ≤ (hi - lo) * sz := by rw [← Nat.succ_mul]; exact Nat.mul_le_mul_right _ hi'
      refine hdd (lo + i) k s v (by omega) hk ?_
      rw [List.getElem?_take_of_lt (by omega), List.getElem?_drop] at hv
      rw [Nat.add_mul, ← hv]
      congr 1
      omega

theorem srcP_sound (hR : R N w0 M0 L st a w) {sz m : Nat} {get : Nat → List SV} {ob : Prop} {y : LV} {u : Value} (hsz : 0 < sz) (h : srcP st.tb sz y = some (m, get, ob)) (hob : ob)
    (hy : LDen (gOf a) w (mset M0 st.tb L) L st.tb y u) : Src w (mset M0 st.tb L) sz m get u := by
  cases y with
  | sv s =>
    simp only [srcP] at h
    split at h
    · rename_i n g hls
      simp only [Option.some.injEq, Prod.mk.injEq] at h
      obtain ⟨rfl, rfl, rfl⟩ := h
      exact src_of_den hsz (den_lstOf' hls hob hy)
    · cases h
  | own j =>
    simp only [srcP] at h
    split at h
    · rename_i t sz' n mu g hrow
      simp only [Option.some.injEq, Prod.mk.injEq] at h
      obtain ⟨rfl, rfl, rfl⟩ := h
      subst hob
      obtain ⟨_, rfl⟩ := hy
      exact src_of_row (hR.inv.ok j _ hrow)
    · cases h
  | part j lo hi =>
    simp only [srcP] at h
    split at h
    · rename_i t sz' n mu g hrow
      simp only [Option.some.injEq, Prod.mk.injEq] at h
      obtain ⟨rfl, rfl, rfl⟩ := h
      subst hob
      exact src_of_part hR hrow hy
    · cases h
  | any => simp [srcP] at h
  | ptr => simp [srcP] at h
  | rp => simp [srcP] at h
  | opt => simp [srcP] at h
  | exact => simp [srcP] at h
  | isv => simp [srcP] at h

/-- copy into a part of a row of the call's own. -/
theorem copy_sound (hR : R N w0 M0 L st a w) {t t2 e ty : TypeId} {sz : Nat} (hu : P.underlying t = some (.slice e)) (hse : sizeOf? P e = some sz) (hpos : 0 < sz) {d : Option Nat} {x y : Operand} {st' : St} {obs : List Prop}
    (h : effF st (.copy sz x y) d = some (st', obs)) (ho : AllP obs) (hF : ∀ t, ∀ s ∈ gsl (look st.sl t), F s) (hd : ∀ k, d = some k → k < N ∧ ¬ F k) :
    ∃ v w' L', (Builtin.copy_ #[t, t2] ty #[a.eval x, a.eval y]).run P w = .ok v w' ∧ R N w0 M0 L' st' (a.put d v) w' ∧ ∀ t, ∀ s ∈ gsl (look st'.sl t), F s := by
  have hx := hR.ev x
  have hy := hR.ev y
  simp only [effF] at h
  split at h
  · rename_i i p q hev
    rw [hev] at hx
    split at h
    · rename_i e' sz' n get hi
      split at h
      · rename_i m get2 ob hsrc
        simp only [Option.some.injEq, Prod.mk.injEq] at h
        obtain ⟨rfl, rfl⟩ := h
        obtain ⟨⟨rfl, hob⟩, _⟩ := ho
        have hs := srcP_sound hR hpos hsrc hob hy
        have hil : i < st.tb.length := (List.getElem?_eq_some_iff.1 hi).1
        obtain ⟨A, c, news, hyv, hnl, hn1, hcell, hnil, hz2, hdd2⟩ := hs
        have hszr : (sizeOf e).run P w = .ok sz' w := run_sizeOf hse
        obtain ⟨_, _, _, hi1, hpq, hqn, hcx⟩ := rowPart_sound hR.inv (x := .part i p q) (j := i) (a := p) (b := q) (sz := sz') (n := n) (by simp [rowPart, hi]) hx
        generalize hk : min m (q - p) = k
        have hkm : Nat.min m (q - p) = k := hk
        have hload : (Builtin.firstCells sz' k (a.eval y)).run P w = .ok ((news.take (k * sz')).toArray) w := by
          rw [hyv]
          cases A with
          | none =>
            have hm := hnil rfl
            subst hm
            have : news = [] := List.eq_nil_of_length_eq_zero (by simpa using hnl)
            subst this
            simp [Builtin.firstCells]
          | some ad =>
            have hkle : k * sz' ≤ m * sz' := Nat.mul_le_mul_right _ (by omega)
            exact run_firstCells_some w sz' k ad m c (news.take (k * sz')) (by rw [List.length_take, hnl]; omega) (fun j v hj => hcell ad rfl j v (by
              have hlt := (List.getElem?_eq_some_iff.1 hj).1
              rw [List.length_take] at hlt
              rwa [List.getElem?_take_of_lt (by omega)] at hj))
        have hlenof : (Builtin.lenOf (a.eval y)).run P w = .ok m w := by rw [hyv]; simp [Builtin.lenOf]
        have hstay : k = 0 → (Builtin.copy_ #[t, t2] ty #[a.eval x, a.eval y]).run P w = .ok (.int .i64 ((k : Nat) : Int)) w → ∃ v w' L', (Builtin.copy_ #[t, t2] ty #[a.eval x, a.eval y]).run P w = .ok v w' ∧
            R N w0 M0 L' (St.put { st with tb := st.tb.set i (.row e' sz' n true (spliceGet p k get2 get)) } d (.sv (.int .i64 ((k : Nat) : Int)))) (a.put d v) w' ∧ ∀ t, ∀ s ∈ gsl (look (St.put { st with tb := st.tb.set i (.row e' sz' n true (spliceGet p k get2 get)) } d (.sv (.int .i64 ((k : Nat) : Int)))).sl t), F s := by
          intro h0 hrun
          have hsame : ({ st with tb := st.tb.set i (.row e' sz' n true (spliceGet p k get2 get)) } : St) = st := by
            have hg : spliceGet p k get2 get = get := funext fun j' => by unfold spliceGet; rw [if_neg (by omega)]
            rw [hg]
            have : st.tb.set i (.row e' sz' n true get) = st.tb := by
              apply List.ext_getElem?
              intro j'
              by_cases e : i = j'
              · subst e; rw [List.getElem?_set_self hil, hi]
              · rw [List.getElem?_set_ne e]
            rw [this]
          rw [hsame]
          obtain ⟨hR2, hF2⟩ := hR.put hF hd (x := .sv (.int .i64 ((k : Nat) : Int))) (v := .int .i64 ((k : Nat) : Int)) (.int _ _) (by simp [gsl])
          exact ⟨_, w, L, hrun, hR2, hF2⟩
        rcases hcx with ⟨hLn, hxv, h00⟩ | ⟨g, o, c', hL, hox, hxv, hnc⟩
        · refine hstay (by omega) ?_
          have hk0 : k = 0 := by omega
          rw [hk0] at hload
          rw [hxv, hk0]
          simp [Builtin.copy_, run_underlying hu, hlenof, hszr, hload, goInt]
        · rcases Nat.eq_zero_or_pos k with h0 | h0
          · refine hstay h0 ?_
            rw [h0] at hload
            simp only [Nat.zero_mul, List.take_zero] at hload
            have hkm' : Nat.min m (q - p) = 0 := by omega
            rw [hxv]
            simp [Builtin.copy_, run_underlying hu, hlenof, hszr, hkm', hload, goInt, storeCells, h0]
          · obtain ⟨xs, hown, hz, h1a, hdd⟩ := hR.inv.ok i _ hi
            obtain ⟨hxl, ho⟩ := hown
            rw [hL] at ho
            rcases ho with ⟨hx', _⟩ | ⟨g2, cap, cur, hv, hg0, hh, _, hcm, hcur, htake⟩
            · cases hx'
            simp only [Value.slice.injEq, Option.some.injEq, Addr.mk.injEq, true_and, and_true] at hv
            obtain ⟨rfl, rfl⟩ := hv
            have hkle : k * sz' ≤ m * sz' := Nat.mul_le_mul_right _ (by omega)
            have hvl : (news.take (k * sz')).length = k * sz' := by rw [List.length_take, hnl]; omega
            have e1 : p * sz' + k * sz' ≤ n * sz' := by rw [← Nat.add_mul]; exact Nat.mul_le_mul_right _ (by omega)
            have e2 : n * sz' ≤ c' * sz' := Nat.mul_le_mul_right _ hnc
            have ho1 := hox (by omega)
            subst ho1
            have h1v : ∀ v ∈ news.take (k * sz'), v.oneCell' = true := fun v hv => hn1 v (List.mem_of_mem_take hv)
            have hstore := run_storeCells_at P g (p * sz') e' (news.take (k * sz')) 0 cur w hh (by rw [hvl, hcur]; omega) h1v
            have hR1 := row_splice hR hi hL hh (k := p) (q := k) (get2 := get2) (vs := news.take (k * sz')) (by omega) hvl h1v (fun j' hj' => hz2 _ (by omega)) (fun i' j' s u hi' hj' hu' => by
              have hjs : j' < sz' := by rw [← hz2 i' (by omega)]; exact (List.getElem?_eq_some_iff.1 hj').1
              have e4 : i' * sz' + sz' ≤ k * sz' := by rw [← Nat.succ_mul]; exact Nat.mul_le_mul_right _ hi'
              rw [List.getElem?_take_of_lt (by omega)] at hu'
              exact hdd2 i' j' s u (by omega) hj' hu')
            obtain ⟨hR2, hF2⟩ := hR1.put hF hd (x := .sv (.int .i64 ((k : Nat) : Int))) (v := .int .i64 ((k : Nat) : Int)) (.int _ _) (by simp [gsl])
            refine ⟨_, _, L, ?_, hR2, hF2⟩
            rw [hxv]
            simp only [Nat.add_zero] at hstore
            simp [Builtin.copy_, run_underlying hu, hlenof, hszr, hkm, hload, goInt]
            simp only [List.append_assoc] at hstore
            rw [hstore]
            simp
      · cases h
    · cases h
  · cases h

/-- A new row: some cells of an older one, and zero values. -/
theorem push_zeros (hR : R N w0 M0 L st a w) {e : TypeId} {sz k m cap : Nat} {get : Nat → List SV} {z : Array Value} {zl : List Value} (hzl : z.toList = zl) (hzs : z.size = sz) (hz1 : ∀ u ∈ zl, u.oneCell' = true) {olds : List Value} (hol : olds.length = k * sz)
    (ho1 : ∀ u ∈ olds, u.oneCell' = true) (hz : ∀ i, i < k → (get i).length = sz) (hdd : ∀ (i j : Nat) s u, i < k → (get i)[j]? = some s → olds[i * sz + j]? = some u → Den w (mset M0 st.tb L) s u) (hcap : k + m ≤ cap) (hcm : cap ≤ maxLen) :
    R N w0 M0 (upd L st.tb.length (.slice (some ⟨w.heap.size, 0, none⟩) (k + m) cap)) { st with tb := st.tb ++ [.row e sz (k + m) true (joinGet k get fun _ => zl.map SV.val)] } a
      (w.drew.alloc (.cells (olds.toArray ++ Builtin.zeroCells z m ++ Builtin.zeroCells z (cap - (k + m))) e)) := by
  subst hzl
  have hbel : Below w.heap.size w (w.drew.alloc (.cells (olds.toArray ++ Builtin.zeroCells z m ++ Builtin.zeroCells z (cap - (k + m))) e)) := ⟨rfl, rfl, rfl, by simp, fun k hk => heap_alloc_old w.drew _ k hk⟩
  refine hR.push hbel (fun b hb => by simp [blkNo] at hb; subst hb; simp) ?_
  have hone : ∀ u ∈ (olds.toArray ++ Builtin.zeroCells z m ++ Builtin.zeroCells z (cap - (k + m))).toList, u.oneCell' = true := by
    intro u hu
    simp only [Array.toList_append, List.mem_append] at hu
    rcases hu with (hu | hu) | hu
    · exact ho1 u hu
    · exact zeroCells_one hz1 _ u hu
    · exact zeroCells_one hz1 _ u hu
  have hlz : (Builtin.zeroCells z m).toList.length = m * sz := by simp [Builtin.zeroCells, hzs]
  have hlen : (olds ++ (Builtin.zeroCells z m).toList).length = (k + m) * sz := by rw [List.length_append, hol, hlz, Nat.add_mul]
  refine ⟨olds ++ (Builtin.zeroCells z m).toList, ⟨hlen, .inr ⟨w.heap.size, cap, _, rfl, Nat.zero_le _, heap_alloc_new w.drew _, hcap, hcm, ?_, ?_⟩⟩, fun i hi => ?_, AllOne.of_heap (g := w.heap.size) rfl (heap_alloc_new w.drew _) hone, fun i j s u hi hj hu => ?_⟩
  · simp only [Array.size_append, List.size_toArray, size_zeroCells, hzs, hol, ← Nat.add_mul]
    congr 1
    omega
  · simp only [Array.toList_append, List.append_assoc]
    rw [← List.append_assoc, ← hlen]
    exact List.take_left
  · unfold joinGet
    split
    · rename_i h; exact hz i h
    · simp [hzs]
  · have hden : Den w (mset M0 st.tb L) s u := by
      unfold joinGet at hj
      split at hj
      · rename_i h
        have hjs : j < sz := by rw [← hz i h]; exact (List.getElem?_eq_some_iff.1 hj).1
        have : i * sz + sz ≤ k * sz := by rw [← Nat.succ_mul]; exact Nat.mul_le_mul_right _ h
        rw [List.getElem?_append_left (by omega)] at hu
        exact hdd i j s u h hj hu
      · rename_i h
        have hjs : j < sz := by
          have := (List.getElem?_eq_some_iff.1 hj).1
          simpa [hzs] using this
        have e1 : k * sz ≤ i * sz := Nat.mul_le_mul_right _ (by omega)
        have e2 : i * sz + sz ≤ (k + m) * sz := by rw [← Nat.succ_mul]; exact Nat.mul_le_mul_right _ hi
        rw [Nat.add_mul] at e2
        rw [List.getElem?_append_right (by omega), zeroCells_get _ _ _ (by rw [hol, hzs]; omega)] at hu
        have e3 : i * sz + j - olds.length = (i - k) * sz + j := by rw [hol, Nat.sub_mul]; omega
        rw [e3, hzs, Nat.mul_add_mod_self_right, Nat.mod_eq_of_lt hjs] at hu
        have hu' : z.toList[j]? = some u := by simpa using hu
        simp only [List.getElem?_map, hu', Option.map_some, Option.some.injEq] at hj
        subst hj
        exact .val u
    exact hden.mono hbel.size (mset_push fun b hb => by simp [blkNo] at hb; omega) (fun ad u' ha _ hc => by rw [hbel.cell ha]; exact hc)

theorem appZ_sound (hR : R N w0 M0 L st a w) {t tn e ty : TypeId} {sz bytes : Nat} {zl : List Value} {kn : IntKind} (ht : AppTy P t e sz bytes) (hn : P.underlying tn = some (.int kn)) (hz0 : zeroOf P e = some zl) {d : Option Nat} {x y : Operand} {st' : St} {obs : List Prop}
    (h : effF st (.appZ e sz bytes zl x y) d = some (st', obs)) (ho : AllP obs) (hF : ∀ t, ∀ s ∈ gsl (look st.sl t), F s) (hd : ∀ k, d = some k → k < N ∧ ¬ F k) :
    ∃ v w' L', (Builtin.append_ #[t, tn] ty #[a.eval x, a.eval y]).run P w = .ok v w' ∧ R N w0 M0 L' st' (a.put d v) w' ∧ ∀ t, ∀ s ∈ gsl (look st'.sl t), F s := by
  have hx := hR.ev x
  have hy := hR.ev y
  obtain ⟨inf, z, hinf, hzz, hsz, hbb, hzs⟩ := ht.inf
  have hone := ht.one inf z hinf hzz
  have hzl : z.cells.toList = zl := by
    obtain ⟨zv, hzr, hzc, _⟩ := run_zero (P := P) (w := w) hz0
    have : (zeroValue e).run P w = .ok z w := by simp [zeroValue, typeInfo, hinf, hzz]
    rw [this] at hzr
    injection hzr with e1 _
    rw [e1]; exact hzc
  have hint : ∀ m, natOf (ev st.sl y) = some m → ∃ k, a.eval y = .int k m := by
    intro m hm
    unfold natOf at hm
    split at hm
    · rename_i k m' hx'
      rw [hx'] at hy
      injection hm with hm
      subst hm
      generalize hqv : a.eval y = u at hy
      cases hy
      exact ⟨k, rfl⟩
    · cases hm
  simp only [effF] at h
  split at h
  · rename_i m hev hm
    simp only [Option.some.injEq, Prod.mk.injEq] at h
    obtain ⟨rfl, rfl⟩ := h
    obtain ⟨⟨h0, hroom⟩, _⟩ := ho
    obtain ⟨k, hyv⟩ := hint m hm
    obtain ⟨mn, rfl⟩ := Int.eq_ofNat_of_zero_le (Int.le_of_lt h0)
    simp only [Int.toNat_natCast] at hroom ⊢
    rw [hev] at hx
    have hxv : a.eval x = .slice none 0 0 := by
      generalize a.eval x = u at hx
      cases hx; rfl
    have hmx : mn ≤ maxLen := hroom.2
    have hrun := Lib.run_append_nil_zeros (P := P) w t tn ty e inf z k kn ht.und hn hinf hzz mn (by omega) (by rw [hsz]; exact ht.pos) (by simp only [maxLen] at hmx; omega) (by rw [hbb]; have := hroom.1; omega)
    have hR1 := push_zeros hR (e := e) (sz := sz) (k := 0) (m := mn) (cap := grownCap w mn 0 e) (get := fun _ => []) hzl hzs (by rw [← hzl]; exact hone) (olds := []) (by simp) (by simp) (by simp) (fun i j s u hi => by omega)
      (by rw [Nat.zero_add]; exact grownCap_ge w mn 0 e) (grownCap_le_maxLen w mn 0 e hmx)
    have hj : joinGet 0 (fun _ => ([] : List SV)) (fun _ => zl.map SV.val) = fun _ => zl.map SV.val := funext fun i => by simp [joinGet]
    simp only [Nat.zero_add, hj, Array.empty_append] at hR1
    obtain ⟨hR2, hF2⟩ := hR1.put hF hd (x := .own st.tb.length) (v := .slice (some ⟨w.heap.size, 0, none⟩) mn (grownCap w mn 0 e)) ⟨by simp, (upd_same _ _ _).symm⟩ (by simp [gsl])
    exact ⟨_, _, _, by rw [hxv, hyv]; exact hrun, hR2, hF2⟩
  · rename_i i k m hev hm
    split at h
    · rename_i e' sz' n get hi
      split at h
      · rename_i hex
        simp only [Option.some.injEq, Prod.mk.injEq] at h
        obtain ⟨rfl, rfl⟩ := h
        obtain ⟨⟨rfl, rfl, h0, hlt, hroom⟩, _⟩ := ho
        obtain ⟨kq, hyv⟩ := hint m hm
        obtain ⟨mn, rfl⟩ := Int.eq_ofNat_of_zero_le (Int.le_of_lt h0)
        simp only [Int.toNat_natCast] at hroom hlt ⊢
        rw [hev] at hx
        have hil : i < st.tb.length := (List.getElem?_eq_some_iff.1 hi).1
        -- the row has all its capacity
        have hexact : ∃ A q, L i = .slice A q q := by
          have hs := hR.slot (exSlot i)
          unfold isExact at hex
          split at hex
          · rename_i j _ hlk
            rw [hlk] at hs
            simp only [decide_eq_true_eq] at hex
            subst hex
            exact hs.2
          · cases hex
        obtain ⟨A, q, hLq⟩ := hexact
        obtain ⟨n', t', szz, mu', get', hj', h1, h2, h3⟩ := hx
        rw [hi] at hj'
        injection hj' with hj'
        injection hj' with e1 e2 e3 e4 e5
        subst e1 e2 e3 e4 e5
        obtain ⟨xs, hown, hz, hone', hdd⟩ := hR.inv.ok i _ hi
        have hx1 := hone'.xs hown
        obtain ⟨hxl, ho⟩ := hown
        have hmx : k + mn ≤ maxLen := hroom.2
        have hkn : k * sz' ≤ n * sz' := Nat.mul_le_mul_right _ h2
        have hfin : ∀ (base : Option Addr) (cp : Nat), a.eval x = .slice base k cp → (Builtin.firstCells inf.size k (.slice base k cp)).run P w.drew = .ok (xs.take (k * sz')).toArray w.drew → cp < k + mn →
            ∃ v w' L', (Builtin.append_ #[t, tn] ty #[a.eval x, a.eval y]).run P w = .ok v w' ∧ R N w0 M0 L' (St.put { st with tb := st.tb ++ [.row e' sz' (k + mn) true (joinGet k get fun _ => zl.map SV.val)] } d (.own st.tb.length)) (a.put d v) w' ∧
              ∀ t, ∀ s ∈ gsl (look (St.put { st with tb := st.tb ++ [.row e' sz' (k + mn) true (joinGet k get fun _ => zl.map SV.val)] } d (.own st.tb.length)).sl t), F s := by
          intro base cp hxv hold hcp
          have hrun := Lib.run_append_grow_zeros (P := P) w t tn ty e' inf z kq kn ht.und hn hinf hzz base k cp (xs.take (k * sz')) hold mn (by omega) (by rw [hsz]; exact ht.pos) hcp (by simp only [maxLen] at hmx; omega)
            (by rw [hbb]; have := hroom.1; rw [Nat.add_mul] at this; omega) (by rw [hbb]; exact growslice_fits hcp hroom.1)
          have hR1 := push_zeros hR (e := e') (sz := sz') (k := k) (m := mn) (cap := grownCap w (k + mn) cp e') (get := get) hzl hzs (by rw [← hzl]; exact hone) (olds := xs.take (k * sz')) (by rw [List.length_take, hxl]; omega)
            (fun u hu => hx1 u (List.mem_of_mem_take hu)) (fun i hi => hz i (by omega)) (fun i j s u hi' hj hu => by
              have hjs : j < sz' := by rw [← hz i (by omega)]; exact (List.getElem?_eq_some_iff.1 hj).1
              have : i * sz' + sz' ≤ k * sz' := by rw [← Nat.succ_mul]; exact Nat.mul_le_mul_right _ hi'
              rw [List.getElem?_take_of_lt (by omega)] at hu
              exact hdd i j s u (by omega) hj hu) (grownCap_ge w (k + mn) cp e') (grownCap_le_maxLen w (k + mn) cp e' hmx)
          obtain ⟨hR2, hF2⟩ := hR1.put hF hd (x := .own st.tb.length) (v := .slice (some ⟨w.heap.size, 0, none⟩) (k + mn) (grownCap w (k + mn) cp e')) ⟨by simp, (upd_same _ _ _).symm⟩ (by simp [gsl])
          exact ⟨_, _, _, by rw [hyv, hxv]; exact hrun, hR2, hF2⟩
        rcases h3 with ⟨hL, hxv⟩ | ⟨b, o, c, hL, hoo, hxv⟩
        · rcases ho with ⟨_, h00⟩ | ⟨g, cap, cur, hl, _⟩
          · have hk0 : k = 0 := by omega
            subst hk0
            refine hfin none 0 hxv ?_ (by omega)
            simp [Builtin.firstCells]
          · rw [hL] at hl; cases hl
        · rcases ho with ⟨hl, _⟩ | ⟨g, cap, cur, hl, hg0, hh, hnc, hcm, hcur, htake⟩
          · rw [hL] at hl; cases hl
          rw [hL] at hl hLq
          injection hl with q1 _ q3
          injection q1 with q1
          injection q1 with q1 _
          subst q1 q3
          injection hLq with _ q4 q5
          have hnc' : n = c := q4.trans q5.symm
          have ho0 := hoo (.inl rfl)
          simp only [Nat.zero_mul] at ho0
          subst ho0
          simp only [Nat.sub_zero] at hxv
          refine hfin (some ⟨b, 0, none⟩) c hxv ?_ (by omega)
          refine run_firstCells_some w.drew inf.size k ⟨b, 0, none⟩ k c (xs.take (k * sz')) (by rw [List.length_take, hxl, hsz]; omega) fun j v hj => ?_
          have hlt := (List.getElem?_eq_some_iff.1 hj).1
          rw [List.length_take] at hlt
          rw [List.getElem?_take_of_lt (by omega), ← htake, List.getElem?_take_of_lt (by omega)] at hj
          rw [add_none, Nat.zero_add]
          have : w.drew.cell? ⟨b, j, none⟩ = w.cell? ⟨b, j, none⟩ := rfl
          rw [this]
          simp only [World.cell?, hh]
          simpa using hj
      · cases h
    · cases h
  · cases h
end
end Go.Sx

