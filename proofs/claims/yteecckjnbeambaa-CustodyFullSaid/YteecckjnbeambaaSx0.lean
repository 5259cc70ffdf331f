/- A symbolic executor for the code of Go functions: what its values stand for. -/
import Derived.Below
import Derived.Laws.OwnMore
import Derived.Orders
import Derived.Laws.Cells
import Derived.IntWalk
import Derived.Laws.Small
import Derived.Laws.BitsAllLaws
import Derived.Laws.BitsLemmas
import Derived.Laws.Externs
import Derived.Laws.Tables
import Derived.Lib.AppendZerosOnto
import Derived.Lib.AppendZeros
/- The symbolic executor: slimmed code, symbolic values, the verification condition `exec`. Definitions alone. -/
namespace Go.Sx
open Go Go.RowKit

/-- A symbolic value. `lst`: an immutable view of a slice; `ref`: a pointer to immutable cells. -/
inductive SV where
  | int (k : IntKind) (n : Int)
  | bool (b : Bool)
  | val (v : Value)
  | agg (cs : List SV)
  | tup (vs : List SV)
  | ref (cs : List SV) (off : Nat)
  | lst (sz n : Nat) (get : Nat → List SV)
  | fn (f : FuncId) (caps : List SV)

/-- What a slot holds: a value; a pointer into a local block; a pointer into a local row; a local row itself; a value under a guard. -/
inductive LV where
  | any
  | sv (s : SV)
  | ptr (i off : Nat)
  | rp (i k off : Nat)
  | own (i : Nat)
  | part (i lo hi : Nat)
  | opt (s : Nat) (b : Bool) (x : LV)
  | exact (i : Nat)
  | isv (i : Nat) (v : Value)

def blkNo : Value → Option Nat
  | .pointer (some a) => some a.block
  | .slice (some a) _ _ => some a.block
  | .map (some b) => some b
  | _ => none

/-- A world in which nothing has turned but blocks that are in M. -/
structure Ext (M : Nat → Prop) (w w' : World) : Prop where
  os : w'.os = w.os
  tape : w'.tape = w.tape
  output : w'.output = w.output
  size : w.heap.size ≤ w'.heap.size
  block : ∀ k, k < w.heap.size → ¬ M k → w'.heap[k]? = w.heap[k]?

/-! What a symbolic value stands for. -/

inductive Den (w : World) (M : Nat → Prop) : SV → Value → Prop where
  | int (k : IntKind) (n : Int) : Den w M (.int k n) (.int k n)
  | bool (b : Bool) : Den w M (.bool b) (.bool b)
  | val (v : Value) : Den w M (.val v) v
  | agg (cs : List SV) (vs : Array Value) (hl : cs.length = vs.size) (h1 : ∀ (i : Nat) v, vs[i]? = some v → v.oneCell' = true)
      (h : ∀ (i : Nat) s v, cs[i]? = some s → vs[i]? = some v → Den w M s v) : Den w M (.agg cs) (.agg vs)
  | tup (cs : List SV) (vs : Array Value) (hl : cs.length = vs.size)
      (h : ∀ (i : Nat) s v, cs[i]? = some s → vs[i]? = some v → Den w M s v) : Den w M (.tup cs) (.tuple vs)
  | ref (cs : List SV) (off b o : Nat) (val : Nat → Value) (hM : ¬ M b) (hb : b < w.heap.size)
      (h1 : ∀ (i : Nat) s, cs[i]? = some s → (val i).oneCell' = true)
      (hc : ∀ (i : Nat) s, cs[i]? = some s → w.cell? ⟨b, o + i, none⟩ = some (val i))
      (h : ∀ (i : Nat) s, cs[i]? = some s → Den w M s (val i)) : Den w M (.ref cs off) (.pointer (some ⟨b, o + off, none⟩))
  | lst (sz n : Nat) (get : Nat → List SV) (A : Option Addr) (c b o : Nat) (val : Nat → Nat → Value) (hc : n ≤ c) (hm : c ≤ maxLen)
      (hA : 0 < n → A = some ⟨b, o, none⟩) (hM : 0 < n → ¬ M b) (hb : 0 < n → b < w.heap.size) (hz : ∀ i, i < n → (get i).length = sz)
      (h1 : ∀ (i j : Nat) s, i < n → (get i)[j]? = some s → (val i j).oneCell' = true)
      (hcell : ∀ (i j : Nat) s, i < n → (get i)[j]? = some s → w.cell? ⟨b, o + (i * sz + j), none⟩ = some (val i j))
      (h : ∀ (i j : Nat) s, i < n → (get i)[j]? = some s → Den w M s (val i j)) : Den w M (.lst sz n get) (.slice A n c)
  | fn (f : FuncId) (cs : List SV) (vs : Array Value) (hl : cs.length = vs.size)
      (h : ∀ (i : Nat) s v, cs[i]? = some s → vs[i]? = some v → Den w M s v) : Den w M (.fn f cs) (.func (.func f) #[] vs)

/-- A map one of whose entries is about to be written: the stamp of the entry of a key, the one that is there or the one that will be. -/
def EntOK (w : World) (M : Nat → Prop) (zero : Value) (keys : List Int) (get : Int → SV) (key stamp : Int) (ph : Bool) (v : Value) : Prop :=
  ∃ (b : Nat) (es : Array MapEntry) (clock : Nat), v = .map (some b) ∧ w.heap[b]? = some (.map es clock) ∧ es.toList.map (·.key) = keys.map (Value.int .i64) ∧ keys.Nodup ∧
      (∀ e ∈ es.toList, e.born < clock) ∧ (es.toList.map (·.born)).Nodup ∧ (∀ (i : Nat) k e, keys[i]? = some k → es.toList[i]? = some e → Den w M (get k) e.val) ∧ (∀ k, k ∉ keys → Den w M (get k) zero) ∧
      (∀ (i : Nat) e, keys[i]? = some key → es.toList[i]? = some e → (e.born : Int) = stamp) ∧ (key ∉ keys → (clock : Int) = stamp) ∧ (ph = true → key ∈ keys)

/-- What the executor can read off a block of a further kind. -/
inductive BInfo where
  | none
  | ent (zero : Value) (keys : List Int) (get : Int → SV) (key stamp : Int) (ph : Bool)

/-- A block of a further kind: what it says of a world, and that it goes on saying so. -/
structure SemBlk where
  mu : Bool
  info : BInfo := .none
  ok : World → (Nat → Prop) → Value → Prop
  spec : ∀ z ks g k s p, info = .ent z ks g k s p → mu = true ∧ ∀ (w : World) (M : Nat → Prop) (v : Value), ok w M v → EntOK w M z ks g k s p v := by intro _ _ _ _ _ _ h; cases h
  ext : ∀ (w w' : World) (M M' : Nat → Prop) (v : Value), ok w M v → Ext M w w' → (∀ b, b < w.heap.size → M' b → M b) → (∀ b, blkNo v = some b → w'.heap[b]? = w.heap[b]?) → ok w' M' v

/-- A local block: cells known one by one; a row (a slice of the call's own). `mu`: it may be written. -/
inductive Blk where
  | cells (t : TypeId) (mu : Bool) (cs : List SV)
  | row (t : TypeId) (sz n : Nat) (mu : Bool) (get : Nat → List SV)
  | map (zero : Value) (keys : List Int) (get : Int → SV)
  | dead
  | sem (S : SemBlk)

def Blk.mut : Blk → Bool
  | .cells _ m _ => m
  | .row _ _ _ m _ => m
  | .map _ _ _ => true
  | .dead => false
  | .sem S => S.mu

structure St where
  sl : List (Nat × LV)
  tb : List Blk

def look : List (Nat × LV) → Nat → LV
  | [], _ => .any
  | (k, v) :: r, t => if k = t then v else look r t

/-- Slimmed operations: the types' facts are written into them. -/
inductive SOp where
  | mov (x : Operand)
  | pick (c : Nat) (a b : Operand)
  | load1 (x : Operand)
  | loadN (n : Nat) (x : Operand)
  | fld (off : Nat) (x : Operand)
  | idx (sz : Nat) (x i : Operand)
  | idxA (len sz : Nat) (x i : Operand)
  | bin (op : BinOp) (x y : Operand)
  | binB (op : BinOp) (x y : Operand)
  | binA (ne : Bool) (t : TypeId) (x y : Operand)
  | un (op : UnOp) (x : Operand)
  | conv (k : IntKind) (x : Operand)
  | ext (x : Operand) (i : Nat)
  | fval (off : Nat) (n : Option Nat) (x : Operand)
  | len (x : Operand)
  | mm (mx : Bool) (x y : Operand)
  | mkfn (f : FuncId) (caps : List Operand)
  | build (zero : List Value) (parts : List (Nat × Nat × Operand))
  | slice (sz : Nat) (x : Operand) (lo hi : Option Operand)
  | slice3 (sz : Nat) (x : Operand) (lo hi : Option Operand) (mx : Operand)
  | clear (e : TypeId) (sz : Nat) (zero : List Value) (x : Operand)
  | box (t : TypeId) (x : Operand)
  | alloc (t : TypeId) (zero : List Value)
  | store (n : Nat) (x v : Operand)
  | buildS (e : TypeId) (sz len : Nat) (zero : List Value) (parts : List (Nat × Operand))
  | app (e : TypeId) (sz bytes : Nat) (zero : List Value) (x y : Operand)
  | makeS (e : TypeId) (sz bytes : Nat) (zero : List Value) (n c : Operand)
  | isnil (ne : Bool) (x : Operand)
  | makeM (zero : Value)
  | lookup (zero : Value) (ok : Bool) (x k : Operand)
  | mapUp (x k v : Operand)
  | cap (x : Operand)
  | copy (sz : Nat) (x y : Operand)
  | appZ (e : TypeId) (sz bytes : Nat) (zero : List Value) (x n : Operand)
  | ovl (f : FuncId) (t : TypeId) (x y : Operand)
  | bad (op : Op) (xs : List Operand)
  | call (f : FuncId) (args : List Operand)
  | callv (x : Operand) (args : List Operand)

structure SO where
  dst : Option Nat
  op : SOp
  g : Option (Nat × Bool)

inductive SC where
  | skip
  | ret
  | exit (id : Nat)
  | ops (draw : Bool) (l : List SO)
  | opsA (h : List Nat) (l : List SO) (aft : List (List Nat))
  | opsD (p : Nat) (l : List SO)
  | seq (a b : SC)
  | cond (c : Operand) (a b : SC)
  | block (id : Nat) (b : SC)
  | loop (b : SC)
  | raw (c : Code)

/-- The blocks that may be written: those of the callers, and the call's own that are not frozen. -/
def mset (M0 : Nat → Prop) (tb : List Blk) (L : Nat → Value) (b : Nat) : Prop :=
  M0 b ∨ ∃ (i : Nat) (k : Blk), tb[i]? = some k ∧ k.mut = true ∧ blkNo (L i) = some b

/-- All cells of a block are single ones. -/
def AllOne (w : World) (v : Value) : Prop := ∀ (g : Nat) (cur : Array Value) (t : TypeId) (fr : Nat × Nat), blkNo v = some g → w.heap[g]? = some (.cells cur t fr) → ∀ u ∈ cur.toList, u.oneCell' = true

def BlkOK (w : World) (M : Nat → Prop) (base : Nat) : Blk → Value → Prop
  | .cells t _ cs, v => ∃ (b : Nat) (vs : Array Value), v = .pointer (some ⟨b, 0, none⟩) ∧ base ≤ b ∧ w.heap[b]? = some (.cells vs t (0, 0)) ∧ cs.length = vs.size ∧
      (∀ (i : Nat) u, vs[i]? = some u → u.oneCell' = true) ∧ ∀ (i : Nat) s u, cs[i]? = some s → vs[i]? = some u → Den w M s u
  | .row t sz n _ get, v => ∃ xs : List Value, w.ownsRow base t sz v n xs ∧ (∀ i, i < n → (get i).length = sz) ∧ AllOne w v ∧
      ∀ (i j : Nat) s u, i < n → (get i)[j]? = some s → xs[i * sz + j]? = some u → Den w M s u
  | .map zero keys get, v => ∃ (b : Nat) (es : Array MapEntry) (clock : Nat), v = .map (some b) ∧ w.heap[b]? = some (.map es clock) ∧ es.toList.map (·.key) = keys.map (Value.int .i64) ∧ keys.Nodup ∧
      (∀ e ∈ es.toList, e.born < clock) ∧ (es.toList.map (·.born)).Nodup ∧ (∀ (i : Nat) k e, keys[i]? = some k → es.toList[i]? = some e → Den w M (get k) e.val) ∧ ∀ k, k ∉ keys → Den w M (get k) zero
  | .dead, _ => True
  | .sem S, v => S.ok w M v

/-- Where a call began: its world, and the blocks that were handed over to it. -/
structure Base where
  w : World
  X : Nat → Prop

def Base.own (B : Base) (b : Nat) : Prop := B.w.heap.size ≤ b ∨ B.X b

def Safe (B : Base) (M0 : Nat → Prop) : Prop := ∀ b, M0 b → b < B.w.heap.size ∧ ¬ B.X b

structure Inv (w0 : Base) (M0 : Nat → Prop) (L : Nat → Value) (tb : List Blk) (w : World) : Prop where
  below : Ext w0.X w0.w w
  ok : ∀ (i : Nat) k, tb[i]? = some k → BlkOK w (mset M0 tb L) 0 k (L i)
  apart : ∀ (i j : Nat) b, i < tb.length → j < tb.length → blkNo (L i) = some b → blkNo (L j) = some b → i = j
  low : ∀ (i : Nat) b, i < tb.length → blkNo (L i) = some b → w0.own b ∧ b < w.heap.size

def LDen (G : Nat → Option Bool) (w : World) (M : Nat → Prop) (L : Nat → Value) (tb : List Blk) : LV → Value → Prop
  | .any, _ => True
  | .sv s, v => Den w M s v
  | .ptr i off, v => i < tb.length ∧ ∃ b, L i = .pointer (some ⟨b, 0, none⟩) ∧ v = .pointer (some ⟨b, off, none⟩)
  | .rp i k off, v => ∃ (b n c : Nat) (t : TypeId) (sz : Nat) (mu : Bool) (get : Nat → List SV), tb[i]? = some (.row t sz n mu get) ∧ L i = .slice (some ⟨b, 0, none⟩) n c ∧ k < n ∧
      v = .pointer (some ⟨b, k * sz + off, none⟩)
  | .own i, v => i < tb.length ∧ v = L i
  | .part i lo hi, v => ∃ (n : Nat) (t : TypeId) (sz : Nat) (mu : Bool) (get : Nat → List SV), tb[i]? = some (.row t sz n mu get) ∧ lo ≤ hi ∧ hi ≤ n ∧
      ((L i = .slice none 0 0 ∧ v = .slice none 0 0) ∨ ∃ b o c, L i = .slice (some ⟨b, 0, none⟩) n c ∧ (lo = 0 ∨ lo < c → o = lo * sz) ∧ v = .slice (some ⟨b, o, none⟩) (hi - lo) (c - lo))
  | .opt s b x, v => (G s = some b → LDen G w M L tb x v) ∧ (G s ≠ some b → v = undef)
  | .exact i, _ => i < tb.length ∧ ∃ A n, L i = .slice A n n
  | .isv i v, _ => i < tb.length ∧ L i = v

/-! Evaluation. -/

def constLV : Value → LV
  | .int k n => .sv (.int k n)
  | .bool b => .sv (.bool b)
  | v => .sv (.val v)

def ev (sl : List (Nat × LV)) : Operand → LV
  | .tmp t => look sl t
  | .const v => constLV v
  | .func f => .sv (.fn f [])
  | .global _ => .any

def unopt (gs : List (Nat × Bool)) : LV → LV
  | .opt s b x => if (s, b) ∈ gs then x else .any
  | x => x

def evG (sl : List (Nat × LV)) (gs : List (Nat × Bool)) (x : Operand) : LV := unopt gs (ev sl x)

/-- The guards that hold where the slot s is a bool. -/
def chain (sl : List (Nat × LV)) : Nat → Nat → List (Nat × Bool)
  | 0, _ => []
  | f + 1, s => match look sl s with
    | .opt s' b' _ => (s', b') :: chain sl f s'
    | _ => []

def guards (sl : List (Nat × LV)) : Option (Nat × Bool) → List (Nat × Bool)
  | none => []
  | some (s, b) => (s, b) :: chain sl 4 s

def boolAt (sl : List (Nat × LV)) (s : Nat) : Option Bool :=
  match look sl s with
  | .sv (.bool b) => some b
  | .opt _ _ (.sv (.bool b)) => some b
  | _ => none

def gcond (sl : List (Nat × LV)) : List (Nat × Bool) → Prop
  | [] => True
  | (s, b) :: r => (match boolAt sl s with | some c => c = b | none => True) ∧ gcond sl r

/-- The cells behind an address. -/
def addrOf (tb : List Blk) : LV → Option (List SV × Nat)
  | .ptr i off => match tb[i]? with
    | some (.cells _ _ cs) => some (cs, off)
    | _ => none
  | .rp i k off => match tb[i]? with
    | some (.row _ _ _ _ get) => some (get k, off)
    | _ => none
  | .sv (.ref cs off) => some (cs, off)
  | _ => none

/-- A local handle as an immutable value, where it is frozen. -/
def shut (tb : List Blk) : LV → Option SV
  | .sv s => some s
  | .own i => match tb[i]? with
    | some (.row _ sz n false get) => some (.lst sz n get)
    | _ => none
  | .ptr i off => match tb[i]? with
    | some (.cells _ false cs) => some (.ref cs off)
    | _ => none
  | _ => none

/-- The cells of a value that is stored. -/
def cellsOf : SV → Option (List SV)
  | .agg cs => some cs
  | .tup _ => none
  | .val v => if v.oneCell' then some [.val v] else none
  | s => some [s]

def InK (k : IntKind) (n : Int) : Prop := k.min ≤ n ∧ n ≤ k.max

def andK : IntKind → Bool
  | .i64 => true
  | .u16 => true
  | _ => false

def binI (op : BinOp) (k : IntKind) (a b : Int) : Option (SV × Prop) :=
  match op with
  | .add => some (.int k (a + b), InK k (a + b))
  | .sub => some (.int k (a - b), InK k (a - b))
  | .mul => some (.int k (a * b), InK k (a * b))
  | .quo => some (.int k (a / b), 0 ≤ a ∧ 0 < b ∧ InK k (a / b))
  | .rem => some (.int k (a % b), 0 ≤ a ∧ 0 < b)
  | .eql => some (.bool (decide (a = b)), True)
  | .neq => some (.bool (!decide (a = b)), True)
  | .lss => some (.bool (decide (a < b)), True)
  | .leq => some (.bool (decide (a ≤ b)), True)
  | .gtr => some (.bool (decide (b < a)), True)
  | .geq => some (.bool (decide (b ≤ a)), True)
  | .shr => some (.int k (a / 2 ^ b.toNat), 0 ≤ b ∧ b.toNat ≤ k.bits)
  | .and => some (.int k ((a.toNat &&& b.toNat : Nat) : Int), andK k = true ∧ 0 ≤ a ∧ 0 ≤ b ∧ InK k a ∧ InK k b)
  | .or => some (.int k ((a.toNat ||| b.toNat : Nat) : Int), k = .i64 ∧ 0 ≤ a ∧ 0 ≤ b ∧ InK k a ∧ InK k b)
  | _ => none

/-- A number that is told as a value: what is done with it may wrap. -/
def binW (op : BinOp) (k : IntKind) (a b : Int) : Option (SV × Prop) :=
  match op with
  | .add => some (.val (.int k (k.wrap (a + b))), True)
  | _ => none

/-- A shift whose count is of another kind. -/
def binX (op : BinOp) (k k' : IntKind) (a b : Int) : Option (SV × Prop) :=
  match op with
  | .shr => match k, k' with
    | .u16, .i64 => some (.int .u16 (a / 2 ^ b.toNat), 0 ≤ b ∧ b.toNat ≤ 16)
    | _, _ => none
  | _ => none

def binSV (op : BinOp) : SV → SV → Option (SV × Prop)
  | .int k a, .int k' b => if k = k' then binI op k a b else binX op k k' a b
  | .val (.int k a), .int k' b => if k = k' then binW op k a b else none
  | _, _ => none

def binB (op : BinOp) : SV → SV → Option (SV × Prop)
  | .bool a, .bool b => match op with
    | .eql => some (.bool (a == b), True)
    | .neq => some (.bool (a != b), True)
    | _ => none
  | _, _ => none

/-- The numbers of a value all of whose cells are of type int. -/
def intsOf : List SV → Option (List Int)
  | [] => some []
  | .int .i64 n :: r => match intsOf r with
    | some l => some (n :: l)
    | none => none
  | _ :: _ => none

/-- The comparison of two such values of a type. -/
def EqOK (P : Program) (t : TypeId) (n : Nat) : Prop :=
  ∀ (w : World) (ne : Bool) (x y : Operand) (as bs : List Int), as.length = n → bs.length = n →
    (do eqGuard (if ne then .neq else .eql) t x y (.agg (as.map (Value.int .i64)).toArray) (.agg (bs.map (Value.int .i64)).toArray)
        binOp (if ne then .neq else .eql) t (.agg (as.map (Value.int .i64)).toArray) (.agg (bs.map (Value.int .i64)).toArray) : Sem Value).run P w = .ok (.bool (xor ne (decide (as = bs)))) w

def unSV (op : UnOp) : SV → Option (SV × Prop)
  | .bool b => match op with
    | .not => some (.bool (!b), True)
    | _ => none
  | .int k n => match op with
    | .neg => some (.int k (0 - n), InK k (0 - n))
    | _ => none
  | .val (.int k n) => match op with
    | .neg => some (.val (.int k (k.wrap (0 - n))), True)
    | _ => none
  | _ => none

def optList {α : Type} : List (Option α) → Option (List α)
  | [] => some []
  | none :: _ => none
  | some x :: r => match optList r with
    | some l => some (x :: l)
    | none => none

/-- The slots of one value's cells are laid over others, from an offset on. -/
def lay (cs : List SV) (off : Nat) : List SV → List SV
  | [] => cs
  | s :: r => lay (cs.set off s) (off + 1) r

def fillSV (cs : List SV) : List (Nat × Nat × Option SV) → Option (List SV)
  | [] => some cs
  | (off, n, some s) :: r => match cellsOf s with
    | some l => if l.length = n ∧ off + n ≤ cs.length then fillSV (lay cs off l) r else none
    | none => none
  | (_, _, none) :: _ => none

def natOf : LV → Option Int
  | .sv (.int _ n) => some n
  | _ => none

/-- The function is the library's slices.overlaps at a slice type. -/
def OvlOK (P : Program) (f : FuncId) (t : TypeId) : Prop :=
  ∃ (fn : Func) (r e : TypeId) (n : Nat), P.funcs[f]? = some fn ∧ (fn.name == "runtime.NumGoroutine") = false ∧ fn.body.isNone = true ∧ Extern.findNext fn = none ∧ Extern.find fn = some (Extern.SlicesOverlaps.overlaps #[t, t] #[r]) ∧
    P.underlying t = some (.slice e) ∧ (P.info? e).map (·.size) = some n

def lstOf : SV → Option (Nat × (Nat → List SV))
  | .lst _ n get => some (n, get)
  | .val (.slice none 0 0) => some (0, fun _ => [])
  | _ => none

def szOK (sz : Nat) : SV → Prop
  | .lst s _ _ => s = sz
  | _ => True

/-- A part of a row of the call's own. -/
def rowPart (tb : List Blk) : LV → Option (Nat × Nat × Nat × Nat × Nat)
  | .own j => match tb[j]? with
    | some (.row _ sz n _ _) => some (j, 0, n, sz, n)
    | _ => none
  | .part j a b => match tb[j]? with
    | some (.row _ sz n _ _) => some (j, a, b, sz, n)
    | _ => none
  | _ => none

/-- The slot under which a handle's value is noted. -/
def nmSlot (j : Nat) : Nat := 2000000 + j

/-- The first map whose handle has a name. -/
def nmMap (tb : List Blk) (ev : Operand → LV) : Nat → Option (Nat × Value)
  | 0 => none
  | n + 1 => match nmMap tb ev n with
    | some r => some r
    | none => match tb[n]?, ev (.tmp (nmSlot n)) with
      | some (.map _ _ _), .isv j v => if j = n then some (n, v) else none
      | _, _ => none

/-- The block of a map: a handle, or the named value of one. -/
def mapOfLV (tb : List Blk) (ev : Operand → LV) : LV → Option (Nat × List Prop)
  | .own i => some (i, [])
  | .sv (.val u) => match nmMap tb ev tb.length with
    | some (i, v) => some (i, [v = u])
    | none => none
  | _ => none

/-- The operations that leave memory alone. -/
def pureOp (P : Program) (tb : List Blk) (ev : Operand → LV) : SOp → Option (LV × Prop)
  | .mov x => some (ev x, True)
  | .load1 x => match addrOf tb (ev x) with
    | some (cs, off) => match cs[off]? with
      | some s => some (.sv s, True)
      | none => none
    | none => none
  | .loadN n x => match addrOf tb (ev x) with
    | some (cs, off) => some (.sv (.agg ((cs.drop off).take n)), off + n ≤ cs.length)
    | none => none
  | .fld off x => match ev x with
    | .ptr i o => some (.ptr i (o + off), True)
    | .rp i k o => some (.rp i k (o + off), True)
    | .sv (.ref cs o) => some (.sv (.ref cs (o + off)), True)
    | _ => none
  | .idx sz x i => match ev x, ev i with
    | .sv (.lst sz' n get), .sv (.int _ k) => some (.sv (.ref (get k.toNat) 0), sz' = sz ∧ 0 ≤ k ∧ k < n)
    | .own j, .sv (.int _ k) => match tb[j]? with
      | some (.row _ sz' n _ _) => some (.rp j k.toNat 0, sz' = sz ∧ 0 ≤ k ∧ k < n)
      | _ => none
    | .part j a b, .sv (.int _ k) => match tb[j]? with
      | some (.row _ sz' _ _ _) => some (.rp j (a + k.toNat) 0, sz' = sz ∧ 0 ≤ k ∧ a + k.toNat < b)
      | _ => none
    | _, _ => none
  | .idxA len sz x i => match ev x, ev i with
    | .ptr j o, .sv (.int _ k) => some (.ptr j (o + k.toNat * sz), 0 ≤ k ∧ k < len)
    | .sv (.ref cs o), .sv (.int _ k) => some (.sv (.ref cs (o + k.toNat * sz)), 0 ≤ k ∧ k < len)
    | .rp j q 0, .sv (.int _ k) => match tb[j]? with
      | some (.row _ sz' n _ _) => some (.rp j (q + k.toNat) 0, sz' = sz ∧ 0 ≤ k ∧ k < len ∧ q + k.toNat < n)
      | _ => none
    | _, _ => none
  | .bin op x y => match ev x, ev y with
    | .sv a, .sv b => match binSV op a b with
      | some (s, ob) => some (.sv s, ob)
      | none => none
    | _, _ => none
  | .binB op x y => match ev x, ev y with
    | .sv a, .sv b => match binB op a b with
      | some (s, ob) => some (.sv s, ob)
      | none => none
    | _, _ => none
  | .binA ne t x y => match ev x, ev y with
    | .sv (.agg a), .sv (.agg b) => match intsOf a, intsOf b with
      | some as, some bs => some (.sv (.bool (xor ne (decide (as = bs)))), EqOK P t as.length ∧ as.length = bs.length)
      | _, _ => none
    | _, _ => none
  | .un op x => match ev x with
    | .sv a => match unSV op a with
      | some (s, ob) => some (.sv s, ob)
      | none => none
    | _ => none
  | .conv k x => match ev x with
    | .sv (.int _ n) => some (.sv (.int k n), InK k n)
    | _ => none
  | .ext x i => match ev x with
    | .sv (.tup vs) => match vs[i]? with
      | some s => some (.sv s, True)
      | none => none
    | _ => none
  | .fval off n x => match ev x with
    | .sv (.agg cs) => match n with
      | none => match cs[off]? with
        | some s => some (.sv s, True)
        | none => none
      | some m => some (.sv (.agg ((cs.drop off).take m)), True)
    | _ => none
  | .len x => match ev x with
    | .sv s => match lstOf s with
      | some (n, _) => some (.sv (.int .i64 n), True)
      | none => none
    | .own j => match tb[j]? with
      | some (.row _ _ n _ _) => some (.sv (.int .i64 n), True)
      | _ => none
    | .part _ a b => some (.sv (.int .i64 ((b - a : Nat) : Int)), True)
    | _ => none
  | .mm mx x y => match ev x, ev y with
    | .sv (.int k a), .sv (.int _ b) => some (.sv (.int k (if mx then max a b else min a b)), True)
    | .sv (.val (.int k a)), .sv (.val (.int _ b)) => some (.sv (.int k (if mx then max a b else min a b)), True)
    | _, _ => none
  | .mkfn f caps => match optList (caps.map fun x => shut tb (ev x)) with
    | some l => some (.sv (.fn f l), True)
    | none => none
  | .build zero parts => match fillSV (zero.map SV.val) (parts.map fun p => (p.1, p.2.1, shut tb (ev p.2.2))) with
    | some l => some (.sv (.agg l), True)
    | none => none
  | .cap x => match ev x with
    | .sv (.val (.slice none 0 0)) => some (.sv (.int .i64 0), True)
    | _ => none
  | .ovl f t x y => match ev x, ev y, ev (.func f) with
    | .sv (.lst sz _ _), .part j _ _, .sv (.fn f' []) => match tb[j]? with
      | some (.row _ _ _ true _) => some (.sv (.bool false), OvlOK P f' t ∧ 0 < sz)
      | _ => none
    | _, _, _ => none
  | .slice sz x lo hi => match shut tb (ev x) with
    | some (.val (.slice none 0 0)) => match (lo.map fun y => natOf (ev y)).getD (some 0), (hi.map fun y => natOf (ev y)).getD (some 0) with
      | some l, some h => some (.sv (.val (.slice none 0 0)), l = 0 ∧ h = 0)
      | _, _ => none
    | some s => match lstOf s with
      | some (n, get) => match (lo.map fun y => natOf (ev y)).getD (some 0), (hi.map fun y => natOf (ev y)).getD (some n) with
        | some l, some h => some (.sv (.lst sz (h.toNat - l.toNat) fun i => get (l.toNat + i)), szOK sz s ∧ 0 ≤ l ∧ l ≤ h ∧ h ≤ n)
        | _, _ => none
      | none => none
    | none => match rowPart tb (ev x) with
      | some (j, a, b, sz', n) => match (lo.map fun y => natOf (ev y)).getD (some 0), (hi.map fun y => natOf (ev y)).getD (some ((b - a : Nat) : Int)) with
        | some l, some h => some (.part j (a + l.toNat) (a + h.toNat), sz' = sz ∧ 0 ≤ l ∧ l ≤ h ∧ a + h.toNat ≤ n)
        | _, _ => none
      | none => none
  | .lookup zero ok x k => match ev x, ev k with
    | .own i, .sv (.int .i64 n) => match tb[i]? with
      | some (.map z keys get) => some (.sv (if ok then .tup [get n, .bool (decide (n ∈ keys))] else get n), z = zero)
      | _ => none
    | _, _ => none
  | .slice3 sz x lo hi mx => match rowPart tb (ev x) with
    | some (_, a, _, sz', n) => match (lo.map fun y => natOf (ev y)).getD (some 0), (hi.map fun y => natOf (ev y)), natOf (ev mx) with
      | some l, some (some h), some m => some (.any, sz' = sz ∧ 0 ≤ l ∧ l ≤ h ∧ h ≤ m ∧ a + m.toNat ≤ n)
      | _, _, _ => none
    | none => none
  | _ => none

end Go.Sx

namespace Go.Sx
open Go Go.RowKit

def noMem : SV → Bool
  | .int _ _ => true
  | .bool _ => true
  | .val _ => true
  | .tup l => noMems l
  | .agg l => noMems l
  | _ => false
  where noMems : List SV → Bool
  | [] => true
  | s :: r => noMem s && noMems r

def HasBody (P : Program) (f : FuncId) : Prop := ∃ fn, P.funcs[f]? = some fn ∧ fn.body.isSome = true ∧ (fn.name == "runtime.NumGoroutine") = false

/-- What a function gives for arguments: it returns, and nothing that was there has turned. -/
def Spec (P : Program) (f : FuncId) (args : List SV) (r : SV) : Prop :=
  HasBody P f ∧ ∀ (w : World) (M : Nat → Prop) (vs : Array Value), (∀ b, M b → b < w.heap.size) → args.length = vs.size →
    (∀ (i : Nat) s v, args[i]? = some s → vs[i]? = some v → Den w M s v) →
    Calls P f vs w fun e w' => ∃ v, e = .returned v ∧ Below w.heap.size w w' ∧ Den w' M r v

/-- The same, the result being a slice of new memory that nobody else holds. -/
def SpecOwn (P : Program) (f : FuncId) (args : List SV) (t : TypeId) (sz n : Nat) (get : Nat → List SV) : Prop :=
  HasBody P f ∧ ∀ (w : World) (M : Nat → Prop) (vs : Array Value), (∀ b, M b → b < w.heap.size) → args.length = vs.size →
    (∀ (i : Nat) s v, args[i]? = some s → vs[i]? = some v → Den w M s v) →
    Calls P f vs w fun e w' => ∃ v, e = .returned v ∧ Below w.heap.size w w' ∧ BlkOK w' (fun b => M b ∨ blkNo v = some b) w.heap.size (.row t sz n true get) v

/-- A function that takes a slice of the caller's own and hands one back in its place. -/
def SpecTake (P : Program) (f : FuncId) (pre : List SV) (t : TypeId) (sz n : Nat) (get : Nat → List SV) (post : List SV) (n' : Nat) (get' : Nat → List SV) : Prop :=
  HasBody P f ∧ ∀ (w : World) (M : Nat → Prop) (base : Nat) (us vs : List Value) (v : Value), (∀ b, M b → b < w.heap.size) → base ≤ w.heap.size → (∀ b, blkNo v = some b → M b) → pre.length = us.length → post.length = vs.length →
    (∀ (i : Nat) s u, pre[i]? = some s → us[i]? = some u → Den w M s u) → (∀ (i : Nat) s u, post[i]? = some s → vs[i]? = some u → Den w M s u) → BlkOK w M base (.row t sz n true get) v →
    Calls P f (us ++ v :: vs).toArray w fun e w' => ∃ v', e = .returned v' ∧ w.grownBy w' (blkNo v) ∧ (∀ b, blkNo v' = some b → blkNo v = some b ∨ w.heap.size ≤ b) ∧ BlkOK w' (fun b => (M b ∧ blkNo v ≠ some b) ∨ blkNo v' = some b) base (.row t sz n' true get') v'

/-- A function that writes into a slice of the caller's own and returns nothing. -/
def SpecSort (P : Program) (f : FuncId) (pre : List SV) (t : TypeId) (sz n : Nat) (get : Nat → List SV) (post : List SV) (get' : Nat → List SV) : Prop :=
  HasBody P f ∧ ∀ (w : World) (M : Nat → Prop) (base : Nat) (us vs : List Value) (v : Value), (∀ b, M b → b < w.heap.size) → base ≤ w.heap.size → (∀ b, blkNo v = some b → M b) → pre.length = us.length → post.length = vs.length →
    (∀ (i : Nat) s u, pre[i]? = some s → us[i]? = some u → Den w M s u) → (∀ (i : Nat) s u, post[i]? = some s → vs[i]? = some u → Den w M s u) → BlkOK w M base (.row t sz n true get) v →
    Calls P f (us ++ v :: vs).toArray w fun e w' => e = .returned (.tuple #[]) ∧ w.grownBy w' (blkNo v) ∧ BlkOK w' M base (.row t sz n true get') v

def SVle (s s' : SV) : Prop := ∀ w M v, Den w M s v → Den w M s' v

def SVles : List SV → List SV → Prop
  | [], [] => True
  | s :: r, s' :: r' => SVle s s' ∧ SVles r r'
  | _, _ => False

def St.put (st : St) (d : Option Nat) (x : LV) : St :=
  match d with
  | some d => { st with sl := (d, x) :: st.sl }
  | none => st

def kill (i : Nat) : LV → LV
  | .own j => if j = i then .any else .own j
  | .rp j k o => if j = i then .any else .rp j k o
  | .part j a b => if j = i then .any else .part j a b
  | .ptr j o => if j = i then .any else .ptr j o
  | .opt _ _ _ => .any
  | .exact j => if j = i then .any else .exact j
  | .isv j v => if j = i then .any else .isv j v
  | x => x

def killSl (i : Nat) : List (Nat × LV) → List (Nat × LV)
  | [] => []
  | (t, x) :: r => (t, kill i x) :: killSl i r

def freeze : Blk → Blk
  | .cells t _ cs => .cells t false cs
  | .row t sz n _ get => .row t sz n false get
  | .map z keys get => .map z keys get
  | .dead => .dead
  | .sem S => .sem S

def frzAt (tb : List Blk) (i : Nat) : List Blk :=
  match tb[i]? with
  | some k => tb.set i (freeze k)
  | none => tb

/-- Freeze what is handed on by a value. -/
def frz (tb : List Blk) : LV → List Blk
  | .own i => frzAt tb i
  | .ptr i _ => frzAt tb i
  | _ => tb

def frzAll (tb : List Blk) : List LV → List Blk
  | [] => tb
  | x :: r => frzAll (frz tb x) r

def frzOwn (tb : List Blk) : LV → List Blk
  | .own i => frzAt tb i
  | _ => tb

def frzOwns (tb : List Blk) : List LV → List Blk
  | [] => tb
  | x :: r => frzOwns (frzOwn tb x) r

/-- An argument: a row may be lent out as it is. -/
def argSV (tb : List Blk) : LV → Option SV
  | .own i => match tb[i]? with
    | some (.row _ sz n _ get) => some (.lst sz n get)
    | _ => none
  | x => shut tb x

def srcOf (tb : List Blk) (sz : Nat) (i : Nat) : LV → Option (Nat × (Nat → List SV) × Prop)
  | .sv s => match lstOf s with
    | some (n, get) => some (n, get, szOK sz s)
    | none => none
  | .own j => if j = i then none else match tb[j]? with
    | some (.row _ sz' n _ get) => some (n, get, sz' = sz)
    | _ => none
  | _ => none

def joinGet (n : Nat) (get get' : Nat → List SV) (k : Nat) : List SV := if k < n then get k else get' (k - n)

/-- Elements are laid over those from k on, as many as m. -/
def spliceGet (k m : Nat) (get' get : Nat → List SV) (i : Nat) : List SV := if k ≤ i ∧ i < k + m then get' (i - k) else get i

def roomOK (n bytes : Nat) : Prop := n * bytes ≤ 140737488355328 ∧ n ≤ maxLen

def cutRows (sz : Nat) (cs : List SV) (k : Nat) : List SV := (cs.drop (k * sz)).take sz

/-- The first argument that is a row of the call's own. -/
def splitOwn : List LV → Option (List LV × Nat × List LV)
  | [] => none
  | .own i :: r => some ([], i, r)
  | x :: r => match splitOwn r with
    | some (a, i, b) => some (x :: a, i, b)
    | none => none

def takeVC1 (P : Program) (st : St) (f : FuncId) (xs : List LV) (d : Option Nat) (K : St → Prop) : Prop :=
  match splitOwn xs with
  | none => False
  | some (a, i, b) => match st.tb[i]? with
    | some (.row t sz n true get) => match optList (a.map (shut st.tb)), optList (b.map (shut st.tb)) with
      | some ps, some qs =>
        (∃ ps' qs' n' get', SVles ps ps' ∧ SVles qs qs' ∧ SpecTake P f ps' t sz n get qs' n' get' ∧ K (St.put { sl := killSl i st.sl, tb := st.tb.set i (.row t sz n' true get') } d (.own i))) ∨
        (∃ ps' qs' get', SVles ps ps' ∧ SVles qs qs' ∧ SpecSort P f ps' t sz n get qs' get' ∧ K (St.put { st with tb := st.tb.set i (.row t sz n true get') } d (.sv (.tup []))))
      | _, _ => False
    | _ => False

/-- Rows that are handed over beside the one that is taken are lent out for good. -/
def frzSt (st : St) (xs : List LV) : St := { st with tb := frzOwns st.tb xs }

def takeVC (P : Program) (st : St) (f : FuncId) (xs : List LV) (d : Option Nat) (K : St → Prop) : Prop :=
  match splitOwn xs with
  | none => False
  | some (a, _, b) => takeVC1 P (frzSt st (a ++ b)) f xs d K

/-- The handles' values, and the world, behind a state. -/
structure Behind (w0 : Base) (M0 : Nat → Prop) (G : Nat → Option Bool) (sv : Nat → Value) (st : St) (L : Nat → Value) (w : World) : Prop where
  inv : Inv w0 M0 L st.tb w
  slot : ∀ t, LDen G w (mset M0 st.tb L) L st.tb (look st.sl t) (sv t)

def optFree : LV → Bool
  | .opt _ _ _ => false
  | _ => true

/-- A call by what it does to the world: a door for further rules. -/
def semVC (P : Program) (st : St) (f : FuncId) (xs : List LV) (d : Option Nat) (K : St → Prop) : Prop :=
  HasBody P f ∧ ∀ (w0 : Base) (M0 : Nat → Prop) (G : Nat → Option Bool) (sv : Nat → Value) (L : Nat → Value) (w : World) (vs : Array Value), Safe w0 M0 → Behind w0 M0 G sv st L w → xs.length = vs.size →
    (∀ (i : Nat) x v, xs[i]? = some x → vs[i]? = some v → LDen G w (mset M0 st.tb L) L st.tb x v) →
    Calls P f vs w fun e w' => ∃ v st' x L', e = .returned v ∧ K (St.put st' d x) ∧ Behind w0 M0 G sv st' L' w' ∧ LDen G w' (mset M0 st'.tb L') L' st'.tb x v ∧ optFree x = true ∧ ∀ t, optFree (look st'.sl t) = true

/-- An operation by what it does to the world: a door for further rules. -/
def opVC (P : Program) (st : St) (op : Op) (d : Option Nat) (K : St → Prop) : Prop :=
  ∀ (w0 : Base) (M0 : Nat → Prop) (G : Nat → Option Bool) (sv : Nat → Value) (L : Nat → Value) (w : World) (ρ : Operand → Value) (o : Oper), o.op = op → Safe w0 M0 → Behind w0 M0 G sv st L w →
    (∀ x, LDen G w (mset M0 st.tb L) L st.tb (ev st.sl x) (ρ x)) →
    ∃ v w' st' x L', ((execOp ρ o).run P w = .ok (.value v) w' ∨ (execOp ρ o).run P w = .ok .skip w' ∧ v = undef) ∧ K (St.put st' d x) ∧ Behind w0 M0 G sv st' L' w' ∧
      LDen G w' (mset M0 st'.tb L') L' st'.tb x v ∧ optFree x = true ∧ ∀ t, optFree (look st'.sl t) = true

def gOf (a : Act) (s : Nat) : Option Bool :=
  match a.tmps[s]? with
  | some (.bool b) => some b
  | _ => none

/-- What stands behind a state at a place in the code. -/
def AtCode (N : Nat) (w0 : Base) (M0 : Nat → Prop) (st : St) (a : Act) (w : World) : Prop :=
  ∃ L, a.tmps.size = N ∧ a.defers = [] ∧ Behind w0 M0 (gOf a) (fun t => a.tmps.getD t undef) st L w ∧ ∀ t, optFree (look st.sl t) = true

/-- Code by what it does to the world: a door for further rules. -/
def rawVC (P : Program) (c : Code) (st : St) (Q : Exit → St → Prop) : Prop :=
  ∀ (N : Nat) (w0 : Base) (M0 : Nat → Prop) (a : Act) (w : World), Safe w0 M0 → AtCode N w0 M0 st a w → c.wp P (fun e a' w' => ∃ st', Q e st' ∧ AtCode N w0 M0 st' a' w') a w

def callVC (P : Program) (st : St) (f : FuncId) (xs : List LV) (d : Option Nat) (K : St → Prop) : Prop :=
  (match optList (xs.map (argSV st.tb)) with
  | none => False
  | some args =>
    (∃ args' r, SVles args args' ∧ Spec P f args' r ∧ K (St.put { st with tb := if noMem r then st.tb else frzOwns st.tb xs } d (.sv r))) ∨
    (∃ args' t sz n get, SVles args args' ∧ SpecOwn P f args' t sz n get ∧ K (St.put { st with tb := frzOwns st.tb xs ++ [.row t sz n true get] } d (.own st.tb.length)))) ∨
  takeVC P st f xs d K ∨ semVC P st f xs d K

def boxVC (st : St) (t : TypeId) (x : LV) (d : Option Nat) (K : St → Prop) : Prop :=
  match shut (frz st.tb x) x with
  | some s => match cellsOf s with
    | some cs => K (St.put { st with tb := frz st.tb x ++ [.cells t true cs] } d (.ptr st.tb.length 0))
    | none => False
  | none => False

def storeAt (tb : List Blk) (n : Nat) (cs : List SV) : LV → Option (List Blk × Prop)
  | .ptr i off => match tb[i]? with
    | some (.cells t true old) => some (tb.set i (.cells t true (lay old off cs)), cs.length = n ∧ off + n ≤ old.length)
    | _ => none
  | .rp i k off => match tb[i]? with
    | some (.row t sz m true get) => some (tb.set i (.row t sz m true fun j => if j = k then lay (get k) off cs else get j), cs.length = n ∧ off + n ≤ sz)
    | _ => none
  | _ => none

def storeVC (st : St) (n : Nat) (x v : LV) (d : Option Nat) (K : St → Prop) : Prop :=
  match shut (frz st.tb v) v with
  | some s => match cellsOf s with
    | some cs => match storeAt (frz st.tb v) n cs x with
      | some (tb, ob) => ob ∧ K (St.put { st with tb := tb } d .any)
      | none => False
    | none => False
  | none => False

def buildSVC (st : St) (e : TypeId) (sz len : Nat) (zero : List Value) (parts : List (Nat × LV)) (d : Option Nat) (K : St → Prop) : Prop :=
  match fillSV (((List.range len).map fun _ => zero.map SV.val).flatten) (parts.map fun p => (p.1 * sz, sz, shut (frzAll st.tb (parts.map fun p => p.2)) p.2)) with
  | some l => K (St.put { st with tb := frzAll st.tb (parts.map fun p => p.2) ++ [.row e sz len true (cutRows sz l)] } d (.own st.tb.length))
  | none => False

def appVC (st : St) (e : TypeId) (sz bytes : Nat) (x y : LV) (d : Option Nat) (K : St → Prop) : Prop :=
  match x with
  | .own i => match st.tb[i]? with
    | some (.row e' sz' n true get) => match srcOf st.tb sz i y with
      | some (m, get', ob) => (e' = e ∧ sz' = sz ∧ ob ∧ roomOK (n + m) bytes) ∧
          K (St.put { sl := killSl i st.sl, tb := st.tb.set i (.row e sz (n + m) true (joinGet n get get')) } d (.own i))
      | none => False
    | _ => False
  | .sv (.val (.slice none 0 0)) => match srcOf st.tb sz st.tb.length y with
    | some (m, get', ob) => (ob ∧ roomOK m bytes) ∧ K (St.put { st with tb := st.tb ++ [.row e sz m true get'] } d (.own st.tb.length))
    | none => False
  | .part i 0 k => match st.tb[i]? with
    | some (.row e' sz' n true get) => match y with
      | .part j a b => (j = i ∧ e' = e ∧ sz' = sz ∧ k + (b - a) ≤ n) ∧ K (St.put { st with tb := st.tb.set i (.row e sz n true (spliceGet k (b - a) (fun j => get (a + j)) get)) } d (.part i 0 (k + (b - a))))
      | _ => False
    | _ => False
  | _ => False

/-- The elements of a part of a row are cleared. -/
def clearVC (st : St) (sz : Nat) (zero : List Value) (x : LV) (d : Option Nat) (K : St → Prop) : Prop :=
  match x with
  | .part i a b => match st.tb[i]? with
    | some (.row e sz' n true get) => sz' = sz ∧ K (St.put { st with tb := st.tb.set i (.row e sz' n true (spliceGet a (b - a) (fun _ => zero.map SV.val) get)) } d (.sv (.tup [])))
    | _ => False
  | _ => False

/-- A comparison with nil: nothing is known of its outcome but that a slice that is nil is empty. -/
def isnilVC (st : St) (ne : Bool) (x : LV) (d : Option Nat) (K : St → Prop) : Prop :=
  match argSV st.tb x with
  | some s => match lstOf s with
    | some (n, _) => ∀ b : Bool, (b = true → n = 0) → K (st.put d (.sv (.bool (xor ne b))))
    | none => False
  | none => False

def makeSVC (st : St) (e : TypeId) (sz bytes : Nat) (zero : List Value) (x y : LV) (d : Option Nat) (K : St → Prop) : Prop :=
  match natOf x, natOf y with
  | some n, some c => (n = c ∧ 0 ≤ n ∧ roomOK n.toNat bytes) ∧ K (St.put { st with tb := st.tb ++ [.row e sz n.toNat true fun _ => zero.map SV.val] } d (.own st.tb.length))
  | _, _ => False

/-- The row's whole capacity: what was the row is a part of it now. -/
def expand (i n : Nat) : LV → LV
  | .own j => if j = i then .part j 0 n else .own j
  | x => kill i x

def expandSl (i n : Nat) : List (Nat × LV) → List (Nat × LV)
  | [] => []
  | (t, x) :: r => (t, expand i n x) :: expandSl i n r

/-- The slot under which it is noted that a row has all its capacity. -/
def exSlot (i : Nat) : Nat := 1000000 + i

def capSt (st : St) (i n : Nat) (t : TypeId) (sz c : Nat) (get' : Nat → List SV) (d : Option Nat) : St :=
  St.put { sl := (exSlot i, .exact i) :: expandSl i n st.sl, tb := st.tb.set i (.row t sz c true get') } d (.sv (.int .i64 c))

def capVC (st : St) (x : LV) (d : Option Nat) (K : St → Prop) : Prop :=
  match x with
  | .own i => match st.tb[i]? with
    | some (.row t sz n true get) => ∀ (c : Nat) (get' : Nat → List SV), n ≤ c → c ≤ maxLen → (∀ j, j < n → get' j = get j) → K (capSt st i n t sz c get' d)
    | _ => False
  | _ => False

/-- What is copied: from a list, a row, or a part of one. -/
def srcP (tb : List Blk) (sz : Nat) : LV → Option (Nat × (Nat → List SV) × Prop)
  | .sv s => match lstOf s with
    | some (n, get) => some (n, get, szOK sz s)
    | none => none
  | .own j => match tb[j]? with
    | some (.row _ sz' n _ get) => some (n, get, sz' = sz)
    | _ => none
  | .part j a b => match tb[j]? with
    | some (.row _ sz' _ _ get) => some (b - a, fun k => get (a + k), sz' = sz)
    | _ => none
  | _ => none

def isExact : LV → Nat → Bool
  | .exact j, i => decide (j = i)
  | _, _ => false

/-- Further operations that write, and what they owe. -/
def effF (st : St) (op : SOp) (d : Option Nat) : Option (St × List Prop) :=
  match op with
  | .copy sz x y => match ev st.sl x with
    | .part i a b => match st.tb[i]? with
      | some (.row t sz' n true get) => match srcP st.tb sz (ev st.sl y) with
        | some (m, get2, ob) => some (St.put { st with tb := st.tb.set i (.row t sz' n true (spliceGet a (min m (b - a)) get2 get)) } d (.sv (.int .i64 ((min m (b - a) : Nat) : Int))), [sz' = sz ∧ ob])
        | none => none
      | _ => none
    | _ => none
  | .appZ e sz bytes zero x n => match ev st.sl x, natOf (ev st.sl n) with
    | .sv (.val (.slice none 0 0)), some m => some (St.put { st with tb := st.tb ++ [.row e sz m.toNat true fun _ => zero.map SV.val] } d (.own st.tb.length), [0 < m ∧ roomOK m.toNat bytes])
    | .part i 0 k, some m => match st.tb[i]? with
      | some (.row e' sz' n' true get) => if isExact (look st.sl (exSlot i)) i then
          some (St.put { st with tb := st.tb ++ [.row e sz (k + m.toNat) true (joinGet k get fun _ => zero.map SV.val)] } d (.own st.tb.length), [e' = e ∧ sz' = sz ∧ 0 < m ∧ n' < k + m.toNat ∧ roomOK (k + m.toNat) bytes])
        else none
      | _ => none
    | _, _ => none
  | _ => none

def AllP : List Prop → Prop
  | [] => True
  | p :: r => p ∧ AllP r

def effVC (st : St) (op : SOp) (d : Option Nat) (K : St → Prop) : Prop :=
  match effF st op d with
  | some (st', obs) => AllP obs ∧ K st'
  | none => False

/-- A value as a symbolic one. -/
def valSV : Value → SV
  | .int k n => .int k n
  | .bool b => .bool b
  | .agg ⟨cs⟩ => .agg (cs.map fun v => match v with
    | .int k n => .int k n
    | .bool b => .bool b
    | v => .val v)
  | v => .val v

def putKey (keys : List Int) (k : Int) : List Int := if k ∈ keys then keys else keys ++ [k]

def putGet (k : Int) (s : SV) (get : Int → SV) (j : Int) : SV := if j = k then s else get j

def mapUpVC (st : St) (x k v : LV) (d : Option Nat) (K : St → Prop) : Prop :=
  match mapOfLV st.tb (ev st.sl) x, k with
  | some (i, obs), .sv (.int .i64 n) => match shut (frz st.tb v) v with
    | some s => match (frz st.tb v)[i]? with
      | some (.map z keys get) => AllP obs ∧ K (St.put { st with tb := (frz st.tb v).set i (.map z (putKey keys n) (putGet n s get)) } d .any)
      | _ => False
    | none => False
  | _, _ => False

def pureVC (P : Program) (st : St) (op : SOp) (d : Option Nat) (K : St → Prop) : Prop :=
  match pureOp P st.tb (ev st.sl) op with
  | some (x, ob) => ob ∧ K (st.put d x)
  | none => False

def pickVC (st : St) (gs : List (Nat × Bool)) (c : Nat) (a b : Operand) (K : LV → Prop) : Prop :=
  match unopt gs (look st.sl c), evG st.sl ((c, true) :: (chain st.sl 4 c ++ gs)) a, evG st.sl ((c, false) :: (chain st.sl 4 c ++ gs)) b with
  | .sv (.bool c), .sv (.bool x), .sv (.bool y) => K (.sv (.bool (cond c x y)))
  | _, _, _ => False

def wrapG : Option (Nat × Bool) → LV → LV
  | none, x => x
  | some (s, b), x => .opt s b x

/-- A row that may be written. -/
def isOwn (tb : List Blk) : LV → Bool
  | .own i => match tb[i]? with
    | some k => k.mut
    | none => false
  | _ => false

def dcallVC (P : Program) (tb : List Blk) (f : FuncId) (xs : List LV) (c : Prop) (K : SV → Prop) : Prop :=
  match optList (xs.map (argSV tb)) with
  | none => False
  | some args => ∃ args' r, (c → SVles args args' ∧ Spec P f args' r) ∧ (noMem r = true ∨ xs.all (fun x => !isOwn tb x) = true) ∧ K r

def dstepVC (P : Program) (st : St) (o : SO) (K : LV → Prop) : Prop :=
  match o.op with
  | .pick c x y => pickVC st (guards st.sl o.g) c x y fun z => K (wrapG o.g z)
  | .call f xs => dcallVC P st.tb f (xs.map (evG st.sl (guards st.sl o.g))) (gcond st.sl (guards st.sl o.g)) fun r => K (wrapG o.g (.sv r))
  | .callv x xs => match evG st.sl (guards st.sl o.g) x with
    | .sv (.fn f caps) => dcallVC P st.tb f (xs.map (evG st.sl (guards st.sl o.g)) ++ caps.map LV.sv) (gcond st.sl (guards st.sl o.g)) fun r => K (wrapG o.g (.sv r))
    | _ => False
  | .buildS _ sz len zero parts =>
    match fillSV (((List.range len).map fun _ => zero.map SV.val).flatten) (parts.map fun p => (p.1 * sz, sz, shut st.tb (evG st.sl (guards st.sl o.g) p.2))) with
    | some l => K (wrapG o.g (.sv (.lst sz len (cutRows sz l))))
    | none => False
  | op => match pureOp P st.tb (evG st.sl (guards st.sl o.g)) op with
    | some (x, ob) => (gcond st.sl (guards st.sl o.g) → ob) ∧ K (wrapG o.g x)
    | none => False

def stepVC (P : Program) (st : St) (o : SO) (K : St → Prop) : Prop :=
  match o.g with
  | none =>
    match o.op with
    | .pick c a b => pickVC st [] c a b fun x => K (st.put o.dst x)
    | .call f xs => callVC P st f (xs.map (ev st.sl)) o.dst K
    | .callv x xs => match ev st.sl x with
      | .sv (.fn f caps) => callVC P st f (xs.map (ev st.sl) ++ caps.map LV.sv) o.dst K
      | _ => False
    | .isnil ne x => isnilVC st ne (ev st.sl x) o.dst K
    | .box t x => boxVC st t (ev st.sl x) o.dst K
    | .alloc t zero => K (St.put { st with tb := st.tb ++ [.cells t true (zero.map SV.val)] } o.dst (.ptr st.tb.length 0))
    | .store n x v => storeVC st n (ev st.sl x) (ev st.sl v) o.dst K
    | .buildS e sz len zero parts => buildSVC st e sz len zero (parts.map fun p => (p.1, ev st.sl p.2)) o.dst K
    | .build zero parts => pureVC P { st with tb := frzAll st.tb (parts.map fun p => ev st.sl p.2.2) } (.build zero parts) o.dst K
    | .mkfn f caps => pureVC P { st with tb := frzAll st.tb (caps.map (ev st.sl)) } (.mkfn f caps) o.dst K
    | .makeS e sz bytes zero x y => makeSVC st e sz bytes zero (ev st.sl x) (ev st.sl y) o.dst K
    | .app e sz bytes _ x y => appVC st e sz bytes (ev st.sl x) (ev st.sl y) o.dst K
    | .clear _ sz zero x => clearVC st sz zero (ev st.sl x) o.dst K
    | .makeM zero => K (St.put { st with tb := st.tb ++ [.map zero [] fun _ => valSV zero] } o.dst (.own st.tb.length))
    | .mapUp x k v => mapUpVC st (ev st.sl x) (ev st.sl k) (ev st.sl v) o.dst K
    | .bad op _ => opVC P st op o.dst K
    | .cap x => match ev st.sl x with
      | .own i => capVC st (.own i) o.dst K
      | _ => pureVC P st (.cap x) o.dst K
    | .copy sz x y => effVC st (.copy sz x y) o.dst K
    | .appZ e sz bytes zero x n => effVC st (.appZ e sz bytes zero x n) o.dst K
    | op => pureVC P st op o.dst K
  | some (s, b) =>
    match o.op with
    | .pick c x y => pickVC st (guards st.sl o.g) c x y fun z => K (st.put o.dst (.opt s b z))
    | .call f xs => dstepVC P st ⟨o.dst, .call f xs, o.g⟩ fun x => K (st.put o.dst x)
    | .callv x xs => dstepVC P st ⟨o.dst, .callv x xs, o.g⟩ fun x => K (st.put o.dst x)
    | .buildS e sz len zero parts => dstepVC P st ⟨o.dst, .buildS e sz len zero parts, o.g⟩ fun x => K (st.put o.dst x)
    | .mkfn f caps => match pureOp P (frzAll st.tb (caps.map (evG st.sl (guards st.sl o.g)))) (evG st.sl (guards st.sl o.g)) (.mkfn f caps) with
      | some (x, ob) => (gcond st.sl (guards st.sl o.g) → ob) ∧ K (St.put { st with tb := frzAll st.tb (caps.map (evG st.sl (guards st.sl o.g))) } o.dst (.opt s b x))
      | none => False
    | op => match pureOp P st.tb (evG st.sl (guards st.sl o.g)) op with
      | some (x, ob) => (gcond st.sl (guards st.sl o.g) → ob) ∧ K (st.put o.dst (.opt s b x))
      | none => False

/-! Names: a handle's value, and back. -/

def hasShape : Blk → Value → Prop
  | .row _ _ n _ _, v => ∃ A c, v = .slice A n c
  | .map _ _ _, v => ∃ b, v = .map (some b)
  | _, _ => True

def nameSt (st : St) (s j : Nat) (v : Value) : St := { st with sl := (s, .sv (.val v)) :: (nmSlot j, .isv j v) :: st.sl }

def unnameSt (st : St) (s j : Nat) : St := { st with sl := (s, .own j) :: st.sl }

/-- A step, behind other views of what is there. -/
inductive GVC (P : Program) (o : SO) (K : St → Prop) : St → Prop where
  | step {st : St} (h : stepVC P st o K) : GVC P o K st
  | view {st : St} (S : St → Prop) (h1 : ∀ (w0 : Base) (M0 : Nat → Prop) (G : Nat → Option Bool) (sv : Nat → Value) (L : Nat → Value) (w : World), Safe w0 M0 → Behind w0 M0 G sv st L w →
      ∃ st' L', S st' ∧ Behind w0 M0 G sv st' L' w ∧ ∀ t, look st'.sl t = look st.sl t ∨ optFree (look st'.sl t) = true) (h2 : ∀ st', S st' → GVC P o K st') : GVC P o K st

def stepsVC (P : Program) : List SO → St → (St → Prop) → Prop
  | [], st, K => K st
  | o :: r, st, K => GVC P o (fun st' => stepsVC P r st' K) st

def clean : LV → LV
  | .opt _ _ _ => .any
  | x => x

def cleanSl : List (Nat × LV) → List (Nat × LV)
  | [] => []
  | (t, .opt _ _ _) :: r => (t, .any) :: cleanSl r
  | p :: r => p :: cleanSl r

/-! One state tells less than another. -/

def isNilRow : Blk → Prop
  | .row _ _ n _ _ => n = 0
  | .dead => True
  | _ => False

def BlkLe : Blk → Blk → Prop
  | _, .dead => True
  | .cells t mu cs, .cells t' mu' cs' => t = t' ∧ (mu' = true → mu = true) ∧ SVles cs cs'
  | .row t sz n mu get, .row t' sz' n' mu' get' => t = t' ∧ sz = sz' ∧ n = n' ∧ (mu' = true → mu = true) ∧ ∀ i, i < n → SVles (get i) (get' i)
  | .map z keys get, .map z' keys' get' => z = z' ∧ keys = keys' ∧ ∀ k, SVle (get k) (get' k)
  | .sem S, .sem S' => S = S'
  | _, _ => False

def TbLe : List Blk → List Blk → Prop
  | _, [] => True
  | [], k :: r => isNilRow k ∧ TbLe [] r
  | k :: r, k' :: r' => BlkLe k k' ∧ TbLe r r'

def isRowAt (tb : List Blk) (i : Nat) : Bool :=
  match tb[i]? with
  | some (.row _ _ _ _ _) => true
  | _ => false

def LVle (n : Nat) (tb' : List Blk) : LV → LV → Prop
  | _, .any => True
  | .sv s, .sv s' => SVle s s'
  | .sv s, .own i => s = .val (.slice none 0 0) ∧ n ≤ i ∧ i < tb'.length
  | .ptr i o, .ptr i' o' => i = i' ∧ o = o' ∧ i < tb'.length
  | .own i, .own i' => i = i' ∧ i < tb'.length
  | .part i a b, .part i' a' b' => i = i' ∧ a = a' ∧ b = b' ∧ isRowAt tb' i = true
  | .rp i a b, .rp i' a' b' => i = i' ∧ a = a' ∧ b = b' ∧ isRowAt tb' i = true
  | .exact i, .exact i' => i = i' ∧ i < n ∧ i < tb'.length
  | .isv i v, .isv i' v' => i = i' ∧ v = v' ∧ i < n ∧ i < tb'.length
  | _, _ => False

def SlLe (n : Nat) (tb' : List Blk) (sl : List (Nat × LV)) : List (Nat × LV) → Prop
  | [] => True
  | (t, x) :: r => LVle n tb' (look sl t) x ∧ SlLe n tb' sl r

def Le (st st' : St) : Prop := TbLe st.tb st'.tb ∧ SlLe st.tb.length st'.tb st.sl st'.sl

/-! Regions whose order is drawn. -/

def drawVC (P : Program) : List SO → St → (St → Prop) → Prop
  | [], st, K => K st
  | o :: r, st, K => dstepVC P st o fun x => drawVC P r (st.put o.dst x) K

def keepSl (ks : List Nat) (sl : List (Nat × LV)) : List (Nat × LV) := ks.map fun t => (t, look sl t)

/-- A state that tells no more. -/
inductive Weak (st : St) : St → Prop where
  | refl : Weak st st
  | keep {st1 : St} (ks : List Nat) (h : Weak st st1) : Weak st { st1 with sl := keepSl ks st1.sl }
  | le {st1 st2 : St} (h : Weak st st1) (hle : Le st1 st2) : Weak st st2

theorem Weak.trans {a b c : St} (h : Weak a b) (k : Weak b c) : Weak a c := by
  induction k with
  | refl => exact h
  | keep ks _ ih => exact .keep ks ih
  | le _ hle ih => exact .le ih hle

/-- The operations that may come next, where those of a list are done. -/
def readyA (aft : List (List Nat)) (done : List Nat) : List Nat :=
  (List.range aft.length).filter fun j => !done.contains j && ((aft[j]?).getD []).all fun i => done.contains i

/-- An operation of such a region; its guard is known to hold. -/
def UVC (P : Program) (o : SO) (K : St → Prop) (st : St) : Prop :=
  match o.g with
  | none => GVC P o K st
  | some (s, b) => ∃ st1, Weak st st1 ∧ ∃ c, look st1.sl s = .sv (.bool c) ∧ c = b ∧ GVC P { o with g := none } K st1

/-- All orders, one after the other. -/
def allVC (P : Program) (l : List SO) (aft : List (List Nat)) : Nat → List Nat → St → (St → Prop) → Prop
  | 0, done, st, K => readyA aft done = [] ∧ K st
  | n + 1, done, st, K => (readyA aft done = [] → K st) ∧ ∀ j ∈ readyA aft done, ∀ o, l[j]? = some o → UVC P o (fun st' => ∃ st1, Weak st' st1 ∧ allVC P l aft n (j :: done) st1 K) st

def exec (P : Program) : SC → St → (Exit → St → Prop) → Prop
  | .skip, st, Q => Q .normal st
  | .ret, st, Q => Q .ret st
  | .exit id, st, Q => Q (.exit id) st
  | .ops false l, st, Q => stepsVC P l st fun st' => Q .normal { st' with sl := cleanSl st'.sl }
  | .ops true l, st, Q => drawVC P l st fun st' => Q .normal { st' with sl := cleanSl st'.sl }
  | .opsA h l aft, st, Q => stepsVC P (h.filterMap fun j => l[j]?) st fun st1 => ∃ st2, Weak st1 st2 ∧ allVC P l aft (l.length - h.length) h.reverse st2 fun st' => Q .normal { st' with sl := cleanSl st'.sl }
  | .opsD p l, st, Q => drawVC P (l.take p) st fun st1 => stepsVC P (l.drop p) st1 fun st' => Q .normal { st' with sl := cleanSl st'.sl }
  | .seq a b, st, Q => ∃ st1, Weak st st1 ∧ exec P a st1 fun e st' => match e with
    | .normal => ∃ st2, Weak st' st2 ∧ exec P b st2 Q
    | e => Q e st'
  | .cond c a b, st, Q => match ev st.sl c with
    | .sv (.bool t) => (t = true → ∃ st1, Weak st st1 ∧ exec P a st1 Q) ∧ (t = false → ∃ st1, Weak st st1 ∧ exec P b st1 Q)
    | _ => False
  | .block id b, st, Q => ∃ st1, Weak st st1 ∧ exec P b st1 fun e st' => match e with
    | .exit k => if k = id then Q .normal st' else Q (.exit k) st'
    | e => Q e st'
  | .loop b, st, Q => ∃ (ι : Type) (I : ι → St) (m : ι → Nat) (i0 : ι), Le st (I i0) ∧ ∀ i, ∃ st1, Weak (I i) st1 ∧ exec P b st1 fun e st' => match e with
    | .normal => ∃ i', m i' < m i ∧ Le st' (I i')
    | e => Q e st'
  | .raw c, st, Q => rawVC P c st Q

end Go.Sx

namespace Go.Sx
open Go Go.RowKit

def zeroOf (P : Program) (t : TypeId) : Option (List Value) :=
  match P.info? t with
  | some i => match i.zero with
    | some z => if z.cells.toList.all (fun v => v.oneCell') then some z.cells.toList else none
    | none => none
  | none => none

def sizeOf? (P : Program) (t : TypeId) : Option Nat :=
  match P.info? t with
  | some i => some i.size
  | none => none

def bytesOf? (P : Program) (t : TypeId) : Option Nat :=
  match P.info? t with
  | some i => some i.bytes
  | none => none

def fieldOf (P : Program) (s : TypeId) (f : Nat) : Option (Nat × TypeId) :=
  match P.underlying s with
  | some (.struct fs) => match fs[f]? with
    | some fd => some (fd.offset, fd.type)
    | none => none
  | _ => none

def elemOf? (P : Program) (t : TypeId) : Option TypeId :=
  match P.underlying t with
  | some (.slice e) => some e
  | _ => none

def isAgg? (P : Program) (t : TypeId) : Option Bool :=
  match P.underlying t with
  | some (.struct _) => some true
  | some (.array _ _) => some true
  | some _ => some false
  | none => none

def placeOf (P : Program) (t : TypeId) : Option (Nat → Option (Nat × Nat)) :=
  match P.underlying t with
  | some (.array _ e) => match P.info? e with
    | some ie => some fun i => some (i * ie.size, ie.size)
    | none => none
  | some (.struct fields) => match fields.toList.mapM (fun f => (P.info? f.type).map fun i => (f.offset, i.size)) with
    | some places => some (places.toArray[·]?)
    | none => none
  | _ => none

def partOf (place : Nat → Option (Nat × Nat)) (p : Nat × Operand) : Option (Nat × Nat × Operand) :=
  match place p.1 with
  | some (off, n) => some (off, n, p.2)
  | none => none

def isNilC : Value → Bool
  | .slice none 0 0 => true
  | _ => false

/-- The zero value of a type, if it is made of single cells. -/
def zeroV (P : Program) (t : TypeId) : Option Value :=
  match P.info? t with
  | some i => match i.zero with
    | some z => if z.cells.toList.all (fun v => v.oneCell') then some z else none
    | none => none
  | none => none

/-- The zero value of the elements of a map whose keys are numbers. -/
def mapOf (P : Program) (t : TypeId) : Option Value :=
  match P.underlying t with
  | some (.map k e) => match P.underlying k with
    | some (.int .i64) => zeroV P e
    | _ => none
  | _ => none

def isInt? (P : Program) (t : TypeId) : Bool :=
  match P.underlying t with
  | some (.int _) => true
  | _ => false

/-- A function whose body is not there. -/
def noBody (P : Program) (f : FuncId) : Bool :=
  match P.funcs[f]? with
  | some fn => fn.body.isNone
  | none => false

def slimO (P : Program) : Op → Option SOp
  | .move x => some (.mov x)
  | .assign x => some (.mov x)
  | .pick (.tmp c) a b => some (.pick c a b)
  | .load t x => match isAgg? P t, sizeOf? P t with
    | some true, some n => some (.loadN n x)
    | some false, some _ => some (.load1 x)
    | _, _ => none
  | .fieldAddr s x f => match fieldOf P s f with
    | some (off, t) => match sizeOf? P t with
      | some (_ + 1) => some (.fld off x)
      | _ => none
    | none => none
  | .indexAddr t x i => match P.underlying t with
    | some (.slice e) => match sizeOf? P e with
      | some n => some (.idx n x i)
      | none => none
    | some (.array len e) => match sizeOf? P e with
      | some n => some (.idxA len n x i)
      | none => none
    | _ => none
  | .binOp op t x y _ => match P.underlying t with
    | some (.int _) => some (.bin op x y)
    | some .bool => some (.binB op x y)
    | some (.struct _) => match op with
      | .eql => some (.binA false t x y)
      | .neq => some (.binA true t x y)
      | _ => none
    | some (.array _ _) => match op with
      | .eql => some (.binA false t x y)
      | .neq => some (.binA true t x y)
      | _ => none
    | some (.slice _) => match y with
      | .const v => if isNilC v then match op with
        | .eql => some (.isnil false x)
        | .neq => some (.isnil true x)
        | _ => none
        else none
      | _ => none
    | _ => none
  | .unOp op _ x => some (.un op x)
  | .convert s d x => match P.underlying s, P.underlying d with
    | some (.int _), some (.int k) => some (.conv k x)
    | _, _ => none
  | .extract x i => some (.ext x i)
  | .field s x f => match fieldOf P s f with
    | some (off, t) => match isAgg? P t, sizeOf? P t with
      | some true, some n => some (.fval off (some n) x)
      | some false, some _ => some (.fval off none x)
      | _, _ => none
    | none => none
  | .makeFunc (.func f) ⟨[]⟩ caps => some (.mkfn f caps.toList)
  | .build t parts => match placeOf P t, zeroOf P t with
    | some place, some z => match optList (parts.toList.map (partOf place)) with
      | some ps => some (.build z ps)
      | none => none
    | _, _ => none
  | .slice t x lo hi none => match elemOf? P t with
    | some e => match sizeOf? P e with
      | some n => some (.slice n x lo hi)
      | none => none
    | none => none
  | .slice t x lo hi (some m) => match elemOf? P t with
    | some e => match sizeOf? P e with
      | some n => some (.slice3 n x lo hi m)
      | none => none
    | none => none
  | .box t x => some (.box t x)
  | .alloc t => match zeroOf P t with
    | some z => some (.alloc t z)
    | none => none
  | .store t x v => match sizeOf? P t with
    | some n => some (.store n x v)
    | none => none
  | .buildSlice t len parts => match elemOf? P t with
    | some e => match sizeOf? P e, zeroOf P e with
      | some n, some z => if len * n ≤ 16777216 ∧ z.length = n ∧ 0 < n then some (.buildS e n len z parts.toList) else none
      | _, _ => none
    | none => none
  | .makeSlice t n c => match elemOf? P t with
    | some e => match sizeOf? P e, bytesOf? P e, zeroOf P e with
      | some sz, some by', some z => if z.length = sz then some (.makeS e sz by' z n c) else none
      | _, _, _ => none
    | none => none
  | .call ⟨.builtin .len, ⟨[x]⟩, ⟨[t]⟩⟩ => match elemOf? P t with
    | some _ => some (.len x)
    | none => none
  | .call ⟨.builtin .cap, ⟨[x]⟩, ⟨[t]⟩⟩ => match elemOf? P t with
    | some _ => some (.cap x)
    | none => none
  | .call ⟨.builtin .copy, ⟨[x, y]⟩, ⟨[t, _]⟩⟩ => match elemOf? P t with
    | some e => match sizeOf? P e with
      | some (sz + 1) => some (.copy (sz + 1) x y)
      | _ => none
    | none => none
  | .makeMap t none => match mapOf P t with
    | some z => some (.makeM z)
    | none => none
  | .lookup t x k ok => match mapOf P t with
    | some z => some (.lookup z ok x k)
    | none => none
  | .mapUpdate t x k v => match mapOf P t with
    | some _ => some (.mapUp x k v)
    | none => none
  | .call ⟨.builtin .clear, ⟨[x]⟩, ⟨[t]⟩⟩ => match elemOf? P t with
    | some e => match sizeOf? P e, zeroOf P e with
      | some sz, some z => if z.length = sz then some (.clear e sz z x) else none
      | _, _ => none
    | none => none
  | .call ⟨.builtin .min, ⟨[x, y]⟩, _⟩ => some (.mm false x y)
  | .call ⟨.builtin .max, ⟨[x, y]⟩, _⟩ => some (.mm true x y)
  | .call ⟨.builtin .append, ⟨[x, y]⟩, ⟨[t, u]⟩⟩ => match elemOf? P t with
    | some e => match sizeOf? P e, bytesOf? P e, zeroOf P e with
      | some (sz + 1), some by', some z => if z.length = sz + 1 ∧ t = u then some (.app e (sz + 1) by' z x y) else if z.length = sz + 1 ∧ isInt? P u = true then some (.appZ e (sz + 1) by' z x y) else none
      | _, _, _ => none
    | none => none
  | .call ⟨.value (.func f), xs, ⟨ts⟩⟩ => if noBody P f then match xs, ts with
      | ⟨[x, y]⟩, [t, _] => some (.ovl f t x y)
      | _, _ => none
    else some (.call f xs.toList)
  | .call ⟨.value (.tmp t), xs, _⟩ => some (.callv (.tmp t) xs.toList)
  | _ => none

def slimG (ops : Array Oper) : Option (Nat × Bool) → Option (Option (Nat × Bool))
  | none => some none
  | some (j, b) => match ops[j]? with
    | some o => match o.dst with
      | some s => some (some (s, b))
      | none => none
    | none => none

def dsts : List SO → List Nat
  | [] => []
  | o :: r => match o.dst with
    | some d => d :: dsts r
    | none => dsts r

/-- No guard's slot is written at the guarded operation or behind it. -/
def gOK : List SO → Bool
  | [] => true
  | o :: r => (match o.g with
    | some (s, _) => !(dsts (o :: r)).contains s
    | none => true) && gOK r

def opdsOf : SOp → List Operand
  | .mov x => [x]
  | .pick c a b => [.tmp c, a, b]
  | .load1 x => [x]
  | .loadN _ x => [x]
  | .fld _ x => [x]
  | .idx _ x i => [x, i]
  | .idxA _ _ x i => [x, i]
  | .bin _ x y => [x, y]
  | .binB _ x y => [x, y]
  | .binA _ _ x y => [x, y]
  | .un _ x => [x]
  | .conv _ x => [x]
  | .ext x _ => [x]
  | .fval _ _ x => [x]
  | .len x => [x]
  | .mm _ x y => [x, y]
  | .mkfn _ caps => caps
  | .build _ ps => ps.map fun p => p.2.2
  | .slice _ x lo hi => x :: (lo.toList ++ hi.toList)
  | .slice3 _ x lo hi m => x :: m :: (lo.toList ++ hi.toList)
  | .clear _ _ _ x => [x]
  | .box _ x => [x]
  | .alloc _ _ => []
  | .store _ x v => [x, v]
  | .buildS _ _ _ _ ps => ps.map fun p => p.2
  | .app _ _ _ _ x y => [x, y]
  | .makeS _ _ _ _ x y => [x, y]
  | .isnil _ x => [x]
  | .makeM _ => []
  | .lookup _ _ x k => [x, k]
  | .mapUp x k v => [x, k, v]
  | .cap x => [x]
  | .copy _ x y => [x, y]
  | .appZ _ _ _ _ x n => [x, n]
  | .ovl f _ x y => [x, y, .func f]
  | .bad _ xs => xs
  | .call _ xs => xs
  | .callv x xs => x :: xs

def tmpsIn : List Operand → List Nat
  | [] => []
  | .tmp t :: r => t :: tmpsIn r
  | _ :: r => tmpsIn r

def tmpsOf (o : SO) : List Nat :=
  match o.g with
  | some (s, _) => s :: tmpsIn (opdsOf o.op)
  | none => tmpsIn (opdsOf o.op)

def waits (ops : Array Oper) (j i : Nat) : Bool :=
  match ops[j]? with
  | some o => o.after.toList.any fun e => Region.binds .any e && e.on == i
  | none => false

/-- The order of a region's operations is free as far as their slots go. -/
def drawOK (ops : Array Oper) (l : List SO) : Bool :=
  (List.range l.length).all fun j => match l[j]? with
    | none => true
    | some o =>
      (match ops[j]? with
        | some p => p.after.toList.all fun e => !Region.binds .any e || e.on < j
        | none => true) &&
      ((tmpsOf o).all fun t => (List.range l.length).all fun i => i == j || match l[i]? with
        | some p => p.dst != some t || (if i < j then waits ops j i else waits ops i j)
        | none => true) &&
      (match o.g with
        | none => true
        | some (s, _) => (List.range j).any fun i => match l[i]? with
          | some p => p.dst == some s
          | none => false) &&
      (match o.dst with
        | none => true
        | some d => (List.range l.length).all fun i => i == j || match l[i]? with
          | some p => p.dst != some d
          | none => true)

def dstOK (N : Nat) : Option Nat → Bool
  | some d => decide (d < N)
  | none => true

def slimOper (P : Program) (N : Nat) (ops : Array Oper) (o : Oper) : Option SO :=
  match slimG ops o.guard with
  | some g => if dstOK N o.dst then some ⟨o.dst, (slimO P o.op).getD (.bad o.op ((tmpsIn o.op.operands.toList).map .tmp)), g⟩ else none
  | none => none

/-- Operations whose place in an order matters; `hv`: the functions that count among them. -/
def isHeavy (hv : List Nat) : SOp → Bool
  | .call f _ => hv.contains f
  | .box _ _ => true
  | .alloc _ _ => true
  | .store _ _ _ => true
  | .app _ _ _ _ _ _ => true
  | .makeS _ _ _ _ _ _ => true
  | .clear _ _ _ _ => true
  | .makeM _ => true
  | .mapUp _ _ _ => true
  | .cap _ => true
  | .copy _ _ _ => true
  | .appZ _ _ _ _ _ _ => true
  | .bad _ _ => true
  | .callv _ _ => hv.contains 1000000
  | _ => false

def noG (l : List SO) : Bool := l.all fun o => o.g.isNone

def aftOf (ops : Array Oper) : List (List Nat) := ops.toList.map fun o => (o.after.toList.filter (Region.binds .any)).map (·.on)

/-! Copies that can be made ahead of all else. -/

def isCopy (o : Oper) : Bool :=
  o.guard.isNone && match o.op with
    | .move _ => true
    | .assign _ => true
    | _ => false

/-- Operations that read their operands alone. -/
def freeO (P : Program) : Op → Bool
  | .binOp .quo t _ _ _ => match P.underlying t with
    | some (.int _) => true
    | _ => false
  | .slice _ _ _ _ none => true
  | .call ⟨.builtin .len, ⟨[_]⟩, ⟨[_]⟩⟩ => true
  | _ => false

def isFree (P : Program) (fl : Bool) (o : Oper) : Bool := isCopy o || (fl && (o.guard.isNone && (freeO P o.op && (slimO P o.op).isSome)))

def canHoist (P : Program) (fl : Bool) (ops : Array Oper) (listed : Array Bool) (i : Nat) : Bool :=
  (match ops[i]? with
    | some o => isFree P fl o
    | none => false) && Region.free .any ops listed i && (Region.ready .any ops listed).contains i

def hoistOK (P : Program) (fl : Bool) (ops : Array Oper) : Array Bool → List Nat → Bool
  | _, [] => true
  | listed, i :: r => canHoist P fl ops listed i && hoistOK P fl ops (listed.setIfInBounds i true) r

/-- The copies, one after the other. -/
def hoists (P : Program) (fl : Bool) (ops : Array Oper) (listed : Array Bool) : List Nat → List Nat
  | [] => []
  | i :: r => if canHoist P fl ops listed i then i :: hoists P fl ops (listed.setIfInBounds i true) r else hoists P fl ops listed r

def hoistsOf (P : Program) (fl : Bool) (ops : Array Oper) : List Nat :=
  if Region.noSelect ops && hoistOK P fl ops (Array.replicate ops.size false) (hoists P fl ops (Array.replicate ops.size false) (List.range ops.size)) then hoists P fl ops (Array.replicate ops.size false) (List.range ops.size) else []

/-! Regions of which the last operations have one order alone. -/

def direct (ops : Array Oper) (j : Nat) : List Nat :=
  match ops[j]? with
  | some o => (o.after.toList.filter (Region.binds .any)).map (·.on)
  | none => []

def addNew (acc : List Nat) : List Nat → List Nat
  | [] => acc
  | x :: r => addNew (if acc.contains x then acc else x :: acc) r

def clos (ops : Array Oper) : Nat → List Nat → List Nat
  | 0, s => s
  | n + 1, s => clos ops n (addNew s (s.flatMap (direct ops)))

def tailOK (ops : Array Oper) (p : Nat) : Bool :=
  (List.range ops.size).all fun j => decide (j < p) || ((direct ops j).all (fun i => decide (i < j)) && (List.range j).all fun i => (clos ops 4 (direct ops j)).contains i)

def uniqDst (l : List SO) : Bool :=
  (List.range l.length).all fun j => match l[j]? with
    | none => true
    | some o => match o.dst with
      | none => true
      | some d => (List.range l.length).all fun i => i == j || match l[i]? with
        | some p => p.dst != some d
        | none => true

def firstHeavy (hv : List Nat) : List SO → Nat
  | [] => 0
  | o :: r => if isHeavy hv o.op then 0 else firstHeavy hv r + 1

def preOK (hv : List Nat) (ops : Array Oper) (l : List SO) : Bool :=
  decide (firstHeavy hv l ≤ ops.size) && noG (l.drop (firstHeavy hv l)) && drawOK ops (l.take (firstHeavy hv l)) && tailOK ops (firstHeavy hv l) && uniqDst l

/-- The functions that count as heavy in a region: those of the second list, where the region appends or calls one of the first list. -/
def eff (hv : List Nat × List Nat) (l : List SO) : List Nat :=
  if l.any fun o => match o.op with
    | .call f _ => hv.1.contains f
    | .callv _ _ => hv.1.contains 1000000
    | .app _ _ _ _ _ _ => true
    | _ => false
  then hv.2 else []

def slim (P : Program) (hv : List Nat × List Nat) (N : Nat) : Code → Option SC
  | .skip => some .skip
  | .ret => some .ret
  | .exit id => some (.exit id)
  | .region _ ops draw => match optList (ops.toList.map (slimOper P N ops)) with
    | some l => if draw && (l.any fun o => isHeavy (eff hv l) o.op) && preOK (eff hv l) ops l then some (.opsD (firstHeavy (eff hv l) l) l) else if draw && (l.any fun o => isHeavy (eff hv l) o.op) && (noG l || hv.1.contains 1000001) then some (.opsA (hoistsOf P (hv.1.contains 1000000) ops) l (aftOf ops)) else if gOK l && (!draw || drawOK ops l) then some (.ops draw l) else none
    | none => none
  | .seq a b => match slim P hv N a, slim P hv N b with
    | some a, some b => some (.seq a b)
    | _, _ => none
  | .cond c a b => match slim P hv N a, slim P hv N b with
    | some a, some b => some (.cond c a b)
    | _, _ => none
  | .block id b => match slim P hv N b with
    | some b => some (.block id b)
    | none => none
  | .loop b => match slim P hv N b with
    | some b => some (.loop b)
    | none => none
  | c => some (.raw c)

end Go.Sx

namespace Go.Sx
open Go Go.RowKit

theorem Den.mono {w w' : World} {M M' : Nat → Prop} {s : SV} {v : Value} (h : Den w M s v) (hs : w.heap.size ≤ w'.heap.size)
    (hM : ∀ b, b < w.heap.size → M' b → M b) (hc : ∀ (a : Addr) u, a.block < w.heap.size → ¬ M a.block → w.cell? a = some u → w'.cell? a = some u) : Den w' M' s v := by
  induction h with
  | int k n => exact .int k n
  | bool b => exact .bool b
  | val v => exact .val v
  | agg cs vs hl h1 _ ih => exact .agg cs vs hl h1 ih
  | tup cs vs hl _ ih => exact .tup cs vs hl ih
  | ref cs off b o val hM1 hb h1 hcell _ ih =>
    exact .ref cs off b o val (fun h => hM1 (hM b hb h)) (Nat.lt_of_lt_of_le hb hs) h1 (fun i s hi => hc ⟨b, o + i, none⟩ _ hb hM1 (hcell i s hi)) ih
  | lst sz n get A c b o val hc1 hm hA hM1 hb hz h1 hcell _ ih =>
    refine .lst sz n get A c b o val hc1 hm hA (fun h0 h => hM1 h0 (hM b (hb h0) h)) (fun h0 => Nat.lt_of_lt_of_le (hb h0) hs) hz h1 (fun i j s hi hj => ?_) ih
    have h0 : 0 < n := by omega
    exact hc ⟨b, o + (i * sz + j), none⟩ _ (hb h0) (hM1 h0) (hcell i j s hi hj)
  | fn f cs vs hl _ ih => exact .fn f cs vs hl ih

theorem Den.kept {w w' : World} {M : Nat → Prop} {s : SV} {v : Value} (h : Den w M s v) (hb : Below w.heap.size w w') : Den w' M s v :=
  h.mono hb.size (fun _ _ h => h) (fun a u ha _ hc => by rw [hb.cell ha]; exact hc)

theorem Den.less {w : World} {M M' : Nat → Prop} {s : SV} {v : Value} (h : Den w M s v) (hM : ∀ b, b < w.heap.size → M' b → M b) : Den w M' s v :=
  h.mono (Nat.le_refl _) hM (fun _ _ _ _ h => h)

theorem Ext.refl (M : Nat → Prop) (w : World) : Ext M w w := ⟨rfl, rfl, rfl, Nat.le_refl _, fun _ _ _ => rfl⟩
theorem Ext.trans_below {M : Nat → Prop} {a b c : World} (h : Ext M a b) (k : Below b.heap.size b c) : Ext M a c :=
  ⟨k.os.trans h.os, k.tape.trans h.tape, k.output.trans h.output, Nat.le_trans h.size k.size, fun i hi hn => (k.block i (Nat.lt_of_lt_of_le hi h.size)).trans (h.block i hi hn)⟩
theorem Ext.below {a b : World} (h : Ext (fun _ => False) a b) : Below a.heap.size a b := ⟨h.os, h.tape, h.output, h.size, fun k hk => h.block k hk (fun x => x)⟩
theorem Base.own_new {B : Base} {M : Nat → Prop} {w : World} (h : Ext M B.w w) {b : Nat} (hb : w.heap.size ≤ b) : B.own b := .inl (Nat.le_trans h.size hb)

theorem Ext.of_below {M : Nat → Prop} {w w' : World} (h : Below w.heap.size w w') : Ext M w w' := ⟨h.os, h.tape, h.output, h.size, fun k hk _ => h.block k hk⟩

theorem Den.ext {w w' : World} {M M' : Nat → Prop} {s : SV} {v : Value} (h : Den w M s v) (he : Ext M w w') (hM : ∀ b, b < w.heap.size → M' b → M b) : Den w' M' s v :=
  h.mono he.size hM (fun a u ha hn hc => by rw [World.cell?_of_block (w := w) (he.block a.block ha hn)]; exact hc)

theorem noMem_den_list {w w' : World} {M M' : Nat → Prop} (l : List SV) (ih : ∀ s ∈ l, noMem s = true → ∀ v, Den w M s v → Den w' M' s v) (h : noMem.noMems l = true) :
    ∀ (i : Nat) s v, l[i]? = some s → Den w M s v → Den w' M' s v := by
  induction l with
  | nil => intro i s v hi; simp at hi
  | cons x r ihr =>
    intro i s v hi hd
    simp only [noMem.noMems, Bool.and_eq_true] at h
    cases i with
    | zero => simp at hi; subst hi; exact ih x (by simp) h.1 v hd
    | succ i => exact ihr (fun s hs => ih s (by simp [hs])) h.2 i s v (by simpa using hi) hd

theorem noMem_den {w w' : World} {M M' : Nat → Prop} : ∀ (s : SV), noMem s = true → ∀ v, Den w M s v → Den w' M' s v
  | .int k n, _, v, h => by cases h; exact .int k n
  | .bool b, _, v, h => by cases h; exact .bool b
  | .val u, _, v, h => by cases h; exact .val u
  | .tup l, hn, v, h => by
    cases h with
    | tup _ vs hl hh =>
      simp only [noMem] at hn
      exact .tup l vs hl fun i s v hi hv => noMem_den_list l (fun s hs hns v hd => noMem_den s hns v hd) hn i s v hi (hh i s v hi hv)
  | .agg l, hn, v, h => by
    cases h with
    | agg _ vs hl h1 hh =>
      simp only [noMem] at hn
      exact .agg l vs hl h1 fun i s v hi hv => noMem_den_list l (fun s hs hns v hd => noMem_den s hns v hd) hn i s v hi (hh i s v hi hv)
  | .ref .., hn, _, _ => by simp [noMem] at hn
  | .lst .., hn, _, _ => by simp [noMem] at hn
  | .fn .., hn, _, _ => by simp [noMem] at hn

/-! Blocks under a change of the world. -/

theorem AllOne.xs {w : World} {base : Nat} {e : TypeId} {sz n : Nat} {v : Value} {xs : List Value} (h : AllOne w v) (ho : w.ownsRow base e sz v n xs) : ∀ u ∈ xs, u.oneCell' = true := by
  obtain ⟨hl, ho⟩ := ho
  rcases ho with ⟨rfl, rfl⟩ | ⟨g, cap, cur, rfl, hg, hh, hnc, hcm, hcur, htake⟩
  · have hx : xs = [] := List.eq_nil_of_length_eq_zero (by simpa using hl)
    subst hx
    intro u hu
    simp at hu
  · intro u hu
    rw [← htake] at hu
    exact h g cur e (0, 0) rfl hh u (List.mem_of_mem_take hu)

theorem AllOne.nil {w : World} : AllOne w (.slice none 0 0) := fun g _ _ _ h => by cases h
theorem AllOne.of_heap {w : World} {v : Value} {g : Nat} {cur : Array Value} {t : TypeId} {fr : Nat × Nat} (hv : blkNo v = some g) (hh : w.heap[g]? = some (.cells cur t fr)) (h : ∀ u ∈ cur.toList, u.oneCell' = true) : AllOne w v := by
  intro g' cur' t' fr' hg' hh' u hu
  rw [hv] at hg'
  injection hg' with hg'
  subst hg'
  rw [hh] at hh'
  simp only [Option.some.injEq, Obj.cells.injEq] at hh'
  exact h u (hh'.1 ▸ hu)

theorem BlkOK.ext {w w' : World} {M M' : Nat → Prop} {base : Nat} {k : Blk} {v : Value} (h : BlkOK w M base k v) (he : Ext M w w') (hM : ∀ b, b < w.heap.size → M' b → M b)
    (hb : ∀ b, blkNo v = some b → w'.heap[b]? = w.heap[b]?) : BlkOK w' M' base k v := by
  cases k with
  | cells t mu cs =>
    obtain ⟨b, vs, rfl, h0, hh, hl, h1, hd⟩ := h
    exact ⟨b, vs, rfl, h0, (hb b rfl).trans hh, hl, h1, fun i s u hi hu => (hd i s u hi hu).ext he hM⟩
  | row t sz n mu get =>
    obtain ⟨xs, ho, hz, h1, hd⟩ := h
    refine ⟨xs, ?_, hz, fun g cur t' fr hg hh => h1 g cur t' fr hg ((hb g hg).symm.trans hh), fun i j s u hi hj hu => (hd i j s u hi hj hu).ext he hM⟩
    obtain ⟨hl, ho⟩ := ho
    refine ⟨hl, ?_⟩
    rcases ho with ho | ⟨g, cap, cur, rfl, hg, hh, r⟩
    · exact .inl ho
    · exact .inr ⟨g, cap, cur, rfl, hg, (hb g rfl).trans hh, r⟩
  | map z keys get =>
    obtain ⟨b, es, clock, rfl, hh, h1, h2, h3, h4, h5, h6⟩ := h
    exact ⟨b, es, clock, rfl, (hb b rfl).trans hh, h1, h2, h3, h4, fun i k e hk he' => (h5 i k e hk he').ext he hM, fun k hk => (h6 k hk).ext he hM⟩
  | dead => trivial
  | sem S => exact S.ext _ _ _ _ _ h he hM hb

/-- Whatever leaves all blocks that were there alone keeps the invariant. -/
theorem Inv.keep {w0 : Base} {M0 : Nat → Prop} {L : Nat → Value} {tb : List Blk} {w w' : World} (h : Inv w0 M0 L tb w) (hb : Below w.heap.size w w') : Inv w0 M0 L tb w' where
  below := h.below.trans_below hb
  ok i k hi := (h.ok i k hi).ext (.of_below hb) (fun _ _ h => h) (fun b hbn => hb.block b (by
    have hl : i < tb.length := (List.getElem?_eq_some_iff.1 hi).1
    exact (h.low i b hl hbn).2))
  apart := h.apart
  low i b hi hbn := ⟨(h.low i b hi hbn).1, Nat.lt_of_lt_of_le (h.low i b hi hbn).2 hb.size⟩

theorem LDen.keep {G : Nat → Option Bool} {w w' : World} {M : Nat → Prop} {L : Nat → Value} {tb : List Blk} (hb : Below w.heap.size w w') : ∀ (x : LV) (v : Value), LDen G w M L tb x v → LDen G w' M L tb x v
  | .any, _, _ => trivial
  | .sv _, _, h => Den.kept h hb
  | .ptr .., _, h => h
  | .rp .., _, h => h
  | .own .., _, h => h
  | .part .., _, h => h
  | .exact .., _, h => h
  | .isv .., _, h => h
  | .opt _ _ x, v, h => ⟨fun hg => LDen.keep hb x v (h.1 hg), h.2⟩

/-- A change of the table, of the handles and of the world that keeps what a slot says. -/
theorem LDen.turn {G : Nat → Option Bool} {w w' : World} {M M' : Nat → Prop} {L L' : Nat → Value} {tb tb' : List Blk} (hd : ∀ s v, Den w M s v → Den w' M' s v)
    (hL : ∀ i, i < tb.length → L' i = L i) (hlen : tb.length ≤ tb'.length)
    (hrow : ∀ (i : Nat) t sz n mu get, tb[i]? = some (.row t sz n mu get) → ∃ t' mu' get', tb'[i]? = some (.row t' sz n mu' get')) :
    ∀ (x : LV) (v : Value), LDen G w M L tb x v → LDen G w' M' L' tb' x v
  | .any, _, _ => trivial
  | .sv _, _, h => hd _ _ h
  | .ptr i _, _, ⟨hi, b, hl, hv⟩ => ⟨Nat.lt_of_lt_of_le hi hlen, b, (hL i hi).trans hl, hv⟩
  | .rp i k off, _, ⟨b, n, c, t, sz, mu, get, ht, hl, hk, hv⟩ => by
    obtain ⟨t', mu', get', h'⟩ := hrow i t sz n mu get ht
    have hi : i < tb.length := (List.getElem?_eq_some_iff.1 ht).1
    exact ⟨b, n, c, t', sz, mu', get', h', (hL i hi).trans hl, hk, hv⟩
  | .own i, _, ⟨hi, hv⟩ => ⟨Nat.lt_of_lt_of_le hi hlen, hv.trans (hL i hi).symm⟩
  | .part i lo hi, _, ⟨n, t, sz, mu, get, ht, h1, h2, h3⟩ => by
    obtain ⟨t', mu', get', h'⟩ := hrow i t sz n mu get ht
    have hi : i < tb.length := (List.getElem?_eq_some_iff.1 ht).1
    refine ⟨n, t', sz, mu', get', h', h1, h2, ?_⟩
    rw [hL i hi]
    exact h3
  | .exact i, _, ⟨hi, A, n, h⟩ => ⟨Nat.lt_of_lt_of_le hi hlen, A, n, (hL i hi).trans h⟩
  | .isv i v, _, ⟨hi, h⟩ => ⟨Nat.lt_of_lt_of_le hi hlen, (hL i hi).trans h⟩
  | .opt _ _ x, v, h => ⟨fun hg => LDen.turn hd hL hlen hrow x v (h.1 hg), h.2⟩

end Go.Sx

namespace Go.Sx
open Go Go.RowKit

def upd (L : Nat → Value) (i : Nat) (v : Value) (j : Nat) : Value := if j = i then v else L j

theorem upd_same (L : Nat → Value) (i : Nat) (v : Value) : upd L i v i = v := by simp [upd]
theorem upd_other (L : Nat → Value) (i j : Nat) (v : Value) (h : j ≠ i) : upd L i v j = L j := by simp [upd, h]

section
variable {w0 : Base} {M0 : Nat → Prop} {L : Nat → Value} {tb : List Blk} {w w' : World}

theorem mset_push {k : Blk} {v : Value} (hf : ∀ b, blkNo v = some b → w.heap.size ≤ b) : ∀ b, b < w.heap.size → mset M0 (tb ++ [k]) (upd L tb.length v) b → mset M0 tb L b := by
  intro b hb h
  rcases h with h | ⟨i, k', hi, hk, hn⟩
  · exact .inl h
  · rw [List.getElem?_append] at hi
    split at hi
    · rename_i hlt
      rw [upd_other _ _ _ _ (by omega)] at hn
      exact .inr ⟨i, k', hi, hk, hn⟩
    · rename_i hge
      have : i = tb.length := by
        have := (List.getElem?_eq_some_iff.1 hi).1
        simp at this; omega
      subst this
      rw [upd_same] at hn
      have := hf b hn
      omega

/-- A new block of the call's own. -/
theorem Inv.push (h : Inv w0 M0 L tb w) (hb : Below w.heap.size w w') {k : Blk} {v : Value} (hf : ∀ b, blkNo v = some b → w.heap.size ≤ b ∧ b < w'.heap.size)
    (hk : BlkOK w' (mset M0 (tb ++ [k]) (upd L tb.length v)) 0 k v) : Inv w0 M0 (upd L tb.length v) (tb ++ [k]) w' where
  below := h.below.trans_below hb
  ok i k' hi := by
    rw [List.getElem?_append] at hi
    split at hi
    · rename_i hlt
      rw [upd_other _ _ _ _ (by omega)]
      exact (h.ok i k' hi).ext (.of_below hb) (mset_push fun b hbn => (hf b hbn).1) (fun b hbn => hb.block b (h.low i b hlt hbn).2)
    · rename_i hge
      have hi' := hi
      have : i = tb.length := by
        have := (List.getElem?_eq_some_iff.1 hi).1
        simp at this; omega
      subst this
      simp at hi'
      subst hi'
      rw [upd_same]
      exact hk
  apart i j b hi hj hbi hbj := by
    simp at hi hj
    have key : ∀ i, i < tb.length → blkNo (L i) = some b → blkNo v = some b → False := fun i hi h1 h2 => by
      have := (h.low i b hi h1).2
      have := (hf b h2).1
      omega
    by_cases e1 : i = tb.length <;> by_cases e2 : j = tb.length
    · omega
    · subst e1; rw [upd_same] at hbi; rw [upd_other _ _ _ _ e2] at hbj; exact (key j (by omega) hbj hbi).elim
    · subst e2; rw [upd_same] at hbj; rw [upd_other _ _ _ _ e1] at hbi; exact (key i (by omega) hbi hbj).elim
    · rw [upd_other _ _ _ _ e1] at hbi; rw [upd_other _ _ _ _ e2] at hbj; exact h.apart i j b (by omega) (by omega) hbi hbj
  low i b hi hbi := by
    simp at hi
    by_cases e1 : i = tb.length
    · subst e1; rw [upd_same] at hbi; exact ⟨Base.own_new h.below (hf b hbi).1, (hf b hbi).2⟩
    · rw [upd_other _ _ _ _ e1] at hbi
      have := h.low i b (by omega) hbi
      exact ⟨this.1, Nat.lt_of_lt_of_le this.2 hb.size⟩

theorem mset_set {i : Nat} {k k' : Blk} {v : Value} (hi : tb[i]? = some k) (hm : k.mut = true) (hf : ∀ b, blkNo v = some b → blkNo (L i) = some b ∨ w.heap.size ≤ b) :
    ∀ b, b < w.heap.size → mset M0 (tb.set i k') (upd L i v) b → mset M0 tb L b := by
  intro b hb h
  rcases h with h | ⟨j, k'', hj, hk, hn⟩
  · exact .inl h
  · by_cases e : j = i
    · subst e
      rw [upd_same] at hn
      rcases hf b hn with h1 | h1
      · exact .inr ⟨j, k, hi, hm, h1⟩
      · omega
    · rw [upd_other _ _ _ _ e] at hn
      rw [List.getElem?_set_ne (by omega)] at hj
      exact .inr ⟨j, k'', hj, hk, hn⟩

/-- A block of the call's own that may be written turns. -/
theorem Inv.set (h : Inv w0 M0 L tb w) {i : Nat} {k k' : Blk} {v : Value} (hi : tb[i]? = some k) (hm : k.mut = true) (hg : w.grownBy w' (blkNo (L i)))
    (hf : ∀ b, blkNo v = some b → (blkNo (L i) = some b ∨ w.heap.size ≤ b) ∧ b < w'.heap.size)
    (hk : BlkOK w' (mset M0 (tb.set i k') (upd L i v)) 0 k' v) : Inv w0 M0 (upd L i v) (tb.set i k') w' ∧ Ext (mset M0 tb L) w w' := by
  have hlt : i < tb.length := (List.getElem?_eq_some_iff.1 hi).1
  have hex : Ext (mset M0 tb L) w w' := ⟨hg.os, hg.tape, hg.output, hg.size, fun b hb hn => hg.block b hb (fun e => hn (.inr ⟨i, k, hi, hm, e.symm⟩))⟩
  refine ⟨{ below := ?_, ok := ?_, apart := ?_, low := ?_ }, hex⟩
  · refine ⟨hg.os.trans h.below.os, hg.tape.trans h.below.tape, hg.output.trans h.below.output, Nat.le_trans h.below.size hg.size, fun b hb hX => (hg.block b (Nat.lt_of_lt_of_le hb h.below.size) (fun e => ?_)).trans (h.below.block b hb hX)⟩
    rcases (h.low i b hlt e.symm).1 with h1 | h1
    · omega
    · exact hX h1
  · intro j k'' hj
    by_cases e : j = i
    · subst e
      rw [List.getElem?_set_self hlt] at hj
      injection hj with hj
      subst hj
      rw [upd_same]
      exact hk
    · rw [List.getElem?_set_ne (by omega)] at hj
      rw [upd_other _ _ _ _ e]
      have hjl : j < tb.length := (List.getElem?_eq_some_iff.1 hj).1
      refine (h.ok j k'' hj).ext hex (mset_set hi hm fun b hb => (hf b hb).1) (fun b hbn => hg.block b (h.low j b hjl hbn).2 (fun e' => ?_))
      exact e (h.apart j i b hjl hlt hbn e'.symm)
  · intro a b c ha hb hca hcb
    simp at ha hb
    have key : ∀ j, j < tb.length → j ≠ i → blkNo (L j) = some c → blkNo v = some c → False := fun j hj hne h1 h2 => by
      rcases (hf c h2).1 with h3 | h3
      · exact hne (h.apart j i c hj hlt h1 h3)
      · have := (h.low j c hj h1).2; omega
    by_cases e1 : a = i <;> by_cases e2 : b = i
    · omega
    · subst e1; rw [upd_same] at hca; rw [upd_other _ _ _ _ e2] at hcb; exact (key b hb e2 hcb hca).elim
    · subst e2; rw [upd_same] at hcb; rw [upd_other _ _ _ _ e1] at hca; exact (key a ha e1 hca hcb).elim
    · rw [upd_other _ _ _ _ e1] at hca; rw [upd_other _ _ _ _ e2] at hcb; exact h.apart a b c ha hb hca hcb
  · intro j b hj hb
    simp at hj
    by_cases e : j = i
    · subst e
      rw [upd_same] at hb
      refine ⟨?_, (hf b hb).2⟩
      rcases (hf b hb).1 with h1 | h1
      · exact (h.low j b hj h1).1
      · exact Base.own_new h.below h1
    · rw [upd_other _ _ _ _ e] at hb
      have := h.low j b hj hb
      exact ⟨this.1, Nat.lt_of_lt_of_le this.2 hg.size⟩

/-! Freezing. -/

theorem mset_frzAt (i : Nat) : ∀ b, mset M0 (frzAt tb i) L b → mset M0 tb L b := by
  intro b h
  rcases h with h | ⟨j, k, hj, hk, hn⟩
  · exact .inl h
  · unfold frzAt at hj
    cases hi : tb[i]? with
    | none => rw [hi] at hj; exact .inr ⟨j, k, hj, hk, hn⟩
    | some k' =>
      rw [hi] at hj
      by_cases e : j = i
      · subst e
        have hlt : j < tb.length := (List.getElem?_eq_some_iff.1 hi).1
        simp only [List.getElem?_set_self hlt] at hj
        injection hj with hj
        subst hj
        cases k' with
        | map z keys get => exact .inr ⟨j, _, hi, rfl, hn⟩
        | sem S => exact .inr ⟨j, _, hi, hk, hn⟩
        | _ => simp [freeze, Blk.mut] at hk
      · simp only [List.getElem?_set_ne (Ne.symm e)] at hj
        exact .inr ⟨j, k, hj, hk, hn⟩

theorem frzAt_length (tb : List Blk) (i : Nat) : (frzAt tb i).length = tb.length := by
  unfold frzAt; split <;> simp

theorem frzAt_get {i j : Nat} {k : Blk} (h : (frzAt tb i)[j]? = some k) : ∃ k', tb[j]? = some k' ∧ (k = k' ∨ k = freeze k') := by
  unfold frzAt at h
  cases hi : tb[i]? with
  | none => rw [hi] at h; exact ⟨k, h, .inl rfl⟩
  | some k' =>
    rw [hi] at h
    by_cases e : j = i
    · subst e
      have hlt : j < tb.length := (List.getElem?_eq_some_iff.1 hi).1
      simp only [List.getElem?_set_self hlt] at h
      injection h with h
      exact ⟨k', hi, .inr h.symm⟩
    · simp only [List.getElem?_set_ne (Ne.symm e)] at h
      exact ⟨k, h, .inl rfl⟩

theorem frzAt_row {i j : Nat} {t : TypeId} {sz n : Nat} {mu : Bool} {get : Nat → List SV} (h : tb[j]? = some (.row t sz n mu get)) : ∃ mu', (frzAt tb i)[j]? = some (.row t sz n mu' get) := by
  unfold frzAt
  cases hi : tb[i]? with
  | none => exact ⟨mu, h⟩
  | some k' =>
    by_cases e : j = i
    · subst e
      have hlt : j < tb.length := (List.getElem?_eq_some_iff.1 hi).1
      rw [h] at hi
      injection hi with hi
      subst hi
      exact ⟨false, by simp [List.getElem?_set_self hlt, freeze]⟩
    · exact ⟨mu, by simp only [List.getElem?_set_ne (Ne.symm e)]; exact h⟩

theorem BlkOK.freeze {M M' : Nat → Prop} {base : Nat} {k : Blk} {v : Value} (h : BlkOK w M base k v) (hM : ∀ b, M' b → M b) : BlkOK w M' base (freeze k) v := by
  cases k with
  | cells t mu cs => obtain ⟨b, vs, h1, h2, h3, h4, h5, h6⟩ := h; exact ⟨b, vs, h1, h2, h3, h4, h5, fun i s u hi hu => (h6 i s u hi hu).less fun b _ => hM b⟩
  | row t sz n mu get => obtain ⟨xs, h1, h2, h3, h4⟩ := h; exact ⟨xs, h1, h2, h3, fun i j s u hi hj hu => (h4 i j s u hi hj hu).less fun b _ => hM b⟩
  | map z keys get => obtain ⟨b, es, clock, h1, h2, h3, h4, h5, h6, h7, h8⟩ := h; exact ⟨b, es, clock, h1, h2, h3, h4, h5, h6, fun i k e hk he => (h7 i k e hk he).less fun b _ => hM b, fun k hk => (h8 k hk).less fun b _ => hM b⟩
  | dead => trivial
  | sem S => exact S.ext _ _ _ _ _ h (Ext.refl _ _) (fun b _ => hM b) (fun _ _ => rfl)

theorem BlkOK.less {M M' : Nat → Prop} {base : Nat} {k : Blk} {v : Value} (h : BlkOK w M base k v) (hM : ∀ b, M' b → M b) : BlkOK w M' base k v := by
  cases k with
  | cells t mu cs => obtain ⟨b, vs, h1, h2, h3, h4, h5, h6⟩ := h; exact ⟨b, vs, h1, h2, h3, h4, h5, fun i s u hi hu => (h6 i s u hi hu).less fun b _ => hM b⟩
  | row t sz n mu get => obtain ⟨xs, h1, h2, h3, h4⟩ := h; exact ⟨xs, h1, h2, h3, fun i j s u hi hj hu => (h4 i j s u hi hj hu).less fun b _ => hM b⟩
  | map z keys get => obtain ⟨b, es, clock, h1, h2, h3, h4, h5, h6, h7, h8⟩ := h; exact ⟨b, es, clock, h1, h2, h3, h4, h5, h6, fun i k e hk he => (h7 i k e hk he).less fun b _ => hM b, fun k hk => (h8 k hk).less fun b _ => hM b⟩
  | dead => trivial
  | sem S => exact S.ext _ _ _ _ _ h (Ext.refl _ _) (fun b _ => hM b) (fun _ _ => rfl)

theorem Inv.frzAt (h : Inv w0 M0 L tb w) (i : Nat) : Inv w0 M0 L (frzAt tb i) w where
  below := h.below
  ok j k hj := by
    obtain ⟨k', hk', e⟩ := frzAt_get hj
    rcases e with rfl | rfl
    · exact (h.ok j _ hk').less (mset_frzAt i)
    · exact (h.ok j _ hk').freeze (mset_frzAt i)
  apart a b c ha hb := h.apart a b c (by rwa [frzAt_length] at ha) (by rwa [frzAt_length] at hb)
  low a b ha := h.low a b (by rwa [frzAt_length] at ha)

/-- A table that is frozen in part. -/
structure Frz (tb tb' : List Blk) : Prop where
  len : tb'.length = tb.length
  mset : ∀ (M0 : Nat → Prop) L b, mset M0 tb' L b → mset M0 tb L b
  row : ∀ (i : Nat) t sz n mu get, tb[i]? = some (.row t sz n mu get) → ∃ mu', tb'[i]? = some (.row t sz n mu' get)
  inv : ∀ w0 M0 L w, Inv w0 M0 L tb w → Inv w0 M0 L tb' w

theorem Frz.refl (tb : List Blk) : Frz tb tb := ⟨rfl, fun _ _ _ h => h, fun _ _ _ _ mu _ h => ⟨mu, h⟩, fun _ _ _ _ h => h⟩
theorem Frz.trans {a b c : List Blk} (h : Frz a b) (k : Frz b c) : Frz a c :=
  ⟨k.len.trans h.len, fun M0 L b' hb => h.mset _ _ _ (k.mset M0 L b' hb), fun i t sz n mu get hi => by obtain ⟨mu', h'⟩ := h.row i t sz n mu get hi; exact k.row i t sz n mu' get h',
    fun w0 M0 L w hi => k.inv _ _ _ _ (h.inv w0 M0 L w hi)⟩
theorem Frz.at (tb : List Blk) (i : Nat) : Frz tb (Sx.frzAt tb i) :=
  ⟨frzAt_length tb i, fun _ _ => mset_frzAt i, fun _ _ _ _ _ _ h => frzAt_row h, fun _ _ _ _ h => h.frzAt i⟩
theorem Frz.frz (tb : List Blk) (x : LV) : Frz tb (frz tb x) := by
  cases x <;> first | exact Frz.refl _ | exact Frz.at _ _
theorem Frz.all (xs : List LV) : ∀ tb : List Blk, Frz tb (frzAll tb xs) := by
  induction xs with
  | nil => exact fun tb => Frz.refl tb
  | cons x r ih => exact fun tb => (Frz.frz tb x).trans (ih _)
theorem Frz.own (tb : List Blk) (x : LV) : Frz tb (frzOwn tb x) := by
  cases x <;> first | exact Frz.refl _ | exact Frz.at _ _
theorem Frz.owns (xs : List LV) : ∀ tb : List Blk, Frz tb (frzOwns tb xs) := by
  induction xs with
  | nil => exact fun tb => Frz.refl tb
  | cons x r ih => exact fun tb => (Frz.own tb x).trans (ih _)

/-! Frozen blocks as values. -/

theorem not_mset {i : Nat} {k : Blk} {b : Nat} (h : Inv w0 M0 L tb w) (hM0 : Safe w0 M0) (hi : tb[i]? = some k) (hm : k.mut = false) (hb : blkNo (L i) = some b) : ¬ mset M0 tb L b := by
  have hlt : i < tb.length := (List.getElem?_eq_some_iff.1 hi).1
  rintro (h1 | ⟨j, k', hj, hk', hn⟩)
  · have h2 := hM0 b h1
    rcases (h.low i b hlt hb).1 with h3 | h3
    · omega
    · exact h2.2 h3
  · have hjl : j < tb.length := (List.getElem?_eq_some_iff.1 hj).1
    have := h.apart i j b hlt hjl hb hn
    subst this
    rw [hi] at hj
    injection hj with hj
    subst hj
    rw [hm] at hk'
    cases hk'

theorem den_of_row {M : Nat → Prop} {base t sz n : Nat} {mu : Bool} {get : Nat → List SV} {v : Value} (h : BlkOK w M base (.row t sz n mu get) v) (hn : ∀ b, blkNo v = some b → ¬ M b) :
    Den w M (.lst sz n get) v := by
  obtain ⟨xs, ⟨hl, ho⟩, hz, h1a, hd⟩ := h
  have h1 := h1a.xs ⟨hl, ho⟩
  rcases ho with ⟨rfl, rfl⟩ | ⟨g, cap, cur, rfl, hg, hh, hnc, hcm, hcur, htake⟩
  · exact .lst sz 0 get none 0 0 0 (fun _ _ => undef) (Nat.le_refl _) (by simp [maxLen]) (fun h => by omega) (fun h => by omega) (fun h => by omega) hz (fun _ _ _ h => by omega) (fun _ _ _ h => by omega) (fun _ _ _ h => by omega)
  · have hlen : ∀ i j s, i < n → (get i)[j]? = some s → i * sz + j < xs.length := by
      intro i j s hi hj
      have := hz i hi
      have hj' := (List.getElem?_eq_some_iff.1 hj).1
      rw [hl]
      calc i * sz + j < i * sz + sz := by omega
        _ = (i + 1) * sz := by rw [Nat.succ_mul]
        _ ≤ n * sz := Nat.mul_le_mul_right _ (by omega)
    have hx : ∀ i j s, i < n → (get i)[j]? = some s → xs[i * sz + j]? = some (xs.getD (i * sz + j) undef) := by
      intro i j s hi hj
      have := hlen i j s hi hj
      simp [List.getD, this]
    have hgl : g < w.heap.size := by
      rcases Nat.lt_or_ge g w.heap.size with h | h
      · exact h
      · rw [Array.getElem?_eq_none h] at hh; cases hh
    refine .lst sz n get _ cap g 0 (fun i j => xs.getD (i * sz + j) undef) hnc hcm (fun _ => rfl) (fun _ => hn g rfl) (fun _ => hgl) hz ?_ ?_ ?_
    · intro i j s hi hj
      exact h1 _ (List.mem_of_getElem? (hx i j s hi hj))
    · intro i j s hi hj
      have hx' := hx i j s hi hj
      rw [← htake] at hx'
      have h2 := hlen i j s hi hj
      rw [hl] at h2
      rw [List.getElem?_take_of_lt h2] at hx'
      simp only [World.cell?, hh, Nat.zero_add]
      simpa [htake] using hx'
    · intro i j s hi hj
      exact hd i j s _ hi hj (hx i j s hi hj)

theorem den_of_cells {M : Nat → Prop} {base t off : Nat} {mu : Bool} {cs : List SV} {b : Nat} (h : BlkOK w M base (.cells t mu cs) (.pointer (some ⟨b, 0, none⟩))) (hn : ¬ M b) :
    Den w M (.ref cs off) (.pointer (some ⟨b, off, none⟩)) := by
  obtain ⟨b', vs, hv, _, hh, hl, h1, hd⟩ := h
  injection hv with hv
  injection hv with hv
  injection hv with hv _
  subst hv
  have hx : ∀ i s, cs[i]? = some s → vs[i]? = some (vs.getD i undef) := by
    intro i s hi
    have := (List.getElem?_eq_some_iff.1 hi).1
    rw [hl] at this
    simp [Array.getD, this]
  have hgl : b < w.heap.size := by
    rcases Nat.lt_or_ge b w.heap.size with h | h
    · exact h
    · rw [Array.getElem?_eq_none h] at hh; cases hh
  have := Den.ref (w := w) (M := M) cs off b 0 (fun i => vs.getD i undef) hn hgl (fun i s hi => h1 i _ (hx i s hi)) (fun i s hi => by simp only [World.cell?, hh, Nat.zero_add]; exact hx i s hi) (fun i s hi => hd i s _ hi (hx i s hi))
  simpa using this

theorem shut_den {G : Nat → Option Bool} (h : Inv w0 M0 L tb w) (hM0 : Safe w0 M0) {x : LV} {s : SV} {v : Value} (hs : shut tb x = some s) (hd : LDen G w (mset M0 tb L) L tb x v) : Den w (mset M0 tb L) s v := by
  cases x with
  | sv s' => simp [shut] at hs; subst hs; exact hd
  | own i =>
    simp only [shut] at hs
    split at hs
    · rename_i t sz n get hi
      injection hs with hs
      subst hs
      obtain ⟨_, rfl⟩ := hd
      exact den_of_row (h.ok i _ hi) fun b hb => not_mset h hM0 hi rfl hb
    · cases hs
  | ptr i off =>
    simp only [shut] at hs
    split at hs
    · rename_i t cs hi
      injection hs with hs
      subst hs
      obtain ⟨_, b, hl, rfl⟩ := hd
      have hok := h.ok i _ hi
      rw [hl] at hok
      exact den_of_cells hok (not_mset h hM0 hi rfl (by rw [hl]; rfl))
    · cases hs
  | any => simp [shut] at hs
  | rp => simp [shut] at hs
  | part => simp [shut] at hs
  | opt => simp [shut] at hs
  | exact => simp [shut] at hs
  | isv => simp [shut] at hs
end
end Go.Sx

namespace Go.Sx
open Go Go.RowKit

theorem add_none (b o j : Nat) : (⟨b, o, none⟩ : Addr).add j = ⟨b, o + j, none⟩ := by
  unfold Addr.add; split
  · rename_i h; subst h; rfl
  · rfl

section
variable {P : Program} {w : World}

theorem run_isAgg {t : TypeId} {b : Bool} (h : isAgg? P t = some b) : (isAgg t).run P w = .ok b w := by
  unfold isAgg? at h
  cases hu : P.underlying t with
  | none => rw [hu] at h; cases h
  | some d =>
    rw [hu] at h
    cases d <;> simp at h <;> subst h <;> simp [isAgg, underlying, hu, program, Sem.run]

theorem run_sizeOf {t : TypeId} {n : Nat} (h : sizeOf? P t = some n) : (sizeOf t).run P w = .ok n w := by
  unfold sizeOf? at h
  cases hu : P.info? t with
  | none => rw [hu] at h; cases h
  | some d => rw [hu] at h; simp at h; subst h; simp [sizeOf, typeInfo, hu, program, Sem.run]

theorem run_under {t : TypeId} {d : TypeDesc} (h : P.underlying t = some d) : (underlying t).run P w = .ok d w := by
  simp [underlying, h, program, Sem.run]

theorem run_zero {t : TypeId} {z : List Value} (h : zeroOf P t = some z) : ∃ v, (zeroValue t).run P w = .ok v w ∧ v.cells.toList = z ∧ ∀ u ∈ z, u.oneCell' = true := by
  unfold zeroOf at h
  cases hu : P.info? t with
  | none => rw [hu] at h; cases h
  | some d =>
    rw [hu] at h
    simp only at h
    cases hz : d.zero with
    | none => rw [hz] at h; cases h
    | some v =>
      rw [hz] at h
      simp only at h
      split at h
      · rename_i hall
        injection h with h
        subst h
        exact ⟨v, by simp [zeroValue, typeInfo, hu, program, Sem.run, hz], rfl, fun u hu => by simpa using List.all_eq_true.1 hall u hu⟩
      · cases h
end

section
variable {P : Program} {w0 : Base} {M0 : Nat → Prop} {L : Nat → Value} {tb : List Blk} {w : World} {G : Nat → Option Bool}

theorem addrOf_sound (hI : Inv w0 M0 L tb w) {x : LV} {v : Value} {cs : List SV} {off : Nat} (h : addrOf tb x = some (cs, off)) (hd : LDen G w (mset M0 tb L) L tb x v) :
    ∃ b o, v = .pointer (some ⟨b, o + off, none⟩) ∧ ∀ (i : Nat) s, cs[i]? = some s → ∃ u, w.cell? ⟨b, o + i, none⟩ = some u ∧ u.oneCell' = true ∧ Den w (mset M0 tb L) s u := by
  cases x with
  | ptr i off' =>
    simp only [addrOf] at h
    split at h
    · rename_i t mu cs' hi
      simp only [Option.some.injEq, Prod.mk.injEq] at h
      obtain ⟨rfl, rfl⟩ := h
      obtain ⟨_, b, hl, rfl⟩ := hd
      obtain ⟨b', vs, hv, _, hh, hlen, h1, hden⟩ := hI.ok i _ hi
      rw [hl] at hv
      injection hv with hv
      injection hv with hv
      injection hv with hv _
      subst hv
      refine ⟨b, 0, by simp, fun j s hj => ?_⟩
      have hj' : j < vs.size := by rw [← hlen]; exact (List.getElem?_eq_some_iff.1 hj).1
      refine ⟨vs[j], ?_, h1 j _ (by simp [hj']), hden j s _ hj (by simp [hj'])⟩
      simp [World.cell?, hh, hj']
    · cases h
  | rp i k off' =>
    simp only [addrOf] at h
    split at h
    · rename_i t sz n mu get hi
      simp only [Option.some.injEq, Prod.mk.injEq] at h
      obtain ⟨rfl, rfl⟩ := h
      obtain ⟨b, n', c, t', sz', mu', get', hi', hl, hk, rfl⟩ := hd
      rw [hi] at hi'
      injection hi' with hi'
      injection hi' with e1 e2 e3 e4 e5
      subst e2 e3
      obtain ⟨xs, ⟨hxl, ho⟩, hz, h1a, hden⟩ := hI.ok i _ hi
      have h1 := h1a.xs ⟨hxl, ho⟩
      rw [hl] at ho
      rcases ho with ⟨hx, _⟩ | ⟨g, cap, cur, hv, hg, hh, hnc, hcm, hcur, htake⟩
      · cases hx
      · injection hv with hv1 _ hv2
        injection hv1 with hv1
        injection hv1 with hv1 _
        subst hv1 hv2
        refine ⟨b, k * sz, rfl, fun j s hj => ?_⟩
        have hj' := (List.getElem?_eq_some_iff.1 hj).1
        have hzk := hz k hk
        have hlt : k * sz + j < n * sz := by
          calc k * sz + j < k * sz + sz := by omega
            _ = (k + 1) * sz := by rw [Nat.succ_mul]
            _ ≤ n * sz := Nat.mul_le_mul_right _ (by omega)
        have hx : xs[k * sz + j]? = some (xs[k * sz + j]'(by omega)) := List.getElem?_eq_getElem (by omega)
        refine ⟨_, ?_, h1 _ (List.mem_of_getElem? hx), hden k j s _ hk hj hx⟩
        rw [← hx, ← htake, List.getElem?_take_of_lt hlt]
        simp [World.cell?, hh]
    · cases h
  | sv s =>
    cases s with
    | ref cs' off' =>
      simp only [addrOf, Option.some.injEq, Prod.mk.injEq] at h
      obtain ⟨rfl, rfl⟩ := h
      cases hd with
      | ref _ _ b o val hM hb h1 hc hden => exact ⟨b, o, rfl, fun i s hi => ⟨val i, hc i s hi, h1 i s hi, hden i s hi⟩⟩
    | _ => simp [addrOf] at h
  | any => simp [addrOf] at h
  | own => simp [addrOf] at h
  | part => simp [addrOf] at h
  | opt => simp [addrOf] at h
  | exact => simp [addrOf] at h
  | isv => simp [addrOf] at h

/-- The cells of a run of the row behind an address. -/
theorem loadCells_sound {M : Nat → Prop} {b o off n : Nat} {cs : List SV} (hc : ∀ (i : Nat) s, cs[i]? = some s → ∃ u, w.cell? ⟨b, o + i, none⟩ = some u ∧ u.oneCell' = true ∧ Den w M s u) (hn : off + n ≤ cs.length) :
    ∃ vs : Array Value, (loadCells ⟨b, o + off, none⟩ n).run P w = .ok vs w ∧ Den w M (.agg ((cs.drop off).take n)) (.agg vs) := by
  have hx : ∀ j, j < n → ∃ u, w.cell? ((⟨b, o + off, none⟩ : Addr).add j) = some u ∧ u.oneCell' = true ∧ ∀ s, cs[off + j]? = some s → Den w M s u := by
    intro j hj
    obtain ⟨u, h1, h2, h3⟩ := hc (off + j) (cs[off + j]'(by omega)) (List.getElem?_eq_getElem (by omega))
    refine ⟨u, ?_, h2, fun s hs => ?_⟩
    · rw [add_none, Nat.add_assoc]; exact h1
    · rw [List.getElem?_eq_getElem (by omega)] at hs; injection hs with hs; subst hs; exact h3
  let f : Nat → Value := fun j => if h : j < n then (hx j h).choose else undef
  have hf : ∀ j (h : j < n), f j = (hx j h).choose := fun j h => by simp [f, h]
  refine ⟨((List.range n).map f).toArray, run_loadCells w _ n f (fun j hj => by rw [hf j hj]; exact (hx j hj).choose_spec.1), ?_⟩
  refine .agg _ _ (by simp; omega) ?_ ?_
  · intro i v hi
    simp only [List.getElem?_toArray, List.getElem?_map, Option.map_eq_some_iff] at hi
    obtain ⟨j, hj, rfl⟩ := hi
    have hlt := (List.getElem?_eq_some_iff.1 hj).1
    rw [List.getElem?_range (by simpa using hlt)] at hj
    injection hj with hj
    subst hj
    simp at hlt
    rw [hf i hlt]
    exact (hx i hlt).choose_spec.2.1
  · intro i s v hs hi
    simp only [List.getElem?_toArray, List.getElem?_map, Option.map_eq_some_iff] at hi
    obtain ⟨j, hj, rfl⟩ := hi
    have hlt := (List.getElem?_eq_some_iff.1 hj).1
    rw [List.getElem?_range (by simpa using hlt)] at hj
    injection hj with hj
    subst hj
    simp at hlt
    rw [hf i hlt]
    refine (hx i hlt).choose_spec.2.2 s ?_
    rw [List.getElem?_take_of_lt hlt, List.getElem?_drop] at hs
    exact hs

theorem wrap_in {k : IntKind} {n : Int} (h : InK k n) : k.wrap n = n := by
  unfold InK at h
  cases k <;> simp [IntKind.min, IntKind.max, IntKind.signed, IntKind.bits] at h <;> simp [IntKind.wrap, IntKind.signed, IntKind.bits] <;> omega

theorem ofInt_i64 (a : Nat) (ha : a < 9223372036854775808) : (BitVec.ofInt 64 (a : Int)).toNat = a := by
  rw [BitVec.ofInt_natCast, BitVec.toNat_ofNat]; exact Nat.mod_eq_of_lt (by omega)

theorem bits_and (a b : Nat) (ha : a < 9223372036854775808) (hb : b < 9223372036854775808) : (Op.intBits .and .i64 (a : Int) (b : Int)).run P w = .ok (.int .i64 ((a &&& b : Nat) : Int)) w := by
  have hx : a &&& b < 2 ^ 63 := Nat.and_lt_two_pow _ (by omega)
  have hy : (BitVec.ofInt 64 (a : Int) &&& BitVec.ofInt 64 (b : Int)).toNat = a &&& b := by rw [BitVec.toNat_and, ofInt_i64 a ha, ofInt_i64 b hb]
  show Result.ok (Value.int .i64 (IntKind.i64.wrap ((BitVec.ofInt 64 (a : Int) &&& BitVec.ofInt 64 (b : Int)).toNat : Int))) w = _
  rw [hy, wrap_in]
  unfold InK
  simp [IntKind.min, IntKind.max, IntKind.signed, IntKind.bits]
  omega

theorem ofInt_u16 (a : Nat) (ha : a < 65536) : (BitVec.ofInt 16 (a : Int)).toNat = a := by
  rw [BitVec.ofInt_natCast, BitVec.toNat_ofNat]; exact Nat.mod_eq_of_lt (by omega)

theorem bits_and16 (a b : Nat) (ha : a < 65536) (hb : b < 65536) : (Op.intBits .and .u16 (a : Int) (b : Int)).run P w = .ok (.int .u16 ((a &&& b : Nat) : Int)) w := by
  have hx : a &&& b < 2 ^ 16 := Nat.and_lt_two_pow _ (by omega)
  have hy : (BitVec.ofInt 16 (a : Int) &&& BitVec.ofInt 16 (b : Int)).toNat = a &&& b := by rw [BitVec.toNat_and, ofInt_u16 a ha, ofInt_u16 b hb]
  show Result.ok (Value.int .u16 (IntKind.u16.wrap ((BitVec.ofInt 16 (a : Int) &&& BitVec.ofInt 16 (b : Int)).toNat : Int))) w = _
  rw [hy, wrap_in]
  unfold InK
  simp [IntKind.min, IntKind.max, IntKind.signed, IntKind.bits]
  omega

theorem bits_or (a b : Nat) (ha : a < 9223372036854775808) (hb : b < 9223372036854775808) : (Op.intBits .or .i64 (a : Int) (b : Int)).run P w = .ok (.int .i64 ((a ||| b : Nat) : Int)) w := by
  have hx : a ||| b < 2 ^ 63 := Nat.or_lt_two_pow (by omega) (by omega)
  have hy : (BitVec.ofInt 64 (a : Int) ||| BitVec.ofInt 64 (b : Int)).toNat = a ||| b := by rw [BitVec.toNat_or, ofInt_i64 a ha, ofInt_i64 b hb]
  show Result.ok (Value.int .i64 (IntKind.i64.wrap ((BitVec.ofInt 64 (a : Int) ||| BitVec.ofInt 64 (b : Int)).toNat : Int))) w = _
  rw [hy, wrap_in]
  unfold InK
  simp [IntKind.min, IntKind.max, IntKind.signed, IntKind.bits]
  omega

theorem inK_i64 {n : Int} (h : InK .i64 n) : -9223372036854775808 ≤ n ∧ n ≤ 9223372036854775807 := by
  unfold InK at h; simpa [IntKind.min, IntKind.max, IntKind.signed, IntKind.bits] using h

theorem binSV_sound {M : Nat → Prop} {op : BinOp} {t : TypeId} {x y : Operand} {a b s : SV} {u v : Value} {ob : Prop} (h : binSV op a b = some (s, ob)) (hob : ob) (ha : Den w M a u) (hb : Den w M b v) :
    ∃ r, (do eqGuard op t x y u v; binOp op t u v : Sem Value).run P w = .ok r w ∧ Den w M s r := by
  cases ha with
  | int k n =>
    cases hb with
    | int k' m =>
      have hg : (eqGuard op t x y (.int k n) (.int k' m)).run P w = .ok () w := by
        cases op <;> simp [eqGuard]
      simp only [binSV] at h
      split at h
      case isFalse =>
        cases op <;> simp only [binX, reduceCtorEq] at h
        split at h
        · simp only [Option.some.injEq, Prod.mk.injEq] at h
          obtain ⟨rfl, rfl⟩ := h
          have e16 : IntKind.u16.bits = 16 := rfl
          refine ⟨_, ?_, .int _ _⟩
          simp only [Sem.run_bind, hg, Result.andThen, binOp, Op.shift]
          rw [if_neg (by omega), Nat.min_eq_left (by omega)]
          show Result.ok _ w = _
          congr 2
          rw [Int.fdiv_eq_ediv_of_nonneg]
          exact Int.le_of_lt (Int.pow_pos (by omega))
        · cases h
      rename_i hkk
      subst hkk
      cases op <;> simp only [binI, Option.some.injEq, Prod.mk.injEq, reduceCtorEq] at h
      case shr =>
        obtain ⟨rfl, rfl⟩ := h
        refine ⟨_, ?_, .int _ _⟩
        simp only [Sem.run_bind, hg, Result.andThen, binOp, Op.shift]
        rw [if_neg (by omega), Nat.min_eq_left (by omega)]
        show Result.ok _ w = _
        congr 2
        rw [Int.fdiv_eq_ediv_of_nonneg]
        exact Int.le_of_lt (Int.pow_pos (by omega))
      case and =>
        obtain ⟨rfl, rfl⟩ := h
        obtain ⟨hk, h0, h1, h2, h3⟩ := hob
        have hk' : k = .i64 ∨ k = .u16 := by cases k <;> first | exact .inl rfl | exact .inr rfl | cases hk
        obtain ⟨p, rfl⟩ := Int.eq_ofNat_of_zero_le h0
        obtain ⟨q, rfl⟩ := Int.eq_ofNat_of_zero_le h1
        refine ⟨_, ?_, .int _ _⟩
        simp only [Sem.run_bind, hg, Result.andThen, binOp, ne_eq, not_true_eq_false, if_false, Int.toNat_natCast]
        rcases hk' with rfl | rfl
        · have h2 := inK_i64 h2
          have h3 := inK_i64 h3
          exact bits_and p q (by omega) (by omega)
        · unfold InK at h2 h3
          simp [IntKind.min, IntKind.max, IntKind.signed, IntKind.bits] at h2 h3
          exact bits_and16 p q (by omega) (by omega)
      case or =>
        obtain ⟨rfl, rfl⟩ := h
        obtain ⟨rfl, h0, h1, h2, h3⟩ := hob
        have h2 := inK_i64 h2
        have h3 := inK_i64 h3
        obtain ⟨p, rfl⟩ := Int.eq_ofNat_of_zero_le h0
        obtain ⟨q, rfl⟩ := Int.eq_ofNat_of_zero_le h1
        refine ⟨_, ?_, .int _ _⟩
        simp only [Sem.run_bind, hg, Result.andThen, binOp, ne_eq, not_true_eq_false, if_false, Int.toNat_natCast]
        exact bits_or p q (by omega) (by omega)
      case quo =>
        obtain ⟨rfl, rfl⟩ := h
        obtain ⟨h0, h1, h2⟩ := hob
        refine ⟨_, ?_, .int _ _⟩
        simp only [Sem.run_bind, hg, Result.andThen, binOp, ne_eq, not_true_eq_false, if_false, Op.intDiv]
        rw [if_neg (by omega), Int.tdiv_eq_ediv_of_nonneg h0, wrap_in h2]
        rfl
      case rem =>
        obtain ⟨rfl, rfl⟩ := h
        obtain ⟨h0, h1⟩ := hob
        refine ⟨_, ?_, .int _ _⟩
        simp only [Sem.run_bind, hg, Result.andThen, binOp, ne_eq, not_true_eq_false, if_false, Op.intDiv]
        rw [if_neg (by omega), Int.tmod_eq_emod_of_nonneg h0]
        rfl
      all_goals
        obtain ⟨rfl, rfl⟩ := h
        first
          | (refine ⟨_, ?_, .int _ _⟩
             simp only [Sem.run_bind, hg, Result.andThen, binOp, ne_eq, not_true_eq_false, if_false, Op.intArith, wrap_in hob]
             rfl)
          | (refine ⟨_, ?_, .bool _⟩
             simp only [Sem.run_bind, hg, Result.andThen, binOp, ne_eq, not_true_eq_false, if_false, Op.intCmp]
             rfl)
    | _ => simp [binSV] at h
  | val u =>
    cases u with
    | int k n =>
      cases hb with
      | int k' m =>
        have hg : (eqGuard op t x y (.int k n) (.int k' m)).run P w = .ok () w := by
          cases op <;> simp [eqGuard]
        simp only [binSV] at h
        split at h
        case isFalse => cases h
        rename_i hkk
        subst hkk
        cases op <;> simp only [binW, Option.some.injEq, Prod.mk.injEq, reduceCtorEq] at h
        obtain ⟨rfl, rfl⟩ := h
        refine ⟨_, ?_, .val _⟩
        simp only [Sem.run_bind, hg, Result.andThen, binOp, ne_eq, not_true_eq_false, if_false, Op.intArith]
        rfl
      | _ => simp [binSV] at h
    | _ => cases hb <;> simp [binSV] at h
  | _ => cases hb <;> simp [binSV] at h

theorem binB_sound {M : Nat → Prop} {op : BinOp} {t : TypeId} {x y : Operand} {a b s : SV} {u v : Value} {ob : Prop} (ht : P.underlying t = some .bool) (h : binB op a b = some (s, ob)) (ha : Den w M a u) (hb : Den w M b v) :
    ∃ r, (do eqGuard op t x y u v; binOp op t u v : Sem Value).run P w = .ok r w ∧ Den w M s r := by
  cases ha with
  | bool c =>
    cases hb with
    | bool d =>
      have hg : (eqGuard op t x y (.bool c) (.bool d)).run P w = .ok () w := by
        cases op <;> simp [eqGuard]
      cases op <;> simp only [binB, Option.some.injEq, Prod.mk.injEq, reduceCtorEq] at h
      all_goals
        obtain ⟨rfl, rfl⟩ := h
        refine ⟨_, ?_, .bool _⟩
        simp only [Sem.run_bind, hg, Result.andThen]
        first | exact run_eql_bool _ _ _ _ ht | exact run_neq_bool _ _ _ _ ht
    | _ => simp [binB] at h
  | _ => cases hb <;> simp [binB] at h

theorem intsOf_sound {M : Nat → Prop} : ∀ (cs : List SV) (l : List Int) (vs : List Value), intsOf cs = some l → cs.length = vs.length → (∀ (i : Nat) s v, cs[i]? = some s → vs[i]? = some v → Den w M s v) → vs = l.map (Value.int .i64)
  | [], l, vs, h, hl, _ => by simp [intsOf] at h; subst h; simp at hl; simp [List.eq_nil_of_length_eq_zero hl.symm]
  | c :: r, l, [], h, hl, _ => by simp at hl
  | c :: r, l, v :: vs, h, hl, hd => by
    have h0 := hd 0 c v rfl rfl
    unfold intsOf at h
    split at h
    · rename_i e; cases e
    · rename_i n r' e
      injection e with e1 e2
      subst e1 e2
      split at h
      · rename_i l' hl'
        injection h with h
        subst h
        cases h0
        simp [intsOf_sound r l' vs hl' (by simpa using hl) (fun i s v hi hv => hd (i + 1) s v (by simpa using hi) (by simpa using hv))]
      · cases h
    · cases h
end
end Go.Sx

namespace Go.Sx
open Go Go.RowKit

section
variable {P : Program} {w0 : Base} {M0 : Nat → Prop} {L : Nat → Value} {tb : List Blk} {w : World} {G : Nat → Option Bool}

theorem optList_get {α : Type} : ∀ (l : List (Option α)) (r : List α), optList l = some r → l.length = r.length ∧ ∀ (i : Nat) x, r[i]? = some x → l[i]? = some (some x)
  | [], r, h => by simp [optList] at h; subst h; simp
  | none :: _, r, h => by simp [optList] at h
  | some x :: l, r, h => by
    simp only [optList] at h
    split at h
    · rename_i r' hr
      injection h with h
      subst h
      obtain ⟨h1, h2⟩ := optList_get l r' hr
      refine ⟨by simp [h1], fun i y hi => ?_⟩
      cases i with
      | zero => simp at hi; subst hi; rfl
      | succ i => simp at hi; simpa using h2 i y hi
    · cases h

theorem den_lstOf {M : Nat → Prop} {s : SV} {v : Value} {n : Nat} {get : Nat → List SV} (h : lstOf s = some (n, get)) (hd : Den w M s v) : ∃ A c, v = .slice A n c := by
  unfold lstOf at h
  split at h
  · simp only [Option.some.injEq, Prod.mk.injEq] at h
    obtain ⟨rfl, rfl⟩ := h
    cases hd
    exact ⟨_, _, rfl⟩
  · simp only [Option.some.injEq, Prod.mk.injEq] at h
    obtain ⟨rfl, rfl⟩ := h
    cases hd
    exact ⟨_, _, rfl⟩
  · cases h

/-- A slice value's cells, whatever it was known as. -/
theorem den_lstOf' {M : Nat → Prop} {s : SV} {v : Value} {n sz : Nat} {get : Nat → List SV} (h : lstOf s = some (n, get)) (hz : szOK sz s) (hd : Den w M s v) : Den w M (.lst sz n get) v := by
  unfold lstOf at h
  split at h
  · simp only [Option.some.injEq, Prod.mk.injEq] at h
    obtain ⟨rfl, rfl⟩ := h
    simp only [szOK] at hz
    subst hz
    exact hd
  · simp only [Option.some.injEq, Prod.mk.injEq] at h
    obtain ⟨rfl, rfl⟩ := h
    cases hd
    exact .lst sz 0 _ none 0 0 0 (fun _ _ => undef) (Nat.le_refl _) (by simp [maxLen]) (fun h => by omega) (fun h => by omega) (fun h => by omega) (fun i h => by omega) (fun _ _ _ h => by omega) (fun _ _ _ h => by omega) (fun _ _ _ h => by omega)
  · cases h

theorem cellsOf_sound {M : Nat → Prop} {s : SV} {cs : List SV} {v : Value} (h : cellsOf s = some cs) (hd : Den w M s v) :
    cs.length = v.cells.size ∧ (∀ (i : Nat) u, v.cells[i]? = some u → u.oneCell' = true) ∧ ∀ (i : Nat) s u, cs[i]? = some s → v.cells[i]? = some u → Den w M s u := by
  have one : ∀ (s : SV) (v : Value), v.cells = #[v] → v.oneCell' = true → Den w M s v →
      [s].length = v.cells.size ∧ (∀ (i : Nat) u, v.cells[i]? = some u → u.oneCell' = true) ∧ ∀ (i : Nat) s' u, [s][i]? = some s' → v.cells[i]? = some u → Den w M s' u := by
    intro s v hv h1 hd
    rw [hv]
    refine ⟨by simp, fun i u hi => ?_, fun i s' u hi hu => ?_⟩
    · cases i with
      | zero => simp at hi; subst hi; exact h1
      | succ i => simp at hi
    · cases i with
      | zero => simp at hi hu; subst hi hu; exact hd
      | succ i => simp at hi
  cases hd with
  | int k n => simp [cellsOf] at h; subst h; exact one _ _ rfl rfl (.int k n)
  | bool b => simp [cellsOf] at h; subst h; exact one _ _ rfl rfl (.bool b)
  | val v =>
    simp only [cellsOf] at h
    split at h
    · rename_i h1
      injection h with h
      subst h
      refine one _ _ ?_ h1 (.val v)
      cases v <;> simp [Value.oneCell'] at h1 <;> rfl
    · cases h
  | agg cs' vs hl h1 hh => simp [cellsOf] at h; subst h; exact ⟨hl, h1, hh⟩
  | tup => simp [cellsOf] at h
  | ref cs' off b o val hM hb h1 hc hh => simp [cellsOf] at h; subst h; exact one _ _ rfl rfl (.ref cs' off b o val hM hb h1 hc hh)
  | lst sz n get A c b o val hc hm hA hM hb hz h1 hcell hh => simp [cellsOf] at h; subst h; exact one _ _ rfl rfl (.lst sz n get A c b o val hc hm hA hM hb hz h1 hcell hh)
  | fn f cs' vs hl hh => simp [cellsOf] at h; subst h; exact one _ _ rfl rfl (.fn f cs' vs hl hh)

theorem lay_length : ∀ (l cs : List SV) (off : Nat), (lay cs off l).length = cs.length
  | [], cs, off => rfl
  | s :: r, cs, off => by simp [lay, lay_length r]

theorem lay_get : ∀ (l cs : List SV) (off i : Nat), off + l.length ≤ cs.length → (lay cs off l)[i]? = if off ≤ i ∧ i < off + l.length then l[i - off]? else cs[i]?
  | [], cs, off, i, h => by simp [lay]; intro h1 h2; omega
  | s :: r, cs, off, i, h => by
    simp only [List.length_cons] at h
    rw [lay, lay_get r (cs.set off s) (off + 1) i (by simp; omega)]
    by_cases h1 : off + 1 ≤ i ∧ i < off + 1 + r.length
    · rw [if_pos h1, if_pos (by simp; omega)]
      rw [show i - off = (i - (off + 1)) + 1 by omega]
      simp
    · rw [if_neg h1]
      by_cases h2 : i = off
      · subst h2
        rw [if_pos (by simp)]
        simp [List.getElem?_set_self (show i < cs.length by omega)]
      · rw [if_neg (by simp; omega), List.getElem?_set_ne (by omega)]

/-- What the model's fold over cells gives. -/
theorem fold_set : ∀ (l : List Value) (cs : Array Value) (off k i : Nat), ((l.zipIdx k).foldl (fun cs (p : Value × Nat) => cs.setIfInBounds (off + p.2) p.1) cs)[i]? =
    if off + k ≤ i ∧ i < off + k + l.length ∧ i < cs.size then l[i - (off + k)]? else cs[i]?
  | [], cs, off, k, i => by simp; intro h1 h2; omega
  | v :: r, cs, off, k, i => by
    simp only [List.zipIdx_cons, List.foldl_cons]
    rw [fold_set r (cs.setIfInBounds (off + k) v) off (k + 1) i]
    simp only [Array.size_setIfInBounds, List.length_cons]
    by_cases h1 : off + (k + 1) ≤ i ∧ i < off + (k + 1) + r.length ∧ i < cs.size
    · rw [if_pos h1, if_pos (by omega), show i - (off + k) = (i - (off + (k + 1))) + 1 by omega]
      simp
    · rw [if_neg h1]
      by_cases h2 : i = off + k
      · subst h2
        by_cases h3 : off + k < cs.size
        · rw [if_pos (by omega)]; simp [h3]
        · rw [if_neg (by omega)]; simp [h3]
      · rw [if_neg (by omega), Array.getElem?_setIfInBounds_ne (by omega)]

theorem fold_size : ∀ (l : List (Value × Nat)) (cs : Array Value) (off : Nat), (l.foldl (fun cs (p : Value × Nat) => cs.setIfInBounds (off + p.2) p.1) cs).size = cs.size
  | [], cs, off => rfl
  | v :: r, cs, off => by simp only [List.foldl_cons]; rw [fold_size r]; simp

/-- The model's `fill` against ours. -/
theorem fill_sound {M : Nat → Prop} {place : Nat → Option (Nat × Nat)} : ∀ (parts : List (Nat × Nat × Option SV)) (vals : List (Nat × Value)) (cs cs' : List SV) (vs : Array Value),
    parts.length = vals.length →
    (∀ (k : Nat) off n s i v, parts[k]? = some (off, n, some s) → vals[k]? = some (i, v) → place i = some (off, n) ∧ Den w M s v) →
    cs.length = vs.size → (∀ (i : Nat) v, vs[i]? = some v → v.oneCell' = true) → (∀ (i : Nat) s v, cs[i]? = some s → vs[i]? = some v → Den w M s v) →
    fillSV cs parts = some cs' → ∃ vs', Instr.fill place vs vals = some vs' ∧ Den w M (.agg cs') (.agg vs') := by
  intro parts
  induction parts with
  | nil =>
    intro vals cs cs' vs hl hp hlen h1 hd h
    have : vals = [] := List.eq_nil_of_length_eq_zero (by simpa using hl.symm)
    subst this
    simp [fillSV] at h
    subst h
    exact ⟨vs, rfl, .agg cs vs hlen h1 hd⟩
  | cons p parts ih =>
    intro vals cs cs' vs hl hp hlen h1 hd h
    match vals, hl with
    | (i, v) :: vals, hl =>
      obtain ⟨off, n, os⟩ := p
      cases os with
      | none => simp [fillSV] at h
      | some s =>
        obtain ⟨hpl, hds⟩ := hp 0 off n s i v rfl rfl
        simp only [fillSV] at h
        split at h
        · rename_i l hcl
          split at h
          · rename_i hok
            obtain ⟨c1, c2, c3⟩ := cellsOf_sound hcl hds
            have hsz : v.cells.size = n := by rw [← c1]; exact hok.1
            let vs1 : Array Value := v.cells.zipIdx.foldl (fun cs (c, j) => cs.setIfInBounds (off + j) c) vs
            have hvs1 : vs1 = (v.cells.toList.zipIdx 0).foldl (fun cs (p : Value × Nat) => cs.setIfInBounds (off + p.2) p.1) vs := by
              show Array.foldl _ _ _ = _
              rw [← Array.foldl_toList, Array.toList_zipIdx]
            have hg : ∀ i, vs1[i]? = if off ≤ i ∧ i < off + v.cells.size ∧ i < vs.size then v.cells[i - off]? else vs[i]? := by
              intro i
              rw [hvs1, fold_set]
              simp
            have hs1 : vs1.size = vs.size := by rw [hvs1, fold_size]
            have hfit : off + v.cells.size ≤ vs.size := by rw [hsz, ← hlen]; exact hok.2
            obtain ⟨vs', hf, hdf⟩ := ih vals (lay cs off l) cs' vs1 (by simpa using hl) (fun k off' n' s' i' v' hk hv => hp (k + 1) off' n' s' i' v' (by simpa using hk) (by simpa using hv))
              (by rw [lay_length, hs1, hlen])
              (fun j u hj => by
                rw [hg] at hj
                split at hj
                · exact c2 _ _ hj
                · exact h1 _ _ hj)
              (fun j s' u hj hu => by
                rw [hg] at hu
                rw [lay_get _ _ _ _ (by rw [hok.1]; exact hok.2)] at hj
                by_cases hin : off ≤ j ∧ j < off + v.cells.size
                · rw [if_pos (by omega)] at hu
                  rw [if_pos (by omega)] at hj
                  exact c3 _ _ _ hj hu
                · rw [if_neg (by omega)] at hu
                  rw [if_neg (by omega)] at hj
                  exact hd _ _ _ hj hu)
              h
            refine ⟨vs', ?_, hdf⟩
            simp only [Instr.fill, hpl, hsz]
            rw [if_neg (by simp; omega)]
            exact hf
          · cases h
        · cases h
    | [], hl => simp at hl
end
end Go.Sx

namespace Go.Sx
set_option linter.unusedSimpArgs false
open Go Go.RowKit

section
variable {P : Program} {w0 : Base} {M0 : Nat → Prop} {L : Nat → Value} {tb : List Blk} {w : World} {G : Nat → Option Bool}

theorem run_v {s : Sem Value} {v : Value} {w' : World} (h : s.run P w = .ok v w') : (do pure (.value (← s)) : Sem Next).run P w = .ok (.value v) w' := by
  simp [Sem.run_bind, h]

theorem run_sure {a : Addr} : (Instr.sureAddr (.pointer (some a))).run P w = .ok a w := rfl

theorem fieldOf_spec {s : TypeId} {f off : Nat} {t : TypeId} (h : fieldOf P s f = some (off, t)) : ∃ fs fd, P.underlying s = some (.struct fs) ∧ fs[f]? = some fd ∧ fd.offset = off ∧ fd.type = t := by
  unfold fieldOf at h
  split at h
  · rename_i fs hu
    split at h
    · rename_i fd hf
      simp only [Option.some.injEq, Prod.mk.injEq] at h
      exact ⟨fs, fd, hu, hf, h.1, h.2⟩
    · cases h
  · cases h

theorem elemOf_spec {t e : TypeId} (h : elemOf? P t = some e) : P.underlying t = some (.slice e) := by
  unfold elemOf? at h
  split at h
  · rename_i e' hu; injection h with h; subst h; exact hu
  · cases h

theorem run_fieldAt {s : TypeId} {f off n : Nat} {t : TypeId} {b o : Nat} (h : fieldOf P s f = some (off, t)) (hn : sizeOf? P t = some (n + 1)) :
    (Instr.fieldAt s (.pointer (some ⟨b, o, none⟩)) f).run P w = .ok (.pointer (some ⟨b, o + off, none⟩)) w := by
  obtain ⟨fs, fd, hu, hf, rfl, rfl⟩ := fieldOf_spec h
  simp [Instr.fieldAt, Sem.run_bind, run_under hu, hf, run_sure, fieldPlace, run_sizeOf hn, add_none]

theorem run_part_one {t : TypeId} {vs : Array Value} {off : Nat} {v : Value} (h : isAgg? P t = some false) (hv : vs[off]? = some v) : (part t vs off).run P w = .ok v w := by
  simp [part, Sem.run_bind, run_isAgg h, hv]

theorem run_part_agg {t : TypeId} {vs : Array Value} {off n : Nat} (h : isAgg? P t = some true) (hn : sizeOf? P t = some n) : (part t vs off).run P w = .ok (.agg (vs.extract off (off + n))) w := by
  simp [part, Sem.run_bind, run_isAgg h, run_sizeOf hn]

theorem run_bound {k : IntKind} {n : Int} {y : Nat} {code : BoundsCode} (h0 : 0 ≤ n) (h1 : n ≤ y) : (Instr.sliceBound (.int k n) y code).run P w = .ok n.toNat w := by
  simp [Instr.sliceBound, Sem.run_bind, asIntOf, h0, h1]

theorem zeroOf_spec {t : TypeId} {z : List Value} (h : zeroOf P t = some z) : ∃ it v, P.info? t = some it ∧ it.zero = some v ∧ v.cells.toList = z ∧ ∀ u ∈ z, u.oneCell' = true := by
  unfold zeroOf at h
  split at h
  · rename_i it hit
    split at h
    · rename_i v hv
      split at h
      · rename_i hall
        injection h with h
        subst h
        exact ⟨it, v, hit, hv, rfl, fun u hu => by simpa using List.all_eq_true.1 hall u hu⟩
      · cases h
    · cases h
  · cases h

theorem slim_alloc {t : TypeId} {so : SOp} {ev' : Operand → LV} {r : LV × Prop} (hs : slimO P (.alloc t) = some so) (hp : pureOp P tb ev' so = some r) : False := by
  simp only [slimO] at hs
  split at hs
  · injection hs with hs; subst hs; simp [pureOp] at hp
  · cases hs
theorem slim_store {t : TypeId} {x v : Operand} {so : SOp} {ev' : Operand → LV} {r : LV × Prop} (hs : slimO P (.store t x v) = some so) (hp : pureOp P tb ev' so = some r) : False := by
  simp only [slimO] at hs
  split at hs
  · injection hs with hs; subst hs; simp [pureOp] at hp
  · cases hs
theorem slim_buildSlice {t : TypeId} {n : Nat} {ps : Array (Nat × Operand)} {so : SOp} {ev' : Operand → LV} {r : LV × Prop} (hs : slimO P (.buildSlice t n ps) = some so) (hp : pureOp P tb ev' so = some r) : False := by
  simp only [slimO] at hs
  split at hs
  · split at hs
    · split at hs
      · injection hs with hs; subst hs; simp [pureOp] at hp
      · cases hs
    · cases hs
  · cases hs
theorem slim_makeSlice {t : TypeId} {x v : Operand} {so : SOp} {ev' : Operand → LV} {r : LV × Prop} (hs : slimO P (.makeSlice t x v) = some so) (hp : pureOp P tb ev' so = some r) : False := by
  simp only [slimO] at hs
  split at hs
  · split at hs
    · split at hs
      · injection hs with hs; subst hs; simp [pureOp] at hp
      · cases hs
    · cases hs
  · cases hs

theorem slim_append {args : List Operand} {tys : List TypeId} {so : SOp} {ev' : Operand → LV} {r : LV × Prop} (hs : slimO P (.call ⟨.builtin .append, ⟨args⟩, ⟨tys⟩⟩) = some so) (hp : pureOp P tb ev' so = some r) : False := by
  match args, tys, hs with
  | [y, z], [t, u], hs =>
    simp only [slimO] at hs
    split at hs
    · split at hs
      · split at hs
        · injection hs with hs; subst hs; simp [pureOp] at hp
        · split at hs
          · injection hs with hs; subst hs; simp [pureOp] at hp
          · cases hs
      · cases hs
    · cases hs
  | [], _, hs => simp [slimO] at hs
  | [_], _, hs => simp [slimO] at hs
  | _ :: _ :: _ :: _, _, hs => simp [slimO] at hs
  | [_, _], [], hs => simp [slimO] at hs
  | [_, _], [_], hs => simp [slimO] at hs
  | [_, _], _ :: _ :: _ :: _, hs => simp [slimO] at hs

theorem slim_copy {args : List Operand} {tys : List TypeId} {so : SOp} {ev' : Operand → LV} {r : LV × Prop} (hs : slimO P (.call ⟨.builtin .copy, ⟨args⟩, ⟨tys⟩⟩) = some so) (hp : pureOp P tb ev' so = some r) : False := by
  match args, tys, hs with
  | [y, z], [t, u], hs =>
    simp only [slimO] at hs
    split at hs
    · split at hs
      · injection hs with hs; subst hs; simp [pureOp] at hp
      · cases hs
    · cases hs
  | [], _, hs => simp [slimO] at hs
  | [_], _, hs => simp [slimO] at hs
  | _ :: _ :: _ :: _, _, hs => simp [slimO] at hs
  | [_, _], [], hs => simp [slimO] at hs
  | [_, _], [_], hs => simp [slimO] at hs
  | [_, _], _ :: _ :: _ :: _, hs => simp [slimO] at hs

theorem slim_clear {args : List Operand} {tys : List TypeId} {so : SOp} {ev' : Operand → LV} {r : LV × Prop} (hs : slimO P (.call ⟨.builtin .clear, ⟨args⟩, ⟨tys⟩⟩) = some so) (hp : pureOp P tb ev' so = some r) : False := by
  match args, tys, hs with
  | [x], [t], hs =>
    simp only [slimO] at hs
    split at hs
    · split at hs
      · split at hs
        · injection hs with hs; subst hs; simp [pureOp] at hp
        · cases hs
      · cases hs
    · cases hs
  | [], _, hs => simp [slimO] at hs
  | _ :: _ :: _, _, hs => simp [slimO] at hs
  | [_], [], hs => simp [slimO] at hs
  | [_], _ :: _ :: _, hs => simp [slimO] at hs

theorem rowPart_sound (hI : Inv w0 M0 L tb w) {M : Nat → Prop} {x : LV} {v : Value} {j a b sz n : Nat} (h : rowPart tb x = some (j, a, b, sz, n)) (hd : LDen G w M L tb x v) :
    ∃ t mu get, tb[j]? = some (.row t sz n mu get) ∧ a ≤ b ∧ b ≤ n ∧ ((L j = .slice none 0 0 ∧ v = .slice none 0 0 ∧ n = 0) ∨
      ∃ g o c, L j = .slice (some ⟨g, 0, none⟩) n c ∧ (a = 0 ∨ a < c → o = a * sz) ∧ v = .slice (some ⟨g, o, none⟩) (b - a) (c - a) ∧ n ≤ c) := by
  have key : ∀ t mu get, tb[j]? = some (.row t sz n mu get) → (L j = .slice none 0 0 ∧ n = 0) ∨ ∃ g c, L j = .slice (some ⟨g, 0, none⟩) n c ∧ n ≤ c := by
    intro t mu get ht
    obtain ⟨xs, ⟨_, ho⟩, _⟩ := hI.ok j _ ht
    rcases ho with ⟨h1, h2⟩ | ⟨g, cap, cur, hL, _, _, hnc, _⟩
    · exact .inl ⟨h1, h2⟩
    · exact .inr ⟨g, cap, hL, hnc⟩
  unfold rowPart at h
  split at h
  · split at h
    · rename_i t sz' n' mu get ht
      simp only [Option.some.injEq, Prod.mk.injEq] at h
      obtain ⟨rfl, rfl, rfl, rfl, rfl⟩ := h
      obtain ⟨_, rfl⟩ := hd
      refine ⟨t, mu, get, ht, Nat.zero_le _, Nat.le_refl _, ?_⟩
      rcases key _ _ _ ht with ⟨h1, h2⟩ | ⟨g, c, hL, hc⟩
      · exact .inl ⟨h1, h1, h2⟩
      · exact .inr ⟨g, 0, c, hL, fun _ => by simp, by simpa using hL, hc⟩
    · cases h
  · split at h
    · rename_i t sz' n' mu get ht
      simp only [Option.some.injEq, Prod.mk.injEq] at h
      obtain ⟨rfl, rfl, rfl, rfl, rfl⟩ := h
      obtain ⟨n2, t2, sz2, mu2, get2, ht2, h1, h2, h3⟩ := hd
      rw [ht] at ht2
      simp only [Option.some.injEq, Blk.row.injEq] at ht2
      obtain ⟨rfl, rfl, rfl, rfl, rfl⟩ := ht2
      refine ⟨t, mu, get, ht, h1, h2, ?_⟩
      rcases key _ _ _ ht with ⟨k1, k2⟩ | ⟨g, c, hL, hc⟩
      · rcases h3 with ⟨_, h4⟩ | ⟨b, o, c, h4, _⟩
        · exact .inl ⟨k1, h4, k2⟩
        · rw [k1] at h4; cases h4
      · rcases h3 with ⟨h4, _⟩ | ⟨b, o, c', h4, h5, h6⟩
        · rw [hL] at h4; cases h4
        · rw [hL] at h4
          simp only [Value.slice.injEq, Option.some.injEq, Addr.mk.injEq] at h4
          obtain ⟨⟨rfl, _⟩, _, rfl⟩ := h4
          exact .inr ⟨g, o, c, hL, h5, h6, hc⟩
    · cases h
  · cases h

theorem natOpt {ρ : Operand → Value} {ev' : Operand → LV} {M : Nat → Prop} (hev : ∀ y, LDen G w M L tb (ev' y) (ρ y)) (q : Option Operand) (d r : Int) (hq : (q.map fun y => natOf (ev' y)).getD (some d) = some r) :
    (q = none ∧ d = r) ∨ ∃ z k, q = some z ∧ ρ z = .int k r := by
  cases q with
  | none => simp at hq; exact .inl ⟨rfl, hq⟩
  | some z =>
    simp at hq
    have hz := hev z
    unfold natOf at hq
    split at hq
    · rename_i k n' hx
      rw [hx] at hz
      injection hq with hq
      subst hq
      generalize hzv : ρ z = u at hz
      cases hz
      exact .inr ⟨z, k, rfl, hzv⟩
    · cases hq

theorem run_sliceBounds {ρ : Operand → Value} {ev' : Operand → LV} {M : Nat → Prop} (hev : ∀ y, LDen G w M L tb (ev' y) (ρ y)) {lo hi : Option Operand} {m c : Nat} {l h : Int}
    (hlo : (lo.map fun y => natOf (ev' y)).getD (some 0) = some l) (hhi : (hi.map fun y => natOf (ev' y)).getD (some (m : Int)) = some h) (h0 : 0 ≤ l) (h1 : l ≤ h) (h2 : h ≤ c) :
    (Instr.sliceBounds true m c (lo.map ρ) (hi.map ρ) none).run P w = .ok (l.toNat, h.toNat, c) w := by
  rcases natOpt hev lo 0 l hlo with ⟨rfl, rfl⟩ | ⟨z, k, rfl, hz⟩ <;> rcases natOpt hev hi m h hhi with ⟨rfl, rfl⟩ | ⟨z', k', rfl, hz'⟩
  · simp [Instr.sliceBounds]
  · simp [Instr.sliceBounds, hz', run_bound (P := P) (w := w) (show (0 : Int) ≤ h by omega) (show h ≤ (c : Int) by omega)]
  · simp [Instr.sliceBounds, hz, run_bound (P := P) (w := w) (show (0 : Int) ≤ l by omega) (show l ≤ (m : Int) by omega)]
  · simp [Instr.sliceBounds, hz, hz', run_bound (P := P) (w := w) (show (0 : Int) ≤ h by omega) (show h ≤ (c : Int) by omega), run_bound (P := P) (w := w) (show (0 : Int) ≤ l by omega) (show l ≤ (h.toNat : Int) by omega)]

theorem run_sliceBounds_any {w1 : World} {ρ : Operand → Value} {ev' : Operand → LV} {M : Nat → Prop} (hev : ∀ y, LDen G w M L tb (ev' y) (ρ y)) {lo hi : Option Operand} {m c : Nat} {l h : Int}
    (hlo : (lo.map fun y => natOf (ev' y)).getD (some 0) = some l) (hhi : (hi.map fun y => natOf (ev' y)).getD (some (m : Int)) = some h) (h0 : 0 ≤ l) (h1 : l ≤ h) (h2 : h ≤ c) :
    (Instr.sliceBounds true m c (lo.map ρ) (hi.map ρ) none).run P w1 = .ok (l.toNat, h.toNat, c) w1 := by
  rcases natOpt hev lo 0 l hlo with ⟨rfl, rfl⟩ | ⟨z, k, rfl, hz⟩ <;> rcases natOpt hev hi m h hhi with ⟨rfl, rfl⟩ | ⟨z', k', rfl, hz'⟩
  · simp [Instr.sliceBounds]
  · simp [Instr.sliceBounds, hz', run_bound (P := P) (w := w1) (show (0 : Int) ≤ h by omega) (show h ≤ (c : Int) by omega)]
  · simp [Instr.sliceBounds, hz, run_bound (P := P) (w := w1) (show (0 : Int) ≤ l by omega) (show l ≤ (m : Int) by omega)]
  · simp [Instr.sliceBounds, hz, hz', run_bound (P := P) (w := w1) (show (0 : Int) ≤ h by omega) (show h ≤ (c : Int) by omega), run_bound (P := P) (w := w1) (show (0 : Int) ≤ l by omega) (show l ≤ (h.toNat : Int) by omega)]

theorem findNow_int (q : IntKind) : ∀ (es : List MapEntry) (keys : List Int) (i : Nat) (n : Int), es.map (·.key) = keys.map (Value.int .i64) →
    (n ∉ keys ∧ Instr.findNow (.int q) (.int .i64 n) es i = some none) ∨ ∃ j e, keys[j]? = some n ∧ es[j]? = some e ∧ Instr.findNow (.int q) (.int .i64 n) es i = some (some (i + j, e.val))
  | [], keys, i, n, h => by
    cases keys with
    | nil => exact .inl ⟨by simp, rfl⟩
    | cons k r => simp at h
  | e :: es, keys, i, n, h => by
    cases keys with
    | nil => simp at h
    | cons k r =>
      simp only [List.map_cons, List.cons.injEq] at h
      simp only [Instr.findNow, h.1, Instr.sameNow, if_true]
      by_cases hk : n = k
      · subst hk
        right
        exact ⟨0, e, by simp, by simp, by simp⟩
      · have hb : (n == k) = false := by simpa using hk
        rw [hb]
        simp only []
        rcases findNow_int q es r (i + 1) n h.2 with ⟨h1, h2⟩ | ⟨j, e', h1, h2, h3⟩
        · exact .inl ⟨by simp [hk, h1], h2⟩
        · exact .inr ⟨j + 1, e', by simpa using h1, by simpa using h2, by rw [h3]; congr 3; omega⟩

theorem mapOf_spec {t : TypeId} {z : Value} (h : mapOf P t = some z) : ∃ k e, P.underlying t = some (.map k e) ∧ P.underlying k = some (.int .i64) ∧ (∀ w : World, (zeroValue e).run P w = .ok z w) ∧ ∀ u ∈ z.cells.toList, u.oneCell' = true := by
  unfold mapOf at h
  split at h
  · rename_i k e hu
    split at h
    · rename_i hk
      refine ⟨k, e, hu, hk, ?_⟩
      unfold zeroV at h
      split at h
      · rename_i it hi
        split at h
        · rename_i z' hz
          split at h
          · rename_i hall
            injection h with h
            subst h
            exact ⟨fun w => by simp [zeroValue, typeInfo, hi, hz], fun u hu' => (List.all_eq_true.1 hall) u hu'⟩
          · cases h
        · cases h
      · cases h
    · cases h
  · cases h

theorem checkKey_int {k : TypeId} {b : Bool} {n : Int} (hk : P.underlying k = some (.int .i64)) : (Instr.checkKey b 10000 k (.int .i64 n)).run P w = .ok () w := by
  have key : ∀ d, (Instr.checkKey b (d + 1) k (.int .i64 n)).run P w = .ok () w := by
    intro d
    simp [Instr.checkKey, run_under hk]
  exact key 9999

theorem ovl_run {t r e : TypeId} {ne : Nat} (hu : P.underlying t = some (.slice e)) (hsz : (P.info? e).map (·.size) = some ne) (A B : Option Addr) (la ca lb cb : Nat)
    (hAB : ∀ ad bd, A = some ad → B = some bd → la = 0 ∨ lb = 0 ∨ ne = 0 ∨ (ad.block ≠ bd.block ∧ (∃ cs tt fr, w.heap[ad.block]? = some (.cells cs tt fr) ∧ 0 < cs.size) ∧ ∃ cs tt, w.heap[bd.block]? = some (.cells cs tt (0, 0)))) :
    (Extern.SlicesOverlaps.overlaps #[t, t] #[r] #[.slice A la ca, .slice B lb cb]).run P w = .ok (.bool false) w := by
  have hszr : ∀ w : World, (sizeOf e).run P w = .ok ne w := by
    intro w
    obtain ⟨it, hit, hn⟩ := Option.map_eq_some_iff.1 hsz
    simp [sizeOf, typeInfo, hit, hn]
  change Sem.run P (α := Value) (do
    let some t := (#[t, t] : Array TypeId)[0]? | stuck "slices.overlaps: no parameter types"
    let .slice elem ← underlying t | stuck "slices.overlaps: slice type expected"
    let size ← sizeOf elem
    match A, B with
    | some a, some b =>
      if la = 0 ∨ lb = 0 ∨ size = 0 then pure (Value.bool false)
      else if a.block != b.block && (← frozen a) && (← frozen b) then unsupported .addressObserved
      else do
        if a.block != b.block then do
          noView a; noView b
          if ← mayBeOne a b then return Value.bool ((← choose (.extern "sameAddr.stringBytes" 2)) == 1)
        pure (Value.bool (a.block == b.block && a.off < b.off + lb * size && b.off < a.off + la * size))
    | _, _ => pure (Value.bool false)) w = _
  cases A with
  | none => simp [run_under hu, hszr]
  | some ad =>
    cases B with
    | none => simp [run_under hu, hszr]
    | some bd =>
      by_cases h0 : la = 0 ∨ lb = 0 ∨ ne = 0
      · simp [run_under hu, hszr, h0]
      · rcases hAB ad bd rfl rfl with h | h | h | ⟨hne, ⟨cs, tt, fr, hha, hcs⟩, cs', tt', hhb⟩
        · exact absurd (.inl h) h0
        · exact absurd (.inr (.inl h)) h0
        · exact absurd (.inr (.inr h)) h0
        · have hnb : (ad.block != bd.block) = true := by simpa using hne
          have hnb' : (ad.block == bd.block) = false := by simpa using hne
          have hsa : w.shape? ad.block = some (tt, cs.size) := by simp [World.shape?, hha]
          have hsb : w.shape? bd.block = some (tt', cs'.size) := by simp [World.shape?, hhb]
          have hfb : ∀ q, w.frozen? { block := bd.block, off := q } = false := by intro q; simp [World.frozen?, hhb]
          have hfb' : w.frozen? bd = false := by simp [World.frozen?, hhb]
          obtain ⟨k, hk⟩ : ∃ k, cs.size = k + 1 := ⟨cs.size - 1, by omega⟩
          rw [hk] at hsa
          simp [run_under hu, hszr, h0, hnb, hnb', frozen, noView, viewAt, mayBeOne, stringish, shape, Sem.run, hsa, hsb, hfb, hfb']

theorem nmMap_sound {ev' : Operand → LV} {ρ : Operand → Value} (hev : ∀ y, LDen G w (mset M0 tb L) L tb (ev' y) (ρ y)) : ∀ (n i : Nat) (v : Value), nmMap tb ev' n = some (i, v) → L i = v
  | 0, i, v, h => by simp [nmMap] at h
  | n + 1, i, v, h => by
    simp only [nmMap] at h
    split at h
    · rename_i r hr; injection h with h; subst h; exact nmMap_sound hev n i v hr
    · split at h
      · rename_i j u _ hj
        split at h
        · rename_i e
          subst e
          simp only [Option.some.injEq, Prod.mk.injEq] at h
          obtain ⟨rfl, rfl⟩ := h
          have := hev (.tmp (nmSlot j))
          rw [hj] at this
          exact this.2
        · cases h
      · cases h

theorem mapOfLV_sound {ev' : Operand → LV} {ρ : Operand → Value} (hev : ∀ y, LDen G w (mset M0 tb L) L tb (ev' y) (ρ y)) {x : LV} {v : Value} {i : Nat} {obs : List Prop} (h : mapOfLV tb ev' x = some (i, obs)) (ho : AllP obs)
    (hx : LDen G w (mset M0 tb L) L tb x v) : v = L i := by
  unfold mapOfLV at h
  split at h
  · simp only [Option.some.injEq, Prod.mk.injEq] at h
    obtain ⟨rfl, rfl⟩ := h
    exact hx.2
  · split at h
    · rename_i u _ j u' hn
      simp only [Option.some.injEq, Prod.mk.injEq] at h
      obtain ⟨rfl, rfl⟩ := h
      have h1 := nmMap_sound hev _ _ _ hn
      have hd : Den w (mset M0 tb L) (.val u) v := hx
      cases hd
      rw [h1]; exact ho.1.symm
    · cases h
  · cases h

theorem pure_sound {o : Oper} {so : SOp} {ρ : Operand → Value} {ev' : Operand → LV} {x : LV} {ob : Prop} (hs : slimO P o.op = some so) (hp : pureOp P tb ev' so = some (x, ob)) (hob : ob)
    (hI : Inv w0 M0 L tb w) (hM0 : Safe w0 M0) (hev : ∀ y, LDen G w (mset M0 tb L) L tb (ev' y) (ρ y)) :
    ∃ v, (execOp ρ o).run P w = .ok (.value v) w ∧ LDen G w (mset M0 tb L) L tb x v := by
  obtain ⟨dst, op, type, pos, after, guard⟩ := o
  simp only at hs
  cases op with
  | move y =>
    simp [slimO] at hs; subst hs
    simp only [pureOp, Option.some.injEq, Prod.mk.injEq] at hp
    obtain ⟨rfl, rfl⟩ := hp
    exact ⟨ρ y, rfl, hev y⟩
  | assign y =>
    simp [slimO] at hs; subst hs
    simp only [pureOp, Option.some.injEq, Prod.mk.injEq] at hp
    obtain ⟨rfl, rfl⟩ := hp
    exact ⟨ρ y, rfl, hev y⟩
  | load t y =>
    simp only [slimO] at hs
    split at hs
    · rename_i n ha hn
      injection hs with hs; subst hs
      simp only [pureOp] at hp
      split at hp
      · rename_i cs off hadr
        simp only [Option.some.injEq, Prod.mk.injEq] at hp
        obtain ⟨rfl, rfl⟩ := hp
        obtain ⟨b, o, hv, hc⟩ := addrOf_sound hI hadr (hev y)
        obtain ⟨vs, hr, hd⟩ := loadCells_sound (P := P) hc hob
        refine ⟨.agg vs, run_v ?_, hd⟩
        simp [Instr.loadAt, Sem.run_bind, hv, run_sure, loadVar, run_isAgg ha, run_sizeOf hn, hr]
      · cases hp
    · rename_i n ha hn
      injection hs with hs; subst hs
      simp only [pureOp] at hp
      split at hp
      · rename_i cs off hadr
        split at hp
        · rename_i s hcs
          simp only [Option.some.injEq, Prod.mk.injEq] at hp
          obtain ⟨rfl, rfl⟩ := hp
          obtain ⟨b, o, hv, hc⟩ := addrOf_sound hI hadr (hev y)
          obtain ⟨u, hu, _, hd⟩ := hc off s hcs
          refine ⟨u, run_v ?_, hd⟩
          simp [Instr.loadAt, Sem.run_bind, hv, run_sure, loadVar, run_isAgg ha, hu]
        · cases hp
      · cases hp
    · cases hs
  | fieldAddr s y f =>
    simp only [slimO] at hs
    split at hs
    · rename_i off t hf
      split at hs
      · rename_i n hn
        injection hs with hs; subst hs
        simp only [pureOp] at hp
        have hy := hev y
        split at hp
        · rename_i i o hx
          rw [hx] at hy
          simp only [Option.some.injEq, Prod.mk.injEq] at hp
          obtain ⟨rfl, rfl⟩ := hp
          obtain ⟨hi, b, hl, hv⟩ := hy
          exact ⟨_, run_v (by rw [hv]; exact run_fieldAt hf hn), hi, b, hl, rfl⟩
        · rename_i i k o hx
          rw [hx] at hy
          simp only [Option.some.injEq, Prod.mk.injEq] at hp
          obtain ⟨rfl, rfl⟩ := hp
          obtain ⟨b, n', c, t', sz, mu, get, ht, hl, hk, hv⟩ := hy
          exact ⟨_, run_v (by rw [hv]; exact run_fieldAt hf hn), b, n', c, t', sz, mu, get, ht, hl, hk, by rw [Nat.add_assoc]⟩
        · rename_i cs o hx
          rw [hx] at hy
          simp only [Option.some.injEq, Prod.mk.injEq] at hp
          obtain ⟨rfl, rfl⟩ := hp
          generalize hv : ρ y = v at hy
          cases hy with
          | ref _ _ b o' val h1 h2 h3 h4 h5 =>
            refine ⟨_, run_v (by rw [hv]; exact run_fieldAt hf hn), ?_⟩
            rw [Nat.add_assoc]
            exact .ref cs (o + off) b o' val h1 h2 h3 h4 h5
        · cases hp
      · cases hs
    · cases hs
  | indexAddr t y z =>
    simp only [slimO] at hs
    have hy := hev y
    have hz := hev z
    split at hs
    · rename_i e hu
      split at hs
      · rename_i n hn
        injection hs with hs; subst hs
        simp only [pureOp] at hp
        split at hp
        · rename_i sz' m get kk k hx1 hx2
          rw [hx1] at hy
          rw [hx2] at hz
          simp only [Option.some.injEq, Prod.mk.injEq] at hp
          obtain ⟨rfl, rfl⟩ := hp
          obtain ⟨rfl, h0, h1⟩ := hob
          generalize hv : ρ y = v at hy
          generalize hu' : ρ z = u at hz
          cases hz
          cases hy with
          | lst _ _ _ A c b o val hc hm hA hM hb hzz h1c hcell hd =>
            have hpos : 0 < m := by omega
            have hkn : k.toNat < m := by omega
            refine ⟨.pointer (some ⟨b, o + k.toNat * sz', none⟩), run_v ?_, ?_⟩
            · simp [hv, hu', Instr.indexAt, Sem.run_bind, asIntOf, run_under hu, hA hpos, h0, h1, run_sizeOf hn, add_none]
            · exact .ref (get k.toNat) 0 b (o + k.toNat * sz') (fun j => val k.toNat j) (hM hpos) (hb hpos) (fun j s hj => h1c _ j s hkn hj) (fun j s hj => by rw [Nat.add_assoc]; exact hcell _ j s hkn hj) (fun j s hj => hd _ j s hkn hj)
        · rename_i j kk k hx1 hx2
          rw [hx1] at hy
          rw [hx2] at hz
          split at hp
          · rename_i t' sz' m mu get hrow
            simp only [Option.some.injEq, Prod.mk.injEq] at hp
            obtain ⟨rfl, rfl⟩ := hp
            obtain ⟨rfl, h0, h1⟩ := hob
            generalize hu' : ρ z = u at hz
            cases hz
            obtain ⟨_, hv⟩ := hy
            have hpos : 0 < m := by omega
            obtain ⟨xs, ⟨_, ho⟩, _⟩ := hI.ok j _ hrow
            rcases ho with ⟨_, h00⟩ | ⟨g, cap, cur, hL, _⟩
            · omega
            · refine ⟨.pointer (some ⟨g, k.toNat * sz', none⟩), run_v ?_, g, m, cap, t', sz', mu, get, hrow, hL, by omega, rfl⟩
              simp [hv, hL, hu', Instr.indexAt, Sem.run_bind, asIntOf, run_under hu, h0, h1, run_sizeOf hn, add_none]
          · cases hp
        · rename_i j a b kk k hx1 hx2
          rw [hx1] at hy
          rw [hx2] at hz
          split at hp
          · rename_i t' sz' m mu get hrow
            simp only [Option.some.injEq, Prod.mk.injEq] at hp
            obtain ⟨rfl, rfl⟩ := hp
            obtain ⟨rfl, h0, h1⟩ := hob
            generalize hu' : ρ z = u at hz
            cases hz
            have hrp : rowPart tb (.part j a b) = some (j, a, b, sz', m) := by simp [rowPart, hrow]
            obtain ⟨t2, mu2, get2, hrow2, hab, hbn, hc⟩ := rowPart_sound hI hrp hy
            rcases hc with ⟨_, _, h00⟩ | ⟨g, o, c, hL, ho, hv, hnc⟩
            · omega
            · have ho' := ho (by omega)
              subst ho'
              refine ⟨.pointer (some ⟨g, (a + k.toNat) * sz', none⟩), run_v ?_, g, m, c, t', sz', mu, get, hrow, hL, by omega, by simp⟩
              have h1' : k < ((b - a : Nat) : Int) := by omega
              simp [hv, hu', Instr.indexAt, Sem.run_bind, asIntOf, run_under hu, h0, h1', run_sizeOf hn, add_none, Nat.add_mul]
          · cases hp
        · cases hp
      · cases hs
    · rename_i len e hu
      split at hs
      · rename_i n hn
        injection hs with hs; subst hs
        simp only [pureOp] at hp
        split at hp
        · rename_i j o kk k hx1 hx2
          rw [hx1] at hy
          rw [hx2] at hz
          simp only [Option.some.injEq, Prod.mk.injEq] at hp
          obtain ⟨rfl, rfl⟩ := hp
          generalize hu' : ρ z = u at hz
          cases hz
          obtain ⟨hi, b, hl, hv⟩ := hy
          refine ⟨.pointer (some ⟨b, o + k.toNat * n, none⟩), run_v ?_, hi, b, hl, rfl⟩
          simp [hv, hu', Instr.indexAt, Sem.run_bind, asIntOf, run_under hu, run_sure, hob.1, hob.2, run_sizeOf hn, add_none]
        · rename_i cs o kk k hx1 hx2
          rw [hx1] at hy
          rw [hx2] at hz
          simp only [Option.some.injEq, Prod.mk.injEq] at hp
          obtain ⟨rfl, rfl⟩ := hp
          generalize hv : ρ y = v at hy
          generalize hu' : ρ z = u at hz
          cases hz
          cases hy with
          | ref _ _ b o' val h1 h2 h3 h4 h5 =>
            refine ⟨.pointer (some ⟨b, o' + (o + k.toNat * n), none⟩), run_v ?_, .ref cs _ b o' val h1 h2 h3 h4 h5⟩
            simp [hv, hu', Instr.indexAt, Sem.run_bind, asIntOf, run_under hu, run_sure, hob.1, hob.2, run_sizeOf hn, add_none, Nat.add_assoc]
        · rename_i j q kk k hx1 hx2
          rw [hx1] at hy
          rw [hx2] at hz
          split at hp
          · rename_i t' sz' m mu get hrow
            simp only [Option.some.injEq, Prod.mk.injEq] at hp
            obtain ⟨rfl, rfl⟩ := hp
            obtain ⟨rfl, h0, h1, h2⟩ := hob
            generalize hu' : ρ z = u at hz
            cases hz
            obtain ⟨b, n', c, t2, sz2, mu2, get2, ht, hl, hk, hv⟩ := hy
            rw [hrow] at ht
            injection ht with ht
            injection ht with q1 q2 q3 q4 q5
            subst q1 q2 q3 q4 q5
            refine ⟨.pointer (some ⟨b, (q + k.toNat) * sz', none⟩), run_v ?_, b, m, c, t', sz', mu, get, hrow, hl, h2, rfl⟩
            simp [hv, hu', Instr.indexAt, Sem.run_bind, asIntOf, run_under hu, run_sure, h0, h1, run_sizeOf hn, add_none, Nat.add_mul]
          · cases hp
        · cases hp
      · cases hs
    · cases hs
  | binOp op t y z ty =>
    simp only [slimO] at hs
    have hy := hev y
    have hz := hev z
    have hA : ∀ ne, so = .binA ne t y z → (if ne then BinOp.neq else BinOp.eql) = op → ∃ v, (execOp ρ ⟨dst, .binOp op t y z ty, type, pos, after, guard⟩).run P w = .ok (.value v) w ∧ LDen G w (mset M0 tb L) L tb x v := by
      rintro ne rfl rfl
      simp only [pureOp] at hp
      split at hp
      · rename_i a b hx1 hx2
        rw [hx1] at hy
        rw [hx2] at hz
        split at hp
        · rename_i as bs ha hb
          simp only [Option.some.injEq, Prod.mk.injEq] at hp
          obtain ⟨rfl, rfl⟩ := hp
          generalize hv : ρ y = v at hy
          generalize hu' : ρ z = u at hz
          cases hy with
          | agg _ va hla _ hda =>
            cases hz with
            | agg _ vb hlb _ hdb =>
              have e1 := intsOf_sound (w := w) (M := mset M0 tb L) a as va.toList ha (by simpa using hla) (by simpa using hda)
              have e2 := intsOf_sound (w := w) (M := mset M0 tb L) b bs vb.toList hb (by simpa using hlb) (by simpa using hdb)
              have e1' : va = (as.map (Value.int .i64)).toArray := by rw [← e1]
              have e2' : vb = (bs.map (Value.int .i64)).toArray := by rw [← e2]
              refine ⟨_, run_v ?_, .bool _⟩
              rw [hv, hu', e1', e2']
              exact hob.1 w ne y z as bs rfl hob.2.symm
        · cases hp
      · cases hp
    split at hs
    · injection hs with hs; subst hs
      simp only [pureOp] at hp
      split at hp
      · rename_i a b hx1 hx2
        rw [hx1] at hy
        rw [hx2] at hz
        split at hp
        · rename_i s ob' hb
          simp only [Option.some.injEq, Prod.mk.injEq] at hp
          obtain ⟨rfl, rfl⟩ := hp
          obtain ⟨r, hr, hd⟩ := binSV_sound (P := P) (t := t) (x := y) (y := z) hb hob hy hz
          exact ⟨r, run_v hr, hd⟩
        · cases hp
      · cases hp
    · rename_i hu
      injection hs with hs; subst hs
      simp only [pureOp] at hp
      split at hp
      · rename_i a b hx1 hx2
        rw [hx1] at hy
        rw [hx2] at hz
        split at hp
        · rename_i s ob' hb
          simp only [Option.some.injEq, Prod.mk.injEq] at hp
          obtain ⟨rfl, rfl⟩ := hp
          obtain ⟨r, hr, hd⟩ := binB_sound (P := P) (x := y) (y := z) hu hb hy hz
          exact ⟨r, run_v hr, hd⟩
        · cases hp
      · cases hp
    · split at hs
      · injection hs with hs; exact hA false hs.symm rfl
      · injection hs with hs; exact hA true hs.symm rfl
      · cases hs
    · split at hs
      · injection hs with hs; exact hA false hs.symm rfl
      · injection hs with hs; exact hA true hs.symm rfl
      · cases hs
    · split at hs
      · split at hs
        · split at hs
          · injection hs with hs; subst hs; simp [pureOp] at hp
          · injection hs with hs; subst hs; simp [pureOp] at hp
          · cases hs
        · cases hs
      · cases hs
    · cases hs
  | unOp op t y =>
    simp only [slimO, Option.some.injEq] at hs; subst hs
    have hy := hev y
    simp only [pureOp] at hp
    split at hp
    · rename_i a hx
      rw [hx] at hy
      generalize hv : ρ y = v at hy
      split at hp
      · rename_i s ob' hb
        simp only [Option.some.injEq, Prod.mk.injEq] at hp
        obtain ⟨rfl, rfl⟩ := hp
        cases hy with
        | int k n =>
          cases op <;> simp only [unSV, Option.some.injEq, Prod.mk.injEq, reduceCtorEq] at hb
          obtain ⟨rfl, rfl⟩ := hb
          refine ⟨_, run_v ?_, .int _ _⟩
          rw [hv]
          simp only [Op.unary, Op.intArith, wrap_in hob]
          rfl
        | bool b =>
          cases op <;> simp only [unSV, Option.some.injEq, Prod.mk.injEq, reduceCtorEq] at hb
          obtain ⟨rfl, rfl⟩ := hb
          refine ⟨_, run_v ?_, .bool _⟩
          rw [hv]
          rfl
        | val =>
          cases v with
          | int k n =>
            cases op <;> simp only [unSV, Option.some.injEq, Prod.mk.injEq, reduceCtorEq] at hb
            obtain ⟨rfl, rfl⟩ := hb
            refine ⟨_, run_v ?_, .val _⟩
            rw [hv]
            simp only [Op.unary, Op.intArith]
            rfl
          | _ => simp [unSV] at hb
        | _ => simp [unSV] at hb
      · cases hp
    · cases hp
  | convert s d y =>
    simp only [slimO] at hs
    split at hs
    · rename_i k1 k2 hu1 hu2
      injection hs with hs; subst hs
      have hy := hev y
      simp only [pureOp] at hp
      split at hp
      · rename_i k n hx
        rw [hx] at hy
        simp only [Option.some.injEq, Prod.mk.injEq] at hp
        obtain ⟨rfl, rfl⟩ := hp
        generalize hv : ρ y = v at hy
        cases hy
        refine ⟨_, run_v ?_, .int _ _⟩
        rw [hv]
        simp [convert, Sem.run_bind, run_under hu1, run_under hu2, Conv.intToInt, wrap_in hob]
      · cases hp
    · cases hs
  | extract y i =>
    simp only [slimO, Option.some.injEq] at hs; subst hs
    have hy := hev y
    simp only [pureOp] at hp
    split at hp
    · rename_i vs hx
      rw [hx] at hy
      split at hp
      · rename_i s hi
        simp only [Option.some.injEq, Prod.mk.injEq] at hp
        obtain ⟨rfl, rfl⟩ := hp
        generalize hv : ρ y = v at hy
        cases hy with
        | tup _ us hl hh =>
          have hlt : i < us.size := by rw [← hl]; exact (List.getElem?_eq_some_iff.1 hi).1
          refine ⟨us[i], run_v ?_, hh i s _ hi (by simp [hlt])⟩
          rw [hv]
          simp [Instr.extract, hlt]
      · cases hp
    · cases hp
  | field s y f =>
    simp only [slimO] at hs
    split at hs
    · rename_i off t hf
      obtain ⟨fs, fd, hu, hfd, rfl, rfl⟩ := fieldOf_spec hf
      have hy := hev y
      split at hs
      · rename_i n ha hn
        injection hs with hs; subst hs
        simp only [pureOp] at hp
        split at hp
        · rename_i cs hx
          rw [hx] at hy
          simp only [Option.some.injEq, Prod.mk.injEq] at hp
          obtain ⟨rfl, rfl⟩ := hp
          generalize hv : ρ y = v at hy
          cases hy with
          | agg _ vs hl h1 hh =>
            refine ⟨.agg (vs.extract fd.offset (fd.offset + n)), run_v ?_, ?_⟩
            · rw [hv]
              simp [Instr.field, Sem.run_bind, run_under hu, hfd, asAgg, run_part_agg ha hn]
            · refine .agg _ _ ?_ ?_ ?_
              · simp; omega
              · intro i v' hi
                rw [Array.getElem?_extract] at hi
                split at hi
                · exact h1 _ _ hi
                · cases hi
              · intro i s' v' hs' hi
                rw [Array.getElem?_extract] at hi
                split at hi
                · have hlt : i < n := by omega
                  rw [List.getElem?_take_of_lt hlt, List.getElem?_drop] at hs'
                  exact hh _ _ _ hs' hi
                · cases hi
        · cases hp
      · rename_i n ha hn
        injection hs with hs; subst hs
        simp only [pureOp] at hp
        split at hp
        · rename_i cs hx
          rw [hx] at hy
          split at hp
          · rename_i s' hcs
            simp only [Option.some.injEq, Prod.mk.injEq] at hp
            obtain ⟨rfl, rfl⟩ := hp
            generalize hv : ρ y = v at hy
            cases hy with
            | agg _ vs hl h1 hh =>
              have hlt : fd.offset < vs.size := by rw [← hl]; exact (List.getElem?_eq_some_iff.1 hcs).1
              refine ⟨vs[fd.offset], run_v ?_, hh _ _ _ hcs (by simp [hlt])⟩
              rw [hv]
              simp [Instr.field, Sem.run_bind, run_under hu, hfd, asAgg, run_part_one ha (show vs[fd.offset]? = some vs[fd.offset] by simp [hlt])]
          · cases hp
        · cases hp
      · cases hs
    · cases hs
  | makeFunc fn first caps =>
    have hcase : ∃ f, fn = .func f ∧ first = ⟨[]⟩ ∧ so = .mkfn f caps.toList := by
      cases fn with
      | func f =>
        obtain ⟨l⟩ := first
        cases l with
        | nil => simp [slimO] at hs; exact ⟨f, rfl, rfl, hs.symm⟩
        | cons _ _ => simp [slimO] at hs
      | _ => simp [slimO] at hs
    obtain ⟨f, rfl, rfl, rfl⟩ := hcase
    simp only [pureOp] at hp
    split at hp
    · rename_i l hl
      simp only [Option.some.injEq, Prod.mk.injEq] at hp
      obtain ⟨rfl, rfl⟩ := hp
      obtain ⟨h1, h2⟩ := optList_get _ _ hl
      refine ⟨.func (.func f) #[] (caps.map ρ), by simp [execOp, Instr.makeFunc], .fn f l _ (by simpa using h1.symm) fun i s v hi hv => ?_⟩
      have := h2 i s hi
      simp only [List.getElem?_map, Option.map_eq_some_iff] at this
      obtain ⟨y, hy, hsh⟩ := this
      rw [Array.getElem?_map] at hv
      have hy' : caps[i]? = some y := by simpa using hy
      rw [hy'] at hv
      simp at hv
      subst hv
      exact shut_den hI hM0 hsh (hev y)
    · cases hp
  | build t parts =>
    simp only [slimO] at hs
    split at hs
    · rename_i place z hpl hz
      split at hs
      · rename_i ps hps
        injection hs with hs; subst hs
        obtain ⟨h1, h2⟩ := optList_get _ _ hps
        obtain ⟨it, zv, hit, hzv, hzc, hz1⟩ := zeroOf_spec hz
        simp only [pureOp] at hp
        split at hp
        · rename_i l hl
          simp only [Option.some.injEq, Prod.mk.injEq] at hp
          obtain ⟨rfl, rfl⟩ := hp
          have hone : ∀ (i : Nat) v, zv.cells[i]? = some v → v.oneCell' = true := fun i v hv => hz1 v (by rw [← hzc]; exact Array.mem_toList_iff.2 (Array.mem_of_getElem? hv))
          have hz' : (z.map SV.val).length = zv.cells.size := by rw [← hzc]; simp
          have hzd : ∀ (i : Nat) s v, (z.map SV.val)[i]? = some s → zv.cells[i]? = some v → Den w (mset M0 tb L) s v := by
            intro i s v hi hv
            rw [← hzc] at hi
            simp only [List.getElem?_map, Array.getElem?_toList, hv, Option.map_some, Option.some.injEq] at hi
            subst hi
            exact .val v
          obtain ⟨vs', hf, hd⟩ : ∃ vs', Instr.fill place zv.cells (parts.toList.map fun p => (p.1, ρ p.2)) = some vs' ∧ Den w (mset M0 tb L) (.agg l) (.agg vs') := by
            refine fill_sound _ _ _ _ _ (by simp at h1 ⊢; omega) (fun k off n s i v hk hv => ?_) hz' hone hzd hl
            simp only [List.getElem?_map, Option.map_eq_some_iff] at hk hv
            obtain ⟨⟨o1, o2, o3⟩, hk1, hk2⟩ := hk
            obtain ⟨⟨i', x'⟩, hv1, hv2⟩ := hv
            simp only [Prod.mk.injEq] at hk2 hv2
            obtain ⟨rfl, rfl, hk2⟩ := hk2
            obtain ⟨rfl, rfl⟩ := hv2
            have hpo := h2 k _ hk1
            simp only [List.getElem?_map, hv1, Option.map_some, Option.some.injEq, partOf] at hpo
            split at hpo
            · rename_i o n hpi
              simp only [Option.some.injEq, Prod.mk.injEq] at hpo
              obtain ⟨rfl, rfl, rfl⟩ := hpo
              exact ⟨hpi, shut_den hI hM0 hk2 (hev _)⟩
            · cases hpo
          refine ⟨.agg vs', run_v (run_build w t _ vs' ?_), hd⟩
          unfold placeOf at hpl
          have hmap : (Array.map (fun x => (x.fst, ρ x.snd)) parts).toList = parts.toList.map fun p => (p.1, ρ p.2) := by simp
          unfold Program.built
          split at hpl
          · rename_i len e hu
            split at hpl
            · rename_i ie hie
              injection hpl with hpl
              subst hpl
              simp only [hit, hu, hzv, hie]
              rw [hmap]
              exact hf
            · cases hpl
          · rename_i fields hu
            split at hpl
            · rename_i places hpp
              injection hpl with hpl
              subst hpl
              simp only [hit, hu, hzv, hpp]
              rw [hmap]
              exact hf
            · cases hpl
          · cases hpl
        · cases hp
      · cases hs
    · cases hs
  | slice t y lo hi mx =>
    cases mx with
    | some mx =>
      simp only [slimO] at hs
      split at hs
      · rename_i e he
        have hu := elemOf_spec he
        split at hs
        · rename_i n hn
          injection hs with hs; subst hs
          simp only [pureOp] at hp
          split at hp
          · rename_i j a b sz' m hrp
            obtain ⟨t2, mu2, get2, hrow2, hab, hbn, hc⟩ := rowPart_sound hI hrp (hev y)
            split at hp
            · rename_i l h mm hlo hhi hmx
              simp only [Option.some.injEq, Prod.mk.injEq] at hp
              obtain ⟨rfl, rfl⟩ := hp
              obtain ⟨hsz, h0, h1, h2, h3⟩ := hob
              have hmx' := natOpt hev (some mx) 0 mm (by simpa using hmx)
              have hhi' : (hi.map fun y => natOf (ev' y)).getD (some 0) = some h := by rw [hhi]; rfl
              rcases hmx' with ⟨hx, _⟩ | ⟨z3, k3, hz3, hm3⟩
              · cases hx
              injection hz3 with hz3
              subst hz3
              have hbd : ∀ len c : Nat, mm ≤ c → (Instr.sliceBounds true len c (lo.map ρ) (hi.map ρ) (some (ρ mx))).run P w = .ok (l.toNat, h.toNat, mm.toNat) w := by
                intro len c hmc
                rcases natOpt hev hi 0 h hhi' with ⟨rfl, _⟩ | ⟨z', k', rfl, hz'⟩
                · cases hhi
                rcases natOpt hev lo 0 l hlo with ⟨rfl, rfl⟩ | ⟨z, k, rfl, hz⟩
                · simp [Instr.sliceBounds, hz', hm3, run_bound (P := P) (w := w) (show (0 : Int) ≤ mm by omega) (show mm ≤ (c : Int) by omega), run_bound (P := P) (w := w) (show (0 : Int) ≤ h by omega) (show h ≤ (mm.toNat : Int) by omega)]
                · simp [Instr.sliceBounds, hz, hz', hm3, run_bound (P := P) (w := w) (show (0 : Int) ≤ mm by omega) (show mm ≤ (c : Int) by omega), run_bound (P := P) (w := w) (show (0 : Int) ≤ h by omega) (show h ≤ (mm.toNat : Int) by omega), run_bound (P := P) (w := w) (show (0 : Int) ≤ l by omega) (show l ≤ (h.toNat : Int) by omega)]
              rcases hc with ⟨_, hv, h00⟩ | ⟨g, o, c, hL, ho, hv, hnc⟩
              · refine ⟨.slice (if mm.toNat = l.toNat then none else Option.map (fun z : Addr => z.add (l.toNat * n)) none) (h.toNat - l.toNat) (mm.toNat - l.toNat), run_v ?_, trivial⟩
                simp only [Instr.sliceAt, Sem.run_bind, run_under hu, Result.andThen_ok, Instr.slice, hv, Option.map_some, hbd 0 0 (by omega), run_sizeOf hn, Sem.run_pure]
              · refine ⟨.slice (if mm.toNat = l.toNat then some ⟨g, o, none⟩ else Option.map (fun z : Addr => z.add (l.toNat * n)) (some ⟨g, o, none⟩)) (h.toNat - l.toNat) (mm.toNat - l.toNat), run_v ?_, trivial⟩
                simp only [Instr.sliceAt, Sem.run_bind, run_under hu, Result.andThen_ok, Instr.slice, hv, Option.map_some, hbd (b - a) (c - a) (by omega), run_sizeOf hn, Sem.run_pure]
            · cases hp
          · cases hp
        · cases hs
      · cases hs
    | none =>
      simp only [slimO] at hs
      split at hs
      · rename_i e he
        have hu := elemOf_spec he
        split at hs
        · rename_i n hn
          injection hs with hs; subst hs
          simp only [pureOp] at hp
          split at hp
          · rename_i hsh
            have hy := shut_den hI hM0 hsh (hev y)
            split at hp
            · rename_i l h hlo hhi
              simp only [Option.some.injEq, Prod.mk.injEq] at hp
              obtain ⟨rfl, rfl⟩ := hp
              obtain ⟨rfl, rfl⟩ := hob
              generalize hv : ρ y = v at hy
              cases hy
              have hbd := run_sliceBounds (P := P) hev (m := 0) (c := 0) hlo hhi (Int.le_refl _) (Int.le_refl _) (by omega)
              refine ⟨.slice none 0 0, run_v ?_, .val _⟩
              simp [Instr.sliceAt, Sem.run_bind, run_under hu, Result.andThen_ok, Instr.slice, hv, hbd, run_sizeOf hn, Sem.run_pure]
            · cases hp
          · rename_i s _ hsh
            have hy := shut_den hI hM0 hsh (hev y)
            split at hp
            · rename_i m get hls
              split at hp
              · rename_i l h hlo hhi
                simp only [Option.some.injEq, Prod.mk.injEq] at hp
                obtain ⟨rfl, rfl⟩ := hp
                obtain ⟨hsz, h0, h1, h2⟩ := hob
                have hd := den_lstOf' hls hsz hy
                generalize hv : ρ y = v at hd
                cases hd with
                | lst _ _ _ A c b o val hc hm hA hM hb hzz h1c hcell hdd =>
                  have hopt : ∀ (q : Option Operand) (d r : Int), (q.map fun y => natOf (ev' y)).getD (some d) = some r → (q = none ∧ d = r) ∨ ∃ z k, q = some z ∧ ρ z = .int k r := by
                    intro q d r hq
                    cases q with
                    | none => simp at hq; exact .inl ⟨rfl, hq⟩
                    | some z =>
                      simp at hq
                      have hz := hev z
                      unfold natOf at hq
                      split at hq
                      · rename_i k n' hx
                        rw [hx] at hz
                        injection hq with hq
                        subst hq
                        generalize hzv : ρ z = u at hz
                        cases hz
                        exact .inr ⟨z, k, rfl, hzv⟩
                      · cases hq
                  have hbounds : (Instr.sliceBounds true m c (lo.map ρ) (hi.map ρ) none).run P w = .ok (l.toNat, h.toNat, c) w := by
                    rcases hopt lo 0 l hlo with ⟨rfl, rfl⟩ | ⟨z, k, rfl, hz⟩ <;> rcases hopt hi m h hhi with ⟨rfl, rfl⟩ | ⟨z', k', rfl, hz'⟩
                    · simp [Instr.sliceBounds]
                    · simp [Instr.sliceBounds, hz', run_bound (P := P) (w := w) (show (0 : Int) ≤ h by omega) (show h ≤ (c : Int) by omega)]
                    · simp [Instr.sliceBounds, hz, run_bound (P := P) (w := w) (show (0 : Int) ≤ l by omega) (show l ≤ (m : Int) by omega)]
                    · simp [Instr.sliceBounds, hz, hz', run_bound (P := P) (w := w) (show (0 : Int) ≤ h by omega) (show h ≤ (c : Int) by omega), run_bound (P := P) (w := w) (show (0 : Int) ≤ l by omega) (show l ≤ (h.toNat : Int) by omega)]
                  refine ⟨.slice (if c = l.toNat then A else A.map (·.add (l.toNat * n))) (h.toNat - l.toNat) (c - l.toNat), run_v ?_, ?_⟩
                  · simp only [Instr.sliceAt, Sem.run_bind, run_under hu, Result.andThen_ok, Instr.slice, hv, Option.map_none, hbounds, run_sizeOf hn, Sem.run_pure]
                  · refine .lst n _ _ _ _ b (o + l.toNat * n) (fun i j => val (l.toNat + i) j) (by omega) (by omega) (fun hpos => ?_) (fun hpos => hM (by omega)) (fun hpos => hb (by omega)) (fun i hi => hzz _ (by omega)) (fun i j s hi hj => h1c _ j s (by omega) hj) (fun i j s hi hj => ?_) (fun i j s hi hj => hdd _ j s (by omega) hj)
                    · rw [if_neg (by omega), hA (by omega)]
                      simp [add_none]
                    · rw [show o + l.toNat * n + (i * n + j) = o + ((l.toNat + i) * n + j) by rw [Nat.add_mul]; omega]
                      exact hcell _ j s (by omega) hj
              · cases hp
            · cases hp
          · split at hp
            · rename_i j a b sz' m hrp
              obtain ⟨t2, mu2, get2, hrow2, hab, hbn, hc⟩ := rowPart_sound hI hrp (hev y)
              split at hp
              · rename_i l h hlo hhi
                simp only [Option.some.injEq, Prod.mk.injEq] at hp
                obtain ⟨rfl, rfl⟩ := hp
                obtain ⟨rfl, h0, h1, h2⟩ := hob
                rcases hc with ⟨hL, hv, h00⟩ | ⟨g, o, c, hL, ho, hv, hnc⟩
                · have hb0 : b - a = 0 := by omega
                  rw [hb0] at hhi
                  have hbd := run_sliceBounds (P := P) hev (m := 0) (c := 0) hlo hhi h0 h1 (by omega)
                  have e1 : l.toNat = 0 := by omega
                  have e2 : h.toNat = 0 := by omega
                  rw [e1, e2] at hbd
                  refine ⟨.slice none 0 0, run_v ?_, m, t2, sz', mu2, get2, hrow2, by omega, by omega, .inl ⟨hL, rfl⟩⟩
                  simp [Instr.sliceAt, Sem.run_bind, run_under hu, Result.andThen_ok, Instr.slice, hv, hbd, run_sizeOf hn, Sem.run_pure]
                · have hbd := run_sliceBounds (P := P) hev (m := b - a) (c := c - a) hlo hhi h0 h1 (by omega)
                  refine ⟨.slice (if c - a = l.toNat then some ⟨g, o, none⟩ else (some ⟨g, o, none⟩ : Option Addr).map (·.add (l.toNat * sz'))) (h.toNat - l.toNat) (c - a - l.toNat), run_v ?_, m, t2, sz', mu2, get2, hrow2, by omega, by omega, .inr ⟨g, if c - a = l.toNat then o else o + l.toNat * sz', c, hL, fun hlt => ?_, ?_⟩⟩
                  · simp only [Instr.sliceAt, Sem.run_bind, run_under hu, Result.andThen_ok, Instr.slice, hv, Option.map_none, hbd, run_sizeOf hn, Sem.run_pure]
                  · split
                    · rw [ho (by omega)]
                      rcases hlt with hlt | hlt
                      · rw [hlt, show a = 0 by omega]
                      · omega
                    · rw [ho (by omega), Nat.add_mul]
                  · rw [show a + h.toNat - (a + l.toNat) = h.toNat - l.toNat by omega, show c - (a + l.toNat) = c - a - l.toNat by omega]
                    split <;> simp [add_none]
              · cases hp
            · cases hp
        · cases hs
      · cases hs
  | call c =>
    obtain ⟨callee, args, tys⟩ := c
    obtain ⟨args⟩ := args
    obtain ⟨tys⟩ := tys
    cases callee with
    | builtin bi =>
      cases bi with
      | len =>
        match args, tys, hs with
        | [y], [t], hs =>
          simp only [slimO] at hs
          split at hs
          · rename_i e he
            have hu := elemOf_spec he
            injection hs with hs; subst hs
            have hy := hev y
            have hlen : ∀ A n c, ρ y = .slice A n c → (execOp ρ ⟨dst, .call ⟨.builtin .len, ⟨[y]⟩, ⟨[t]⟩⟩, type, pos, after, guard⟩).run P w = .ok (.value (.int .i64 n)) w := by
              intro A n c hv
              simp [execOp, resolve, invoke, builtin, Builtin.len_, hv, run_under hu, goInt]
            simp only [pureOp] at hp
            split at hp
            · rename_i s hx
              rw [hx] at hy
              split at hp
              · rename_i n get hls
                simp only [Option.some.injEq, Prod.mk.injEq] at hp
                obtain ⟨rfl, rfl⟩ := hp
                obtain ⟨A, c, hv⟩ := den_lstOf hls hy
                exact ⟨_, hlen A n c hv, .int _ _⟩
              · cases hp
            · rename_i j hx
              rw [hx] at hy
              split at hp
              · rename_i t' sz n mu get hrow
                simp only [Option.some.injEq, Prod.mk.injEq] at hp
                obtain ⟨rfl, rfl⟩ := hp
                obtain ⟨_, hv⟩ := hy
                obtain ⟨xs, ⟨_, ho⟩, _⟩ := hI.ok j _ hrow
                rcases ho with ⟨hL, h00⟩ | ⟨g, cap, cur, hL, _⟩
                · subst h00; rw [hL] at hv; exact ⟨_, hlen _ _ _ hv, .int _ _⟩
                · rw [hL] at hv; exact ⟨_, hlen _ _ _ hv, .int _ _⟩
              · cases hp
            · rename_i j a b hx
              rw [hx] at hy
              simp only [Option.some.injEq, Prod.mk.injEq] at hp
              obtain ⟨rfl, rfl⟩ := hp
              obtain ⟨n, t', sz, mu, get, hrow, h1, h2, h3⟩ := hy
              rcases h3 with ⟨hL, hv⟩ | ⟨b', o, c, hL, _, hv⟩
              · obtain ⟨xs, ⟨_, ho⟩, _⟩ := hI.ok j _ hrow
                rcases ho with ⟨_, h00⟩ | ⟨g, cap, cur, hL', _⟩
                · have : b - a = 0 := by omega
                  rw [this]
                  exact ⟨_, hlen _ _ _ hv, .int _ _⟩
                · rw [hL] at hL'; cases hL'
              · exact ⟨_, hlen _ _ _ hv, .int _ _⟩
            · cases hp
          · cases hs
        | [], _, hs => simp [slimO] at hs
        | _ :: _ :: _, _, hs => simp [slimO] at hs
        | [_], [], hs => simp [slimO] at hs
        | [_], _ :: _ :: _, hs => simp [slimO] at hs
      | min =>
        match args, hs with
        | [y, z], hs =>
          simp only [slimO, Option.some.injEq] at hs; subst hs
          have hy := hev y
          have hz := hev z
          simp only [pureOp] at hp
          split at hp
          · rename_i k a k' b hx1 hx2
            rw [hx1] at hy
            rw [hx2] at hz
            simp only [Option.some.injEq, Prod.mk.injEq] at hp
            obtain ⟨rfl, rfl⟩ := hp
            generalize hv : ρ y = v at hy
            generalize hu' : ρ z = u at hz
            cases hz
            cases hy
            refine ⟨.int k (min a b), ?_, .int _ _⟩
            simp [execOp, resolve, invoke, builtin, Builtin.min_, hv, hu', Builtin.min2]
            omega
          · rename_i k a k' b hx1 hx2
            rw [hx1] at hy
            rw [hx2] at hz
            simp only [Option.some.injEq, Prod.mk.injEq] at hp
            obtain ⟨rfl, rfl⟩ := hp
            generalize hv : ρ y = v at hy
            generalize hu' : ρ z = u at hz
            cases hz
            cases hy
            refine ⟨.int k (min a b), ?_, .int _ _⟩
            simp [execOp, resolve, invoke, builtin, Builtin.min_, hv, hu', Builtin.min2]
            omega
          · cases hp
        | [], hs => simp [slimO] at hs
        | [_], hs => simp [slimO] at hs
        | _ :: _ :: _ :: _, hs => simp [slimO] at hs
      | max =>
        match args, hs with
        | [y, z], hs =>
          simp only [slimO, Option.some.injEq] at hs; subst hs
          have hy := hev y
          have hz := hev z
          simp only [pureOp] at hp
          split at hp
          · rename_i k a k' b hx1 hx2
            rw [hx1] at hy
            rw [hx2] at hz
            simp only [Option.some.injEq, Prod.mk.injEq] at hp
            obtain ⟨rfl, rfl⟩ := hp
            generalize hv : ρ y = v at hy
            generalize hu' : ρ z = u at hz
            cases hz
            cases hy
            refine ⟨.int k (max a b), ?_, .int _ _⟩
            simp [execOp, resolve, invoke, builtin, Builtin.max_, hv, hu', Builtin.max2]
            omega
          · rename_i k a k' b hx1 hx2
            rw [hx1] at hy
            rw [hx2] at hz
            simp only [Option.some.injEq, Prod.mk.injEq] at hp
            obtain ⟨rfl, rfl⟩ := hp
            generalize hv : ρ y = v at hy
            generalize hu' : ρ z = u at hz
            cases hz
            cases hy
            refine ⟨.int k (max a b), ?_, .int _ _⟩
            simp [execOp, resolve, invoke, builtin, Builtin.max_, hv, hu', Builtin.max2]
            omega
          · cases hp
        | [], hs => simp [slimO] at hs
        | [_], hs => simp [slimO] at hs
        | _ :: _ :: _ :: _, hs => simp [slimO] at hs
      | append => exact (slim_append hs hp).elim
      | clear => exact (slim_clear hs hp).elim
      | copy => exact (slim_copy hs hp).elim
      | cap =>
        match args, tys, hs with
        | [y], [t], hs =>
          simp only [slimO] at hs
          split at hs
          · rename_i e he
            have hu := elemOf_spec he
            injection hs with hs; subst hs
            have hy := hev y
            simp only [pureOp] at hp
            split at hp
            · rename_i hx
              rw [hx] at hy
              simp only [Option.some.injEq, Prod.mk.injEq] at hp
              obtain ⟨rfl, rfl⟩ := hp
              generalize hv : ρ y = v at hy
              cases hy
              exact ⟨.int .i64 0, by simp [execOp, resolve, invoke, builtin, Builtin.cap_, hv, run_under hu, goInt], .int _ _⟩
            · cases hp
          · cases hs
        | [], _, hs => simp [slimO] at hs
        | _ :: _ :: _, _, hs => simp [slimO] at hs
        | [_], [], hs => simp [slimO] at hs
        | [_], _ :: _ :: _, hs => simp [slimO] at hs
      | _ => simp [slimO] at hs
    | value f =>
      cases f with
      | func f =>
        simp only [slimO] at hs
        split at hs
        · split at hs
          · rename_i x y t u hargs
            simp only [Array.mk.injEq] at hargs
            subst hargs
            injection hs with hs; subst hs
            have hx := hev x
            have hy := hev y
            simp only [pureOp] at hp
            split at hp
            · rename_i sz n get j lo hi f' hx1 hx2 hx3
              rw [hx1] at hx
              rw [hx2] at hy
              have hff := hev (.func f)
              rw [hx3] at hff
              split at hp
              · rename_i t0 sz0 n0 get0 hrow
                simp only [Option.some.injEq, Prod.mk.injEq] at hp
                obtain ⟨rfl, rfl⟩ := hp
                obtain ⟨⟨fn, r, e, ne, hf, hname, hbody, hfn, hfe, hu, hsz⟩, hsz0⟩ := hob
                refine ⟨.bool false, ?_, .bool _⟩
                have hrun : (callFunc f' #[ρ x, ρ y]).run P w = .ok (.value (.bool false)) w := by
                  rw [run_callFunc_extern hf hname hbody hfn hfe]
                  obtain ⟨A, c, b, o, hxv, hA, hMb, hcell⟩ : ∃ (A : Option Addr) (c b o : Nat), ρ x = .slice A n c ∧ (0 < n → A = some ⟨b, o, none⟩) ∧ (0 < n → ¬ mset M0 tb L b) ∧ (0 < n → ∃ v, w.cell? ⟨b, o, none⟩ = some v) := by
                    generalize ρ x = v at hx
                    cases hx with
                    | lst _ _ _ A c b o val hc hm hA hM hb hz h1 hcell hd =>
                      refine ⟨A, c, b, o, rfl, hA, hM, fun h0 => ?_⟩
                      have hl := hz 0 h0
                      cases hg : get 0 with
                      | nil => rw [hg] at hl; simp at hl; omega
                      | cons q qs =>
                        have := hcell 0 0 q h0 (by rw [hg]; rfl)
                        exact ⟨_, by simpa using this⟩
                  obtain ⟨n', t', sz', mu', get', hj', h1, h2, h3⟩ := hy
                  obtain ⟨xs, ⟨hxl, ho⟩, _⟩ := hI.ok j _ hrow
                  rcases h3 with ⟨hL, hyv⟩ | ⟨b', o', c', hL, _, hyv⟩
                  · rw [hxv, hyv, ovl_run hu hsz _ _ _ _ _ _ (fun ad bd _ h => by cases h)]
                    rfl
                  · rw [hxv, hyv, ovl_run hu hsz _ _ _ _ _ _ (fun ad bd hA' hB' => ?_)]
                    · rfl
                    · rcases Nat.eq_zero_or_pos n with h0 | h0
                      · exact .inl h0
                      · right; right; right
                        rw [hA h0] at hA'
                        injection hA' with hA'
                        injection hB' with hB'
                        subst hA' hB'
                        have hm : mset M0 tb L b' := .inr ⟨j, _, hrow, rfl, by rw [hL]; rfl⟩
                        refine ⟨fun he => hMb h0 (by rw [show b = b' from he]; exact hm), ?_, ?_⟩
                        · obtain ⟨v, hv⟩ := hcell h0
                          unfold World.cell? at hv
                          split at hv
                          · rename_i cs tt fr hh
                            refine ⟨cs, tt, fr, hh, ?_⟩
                            simp at hv
                            obtain ⟨q, _⟩ := Array.getElem?_eq_some_iff.1 hv
                            omega
                          · cases hv
                        · rcases ho with ⟨hl, _⟩ | ⟨g, cap, cur, hl, hg0, hh, _⟩
                          · rw [hL] at hl; cases hl
                          · rw [hL] at hl
                            injection hl with e1 _ _
                            injection e1 with e1
                            injection e1 with e1 _
                            subst e1
                            exact ⟨cur, t0, hh⟩
                generalize hfv : ρ (.func f) = vf at hff
                cases hff with
                | fn _ _ vs hl hh =>
                  have hvs : vs = #[] := Array.eq_empty_of_size_eq_zero (by simpa using hl.symm)
                  subst hvs
                  simpa [execOp, resolve, invoke, hfv, Deferred.ofValue] using hrun
              · cases hp
            · cases hp
          · cases hs
        · injection hs with hs; subst hs; simp [pureOp] at hp
      | _ => simp [slimO] at hs <;> subst hs <;> simp [pureOp] at hp
    | invoke r m => simp [slimO] at hs
  | box t y => simp [slimO] at hs; subst hs; simp [pureOp] at hp
  | buildSlice t len parts => exact (slim_buildSlice hs hp).elim
  | makeSlice t n c => exact (slim_makeSlice hs hp).elim
  | alloc t => exact (slim_alloc hs hp).elim
  | store t y v => exact (slim_store hs hp).elim
  | pick c a b => cases c <;> simp [slimO] at hs; subst hs; simp [pureOp] at hp
  | makeMap t r =>
    cases r with
    | some r => simp [slimO] at hs
    | none =>
      simp only [slimO] at hs
      split at hs
      · injection hs with hs; subst hs; simp [pureOp] at hp
      · cases hs
  | mapUpdate t m k v =>
    simp only [slimO] at hs
    split at hs
    · injection hs with hs; subst hs; simp [pureOp] at hp
    · cases hs
  | lookup t y k ok =>
    simp only [slimO] at hs
    split at hs
    · rename_i z hz
      obtain ⟨kt, e, hu, hk, hzr, hz1⟩ := mapOf_spec hz
      injection hs with hs; subst hs
      have hy := hev y
      have hkk := hev k
      simp only [pureOp] at hp
      split at hp
      · rename_i i n hx1 hx2
        rw [hx1] at hy
        rw [hx2] at hkk
        split at hp
        · rename_i z' keys get hi
          simp only [Option.some.injEq, Prod.mk.injEq] at hp
          obtain ⟨rfl, rfl⟩ := hp
          subst hob
          generalize hkv : ρ k = kv at hkk
          cases hkk
          obtain ⟨_, hyv⟩ := hy
          obtain ⟨b, es, clock, hL, hh, h1, h2, h3, h4, h5, h6⟩ := hI.ok i _ hi
          rw [hL] at hyv
          have hobj : (getObj b).run P w = .ok (.map es clock) w := by simp [getObj, Sem.run, hh]
          rcases findNow_int .i64 es.toList keys 0 n h1 with ⟨hn, hf⟩ | ⟨j, en, hj, he, hf⟩
          · have hd := h6 n hn
            have hdec : decide (n ∈ keys) = false := by simpa using hn
            cases ok with
            | true =>
              refine ⟨.tuple #[z', .bool false], run_v ?_, .tup _ _ rfl (fun q s v hs hv => ?_)⟩
              · simp [hyv, hkv, Instr.lookup, Sem.run_bind, run_under hu, run_under hk, hobj, checkKey_int hk, Instr.findKey, hf, hzr]
              · match q, hs, hv with
                | 0, hs, hv => cases hs; cases hv; exact hd
                | 1, hs, hv => simp only [hdec] at hs; cases hs; cases hv; exact .bool _
                | q + 2, hs, _ => cases hs
            | false =>
              refine ⟨z', run_v ?_, hd⟩
              simp [hyv, hkv, Instr.lookup, Sem.run_bind, run_under hu, run_under hk, hobj, checkKey_int hk, Instr.findKey, hf, hzr]
          · have hd := h5 j n en hj he
            have hdec : decide (n ∈ keys) = true := by simpa using List.mem_of_getElem? hj
            cases ok with
            | true =>
              refine ⟨.tuple #[en.val, .bool true], run_v ?_, .tup _ _ rfl (fun q s v hs hv => ?_)⟩
              · simp [hyv, hkv, Instr.lookup, Sem.run_bind, run_under hu, run_under hk, hobj, checkKey_int hk, Instr.findKey, hf]
              · match q, hs, hv with
                | 0, hs, hv => cases hs; cases hv; exact hd
                | 1, hs, hv => simp only [hdec] at hs; cases hs; cases hv; exact .bool _
                | q + 2, hs, _ => cases hs
            | false =>
              refine ⟨en.val, run_v ?_, hd⟩
              simp [hyv, hkv, Instr.lookup, Sem.run_bind, run_under hu, run_under hk, hobj, checkKey_int hk, Instr.findKey, hf]
        · cases hp
      · cases hp
    · cases hs
  | _ => first | (simp [slimO] at hs; done) | (simp only [slimO] at hs; repeat' split at hs; all_goals first | (cases hs; done) | (injection hs with hs; subst hs; simp [pureOp] at hp))
theorem freeO_slim {op : Op} {so : SOp} (hs : slimO P op = some so) (hf : freeO P op = true) : (∃ q y z, so = .bin q y z) ∨ (∃ n y lo hi, so = .slice n y lo hi) ∨ ∃ y, so = .len y := by
  unfold freeO at hf
  split at hf
  · split at hf
    · rename_i h
      simp only [slimO, h] at hs
      injection hs with hs
      exact .inl ⟨_, _, _, hs.symm⟩
    · cases hf
  · simp only [slimO] at hs
    split at hs
    · split at hs
      · injection hs with hs
        exact .inr (.inl ⟨_, _, _, _, hs.symm⟩)
      · cases hs
    · cases hs
  · simp only [slimO] at hs
    split at hs
    · injection hs with hs
      exact .inr (.inr ⟨_, hs.symm⟩)
    · cases hs
  · cases hf

/-- Operations that read their operands alone give one value in every world. -/
theorem free_sound {o : Oper} {so : SOp} {ρ : Operand → Value} {ev' : Operand → LV} {x : LV} {ob : Prop} (hs : slimO P o.op = some so) (hf : freeO P o.op = true) (hp : pureOp P tb ev' so = some (x, ob)) (hob : ob)
    (hI : Inv w0 M0 L tb w) (hM0 : Safe w0 M0) (hev : ∀ y, LDen G w (mset M0 tb L) L tb (ev' y) (ρ y)) :
    ∃ v, (∀ w1, (execOp ρ o).run P w1 = .ok (.value v) w1) ∧ LDen G w (mset M0 tb L) L tb x v ∧ optFree x = true := by
  obtain ⟨dst, op, type, pos, after, guard⟩ := o
  simp only at hs hf
  cases op with
  | binOp q t y z ty =>
    cases q with
    | quo =>
      simp only [freeO] at hf
      split at hf
      · rename_i k hk
        simp only [slimO, hk] at hs
        injection hs with hs; subst hs
        have hy := hev y
        have hz := hev z
        simp only [pureOp] at hp
        split at hp
        · rename_i a b hx1 hx2
          rw [hx1] at hy
          rw [hx2] at hz
          split at hp
          · rename_i s' ob' hbs
            simp only [Option.some.injEq, Prod.mk.injEq] at hp
            obtain ⟨rfl, rfl⟩ := hp
            generalize hv : ρ y = v at hy
            generalize hu : ρ z = u at hz
            cases hy with
            | int k1 n1 =>
              cases hz with
              | int k2 n2 =>
                simp only [binSV] at hbs
                split at hbs
                case isFalse => simp only [binX, reduceCtorEq] at hbs
                rename_i hkk
                subst hkk
                simp only [binI, Option.some.injEq, Prod.mk.injEq] at hbs
                obtain ⟨rfl, rfl⟩ := hbs
                obtain ⟨h0, h1, h2⟩ := hob
                refine ⟨_, fun w1 => run_v ?_, .int _ _, rfl⟩
                rw [hv, hu]
                have hg : (eqGuard .quo t y z (.int k1 n1) (.int k1 n2)).run P w1 = .ok () w1 := by simp [eqGuard]
                simp only [Sem.run_bind, hg, Result.andThen, binOp, ne_eq, not_true_eq_false, if_false, Op.intDiv]
                rw [if_neg (by omega), Int.tdiv_eq_ediv_of_nonneg h0, wrap_in h2]
                rfl
              | _ => simp [binSV] at hbs
            | val =>
              cases v with
              | int k1 n1 =>
                cases hz with
                | int k2 n2 =>
                  simp only [binSV] at hbs
                  split at hbs
                  · simp [binW] at hbs
                  · cases hbs
                | _ => simp [binSV] at hbs
              | _ => cases hz <;> simp [binSV] at hbs
            | _ => cases hz <;> simp [binSV] at hbs
          · cases hp
        · cases hp
      · cases hf
    | _ => simp [freeO] at hf
  | slice t y lo hi mx =>
    cases mx with
    | some mx => simp [freeO] at hf
    | none =>
      simp only [slimO] at hs
      split at hs
      · rename_i e he
        have hu := elemOf_spec he
        split at hs
        · rename_i n hn
          injection hs with hs; subst hs
          simp only [pureOp] at hp
          split at hp
          · rename_i hsh
            have hy := shut_den hI hM0 hsh (hev y)
            split at hp
            · rename_i l h hlo hhi
              simp only [Option.some.injEq, Prod.mk.injEq] at hp
              obtain ⟨rfl, rfl⟩ := hp
              obtain ⟨rfl, rfl⟩ := hob
              generalize hv : ρ y = v at hy
              cases hy
              have hbd := fun w1 => run_sliceBounds_any (P := P) (w1 := w1) hev (m := 0) (c := 0) hlo hhi (Int.le_refl _) (Int.le_refl _) (by omega)
              refine ⟨.slice none 0 0, fun w1 => run_v ?_, .val _, rfl⟩
              simp [Instr.sliceAt, Sem.run_bind, run_under hu, Result.andThen_ok, Instr.slice, hv, hbd, run_sizeOf hn, Sem.run_pure]
            · cases hp
          · rename_i s _ hsh
            have hy := shut_den hI hM0 hsh (hev y)
            split at hp
            · rename_i m get hls
              split at hp
              · rename_i l h hlo hhi
                simp only [Option.some.injEq, Prod.mk.injEq] at hp
                obtain ⟨rfl, rfl⟩ := hp
                obtain ⟨hsz, h0, h1, h2⟩ := hob
                have hd := den_lstOf' hls hsz hy
                generalize hv : ρ y = v at hd
                cases hd with
                | lst _ _ _ A c b o val hc hm hA hM hb hzz h1c hcell hdd =>
                  have hopt : ∀ (q : Option Operand) (d r : Int), (q.map fun y => natOf (ev' y)).getD (some d) = some r → (q = none ∧ d = r) ∨ ∃ z k, q = some z ∧ ρ z = .int k r := by
                    intro q d r hq
                    cases q with
                    | none => simp at hq; exact .inl ⟨rfl, hq⟩
                    | some z =>
                      simp at hq
                      have hz := hev z
                      unfold natOf at hq
                      split at hq
                      · rename_i k n' hx
                        rw [hx] at hz
                        injection hq with hq
                        subst hq
                        generalize hzv : ρ z = u at hz
                        cases hz
                        exact .inr ⟨z, k, rfl, hzv⟩
                      · cases hq
                  have hbounds : ∀ w1, (Instr.sliceBounds true m c (lo.map ρ) (hi.map ρ) none).run P w1 = .ok (l.toNat, h.toNat, c) w1 := by
                    intro w1
                    rcases hopt lo 0 l hlo with ⟨rfl, rfl⟩ | ⟨z, k, rfl, hz⟩ <;> rcases hopt hi m h hhi with ⟨rfl, rfl⟩ | ⟨z', k', rfl, hz'⟩
                    · simp [Instr.sliceBounds]
                    · simp [Instr.sliceBounds, hz', run_bound (P := P) (w := w1) (show (0 : Int) ≤ h by omega) (show h ≤ (c : Int) by omega)]
                    · simp [Instr.sliceBounds, hz, run_bound (P := P) (w := w1) (show (0 : Int) ≤ l by omega) (show l ≤ (m : Int) by omega)]
                    · simp [Instr.sliceBounds, hz, hz', run_bound (P := P) (w := w1) (show (0 : Int) ≤ h by omega) (show h ≤ (c : Int) by omega), run_bound (P := P) (w := w1) (show (0 : Int) ≤ l by omega) (show l ≤ (h.toNat : Int) by omega)]
                  refine ⟨.slice (if c = l.toNat then A else A.map (·.add (l.toNat * n))) (h.toNat - l.toNat) (c - l.toNat), fun w1 => run_v ?_, ?_, rfl⟩
                  · simp only [Instr.sliceAt, Sem.run_bind, run_under hu, Result.andThen_ok, Instr.slice, hv, Option.map_none, hbounds, run_sizeOf hn, Sem.run_pure]
                  · refine .lst n _ _ _ _ b (o + l.toNat * n) (fun i j => val (l.toNat + i) j) (by omega) (by omega) (fun hpos => ?_) (fun hpos => hM (by omega)) (fun hpos => hb (by omega)) (fun i hi => hzz _ (by omega)) (fun i j s hi hj => h1c _ j s (by omega) hj) (fun i j s hi hj => ?_) (fun i j s hi hj => hdd _ j s (by omega) hj)
                    · rw [if_neg (by omega), hA (by omega)]
                      simp [add_none]
                    · rw [show o + l.toNat * n + (i * n + j) = o + ((l.toNat + i) * n + j) by rw [Nat.add_mul]; omega]
                      exact hcell _ j s (by omega) hj
              · cases hp
            · cases hp
          · split at hp
            · rename_i j a b sz' m hrp
              obtain ⟨t2, mu2, get2, hrow2, hab, hbn, hc⟩ := rowPart_sound hI hrp (hev y)
              split at hp
              · rename_i l h hlo hhi
                simp only [Option.some.injEq, Prod.mk.injEq] at hp
                obtain ⟨rfl, rfl⟩ := hp
                obtain ⟨rfl, h0, h1, h2⟩ := hob
                rcases hc with ⟨hL, hv, h00⟩ | ⟨g, o, c, hL, ho, hv, hnc⟩
                · have hb0 : b - a = 0 := by omega
                  rw [hb0] at hhi
                  have hbd := fun w1 => run_sliceBounds_any (P := P) (w1 := w1) hev (m := 0) (c := 0) hlo hhi h0 h1 (by omega)
                  have e1 : l.toNat = 0 := by omega
                  have e2 : h.toNat = 0 := by omega
                  simp only [e1, e2] at hbd
                  refine ⟨.slice none 0 0, fun w1 => run_v ?_, ⟨m, t2, sz', mu2, get2, hrow2, by omega, by omega, .inl ⟨hL, rfl⟩⟩, rfl⟩
                  simp [Instr.sliceAt, Sem.run_bind, run_under hu, Result.andThen_ok, Instr.slice, hv, hbd, run_sizeOf hn, Sem.run_pure]
                · have hbd := fun w1 => run_sliceBounds_any (P := P) (w1 := w1) hev (m := b - a) (c := c - a) hlo hhi h0 h1 (by omega)
                  refine ⟨.slice (if c - a = l.toNat then some ⟨g, o, none⟩ else (some ⟨g, o, none⟩ : Option Addr).map (·.add (l.toNat * sz'))) (h.toNat - l.toNat) (c - a - l.toNat), fun w1 => run_v ?_, ⟨m, t2, sz', mu2, get2, hrow2, by omega, by omega, .inr ⟨g, if c - a = l.toNat then o else o + l.toNat * sz', c, hL, fun hlt => ?_, ?_⟩⟩, rfl⟩
                  · simp only [Instr.sliceAt, Sem.run_bind, run_under hu, Result.andThen_ok, Instr.slice, hv, Option.map_none, hbd, run_sizeOf hn, Sem.run_pure]
                  · split
                    · rw [ho (by omega)]
                      rcases hlt with hlt | hlt
                      · rw [hlt, show a = 0 by omega]
                      · omega
                    · rw [ho (by omega), Nat.add_mul]
                  · rw [show a + h.toNat - (a + l.toNat) = h.toNat - l.toNat by omega, show c - (a + l.toNat) = c - a - l.toNat by omega]
                    split <;> simp [add_none]
              · cases hp
            · cases hp
        · cases hs
      · cases hs
  | call c =>
    obtain ⟨callee, args, tys⟩ := c
    obtain ⟨args⟩ := args
    obtain ⟨tys⟩ := tys
    cases callee with
    | builtin bi =>
      cases bi with
      | len =>
        match args, tys, hs with
        | [y], [t], hs =>
          simp only [slimO] at hs
          split at hs
          · rename_i e he
            have hu := elemOf_spec he
            injection hs with hs; subst hs
            have hy := hev y
            have hlen : ∀ A n c, ρ y = .slice A n c → ∀ w1, (execOp ρ ⟨dst, .call ⟨.builtin .len, ⟨[y]⟩, ⟨[t]⟩⟩, type, pos, after, guard⟩).run P w1 = .ok (.value (.int .i64 n)) w1 := by
              intro A n c hv w1
              simp [execOp, resolve, invoke, builtin, Builtin.len_, hv, run_under hu, goInt]
            simp only [pureOp] at hp
            split at hp
            · rename_i s hx
              rw [hx] at hy
              split at hp
              · rename_i n get hls
                simp only [Option.some.injEq, Prod.mk.injEq] at hp
                obtain ⟨rfl, rfl⟩ := hp
                obtain ⟨A, c, hv⟩ := den_lstOf hls hy
                exact ⟨_, hlen A n c hv, .int _ _, rfl⟩
              · cases hp
            · rename_i j hx
              rw [hx] at hy
              split at hp
              · rename_i t' sz n mu get hrow
                simp only [Option.some.injEq, Prod.mk.injEq] at hp
                obtain ⟨rfl, rfl⟩ := hp
                obtain ⟨_, hv⟩ := hy
                obtain ⟨xs, ⟨_, ho⟩, _⟩ := hI.ok j _ hrow
                rcases ho with ⟨hL, h00⟩ | ⟨g, cap, cur, hL, _⟩
                · subst h00; rw [hL] at hv; exact ⟨_, hlen _ _ _ hv, .int _ _, rfl⟩
                · rw [hL] at hv; exact ⟨_, hlen _ _ _ hv, .int _ _, rfl⟩
              · cases hp
            · rename_i j a b hx
              rw [hx] at hy
              simp only [Option.some.injEq, Prod.mk.injEq] at hp
              obtain ⟨rfl, rfl⟩ := hp
              obtain ⟨n, t', sz, mu, get, hrow, h1, h2, h3⟩ := hy
              rcases h3 with ⟨hL, hv⟩ | ⟨b', o, c, hL, _, hv⟩
              · obtain ⟨xs, ⟨_, ho⟩, _⟩ := hI.ok j _ hrow
                rcases ho with ⟨_, h00⟩ | ⟨g, cap, cur, hL', _⟩
                · have : b - a = 0 := by omega
                  rw [this]
                  exact ⟨_, hlen _ _ _ hv, .int _ _, rfl⟩
                · rw [hL] at hL'; cases hL'
              · exact ⟨_, hlen _ _ _ hv, .int _ _, rfl⟩
            · cases hp
          · cases hs
        | [], _, hs => simp [slimO] at hs
        | _ :: _ :: _, _, hs => simp [slimO] at hs
        | [_], [], hs => simp [slimO] at hs
        | [_], _ :: _ :: _, hs => simp [slimO] at hs
      | _ => simp [freeO] at hf
    | _ => simp [freeO] at hf
  | _ => simp [freeO] at hf
end
end Go.Sx

