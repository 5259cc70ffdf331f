/- Contracts of functions of the program, each proved by running its code symbolically (HA). -/
import Derived.Test.YtgnffeajpmniiaaSx4
import Derived.Test.YtgnffeajpmniiaaHC
namespace Go.Sx.T
open Go Go.Proofs Go.Sx
set_option maxRecDepth 100000
set_option maxHeartbeats 4000000
set_option linter.unusedVariables false
set_option linter.unusedSimpArgs false
structure Content where
  Unit : Int
  Thick : Int
  deriving Inhabited, DecidableEq
def Content.cells (p : Content) : List SV := [.int .i64 p.Unit, .int .i64 p.Thick]
def Content.sv (p : Content) : SV := .agg p.cells
def conts (l : List Content) : SV := .lst 2 l.length fun i => (l.getD i default).cells
structure Box where
  ID : Int
  Width : Int
  Room : Int
  Climate : Int
  Contents : List Content
  deriving Inhabited, DecidableEq
def Box.cells (p : Box) : List SV := [.int .i64 p.ID, .int .i64 p.Width, .int .i64 p.Room, .int .i64 p.Climate, conts p.Contents]
def Box.sv (p : Box) : SV := .agg p.cells
def boxes (l : List Box) : SV := .lst 5 l.length fun i => (l.getD i default).cells
def ints (l : List Int) : SV := .lst 1 l.length fun i => [.int .i64 (l.getD i 0)]
structure Shf where
  ID : Int
  Repository : Int
  Length : Int
  Climate : Int
  deriving Inhabited, DecidableEq
def Shf.cells (p : Shf) : List SV := [.int .i64 p.ID, .int .i64 p.Repository, .int .i64 p.Length, .int .i64 p.Climate]
def Shf.sv (p : Shf) : SV := .agg p.cells
def shfs (l : List Shf) : SV := .lst 4 l.length fun i => (l.getD i default).cells
structure Std where
  Shelf : Int
  Boxes : List Int
  deriving Inhabited, DecidableEq
def Std.cells (p : Std) : List SV := [.int .i64 p.Shelf, ints p.Boxes]
def Std.sv (p : Std) : SV := .agg p.cells
def stds (l : List Std) : SV := .lst 2 l.length fun i => (l.getD i default).cells
theorem s13 (n : Nat) (get : Nat → List SV) (h : n ≤ 100000) : SpecOwn Try.prog 13 [.lst 4 n get] 32 4 n get := by
  refine specOwn_of_good mixed Try.func13 F13_ok (by kernel_rfl) ?_
  refine good_run 9 (obs := []) (by kernel_rfl) trivial ?_
  refine good_nil (n) (by kernel_rfl) (fun hc1b hc1 => ?_)
  refine good_run 2 (obs := []) (by kernel_rfl) trivial ?_
  refine good_cond (false ^^ hc1b) (by kernel_rfl) (fun hc2 => ?_) (fun hc2 => ?_)
  · cases hc1b <;> simp at hc2
    refine good_run 7 (obs := []) (by kernel_rfl) trivial ?_
    refine good_finOwn [n = (0 : Nat)] (by kernel_rfl) ⟨?_, trivial⟩
    exact hc1 rfl
  · cases hc1b <;> simp at hc2
    refine good_run 10 (obs := [(32 : Nat) = (32 : Nat) ∧ (4 : Nat) = (4 : Nat) ∧ (4 : Nat) = (4 : Nat) ∧ roomOK ((0 : Nat) + n) (32 : Nat)]) (by kernel_rfl) (by (first | omega | assumption | exact ⟨rfl, trivial⟩ | simp only [AllP, inK_iff, roomOK_iff, decide_eq_true_eq, Bool.and_eq_true, Bool.or_eq_true, Bool.not_eq_true', decide_eq_false_iff_not, and_true, true_and]; (first | omega | (and_intros <;> intros <;> (try and_intros) <;> first | omega | assumption | exact trivial)))) ?_
    refine good_finOwn [(0 : Nat) + n = n ∧ ∀ (j : Nat), j < n → joinGet (0 : Nat) (cutRows (4 : Nat) []) get j = get j] (by kernel_rfl) ⟨?_, trivial⟩
    exact ⟨by omega, fun j _ => rfl⟩
theorem s76 (n : Nat) (get : Nat → List SV) (h : n ≤ 100000) : SpecOwn Try.prog 76 [.lst 2 n get] 47 2 n get := by
  refine specOwn_of_good mixed Try.func76 F76_ok (by kernel_rfl) ?_
  refine good_run 9 (obs := []) (by kernel_rfl) trivial ?_
  refine good_nil (n) (by kernel_rfl) (fun hc1b hc1 => ?_)
  refine good_run 2 (obs := []) (by kernel_rfl) trivial ?_
  refine good_cond (false ^^ hc1b) (by kernel_rfl) (fun hc2 => ?_) (fun hc2 => ?_)
  · cases hc1b <;> simp at hc2
    refine good_run 7 (obs := []) (by kernel_rfl) trivial ?_
    refine good_finOwn [n = (0 : Nat)] (by kernel_rfl) ⟨?_, trivial⟩
    exact hc1 rfl
  · cases hc1b <;> simp at hc2
    refine good_run 10 (obs := [(47 : Nat) = (47 : Nat) ∧ (2 : Nat) = (2 : Nat) ∧ (2 : Nat) = (2 : Nat) ∧ roomOK ((0 : Nat) + n) (32 : Nat)]) (by kernel_rfl) (by (first | omega | assumption | exact ⟨rfl, trivial⟩ | simp only [AllP, inK_iff, roomOK_iff, decide_eq_true_eq, Bool.and_eq_true, Bool.or_eq_true, Bool.not_eq_true', decide_eq_false_iff_not, and_true, true_and]; (first | omega | (and_intros <;> intros <;> (try and_intros) <;> first | omega | assumption | exact trivial)))) ?_
    refine good_finOwn [(0 : Nat) + n = n ∧ ∀ (j : Nat), j < n → joinGet (0 : Nat) (cutRows (2 : Nat) []) get j = get j] (by kernel_rfl) ⟨?_, trivial⟩
    exact ⟨by omega, fun j _ => rfl⟩
theorem s77 (n : Nat) (get : Nat → List SV) (h : n ≤ 100000) : SpecOwn Try.prog 77 [.lst 1 n get] 3 1 n get := by
  refine specOwn_of_good mixed Try.func77 F77_ok (by kernel_rfl) ?_
  refine good_run 9 (obs := []) (by kernel_rfl) trivial ?_
  refine good_nil (n) (by kernel_rfl) (fun hc1b hc1 => ?_)
  refine good_run 2 (obs := []) (by kernel_rfl) trivial ?_
  refine good_cond (false ^^ hc1b) (by kernel_rfl) (fun hc2 => ?_) (fun hc2 => ?_)
  · cases hc1b <;> simp at hc2
    refine good_run 7 (obs := []) (by kernel_rfl) trivial ?_
    refine good_finOwn [n = (0 : Nat)] (by kernel_rfl) ⟨?_, trivial⟩
    exact hc1 rfl
  · cases hc1b <;> simp at hc2
    refine good_run 10 (obs := [(3 : Nat) = (3 : Nat) ∧ (1 : Nat) = (1 : Nat) ∧ (1 : Nat) = (1 : Nat) ∧ roomOK ((0 : Nat) + n) (8 : Nat)]) (by kernel_rfl) (by (first | omega | assumption | exact ⟨rfl, trivial⟩ | simp only [AllP, inK_iff, roomOK_iff, decide_eq_true_eq, Bool.and_eq_true, Bool.or_eq_true, Bool.not_eq_true', decide_eq_false_iff_not, and_true, true_and]; (first | omega | (and_intros <;> intros <;> (try and_intros) <;> first | omega | assumption | exact trivial)))) ?_
    refine good_finOwn [(0 : Nat) + n = n ∧ ∀ (j : Nat), j < n → joinGet (0 : Nat) (cutRows (1 : Nat) []) get j = get j] (by kernel_rfl) ⟨?_, trivial⟩
    exact ⟨by omega, fun j _ => rfl⟩
theorem s95 (l : List Content) (f : FuncId) (caps : List SV) (g : Content → Bool) (h : ∀ p : Content, Spec Try.prog f (Content.sv p :: caps) (.bool (g p))) : Spec Try.prog 95 [conts l, .fn f caps] (.int .i64 (findI l g)) := by
  refine spec_len 0 rfl (hasBody_of_slim Try.func95 F95_ok) fun hlen => ?_
  refine spec_of_good mixed Try.func95 F95_ok (by kernel_rfl) ?_
  refine good_run 14 (obs := []) (by kernel_rfl) trivial ?_
  refine good_loopJ (fun k : Nat => ⟨[(1, .sv (.fn f caps)), (0, .sv (conts l)), (6, .sv (conts l)), (7, .sv (.int .i64 l.length)), (8, .sv (.int .i64 k))], []⟩) (fun k => k ≤ l.length ∧ ∀ j, j < k → g (l.getD j default) = false) (fun k => l.length - k) (0) [SVle (SV.fn f caps) (SV.fn f caps), List.length l = List.length l ∧ ∀ (i : Nat), i < List.length l → (fun i => Content.cells (List.getD l i default)) i = (fun i => Content.cells (List.getD l i default)) i, List.length l = List.length l ∧ ∀ (i : Nat), i < List.length l → (fun i => Content.cells (List.getD l i default)) i = (fun i => Content.cells (List.getD l i default)) i, (↑(List.length l) : Int) = (↑(List.length l) : Int), (0 : Int) = (0 : Int)] (by kernel_rfl) (by kernel_rfl) ⟨SVle.refl _, ⟨rfl, fun _ _ => rfl⟩, ⟨rfl, fun _ _ => rfl⟩, rfl, rfl, trivial⟩ ?_ ?_
  · exact ⟨Nat.zero_le _, by simp⟩
  · intro k hk
    refine good_run 6 (obs := []) (by kernel_rfl) trivial ?_
    refine good_cond (decide ((↑k : Int) < (↑(List.length l) : Int))) (by kernel_rfl) (fun hc1 => ?_) (fun hc1 => ?_)
    · have hlt : k < l.length := by simp at hc1; omega
      refine good_run 16 (obs := [(2 : Nat) = (2 : Nat) ∧ (0 : Int) ≤ (↑k : Int) ∧ (↑k : Int) < (↑(List.length l) : Int), (0 : Nat) + (2 : Nat) ≤ (2 : Nat)]) (by kernel_rfl) (by (first | omega | assumption | exact ⟨rfl, trivial⟩ | simp only [AllP, inK_iff, roomOK_iff, decide_eq_true_eq, Bool.and_eq_true, Bool.or_eq_true, Bool.not_eq_true', decide_eq_false_iff_not, and_true, true_and]; (first | omega | (and_intros <;> intros <;> (try and_intros) <;> first | omega | assumption | exact trivial)))) ?_
      refine good_call (c := True) (by kernel_rfl) (fun _ => SVles.refl _) (fun _ => h (l.getD k default)) (by kernel_rfl) ?_
      refine good_run 2 (obs := []) (by kernel_rfl) trivial ?_
      refine good_cond (g (List.getD l k default)) (by kernel_rfl) (fun hc2 => ?_) (fun hc2 => ?_)
      · refine good_run 9 (obs := []) (by kernel_rfl) trivial ?_
        refine good_leaveJ (by kernel_rfl) ?_
        refine good_run 2 (obs := []) (by kernel_rfl) trivial ?_
        refine good_fin [(↑k : Int) = findI l g] (by kernel_rfl) ⟨?_, trivial⟩
        rw [findI_hit l g k hlt hc2 hk.2]
      · refine good_run 7 (obs := [InK IntKind.i64 ((↑k : Int) + (1 : Int))]) (by kernel_rfl) (by (first | omega | assumption | exact ⟨rfl, trivial⟩ | simp only [AllP, inK_iff, roomOK_iff, decide_eq_true_eq, Bool.and_eq_true, Bool.or_eq_true, Bool.not_eq_true', decide_eq_false_iff_not, and_true, true_and]; (first | omega | (and_intros <;> intros <;> (try and_intros) <;> first | omega | assumption | exact trivial)))) ?_
        refine good_backJ (k + 1) [SVle (SV.fn f caps) (SV.fn f caps), List.length l = List.length l ∧ ∀ (i : Nat), i < List.length l → (fun i => Content.cells (List.getD l i default)) i = (fun i => Content.cells (List.getD l i default)) i, List.length l = List.length l ∧ ∀ (i : Nat), i < List.length l → (fun i => Content.cells (List.getD l i default)) i = (fun i => Content.cells (List.getD l i default)) i, (↑(List.length l) : Int) = (↑(List.length l) : Int), (↑k : Int) + (1 : Int) = (↑(k + (1 : Nat)) : Int)] (by kernel_rfl) (by kernel_rfl) ⟨SVle.refl _, ⟨rfl, fun _ _ => rfl⟩, ⟨rfl, fun _ _ => rfl⟩, rfl, (by omega), trivial⟩ ?_ ?_
        · refine ⟨by omega, fun j hj => ?_⟩
          rcases Nat.lt_or_ge j k with h | h
          · exact hk.2 j h
          · have : j = k := by omega
            subst this
            exact hc2
        · show _ < _; omega
    · refine good_run 2 (obs := []) (by kernel_rfl) trivial ?_
      refine good_leaveJ (by kernel_rfl) ?_
      refine good_run 7 (obs := []) (by kernel_rfl) trivial ?_
      refine good_fin [(-1 : Int) = findI l g] (by kernel_rfl) ⟨?_, trivial⟩
      have : k = l.length := by simp at hc1; omega
      subst this
      rw [findI_none l g hk.2]
theorem s89 (l : List Content) (f : FuncId) (caps : List SV) (g : Content → Bool) (h : ∀ p : Content, Spec Try.prog f (Content.sv p :: caps) (.bool (g p))) : Spec Try.prog 89 [conts l, .fn f caps] (.bool (l.any g)) := by
  refine spec_of_good mixed Try.func89 F89_ok (by kernel_rfl) ?_
  refine good_run 9 (obs := []) (by kernel_rfl) trivial ?_
  refine good_call (c := True) (by kernel_rfl) (fun _ => SVles.refl _) (fun _ => s95 l f caps g h) (by kernel_rfl) ?_
  refine good_run 5 (obs := []) (by kernel_rfl) trivial ?_
  refine good_fin [decide ((0 : Int) ≤ findI l g) = List.any l g] (by kernel_rfl) ⟨?_, trivial⟩
  rcases findI_cases l g with ⟨e, _, _, h2⟩ | ⟨k, hk, e, _, _, _, h2⟩
  · rw [e, h2]; rfl
  · rw [e, h2]; simp
theorem t59 (n : Nat) (get : Nat → List SV) (i j : Nat) (hij : i ≤ j) (hj : j ≤ n) : SpecTake Try.prog 59 [] 47 2 n get [.int .i64 i, .int .i64 j] (n - (j - i)) fun k => if k < i then get k else get (k + (j - i)) := by
  refine specTake_of_good mixed Try.func59 F59_ok (by kernel_rfl) ?_
  refine good_run 23 (obs := [(2 : Nat) = (2 : Nat) ∧ (0 : Int) ≤ (↑i : Int) ∧ (↑i : Int) ≤ (↑j : Int) ∧ (↑j : Int) ≤ (↑n : Int) ∧ (0 : Nat) + n ≤ n]) (by kernel_rfl) (by (first | omega | assumption | exact ⟨rfl, trivial⟩ | simp only [AllP, inK_iff, roomOK_iff, decide_eq_true_eq, Bool.and_eq_true, Bool.or_eq_true, Bool.not_eq_true', decide_eq_false_iff_not, and_true, true_and]; (first | omega | (and_intros <;> intros <;> (try and_intros) <;> first | omega | assumption | exact trivial)))) ?_
  refine good_cond (decide ((↑i : Int) = (↑j : Int))) (by kernel_rfl) (fun hc1 => ?_) (fun hc1 => ?_)
  · have e : i = j := by simp at hc1; omega
    subst e
    refine good_run 8 (obs := []) (by kernel_rfl) trivial ?_
    refine good_finTake [n = n - (i - i) ∧ ∀ (j : Nat), j < n - (i - i) → get j = (fun k => if k < i then get k else get (k + (i - i))) j] (by kernel_rfl) ⟨?_, trivial⟩
    refine ⟨by omega, fun k hk => ?_⟩
    simp
  · refine good_run 38 (obs := [True → (2 : Nat) = (2 : Nat) ∧ (0 : Int) ≤ (0 : Int) ∧ (0 : Int) ≤ (↑i : Int) ∧ (0 : Nat) + i ≤ n, True → (2 : Nat) = (2 : Nat) ∧ (0 : Int) ≤ (↑j : Int) ∧ (↑j : Int) ≤ (↑(n - (0 : Nat)) : Int) ∧ (0 : Nat) + (n - (0 : Nat)) ≤ n, (0 : Nat) = (0 : Nat) ∧ (47 : Nat) = (47 : Nat) ∧ (2 : Nat) = (2 : Nat) ∧ (0 : Nat) + i + ((0 : Nat) + (n - (0 : Nat)) - ((0 : Nat) + j)) ≤ n, (2 : Nat) = (2 : Nat) ∧ (0 : Int) ≤ (↑((0 : Nat) + i + ((0 : Nat) + (n - (0 : Nat)) - ((0 : Nat) + j)) - (0 : Nat)) : Int) ∧ (↑((0 : Nat) + i + ((0 : Nat) + (n - (0 : Nat)) - ((0 : Nat) + j)) - (0 : Nat)) : Int) ≤ (↑n : Int) ∧ (0 : Nat) + n ≤ n, (2 : Nat) = (2 : Nat)]) (by kernel_rfl) (by (first | omega | assumption | exact ⟨rfl, trivial⟩ | simp only [AllP, inK_iff, roomOK_iff, decide_eq_true_eq, Bool.and_eq_true, Bool.or_eq_true, Bool.not_eq_true', decide_eq_false_iff_not, and_true, true_and]; (first | omega | (and_intros <;> intros <;> (try and_intros) <;> first | omega | assumption | exact trivial)))) ?_
    refine good_finTake [(0 : Nat) + i + ((0 : Nat) + (n - (0 : Nat)) - ((0 : Nat) + j)) = n - (j - i) ∧ n - (j - i) ≤ n ∧ ∀ (j_1 : Nat), j_1 < n - (j - i) → spliceGet ((0 : Nat) + ((0 : Nat) + i + ((0 : Nat) + (n - (0 : Nat)) - ((0 : Nat) + j)) - (0 : Nat))) ((0 : Nat) + n - ((0 : Nat) + ((0 : Nat) + i + ((0 : Nat) + (n - (0 : Nat)) - ((0 : Nat) + j)) - (0 : Nat)))) (fun x => List.map SV.val [Value.int IntKind.i64 (Int.ofNat (0 : Nat)), Value.slice none (0 : Nat) (0 : Nat)]) (spliceGet ((0 : Nat) + i) ((0 : Nat) + (n - (0 : Nat)) - ((0 : Nat) + j)) (fun j_2 => get ((0 : Nat) + j + j_2)) get) j_1 = (fun k => if k < i then get k else get (k + (j - i))) j_1] (by kernel_rfl) ⟨?_, trivial⟩
    refine ⟨by omega, by omega, fun k hk => ?_⟩
    have := del_get n i j hij hj (fun x => List.map SV.val [Value.int IntKind.i64 (Int.ofNat (0 : Nat)), Value.slice none 0 0]) get k hk
    simpa using this
theorem s59 (n : Nat) (get : Nat → List SV) (a b : Int) (h0 : 0 ≤ a) (h1 : a ≤ b) (h2 : b ≤ n) : SpecTake Try.prog 59 [] 47 2 n get [.int .i64 a, .int .i64 b] (n - (b.toNat - a.toNat)) fun k => if k < a.toNat then get k else get (k + (b.toNat - a.toNat)) := by
  have := t59 n get a.toNat b.toNat (by omega) (by omega)
  rwa [Int.toNat_of_nonneg h0, Int.toNat_of_nonneg (by omega)] at this
theorem t58 (n : Nat) (get : Nat → List SV) (i j : Nat) (hij : i ≤ j) (hj : j ≤ n) : SpecTake Try.prog 58 [] 3 1 n get [.int .i64 i, .int .i64 j] (n - (j - i)) fun k => if k < i then get k else get (k + (j - i)) := by
  refine specTake_of_good mixed Try.func58 F58_ok (by kernel_rfl) ?_
  refine good_run 23 (obs := [(1 : Nat) = (1 : Nat) ∧ (0 : Int) ≤ (↑i : Int) ∧ (↑i : Int) ≤ (↑j : Int) ∧ (↑j : Int) ≤ (↑n : Int) ∧ (0 : Nat) + n ≤ n]) (by kernel_rfl) (by (first | omega | assumption | exact ⟨rfl, trivial⟩ | simp only [AllP, inK_iff, roomOK_iff, decide_eq_true_eq, Bool.and_eq_true, Bool.or_eq_true, Bool.not_eq_true', decide_eq_false_iff_not, and_true, true_and]; (first | omega | (and_intros <;> intros <;> (try and_intros) <;> first | omega | assumption | exact trivial)))) ?_
  refine good_cond (decide ((↑i : Int) = (↑j : Int))) (by kernel_rfl) (fun hc1 => ?_) (fun hc1 => ?_)
  · have e : i = j := by simp at hc1; omega
    subst e
    refine good_run 8 (obs := []) (by kernel_rfl) trivial ?_
    refine good_finTake [n = n - (i - i) ∧ ∀ (j : Nat), j < n - (i - i) → get j = (fun k => if k < i then get k else get (k + (i - i))) j] (by kernel_rfl) ⟨?_, trivial⟩
    refine ⟨by omega, fun k hk => ?_⟩
    simp
  · refine good_run 38 (obs := [True → (1 : Nat) = (1 : Nat) ∧ (0 : Int) ≤ (0 : Int) ∧ (0 : Int) ≤ (↑i : Int) ∧ (0 : Nat) + i ≤ n, True → (1 : Nat) = (1 : Nat) ∧ (0 : Int) ≤ (↑j : Int) ∧ (↑j : Int) ≤ (↑(n - (0 : Nat)) : Int) ∧ (0 : Nat) + (n - (0 : Nat)) ≤ n, (0 : Nat) = (0 : Nat) ∧ (3 : Nat) = (3 : Nat) ∧ (1 : Nat) = (1 : Nat) ∧ (0 : Nat) + i + ((0 : Nat) + (n - (0 : Nat)) - ((0 : Nat) + j)) ≤ n, (1 : Nat) = (1 : Nat) ∧ (0 : Int) ≤ (↑((0 : Nat) + i + ((0 : Nat) + (n - (0 : Nat)) - ((0 : Nat) + j)) - (0 : Nat)) : Int) ∧ (↑((0 : Nat) + i + ((0 : Nat) + (n - (0 : Nat)) - ((0 : Nat) + j)) - (0 : Nat)) : Int) ≤ (↑n : Int) ∧ (0 : Nat) + n ≤ n, (1 : Nat) = (1 : Nat)]) (by kernel_rfl) (by (first | omega | assumption | exact ⟨rfl, trivial⟩ | simp only [AllP, inK_iff, roomOK_iff, decide_eq_true_eq, Bool.and_eq_true, Bool.or_eq_true, Bool.not_eq_true', decide_eq_false_iff_not, and_true, true_and]; (first | omega | (and_intros <;> intros <;> (try and_intros) <;> first | omega | assumption | exact trivial)))) ?_
    refine good_finTake [(0 : Nat) + i + ((0 : Nat) + (n - (0 : Nat)) - ((0 : Nat) + j)) = n - (j - i) ∧ n - (j - i) ≤ n ∧ ∀ (j_1 : Nat), j_1 < n - (j - i) → spliceGet ((0 : Nat) + ((0 : Nat) + i + ((0 : Nat) + (n - (0 : Nat)) - ((0 : Nat) + j)) - (0 : Nat))) ((0 : Nat) + n - ((0 : Nat) + ((0 : Nat) + i + ((0 : Nat) + (n - (0 : Nat)) - ((0 : Nat) + j)) - (0 : Nat)))) (fun x => List.map SV.val [Value.int IntKind.i64 (Int.ofNat (0 : Nat))]) (spliceGet ((0 : Nat) + i) ((0 : Nat) + (n - (0 : Nat)) - ((0 : Nat) + j)) (fun j_2 => get ((0 : Nat) + j + j_2)) get) j_1 = (fun k => if k < i then get k else get (k + (j - i))) j_1] (by kernel_rfl) ⟨?_, trivial⟩
    refine ⟨by omega, by omega, fun k hk => ?_⟩
    have := del_get n i j hij hj (fun x => List.map SV.val [Value.int IntKind.i64 (Int.ofNat (0 : Nat))]) get k hk
    simpa using this
theorem s58 (n : Nat) (get : Nat → List SV) (a b : Int) (h0 : 0 ≤ a) (h1 : a ≤ b) (h2 : b ≤ n) : SpecTake Try.prog 58 [] 3 1 n get [.int .i64 a, .int .i64 b] (n - (b.toNat - a.toNat)) fun k => if k < a.toNat then get k else get (k + (b.toNat - a.toNat)) := by
  have := t58 n get a.toNat b.toNat (by omega) (by omega)
  rwa [Int.toNat_of_nonneg h0, Int.toNat_of_nonneg (by omega)] at this
theorem ov78 : OvlOK Try.prog 78 24 := ⟨Try.f78, 4, 47, 2, Try.func78, by kernel_rfl, by kernel_rfl, by kernel_rfl, by kernel_rfl, by kernel_rfl, by kernel_rfl⟩
theorem s56 (n : Nat) (get gv : Nat → List SV) (i : Int) (h0 : 0 ≤ i) (h1 : i ≤ n) (hn : n ≤ 100000) : SpecTake Try.prog 56 [] 47 2 n get [.int .i64 i, .lst 2 1 gv] (n + 1) (insGet i.toNat (gv 0) get) := by
  refine specTake_of_good mixed Try.func56 F56_ok (by kernel_rfl) ?_
  have hov := ov78
  refine good_run 26 (obs := [(2 : Nat) = (2 : Nat) ∧ (0 : Int) ≤ i ∧ i ≤ (↑(n - (0 : Nat)) : Int) ∧ (0 : Nat) + (n - (0 : Nat)) ≤ n]) (by kernel_rfl) (by (first | omega | assumption | exact ⟨rfl, trivial⟩ | simp only [AllP, inK_iff, roomOK_iff, decide_eq_true_eq, Bool.and_eq_true, Bool.or_eq_true, Bool.not_eq_true', decide_eq_false_iff_not, and_true, true_and]; (first | omega | (and_intros <;> intros <;> (try and_intros) <;> first | omega | assumption | exact trivial)))) ?_
  refine good_cond false (by kernel_rfl) (fun h => nomatch h) (fun _ => ?_)
  refine good_run 16 (obs := []) (by kernel_rfl) trivial ?_
  refine good_cond (decide (i = (↑n : Int))) (by kernel_rfl) (fun hc1 => ?_) (fun hc1 => ?_)
  · simp only [decide_eq_true_eq] at hc1
    refine good_run 10 (obs := [(47 : Nat) = (47 : Nat) ∧ (2 : Nat) = (2 : Nat) ∧ (2 : Nat) = (2 : Nat) ∧ roomOK (n + (1 : Nat)) (32 : Nat)]) (by kernel_rfl) (by (first | omega | assumption | exact ⟨rfl, trivial⟩ | simp only [AllP, inK_iff, roomOK_iff, decide_eq_true_eq, Bool.and_eq_true, Bool.or_eq_true, Bool.not_eq_true', decide_eq_false_iff_not, and_true, true_and]; (first | omega | (and_intros <;> intros <;> (try and_intros) <;> first | omega | assumption | exact trivial)))) ?_
    refine good_finTake [n + (1 : Nat) = n + (1 : Nat) ∧ ∀ (j : Nat), j < n + (1 : Nat) → joinGet n get gv j = insGet (Int.toNat i) (gv (0 : Nat)) get j] (by kernel_rfl) ⟨?_, trivial⟩
    refine ⟨rfl, fun k hk => ?_⟩
    unfold joinGet insGet
    subst hc1
    simp only [Int.toNat_natCast]
    split
    · rfl
    · have : k = n := by omega
      subst this; simp
  · simp only [decide_eq_false_iff_not] at hc1
    refine good_run 8 (obs := [InK IntKind.i64 ((↑n : Int) + (1 : Int))]) (by kernel_rfl) (by (first | omega | assumption | exact ⟨rfl, trivial⟩ | simp only [AllP, inK_iff, roomOK_iff, decide_eq_true_eq, Bool.and_eq_true, Bool.or_eq_true, Bool.not_eq_true', decide_eq_false_iff_not, and_true, true_and]; (first | omega | (and_intros <;> intros <;> (try and_intros) <;> first | omega | assumption | exact trivial)))) ?_
    refine good_cap (i := (0 : Nat)) (t := (47 : Nat)) (sz := (2 : Nat)) (n := n) (get := get) (by kernel_rfl) (fun hc2c hc2g hc2 hc2m hc2e => ?_)
    refine good_run 3 (obs := []) (by kernel_rfl) trivial ?_
    refine good_cond (decide ((↑hc2c : Int) < (↑n : Int) + (1 : Int))) (by kernel_rfl) (fun hc3 => ?_) (fun hc3 => ?_)
    · simp only [decide_eq_true_eq] at hc3
      refine good_run 45 (obs := [(2 : Nat) = (2 : Nat) ∧ (0 : Int) ≤ (0 : Int) ∧ (0 : Int) ≤ i ∧ (0 : Nat) + Int.toNat i ≤ hc2c, InK IntKind.i64 ((↑n : Int) + (1 : Int)), InK IntKind.i64 ((↑n : Int) + (1 : Int) - i), (47 : Nat) = (47 : Nat) ∧ (2 : Nat) = (2 : Nat) ∧ (0 : Int) < (↑n : Int) + (1 : Int) - i ∧ hc2c < (0 : Nat) + Int.toNat i + Int.toNat ((↑n : Int) + (1 : Int) - i) ∧ roomOK ((0 : Nat) + Int.toNat i + Int.toNat ((↑n : Int) + (1 : Int) - i)) (32 : Nat), (2 : Nat) = (2 : Nat) ∧ (0 : Int) ≤ i ∧ i ≤ (↑((0 : Nat) + Int.toNat i + Int.toNat ((↑n : Int) + (1 : Int) - i) - (0 : Nat)) : Int) ∧ (0 : Nat) + ((0 : Nat) + Int.toNat i + Int.toNat ((↑n : Int) + (1 : Int) - i) - (0 : Nat)) ≤ (0 : Nat) + Int.toNat i + Int.toNat ((↑n : Int) + (1 : Int) - i), (2 : Nat) = (2 : Nat) ∧ (2 : Nat) = (2 : Nat), True → InK IntKind.i64 (i + (1 : Int)), True → (2 : Nat) = (2 : Nat) ∧ (0 : Int) ≤ i + (1 : Int) ∧ i + (1 : Int) ≤ (↑((0 : Nat) + Int.toNat i + Int.toNat ((↑n : Int) + (1 : Int) - i) - (0 : Nat)) : Int) ∧ (0 : Nat) + ((0 : Nat) + Int.toNat i + Int.toNat ((↑n : Int) + (1 : Int) - i) - (0 : Nat)) ≤ (0 : Nat) + Int.toNat i + Int.toNat ((↑n : Int) + (1 : Int) - i), True → (2 : Nat) = (2 : Nat) ∧ (0 : Int) ≤ i ∧ i ≤ (↑(n - (0 : Nat)) : Int) ∧ (0 : Nat) + (n - (0 : Nat)) ≤ hc2c, (2 : Nat) = (2 : Nat) ∧ (2 : Nat) = (2 : Nat)]) (by kernel_rfl) (by (first | omega | assumption | exact ⟨rfl, trivial⟩ | simp only [AllP, inK_iff, roomOK_iff, decide_eq_true_eq, Bool.and_eq_true, Bool.or_eq_true, Bool.not_eq_true', decide_eq_false_iff_not, and_true, true_and]; (first | omega | (and_intros <;> intros <;> (try and_intros) <;> first | omega | assumption | exact trivial)))) ?_
      refine good_finTake [(0 : Nat) + Int.toNat i + Int.toNat ((↑n : Int) + (1 : Int) - i) = n + (1 : Nat) ∧ ∀ (j : Nat), j < n + (1 : Nat) → spliceGet ((0 : Nat) + Int.toNat (i + (1 : Int))) (min ((0 : Nat) + (n - (0 : Nat)) - ((0 : Nat) + Int.toNat i)) ((0 : Nat) + ((0 : Nat) + Int.toNat i + Int.toNat ((↑n : Int) + (1 : Int) - i) - (0 : Nat)) - ((0 : Nat) + Int.toNat (i + (1 : Int))))) (fun k => hc2g ((0 : Nat) + Int.toNat i + k)) (spliceGet ((0 : Nat) + Int.toNat i) (min (1 : Nat) ((0 : Nat) + ((0 : Nat) + Int.toNat i + Int.toNat ((↑n : Int) + (1 : Int) - i) - (0 : Nat)) - ((0 : Nat) + Int.toNat i))) gv (joinGet ((0 : Nat) + Int.toNat i) hc2g fun x => List.map SV.val [Value.int IntKind.i64 (Int.ofNat (0 : Nat)), Value.slice none (0 : Nat) (0 : Nat)])) j = insGet (Int.toNat i) (gv (0 : Nat)) get j] (by kernel_rfl) ⟨?_, trivial⟩
      exact ⟨by omega, fun j hj => ins_new (n := n) (by omega) (by omega) (by omega) (by omega) (by omega) (by omega) (by omega) hc2e hj⟩
    · simp only [decide_eq_false_iff_not] at hc3
      refine good_run 24 (obs := [InK IntKind.i64 ((↑n : Int) + (1 : Int)), (2 : Nat) = (2 : Nat) ∧ (0 : Int) ≤ (0 : Int) ∧ (0 : Int) ≤ (↑n : Int) + (1 : Int) ∧ (0 : Nat) + Int.toNat ((↑n : Int) + (1 : Int)) ≤ hc2c, InK IntKind.i64 (i + (1 : Int)), (2 : Nat) = (2 : Nat) ∧ (0 : Int) ≤ i + (1 : Int) ∧ i + (1 : Int) ≤ (↑((0 : Nat) + Int.toNat ((↑n : Int) + (1 : Int)) - (0 : Nat)) : Int) ∧ (0 : Nat) + ((0 : Nat) + Int.toNat ((↑n : Int) + (1 : Int)) - (0 : Nat)) ≤ hc2c, OvlOK Try.prog (78 : FuncId) (24 : TypeId) ∧ (0 : Nat) < (2 : Nat)]) (by kernel_rfl) (by (first | omega | assumption | exact ⟨rfl, trivial⟩ | simp only [AllP, inK_iff, roomOK_iff, decide_eq_true_eq, Bool.and_eq_true, Bool.or_eq_true, Bool.not_eq_true', decide_eq_false_iff_not, and_true, true_and]; (first | omega | (and_intros <;> intros <;> (try and_intros) <;> first | omega | assumption | exact trivial)))) ?_
      refine good_cond true (by kernel_rfl) (fun _ => ?_) (fun h => nomatch h)
      refine good_run 31 (obs := [True → InK IntKind.i64 (i + (1 : Int)), True → (2 : Nat) = (2 : Nat) ∧ (0 : Int) ≤ i + (1 : Int) ∧ i + (1 : Int) ≤ (↑((0 : Nat) + Int.toNat ((↑n : Int) + (1 : Int)) - (0 : Nat)) : Int) ∧ (0 : Nat) + ((0 : Nat) + Int.toNat ((↑n : Int) + (1 : Int)) - (0 : Nat)) ≤ hc2c, True → (2 : Nat) = (2 : Nat) ∧ (0 : Int) ≤ i ∧ i ≤ (↑((0 : Nat) + Int.toNat ((↑n : Int) + (1 : Int)) - (0 : Nat)) : Int) ∧ (0 : Nat) + ((0 : Nat) + Int.toNat ((↑n : Int) + (1 : Int)) - (0 : Nat)) ≤ hc2c, (2 : Nat) = (2 : Nat) ∧ (2 : Nat) = (2 : Nat), (2 : Nat) = (2 : Nat) ∧ (0 : Int) ≤ i ∧ i ≤ (↑((0 : Nat) + Int.toNat ((↑n : Int) + (1 : Int)) - (0 : Nat)) : Int) ∧ (0 : Nat) + ((0 : Nat) + Int.toNat ((↑n : Int) + (1 : Int)) - (0 : Nat)) ≤ hc2c, (2 : Nat) = (2 : Nat) ∧ (2 : Nat) = (2 : Nat)]) (by kernel_rfl) (by (first | omega | assumption | exact ⟨rfl, trivial⟩ | simp only [AllP, inK_iff, roomOK_iff, decide_eq_true_eq, Bool.and_eq_true, Bool.or_eq_true, Bool.not_eq_true', decide_eq_false_iff_not, and_true, true_and]; (first | omega | (and_intros <;> intros <;> (try and_intros) <;> first | omega | assumption | exact trivial)))) ?_
      refine good_finTake [(0 : Nat) + Int.toNat ((↑n : Int) + (1 : Int)) = n + (1 : Nat) ∧ n + (1 : Nat) ≤ hc2c ∧ ∀ (j : Nat), j < n + (1 : Nat) → spliceGet ((0 : Nat) + Int.toNat i) (min (1 : Nat) ((0 : Nat) + ((0 : Nat) + Int.toNat ((↑n : Int) + (1 : Int)) - (0 : Nat)) - ((0 : Nat) + Int.toNat i))) gv (spliceGet ((0 : Nat) + Int.toNat (i + (1 : Int))) (min ((0 : Nat) + ((0 : Nat) + Int.toNat ((↑n : Int) + (1 : Int)) - (0 : Nat)) - ((0 : Nat) + Int.toNat i)) ((0 : Nat) + ((0 : Nat) + Int.toNat ((↑n : Int) + (1 : Int)) - (0 : Nat)) - ((0 : Nat) + Int.toNat (i + (1 : Int))))) (fun k => hc2g ((0 : Nat) + Int.toNat i + k)) hc2g) j = insGet (Int.toNat i) (gv (0 : Nat)) get j] (by kernel_rfl) ⟨?_, trivial⟩
      exact ⟨by omega, by omega, fun j hj => ins_in (n := n) (by omega) (by omega) (by omega) (by omega) (by omega) (by omega) hc2e hj⟩
theorem ov80 : OvlOK Try.prog 80 45 := ⟨Try.f80, 4, 3, 1, Try.func80, by kernel_rfl, by kernel_rfl, by kernel_rfl, by kernel_rfl, by kernel_rfl, by kernel_rfl⟩
theorem s57 (n : Nat) (get gv : Nat → List SV) (i : Int) (h0 : 0 ≤ i) (h1 : i ≤ n) (hn : n ≤ 100000) : SpecTake Try.prog 57 [] 3 1 n get [.int .i64 i, .lst 1 1 gv] (n + 1) (insGet i.toNat (gv 0) get) := by
  refine specTake_of_good mixed Try.func57 F57_ok (by kernel_rfl) ?_
  have hov := ov80
  refine good_run 26 (obs := [(1 : Nat) = (1 : Nat) ∧ (0 : Int) ≤ i ∧ i ≤ (↑(n - (0 : Nat)) : Int) ∧ (0 : Nat) + (n - (0 : Nat)) ≤ n]) (by kernel_rfl) (by (first | omega | assumption | exact ⟨rfl, trivial⟩ | simp only [AllP, inK_iff, roomOK_iff, decide_eq_true_eq, Bool.and_eq_true, Bool.or_eq_true, Bool.not_eq_true', decide_eq_false_iff_not, and_true, true_and]; (first | omega | (and_intros <;> intros <;> (try and_intros) <;> first | omega | assumption | exact trivial)))) ?_
  refine good_cond false (by kernel_rfl) (fun h => nomatch h) (fun _ => ?_)
  refine good_run 16 (obs := []) (by kernel_rfl) trivial ?_
  refine good_cond (decide (i = (↑n : Int))) (by kernel_rfl) (fun hc1 => ?_) (fun hc1 => ?_)
  · simp only [decide_eq_true_eq] at hc1
    refine good_run 10 (obs := [(3 : Nat) = (3 : Nat) ∧ (1 : Nat) = (1 : Nat) ∧ (1 : Nat) = (1 : Nat) ∧ roomOK (n + (1 : Nat)) (8 : Nat)]) (by kernel_rfl) (by (first | omega | assumption | exact ⟨rfl, trivial⟩ | simp only [AllP, inK_iff, roomOK_iff, decide_eq_true_eq, Bool.and_eq_true, Bool.or_eq_true, Bool.not_eq_true', decide_eq_false_iff_not, and_true, true_and]; (first | omega | (and_intros <;> intros <;> (try and_intros) <;> first | omega | assumption | exact trivial)))) ?_
    refine good_finTake [n + (1 : Nat) = n + (1 : Nat) ∧ ∀ (j : Nat), j < n + (1 : Nat) → joinGet n get gv j = insGet (Int.toNat i) (gv (0 : Nat)) get j] (by kernel_rfl) ⟨?_, trivial⟩
    refine ⟨rfl, fun k hk => ?_⟩
    unfold joinGet insGet
    subst hc1
    simp only [Int.toNat_natCast]
    split
    · rfl
    · have : k = n := by omega
      subst this; simp
  · simp only [decide_eq_false_iff_not] at hc1
    refine good_run 8 (obs := [InK IntKind.i64 ((↑n : Int) + (1 : Int))]) (by kernel_rfl) (by (first | omega | assumption | exact ⟨rfl, trivial⟩ | simp only [AllP, inK_iff, roomOK_iff, decide_eq_true_eq, Bool.and_eq_true, Bool.or_eq_true, Bool.not_eq_true', decide_eq_false_iff_not, and_true, true_and]; (first | omega | (and_intros <;> intros <;> (try and_intros) <;> first | omega | assumption | exact trivial)))) ?_
    refine good_cap (i := (0 : Nat)) (t := (3 : Nat)) (sz := (1 : Nat)) (n := n) (get := get) (by kernel_rfl) (fun hc2c hc2g hc2 hc2m hc2e => ?_)
    refine good_run 3 (obs := []) (by kernel_rfl) trivial ?_
    refine good_cond (decide ((↑hc2c : Int) < (↑n : Int) + (1 : Int))) (by kernel_rfl) (fun hc3 => ?_) (fun hc3 => ?_)
    · simp only [decide_eq_true_eq] at hc3
      refine good_run 45 (obs := [(1 : Nat) = (1 : Nat) ∧ (0 : Int) ≤ (0 : Int) ∧ (0 : Int) ≤ i ∧ (0 : Nat) + Int.toNat i ≤ hc2c, InK IntKind.i64 ((↑n : Int) + (1 : Int)), InK IntKind.i64 ((↑n : Int) + (1 : Int) - i), (3 : Nat) = (3 : Nat) ∧ (1 : Nat) = (1 : Nat) ∧ (0 : Int) < (↑n : Int) + (1 : Int) - i ∧ hc2c < (0 : Nat) + Int.toNat i + Int.toNat ((↑n : Int) + (1 : Int) - i) ∧ roomOK ((0 : Nat) + Int.toNat i + Int.toNat ((↑n : Int) + (1 : Int) - i)) (8 : Nat), (1 : Nat) = (1 : Nat) ∧ (0 : Int) ≤ i ∧ i ≤ (↑((0 : Nat) + Int.toNat i + Int.toNat ((↑n : Int) + (1 : Int) - i) - (0 : Nat)) : Int) ∧ (0 : Nat) + ((0 : Nat) + Int.toNat i + Int.toNat ((↑n : Int) + (1 : Int) - i) - (0 : Nat)) ≤ (0 : Nat) + Int.toNat i + Int.toNat ((↑n : Int) + (1 : Int) - i), (1 : Nat) = (1 : Nat) ∧ (1 : Nat) = (1 : Nat), True → InK IntKind.i64 (i + (1 : Int)), True → (1 : Nat) = (1 : Nat) ∧ (0 : Int) ≤ i + (1 : Int) ∧ i + (1 : Int) ≤ (↑((0 : Nat) + Int.toNat i + Int.toNat ((↑n : Int) + (1 : Int) - i) - (0 : Nat)) : Int) ∧ (0 : Nat) + ((0 : Nat) + Int.toNat i + Int.toNat ((↑n : Int) + (1 : Int) - i) - (0 : Nat)) ≤ (0 : Nat) + Int.toNat i + Int.toNat ((↑n : Int) + (1 : Int) - i), True → (1 : Nat) = (1 : Nat) ∧ (0 : Int) ≤ i ∧ i ≤ (↑(n - (0 : Nat)) : Int) ∧ (0 : Nat) + (n - (0 : Nat)) ≤ hc2c, (1 : Nat) = (1 : Nat) ∧ (1 : Nat) = (1 : Nat)]) (by kernel_rfl) (by (first | omega | assumption | exact ⟨rfl, trivial⟩ | simp only [AllP, inK_iff, roomOK_iff, decide_eq_true_eq, Bool.and_eq_true, Bool.or_eq_true, Bool.not_eq_true', decide_eq_false_iff_not, and_true, true_and]; (first | omega | (and_intros <;> intros <;> (try and_intros) <;> first | omega | assumption | exact trivial)))) ?_
      refine good_finTake [(0 : Nat) + Int.toNat i + Int.toNat ((↑n : Int) + (1 : Int) - i) = n + (1 : Nat) ∧ ∀ (j : Nat), j < n + (1 : Nat) → spliceGet ((0 : Nat) + Int.toNat (i + (1 : Int))) (min ((0 : Nat) + (n - (0 : Nat)) - ((0 : Nat) + Int.toNat i)) ((0 : Nat) + ((0 : Nat) + Int.toNat i + Int.toNat ((↑n : Int) + (1 : Int) - i) - (0 : Nat)) - ((0 : Nat) + Int.toNat (i + (1 : Int))))) (fun k => hc2g ((0 : Nat) + Int.toNat i + k)) (spliceGet ((0 : Nat) + Int.toNat i) (min (1 : Nat) ((0 : Nat) + ((0 : Nat) + Int.toNat i + Int.toNat ((↑n : Int) + (1 : Int) - i) - (0 : Nat)) - ((0 : Nat) + Int.toNat i))) gv (joinGet ((0 : Nat) + Int.toNat i) hc2g fun x => List.map SV.val [Value.int IntKind.i64 (Int.ofNat (0 : Nat))])) j = insGet (Int.toNat i) (gv (0 : Nat)) get j] (by kernel_rfl) ⟨?_, trivial⟩
      exact ⟨by omega, fun j hj => ins_new (n := n) (by omega) (by omega) (by omega) (by omega) (by omega) (by omega) (by omega) hc2e hj⟩
    · simp only [decide_eq_false_iff_not] at hc3
      refine good_run 24 (obs := [InK IntKind.i64 ((↑n : Int) + (1 : Int)), (1 : Nat) = (1 : Nat) ∧ (0 : Int) ≤ (0 : Int) ∧ (0 : Int) ≤ (↑n : Int) + (1 : Int) ∧ (0 : Nat) + Int.toNat ((↑n : Int) + (1 : Int)) ≤ hc2c, InK IntKind.i64 (i + (1 : Int)), (1 : Nat) = (1 : Nat) ∧ (0 : Int) ≤ i + (1 : Int) ∧ i + (1 : Int) ≤ (↑((0 : Nat) + Int.toNat ((↑n : Int) + (1 : Int)) - (0 : Nat)) : Int) ∧ (0 : Nat) + ((0 : Nat) + Int.toNat ((↑n : Int) + (1 : Int)) - (0 : Nat)) ≤ hc2c, OvlOK Try.prog (80 : FuncId) (45 : TypeId) ∧ (0 : Nat) < (1 : Nat)]) (by kernel_rfl) (by (first | omega | assumption | exact ⟨rfl, trivial⟩ | simp only [AllP, inK_iff, roomOK_iff, decide_eq_true_eq, Bool.and_eq_true, Bool.or_eq_true, Bool.not_eq_true', decide_eq_false_iff_not, and_true, true_and]; (first | omega | (and_intros <;> intros <;> (try and_intros) <;> first | omega | assumption | exact trivial)))) ?_
      refine good_cond true (by kernel_rfl) (fun _ => ?_) (fun h => nomatch h)
      refine good_run 31 (obs := [True → InK IntKind.i64 (i + (1 : Int)), True → (1 : Nat) = (1 : Nat) ∧ (0 : Int) ≤ i + (1 : Int) ∧ i + (1 : Int) ≤ (↑((0 : Nat) + Int.toNat ((↑n : Int) + (1 : Int)) - (0 : Nat)) : Int) ∧ (0 : Nat) + ((0 : Nat) + Int.toNat ((↑n : Int) + (1 : Int)) - (0 : Nat)) ≤ hc2c, True → (1 : Nat) = (1 : Nat) ∧ (0 : Int) ≤ i ∧ i ≤ (↑((0 : Nat) + Int.toNat ((↑n : Int) + (1 : Int)) - (0 : Nat)) : Int) ∧ (0 : Nat) + ((0 : Nat) + Int.toNat ((↑n : Int) + (1 : Int)) - (0 : Nat)) ≤ hc2c, (1 : Nat) = (1 : Nat) ∧ (1 : Nat) = (1 : Nat), (1 : Nat) = (1 : Nat) ∧ (0 : Int) ≤ i ∧ i ≤ (↑((0 : Nat) + Int.toNat ((↑n : Int) + (1 : Int)) - (0 : Nat)) : Int) ∧ (0 : Nat) + ((0 : Nat) + Int.toNat ((↑n : Int) + (1 : Int)) - (0 : Nat)) ≤ hc2c, (1 : Nat) = (1 : Nat) ∧ (1 : Nat) = (1 : Nat)]) (by kernel_rfl) (by (first | omega | assumption | exact ⟨rfl, trivial⟩ | simp only [AllP, inK_iff, roomOK_iff, decide_eq_true_eq, Bool.and_eq_true, Bool.or_eq_true, Bool.not_eq_true', decide_eq_false_iff_not, and_true, true_and]; (first | omega | (and_intros <;> intros <;> (try and_intros) <;> first | omega | assumption | exact trivial)))) ?_
      refine good_finTake [(0 : Nat) + Int.toNat ((↑n : Int) + (1 : Int)) = n + (1 : Nat) ∧ n + (1 : Nat) ≤ hc2c ∧ ∀ (j : Nat), j < n + (1 : Nat) → spliceGet ((0 : Nat) + Int.toNat i) (min (1 : Nat) ((0 : Nat) + ((0 : Nat) + Int.toNat ((↑n : Int) + (1 : Int)) - (0 : Nat)) - ((0 : Nat) + Int.toNat i))) gv (spliceGet ((0 : Nat) + Int.toNat (i + (1 : Int))) (min ((0 : Nat) + ((0 : Nat) + Int.toNat ((↑n : Int) + (1 : Int)) - (0 : Nat)) - ((0 : Nat) + Int.toNat i)) ((0 : Nat) + ((0 : Nat) + Int.toNat ((↑n : Int) + (1 : Int)) - (0 : Nat)) - ((0 : Nat) + Int.toNat (i + (1 : Int))))) (fun k => hc2g ((0 : Nat) + Int.toNat i + k)) hc2g) j = insGet (Int.toNat i) (gv (0 : Nat)) get j] (by kernel_rfl) ⟨?_, trivial⟩
      exact ⟨by omega, by omega, fun j hj => ins_in (n := n) (by omega) (by omega) (by omega) (by omega) (by omega) (by omega) hc2e hj⟩
end Go.Sx.T
