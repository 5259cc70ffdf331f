/- Contracts of functions of the program, each proved by running its code symbolically (TB). -/
import Derived.Test.YtjkjagbpmcgifaaTA
import Derived.Test.YtjkjagbpmcgifaaTY
import Derived.Test.YtjkjagbpmcgifaaSxSort
namespace Go.Sx.T
open Go Go.Proofs Go.Sx
set_option maxRecDepth 100000
set_option maxHeartbeats 4000000
set_option linter.unusedVariables false
set_option linter.unusedSimpArgs false
theorem s50 (e : TypeId) (l : List Int) (h : l.length ≤ 4000000000000000000) : SpecSort Try.prog 50 [] e 1 l.length (fun i => [.int .i64 (l.getD i 0)]) [] (fun i => [.int .i64 ((isort l).getD i 0)]) :=
  sort_spec lays189 (hasBody_of_slim Try.func50 F50_ok) e l h
/-! The closure that notes the days of a span. -/
def noteK (keys : List Int) (p : Int × Int) : List Int := putKey (putKey keys p.1) p.2
def noteG (get : Int → SV) (p : Int × Int) : Int → SV := putGet p.2 (.bool true) (putGet p.1 (.bool true) get)
theorem s49x (us : Nat → Value) (a b : Int) (keys : List Int) (get : Int → SV) : SpecX Try.prog 49 us [.sv (.agg [.int .i64 a, .int .i64 b]), .sv (.ref [.val (us 0)] 0)] [.map (.bool false) keys get]
    (fun o => o = ⟨[], [.map (.bool false) (noteK keys (a, b)) (noteG get (a, b))], [(0, us 0)]⟩) := by
  refine specX_of_good mixed Try.func49 F49_ok (by kernel_rfl) (by kernel_rfl) (by kernel_rfl) ?_
  refine good_run 7 (obs := []) (by kernel_rfl) trivial ?_
  refine good_set [1, 2, 3, 4, 5, 6, 7, 8, 2000000] [] [us (nat_lit 0) = us (0 : Nat), us (nat_lit 0) = us (0 : Nat)] (by kernel_rfl) ?_ ?_
  · exact ⟨rfl, rfl, trivial⟩
  refine good_run 1 (obs := []) (by kernel_rfl) trivial ?_
  refine good_finX (⟨[], [.map (.bool false) (noteK keys (a, b)) (noteG get (a, b))], [(0, us 0)]⟩) (rfl) [Value.bool false = Value.bool false, putKey (putKey keys a) b = noteK keys (a, b) ∧ ∀ (k : Int), putGet b (SV.bool true) (putGet a (SV.bool true) get) k = noteG get (a, b) k, us (nat_lit 0) = ((0 : Nat), us (0 : Nat)).snd] (by kernel_rfl) ⟨rfl, ?_, rfl, trivial⟩
  · exact ⟨rfl, fun _ => rfl⟩
def keysOf (ps : List (Int × Int)) : List Int := ps.foldl noteK []
def getsOf (ps : List (Int × Int)) : Int → SV := ps.foldl noteG fun _ => .bool false
theorem keysOf_snoc (ps : List (Int × Int)) (p : Int × Int) : keysOf (ps ++ [p]) = noteK (keysOf ps) p := by simp [keysOf]
theorem getsOf_snoc (ps : List (Int × Int)) (p : Int × Int) : getsOf (ps ++ [p]) = noteG (getsOf ps) p := by simp [getsOf]
def mapB (ps : List (Int × Int)) : Blk := .map (.bool false) (keysOf ps) (getsOf ps)
def prP (p : Piece) : Int × Int := (p.From, p.Until)
def prS (p : Span) : Int × Int := (p.From, p.Until)
def lists (L : List (List Piece)) : SV := .lst 1 L.length fun i => [pieces (L.getD i [])]
def psOf (ss : List Span) (L : List (List Piece)) : List (Int × Int) := ss.map prS ++ (L.flatten).map prP
/-- The spans up to a piece of a list. -/
def psAt (ss : List Span) (L : List (List Piece)) (i j : Nat) : List (Int × Int) := ss.map prS ++ ((L.take i).flatten ++ (L.getD i []).take j).map prP
theorem psAt_zero (ss : List Span) (L : List (List Piece)) (i : Nat) : psAt ss L i 0 = ss.map prS ++ ((L.take i).flatten).map prP := by simp [psAt]
theorem psAt_succ {ss : List Span} {L : List (List Piece)} {i j : Nat} (hj : j < (L.getD i []).length) : psAt ss L i (j + 1) = psAt ss L i j ++ [prP ((L.getD i []).getD j default)] := by
  unfold psAt
  rw [take_snoc (L.getD i []) default j hj]
  simp
theorem psAt_full {ss : List Span} {L : List (List Piece)} {i : Nat} (hi : i < L.length) : psAt ss L i (L.getD i []).length = psAt ss L (i + 1) 0 := by
  rw [psAt_zero, psAt, List.take_length, take_snoc L [] i hi]
  simp
theorem psAt_end (ss : List Span) (L : List (List Piece)) : psAt ss L L.length 0 = psOf ss L := by rw [psAt_zero, List.take_length]; rfl
theorem putKey_nodup {ks : List Int} (h : ks.Nodup) (k : Int) : (putKey ks k).Nodup := by
  unfold putKey
  split
  · exact h
  · rename_i hn
    rw [List.nodup_append]
    exact ⟨h, by simp, fun a ha b hb e => by simp at hb; subst hb e; exact hn ha⟩
theorem keysOf_nodup : ∀ (ps : List (Int × Int)) (ks : List Int), ks.Nodup → (ps.foldl noteK ks).Nodup
  | [], ks, h => h
  | p :: r, ks, h => keysOf_nodup r _ (putKey_nodup (putKey_nodup h _) _)
theorem putKey_len (ks : List Int) (k : Int) : (putKey ks k).length ≤ ks.length + 1 := by
  unfold putKey; split <;> simp
theorem keysOf_len : ∀ (ps : List (Int × Int)) (ks : List Int), (ps.foldl noteK ks).length ≤ ks.length + 2 * ps.length
  | [], ks => by simp
  | p :: r, ks => by
    have h := keysOf_len r (noteK ks p)
    have h1 := putKey_len ks p.1
    have h2 := putKey_len (putKey ks p.1) p.2
    simp only [List.foldl_cons, List.length_cons, noteK] at *
    omega
theorem nodup_len : ∀ (a b : List Int), a.Nodup → (∀ x ∈ a, x ∈ b) → a.length ≤ b.length
  | [], b, _, _ => by simp
  | x :: a, b, h, hs => by
    have hx : x ∈ b := hs x (by simp)
    have h1 := nodup_len a (b.erase x) (List.nodup_cons.1 h).2 fun y hy => by
      have hne : y ≠ x := fun e => (List.nodup_cons.1 h).1 (e ▸ hy)
      exact (List.mem_erase_of_ne hne).2 (hs y (by simp [hy]))
    have h2 := List.length_erase_of_mem hx
    have h3 := List.length_pos_of_mem hx
    simp only [List.length_cons]
    omega
theorem isort_eq {a b : List Int} (h : a.Perm b) : isort a = isort b := by
  have h1 := (isort_perm a).trans (h.trans (isort_perm b).symm)
  exact List.Perm.eq_of_pairwise (le := (· ≤ ·)) (fun x y _ _ h1 h2 => Int.le_antisymm h1 h2) (isort_sorted a) (isort_sorted b) h1
theorem flat_len : ∀ (L : List (List Piece)), (∀ l ∈ L, l.length ≤ 100000) → (L.flatten).length ≤ 100000 * L.length
  | [], _ => by simp
  | l :: r, h => by
    have h1 := flat_len r fun l hl => h l (by simp [hl])
    have h2 := h l (by simp)
    simp only [List.flatten_cons, List.length_append, List.length_cons]
    omega
def rowI (l : List Int) : Blk := .row 3 1 l.length true fun i => [.int .i64 (l.getD i 0)]
theorem join_ints (a b : List Int) (g : Nat → List SV) (hg : ∀ i, i < b.length → g i = [.int .i64 (b.getD i 0)]) : a.length + b.length = (a ++ b).length ∧ ∀ i, i < a.length + b.length → joinGet a.length (fun i => [SV.int .i64 (a.getD i 0)]) g i = [.int .i64 ((a ++ b).getD i 0)] := by
  refine ⟨by simp, fun i hi => ?_⟩
  unfold joinGet
  split
  · rename_i h; simp only; rw [getD_append_left _ _ _ h]
  · rename_i h
    rw [hg _ (by omega), List.getD_eq_getElem?_getD, List.getD_eq_getElem?_getD, List.getElem?_append_right (by omega)]
theorem s41 (ss : List Span) (L : List (List Piece)) (h1 : ss.length ≤ 1000) (h2 : L.length ≤ 1000) (h3 : ∀ l ∈ L, l.length ≤ 100000) : SpecOwn Try.prog 41 [spans ss, lists L] 3 1 (isort (keysOf (psOf ss L))).length fun i => [.int .i64 ((isort (keysOf (psOf ss L))).getD i 0)] := by
  refine specOwn_of_good mixed Try.func41 F41_ok (by kernel_rfl) ?_
  refine good_run 9 (obs := []) (by kernel_rfl) trivial ?_
  refine good_tagMap 0 (z := Value.bool false) (ks := []) (get := fun x => valSV (Value.bool false)) (by kernel_rfl) (fun b => ?_)
  refine good_val 15 0 (Value.map (some b)) (by kernel_rfl) ?_
  refine good_run 18 (obs := [(1 : Nat) = (1 : Nat) ∧ (0 : Nat) + (1 : Nat) ≤ (1 : Nat)]) (by kernel_rfl) (by (first | omega | assumption | exact ⟨rfl, trivial⟩ | simp only [AllP, inK_iff, roomOK_iff, decide_eq_true_eq, Bool.and_eq_true, Bool.or_eq_true, Bool.not_eq_true', decide_eq_false_iff_not, and_true, true_and]; (first | omega | (and_intros <;> intros <;> (try and_intros) <;> first | omega | assumption | exact trivial)))) ?_
  refine good_loopJ (fun k : Nat => ⟨[(19, .sv (.int .i64 (k))), (18, LV.sv (SV.int IntKind.i64 (↑(List.length ss) : Int))), (17, LV.sv (SV.lst (2 : Nat) (List.length ss) fun i => Span.cells (List.getD ss i default))), (6, LV.sv (SV.fn (49 : Nat) [SV.ref [SV.val (Value.map (some b))] (0 : Nat)])), (2000000, LV.isv (0 : Nat) (Value.map (some b))), (5, LV.ptr (1 : Nat) (0 : Nat)), (1, LV.sv (SV.lst (1 : Nat) (List.length L) fun i => [pieces (List.getD L i [])]))], [mapB ((ss.map prS).take k), Blk.cells (64 : Nat) false [SV.val (Value.map (some b))]]⟩) (fun k => k ≤ ss.length) (fun k => ss.length - k) (0) [Value.bool false = Value.bool false, ([] : List Int) = [] ∧ ∀ (k : Int), (fun x => valSV (Value.bool false)) k = getsOf (List.take (0 : Nat) (List.map prS ss)) k, SVle (SV.val (Value.map (some b))) (SV.val (Value.map (some b))), (0 : Int) = (0 : Int), (↑(List.length ss) : Int) = (↑(List.length ss) : Int), List.length ss = List.length ss ∧ ∀ (i : Nat), i < List.length ss → (fun i => Span.cells (List.getD ss i default)) i = (fun i => Span.cells (List.getD ss i default)) i, SVle (SV.fn (49 : Nat) [SV.ref [SV.val (Value.map (some b))] (0 : Nat)]) (SV.fn (49 : Nat) [SV.ref [SV.val (Value.map (some b))] (0 : Nat)]), Value.map (some b) = Value.map (some b), List.length L = List.length L ∧ ∀ (i : Nat), i < List.length L → (fun i => [pieces (List.getD L i [])]) i = (fun i => [pieces (List.getD L i [])]) i] (by kernel_rfl) (by kernel_rfl) ⟨rfl, ?_, SVle.refl _, rfl, rfl, ⟨rfl, fun _ _ => rfl⟩, SVle.refl _, rfl, ⟨rfl, fun _ _ => rfl⟩, trivial⟩ (by omega) ?_
  · exact ⟨rfl, fun _ => rfl⟩
  intro k hk
  refine good_run 6 (obs := []) (by kernel_rfl) trivial ?_
  refine good_cond (decide ((↑k : Int) < (↑(List.length ss) : Int))) (by kernel_rfl) (fun hc1 => ?_) (fun hc1 => ?_)
  · have hlt : k < ss.length := by simp only [decide_eq_true_eq] at hc1; omega
    refine good_run 14 (obs := [(2 : Nat) = (2 : Nat) ∧ (0 : Int) ≤ (↑k : Int) ∧ (↑k : Int) < (↑(List.length ss) : Int), (0 : Nat) + (2 : Nat) ≤ (2 : Nat), (2 : Nat) = (2 : Nat) ∧ (0 : Nat) + (2 : Nat) ≤ (2 : Nat), (0 : Nat) + (2 : Nat) ≤ (2 : Nat)]) (by kernel_rfl) (by (first | omega | assumption | exact ⟨rfl, trivial⟩ | simp only [AllP, inK_iff, roomOK_iff, decide_eq_true_eq, Bool.and_eq_true, Bool.or_eq_true, Bool.not_eq_true', decide_eq_false_iff_not, and_true, true_and]; (first | omega | (and_intros <;> intros <;> (try and_intros) <;> first | omega | assumption | exact trivial)))) ?_
    refine good_callx [0] [0] (s49x (fun _ => .map (some b)) (ss.getD k default).From (ss.getD k default).Until (keysOf ((ss.map prS).take k)) (getsOf ((ss.map prS).take k))) (by kernel_rfl) (by kernel_rfl) [Value.bool false = Value.bool false, keysOf (List.take k (List.map prS ss)) = keysOf (List.take k (List.map prS ss)) ∧ ∀ (k_1 : Int), getsOf (List.take k (List.map prS ss)) k_1 = getsOf (List.take k (List.map prS ss)) k_1, Value.map (some b) = (fun x => Value.map (some b)) (0 : Nat)] [(List.getD ss k default).From = (List.getD ss k default).From, (List.getD ss k default).Until = (List.getD ss k default).Until, SVle (SV.ref [SV.val (Value.map (some b))] (0 : Nat)) (SV.ref [SV.val (Value.map (some b))] (0 : Nat))] (by kernel_rfl) ⟨rfl, ⟨rfl, fun _ => rfl⟩, rfl, trivial⟩ (by kernel_rfl) ⟨rfl, rfl, SVle.refl _, trivial⟩ ?_
    rintro _ rfl
    refine ⟨⟨rfl, trivial⟩, ?_⟩
    refine good_run 8 (obs := [InK IntKind.i64 ((↑k : Int) + (1 : Int))]) (by kernel_rfl) (by (first | omega | assumption | exact ⟨rfl, trivial⟩ | simp only [AllP, inK_iff, roomOK_iff, decide_eq_true_eq, Bool.and_eq_true, Bool.or_eq_true, Bool.not_eq_true', decide_eq_false_iff_not, and_true, true_and]; (first | omega | (and_intros <;> intros <;> (try and_intros) <;> first | omega | assumption | exact trivial)))) ?_
    refine good_backJ (k + 1) [Value.bool false = Value.bool false, noteK (keysOf (List.take k (List.map prS ss))) ((List.getD ss k default).From, (List.getD ss k default).Until) = keysOf (List.take (k + (1 : Nat)) (List.map prS ss)) ∧ ∀ (k_1 : Int), noteG (getsOf (List.take k (List.map prS ss))) ((List.getD ss k default).From, (List.getD ss k default).Until) k_1 = getsOf (List.take (k + (1 : Nat)) (List.map prS ss)) k_1, SVle (SV.val (Value.map (some b))) (SV.val (Value.map (some b))), (↑k : Int) + (1 : Int) = (↑(k + (1 : Nat)) : Int), (↑(List.length ss) : Int) = (↑(List.length ss) : Int), List.length ss = List.length ss ∧ ∀ (i : Nat), i < List.length ss → (fun i => Span.cells (List.getD ss i default)) i = (fun i => Span.cells (List.getD ss i default)) i, SVle (SV.fn (49 : Nat) [SV.ref [SV.val (Value.map (some b))] (0 : Nat)]) (SV.fn (49 : Nat) [SV.ref [SV.val (Value.map (some b))] (0 : Nat)]), Value.map (some b) = Value.map (some b), List.length L = List.length L ∧ ∀ (i : Nat), i < List.length L → (fun i => [pieces (List.getD L i [])]) i = (fun i => [pieces (List.getD L i [])]) i] (by kernel_rfl) (by kernel_rfl) ⟨rfl, ?_, SVle.refl _, (by omega), rfl, ⟨rfl, fun _ _ => rfl⟩, SVle.refl _, rfl, ⟨rfl, fun _ _ => rfl⟩, trivial⟩ (by omega) (by show _ < _; omega)
    · rw [take_snoc (ss.map prS) (0, 0) k (by simpa using hlt), keysOf_snoc, getsOf_snoc, getD_map (d := default) _ _ _ hlt]
      exact ⟨rfl, fun _ => rfl⟩
  · have hge : k = ss.length := by simp only [decide_eq_false_iff_not] at hc1; omega
    subst hge
    have e0 : (ss.map prS).take ss.length = ss.map prS := by rw [List.take_of_length_le (by simp)]
    rw [e0]
    refine good_run 2 (obs := []) (by kernel_rfl) trivial ?_
    refine good_leaveJ (by kernel_rfl) ?_
    refine good_run 10 (obs := []) (by kernel_rfl) trivial ?_
    refine good_loopJ (fun i : Nat => ⟨[(29, .sv (.int .i64 (i))), (28, LV.sv (SV.int IntKind.i64 (↑(List.length L) : Int))), (27, LV.sv (SV.lst (1 : Nat) (List.length L) fun i => [pieces (List.getD L i [])])), (6, LV.sv (SV.fn (49 : Nat) [SV.ref [SV.val (Value.map (some b))] (0 : Nat)])), (2000000, LV.isv (0 : Nat) (Value.map (some b))), (5, LV.ptr (1 : Nat) (0 : Nat))], [mapB (psAt ss L i 0), Blk.cells (64 : Nat) false [SV.val (Value.map (some b))]]⟩) (fun i => i ≤ L.length) (fun i => L.length - i) (0) [Value.bool false = Value.bool false, keysOf (List.map prS ss) = keysOf (psAt ss L (0 : Nat) (0 : Nat)) ∧ ∀ (k : Int), getsOf (List.map prS ss) k = getsOf (psAt ss L (0 : Nat) (0 : Nat)) k, SVle (SV.val (Value.map (some b))) (SV.val (Value.map (some b))), (0 : Int) = (0 : Int), (↑(List.length L) : Int) = (↑(List.length L) : Int), List.length L = List.length L ∧ ∀ (i : Nat), i < List.length L → (fun i => [pieces (List.getD L i [])]) i = (fun i => [pieces (List.getD L i [])]) i, SVle (SV.fn (49 : Nat) [SV.ref [SV.val (Value.map (some b))] (0 : Nat)]) (SV.fn (49 : Nat) [SV.ref [SV.val (Value.map (some b))] (0 : Nat)]), Value.map (some b) = Value.map (some b)] (by kernel_rfl) (by kernel_rfl) ⟨rfl, ?_, SVle.refl _, rfl, rfl, ⟨rfl, fun _ _ => rfl⟩, SVle.refl _, rfl, trivial⟩ (by omega) ?_
    · have e1 : psAt ss L 0 0 = ss.map prS := by simp [psAt]
      rw [e1]; exact ⟨rfl, fun _ => rfl⟩
    intro i hi
    refine good_run 6 (obs := []) (by kernel_rfl) trivial ?_
    refine good_cond (decide ((↑i : Int) < (↑(List.length L) : Int))) (by kernel_rfl) (fun hc2 => ?_) (fun hc2 => ?_)
    · have hlt : i < L.length := by simp only [decide_eq_true_eq] at hc2; omega
      have hli := h3 _ (getD_mem L [] i hlt)
      refine good_run 18 (obs := [(1 : Nat) = (1 : Nat) ∧ (0 : Int) ≤ (↑i : Int) ∧ (↑i : Int) < (↑(List.length L) : Int)]) (by kernel_rfl) (by (first | omega | assumption | exact ⟨rfl, trivial⟩ | simp only [AllP, inK_iff, roomOK_iff, decide_eq_true_eq, Bool.and_eq_true, Bool.or_eq_true, Bool.not_eq_true', decide_eq_false_iff_not, and_true, true_and]; (first | omega | (and_intros <;> intros <;> (try and_intros) <;> first | omega | assumption | exact trivial)))) ?_
      refine good_loopJ (fun j : Nat => ⟨[(35, .sv (.int .i64 (j))), (34, LV.sv (SV.int IntKind.i64 (↑(List.length (List.getD L i [])) : Int))), (33, LV.sv (SV.lst (3 : Nat) (List.length (List.getD L i [])) fun i_1 => Piece.cells (List.getD (List.getD L i []) i_1 default))), (29, LV.sv (SV.int IntKind.i64 (↑i : Int))), (28, LV.sv (SV.int IntKind.i64 (↑(List.length L) : Int))), (27, LV.sv (SV.lst (1 : Nat) (List.length L) fun i => [pieces (List.getD L i [])])), (6, LV.sv (SV.fn (49 : Nat) [SV.ref [SV.val (Value.map (some b))] (0 : Nat)])), (2000000, LV.isv (0 : Nat) (Value.map (some b))), (5, LV.ptr (1 : Nat) (0 : Nat))], [mapB (psAt ss L i j), Blk.cells (64 : Nat) false [SV.val (Value.map (some b))]]⟩) (fun j => j ≤ (L.getD i []).length) (fun j => (L.getD i []).length - j) (0) [Value.bool false = Value.bool false, keysOf (psAt ss L i (0 : Nat)) = keysOf (psAt ss L i (0 : Nat)) ∧ ∀ (k : Int), getsOf (psAt ss L i (0 : Nat)) k = getsOf (psAt ss L i (0 : Nat)) k, SVle (SV.val (Value.map (some b))) (SV.val (Value.map (some b))), (0 : Int) = (0 : Int), (↑(List.length (List.getD L i [])) : Int) = (↑(List.length (List.getD L i [])) : Int), List.length (List.getD L i []) = List.length (List.getD L i []) ∧ ∀ (i_1 : Nat), i_1 < List.length (List.getD L i []) → (fun i_2 => Piece.cells (List.getD (List.getD L i []) i_2 default)) i_1 = (fun i_1 => Piece.cells (List.getD (List.getD L i []) i_1 default)) i_1, (↑i : Int) = (↑i : Int), (↑(List.length L) : Int) = (↑(List.length L) : Int), List.length L = List.length L ∧ ∀ (i : Nat), i < List.length L → (fun i => [pieces (List.getD L i [])]) i = (fun i => [pieces (List.getD L i [])]) i, SVle (SV.fn (49 : Nat) [SV.ref [SV.val (Value.map (some b))] (0 : Nat)]) (SV.fn (49 : Nat) [SV.ref [SV.val (Value.map (some b))] (0 : Nat)]), Value.map (some b) = Value.map (some b)] (by kernel_rfl) (by kernel_rfl) ⟨rfl, ⟨rfl, fun _ => rfl⟩, SVle.refl _, rfl, rfl, ⟨rfl, fun _ _ => rfl⟩, rfl, rfl, ⟨rfl, fun _ _ => rfl⟩, SVle.refl _, rfl, trivial⟩ (by omega) ?_
      intro j hj
      refine good_run 6 (obs := []) (by kernel_rfl) trivial ?_
      refine good_cond (decide ((↑j : Int) < (↑(List.length (List.getD L i [])) : Int))) (by kernel_rfl) (fun hc3 => ?_) (fun hc3 => ?_)
      · have hjt : j < (L.getD i []).length := by simp only [decide_eq_true_eq] at hc3; omega
        refine good_run 15 (obs := [(3 : Nat) = (3 : Nat) ∧ (0 : Int) ≤ (↑j : Int) ∧ (↑j : Int) < (↑(List.length (List.getD L i [])) : Int), (0 : Nat) + (3 : Nat) ≤ (3 : Nat), (3 : Nat) = (3 : Nat) ∧ (0 : Nat) + (3 : Nat) ≤ (3 : Nat), (0 : Nat) + (2 : Nat) ≤ (3 : Nat)]) (by kernel_rfl) (by (first | omega | assumption | exact ⟨rfl, trivial⟩ | simp only [AllP, inK_iff, roomOK_iff, decide_eq_true_eq, Bool.and_eq_true, Bool.or_eq_true, Bool.not_eq_true', decide_eq_false_iff_not, and_true, true_and]; (first | omega | (and_intros <;> intros <;> (try and_intros) <;> first | omega | assumption | exact trivial)))) ?_
        refine good_callx [0] [0] (s49x (fun _ => .map (some b)) ((L.getD i []).getD j default).From ((L.getD i []).getD j default).Until (keysOf (psAt ss L i j)) (getsOf (psAt ss L i j))) (by kernel_rfl) (by kernel_rfl) [Value.bool false = Value.bool false, keysOf (psAt ss L i j) = keysOf (psAt ss L i j) ∧ ∀ (k : Int), getsOf (psAt ss L i j) k = getsOf (psAt ss L i j) k, Value.map (some b) = (fun x => Value.map (some b)) (0 : Nat)] [(List.getD (List.getD L i []) j default).From = (List.getD (List.getD L i []) j default).From, (List.getD (List.getD L i []) j default).Until = (List.getD (List.getD L i []) j default).Until, SVle (SV.ref [SV.val (Value.map (some b))] (0 : Nat)) (SV.ref [SV.val (Value.map (some b))] (0 : Nat))] (by kernel_rfl) ⟨rfl, ⟨rfl, fun _ => rfl⟩, rfl, trivial⟩ (by kernel_rfl) ⟨rfl, rfl, SVle.refl _, trivial⟩ ?_
        rintro _ rfl
        refine ⟨⟨rfl, trivial⟩, ?_⟩
        refine good_run 8 (obs := [InK IntKind.i64 ((↑j : Int) + (1 : Int))]) (by kernel_rfl) (by (first | omega | assumption | exact ⟨rfl, trivial⟩ | simp only [AllP, inK_iff, roomOK_iff, decide_eq_true_eq, Bool.and_eq_true, Bool.or_eq_true, Bool.not_eq_true', decide_eq_false_iff_not, and_true, true_and]; (first | omega | (and_intros <;> intros <;> (try and_intros) <;> first | omega | assumption | exact trivial)))) ?_
        refine good_backJ (j + 1) [Value.bool false = Value.bool false, noteK (keysOf (psAt ss L i j)) ((List.getD (List.getD L i []) j default).From, (List.getD (List.getD L i []) j default).Until) = keysOf (psAt ss L i (j + (1 : Nat))) ∧ ∀ (k : Int), noteG (getsOf (psAt ss L i j)) ((List.getD (List.getD L i []) j default).From, (List.getD (List.getD L i []) j default).Until) k = getsOf (psAt ss L i (j + (1 : Nat))) k, SVle (SV.val (Value.map (some b))) (SV.val (Value.map (some b))), (↑j : Int) + (1 : Int) = (↑(j + (1 : Nat)) : Int), (↑(List.length (List.getD L i [])) : Int) = (↑(List.length (List.getD L i [])) : Int), List.length (List.getD L i []) = List.length (List.getD L i []) ∧ ∀ (i_1 : Nat), i_1 < List.length (List.getD L i []) → (fun i_1 => Piece.cells (List.getD (List.getD L i []) i_1 default)) i_1 = (fun i_1 => Piece.cells (List.getD (List.getD L i []) i_1 default)) i_1, (↑i : Int) = (↑i : Int), (↑(List.length L) : Int) = (↑(List.length L) : Int), List.length L = List.length L ∧ ∀ (i : Nat), i < List.length L → (fun i => [pieces (List.getD L i [])]) i = (fun i => [pieces (List.getD L i [])]) i, SVle (SV.fn (49 : Nat) [SV.ref [SV.val (Value.map (some b))] (0 : Nat)]) (SV.fn (49 : Nat) [SV.ref [SV.val (Value.map (some b))] (0 : Nat)]), Value.map (some b) = Value.map (some b)] (by kernel_rfl) (by kernel_rfl) ⟨rfl, ?_, SVle.refl _, (by omega), rfl, ⟨rfl, fun _ _ => rfl⟩, rfl, rfl, ⟨rfl, fun _ _ => rfl⟩, SVle.refl _, rfl, trivial⟩ (by omega) (by show _ < _; omega)
        · rw [psAt_succ hjt, keysOf_snoc, getsOf_snoc]
          exact ⟨rfl, fun _ => rfl⟩
      · have hge : j = (L.getD i []).length := by simp only [decide_eq_false_iff_not] at hc3; omega
        subst hge
        refine good_run 2 (obs := []) (by kernel_rfl) trivial ?_
        refine good_leaveJ (by kernel_rfl) ?_
        refine good_run 7 (obs := [InK IntKind.i64 ((↑i : Int) + (1 : Int))]) (by kernel_rfl) (by (first | omega | assumption | exact ⟨rfl, trivial⟩ | simp only [AllP, inK_iff, roomOK_iff, decide_eq_true_eq, Bool.and_eq_true, Bool.or_eq_true, Bool.not_eq_true', decide_eq_false_iff_not, and_true, true_and]; (first | omega | (and_intros <;> intros <;> (try and_intros) <;> first | omega | assumption | exact trivial)))) ?_
        refine good_backJ (i + 1) [Value.bool false = Value.bool false, keysOf (psAt ss L i (List.length (List.getD L i []))) = keysOf (psAt ss L (i + (1 : Nat)) (0 : Nat)) ∧ ∀ (k : Int), getsOf (psAt ss L i (List.length (List.getD L i []))) k = getsOf (psAt ss L (i + (1 : Nat)) (0 : Nat)) k, SVle (SV.val (Value.map (some b))) (SV.val (Value.map (some b))), (↑i : Int) + (1 : Int) = (↑(i + (1 : Nat)) : Int), (↑(List.length L) : Int) = (↑(List.length L) : Int), List.length L = List.length L ∧ ∀ (i : Nat), i < List.length L → (fun i => [pieces (List.getD L i [])]) i = (fun i => [pieces (List.getD L i [])]) i, SVle (SV.fn (49 : Nat) [SV.ref [SV.val (Value.map (some b))] (0 : Nat)]) (SV.fn (49 : Nat) [SV.ref [SV.val (Value.map (some b))] (0 : Nat)]), Value.map (some b) = Value.map (some b)] (by kernel_rfl) (by kernel_rfl) ⟨rfl, ?_, SVle.refl _, (by omega), rfl, ⟨rfl, fun _ _ => rfl⟩, SVle.refl _, rfl, trivial⟩ (by omega) (by show _ < _; omega)
        · rw [psAt_full hlt]
          exact ⟨rfl, fun _ => rfl⟩
    · have hge : i = L.length := by simp only [decide_eq_false_iff_not] at hc2; omega
      subst hge
      rw [psAt_end]
      refine good_run 2 (obs := []) (by kernel_rfl) trivial ?_
      refine good_leaveJ (by kernel_rfl) ?_
      refine good_run 10 (obs := []) (by kernel_rfl) trivial ?_
      refine good_unname 45 0 (Value.map (some b)) (by kernel_rfl) ?_
      refine good_range ((64 : Nat)) ((0 : Nat)) (Value.bool false) (keysOf (psOf ss L)) (getsOf (psOf ss L)) (by kernel_rfl) (by kernel_rfl) (by kernel_rfl) ?_
      refine good_run 3 (obs := []) (by kernel_rfl) trivial ?_
      refine good_loopJ (fun seen : List Int => ⟨[(13, .own 3), (46, LV.ptr (2 : Nat) (0 : Nat)), (2000000, LV.isv (0 : Nat) (Value.map (some b)))], [Blk.sem (fmapS (Value.bool false) (keysOf (psOf ss L)) (getsOf (psOf ss L))), Blk.cells (64 : Nat) false [SV.val (Value.map (some b))], .sem (iterS (keysOf (psOf ss L)) (getsOf (psOf ss L)) seen), rowI seen]⟩) (fun seen => seen.Nodup ∧ ∀ x ∈ seen, x ∈ keysOf (psOf ss L)) (fun seen => (keysOf (psOf ss L)).length - seen.length) ([]) [fmapS (Value.bool false) (keysOf (psOf ss L)) (getsOf (psOf ss L)) = fmapS (Value.bool false) (keysOf (psOf ss L)) (getsOf (psOf ss L)), SVle (SV.val (Value.map (some b))) (SV.val (Value.map (some b))), iterS (keysOf (psOf ss L)) (getsOf (psOf ss L)) [] = iterS (keysOf (psOf ss L)) (getsOf (psOf ss L)) [], (0 : Nat) = (0 : Nat), Value.map (some b) = Value.map (some b)] (by kernel_rfl) (by kernel_rfl) ⟨rfl, SVle.refl _, rfl, rfl, rfl, trivial⟩ ?_ ?_
      · exact ⟨by simp, by simp⟩
      rintro seen ⟨hs1, hs2⟩
      have hkn : (keysOf (psOf ss L)).Nodup := keysOf_nodup _ [] (by simp)
      have hkl := keysOf_len (psOf ss L) []
      have hfl := flat_len L h3
      have hpl : (psOf ss L).length = ss.length + L.flatten.length := by unfold psOf; rw [List.length_append, List.length_map, List.length_map]
      have hsl := nodup_len seen _ hs1 hs2
      have hkb : (keysOf (psOf ss L)).length ≤ 200002000 := by unfold keysOf; simp only [List.length_nil] at hkl; omega
      refine good_run 2 (obs := []) (by kernel_rfl) trivial ?_
      refine good_next ((2 : Nat)) (keysOf (psOf ss L)) (getsOf (psOf ss L)) (seen) (by kernel_rfl) (by kernel_rfl) (fun x hx hn => ?_) (fun hn => ?_)
      · have hs1' : (seen ++ [x]).Nodup := by
          rw [List.nodup_append]
          exact ⟨hs1, by simp, fun a ha c hc e => by simp at hc; subst hc e; exact hn ha⟩
        have hs2' : ∀ y ∈ seen ++ [x], y ∈ keysOf (psOf ss L) := fun y hy => by
          rcases List.mem_append.1 hy with hy | hy
          · exact hs2 y hy
          · simp at hy; subst hy; exact hx
        have hl' := nodup_len _ _ hs1' hs2'
        rw [List.length_append, List.length_singleton] at hl'
        refine good_run 4 (obs := []) (by kernel_rfl) trivial ?_
        refine good_cond true (by kernel_rfl) (fun _ => ?_) (fun h => nomatch h)
        refine good_run 4 (obs := []) (by kernel_rfl) trivial ?_
        refine good_entry ((2 : Nat)) (keysOf (psOf ss L)) (getsOf (psOf ss L)) (seen) (x) (by kernel_rfl) (by kernel_rfl) ?_
        refine good_run 13 (obs := [(3 : Nat) = (3 : Nat) ∧ (1 : Nat) = (1 : Nat) ∧ (1 : Nat) = (1 : Nat) ∧ roomOK (List.length seen + (1 : Nat)) (8 : Nat)]) (by kernel_rfl) (by (first | omega | assumption | exact ⟨rfl, trivial⟩ | simp only [AllP, inK_iff, roomOK_iff, decide_eq_true_eq, Bool.and_eq_true, Bool.or_eq_true, Bool.not_eq_true', decide_eq_false_iff_not, and_true, true_and]; (first | omega | (and_intros <;> intros <;> (try and_intros) <;> first | omega | assumption | exact trivial)))) ?_
        refine good_backJ (seen ++ [x]) [fmapS (Value.bool false) (keysOf (psOf ss L)) (getsOf (psOf ss L)) = fmapS (Value.bool false) (keysOf (psOf ss L)) (getsOf (psOf ss L)), SVle (SV.val (Value.map (some b))) (SV.val (Value.map (some b))), iterS (keysOf (psOf ss L)) (getsOf (psOf ss L)) (seen ++ [x]) = iterS (keysOf (psOf ss L)) (getsOf (psOf ss L)) (seen ++ [x]), List.length seen + (1 : Nat) = List.length (seen ++ [x]) ∧ ∀ (i : Nat), i < List.length seen + (1 : Nat) → joinGet (List.length seen) (fun i => [SV.int IntKind.i64 (List.getD seen i (0 : Int))]) (cutRows (1 : Nat) [SV.int IntKind.i64 x]) i = (fun i => [SV.int IntKind.i64 (List.getD (seen ++ [x]) i (0 : Int))]) i, Value.map (some b) = Value.map (some b)] (by kernel_rfl) (by kernel_rfl) ⟨rfl, SVle.refl _, rfl, ?_, rfl, trivial⟩ ⟨by omega, by assumption⟩ ?_
        · exact join_ints _ [x] _ fun i hi => by
            have : i = 0 := by simpa using hi
            subst this; rfl
        · show _ < _
          rw [List.length_append, List.length_singleton]; omega
      · have hp : seen.Perm (keysOf (psOf ss L)) := (List.perm_ext_iff_of_nodup hs1 hkn).2 fun x => ⟨hs2 x, hn x⟩
        refine good_run 4 (obs := []) (by kernel_rfl) trivial ?_
        refine good_cond false (by kernel_rfl) (fun h => nomatch h) (fun _ => ?_)
        refine good_run 2 (obs := []) (by kernel_rfl) trivial ?_
        refine good_leaveJ (by kernel_rfl) ?_
        refine good_run 4 (obs := []) (by kernel_rfl) trivial ?_
        refine good_sort (by kernel_rfl) (SVles.refl _) (SVles.refl _) (s50 ((3 : Nat)) (seen) (by (first | omega | assumption | exact ⟨rfl, trivial⟩ | simp only [AllP, inK_iff, roomOK_iff, decide_eq_true_eq, Bool.and_eq_true, Bool.or_eq_true, Bool.not_eq_true', decide_eq_false_iff_not, and_true, true_and]; (first | omega | (and_intros <;> intros <;> (try and_intros) <;> first | omega | assumption | exact trivial))))) ?_
        refine good_run 9 (obs := []) (by kernel_rfl) trivial ?_
        refine good_finOwn [List.length seen = List.length (isort (keysOf (psOf ss L))) ∧ ∀ (j : Nat), j < List.length (isort (keysOf (psOf ss L))) → (fun i => [SV.int IntKind.i64 (List.getD (isort seen) i (0 : Int))]) j = (fun i => [SV.int IntKind.i64 (List.getD (isort (keysOf (psOf ss L))) i (0 : Int))]) j] (by kernel_rfl) ⟨?_, trivial⟩
        rw [isort_eq hp]
        exact ⟨by rw [isort_length]; exact hp.length_eq, fun _ _ => rfl⟩
end Go.Sx.T
