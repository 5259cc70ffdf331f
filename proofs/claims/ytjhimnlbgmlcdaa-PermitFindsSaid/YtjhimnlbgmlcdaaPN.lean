/- Contracts of functions of the program, each proved by running its code symbolically (PN). -/
import Derived.Test.YtjhimnlbgmlcdaaPI0
import Derived.Test.YtjhimnlbgmlcdaaPSY
import Derived.Test.YtjhimnlbgmlcdaaPKY
import Derived.Test.YtjhimnlbgmlcdaaPTY
import Derived.Test.YtjhimnlbgmlcdaaSxKeys
import Derived.Test.YtjhimnlbgmlcdaaSx4
namespace Go.Sx.T
open Go Go.Proofs Go.Sx
set_option maxRecDepth 100000
set_option maxHeartbeats 4000000
set_option linter.unusedVariables false
set_option linter.unusedSimpArgs false
def covB (path : List Int) (kind day : Int) (p : Permit) : Bool := openB p path day && kindB p kind
def keyStep (path : List Int) (kind day : Int) (ks : List Int) (p : Permit) : List Int := if covB path kind day p = true then putKey ks p.Reader else ks
def getStep (path : List Int) (kind day : Int) (g : Int → SV) (p : Permit) : Int → SV := if covB path kind day p = true then putGet p.Reader (.bool true) g else g
def keysR (path : List Int) (kind day : Int) (l : List Permit) : List Int := l.foldl (keyStep path kind day) []
def getsR (path : List Int) (kind day : Int) (l : List Permit) : Int → SV := l.foldl (getStep path kind day) fun _ => .bool false
def xsR (path : List Int) (kind day : Int) (l : List Permit) : List Int := (l.filter (covB path kind day)).map Permit.Reader
def readersL (l : List Permit) (path : List Int) (kind day : Int) : List Int := if check l ≠ 0 then [] else isort (keysR path kind day l)
section
variable (path : List Int) (kind day : Int)
theorem keysR_snoc (l : List Permit) (p : Permit) : keysR path kind day (l ++ [p]) = keyStep path kind day (keysR path kind day l) p := by simp [keysR]
theorem getsR_snoc (l : List Permit) (p : Permit) : getsR path kind day (l ++ [p]) = getStep path kind day (getsR path kind day l) p := by simp [getsR]
theorem xsR_snoc (l : List Permit) (p : Permit) : xsR path kind day (l ++ [p]) = if covB path kind day p = true then xsR path kind day l ++ [p.Reader] else xsR path kind day l := by
  unfold xsR
  rw [List.filter_append]
  by_cases h : covB path kind day p = true <;> simp [h]
theorem keysR_ok (l : List Permit) : (keysR path kind day l).Nodup ∧ (keysR path kind day l).length ≤ l.length ∧ ∀ x, x ∈ keysR path kind day l ↔ x ∈ xsR path kind day l := by
  induction l using rev_ind with
  | h0 => simp [keysR, xsR]
  | h1 l p ih =>
    obtain ⟨h1, h2, h3⟩ := ih
    rw [keysR_snoc, xsR_snoc]
    unfold keyStep
    by_cases h : covB path kind day p = true
    · rw [if_pos h, if_pos h]
      refine ⟨putKey_nodup' h1 _, ?_, fun x => ?_⟩
      · have := putKey_len' (keysR path kind day l) p.Reader
        simp; omega
      · rw [putKey_mem, h3]; simp
    · rw [if_neg h, if_neg h]
      exact ⟨h1, by simp; omega, h3⟩
theorem xsR_range {l : List Permit} (hc : check l = 0) : ∀ x ∈ xsR path kind day l, 0 < x ∧ x ≤ 1073741824 := by
  intro x hx
  obtain ⟨p, hp, rfl⟩ := List.mem_map.1 hx
  have hp := (List.mem_filter.1 hp).2
  unfold covB at hp
  rw [Bool.and_eq_true] at hp
  have hf := open_formed hp.1
  simp only [formedB, idB, Bool.and_eq_true, decide_eq_true_eq] at hf
  omega
end
theorem s48x (us : Nat → Value) (b : Nat) : SpecX Try.prog 48 us [.sv (.val (.map (some b)))] [] (fun o => ∃ c, o = ⟨[.sv (.fn 53 [.val (.pointer (some ⟨c, 0, none⟩))])], [.cells 64 true [.val (.map (some b))]], [(0, .pointer (some ⟨c, 0, none⟩))]⟩) := by
  refine specX_of_good mixed Try.func48 F48_ok (by kernel_rfl) (by kernel_rfl) (by kernel_rfl) ?_
  refine good_run 8 (obs := []) (by kernel_rfl) trivial ?_
  refine good_tagCells 0 (t := (64 : Nat)) (mu := true) (cs := [SV.val (Value.map (some b))]) (by kernel_rfl) (fun c => ?_)
  refine good_val 1 0 (Value.pointer (some { block := c, off := (0 : Nat) })) (by kernel_rfl) ?_
  refine good_run 5 (obs := []) (by kernel_rfl) trivial ?_
  refine good_finX (⟨[.sv (.fn 53 [.val (.pointer (some ⟨c, 0, none⟩))])], [.cells 64 true [.val (.map (some b))]], [(0, .pointer (some ⟨c, 0, none⟩))]⟩) (⟨c, rfl⟩) [SVle (SV.val (Value.map (some b))) (SV.val (Value.map (some b))), SVle (SV.fn (53 : Nat) [SV.val (Value.pointer (some { block := c, off := (0 : Nat) }))]) (SV.fn (53 : FuncId) [SV.val (Value.pointer (some { block := c, off := (0 : Nat) }))]), Value.pointer (some { block := c, off := (0 : Nat) }) = ((0 : Nat), Value.pointer (some { block := c, off := (0 : Nat) })).snd] (by kernel_rfl) ⟨SVle.refl _, SVle.refl _, rfl, trivial⟩
def twoK (b c : Nat) (i : Nat) : Value := if i = 0 then .map (some b) else .pointer (some ⟨c, 0, none⟩)
theorem s47x (b c : Nat) (z : Value) (keys : List Int) (get : Int → SV) (hin : ∀ k ∈ keys, InK .i64 k) (hlen : keys.length ≤ 1000000000) :
    SpecX Try.prog 47 (twoK b c) [.sv (.fn 53 [.val (.pointer (some ⟨c, 0, none⟩))])] [.map z keys get, .cells 64 true [.val (.map (some b))]]
      (fun o => o = ⟨[.sv (ints (isort keys))], [.map z keys get, .cells 64 true [.val (.map (some b))]], [(0, .map (some b)), (1, .pointer (some ⟨c, 0, none⟩))]⟩) :=
  sorted_spec { laysK with } laysS lays189 rfl (hasBody_of_slim Try.func47 F47_ok) (enters_of Try.func52 (by kernel_rfl) rfl) (enters_of Try.func53 (by kernel_rfl) rfl) (twoK b c) z 64 true keys get hin hlen
theorem s30 (l : List Permit) (path : List Int) (kind day : Int) : Spec Try.prog 30 [permits l, ints path, .int .i64 kind, .int .i64 day] (ints (readersL l path kind day)) := by
  refine spec_len 0 rfl (hasBody_of_slim Try.func30 F30_ok) fun hlen => ?_
  refine spec_of_good mixed Try.func30 F30_ok (by kernel_rfl) ?_
  refine good_run 9 (obs := []) (by kernel_rfl) trivial ?_
  refine good_call (c := True) (by kernel_rfl) (fun _ => SVles.refl _) (fun _ => s16 (l)) (by kernel_rfl) ?_
  refine good_run 3 (obs := []) (by kernel_rfl) trivial ?_
  refine good_cond (!decide (check l = (0 : Int))) (by kernel_rfl) (fun hc1 => ?_) (fun hc1 => ?_)
  · have e : readersL l path kind day = [] := if_pos (by simpa using hc1)
    rw [e]
    refine good_run 7 (obs := []) (by kernel_rfl) trivial ?_
    refine good_fin [(0 : Nat) = (0 : Nat)] (by kernel_rfl) ⟨rfl, trivial⟩
  · have hc : check l = 0 := by simpa using hc1
    have hl := check_len hc
    have e : readersL l path kind day = isort (keysR path kind day l) := if_neg (by simp [hc])
    rw [e]
    refine good_run 16 (obs := []) (by kernel_rfl) trivial ?_
    refine good_loopJ (fun k : Nat => ⟨[(18, .sv (.int .i64 (k))), (17, LV.sv (SV.int IntKind.i64 (↑(List.length l) : Int))), (16, LV.sv (SV.lst (6 : Nat) (List.length l) fun i => Permit.cells (List.getD l i default))), (9, LV.own (0 : Nat)), (1, LV.sv (SV.lst (1 : Nat) (List.length path) fun i => [SV.int IntKind.i64 (List.getD path i (0 : Int))])), (2, LV.sv (SV.int IntKind.i64 kind)), (3, LV.sv (SV.int IntKind.i64 day))], [.map (.bool false) (keysR path kind day (l.take k)) (getsR path kind day (l.take k))]⟩) (fun k => k ≤ l.length) (fun k => l.length - k) (0) [Value.bool false = Value.bool false, ([] : List Int) = [] ∧ ∀ (k : Int), (fun x => valSV (Value.bool false)) k = getsR path kind day (List.take (0 : Nat) l) k, (0 : Int) = (0 : Int), (↑(List.length l) : Int) = (↑(List.length l) : Int), List.length l = List.length l ∧ ∀ (i : Nat), i < List.length l → (fun i => Permit.cells (List.getD l i default)) i = (fun i => Permit.cells (List.getD l i default)) i, List.length path = List.length path ∧ ∀ (i : Nat), i < List.length path → (fun i => [SV.int IntKind.i64 (List.getD path i (0 : Int))]) i = (fun i => [SV.int IntKind.i64 (List.getD path i (0 : Int))]) i, kind = kind, day = day] (by kernel_rfl) (by kernel_rfl) ⟨rfl, ?_, rfl, rfl, ⟨rfl, fun _ _ => rfl⟩, ⟨rfl, fun _ _ => rfl⟩, rfl, rfl, trivial⟩ (by omega) ?_
    · exact ⟨rfl, fun _ => rfl⟩
    intro k hk
    refine good_run 6 (obs := []) (by kernel_rfl) trivial ?_
    refine good_cond (decide ((↑k : Int) < (↑(List.length l) : Int))) (by kernel_rfl) (fun hc2 => ?_) (fun hc2 => ?_)
    · have hlt : k < l.length := by simp only [decide_eq_true_eq] at hc2; omega
      have hks := keysR_snoc path kind day (l.take k) (l.getD k default)
      have hgs := getsR_snoc path kind day (l.take k) (l.getD k default)
      rw [← take_snoc l default k hlt] at hks hgs
      unfold keyStep at hks
      unfold getStep at hgs
      refine good_run 16 (obs := [(6 : Nat) = (6 : Nat) ∧ (0 : Int) ≤ (↑k : Int) ∧ (↑k : Int) < (↑(List.length l) : Int), (0 : Nat) + (6 : Nat) ≤ (6 : Nat), (6 : Nat) = (6 : Nat) ∧ (0 : Nat) + (6 : Nat) ≤ (6 : Nat), (0 : Nat) + (6 : Nat) ≤ (6 : Nat)]) (by kernel_rfl) (by (first | omega | assumption | exact ⟨rfl, trivial⟩ | simp only [AllP, inK_iff, roomOK_iff, decide_eq_true_eq, Bool.and_eq_true, Bool.or_eq_true, Bool.not_eq_true', decide_eq_false_iff_not, and_true, true_and]; (first | omega | (and_intros <;> intros <;> (try and_intros) <;> first | omega | assumption | exact trivial)))) ?_
      refine good_call (c := True) (by kernel_rfl) (fun _ => SVles.refl _) (fun _ => s35 (List.getD l k default) (path) (day)) (by kernel_rfl) ?_
      refine good_run 4 (obs := [openB (List.getD l k default) path day = true ∧ True → (0 : Nat) + (6 : Nat) ≤ (6 : Nat)]) (by kernel_rfl) (by (first | omega | assumption | exact ⟨rfl, trivial⟩ | simp only [AllP, inK_iff, roomOK_iff, decide_eq_true_eq, Bool.and_eq_true, Bool.or_eq_true, Bool.not_eq_true', decide_eq_false_iff_not, and_true, true_and]; (first | omega | (and_intros <;> intros <;> (try and_intros) <;> first | omega | assumption | exact trivial)))) ?_
      refine good_call (c := openB (List.getD l k default) path day = true ∧ True) (by kernel_rfl) (fun _ => SVles.refl _) (fun _ => s36 (List.getD l k default) (kind) ?_) (by kernel_rfl) ?_
      · rename_i h
        refine formed_kinds (open_formed (path := path) (day := day) ?_)
        simpa using h
      refine good_run 4 (obs := []) (by kernel_rfl) trivial ?_
      refine good_cond (openB (List.getD l k default) path day && kindB (List.getD l k default) kind) (by kernel_rfl) (fun hc3 => ?_) (fun hc3 => ?_)
      · have hcov : covB path kind day (l.getD k default) = true := hc3
        rw [if_pos hcov] at hks hgs
        refine good_run 13 (obs := [InK IntKind.i64 ((↑k : Int) + (1 : Int))]) (by kernel_rfl) (by (first | omega | assumption | exact ⟨rfl, trivial⟩ | simp only [AllP, inK_iff, roomOK_iff, decide_eq_true_eq, Bool.and_eq_true, Bool.or_eq_true, Bool.not_eq_true', decide_eq_false_iff_not, and_true, true_and]; (first | omega | (and_intros <;> intros <;> (try and_intros) <;> first | omega | assumption | exact trivial)))) ?_
        refine good_backJ (k + 1) [Value.bool false = Value.bool false, putKey (keysR path kind day (List.take k l)) (List.getD l k default).Reader = keysR path kind day (List.take (k + (1 : Nat)) l) ∧ ∀ (k_1 : Int), putGet (List.getD l k default).Reader (SV.bool true) (getsR path kind day (List.take k l)) k_1 = getsR path kind day (List.take (k + (1 : Nat)) l) k_1, (↑k : Int) + (1 : Int) = (↑(k + (1 : Nat)) : Int), (↑(List.length l) : Int) = (↑(List.length l) : Int), List.length l = List.length l ∧ ∀ (i : Nat), i < List.length l → (fun i => Permit.cells (List.getD l i default)) i = (fun i => Permit.cells (List.getD l i default)) i, List.length path = List.length path ∧ ∀ (i : Nat), i < List.length path → (fun i => [SV.int IntKind.i64 (List.getD path i (0 : Int))]) i = (fun i => [SV.int IntKind.i64 (List.getD path i (0 : Int))]) i, kind = kind, day = day] (by kernel_rfl) (by kernel_rfl) ⟨rfl, ?_, (by omega), rfl, ⟨rfl, fun _ _ => rfl⟩, ⟨rfl, fun _ _ => rfl⟩, rfl, rfl, trivial⟩ (by omega) (by show _ < _; omega)
        rw [hks, hgs]
        exact ⟨rfl, fun _ => rfl⟩
      · have hcov : ¬ covB path kind day (l.getD k default) = true := by
          have : covB path kind day (l.getD k default) = false := hc3
          rw [this]; decide
        rw [if_neg hcov] at hks hgs
        refine good_run 7 (obs := [InK IntKind.i64 ((↑k : Int) + (1 : Int))]) (by kernel_rfl) (by (first | omega | assumption | exact ⟨rfl, trivial⟩ | simp only [AllP, inK_iff, roomOK_iff, decide_eq_true_eq, Bool.and_eq_true, Bool.or_eq_true, Bool.not_eq_true', decide_eq_false_iff_not, and_true, true_and]; (first | omega | (and_intros <;> intros <;> (try and_intros) <;> first | omega | assumption | exact trivial)))) ?_
        refine good_backJ (k + 1) [Value.bool false = Value.bool false, keysR path kind day (List.take k l) = keysR path kind day (List.take (k + (1 : Nat)) l) ∧ ∀ (k_1 : Int), getsR path kind day (List.take k l) k_1 = getsR path kind day (List.take (k + (1 : Nat)) l) k_1, (↑k : Int) + (1 : Int) = (↑(k + (1 : Nat)) : Int), (↑(List.length l) : Int) = (↑(List.length l) : Int), List.length l = List.length l ∧ ∀ (i : Nat), i < List.length l → (fun i => Permit.cells (List.getD l i default)) i = (fun i => Permit.cells (List.getD l i default)) i, List.length path = List.length path ∧ ∀ (i : Nat), i < List.length path → (fun i => [SV.int IntKind.i64 (List.getD path i (0 : Int))]) i = (fun i => [SV.int IntKind.i64 (List.getD path i (0 : Int))]) i, kind = kind, day = day] (by kernel_rfl) (by kernel_rfl) ⟨rfl, ?_, (by omega), rfl, ⟨rfl, fun _ _ => rfl⟩, ⟨rfl, fun _ _ => rfl⟩, rfl, rfl, trivial⟩ (by omega) (by show _ < _; omega)
        rw [hks, hgs]
        exact ⟨rfl, fun _ => rfl⟩
    · have hge : k = l.length := by simp only [decide_eq_false_iff_not] at hc2; omega
      subst hge
      rw [List.take_length]
      obtain ⟨q1, q2, q3⟩ := keysR_ok path kind day l
      have hin : ∀ x ∈ keysR path kind day l, InK .i64 x := fun x hx => (inK_iff x).2 (by have := xsR_range path kind day hc x ((q3 x).1 hx); omega)
      refine good_run 2 (obs := []) (by kernel_rfl) trivial ?_
      refine good_leaveJ (by kernel_rfl) ?_
      refine good_run 4 (obs := []) (by kernel_rfl) trivial ?_
      refine good_tagMap 0 (z := Value.bool false) (ks := keysR path kind day l) (get := getsR path kind day l) (by kernel_rfl) (fun b => ?_)
      refine good_val 35 0 (Value.map (some b)) (by kernel_rfl) ?_
      refine good_callx [] [] (s48x (fun _ => undef) b) (by kernel_rfl) (by kernel_rfl) [] [SVle (SV.val (Value.map (some b))) (SV.val (Value.map (some b)))] (by kernel_rfl) trivial (by kernel_rfl) ⟨SVle.refl _, trivial⟩ ?_
      rintro _ ⟨c, rfl⟩
      refine ⟨trivial, ?_⟩
      skip
      refine good_callx [0, 1] [] (s47x b c (.bool false) (keysR path kind day l) (getsR path kind day l) hin (by omega)) (by kernel_rfl) (by kernel_rfl) [Value.bool false = Value.bool false, keysR path kind day l = keysR path kind day l ∧ ∀ (k : Int), getsR path kind day l k = getsR path kind day l k, Value.map (some b) = twoK b c (0 : Nat), SVle (SV.val (Value.map (some b))) (SV.val (Value.map (some b))), Value.pointer (some { block := c, off := (0 : Nat) }) = twoK b c ((0 : Nat) + (1 : Nat))] [SVle (SV.fn (53 : Nat) [SV.val (Value.pointer (some { block := c, off := (0 : Nat) }))]) (SV.fn (53 : FuncId) [SV.val (Value.pointer (some { block := c, off := (0 : Nat) }))])] (by kernel_rfl) ⟨rfl, ⟨rfl, fun _ => rfl⟩, ?_, SVle.refl _, ?_, trivial⟩ (by kernel_rfl) ⟨SVle.refl _, trivial⟩ ?_
      · rfl
      · rfl
      rintro _ rfl
      refine ⟨trivial, ?_⟩
      refine good_run 4 (obs := []) (by kernel_rfl) trivial ?_
      refine good_fin [List.length (isort (keysR path kind day l)) = List.length (isort (keysR path kind day l)) ∧ ∀ (i : Nat), i < List.length (isort (keysR path kind day l)) → (fun i => [SV.int IntKind.i64 (List.getD (isort (keysR path kind day l)) i (0 : Int))]) i = (fun i => [SV.int IntKind.i64 (List.getD (isort (keysR path kind day l)) i (0 : Int))]) i] (by kernel_rfl) ⟨⟨rfl, fun _ _ => rfl⟩, trivial⟩
end Go.Sx.T
