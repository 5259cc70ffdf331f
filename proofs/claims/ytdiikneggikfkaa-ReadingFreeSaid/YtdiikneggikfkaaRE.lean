/- Contracts of functions of the program, each proved by running its code symbolically (RE). -/
import Derived.Test.YtdiikneggikfkaaSx4
import Derived.Test.YtdiikneggikfkaaRCO
import Derived.Test.YtdiikneggikfkaaRC
namespace Go.Sx.T
open Go Go.Proofs Go.Sx
set_option maxRecDepth 100000
set_option maxHeartbeats 4000000
set_option linter.unusedVariables false
set_option linter.unusedSimpArgs false
def ints (l : List Int) : SV := .lst 1 l.length fun i => [.int .i64 (l.getD i 0)]
theorem eq31 : EqOK Try.prog 31 4 := eqOK_flat 5 (by decide) (by kernel_rfl) ⟨_, Try.underlying31⟩ (by kernel_rfl)
theorem bk_ints (p q : Bk) : ([p.ID, p.Rd, p.F, p.U] = [q.ID, q.Rd, q.F, q.U]) ↔ p = q := by
  constructor
  · intro h
    simp only [List.cons.injEq, and_true] at h
    cases p; cases q; simp_all
  · intro h; rw [h]
theorem s12 (n : Nat) (get : Nat → List SV) (h : n ≤ 100000) : SpecOwn Try.prog 12 [.lst 4 n get] 31 4 n get := by
  refine specOwn_of_good mixed Try.func12 F12_ok (by kernel_rfl) ?_
  refine good_run 9 (obs := []) (by kernel_rfl) trivial ?_
  refine good_nil (n) (by kernel_rfl) (fun hc1b hc1 => ?_)
  refine good_run 2 (obs := []) (by kernel_rfl) trivial ?_
  refine good_cond (false ^^ hc1b) (by kernel_rfl) (fun hc2 => ?_) (fun hc2 => ?_)
  · cases hc1b <;> simp at hc2
    refine good_run 7 (obs := []) (by kernel_rfl) trivial ?_
    refine good_finOwn [n = (0 : Nat)] (by kernel_rfl) ⟨?_, trivial⟩
    exact hc1 rfl
  · cases hc1b <;> simp at hc2
    refine good_run 10 (obs := [(31 : Nat) = (31 : Nat) ∧ (4 : Nat) = (4 : Nat) ∧ (4 : Nat) = (4 : Nat) ∧ roomOK ((0 : Nat) + n) (32 : Nat)]) (by kernel_rfl) (by (first | omega | assumption | exact ⟨rfl, trivial⟩ | simp only [AllP, inK_iff, roomOK_iff, decide_eq_true_eq, Bool.and_eq_true, Bool.or_eq_true, Bool.not_eq_true', decide_eq_false_iff_not, and_true, true_and]; (first | omega | (and_intros <;> intros <;> (try and_intros) <;> first | omega | assumption | exact trivial)))) ?_
    refine good_finOwn [(0 : Nat) + n = n ∧ ∀ (j : Nat), j < n → joinGet (0 : Nat) (cutRows (4 : Nat) []) get j = get j] (by kernel_rfl) ⟨?_, trivial⟩
    exact ⟨by omega, fun j _ => rfl⟩
theorem s34 (l : List Bk) (f : FuncId) (caps : List SV) (g : Bk → Bool) (h : ∀ p : Bk, Spec Try.prog f (Bk.sv p :: caps) (.bool (g p))) : Spec Try.prog 34 [bks l, .fn f caps] (.int .i64 (findI l g)) := by
  refine spec_len 0 rfl (hasBody_of_slim Try.func34 F34_ok) fun hlen => ?_
  refine spec_of_good mixed Try.func34 F34_ok (by kernel_rfl) ?_
  refine good_run 14 (obs := []) (by kernel_rfl) trivial ?_
  refine good_loopJ (fun k : Nat => ⟨[(1, .sv (.fn f caps)), (0, .sv (bks l)), (6, .sv (bks l)), (7, .sv (.int .i64 l.length)), (8, .sv (.int .i64 k))], []⟩) (fun k => k ≤ l.length ∧ ∀ j, j < k → g (l.getD j default) = false) (fun k => l.length - k) (0) [SVle (SV.fn f caps) (SV.fn f caps), List.length l = List.length l ∧ ∀ (i : Nat), i < List.length l → (fun i => Bk.cells (List.getD l i default)) i = (fun i => Bk.cells (List.getD l i default)) i, List.length l = List.length l ∧ ∀ (i : Nat), i < List.length l → (fun i => Bk.cells (List.getD l i default)) i = (fun i => Bk.cells (List.getD l i default)) i, (↑(List.length l) : Int) = (↑(List.length l) : Int), (0 : Int) = (0 : Int)] (by kernel_rfl) (by kernel_rfl) ⟨SVle.refl _, ⟨rfl, fun _ _ => rfl⟩, ⟨rfl, fun _ _ => rfl⟩, rfl, rfl, trivial⟩ ?_ ?_
  · exact ⟨Nat.zero_le _, by simp⟩
  · intro k hk
    refine good_run 6 (obs := []) (by kernel_rfl) trivial ?_
    refine good_cond (decide ((↑k : Int) < (↑(List.length l) : Int))) (by kernel_rfl) (fun hc1 => ?_) (fun hc1 => ?_)
    · have hlt : k < l.length := by simp at hc1; omega
      refine good_run 16 (obs := [(4 : Nat) = (4 : Nat) ∧ (0 : Int) ≤ (↑k : Int) ∧ (↑k : Int) < (↑(List.length l) : Int), (0 : Nat) + (4 : Nat) ≤ (4 : Nat)]) (by kernel_rfl) (by (first | omega | assumption | exact ⟨rfl, trivial⟩ | simp only [AllP, inK_iff, roomOK_iff, decide_eq_true_eq, Bool.and_eq_true, Bool.or_eq_true, Bool.not_eq_true', decide_eq_false_iff_not, and_true, true_and]; (first | omega | (and_intros <;> intros <;> (try and_intros) <;> first | omega | assumption | exact trivial)))) ?_
      refine good_call (c := True) (by kernel_rfl) (fun _ => SVles.refl _) (fun _ => h (l.getD k default)) (by kernel_rfl) ?_
      refine good_run 2 (obs := []) (by kernel_rfl) trivial ?_
      refine good_cond (g (List.getD l k default)) (by kernel_rfl) (fun hc2 => ?_) (fun hc2 => ?_)
      · refine good_run 9 (obs := []) (by kernel_rfl) trivial ?_
        refine good_leaveJ (by kernel_rfl) ?_
        refine good_run 2 (obs := []) (by kernel_rfl) trivial ?_
        refine good_fin [(↑k : Int) = findI l g] (by kernel_rfl) ⟨?_, trivial⟩
        rw [findI_hit l g k hlt hc2 hk.2]
      · refine good_run 7 (obs := [InK IntKind.i64 ((↑k : Int) + (1 : Int))]) (by kernel_rfl) (by (first | omega | assumption | exact ⟨rfl, trivial⟩ | simp only [AllP, inK_iff, roomOK_iff, decide_eq_true_eq, Bool.and_eq_true, Bool.or_eq_true, Bool.not_eq_true', decide_eq_false_iff_not, and_true, true_and]; (first | omega | (and_intros <;> intros <;> (try and_intros) <;> first | omega | assumption | exact trivial)))) ?_
        refine good_backJ (k + 1) [SVle (SV.fn f caps) (SV.fn f caps), List.length l = List.length l ∧ ∀ (i : Nat), i < List.length l → (fun i => Bk.cells (List.getD l i default)) i = (fun i => Bk.cells (List.getD l i default)) i, List.length l = List.length l ∧ ∀ (i : Nat), i < List.length l → (fun i => Bk.cells (List.getD l i default)) i = (fun i => Bk.cells (List.getD l i default)) i, (↑(List.length l) : Int) = (↑(List.length l) : Int), (↑k : Int) + (1 : Int) = (↑(k + (1 : Nat)) : Int)] (by kernel_rfl) (by kernel_rfl) ⟨SVle.refl _, ⟨rfl, fun _ _ => rfl⟩, ⟨rfl, fun _ _ => rfl⟩, rfl, (by omega), trivial⟩ ?_ ?_
        · refine ⟨by omega, fun j hj => ?_⟩
          rcases Nat.lt_or_ge j k with h | h
          · exact hk.2 j h
          · have : j = k := by omega
            subst this
            exact hc2
        · show _ < _; omega
    · refine good_run 2 (obs := []) (by kernel_rfl) trivial ?_
      refine good_leaveJ (by kernel_rfl) ?_
      refine good_run 7 (obs := []) (by kernel_rfl) trivial ?_
      refine good_fin [(-1 : Int) = findI l g] (by kernel_rfl) ⟨?_, trivial⟩
      have : k = l.length := by simp at hc1; omega
      subst this
      rw [findI_none l g hk.2]
theorem s53 (l : List Bk) (f : FuncId) (caps : List SV) (g : Bk → Bool) (h : ∀ p : Bk, Spec Try.prog f (Bk.sv p :: caps) (.bool (g p))) : Spec Try.prog 53 [bks l, .fn f caps] (.bool (l.any g)) := by
  refine spec_of_good mixed Try.func53 F53_ok (by kernel_rfl) ?_
  refine good_run 9 (obs := []) (by kernel_rfl) trivial ?_
  refine good_call (c := True) (by kernel_rfl) (fun _ => SVles.refl _) (fun _ => s34 l f caps g h) (by kernel_rfl) ?_
  refine good_run 5 (obs := []) (by kernel_rfl) trivial ?_
  refine good_fin [decide ((0 : Int) ≤ findI l g) = List.any l g] (by kernel_rfl) ⟨?_, trivial⟩
  rcases findI_cases l g with ⟨e, _, _, h2⟩ | ⟨k, hk, e, _, _, _, h2⟩
  · rw [e, h2]; rfl
  · rw [e, h2]; simp
theorem t36 (n : Nat) (get : Nat → List SV) (i j : Nat) (hij : i ≤ j) (hj : j ≤ n) : SpecTake Try.prog 36 [] 31 4 n get [.int .i64 i, .int .i64 j] (n - (j - i)) fun k => if k < i then get k else get (k + (j - i)) := by
  refine specTake_of_good mixed Try.func36 F36_ok (by kernel_rfl) ?_
  refine good_run 23 (obs := [(4 : Nat) = (4 : Nat) ∧ (0 : Int) ≤ (↑i : Int) ∧ (↑i : Int) ≤ (↑j : Int) ∧ (↑j : Int) ≤ (↑n : Int) ∧ (0 : Nat) + n ≤ n]) (by kernel_rfl) (by (first | omega | assumption | exact ⟨rfl, trivial⟩ | simp only [AllP, inK_iff, roomOK_iff, decide_eq_true_eq, Bool.and_eq_true, Bool.or_eq_true, Bool.not_eq_true', decide_eq_false_iff_not, and_true, true_and]; (first | omega | (and_intros <;> intros <;> (try and_intros) <;> first | omega | assumption | exact trivial)))) ?_
  refine good_cond (decide ((↑i : Int) = (↑j : Int))) (by kernel_rfl) (fun hc1 => ?_) (fun hc1 => ?_)
  · have e : i = j := by simp at hc1; omega
    subst e
    refine good_run 8 (obs := []) (by kernel_rfl) trivial ?_
    refine good_finTake [n = n - (i - i) ∧ ∀ (j : Nat), j < n - (i - i) → get j = (fun k => if k < i then get k else get (k + (i - i))) j] (by kernel_rfl) ⟨?_, trivial⟩
    refine ⟨by omega, fun k hk => ?_⟩
    simp
  · refine good_run 38 (obs := [True → (4 : Nat) = (4 : Nat) ∧ (0 : Int) ≤ (0 : Int) ∧ (0 : Int) ≤ (↑i : Int) ∧ (0 : Nat) + i ≤ n, True → (4 : Nat) = (4 : Nat) ∧ (0 : Int) ≤ (↑j : Int) ∧ (↑j : Int) ≤ (↑(n - (0 : Nat)) : Int) ∧ (0 : Nat) + (n - (0 : Nat)) ≤ n, (0 : Nat) = (0 : Nat) ∧ (31 : Nat) = (31 : Nat) ∧ (4 : Nat) = (4 : Nat) ∧ (0 : Nat) + i + ((0 : Nat) + (n - (0 : Nat)) - ((0 : Nat) + j)) ≤ n, (4 : Nat) = (4 : Nat) ∧ (0 : Int) ≤ (↑((0 : Nat) + i + ((0 : Nat) + (n - (0 : Nat)) - ((0 : Nat) + j)) - (0 : Nat)) : Int) ∧ (↑((0 : Nat) + i + ((0 : Nat) + (n - (0 : Nat)) - ((0 : Nat) + j)) - (0 : Nat)) : Int) ≤ (↑n : Int) ∧ (0 : Nat) + n ≤ n, (4 : Nat) = (4 : Nat)]) (by kernel_rfl) (by (first | omega | assumption | exact ⟨rfl, trivial⟩ | simp only [AllP, inK_iff, roomOK_iff, decide_eq_true_eq, Bool.and_eq_true, Bool.or_eq_true, Bool.not_eq_true', decide_eq_false_iff_not, and_true, true_and]; (first | omega | (and_intros <;> intros <;> (try and_intros) <;> first | omega | assumption | exact trivial)))) ?_
    refine good_finTake [(0 : Nat) + i + ((0 : Nat) + (n - (0 : Nat)) - ((0 : Nat) + j)) = n - (j - i) ∧ n - (j - i) ≤ n ∧ ∀ (j_1 : Nat), j_1 < n - (j - i) → spliceGet ((0 : Nat) + ((0 : Nat) + i + ((0 : Nat) + (n - (0 : Nat)) - ((0 : Nat) + j)) - (0 : Nat))) ((0 : Nat) + n - ((0 : Nat) + ((0 : Nat) + i + ((0 : Nat) + (n - (0 : Nat)) - ((0 : Nat) + j)) - (0 : Nat)))) (fun x => List.map SV.val [Value.int IntKind.i64 (Int.ofNat (0 : Nat)), Value.int IntKind.i64 (Int.ofNat (0 : Nat)), Value.int IntKind.i64 (Int.ofNat (0 : Nat)), Value.int IntKind.i64 (Int.ofNat (0 : Nat))]) (spliceGet ((0 : Nat) + i) ((0 : Nat) + (n - (0 : Nat)) - ((0 : Nat) + j)) (fun j_2 => get ((0 : Nat) + j + j_2)) get) j_1 = (fun k => if k < i then get k else get (k + (j - i))) j_1] (by kernel_rfl) ⟨?_, trivial⟩
    refine ⟨by omega, by omega, fun k hk => ?_⟩
    have := del_get n i j hij hj (fun x => List.map SV.val [Value.int IntKind.i64 (Int.ofNat (0 : Nat)), Value.int IntKind.i64 (Int.ofNat (0 : Nat)), Value.int IntKind.i64 (Int.ofNat (0 : Nat)), Value.int IntKind.i64 (Int.ofNat (0 : Nat))]) get k hk
    simpa using this
theorem s36 (n : Nat) (get : Nat → List SV) (a b : Int) (h0 : 0 ≤ a) (h1 : a ≤ b) (h2 : b ≤ n) : SpecTake Try.prog 36 [] 31 4 n get [.int .i64 a, .int .i64 b] (n - (b.toNat - a.toNat)) fun k => if k < a.toNat then get k else get (k + (b.toNat - a.toNat)) := by
  have := t36 n get a.toNat b.toNat (by omega) (by omega)
  rwa [Int.toNat_of_nonneg h0, Int.toNat_of_nonneg (by omega)] at this
theorem s22 (a b : List Bk) : Spec Try.prog 22 [bks a, bks b] (.bool (decide (a = b))) := by
  refine spec_len 0 rfl (hasBody_of_slim Try.func22 F22_ok) fun hlen => ?_
  refine spec_of_good mixed Try.func22 F22_ok (by kernel_rfl) ?_
  have heq := eq31
  refine good_run 15 (obs := []) (by kernel_rfl) trivial ?_
  refine good_cond (!decide ((↑(List.length a) : Int) = (↑(List.length b) : Int))) (by kernel_rfl) (fun hc1 => ?_) (fun hc1 => ?_)
  · simp only [Bool.not_eq_true', decide_eq_false_iff_not] at hc1
    have : decide (a = b) = false := decide_eq_false fun e => hc1 (by rw [e])
    rw [this]
    refine good_run 7 (obs := []) (by kernel_rfl) trivial ?_
    refine good_fin [false = false] (by kernel_rfl) ⟨rfl, trivial⟩
  · simp only [Bool.not_eq_false', decide_eq_true_eq] at hc1
    have hab : a.length = b.length := by omega
    refine good_run 10 (obs := []) (by kernel_rfl) trivial ?_
    refine good_loopJ (fun k : Nat => ⟨[(13, .sv (.int .i64 (k))), (12, LV.sv (SV.int IntKind.i64 (↑(List.length a) : Int))), (0, LV.sv (SV.lst (4 : Nat) (List.length a) fun i => Bk.cells (List.getD a i default))), (1, LV.sv (SV.lst (4 : Nat) (List.length b) fun i => Bk.cells (List.getD b i default)))], []⟩) (fun k => k ≤ a.length ∧ ∀ i, i < k → a.getD i default = b.getD i default) (fun k => a.length - k) (0) [(0 : Int) = (0 : Int), (↑(List.length a) : Int) = (↑(List.length a) : Int), List.length a = List.length a ∧ ∀ (i : Nat), i < List.length a → (fun i => Bk.cells (List.getD a i default)) i = (fun i => Bk.cells (List.getD a i default)) i, List.length b = List.length b ∧ ∀ (i : Nat), i < List.length b → (fun i => Bk.cells (List.getD b i default)) i = (fun i => Bk.cells (List.getD b i default)) i] (by kernel_rfl) (by kernel_rfl) ⟨rfl, rfl, ⟨rfl, fun _ _ => rfl⟩, ⟨rfl, fun _ _ => rfl⟩, trivial⟩ ⟨by omega, by omega⟩ ?_
    intro k hk
    refine good_run 6 (obs := []) (by kernel_rfl) trivial ?_
    refine good_cond (decide ((↑k : Int) < (↑(List.length a) : Int))) (by kernel_rfl) (fun hc2 => ?_) (fun hc2 => ?_)
    · have hlt : k < a.length := by simp only [decide_eq_true_eq] at hc2; omega
      refine good_run 22 (obs := [True → (4 : Nat) = (4 : Nat) ∧ (0 : Int) ≤ (↑k : Int) ∧ (↑k : Int) < (↑(List.length a) : Int), True → (0 : Nat) + (4 : Nat) ≤ (4 : Nat), True → (4 : Nat) = (4 : Nat) ∧ (0 : Int) ≤ (↑k : Int) ∧ (↑k : Int) < (↑(List.length b) : Int), True → (0 : Nat) + (4 : Nat) ≤ (4 : Nat), True → EqOK Try.prog (31 : TypeId) (4 : Nat) ∧ (4 : Nat) = (4 : Nat)]) (by kernel_rfl) (by (first | omega | assumption | exact ⟨rfl, trivial⟩ | simp only [AllP, inK_iff, roomOK_iff, decide_eq_true_eq, Bool.and_eq_true, Bool.or_eq_true, Bool.not_eq_true', decide_eq_false_iff_not, and_true, true_and]; (first | omega | (and_intros <;> intros <;> (try and_intros) <;> first | omega | assumption | exact trivial)))) ?_
      refine good_cond (true ^^ decide ([(List.getD a k default).ID, (List.getD a k default).Rd, (List.getD a k default).F, (List.getD a k default).U] = [(List.getD b k default).ID, (List.getD b k default).Rd, (List.getD b k default).F, (List.getD b k default).U])) (by kernel_rfl) (fun hc3 => ?_) (fun hc3 => ?_)
      · have hne : a.getD k default ≠ b.getD k default := fun e => by rw [e] at hc3; simp at hc3
        have : decide (a = b) = false := decide_eq_false fun e => hne (by rw [e])
        rw [this]
        refine good_run 8 (obs := []) (by kernel_rfl) trivial ?_
        refine good_leaveJ (by kernel_rfl) ?_
        refine good_run 2 (obs := []) (by kernel_rfl) trivial ?_
        refine good_fin [false = false] (by kernel_rfl) ⟨rfl, trivial⟩
      · have he : a.getD k default = b.getD k default := by
          refine (bk_ints _ _).1 ?_
          simpa using hc3
        refine good_run 7 (obs := [InK IntKind.i64 ((↑k : Int) + (1 : Int))]) (by kernel_rfl) (by (first | omega | assumption | exact ⟨rfl, trivial⟩ | simp only [AllP, inK_iff, roomOK_iff, decide_eq_true_eq, Bool.and_eq_true, Bool.or_eq_true, Bool.not_eq_true', decide_eq_false_iff_not, and_true, true_and]; (first | omega | (and_intros <;> intros <;> (try and_intros) <;> first | omega | assumption | exact trivial)))) ?_
        refine good_backJ (k + 1) [(↑k : Int) + (1 : Int) = (↑(k + (1 : Nat)) : Int), (↑(List.length a) : Int) = (↑(List.length a) : Int), List.length a = List.length a ∧ ∀ (i : Nat), i < List.length a → (fun i => Bk.cells (List.getD a i default)) i = (fun i => Bk.cells (List.getD a i default)) i, List.length b = List.length b ∧ ∀ (i : Nat), i < List.length b → (fun i => Bk.cells (List.getD b i default)) i = (fun i => Bk.cells (List.getD b i default)) i] (by kernel_rfl) (by kernel_rfl) ⟨(by omega), rfl, ⟨rfl, fun _ _ => rfl⟩, ⟨rfl, fun _ _ => rfl⟩, trivial⟩ ?_ (by show _ < _; omega)
        exact ⟨hlt, fun i hi => by
          rcases Nat.lt_or_ge i k with h | h
          · exact hk.2 i h
          · have : i = k := by omega
            subst this; exact he⟩
    · have hge : k = a.length := by simp only [decide_eq_false_iff_not] at hc2; have := hk.1; omega
      have : decide (a = b) = true := decide_eq_true (ext_getD a b hab fun i hi => hk.2 i (by omega))
      rw [this]
      refine good_run 2 (obs := []) (by kernel_rfl) trivial ?_
      refine good_leaveJ (by kernel_rfl) ?_
      refine good_run 7 (obs := []) (by kernel_rfl) trivial ?_
      refine good_fin [true = true] (by kernel_rfl) ⟨rfl, trivial⟩
theorem s28 (a b : List Int) : Spec Try.prog 28 [ints a, ints b] (.bool (decide (a = b))) := by
  refine spec_len 0 rfl (hasBody_of_slim Try.func28 F28_ok) fun hlen => ?_
  refine spec_of_good mixed Try.func28 F28_ok (by kernel_rfl) ?_
  refine good_run 15 (obs := []) (by kernel_rfl) trivial ?_
  refine good_cond (!decide ((↑(List.length a) : Int) = (↑(List.length b) : Int))) (by kernel_rfl) (fun hc1 => ?_) (fun hc1 => ?_)
  · simp only [Bool.not_eq_true', decide_eq_false_iff_not] at hc1
    have : decide (a = b) = false := decide_eq_false fun e => hc1 (by rw [e])
    rw [this]
    refine good_run 7 (obs := []) (by kernel_rfl) trivial ?_
    refine good_fin [false = false] (by kernel_rfl) ⟨rfl, trivial⟩
  · simp only [Bool.not_eq_false', decide_eq_true_eq] at hc1
    have hab : a.length = b.length := by omega
    refine good_run 10 (obs := []) (by kernel_rfl) trivial ?_
    refine good_loopJ (fun k : Nat => ⟨[(13, .sv (.int .i64 (k))), (12, LV.sv (SV.int IntKind.i64 (↑(List.length a) : Int))), (0, LV.sv (SV.lst (1 : Nat) (List.length a) fun i => [SV.int IntKind.i64 (List.getD a i (0 : Int))])), (1, LV.sv (SV.lst (1 : Nat) (List.length b) fun i => [SV.int IntKind.i64 (List.getD b i (0 : Int))]))], []⟩) (fun k => k ≤ a.length ∧ ∀ i, i < k → a.getD i 0 = b.getD i 0) (fun k => a.length - k) (0) [(0 : Int) = (0 : Int), (↑(List.length a) : Int) = (↑(List.length a) : Int), List.length a = List.length a ∧ ∀ (i : Nat), i < List.length a → (fun i => [SV.int IntKind.i64 (List.getD a i (0 : Int))]) i = (fun i => [SV.int IntKind.i64 (List.getD a i (0 : Int))]) i, List.length b = List.length b ∧ ∀ (i : Nat), i < List.length b → (fun i => [SV.int IntKind.i64 (List.getD b i (0 : Int))]) i = (fun i => [SV.int IntKind.i64 (List.getD b i (0 : Int))]) i] (by kernel_rfl) (by kernel_rfl) ⟨rfl, rfl, ⟨rfl, fun _ _ => rfl⟩, ⟨rfl, fun _ _ => rfl⟩, trivial⟩ ⟨by omega, by omega⟩ ?_
    intro k hk
    refine good_run 6 (obs := []) (by kernel_rfl) trivial ?_
    refine good_cond (decide ((↑k : Int) < (↑(List.length a) : Int))) (by kernel_rfl) (fun hc2 => ?_) (fun hc2 => ?_)
    · have hlt : k < a.length := by simp only [decide_eq_true_eq] at hc2; omega
      refine good_run 22 (obs := [True → (1 : Nat) = (1 : Nat) ∧ (0 : Int) ≤ (↑k : Int) ∧ (↑k : Int) < (↑(List.length a) : Int), True → (1 : Nat) = (1 : Nat) ∧ (0 : Int) ≤ (↑k : Int) ∧ (↑k : Int) < (↑(List.length b) : Int)]) (by kernel_rfl) (by (first | omega | assumption | exact ⟨rfl, trivial⟩ | simp only [AllP, inK_iff, roomOK_iff, decide_eq_true_eq, Bool.and_eq_true, Bool.or_eq_true, Bool.not_eq_true', decide_eq_false_iff_not, and_true, true_and]; (first | omega | (and_intros <;> intros <;> (try and_intros) <;> first | omega | assumption | exact trivial)))) ?_
      refine good_cond (!decide (List.getD a k (0 : Int) = List.getD b k (0 : Int))) (by kernel_rfl) (fun hc3 => ?_) (fun hc3 => ?_)
      · have hne : a.getD k 0 ≠ b.getD k 0 := by simpa only [Bool.not_eq_true', decide_eq_false_iff_not] using hc3
        have : decide (a = b) = false := decide_eq_false fun e => hne (by rw [e])
        rw [this]
        refine good_run 8 (obs := []) (by kernel_rfl) trivial ?_
        refine good_leaveJ (by kernel_rfl) ?_
        refine good_run 2 (obs := []) (by kernel_rfl) trivial ?_
        refine good_fin [false = false] (by kernel_rfl) ⟨rfl, trivial⟩
      · have he : a.getD k 0 = b.getD k 0 := by simpa only [Bool.not_eq_false', decide_eq_true_eq] using hc3
        refine good_run 7 (obs := [InK IntKind.i64 ((↑k : Int) + (1 : Int))]) (by kernel_rfl) (by (first | omega | assumption | exact ⟨rfl, trivial⟩ | simp only [AllP, inK_iff, roomOK_iff, decide_eq_true_eq, Bool.and_eq_true, Bool.or_eq_true, Bool.not_eq_true', decide_eq_false_iff_not, and_true, true_and]; (first | omega | (and_intros <;> intros <;> (try and_intros) <;> first | omega | assumption | exact trivial)))) ?_
        refine good_backJ (k + 1) [(↑k : Int) + (1 : Int) = (↑(k + (1 : Nat)) : Int), (↑(List.length a) : Int) = (↑(List.length a) : Int), List.length a = List.length a ∧ ∀ (i : Nat), i < List.length a → (fun i => [SV.int IntKind.i64 (List.getD a i (0 : Int))]) i = (fun i => [SV.int IntKind.i64 (List.getD a i (0 : Int))]) i, List.length b = List.length b ∧ ∀ (i : Nat), i < List.length b → (fun i => [SV.int IntKind.i64 (List.getD b i (0 : Int))]) i = (fun i => [SV.int IntKind.i64 (List.getD b i (0 : Int))]) i] (by kernel_rfl) (by kernel_rfl) ⟨(by omega), rfl, ⟨rfl, fun _ _ => rfl⟩, ⟨rfl, fun _ _ => rfl⟩, trivial⟩ ?_ (by show _ < _; omega)
        exact ⟨hlt, fun i hi => by
          rcases Nat.lt_or_ge i k with h | h
          · exact hk.2 i h
          · have : i = k := by omega
            subst this; exact he⟩
    · have hge : k = a.length := by simp only [decide_eq_false_iff_not] at hc2; have := hk.1; omega
      have : decide (a = b) = true := decide_eq_true (ext_getD a b hab fun i hi => hk.2 i (by omega))
      rw [this]
      refine good_run 2 (obs := []) (by kernel_rfl) trivial ?_
      refine good_leaveJ (by kernel_rfl) ?_
      refine good_run 7 (obs := []) (by kernel_rfl) trivial ?_
      refine good_fin [true = true] (by kernel_rfl) ⟨rfl, trivial⟩
theorem s76 (l : List Int) (f : FuncId) (caps : List SV) (g : Int → Bool) (h : ∀ p : Int, Spec Try.prog f (.int .i64 p :: caps) (.bool (g p))) : Spec Try.prog 76 [ints l, .fn f caps] (.int .i64 (findI l g)) := by
  refine spec_len 0 rfl (hasBody_of_slim Try.func76 F76_ok) fun hlen => ?_
  refine spec_of_good mixed Try.func76 F76_ok (by kernel_rfl) ?_
  refine good_run 14 (obs := []) (by kernel_rfl) trivial ?_
  refine good_loopJ (fun k : Nat => ⟨[(8, .sv (.int .i64 (k))), (7, LV.sv (SV.int IntKind.i64 (↑(List.length l) : Int))), (0, LV.sv (SV.lst (1 : Nat) (List.length l) fun i => [SV.int IntKind.i64 (List.getD l i (0 : Int))])), (1, LV.sv (SV.fn f caps))], []⟩) (fun k => k ≤ l.length ∧ ∀ j, j < k → g (l.getD j 0) = false) (fun k => l.length - k) (0) [(0 : Int) = (0 : Int), (↑(List.length l) : Int) = (↑(List.length l) : Int), List.length l = List.length l ∧ ∀ (i : Nat), i < List.length l → (fun i => [SV.int IntKind.i64 (List.getD l i (0 : Int))]) i = (fun i => [SV.int IntKind.i64 (List.getD l i (0 : Int))]) i, SVle (SV.fn f caps) (SV.fn f caps)] (by kernel_rfl) (by kernel_rfl) ⟨rfl, rfl, ⟨rfl, fun _ _ => rfl⟩, SVle.refl _, trivial⟩ ⟨by omega, by omega⟩ ?_
  intro k hk
  refine good_run 6 (obs := []) (by kernel_rfl) trivial ?_
  refine good_cond (decide ((↑k : Int) < (↑(List.length l) : Int))) (by kernel_rfl) (fun hc1 => ?_) (fun hc1 => ?_)
  · have hlt : k < l.length := by simp only [decide_eq_true_eq] at hc1; omega
    refine good_run 16 (obs := [(1 : Nat) = (1 : Nat) ∧ (0 : Int) ≤ (↑k : Int) ∧ (↑k : Int) < (↑(List.length l) : Int)]) (by kernel_rfl) (by (first | omega | assumption | exact ⟨rfl, trivial⟩ | simp only [AllP, inK_iff, roomOK_iff, decide_eq_true_eq, Bool.and_eq_true, Bool.or_eq_true, Bool.not_eq_true', decide_eq_false_iff_not, and_true, true_and]; (first | omega | (and_intros <;> intros <;> (try and_intros) <;> first | omega | assumption | exact trivial)))) ?_
    refine good_call (c := True) (by kernel_rfl) (fun _ => SVles.refl _) (fun _ => h (l.getD k 0)) (by kernel_rfl) ?_
    refine good_run 2 (obs := []) (by kernel_rfl) trivial ?_
    refine good_cond (g (List.getD l k (0 : Int))) (by kernel_rfl) (fun hc2 => ?_) (fun hc2 => ?_)
    · have := findI_hit l g k hlt hc2 hk.2
      refine good_run 9 (obs := []) (by kernel_rfl) trivial ?_
      refine good_leaveJ (by kernel_rfl) ?_
      refine good_run 2 (obs := []) (by kernel_rfl) trivial ?_
      refine good_fin [(↑k : Int) = findI l g] (by kernel_rfl) ⟨(by omega), trivial⟩
    · refine good_run 7 (obs := [InK IntKind.i64 ((↑k : Int) + (1 : Int))]) (by kernel_rfl) (by (first | omega | assumption | exact ⟨rfl, trivial⟩ | simp only [AllP, inK_iff, roomOK_iff, decide_eq_true_eq, Bool.and_eq_true, Bool.or_eq_true, Bool.not_eq_true', decide_eq_false_iff_not, and_true, true_and]; (first | omega | (and_intros <;> intros <;> (try and_intros) <;> first | omega | assumption | exact trivial)))) ?_
      refine good_backJ (k + 1) [(↑k : Int) + (1 : Int) = (↑(k + (1 : Nat)) : Int), (↑(List.length l) : Int) = (↑(List.length l) : Int), List.length l = List.length l ∧ ∀ (i : Nat), i < List.length l → (fun i => [SV.int IntKind.i64 (List.getD l i (0 : Int))]) i = (fun i => [SV.int IntKind.i64 (List.getD l i (0 : Int))]) i, SVle (SV.fn f caps) (SV.fn f caps)] (by kernel_rfl) (by kernel_rfl) ⟨(by omega), rfl, ⟨rfl, fun _ _ => rfl⟩, SVle.refl _, trivial⟩ ?_ (by show _ < _; omega)
      refine ⟨hlt, fun j hj => ?_⟩
      rcases Nat.lt_or_ge j k with h | h
      · exact hk.2 j h
      · have : j = k := by omega
        subst this
        exact hc2
  · have : k = l.length := by simp only [decide_eq_false_iff_not] at hc1; omega
    subst this
    have := findI_none l g hk.2
    refine good_run 2 (obs := []) (by kernel_rfl) trivial ?_
    refine good_leaveJ (by kernel_rfl) ?_
    refine good_run 7 (obs := []) (by kernel_rfl) trivial ?_
    refine good_fin [(-1 : Int) = findI l g] (by kernel_rfl) ⟨(by omega), trivial⟩
theorem s55 (l : List Int) (f : FuncId) (caps : List SV) (g : Int → Bool) (h : ∀ p : Int, Spec Try.prog f (.int .i64 p :: caps) (.bool (g p))) : Spec Try.prog 55 [ints l, .fn f caps] (.bool (l.any g)) := by
  refine spec_of_good mixed Try.func55 F55_ok (by kernel_rfl) ?_
  refine good_run 9 (obs := []) (by kernel_rfl) trivial ?_
  refine good_call (c := True) (by kernel_rfl) (fun _ => SVles.refl _) (fun _ => s76 l f caps g h) (by kernel_rfl) ?_
  refine good_run 5 (obs := []) (by kernel_rfl) trivial ?_
  refine good_fin [decide ((0 : Int) ≤ findI l g) = List.any l g] (by kernel_rfl) ⟨?_, trivial⟩
  rcases findI_cases l g with ⟨e, _, _, h2⟩ | ⟨k, hk, e, _, _, _, h2⟩
  · rw [e, h2]; rfl
  · rw [e, h2]; simp
/-- The place of the first false in a list of bools. -/
theorem s42 (n : Nat) (T : Nat → Bool) : Spec Try.prog 42 [.lst 1 n fun i => [.bool (T i)], .bool false] (.int .i64 (findI (List.range n) fun v => !T v)) := by
  refine spec_len 0 rfl (hasBody_of_slim Try.func42 F42_ok) fun hlen => ?_
  refine spec_of_good mixed Try.func42 F42_ok (by kernel_rfl) ?_
  have hg : ∀ j, j < n → (List.range n).getD j default = j := fun j hj => by rw [getD_of_lt _ _ (by simpa using hj), List.getElem_range]
  refine good_run 14 (obs := []) (by kernel_rfl) trivial ?_
  refine good_loopJ (fun k : Nat => ⟨[(8, .sv (.int .i64 (k))), (7, LV.sv (SV.int IntKind.i64 (↑n : Int))), (0, LV.sv (SV.lst (1 : Nat) n fun i => [SV.bool (T i)])), (1, LV.sv (SV.bool false))], []⟩) (fun k => k ≤ n ∧ ∀ j, j < k → T j = true) (fun k => n - k) (0) [(0 : Int) = (0 : Int), (↑n : Int) = (↑n : Int), n = n ∧ ∀ (i : Nat), i < n → (fun i => [SV.bool (T i)]) i = (fun i => [SV.bool (T i)]) i, false = false] (by kernel_rfl) (by kernel_rfl) ⟨rfl, rfl, ⟨rfl, fun _ _ => rfl⟩, rfl, trivial⟩ ⟨by omega, by omega⟩ ?_
  intro k hk
  refine good_run 6 (obs := []) (by kernel_rfl) trivial ?_
  refine good_cond (decide ((↑k : Int) < (↑n : Int))) (by kernel_rfl) (fun hc1 => ?_) (fun hc1 => ?_)
  · have hlt : k < n := by simp only [decide_eq_true_eq] at hc1; omega
    refine good_run 19 (obs := [(1 : Nat) = (1 : Nat) ∧ (0 : Int) ≤ (↑k : Int) ∧ (↑k : Int) < (↑n : Int)]) (by kernel_rfl) (by (first | omega | assumption | exact ⟨rfl, trivial⟩ | simp only [AllP, inK_iff, roomOK_iff, decide_eq_true_eq, Bool.and_eq_true, Bool.or_eq_true, Bool.not_eq_true', decide_eq_false_iff_not, and_true, true_and]; (first | omega | (and_intros <;> intros <;> (try and_intros) <;> first | omega | assumption | exact trivial)))) ?_
    refine good_cond (false == T k) (by kernel_rfl) (fun hc2 => ?_) (fun hc2 => ?_)
    · have hT : T k = false := by simpa using hc2
      have := findI_hit (List.range n) (fun v => !T v) k (by simpa using hlt) (by rw [hg k hlt, hT]; rfl) fun j hj => by rw [hg j (by omega), hk.2 j hj]; rfl
      refine good_run 9 (obs := []) (by kernel_rfl) trivial ?_
      refine good_leaveJ (by kernel_rfl) ?_
      refine good_run 2 (obs := []) (by kernel_rfl) trivial ?_
      refine good_fin [(↑k : Int) = findI (List.range n) fun v => !T v] (by kernel_rfl) ⟨(by omega), trivial⟩
    · have hT : T k = true := by simpa using hc2
      refine good_run 7 (obs := [InK IntKind.i64 ((↑k : Int) + (1 : Int))]) (by kernel_rfl) (by (first | omega | assumption | exact ⟨rfl, trivial⟩ | simp only [AllP, inK_iff, roomOK_iff, decide_eq_true_eq, Bool.and_eq_true, Bool.or_eq_true, Bool.not_eq_true', decide_eq_false_iff_not, and_true, true_and]; (first | omega | (and_intros <;> intros <;> (try and_intros) <;> first | omega | assumption | exact trivial)))) ?_
      refine good_backJ (k + 1) [(↑k : Int) + (1 : Int) = (↑(k + (1 : Nat)) : Int), (↑n : Int) = (↑n : Int), n = n ∧ ∀ (i : Nat), i < n → (fun i => [SV.bool (T i)]) i = (fun i => [SV.bool (T i)]) i, false = false] (by kernel_rfl) (by kernel_rfl) ⟨(by omega), rfl, ⟨rfl, fun _ _ => rfl⟩, rfl, trivial⟩ ?_ (by show _ < _; omega)
      refine ⟨hlt, fun j hj => ?_⟩
      rcases Nat.lt_or_ge j k with h | h
      · exact hk.2 j h
      · have : j = k := by omega
        subst this
        exact hT
  · have : k = n := by simp only [decide_eq_false_iff_not] at hc1; omega
    subst this
    have := findI_none (List.range k) (fun v => !T v) fun j hj => by
      have hj' : j < k := by simpa using hj
      rw [hg j hj', hk.2 j hj']; rfl
    refine good_run 2 (obs := []) (by kernel_rfl) trivial ?_
    refine good_leaveJ (by kernel_rfl) ?_
    refine good_run 7 (obs := []) (by kernel_rfl) trivial ?_
    refine good_fin [(-1 : Int) = findI (List.range k) fun v => !T v] (by kernel_rfl) ⟨(by omega), trivial⟩
theorem s33 (a b : Int) : Spec Try.prog 33 [.agg [.int .i64 a, .int .i64 b]] (.bool (okSpan a b)) := by
  refine spec_of_good mixed Try.func33 F33_ok (by kernel_rfl) ?_
  refine good_run 27 (obs := []) (by kernel_rfl) trivial ?_
  refine good_fin [(decide ((0 : Int) ≤ a) && decide (a < b) && decide (b ≤ (1048576 : Int))) = okSpan a b] (by kernel_rfl) ⟨(by rfl), trivial⟩
theorem s30 (a b : Int) : Spec Try.prog 30 [.agg [.int .i64 a, .int .i64 b]] (.bool (okSpan a b)) := by
  refine spec_of_good mixed Try.func30 F30_ok (by kernel_rfl) ?_
  refine good_run 27 (obs := []) (by kernel_rfl) trivial ?_
  refine good_fin [(decide ((0 : Int) ≤ a) && decide (a < b) && decide (b ≤ (1048576 : Int))) = okSpan a b] (by kernel_rfl) ⟨(by rfl), trivial⟩
theorem s41 (a b c d : Int) : Spec Try.prog 41 [.agg [.int .i64 a, .int .i64 b], .agg [.int .i64 c, .int .i64 d]] (.bool (meetB a b c d)) := by
  refine spec_of_good mixed Try.func41 F41_ok (by kernel_rfl) ?_
  refine good_run 25 (obs := []) (by kernel_rfl) trivial ?_
  refine good_fin [(decide (a < d) && decide (c < b)) = meetB a b c d] (by kernel_rfl) ⟨(by rfl), trivial⟩
theorem s48 (a b c d : Int) : Spec Try.prog 48 [.agg [.int .i64 a, .int .i64 b], .agg [.int .i64 c, .int .i64 d]] (.bool (meetB a b c d)) := by
  refine spec_of_good mixed Try.func48 F48_ok (by kernel_rfl) ?_
  refine good_run 25 (obs := []) (by kernel_rfl) trivial ?_
  refine good_fin [(decide (a < d) && decide (c < b)) = meetB a b c d] (by kernel_rfl) ⟨(by rfl), trivial⟩
theorem s24 (x y : Bk) : Spec Try.prog 24 [x.sv, y.sv] (.bool (meetB x.F x.U y.F y.U)) := by
  refine spec_of_good mixed Try.func24 F24_ok (by kernel_rfl) ?_
  refine good_run 29 (obs := []) (by kernel_rfl) trivial ?_
  refine good_fin [(decide (x.F < y.U) && decide (y.F < x.U)) = meetB x.F x.U y.F y.U] (by kernel_rfl) ⟨(by rfl), trivial⟩
theorem s43 (n : Int) : Spec Try.prog 43 [.int .i64 n] (.bool (okId n)) := by
  refine spec_of_good mixed Try.func43 F43_ok (by kernel_rfl) ?_
  refine good_run 17 (obs := []) (by kernel_rfl) trivial ?_
  refine good_fin [(decide ((1 : Int) ≤ n) && decide (n ≤ (1073741824 : Int))) = okId n] (by kernel_rfl) ⟨(by rfl), trivial⟩
theorem s10 (l : List Bk) : Spec Try.prog 10 [bks l] (.bool (decide ((l.length : Int) ≤ 40))) := by
  refine spec_of_good mixed Try.func10 F10_ok (by kernel_rfl) ?_
  refine good_run 14 (obs := []) (by kernel_rfl) trivial ?_
  refine good_fin [decide ((↑(List.length l) : Int) ≤ (40 : Int)) = decide ((↑(List.length l) : Int) ≤ (40 : Int))] (by kernel_rfl) ⟨rfl, trivial⟩
theorem take_load (l : List Bk) (d : Int) (k : Nat) (hk : k < l.length) : loadL (l.take (k + 1)) d = loadL (l.take k) d + if (l.getD k default).on d = true then 1 else 0 := by
  rw [take_snoc l default k hk, loadL_snoc]
theorem s16 (l : List Bk) (d : Int) : Spec Try.prog 16 [bks l, .int .i64 d] (.int .i64 (loadL l d)) := by
  refine spec_len 0 rfl (hasBody_of_slim Try.func16 F16_ok) fun hlen => ?_
  refine spec_of_good mixed Try.func16 F16_ok (by kernel_rfl) ?_
  refine good_run 19 (obs := []) (by kernel_rfl) trivial ?_
  refine good_loopJ (fun k : Nat => ⟨[(10, .sv (.int .i64 (k))), (5, .sv (.int .i64 ((loadL (l.take k) d)))), (9, LV.sv (SV.int IntKind.i64 (↑(List.length l) : Int))), (8, LV.sv (SV.lst (4 : Nat) (List.length l) fun i => Bk.cells (List.getD l i default))), (1, LV.sv (SV.int IntKind.i64 d))], []⟩) (fun k => k ≤ l.length) (fun k => l.length - k) (0) [(0 : Int) = (0 : Int), (0 : Int) = (↑(loadL [] d) : Int), (↑(List.length l) : Int) = (↑(List.length l) : Int), List.length l = List.length l ∧ ∀ (i : Nat), i < List.length l → (fun i => Bk.cells (List.getD l i default)) i = (fun i => Bk.cells (List.getD l i default)) i, d = d] (by kernel_rfl) (by kernel_rfl) ⟨rfl, (by rfl), rfl, ⟨rfl, fun _ _ => rfl⟩, rfl, trivial⟩ (by omega) ?_
  intro k hk
  have hle := loadL_le (l.take k) d
  rw [List.length_take] at hle
  refine good_run 6 (obs := []) (by kernel_rfl) trivial ?_
  refine good_cond (decide ((↑k : Int) < (↑(List.length l) : Int))) (by kernel_rfl) (fun hc1 => ?_) (fun hc1 => ?_)
  · have hlt : k < l.length := by simp only [decide_eq_true_eq] at hc1; omega
    have ht := take_load l d k hlt
    refine good_run 15 (obs := [(4 : Nat) = (4 : Nat) ∧ (0 : Int) ≤ (↑k : Int) ∧ (↑k : Int) < (↑(List.length l) : Int), (0 : Nat) + (4 : Nat) ≤ (4 : Nat), (4 : Nat) = (4 : Nat) ∧ (0 : Nat) + (4 : Nat) ≤ (4 : Nat), (2 : Nat) + (2 : Nat) ≤ (4 : Nat)]) (by kernel_rfl) (by (first | omega | assumption | exact ⟨rfl, trivial⟩ | simp only [AllP, inK_iff, roomOK_iff, decide_eq_true_eq, Bool.and_eq_true, Bool.or_eq_true, Bool.not_eq_true', decide_eq_false_iff_not, and_true, true_and]; (first | omega | (and_intros <;> intros <;> (try and_intros) <;> first | omega | assumption | exact trivial)))) ?_
    refine good_call (c := True) (by kernel_rfl) (fun _ => SVles.refl _) (fun _ => s33 ((List.getD l k default).F) ((List.getD l k default).U)) (by kernel_rfl) ?_
    refine good_run 16 (obs := []) (by kernel_rfl) trivial ?_
    refine good_cond (okSpan (List.getD l k default).F (List.getD l k default).U && decide ((List.getD l k default).F ≤ d) && decide (d < (List.getD l k default).U)) (by kernel_rfl) (fun hc2 => ?_) (fun hc2 => ?_)
    · have hon : (l.getD k default).on d = true := hc2
      rw [if_pos hon] at ht
      refine good_run 12 (obs := [InK IntKind.i64 ((↑(loadL (List.take k l) d) : Int) + (1 : Int)), InK IntKind.i64 ((↑k : Int) + (1 : Int))]) (by kernel_rfl) (by (first | omega | assumption | exact ⟨rfl, trivial⟩ | simp only [AllP, inK_iff, roomOK_iff, decide_eq_true_eq, Bool.and_eq_true, Bool.or_eq_true, Bool.not_eq_true', decide_eq_false_iff_not, and_true, true_and]; (first | omega | (and_intros <;> intros <;> (try and_intros) <;> first | omega | assumption | exact trivial)))) ?_
      refine good_backJ (k + 1) [(↑k : Int) + (1 : Int) = (↑(k + (1 : Nat)) : Int), (↑(loadL (List.take k l) d) : Int) + (1 : Int) = (↑(loadL (List.take (k + (1 : Nat)) l) d) : Int), (↑(List.length l) : Int) = (↑(List.length l) : Int), List.length l = List.length l ∧ ∀ (i : Nat), i < List.length l → (fun i => Bk.cells (List.getD l i default)) i = (fun i => Bk.cells (List.getD l i default)) i, d = d] (by kernel_rfl) (by kernel_rfl) ⟨(by omega), (by omega), rfl, ⟨rfl, fun _ _ => rfl⟩, rfl, trivial⟩ (by omega) (by show _ < _; omega)
    · have hon : (l.getD k default).on d = false := hc2
      rw [if_neg (by rw [hon]; decide)] at ht
      refine good_run 7 (obs := [InK IntKind.i64 ((↑k : Int) + (1 : Int))]) (by kernel_rfl) (by (first | omega | assumption | exact ⟨rfl, trivial⟩ | simp only [AllP, inK_iff, roomOK_iff, decide_eq_true_eq, Bool.and_eq_true, Bool.or_eq_true, Bool.not_eq_true', decide_eq_false_iff_not, and_true, true_and]; (first | omega | (and_intros <;> intros <;> (try and_intros) <;> first | omega | assumption | exact trivial)))) ?_
      refine good_backJ (k + 1) [(↑k : Int) + (1 : Int) = (↑(k + (1 : Nat)) : Int), (↑(loadL (List.take k l) d) : Int) = (↑(loadL (List.take (k + (1 : Nat)) l) d) : Int), (↑(List.length l) : Int) = (↑(List.length l) : Int), List.length l = List.length l ∧ ∀ (i : Nat), i < List.length l → (fun i => Bk.cells (List.getD l i default)) i = (fun i => Bk.cells (List.getD l i default)) i, d = d] (by kernel_rfl) (by kernel_rfl) ⟨(by omega), (by omega), rfl, ⟨rfl, fun _ _ => rfl⟩, rfl, trivial⟩ (by omega) (by show _ < _; omega)
  · have : k = l.length := by simp only [decide_eq_false_iff_not] at hc1; omega
    subst this
    rw [List.take_length]
    refine good_run 2 (obs := []) (by kernel_rfl) trivial ?_
    refine good_leaveJ (by kernel_rfl) ?_
    refine good_run 8 (obs := []) (by kernel_rfl) trivial ?_
    refine good_fin [(↑(loadL l d) : Int) = (↑(loadL l d) : Int)] (by kernel_rfl) ⟨rfl, trivial⟩
theorem s17 (l : List Bk) (d : Int) : Spec Try.prog 17 [bks l, .int .i64 d] (.int .i64 (loadL l d)) := by
  refine spec_len 0 rfl (hasBody_of_slim Try.func17 F17_ok) fun hlen => ?_
  refine spec_of_good mixed Try.func17 F17_ok (by kernel_rfl) ?_
  refine good_run 19 (obs := []) (by kernel_rfl) trivial ?_
  refine good_loopJ (fun k : Nat => ⟨[(10, .sv (.int .i64 (k))), (5, .sv (.int .i64 ((loadL (l.take k) d)))), (9, LV.sv (SV.int IntKind.i64 (↑(List.length l) : Int))), (8, LV.sv (SV.lst (4 : Nat) (List.length l) fun i => Bk.cells (List.getD l i default))), (1, LV.sv (SV.int IntKind.i64 d))], []⟩) (fun k => k ≤ l.length) (fun k => l.length - k) (0) [(0 : Int) = (0 : Int), (0 : Int) = (↑(loadL [] d) : Int), (↑(List.length l) : Int) = (↑(List.length l) : Int), List.length l = List.length l ∧ ∀ (i : Nat), i < List.length l → (fun i => Bk.cells (List.getD l i default)) i = (fun i => Bk.cells (List.getD l i default)) i, d = d] (by kernel_rfl) (by kernel_rfl) ⟨rfl, (by rfl), rfl, ⟨rfl, fun _ _ => rfl⟩, rfl, trivial⟩ (by omega) ?_
  intro k hk
  have hle := loadL_le (l.take k) d
  rw [List.length_take] at hle
  refine good_run 6 (obs := []) (by kernel_rfl) trivial ?_
  refine good_cond (decide ((↑k : Int) < (↑(List.length l) : Int))) (by kernel_rfl) (fun hc1 => ?_) (fun hc1 => ?_)
  · have hlt : k < l.length := by simp only [decide_eq_true_eq] at hc1; omega
    have ht := take_load l d k hlt
    refine good_run 15 (obs := [(4 : Nat) = (4 : Nat) ∧ (0 : Int) ≤ (↑k : Int) ∧ (↑k : Int) < (↑(List.length l) : Int), (0 : Nat) + (4 : Nat) ≤ (4 : Nat), (4 : Nat) = (4 : Nat) ∧ (0 : Nat) + (4 : Nat) ≤ (4 : Nat), (2 : Nat) + (2 : Nat) ≤ (4 : Nat)]) (by kernel_rfl) (by (first | omega | assumption | exact ⟨rfl, trivial⟩ | simp only [AllP, inK_iff, roomOK_iff, decide_eq_true_eq, Bool.and_eq_true, Bool.or_eq_true, Bool.not_eq_true', decide_eq_false_iff_not, and_true, true_and]; (first | omega | (and_intros <;> intros <;> (try and_intros) <;> first | omega | assumption | exact trivial)))) ?_
    refine good_call (c := True) (by kernel_rfl) (fun _ => SVles.refl _) (fun _ => s30 ((List.getD l k default).F) ((List.getD l k default).U)) (by kernel_rfl) ?_
    refine good_run 16 (obs := []) (by kernel_rfl) trivial ?_
    refine good_cond (okSpan (List.getD l k default).F (List.getD l k default).U && decide ((List.getD l k default).F ≤ d) && decide (d < (List.getD l k default).U)) (by kernel_rfl) (fun hc2 => ?_) (fun hc2 => ?_)
    · have hon : (l.getD k default).on d = true := hc2
      rw [if_pos hon] at ht
      refine good_run 12 (obs := [InK IntKind.i64 ((↑(loadL (List.take k l) d) : Int) + (1 : Int)), InK IntKind.i64 ((↑k : Int) + (1 : Int))]) (by kernel_rfl) (by (first | omega | assumption | exact ⟨rfl, trivial⟩ | simp only [AllP, inK_iff, roomOK_iff, decide_eq_true_eq, Bool.and_eq_true, Bool.or_eq_true, Bool.not_eq_true', decide_eq_false_iff_not, and_true, true_and]; (first | omega | (and_intros <;> intros <;> (try and_intros) <;> first | omega | assumption | exact trivial)))) ?_
      refine good_backJ (k + 1) [(↑k : Int) + (1 : Int) = (↑(k + (1 : Nat)) : Int), (↑(loadL (List.take k l) d) : Int) + (1 : Int) = (↑(loadL (List.take (k + (1 : Nat)) l) d) : Int), (↑(List.length l) : Int) = (↑(List.length l) : Int), List.length l = List.length l ∧ ∀ (i : Nat), i < List.length l → (fun i => Bk.cells (List.getD l i default)) i = (fun i => Bk.cells (List.getD l i default)) i, d = d] (by kernel_rfl) (by kernel_rfl) ⟨(by omega), (by omega), rfl, ⟨rfl, fun _ _ => rfl⟩, rfl, trivial⟩ (by omega) (by show _ < _; omega)
    · have hon : (l.getD k default).on d = false := hc2
      rw [if_neg (by rw [hon]; decide)] at ht
      refine good_run 7 (obs := [InK IntKind.i64 ((↑k : Int) + (1 : Int))]) (by kernel_rfl) (by (first | omega | assumption | exact ⟨rfl, trivial⟩ | simp only [AllP, inK_iff, roomOK_iff, decide_eq_true_eq, Bool.and_eq_true, Bool.or_eq_true, Bool.not_eq_true', decide_eq_false_iff_not, and_true, true_and]; (first | omega | (and_intros <;> intros <;> (try and_intros) <;> first | omega | assumption | exact trivial)))) ?_
      refine good_backJ (k + 1) [(↑k : Int) + (1 : Int) = (↑(k + (1 : Nat)) : Int), (↑(loadL (List.take k l) d) : Int) = (↑(loadL (List.take (k + (1 : Nat)) l) d) : Int), (↑(List.length l) : Int) = (↑(List.length l) : Int), List.length l = List.length l ∧ ∀ (i : Nat), i < List.length l → (fun i => Bk.cells (List.getD l i default)) i = (fun i => Bk.cells (List.getD l i default)) i, d = d] (by kernel_rfl) (by kernel_rfl) ⟨(by omega), (by omega), rfl, ⟨rfl, fun _ _ => rfl⟩, rfl, trivial⟩ (by omega) (by show _ < _; omega)
  · have : k = l.length := by simp only [decide_eq_false_iff_not] at hc1; omega
    subst this
    rw [List.take_length]
    refine good_run 2 (obs := []) (by kernel_rfl) trivial ?_
    refine good_leaveJ (by kernel_rfl) ?_
    refine good_run 8 (obs := []) (by kernel_rfl) trivial ?_
    refine good_fin [(↑(loadL l d) : Int) = (↑(loadL l d) : Int)] (by kernel_rfl) ⟨rfl, trivial⟩
end Go.Sx.T
