/- Contracts of functions of the program, each proved by running its code symbolically (QL). -/
import Derived.Test.YtepkgkdbnoiieaaQK
import Derived.Test.YtepkgkdbnoiieaaQG
namespace Go.Sx.T
open Go Go.Proofs Go.Sx
set_option maxRecDepth 100000
set_option maxHeartbeats 8000000
set_option linter.unusedVariables false
set_option linter.unusedSimpArgs false
/-- The lengths that are known behind k rounds. -/
def lgK (l : List Int) (k i : Nat) : Nat := if l.length - k ≤ i then longs l i else 0
def lgI (l : List Int) (k i c x : Nat) : Nat := if x = i then c else lgK l k x
theorem longs_le (l : List Int) (i : Nat) (h : i < l.length) : longs l i ≤ l.length - i := by
  unfold longs
  have := lenF_le (l.drop (i + 1)) (l.getD i 0)
  rw [List.length_drop] at this
  omega
structure GSt where
  fr : Nat
  last : Int
  out : List Int
def mkG (f : Nat) (x : Int) (o : List Int) : GSt := ⟨f, x, o⟩
structure ISt where
  k : Nat
  b : Option Nat
def mkI (k : Nat) (b : Option Nat) : ISt := ⟨k, b⟩
def bestV : Option Nat → Int
  | none => -1
  | some i => i
theorem s40 (l : List Int) (hl : l.length ≤ 256) (hpos : ∀ i, i < l.length → 1 ≤ l.getD i 0 ∧ l.getD i 0 ≤ 1073741824) (hnd : l.Nodup) : SpecOwn Try.prog 40 [ints l] 3 1 (lis 0 l).length (fun i => [.int .i64 ((lis 0 l).getD i 0)]) := by
  refine specOwn_of_good mixed Try.func40 F40_ok (by kernel_rfl) ?_
  refine good_run 9 (obs := []) (by kernel_rfl) trivial ?_
  refine good_run 13 (obs := [(↑(List.length l) : Int) = (↑(List.length l) : Int) ∧ (0 : Int) ≤ (↑(List.length l) : Int) ∧ roomOK (List.length l) (8 : Nat)]) (by kernel_rfl) (by (first | omega | assumption | exact ⟨rfl, trivial⟩ | simp only [AllP, inK_iff, roomOK_iff, decide_eq_true_eq, Bool.and_eq_true, Bool.or_eq_true, Bool.not_eq_true', decide_eq_false_iff_not, and_true, true_and]; (first | omega | (and_intros <;> intros <;> (try and_intros) <;> first | omega | assumption | exact trivial)))) ?_
  refine good_row 0 (t := (3 : Nat)) (sz := (1 : Nat)) (n := List.length l) (mu := true) (get := fun x => List.map SV.val [Value.int IntKind.i64 (Int.ofNat (0 : Nat))]) (fun _ => [.int .i64 0]) (by kernel_rfl) (fun i _ => ⟨svle_val_int _ _, trivial⟩) ?_
  refine good_run 5 (obs := []) (by kernel_rfl) trivial ?_
  refine good_loopJ (fun k : Nat => ⟨[(19, .sv (.int .i64 (k))), (4, .sv (.int .i64 ((lenF 0 (l.drop (l.length - k)))))), (18, LV.sv (SV.int IntKind.i64 (↑(List.length l) : Int))), (3, LV.own (0 : Nat)), (0, LV.sv (SV.lst (1 : Nat) (List.length l) fun i => [SV.int IntKind.i64 (List.getD l i (0 : Int))]))], [.row 3 1 l.length true fun i => [.int .i64 (Int.ofNat (lgK l k i))]]⟩) (fun k => k ≤ l.length) (fun k => l.length - k) (0) [List.length l = List.length l ∧ ∀ (i : Nat), i < List.length l → (fun x => [SV.int IntKind.i64 (0 : Int)]) i = (fun i => [SV.int IntKind.i64 (Int.ofNat (lgK l (0 : Nat) i))]) i, (0 : Int) = (0 : Int), (0 : Int) = (↑(lenF (0 : Int) (List.drop (List.length l - (0 : Nat)) l)) : Int), (↑(List.length l) : Int) = (↑(List.length l) : Int), List.length l = List.length l ∧ ∀ (i : Nat), i < List.length l → (fun i => [SV.int IntKind.i64 (List.getD l i (0 : Int))]) i = (fun i => [SV.int IntKind.i64 (List.getD l i (0 : Int))]) i] (by kernel_rfl) (by kernel_rfl) ⟨?_, rfl, ?_, rfl, ⟨rfl, fun _ _ => rfl⟩, trivial⟩ (by omega) ?_
  · refine ⟨rfl, fun i hi => ?_⟩
    simp only [lgK, Nat.sub_zero]
    rw [if_neg (by omega)]
    rfl
  · rw [Nat.sub_zero, List.drop_length, lenF_nil]; rfl
  intro k hk
  refine good_run 6 (obs := []) (by kernel_rfl) trivial ?_
  refine good_cond (decide ((↑k : Int) < (↑(List.length l) : Int))) (by kernel_rfl) (fun hc1 => ?_) (fun hc1 => ?_)
  · have hlt : k < l.length := by simp only [decide_eq_true_eq] at hc1; omega
    obtain ⟨i, hi⟩ : ∃ i, l.length - 1 - k = i := ⟨_, rfl⟩
    have e0 : ((l.length : Int) - 1 - k).toNat = i := by omega
    have e1 : ((l.length : Int) - 1 - k) = i := by omega
    have hil : i < l.length := by omega
    have hlk : l.length - k = i + 1 := by omega
    have hpi := hpos i hil
    have hlg := longs_le l i hil
    refine good_run 36 (obs := [InK IntKind.i64 ((↑(List.length l) : Int) - (1 : Int)), InK IntKind.i64 ((↑(List.length l) : Int) - (1 : Int) - (↑k : Int)), (1 : Nat) = (1 : Nat) ∧ (0 : Int) ≤ (↑(List.length l) : Int) - (1 : Int) - (↑k : Int) ∧ (↑(List.length l) : Int) - (1 : Int) - (↑k : Int) < (↑(List.length l) : Int), (1 : Nat) = (1 : Nat) ∧ (0 : Nat) + (1 : Nat) ≤ (1 : Nat), InK IntKind.i64 ((↑(List.length l) : Int) - (1 : Int) - (↑k : Int) + (1 : Int))]) (by kernel_rfl) (by (first | omega | assumption | exact ⟨rfl, trivial⟩ | simp only [AllP, inK_iff, roomOK_iff, decide_eq_true_eq, Bool.and_eq_true, Bool.or_eq_true, Bool.not_eq_true', decide_eq_false_iff_not, and_true, true_and]; (first | omega | (and_intros <;> intros <;> (try and_intros) <;> first | omega | assumption | exact trivial)))) ?_
    refine good_loopJ (fun p : Nat × Nat => ⟨[(7, .sv (.int .i64 (p.1))), (6, .sv (.int .i64 (i))), (19, LV.sv (SV.int IntKind.i64 (↑k : Int))), (4, LV.sv (SV.int IntKind.i64 (↑(lenF (0 : Int) (List.drop (List.length l - k) l)) : Int))), (18, LV.sv (SV.int IntKind.i64 (↑(List.length l) : Int))), (3, LV.own (0 : Nat)), (0, LV.sv (SV.lst (1 : Nat) (List.length l) fun i => [SV.int IntKind.i64 (List.getD l i (0 : Int))]))], [.row 3 1 l.length true fun x => [.int .i64 (Int.ofNat (lgI l k i p.2 x))]]⟩) (fun p => p.1 ≤ l.length ∧ i < p.1 ∧ 1 ≤ p.2 ∧ max p.2 (1 + lenF (l.getD i 0) (l.drop p.1)) = longs l i) (fun p => l.length - p.1) ((i + 1, 1)) [List.length l = List.length l ∧ ∀ (i_1 : Nat), i_1 < List.length l → (fun j => if j = Int.toNat ((↑(List.length l) : Int) - (1 : Int) - (↑k : Int)) then lay ((fun i => [SV.int IntKind.i64 (Int.ofNat (lgK l k i))]) (Int.toNat ((↑(List.length l) : Int) - (1 : Int) - (↑k : Int)))) (0 : Nat) [SV.int IntKind.i64 (Int.ofNat (1 : Nat))] else (fun i => [SV.int IntKind.i64 (Int.ofNat (lgK l k i))]) j) i_1 = (fun x => [SV.int IntKind.i64 (Int.ofNat (lgI l k i (i + (1 : Nat), (1 : Nat)).snd x))]) i_1, (↑(List.length l) : Int) - (1 : Int) - (↑k : Int) + (1 : Int) = (↑(i + (1 : Nat)) : Int), (↑(List.length l) : Int) - (1 : Int) - (↑k : Int) = (↑i : Int), (↑k : Int) = (↑k : Int), (↑(lenF (0 : Int) (List.drop (List.length l - k) l)) : Int) = (↑(lenF (0 : Int) (List.drop (List.length l - k) l)) : Int), (↑(List.length l) : Int) = (↑(List.length l) : Int), List.length l = List.length l ∧ ∀ (i : Nat), i < List.length l → (fun i => [SV.int IntKind.i64 (List.getD l i (0 : Int))]) i = (fun i => [SV.int IntKind.i64 (List.getD l i (0 : Int))]) i] (by kernel_rfl) (by kernel_rfl) ⟨?_, (by omega), (by omega), rfl, rfl, rfl, ⟨rfl, fun _ _ => rfl⟩, trivial⟩ ?_ ?_
    · refine ⟨rfl, fun x hx => ?_⟩
      simp only [e0]
      unfold lgI
      by_cases hxi : x = i
      · rw [if_pos hxi, if_pos hxi]; rfl
      · rw [if_neg hxi, if_neg hxi]
    · refine ⟨by show i + 1 ≤ _; omega, by show i < i + 1; omega, Nat.le_refl _, ?_⟩
      show max 1 (1 + lenF (l.getD i 0) (l.drop (i + 1))) = longs l i
      unfold longs; omega
    rintro ⟨j, c⟩ ⟨hj, hij, hc, hm⟩
    simp only at hj hij hc hm
    have hcl : c ≤ longs l i := by omega
    have eI : lgI l k i c i = c := if_pos rfl
    refine good_run 9 (obs := []) (by kernel_rfl) trivial ?_
    refine good_cond (decide ((↑j : Int) < (↑(List.length l) : Int))) (by kernel_rfl) (fun hc2 => ?_) (fun hc2 => ?_)
    · have hjl : j < l.length := by simp only [decide_eq_true_eq] at hc2; omega
      have hd := lenF_drop (l.getD i 0) l j hjl
      have eJ : lgI l k i c j = longs l j := by
        unfold lgI lgK; rw [if_neg (by omega), if_pos (by omega)]
      have hlj := longs_le l j hjl
      refine good_run 16 (obs := [True → (1 : Nat) = (1 : Nat) ∧ (0 : Int) ≤ (↑j : Int) ∧ (↑j : Int) < (↑(List.length l) : Int), True → (1 : Nat) = (1 : Nat) ∧ (0 : Int) ≤ (↑i : Int) ∧ (↑i : Int) < (↑(List.length l) : Int)]) (by kernel_rfl) (by (first | omega | assumption | exact ⟨rfl, trivial⟩ | simp only [AllP, inK_iff, roomOK_iff, decide_eq_true_eq, Bool.and_eq_true, Bool.or_eq_true, Bool.not_eq_true', decide_eq_false_iff_not, and_true, true_and]; (first | omega | (and_intros <;> intros <;> (try and_intros) <;> first | omega | assumption | exact trivial)))) ?_
      refine good_cond (decide (List.getD l i (0 : Int) < List.getD l j (0 : Int))) (by kernel_rfl) (fun hc3 => ?_) (fun hc3 => ?_)
      · have hgt : l.getD i 0 < l.getD j 0 := by simpa using hc3
        refine good_run 25 (obs := [True → (1 : Nat) = (1 : Nat) ∧ (0 : Int) ≤ (↑i : Int) ∧ (↑i : Int) < (↑(List.length l) : Int), True → (1 : Nat) = (1 : Nat) ∧ (0 : Int) ≤ (↑j : Int) ∧ (↑j : Int) < (↑(List.length l) : Int), True → InK IntKind.i64 ((↑(lgI l k i c j) : Int) + (1 : Int)), True → (1 : Nat) = (1 : Nat) ∧ (0 : Int) ≤ (↑i : Int) ∧ (↑i : Int) < (↑(List.length l) : Int), (1 : Nat) = (1 : Nat) ∧ (0 : Nat) + (1 : Nat) ≤ (1 : Nat), InK IntKind.i64 ((↑j : Int) + (1 : Int))]) (by kernel_rfl) (by (first | omega | assumption | exact ⟨rfl, trivial⟩ | simp only [AllP, inK_iff, roomOK_iff, decide_eq_true_eq, Bool.and_eq_true, Bool.or_eq_true, Bool.not_eq_true', decide_eq_false_iff_not, and_true, true_and]; (first | omega | (and_intros <;> intros <;> (try and_intros) <;> first | omega | assumption | exact trivial)))) ?_
        refine good_backJ ((j + 1, max c (longs l j + 1))) [List.length l = List.length l ∧ ∀ (i_1 : Nat), i_1 < List.length l → (fun j_1 => if j_1 = i then lay ((fun x => [SV.int IntKind.i64 (Int.ofNat (lgI l k i (j, c).snd x))]) i) (0 : Nat) [SV.int IntKind.i64 (max (↑(lgI l k i c i) : Int) ((↑(lgI l k i c j) : Int) + (1 : Int)))] else (fun x => [SV.int IntKind.i64 (Int.ofNat (lgI l k i (j, c).snd x))]) j_1) i_1 = (fun x => [SV.int IntKind.i64 (Int.ofNat (lgI l k i (j + (1 : Nat), max c (longs l j + (1 : Nat))).snd x))]) i_1, (↑j : Int) + (1 : Int) = (↑(j + (1 : Nat)) : Int), (↑i : Int) = (↑i : Int), (↑k : Int) = (↑k : Int), (↑(lenF (0 : Int) (List.drop (List.length l - k) l)) : Int) = (↑(lenF (0 : Int) (List.drop (List.length l - k) l)) : Int), (↑(List.length l) : Int) = (↑(List.length l) : Int), List.length l = List.length l ∧ ∀ (i : Nat), i < List.length l → (fun i => [SV.int IntKind.i64 (List.getD l i (0 : Int))]) i = (fun i => [SV.int IntKind.i64 (List.getD l i (0 : Int))]) i] (by kernel_rfl) (by kernel_rfl) ⟨?_, (by omega), rfl, rfl, rfl, rfl, ⟨rfl, fun _ _ => rfl⟩, trivial⟩ ?_ (by show _ < _; omega)
        · refine ⟨rfl, fun x hx => ?_⟩
          simp only [eI, eJ]
          by_cases hxi : x = i
          · subst hxi
            rw [if_pos rfl]
            show [SV.int .i64 (max (c : Int) ((longs l j : Int) + 1))] = [SV.int .i64 ((lgI l k x (max c (longs l j + 1)) x : Nat) : Int)]
            rw [show lgI l k x (max c (longs l j + 1)) x = max c (longs l j + 1) from if_pos rfl]
            congr 2
            omega
          · rw [if_neg hxi]
            unfold lgI
            rw [if_neg hxi, if_neg hxi]
        · rw [if_pos hgt] at hd
          refine ⟨by show j + 1 ≤ _; omega, by show i < j + 1; omega, by show 1 ≤ max c (longs l j + 1); omega, ?_⟩
          show max (max c (longs l j + 1)) (1 + lenF (l.getD i 0) (l.drop (j + 1))) = _
          omega
      · have hng : ¬ l.getD i 0 < l.getD j 0 := by simpa using hc3
        refine good_run 8 (obs := [InK IntKind.i64 ((↑j : Int) + (1 : Int))]) (by kernel_rfl) (by (first | omega | assumption | exact ⟨rfl, trivial⟩ | simp only [AllP, inK_iff, roomOK_iff, decide_eq_true_eq, Bool.and_eq_true, Bool.or_eq_true, Bool.not_eq_true', decide_eq_false_iff_not, and_true, true_and]; (first | omega | (and_intros <;> intros <;> (try and_intros) <;> first | omega | assumption | exact trivial)))) ?_
        rw [if_neg hng] at hd
        refine good_backJ ((j + 1, c)) [List.length l = List.length l ∧ ∀ (i_1 : Nat), i_1 < List.length l → (fun x => [SV.int IntKind.i64 (Int.ofNat (lgI l k i (j, c).snd x))]) i_1 = (fun x => [SV.int IntKind.i64 (Int.ofNat (lgI l k i (j + (1 : Nat), c).snd x))]) i_1, (↑j : Int) + (1 : Int) = (↑(j + (1 : Nat)) : Int), (↑i : Int) = (↑i : Int), (↑k : Int) = (↑k : Int), (↑(lenF (0 : Int) (List.drop (List.length l - k) l)) : Int) = (↑(lenF (0 : Int) (List.drop (List.length l - k) l)) : Int), (↑(List.length l) : Int) = (↑(List.length l) : Int), List.length l = List.length l ∧ ∀ (i : Nat), i < List.length l → (fun i => [SV.int IntKind.i64 (List.getD l i (0 : Int))]) i = (fun i => [SV.int IntKind.i64 (List.getD l i (0 : Int))]) i] (by kernel_rfl) (by kernel_rfl) ⟨⟨rfl, fun _ _ => rfl⟩, (by omega), rfl, rfl, rfl, rfl, ⟨rfl, fun _ _ => rfl⟩, trivial⟩ ?_ (by show _ < _; omega)
        refine ⟨by show j + 1 ≤ _; omega, by show i < j + 1; omega, hc, ?_⟩
        show max c (1 + lenF (l.getD i 0) (l.drop (j + 1))) = _
        rw [← hd]; exact hm
    · have hjl : j = l.length := by simp only [decide_eq_false_iff_not] at hc2; omega
      subst hjl
      rw [List.drop_length, lenF_nil] at hm
      have hce : c = longs l i := by omega
      subst hce
      have hdi := lenF_drop 0 l i hil
      rw [if_pos (by omega)] at hdi
      have hmb := lenF_le (l.drop (i + 1)) 0
      rw [List.length_drop] at hmb
      rw [hlk]
      refine good_run 2 (obs := []) (by kernel_rfl) trivial ?_
      refine good_leaveJ (by kernel_rfl) ?_
      refine good_run 17 (obs := [(1 : Nat) = (1 : Nat) ∧ (0 : Int) ≤ (↑i : Int) ∧ (↑i : Int) < (↑(List.length l) : Int), InK IntKind.i64 ((↑k : Int) + (1 : Int))]) (by kernel_rfl) (by (first | omega | assumption | exact ⟨rfl, trivial⟩ | simp only [AllP, inK_iff, roomOK_iff, decide_eq_true_eq, Bool.and_eq_true, Bool.or_eq_true, Bool.not_eq_true', decide_eq_false_iff_not, and_true, true_and]; (first | omega | (and_intros <;> intros <;> (try and_intros) <;> first | omega | assumption | exact trivial)))) ?_
      refine good_backJ (k + 1) [List.length l = List.length l ∧ ∀ (i_1 : Nat), i_1 < List.length l → (fun x => [SV.int IntKind.i64 (Int.ofNat (lgI l k i (List.length l, longs l i).snd x))]) i_1 = (fun i => [SV.int IntKind.i64 (Int.ofNat (lgK l (k + (1 : Nat)) i))]) i_1, (↑k : Int) + (1 : Int) = (↑(k + (1 : Nat)) : Int), max (↑(lenF (0 : Int) (List.drop (i + (1 : Nat)) l)) : Int) (↑(lgI l k i (longs l i) i) : Int) = (↑(lenF (0 : Int) (List.drop (List.length l - (k + (1 : Nat))) l)) : Int), (↑(List.length l) : Int) = (↑(List.length l) : Int), List.length l = List.length l ∧ ∀ (i : Nat), i < List.length l → (fun i => [SV.int IntKind.i64 (List.getD l i (0 : Int))]) i = (fun i => [SV.int IntKind.i64 (List.getD l i (0 : Int))]) i] (by kernel_rfl) (by kernel_rfl) ⟨?_, (by omega), ?_, rfl, ⟨rfl, fun _ _ => rfl⟩, trivial⟩ (by omega) (by show _ < _; omega)
      · refine ⟨rfl, fun x hx => ?_⟩
        simp only
        congr 3
        unfold lgI lgK
        by_cases hxi : x = i
        · rw [if_pos hxi, if_pos (by omega), hxi]
        · rw [if_neg hxi]
          by_cases hx2 : l.length - k ≤ x
          · rw [if_pos hx2, if_pos (by omega)]
          · rw [if_neg hx2, if_neg (by omega)]
      · rw [show l.length - (k + 1) = i by omega, eI]; omega
  · have hke : k = l.length := by simp only [decide_eq_false_iff_not] at hc1; omega
    subst hke
    rw [Nat.sub_self, List.drop_zero]
    have hm0 := lenF_le l 0
    refine good_run 2 (obs := []) (by kernel_rfl) trivial ?_
    refine good_leaveJ (by kernel_rfl) ?_
    refine good_run 20 (obs := []) (by kernel_rfl) trivial ?_
    refine good_loopJ (fun q : GSt => ⟨[(11, .sv (.int .i64 ((lenF q.last (l.drop q.fr))))), (9, .sv (.int .i64 (q.fr))), (10, .sv (.int .i64 (q.last))), (8, .own 1), (3, LV.own (0 : Nat)), (0, LV.sv (SV.lst (1 : Nat) (List.length l) fun i => [SV.int IntKind.i64 (List.getD l i (0 : Int))]))], [Blk.row (3 : Nat) (1 : Nat) (List.length l) true fun i => [SV.int IntKind.i64 (Int.ofNat (lgK l (List.length l) i))], .row 3 1 q.out.length true fun i => [.int .i64 (q.out.getD i 0)]]⟩) (fun q => q.fr ≤ l.length ∧ 0 ≤ q.last ∧ q.last ≤ 1073741824 ∧ q.out ++ lis q.last (l.drop q.fr) = lis 0 l ∧ q.out.length ≤ q.fr) (fun q => lenF q.last (l.drop q.fr)) (mkG 0 0 []) [List.length l = List.length l ∧ ∀ (i : Nat), i < List.length l → (fun i => [SV.int IntKind.i64 (Int.ofNat (lgK l (List.length l) i))]) i = (fun i => [SV.int IntKind.i64 (Int.ofNat (lgK l (List.length l) i))]) i, (0 : Nat) = (0 : Nat), (↑(lenF (0 : Int) l) : Int) = (↑(lenF (mkG (0 : Nat) (0 : Int) []).last (List.drop (mkG (0 : Nat) (0 : Int) []).fr l)) : Int), (0 : Int) = (↑(mkG (0 : Nat) (0 : Int) []).fr : Int), (0 : Int) = (mkG (0 : Nat) (0 : Int) []).last, List.length l = List.length l ∧ ∀ (i : Nat), i < List.length l → (fun i => [SV.int IntKind.i64 (List.getD l i (0 : Int))]) i = (fun i => [SV.int IntKind.i64 (List.getD l i (0 : Int))]) i] (by kernel_rfl) (by kernel_rfl) ⟨⟨rfl, fun _ _ => rfl⟩, rfl, (by rfl), (by rfl), (by rfl), ⟨rfl, fun _ _ => rfl⟩, trivial⟩ ?_ ?_
    · exact ⟨Nat.zero_le _, Int.le_refl _, by decide, by simp [mkG], Nat.le_refl _⟩
    rintro q ⟨hf, hl0, hl1, ho, hol⟩
    have eK : ∀ x, lgK l l.length x = longs l x := fun x => by unfold lgK; rw [Nat.sub_self]; exact if_pos (Nat.zero_le _)
    have hT : (lis q.last (l.drop q.fr)).length = lenF q.last (l.drop q.fr) := rfl
    have hTl := lenF_le (l.drop q.fr) q.last
    rw [List.length_drop] at hTl
    refine good_run 7 (obs := []) (by kernel_rfl) trivial ?_
    refine good_cond (decide ((0 : Int) < (↑(lenF q.last (List.drop q.fr l)) : Int))) (by kernel_rfl) (fun hc2 => ?_) (fun hc2 => ?_)
    · have hpos' : 0 < lenF q.last (l.drop q.fr) := by simp only [decide_eq_true_eq] at hc2; omega
      refine good_run 16 (obs := []) (by kernel_rfl) trivial ?_
      refine good_loopJ (fun p : ISt => ⟨[(13, .sv (.int .i64 (p.k))), (12, .sv (.int .i64 ((bestV p.b)))), (11, LV.sv (SV.int IntKind.i64 (↑(lenF q.last (List.drop q.fr l)) : Int))), (10, LV.sv (SV.int IntKind.i64 q.last)), (8, LV.own (1 : Nat)), (3, LV.own (0 : Nat)), (0, LV.sv (SV.lst (1 : Nat) (List.length l) fun i => [SV.int IntKind.i64 (List.getD l i (0 : Int))]))], [Blk.row (3 : Nat) (1 : Nat) (List.length l) true fun i => [SV.int IntKind.i64 (Int.ofNat (lgK l (List.length l) i))], Blk.row (3 : Nat) (1 : Nat) (List.length q.out) true fun i => [SV.int IntKind.i64 (List.getD q.out i (0 : Int))]]⟩) (fun p => q.fr ≤ p.k ∧ p.k ≤ l.length ∧ Greedy l q.last (lis q.last (l.drop q.fr)) p.k q.fr p.b) (fun p => l.length - p.k) (mkI q.fr none) [List.length l = List.length l ∧ ∀ (i : Nat), i < List.length l → (fun i => [SV.int IntKind.i64 (Int.ofNat (lgK l (List.length l) i))]) i = (fun i => [SV.int IntKind.i64 (Int.ofNat (lgK l (List.length l) i))]) i, List.length q.out = List.length q.out ∧ ∀ (i : Nat), i < List.length q.out → (fun i => [SV.int IntKind.i64 (List.getD q.out i (0 : Int))]) i = (fun i => [SV.int IntKind.i64 (List.getD q.out i (0 : Int))]) i, (↑q.fr : Int) = (↑(mkI q.fr none).k : Int), (-1 : Int) = bestV (mkI q.fr none).b, (↑(lenF q.last (List.drop q.fr l)) : Int) = (↑(lenF q.last (List.drop q.fr l)) : Int), q.last = q.last, List.length l = List.length l ∧ ∀ (i : Nat), i < List.length l → (fun i => [SV.int IntKind.i64 (List.getD l i (0 : Int))]) i = (fun i => [SV.int IntKind.i64 (List.getD l i (0 : Int))]) i] (by kernel_rfl) (by kernel_rfl) ⟨⟨rfl, fun _ _ => rfl⟩, ⟨rfl, fun _ _ => rfl⟩, (by rfl), (by rfl), rfl, rfl, ⟨rfl, fun _ _ => rfl⟩, trivial⟩ ?_ ?_
      · exact ⟨Nat.le_refl _, hf, ⟨pick_nil _, fun i h => by cases h⟩⟩
      rintro p ⟨hfk, hkl, hg⟩
      have ebl : -1 ≤ bestV p.b ∧ bestV p.b < l.length := by
        rcases hb : p.b with _ | b
        · exact ⟨Int.le_refl _, by show (-1 : Int) < _; omega⟩
        · have := (hg.hb b hb).2.1
          exact ⟨by show (-1 : Int) ≤ (b : Int); omega, by show (b : Int) < _; omega⟩
      refine good_run 9 (obs := []) (by kernel_rfl) trivial ?_
      refine good_cond (decide ((↑p.k : Int) < (↑(List.length l) : Int))) (by kernel_rfl) (fun hc3 => ?_) (fun hc3 => ?_)
      · have hk : p.k < l.length := by simp only [decide_eq_true_eq] at hc3; omega
        have ek := eK p.k
        refine good_run 36 (obs := [True → (1 : Nat) = (1 : Nat) ∧ (0 : Int) ≤ (↑p.k : Int) ∧ (↑p.k : Int) < (↑(List.length l) : Int), decide (q.last < List.getD l p.k (0 : Int)) = true ∧ True → (1 : Nat) = (1 : Nat) ∧ (0 : Int) ≤ (↑p.k : Int) ∧ (↑p.k : Int) < (↑(List.length l) : Int), decide (bestV p.b < (0 : Int)) = false ∧ (decide (q.last < List.getD l p.k (0 : Int)) && decide ((↑(lgK l (List.length l) p.k) : Int) = (↑(lenF q.last (List.drop q.fr l)) : Int))) = true ∧ True → (1 : Nat) = (1 : Nat) ∧ (0 : Int) ≤ (↑p.k : Int) ∧ (↑p.k : Int) < (↑(List.length l) : Int), decide (bestV p.b < (0 : Int)) = false ∧ (decide (q.last < List.getD l p.k (0 : Int)) && decide ((↑(lgK l (List.length l) p.k) : Int) = (↑(lenF q.last (List.drop q.fr l)) : Int))) = true ∧ True → (1 : Nat) = (1 : Nat) ∧ (0 : Int) ≤ bestV p.b ∧ bestV p.b < (↑(List.length l) : Int)]) (by kernel_rfl) (by (first | omega | assumption | exact ⟨rfl, trivial⟩ | simp only [AllP, inK_iff, roomOK_iff, decide_eq_true_eq, Bool.and_eq_true, Bool.or_eq_true, Bool.not_eq_true', decide_eq_false_iff_not, and_true, true_and]; (first | omega | (and_intros <;> intros <;> (try and_intros) <;> first | omega | assumption | exact trivial)))) ?_
        refine good_cond (decide (q.last < List.getD l p.k (0 : Int)) && decide ((↑(lgK l (List.length l) p.k) : Int) = (↑(lenF q.last (List.drop q.fr l)) : Int)) && (decide (bestV p.b < (0 : Int)) || decide (List.getD l p.k (0 : Int) < List.getD l (Int.toNat (bestV p.b)) (0 : Int)))) (by kernel_rfl) (fun hc4 => ?_) (fun hc4 => ?_)
        · simp only [Bool.and_eq_true, Bool.or_eq_true, decide_eq_true_eq] at hc4
          obtain ⟨⟨h1, h2⟩, h3⟩ := hc4
          have hn := hg.take hk hfk h1 (by rw [hT]; omega) (fun i hi => by
            rw [hi] at h3
            have e1 : bestV (some i) = i := rfl
            rw [e1] at h3
            rcases h3 with h3 | h3
            · omega
            · simpa using h3)
          refine good_run 12 (obs := [InK IntKind.i64 ((↑p.k : Int) + (1 : Int))]) (by kernel_rfl) (by (first | omega | assumption | exact ⟨rfl, trivial⟩ | simp only [AllP, inK_iff, roomOK_iff, decide_eq_true_eq, Bool.and_eq_true, Bool.or_eq_true, Bool.not_eq_true', decide_eq_false_iff_not, and_true, true_and]; (first | omega | (and_intros <;> intros <;> (try and_intros) <;> first | omega | assumption | exact trivial)))) ?_
          refine good_backJ (mkI (p.k + 1) (some p.k)) [List.length l = List.length l ∧ ∀ (i : Nat), i < List.length l → (fun i => [SV.int IntKind.i64 (Int.ofNat (lgK l (List.length l) i))]) i = (fun i => [SV.int IntKind.i64 (Int.ofNat (lgK l (List.length l) i))]) i, List.length q.out = List.length q.out ∧ ∀ (i : Nat), i < List.length q.out → (fun i => [SV.int IntKind.i64 (List.getD q.out i (0 : Int))]) i = (fun i => [SV.int IntKind.i64 (List.getD q.out i (0 : Int))]) i, (↑p.k : Int) + (1 : Int) = (↑(mkI (p.k + (1 : Nat)) (some p.k)).k : Int), (↑p.k : Int) = bestV (mkI (p.k + (1 : Nat)) (some p.k)).b, (↑(lenF q.last (List.drop q.fr l)) : Int) = (↑(lenF q.last (List.drop q.fr l)) : Int), q.last = q.last, List.length l = List.length l ∧ ∀ (i : Nat), i < List.length l → (fun i => [SV.int IntKind.i64 (List.getD l i (0 : Int))]) i = (fun i => [SV.int IntKind.i64 (List.getD l i (0 : Int))]) i] (by kernel_rfl) (by kernel_rfl) ⟨⟨rfl, fun _ _ => rfl⟩, ⟨rfl, fun _ _ => rfl⟩, (by rfl), (by rfl), rfl, rfl, ⟨rfl, fun _ _ => rfl⟩, trivial⟩ ?_ ?_
          · exact ⟨by show q.fr ≤ p.k + 1; omega, hk, hn⟩
          · show l.length - (p.k + 1) < _; omega
        · have hn : Greedy l q.last (lis q.last (l.drop q.fr)) (p.k + 1) q.fr p.b := by
            rw [Bool.and_eq_false_iff, Bool.and_eq_false_iff, Bool.or_eq_false_iff] at hc4
            simp only [decide_eq_false_iff_not] at hc4
            rcases hc4 with (h | h) | ⟨h, h'⟩
            · exact hg.skip hk h
            · exact hg.other hk (by rw [hT]; omega)
            · rcases hb : p.b with _ | i
              · rw [hb] at h
                exact absurd (show (-1 : Int) < 0 by decide) h
              · rw [hb] at h' hg
                have e1 : bestV (some i) = i := rfl
                rw [e1] at h'
                obtain ⟨b1, b2, b3, b4⟩ := hg.hb i rfl
                refine hg.worse hk ?_
                have hne := nodup_at.1 hnd p.k i hk b2
                simp only [Int.toNat_natCast] at h'
                omega
          refine good_run 8 (obs := [InK IntKind.i64 ((↑p.k : Int) + (1 : Int))]) (by kernel_rfl) (by (first | omega | assumption | exact ⟨rfl, trivial⟩ | simp only [AllP, inK_iff, roomOK_iff, decide_eq_true_eq, Bool.and_eq_true, Bool.or_eq_true, Bool.not_eq_true', decide_eq_false_iff_not, and_true, true_and]; (first | omega | (and_intros <;> intros <;> (try and_intros) <;> first | omega | assumption | exact trivial)))) ?_
          refine good_backJ (mkI (p.k + 1) p.b) [List.length l = List.length l ∧ ∀ (i : Nat), i < List.length l → (fun i => [SV.int IntKind.i64 (Int.ofNat (lgK l (List.length l) i))]) i = (fun i => [SV.int IntKind.i64 (Int.ofNat (lgK l (List.length l) i))]) i, List.length q.out = List.length q.out ∧ ∀ (i : Nat), i < List.length q.out → (fun i => [SV.int IntKind.i64 (List.getD q.out i (0 : Int))]) i = (fun i => [SV.int IntKind.i64 (List.getD q.out i (0 : Int))]) i, (↑p.k : Int) + (1 : Int) = (↑(mkI (p.k + (1 : Nat)) p.b).k : Int), bestV p.b = bestV (mkI (p.k + (1 : Nat)) p.b).b, (↑(lenF q.last (List.drop q.fr l)) : Int) = (↑(lenF q.last (List.drop q.fr l)) : Int), q.last = q.last, List.length l = List.length l ∧ ∀ (i : Nat), i < List.length l → (fun i => [SV.int IntKind.i64 (List.getD l i (0 : Int))]) i = (fun i => [SV.int IntKind.i64 (List.getD l i (0 : Int))]) i] (by kernel_rfl) (by kernel_rfl) ⟨⟨rfl, fun _ _ => rfl⟩, ⟨rfl, fun _ _ => rfl⟩, (by rfl), (by rfl), rfl, rfl, ⟨rfl, fun _ _ => rfl⟩, trivial⟩ ?_ ?_
          · exact ⟨by show q.fr ≤ p.k + 1; omega, hk, hn⟩
          · show l.length - (p.k + 1) < _; omega
      · have hge : l.length ≤ p.k := by simp only [decide_eq_false_iff_not] at hc3; omega
        obtain ⟨i, hb, hTe, hfi, hik, hlx⟩ := hg.last hge (by rw [hT]; exact hpos')
        have eb : bestV p.b = i := by rw [hb]; rfl
        have hil : i < l.length := by omega
        have hpi := hpos i hil
        have hTn : lenF q.last (l.drop q.fr) = lenF (l.getD i 0) (l.drop (i + 1)) + 1 := by
          show (lis q.last (l.drop q.fr)).length = _
          rw [hTe]; rfl
        refine good_run 2 (obs := []) (by kernel_rfl) trivial ?_
        refine good_leaveJ (by kernel_rfl) ?_
        refine good_run 31 (obs := [(1 : Nat) = (1 : Nat) ∧ (0 : Int) ≤ bestV p.b ∧ bestV p.b < (↑(List.length l) : Int), (3 : Nat) = (3 : Nat) ∧ (1 : Nat) = (1 : Nat) ∧ (1 : Nat) = (1 : Nat) ∧ roomOK (List.length q.out + (1 : Nat)) (8 : Nat), True → InK IntKind.i64 (bestV p.b + (1 : Int)), True → (1 : Nat) = (1 : Nat) ∧ (0 : Int) ≤ bestV p.b ∧ bestV p.b < (↑(List.length l) : Int), InK IntKind.i64 ((↑(lenF q.last (List.drop q.fr l)) : Int) - (1 : Int))]) (by kernel_rfl) (by (first | omega | assumption | exact ⟨rfl, trivial⟩ | simp only [AllP, inK_iff, roomOK_iff, decide_eq_true_eq, Bool.and_eq_true, Bool.or_eq_true, Bool.not_eq_true', decide_eq_false_iff_not, and_true, true_and]; (first | omega | (and_intros <;> intros <;> (try and_intros) <;> first | omega | assumption | exact trivial)))) ?_
        · refine good_backJ (mkG (i + 1) (l.getD i 0) (q.out ++ [l.getD i 0])) [List.length l = List.length l ∧ ∀ (i : Nat), i < List.length l → (fun i => [SV.int IntKind.i64 (Int.ofNat (lgK l (List.length l) i))]) i = (fun i => [SV.int IntKind.i64 (Int.ofNat (lgK l (List.length l) i))]) i, List.length q.out + (1 : Nat) = List.length (mkG (i + (1 : Nat)) (List.getD l i (0 : Int)) (q.out ++ [List.getD l i (0 : Int)])).out ∧ ∀ (i_1 : Nat), i_1 < List.length q.out + (1 : Nat) → joinGet (List.length q.out) (fun i => [SV.int IntKind.i64 (List.getD q.out i (0 : Int))]) (cutRows (1 : Nat) [SV.int IntKind.i64 (List.getD l (Int.toNat (bestV p.b)) (0 : Int))]) i_1 = (fun i_2 => [SV.int IntKind.i64 (List.getD (mkG (i + (1 : Nat)) (List.getD l i (0 : Int)) (q.out ++ [List.getD l i (0 : Int)])).out i_2 (0 : Int))]) i_1, (↑(lenF q.last (List.drop q.fr l)) : Int) - (1 : Int) = (↑(lenF (mkG (i + (1 : Nat)) (List.getD l i (0 : Int)) (q.out ++ [List.getD l i (0 : Int)])).last (List.drop (mkG (i + (1 : Nat)) (List.getD l i (0 : Int)) (q.out ++ [List.getD l i (0 : Int)])).fr l)) : Int), bestV p.b + (1 : Int) = (↑(mkG (i + (1 : Nat)) (List.getD l i (0 : Int)) (q.out ++ [List.getD l i (0 : Int)])).fr : Int), List.getD l (Int.toNat (bestV p.b)) (0 : Int) = (mkG (i + (1 : Nat)) (List.getD l i (0 : Int)) (q.out ++ [List.getD l i (0 : Int)])).last, List.length l = List.length l ∧ ∀ (i : Nat), i < List.length l → (fun i => [SV.int IntKind.i64 (List.getD l i (0 : Int))]) i = (fun i => [SV.int IntKind.i64 (List.getD l i (0 : Int))]) i] (by kernel_rfl) (by kernel_rfl) ⟨⟨rfl, fun _ _ => rfl⟩, ?_, ?_, ?_, ?_, ⟨rfl, fun _ _ => rfl⟩, trivial⟩ ?_ ?_
          · rw [show (bestV p.b).toNat = i by rw [eb]; rfl]
            exact row_snoc' (fun x => [SV.int .i64 x]) 0 q.out (l.getD i 0) 1 rfl
          · show _ = ((lenF (l.getD i 0) (l.drop (i + 1)) : Nat) : Int); omega
          · rw [eb]; rfl
          · rw [show (bestV p.b).toNat = i by rw [eb]; rfl]; rfl
          · refine ⟨hil, by show 0 ≤ l.getD i 0; omega, hpi.2, ?_, ?_⟩
            · show (q.out ++ [l.getD i 0]) ++ lis (l.getD i 0) (l.drop (i + 1)) = _
              rw [← ho, hTe, List.append_assoc]; rfl
            · show (q.out ++ [l.getD i 0]).length ≤ i + 1
              rw [List.length_append, List.length_singleton]; omega
          · show lenF (l.getD i 0) (l.drop (i + 1)) < _; omega
    · have he : lis q.last (l.drop q.fr) = [] := List.eq_nil_of_length_eq_zero (by simp only [decide_eq_false_iff_not] at hc2; omega)
      rw [he, List.append_nil] at ho
      refine good_run 2 (obs := []) (by kernel_rfl) trivial ?_
      refine good_leaveJ (by kernel_rfl) ?_
      refine good_run 8 (obs := []) (by kernel_rfl) trivial ?_
      refine good_finOwn [List.length q.out = List.length (lis (0 : Int) l) ∧ ∀ (j : Nat), j < List.length (lis (0 : Int) l) → (fun i => [SV.int IntKind.i64 (List.getD q.out i (0 : Int))]) j = (fun i => [SV.int IntKind.i64 (List.getD (lis (0 : Int) l) i (0 : Int))]) j] (by kernel_rfl) ⟨?_, trivial⟩
      rw [← ho]
      exact ⟨rfl, fun _ _ => rfl⟩
end Go.Sx.T
