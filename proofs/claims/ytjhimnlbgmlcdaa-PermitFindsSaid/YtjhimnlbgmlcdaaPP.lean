/- Contracts of functions of the program, each proved by running its code symbolically (PP). -/
import Derived.Test.YtjhimnlbgmlcdaaPO
namespace Go.Sx.T
open Go Go.Proofs Go.Sx
set_option maxRecDepth 100000
set_option maxHeartbeats 4000000
set_option linter.unusedVariables false
set_option linter.unusedSimpArgs false
theorem sorted_nodup {ks : List Int} (h : ks.Nodup) : (isort ks).Pairwise (· < ·) := by
  have h1 := isort_sorted ks
  have h2 : (isort ks).Nodup := (isort_perm ks).nodup_iff.2 h
  exact (h1.and h2).imp fun ⟨a, b⟩ => by omega
theorem covers_self (p : Permit) (path : List Int) (kind day : Int) : coversB p p.Reader path kind day = covB path kind day p := by
  unfold coversB covB
  simp
theorem next_reader {l : List Permit} (hc : check l = 0) (path : List Int) (kind day : Int) {k : Nat} (hk : k ≤ (isort (keysR path kind day l)).length) : nextI (xsR path kind day l) ((isort (keysR path kind day l)).take k) = if k < (isort (keysR path kind day l)).length then (isort (keysR path kind day l)).getD k 0 else 0 :=
  nextI_take (fun x hx => (xsR_range path kind day hc x hx).1) (sorted_nodup (keysR_ok path kind day l).1) (fun x => by rw [(isort_perm _).mem_iff, (keysR_ok path kind day l).2.2]) hk
theorem s34 (l : List Permit) (path : List Int) (kind day : Int) : Spec Try.prog 34 [permits l, ints path, .int .i64 kind, .int .i64 day] (ints (readersL l path kind day)) := by
  refine spec_of_good mixed Try.func34 F34_ok (by kernel_rfl) ?_
  refine good_run 9 (obs := []) (by kernel_rfl) trivial ?_
  refine good_call (c := True) (by kernel_rfl) (fun _ => SVles.refl _) (fun _ => s18 (l)) (by kernel_rfl) ?_
  refine good_run 3 (obs := []) (by kernel_rfl) trivial ?_
  refine good_cond (!decide (check l = (0 : Int))) (by kernel_rfl) (fun hc1 => ?_) (fun hc1 => ?_)
  · have e : readersL l path kind day = [] := if_pos (by simpa using hc1)
    rw [e]
    refine good_run 7 (obs := []) (by kernel_rfl) trivial ?_
    refine good_fin [(0 : Nat) = (0 : Nat)] (by kernel_rfl) ⟨rfl, trivial⟩
  · have hc : check l = 0 := by simpa using hc1
    have hll := check_len hc
    have e : readersL l path kind day = isort (keysR path kind day l) := if_neg (by simp [hc])
    have hnx := @next_reader l hc path kind day
    have hsl : (isort (keysR path kind day l)).length ≤ 64 := by rw [isort_length]; have := (keysR_ok path kind day l).2.1; omega
    have hpos : ∀ k, k < (isort (keysR path kind day l)).length → 0 < (isort (keysR path kind day l)).getD k 0 := fun k hk => (xsR_range path kind day hc _ (by rw [← (keysR_ok path kind day l).2.2, ← (isort_perm _).mem_iff]; exact Go.Sx.getD_mem _ 0 k hk)).1
    rw [e]
    generalize isort (keysR path kind day l) = S at *
    refine good_run 7 (obs := []) (by kernel_rfl) trivial ?_
    refine good_loopJ (fun k : Nat => ⟨[(9, .own 0), (0, LV.sv (SV.lst (6 : Nat) (List.length l) fun i => Permit.cells (List.getD l i default))), (1, LV.sv (SV.lst (1 : Nat) (List.length path) fun i => [SV.int IntKind.i64 (List.getD path i (0 : Int))])), (2, LV.sv (SV.int IntKind.i64 kind)), (3, LV.sv (SV.int IntKind.i64 day))], [.row 3 1 (S.take k).length true fun i => [.int .i64 ((S.take k).getD i 0)]]⟩) (fun k => k ≤ S.length) (fun k => S.length - k) (0) [(0 : Nat) = (0 : Nat), List.length l = List.length l ∧ ∀ (i : Nat), i < List.length l → (fun i => Permit.cells (List.getD l i default)) i = (fun i => Permit.cells (List.getD l i default)) i, List.length path = List.length path ∧ ∀ (i : Nat), i < List.length path → (fun i => [SV.int IntKind.i64 (List.getD path i (0 : Int))]) i = (fun i => [SV.int IntKind.i64 (List.getD path i (0 : Int))]) i, kind = kind, day = day] (by kernel_rfl) (by kernel_rfl) ⟨rfl, ⟨rfl, fun _ _ => rfl⟩, ⟨rfl, fun _ _ => rfl⟩, rfl, rfl, trivial⟩ (by omega) ?_
    intro k hk
    have hnk := hnx hk
    have htk : (S.take k).length = k := by rw [List.length_take]; omega
    refine good_run 15 (obs := []) (by kernel_rfl) trivial ?_
    refine good_loopJ (fun j : Nat => ⟨[(18, .sv (.int .i64 (j))), (10, .sv (.int .i64 ((nextI (xsR path kind day (l.take j)) (S.take k))))), (17, LV.sv (SV.int IntKind.i64 (↑(List.length l) : Int))), (16, LV.sv (SV.lst (6 : Nat) (List.length l) fun i => Permit.cells (List.getD l i default))), (9, LV.own (0 : Nat)), (0, LV.sv (SV.lst (6 : Nat) (List.length l) fun i => Permit.cells (List.getD l i default))), (1, LV.sv (SV.lst (1 : Nat) (List.length path) fun i => [SV.int IntKind.i64 (List.getD path i (0 : Int))])), (2, LV.sv (SV.int IntKind.i64 kind)), (3, LV.sv (SV.int IntKind.i64 day))], [Blk.row (3 : Nat) (1 : Nat) (List.length (List.take k S)) true fun i => [SV.int IntKind.i64 (List.getD (List.take k S) i (0 : Int))]]⟩) (fun j => j ≤ l.length) (fun j => l.length - j) (0) [List.length (List.take k S) = List.length (List.take k S) ∧ ∀ (i : Nat), i < List.length (List.take k S) → (fun i => [SV.int IntKind.i64 (List.getD (List.take k S) i (0 : Int))]) i = (fun i => [SV.int IntKind.i64 (List.getD (List.take k S) i (0 : Int))]) i, (0 : Int) = (0 : Int), (0 : Int) = nextI (xsR path kind day []) (List.take k S), (↑(List.length l) : Int) = (↑(List.length l) : Int), List.length l = List.length l ∧ ∀ (i : Nat), i < List.length l → (fun i => Permit.cells (List.getD l i default)) i = (fun i => Permit.cells (List.getD l i default)) i, List.length l = List.length l ∧ ∀ (i : Nat), i < List.length l → (fun i => Permit.cells (List.getD l i default)) i = (fun i => Permit.cells (List.getD l i default)) i, List.length path = List.length path ∧ ∀ (i : Nat), i < List.length path → (fun i => [SV.int IntKind.i64 (List.getD path i (0 : Int))]) i = (fun i => [SV.int IntKind.i64 (List.getD path i (0 : Int))]) i, kind = kind, day = day] (by kernel_rfl) (by kernel_rfl) ⟨⟨rfl, fun _ _ => rfl⟩, rfl, (by rfl), rfl, ⟨rfl, fun _ _ => rfl⟩, ⟨rfl, fun _ _ => rfl⟩, ⟨rfl, fun _ _ => rfl⟩, rfl, rfl, trivial⟩ (by omega) ?_
    intro j hj
    refine good_run 6 (obs := []) (by kernel_rfl) trivial ?_
    refine good_cond (decide ((↑j : Int) < (↑(List.length l) : Int))) (by kernel_rfl) (fun hc2 => ?_) (fun hc2 => ?_)
    · have hlt : j < l.length := by simp only [decide_eq_true_eq] at hc2; omega
      have hxs := xsR_snoc path kind day (l.take j) (l.getD j default)
      rw [← take_snoc l default j hlt, ← covers_self] at hxs
      have hst : nextI (xsR path kind day (l.take (j + 1))) (S.take k) = if (coversB (l.getD j default) (l.getD j default).Reader path kind day && (candI (S.take k) (l.getD j default).Reader && (decide (nextI (xsR path kind day (l.take j)) (S.take k) = 0) || decide ((l.getD j default).Reader < nextI (xsR path kind day (l.take j)) (S.take k))))) = true then (l.getD j default).Reader else nextI (xsR path kind day (l.take j)) (S.take k) := by
        rw [hxs]
        cases hb : coversB (l.getD j default) (l.getD j default).Reader path kind day
        · rfl
        · rw [if_pos rfl, nextI_snoc, Bool.true_and, nextStep]
      rw [← cand_eq, ← Bool.and_assoc] at hst
      refine good_run 19 (obs := [(6 : Nat) = (6 : Nat) ∧ (0 : Int) ≤ (↑j : Int) ∧ (↑j : Int) < (↑(List.length l) : Int), (0 : Nat) + (6 : Nat) ≤ (6 : Nat), (6 : Nat) = (6 : Nat) ∧ (0 : Nat) + (6 : Nat) ≤ (6 : Nat), True → (0 : Nat) + (6 : Nat) ≤ (6 : Nat)]) (by kernel_rfl) (by (first | omega | assumption | exact ⟨rfl, trivial⟩ | simp only [AllP, inK_iff, roomOK_iff, decide_eq_true_eq, Bool.and_eq_true, Bool.or_eq_true, Bool.not_eq_true', decide_eq_false_iff_not, and_true, true_and]; (first | omega | (and_intros <;> intros <;> (try and_intros) <;> first | omega | assumption | exact trivial)))) ?_
      refine good_call (c := True) (by kernel_rfl) (fun _ => SVles.refl _) (fun _ => s15 (List.getD l j default) ((List.getD l j default).Reader) (path) (kind) (day)) (by kernel_rfl) ?_
      refine good_run 28 (obs := [decide ((↑(List.length (List.take k S)) : Int) = (0 : Int)) = false ∧ coversB (List.getD l j default) (List.getD l j default).Reader path kind day = true ∧ True → InK IntKind.i64 ((↑(List.length (List.take k S)) : Int) - (1 : Int)), decide ((↑(List.length (List.take k S)) : Int) = (0 : Int)) = false ∧ coversB (List.getD l j default) (List.getD l j default).Reader path kind day = true ∧ True → (1 : Nat) = (1 : Nat) ∧ (0 : Int) ≤ (↑(List.length (List.take k S)) : Int) - (1 : Int) ∧ (↑(List.length (List.take k S)) : Int) - (1 : Int) < (↑(List.length (List.take k S)) : Int)]) (by kernel_rfl) (by (first | omega | assumption | exact ⟨rfl, trivial⟩ | simp only [AllP, inK_iff, roomOK_iff, decide_eq_true_eq, Bool.and_eq_true, Bool.or_eq_true, Bool.not_eq_true', decide_eq_false_iff_not, and_true, true_and]; (first | omega | (and_intros <;> intros <;> (try and_intros) <;> first | omega | assumption | exact trivial)))) ?_
      refine good_cond (coversB (List.getD l j default) (List.getD l j default).Reader path kind day && (decide ((↑(List.length (List.take k S)) : Int) = (0 : Int)) || decide (List.getD (List.take k S) (Int.toNat ((↑(List.length (List.take k S)) : Int) - (1 : Int))) (0 : Int) < (List.getD l j default).Reader)) && (decide (nextI (xsR path kind day (List.take j l)) (List.take k S) = (0 : Int)) || decide ((List.getD l j default).Reader < nextI (xsR path kind day (List.take j l)) (List.take k S)))) (by kernel_rfl) (fun hc3 => ?_) (fun hc3 => ?_)
      · rw [if_pos hc3] at hst
        refine good_run 12 (obs := [InK IntKind.i64 ((↑j : Int) + (1 : Int))]) (by kernel_rfl) (by (first | omega | assumption | exact ⟨rfl, trivial⟩ | simp only [AllP, inK_iff, roomOK_iff, decide_eq_true_eq, Bool.and_eq_true, Bool.or_eq_true, Bool.not_eq_true', decide_eq_false_iff_not, and_true, true_and]; (first | omega | (and_intros <;> intros <;> (try and_intros) <;> first | omega | assumption | exact trivial)))) ?_
        refine good_backJ (j + 1) [List.length (List.take k S) = List.length (List.take k S) ∧ ∀ (i : Nat), i < List.length (List.take k S) → (fun i => [SV.int IntKind.i64 (List.getD (List.take k S) i (0 : Int))]) i = (fun i => [SV.int IntKind.i64 (List.getD (List.take k S) i (0 : Int))]) i, (↑j : Int) + (1 : Int) = (↑(j + (1 : Nat)) : Int), (List.getD l j default).Reader = nextI (xsR path kind day (List.take (j + (1 : Nat)) l)) (List.take k S), (↑(List.length l) : Int) = (↑(List.length l) : Int), List.length l = List.length l ∧ ∀ (i : Nat), i < List.length l → (fun i => Permit.cells (List.getD l i default)) i = (fun i => Permit.cells (List.getD l i default)) i, List.length l = List.length l ∧ ∀ (i : Nat), i < List.length l → (fun i => Permit.cells (List.getD l i default)) i = (fun i => Permit.cells (List.getD l i default)) i, List.length path = List.length path ∧ ∀ (i : Nat), i < List.length path → (fun i => [SV.int IntKind.i64 (List.getD path i (0 : Int))]) i = (fun i => [SV.int IntKind.i64 (List.getD path i (0 : Int))]) i, kind = kind, day = day] (by kernel_rfl) (by kernel_rfl) ⟨⟨rfl, fun _ _ => rfl⟩, (by omega), (by omega), rfl, ⟨rfl, fun _ _ => rfl⟩, ⟨rfl, fun _ _ => rfl⟩, ⟨rfl, fun _ _ => rfl⟩, rfl, rfl, trivial⟩ (by omega) (by show _ < _; omega)
      · rw [if_neg (by rw [hc3]; decide)] at hst
        refine good_run 7 (obs := [InK IntKind.i64 ((↑j : Int) + (1 : Int))]) (by kernel_rfl) (by (first | omega | assumption | exact ⟨rfl, trivial⟩ | simp only [AllP, inK_iff, roomOK_iff, decide_eq_true_eq, Bool.and_eq_true, Bool.or_eq_true, Bool.not_eq_true', decide_eq_false_iff_not, and_true, true_and]; (first | omega | (and_intros <;> intros <;> (try and_intros) <;> first | omega | assumption | exact trivial)))) ?_
        refine good_backJ (j + 1) [List.length (List.take k S) = List.length (List.take k S) ∧ ∀ (i : Nat), i < List.length (List.take k S) → (fun i => [SV.int IntKind.i64 (List.getD (List.take k S) i (0 : Int))]) i = (fun i => [SV.int IntKind.i64 (List.getD (List.take k S) i (0 : Int))]) i, (↑j : Int) + (1 : Int) = (↑(j + (1 : Nat)) : Int), nextI (xsR path kind day (List.take j l)) (List.take k S) = nextI (xsR path kind day (List.take (j + (1 : Nat)) l)) (List.take k S), (↑(List.length l) : Int) = (↑(List.length l) : Int), List.length l = List.length l ∧ ∀ (i : Nat), i < List.length l → (fun i => Permit.cells (List.getD l i default)) i = (fun i => Permit.cells (List.getD l i default)) i, List.length l = List.length l ∧ ∀ (i : Nat), i < List.length l → (fun i => Permit.cells (List.getD l i default)) i = (fun i => Permit.cells (List.getD l i default)) i, List.length path = List.length path ∧ ∀ (i : Nat), i < List.length path → (fun i => [SV.int IntKind.i64 (List.getD path i (0 : Int))]) i = (fun i => [SV.int IntKind.i64 (List.getD path i (0 : Int))]) i, kind = kind, day = day] (by kernel_rfl) (by kernel_rfl) ⟨⟨rfl, fun _ _ => rfl⟩, (by omega), (by omega), rfl, ⟨rfl, fun _ _ => rfl⟩, ⟨rfl, fun _ _ => rfl⟩, ⟨rfl, fun _ _ => rfl⟩, rfl, rfl, trivial⟩ (by omega) (by show _ < _; omega)
    · have hge : j = l.length := by simp only [decide_eq_false_iff_not] at hc2; omega
      subst hge
      rw [List.take_length]
      refine good_run 2 (obs := []) (by kernel_rfl) trivial ?_
      refine good_leaveJ (by kernel_rfl) ?_
      refine good_run 8 (obs := []) (by kernel_rfl) trivial ?_
      refine good_cond (decide (nextI (xsR path kind day l) (List.take k S) = (0 : Int))) (by kernel_rfl) (fun hc3 => ?_) (fun hc3 => ?_)
      · have hkk : k = S.length := by
          simp only [decide_eq_true_eq] at hc3
          rw [hnk] at hc3
          split at hc3
          · rename_i h; have := hpos k h; omega
          · omega
        subst hkk
        rw [List.take_length]
        refine good_run 9 (obs := []) (by kernel_rfl) trivial ?_
        refine good_leaveJ (by kernel_rfl) ?_
        refine good_run 1 (obs := []) (by kernel_rfl) trivial ?_
        refine good_fin [List.length S = List.length S ∧ ∀ (i : Nat), i < List.length S → (fun i => [SV.int IntKind.i64 (List.getD S i (0 : Int))]) i = (fun i => [SV.int IntKind.i64 (List.getD S i (0 : Int))]) i] (by kernel_rfl) ⟨⟨rfl, fun _ _ => rfl⟩, trivial⟩
      · have hkk : k < S.length := by
          simp only [decide_eq_false_iff_not] at hc3
          rw [hnk] at hc3
          refine Nat.lt_of_not_le fun h => hc3 ?_
          rw [if_neg (by omega)]
        rw [if_pos hkk] at hnk
        refine good_run 10 (obs := [(3 : Nat) = (3 : Nat) ∧ (1 : Nat) = (1 : Nat) ∧ (1 : Nat) = (1 : Nat) ∧ roomOK (List.length (List.take k S) + (1 : Nat)) (8 : Nat)]) (by kernel_rfl) (by (first | omega | assumption | exact ⟨rfl, trivial⟩ | simp only [AllP, inK_iff, roomOK_iff, decide_eq_true_eq, Bool.and_eq_true, Bool.or_eq_true, Bool.not_eq_true', decide_eq_false_iff_not, and_true, true_and]; (first | omega | (and_intros <;> intros <;> (try and_intros) <;> first | omega | assumption | exact trivial)))) ?_
        refine good_backJ (k + 1) [List.length (List.take k S) + (1 : Nat) = List.length (List.take (k + (1 : Nat)) S) ∧ ∀ (i : Nat), i < List.length (List.take k S) + (1 : Nat) → joinGet (List.length (List.take k S)) (fun i => [SV.int IntKind.i64 (List.getD (List.take k S) i (0 : Int))]) (cutRows (1 : Nat) [SV.int IntKind.i64 (nextI (xsR path kind day l) (List.take k S))]) i = (fun i => [SV.int IntKind.i64 (List.getD (List.take (k + (1 : Nat)) S) i (0 : Int))]) i, List.length l = List.length l ∧ ∀ (i : Nat), i < List.length l → (fun i => Permit.cells (List.getD l i default)) i = (fun i => Permit.cells (List.getD l i default)) i, List.length path = List.length path ∧ ∀ (i : Nat), i < List.length path → (fun i => [SV.int IntKind.i64 (List.getD path i (0 : Int))]) i = (fun i => [SV.int IntKind.i64 (List.getD path i (0 : Int))]) i, kind = kind, day = day] (by kernel_rfl) (by kernel_rfl) ⟨?_, ⟨rfl, fun _ _ => rfl⟩, ⟨rfl, fun _ _ => rfl⟩, rfl, rfl, trivial⟩ (by omega) (by show _ < _; omega)
        rw [hnk, take_snoc S 0 k hkk]
        exact row_snoc' (fun n => [SV.int .i64 n]) 0 (S.take k) (S.getD k 0) 1 rfl
theorem readers_mem (l : List Permit) (path : List Int) (kind day n : Int) : decide (n ∈ readersL l path kind day) = (firstP l n path kind day).2 := by
  rw [first_snd]
  unfold readersL
  by_cases hc : check l = 0
  · rw [if_neg (by simp [hc]), decide_eq_true hc, Bool.true_and, Bool.eq_iff_iff, decide_eq_true_eq, (isort_perm _).mem_iff, (keysR_ok path kind day l).2.2, List.any_eq_true]
    unfold xsR
    rw [List.mem_map]
    constructor
    · rintro ⟨p, hp, e⟩
      obtain ⟨h1, h2⟩ := List.mem_filter.1 hp
      exact ⟨p, h1, by rw [← e, covers_self]; exact h2⟩
    · rintro ⟨p, h1, h2⟩
      have e : p.Reader = n := by
        unfold coversB at h2
        simp only [Bool.and_eq_true, decide_eq_true_eq] at h2
        exact h2.1.1
      exact ⟨p, List.mem_filter.2 ⟨h1, by rw [← covers_self, e]; exact h2⟩, e⟩
  · rw [if_pos hc, decide_eq_false hc, Bool.false_and]
    exact decide_eq_false (by simp)
theorem readers_asc (l : List Permit) (path : List Int) (kind day : Int) : (readersL l path kind day).Pairwise (· < ·) := by
  unfold readersL
  split
  · exact List.Pairwise.nil
  · exact sorted_nodup (keysR_ok path kind day l).1
theorem readers_len (l : List Permit) (path : List Int) (kind day : Int) : (readersL l path kind day).length ≤ l.length := by
  unfold readersL
  split
  · exact Nat.zero_le _
  · rw [isort_length]; exact (keysR_ok path kind day l).2.1
theorem s10 (l : List Permit) (reader : Int) (path : List Int) (kind day : Int) : Spec Try.prog 10 [permits l, asked reader path kind day] (.bool true) := by
  refine spec_of_good mixed Try.func10 F10_ok (by kernel_rfl) ?_
  refine good_run 9 (obs := []) (by kernel_rfl) trivial ?_
  refine good_call (c := True) (by kernel_rfl) (fun _ => SVles.refl _) (fun _ => s11) (by kernel_rfl) ?_
  refine good_run 3 (obs := []) (by kernel_rfl) trivial ?_
  refine good_cond false (by kernel_rfl) (fun h => nomatch h) (fun _ => ?_)
  refine good_run 7 (obs := []) (by kernel_rfl) trivial ?_
  refine good_call (c := True) (by kernel_rfl) (fun _ => SVles.refl _) (fun _ => s12 (l) (path)) (by kernel_rfl) ?_
  refine good_run 3 (obs := []) (by kernel_rfl) trivial ?_
  refine good_cond (!(decide (List.length l ≤ (20 : Nat)) && decide (List.length path ≤ (20 : Nat)))) (by kernel_rfl) (fun hc1 => ?_) (fun hc1 => ?_)
  · refine good_run 7 (obs := []) (by kernel_rfl) trivial ?_
    refine good_fin [true = true] (by kernel_rfl) ⟨rfl, trivial⟩
  · have hl : l.length ≤ 20 ∧ path.length ≤ 20 := by simpa using hc1
    refine good_run 4 (obs := []) (by kernel_rfl) trivial ?_
    refine good_call (c := True) (by kernel_rfl) (fun _ => SVles.refl _) (fun _ => SpecOwn.spec (s17 (l) (by (first | omega | assumption | exact ⟨rfl, trivial⟩ | simp only [AllP, inK_iff, roomOK_iff, decide_eq_true_eq, Bool.and_eq_true, Bool.or_eq_true, Bool.not_eq_true', decide_eq_false_iff_not, and_true, true_and]; (first | omega | (and_intros <;> intros <;> (try and_intros) <;> first | omega | assumption | exact trivial)))))) (by kernel_rfl) ?_
    refine good_run 3 (obs := [True → (0 : Nat) + (4 : Nat) ≤ (4 : Nat)]) (by kernel_rfl) (by (first | omega | assumption | exact ⟨rfl, trivial⟩ | simp only [AllP, inK_iff, roomOK_iff, decide_eq_true_eq, Bool.and_eq_true, Bool.or_eq_true, Bool.not_eq_true', decide_eq_false_iff_not, and_true, true_and]; (first | omega | (and_intros <;> intros <;> (try and_intros) <;> first | omega | assumption | exact trivial)))) ?_
    refine good_call (c := True) (by kernel_rfl) (fun _ => SVles.refl _) (fun _ => SpecOwn.spec (s14 (reader) (path) (kind) (day) (by (first | omega | assumption | exact ⟨rfl, trivial⟩ | simp only [AllP, inK_iff, roomOK_iff, decide_eq_true_eq, Bool.and_eq_true, Bool.or_eq_true, Bool.not_eq_true', decide_eq_false_iff_not, and_true, true_and]; (first | omega | (and_intros <;> intros <;> (try and_intros) <;> first | omega | assumption | exact trivial)))))) (by kernel_rfl) ?_
    refine good_run 4 (obs := []) (by kernel_rfl) trivial ?_
    refine good_call (c := True) (by kernel_rfl) (fun _ => SVles.refl _) (fun _ => s24 (l) (reader) (path) (kind) (day)) (by kernel_rfl) ?_
    refine good_run 18 (obs := []) (by kernel_rfl) trivial ?_
    refine good_call (c := True) (by kernel_rfl) (fun _ => SVles.refl _) (fun _ => s31 (l) (reader) (path) (kind) (day)) (by kernel_rfl) ?_
    refine good_run 10 (obs := []) (by kernel_rfl) trivial ?_
    refine good_call (c := True) (by kernel_rfl) (fun _ => SVles.refl _) (fun _ => SpecOwn.spec (s17 (l) (by (first | omega | assumption | exact ⟨rfl, trivial⟩ | simp only [AllP, inK_iff, roomOK_iff, decide_eq_true_eq, Bool.and_eq_true, Bool.or_eq_true, Bool.not_eq_true', decide_eq_false_iff_not, and_true, true_and]; (first | omega | (and_intros <;> intros <;> (try and_intros) <;> first | omega | assumption | exact trivial)))))) (by kernel_rfl) ?_
    refine good_run 3 (obs := [True → (0 : Nat) + (4 : Nat) ≤ (4 : Nat)]) (by kernel_rfl) (by (first | omega | assumption | exact ⟨rfl, trivial⟩ | simp only [AllP, inK_iff, roomOK_iff, decide_eq_true_eq, Bool.and_eq_true, Bool.or_eq_true, Bool.not_eq_true', decide_eq_false_iff_not, and_true, true_and]; (first | omega | (and_intros <;> intros <;> (try and_intros) <;> first | omega | assumption | exact trivial)))) ?_
    refine good_call (c := True) (by kernel_rfl) (fun _ => SVles.refl _) (fun _ => SpecOwn.spec (s14 (reader) (path) (kind) (day) (by (first | omega | assumption | exact ⟨rfl, trivial⟩ | simp only [AllP, inK_iff, roomOK_iff, decide_eq_true_eq, Bool.and_eq_true, Bool.or_eq_true, Bool.not_eq_true', decide_eq_false_iff_not, and_true, true_and]; (first | omega | (and_intros <;> intros <;> (try and_intros) <;> first | omega | assumption | exact trivial)))))) (by kernel_rfl) ?_
    refine good_run 2 (obs := []) (by kernel_rfl) trivial ?_
    refine good_call (c := True) (by kernel_rfl) (fun _ => SVles.refl _) (fun _ => s25 (l) (reader) (path) (day)) (by kernel_rfl) ?_
    refine good_run 12 (obs := []) (by kernel_rfl) trivial ?_
    refine good_call (c := True) (by kernel_rfl) (fun _ => SVles.refl _) (fun _ => s32 (l) (reader) (path) (day)) (by kernel_rfl) ?_
    refine good_run 20 (obs := []) (by kernel_rfl) trivial ?_
    refine good_call (c := (decide ((firstP l reader path kind day).fst = (firstP l reader path kind day).fst) && (firstP l reader path kind day).snd == (firstP l reader path kind day).snd && decide (kindsR l reader path day = kindsR l reader path day)) = true ∧ True) (by kernel_rfl) (fun _ => SVles.refl _) (fun _ => SpecOwn.spec (s17 (l) (by (first | omega | assumption | exact ⟨rfl, trivial⟩ | simp only [AllP, inK_iff, roomOK_iff, decide_eq_true_eq, Bool.and_eq_true, Bool.or_eq_true, Bool.not_eq_true', decide_eq_false_iff_not, and_true, true_and]; (first | omega | (and_intros <;> intros <;> (try and_intros) <;> first | omega | assumption | exact trivial)))))) (by kernel_rfl) ?_
    refine good_run 1 (obs := [(decide ((firstP l reader path kind day).fst = (firstP l reader path kind day).fst) && (firstP l reader path kind day).snd == (firstP l reader path kind day).snd && decide (kindsR l reader path day = kindsR l reader path day)) = true ∧ True → (0 : Nat) + (4 : Nat) ≤ (4 : Nat)]) (by kernel_rfl) (by (first | omega | assumption | exact ⟨rfl, trivial⟩ | simp only [AllP, inK_iff, roomOK_iff, decide_eq_true_eq, Bool.and_eq_true, Bool.or_eq_true, Bool.not_eq_true', decide_eq_false_iff_not, and_true, true_and]; (first | omega | (and_intros <;> intros <;> (try and_intros) <;> first | omega | assumption | exact trivial)))) ?_
    refine good_call (c := (decide ((firstP l reader path kind day).fst = (firstP l reader path kind day).fst) && (firstP l reader path kind day).snd == (firstP l reader path kind day).snd && decide (kindsR l reader path day = kindsR l reader path day)) = true ∧ True) (by kernel_rfl) (fun _ => SVles.refl _) (fun _ => SpecOwn.spec (s14 (reader) (path) (kind) (day) (by (first | omega | assumption | exact ⟨rfl, trivial⟩ | simp only [AllP, inK_iff, roomOK_iff, decide_eq_true_eq, Bool.and_eq_true, Bool.or_eq_true, Bool.not_eq_true', decide_eq_false_iff_not, and_true, true_and]; (first | omega | (and_intros <;> intros <;> (try and_intros) <;> first | omega | assumption | exact trivial)))))) (by kernel_rfl) ?_
    refine good_run 4 (obs := []) (by kernel_rfl) trivial ?_
    refine good_call (c := (decide ((firstP l reader path kind day).fst = (firstP l reader path kind day).fst) && (firstP l reader path kind day).snd == (firstP l reader path kind day).snd && decide (kindsR l reader path day = kindsR l reader path day)) = true ∧ True) (by kernel_rfl) (fun _ => SVles.refl _) (fun _ => s30 (l) (path) (kind) (day)) (by kernel_rfl) ?_
    refine good_run 7 (obs := []) (by kernel_rfl) trivial ?_
    refine good_call (c := (decide ((firstP l reader path kind day).fst = (firstP l reader path kind day).fst) && (firstP l reader path kind day).snd == (firstP l reader path kind day).snd && decide (kindsR l reader path day = kindsR l reader path day)) = true ∧ True) (by kernel_rfl) (fun _ => SVles.refl _) (fun _ => s34 (l) (path) (kind) (day)) (by kernel_rfl) ?_
    refine good_call (c := (decide ((firstP l reader path kind day).fst = (firstP l reader path kind day).fst) && (firstP l reader path kind day).snd == (firstP l reader path kind day).snd && decide (kindsR l reader path day = kindsR l reader path day)) = true ∧ True) (by kernel_rfl) (fun _ => SVles.refl _) (fun _ => s33 (readersL l path kind day) (readersL l path kind day)) (by kernel_rfl) ?_
    refine good_run 5 (obs := []) (by kernel_rfl) trivial ?_
    refine good_fin [(decide ((firstP l reader path kind day).fst = (firstP l reader path kind day).fst) && (firstP l reader path kind day).snd == (firstP l reader path kind day).snd && decide (kindsR l reader path day = kindsR l reader path day) && decide (readersL l path kind day = readersL l path kind day)) = true] (by kernel_rfl) ⟨?_, trivial⟩
    simp
theorem s9 (l : List Permit) (reader : Int) (path : List Int) (kind day : Int) : Spec Try.prog 9 [permits l, asked reader path kind day] (.bool true) := by
  refine spec_of_good mixed Try.func9 F9_ok (by kernel_rfl) ?_
  have hm := readers_mem l path kind day
  have ha := readers_asc l path kind day
  have hrl := readers_len l path kind day
  refine good_run 9 (obs := []) (by kernel_rfl) trivial ?_
  refine good_call (c := True) (by kernel_rfl) (fun _ => SVles.refl _) (fun _ => s11) (by kernel_rfl) ?_
  refine good_run 3 (obs := []) (by kernel_rfl) trivial ?_
  refine good_cond false (by kernel_rfl) (fun h => nomatch h) (fun _ => ?_)
  refine good_run 7 (obs := []) (by kernel_rfl) trivial ?_
  refine good_call (c := True) (by kernel_rfl) (fun _ => SVles.refl _) (fun _ => s12 (l) (path)) (by kernel_rfl) ?_
  refine good_run 3 (obs := []) (by kernel_rfl) trivial ?_
  refine good_cond (!(decide (List.length l ≤ (20 : Nat)) && decide (List.length path ≤ (20 : Nat)))) (by kernel_rfl) (fun hc1 => ?_) (fun hc1 => ?_)
  · refine good_run 7 (obs := []) (by kernel_rfl) trivial ?_
    refine good_fin [true = true] (by kernel_rfl) ⟨rfl, trivial⟩
  · have hl : l.length ≤ 20 ∧ path.length ≤ 20 := by simpa using hc1
    refine good_run 4 (obs := []) (by kernel_rfl) trivial ?_
    refine good_call (c := True) (by kernel_rfl) (fun _ => SVles.refl _) (fun _ => SpecOwn.spec (s17 (l) (by (first | omega | assumption | exact ⟨rfl, trivial⟩ | simp only [AllP, inK_iff, roomOK_iff, decide_eq_true_eq, Bool.and_eq_true, Bool.or_eq_true, Bool.not_eq_true', decide_eq_false_iff_not, and_true, true_and]; (first | omega | (and_intros <;> intros <;> (try and_intros) <;> first | omega | assumption | exact trivial)))))) (by kernel_rfl) ?_
    refine good_run 1 (obs := [True → (0 : Nat) + (4 : Nat) ≤ (4 : Nat)]) (by kernel_rfl) (by (first | omega | assumption | exact ⟨rfl, trivial⟩ | simp only [AllP, inK_iff, roomOK_iff, decide_eq_true_eq, Bool.and_eq_true, Bool.or_eq_true, Bool.not_eq_true', decide_eq_false_iff_not, and_true, true_and]; (first | omega | (and_intros <;> intros <;> (try and_intros) <;> first | omega | assumption | exact trivial)))) ?_
    refine good_call (c := True) (by kernel_rfl) (fun _ => SVles.refl _) (fun _ => SpecOwn.spec (s14 (reader) (path) (kind) (day) (by (first | omega | assumption | exact ⟨rfl, trivial⟩ | simp only [AllP, inK_iff, roomOK_iff, decide_eq_true_eq, Bool.and_eq_true, Bool.or_eq_true, Bool.not_eq_true', decide_eq_false_iff_not, and_true, true_and]; (first | omega | (and_intros <;> intros <;> (try and_intros) <;> first | omega | assumption | exact trivial)))))) (by kernel_rfl) ?_
    refine good_run 4 (obs := []) (by kernel_rfl) trivial ?_
    refine good_call (c := True) (by kernel_rfl) (fun _ => SVles.refl _) (fun _ => s30 (l) (path) (kind) (day)) (by kernel_rfl) ?_
    refine good_run 12 (obs := []) (by kernel_rfl) trivial ?_
    generalize readersL l path kind day = R at *
    refine good_loopJ (fun k : Nat => ⟨[(32, .sv (.int .i64 (k))), (31, LV.sv (SV.int IntKind.i64 (↑(List.length R) : Int))), (30, LV.sv (SV.lst (1 : Nat) (List.length R) fun i => [SV.int IntKind.i64 (List.getD R i (0 : Int))])), (5, LV.sv (SV.lst (1 : Nat) (List.length R) fun i => [SV.int IntKind.i64 (List.getD R i (0 : Int))])), (3, LV.ptr (0 : Nat) (0 : Nat)), (0, LV.sv (SV.lst (6 : Nat) (List.length l) fun i => Permit.cells (List.getD l i default)))], [Blk.cells (25 : Nat) true [SV.int IntKind.i64 reader, SV.lst (1 : Nat) (List.length path) fun i => [SV.int IntKind.i64 (List.getD path i (0 : Int))], SV.int IntKind.i64 kind, SV.int IntKind.i64 day]]⟩) (fun k => k ≤ R.length) (fun k => R.length - k) (0) [reader = reader, List.length path = List.length path ∧ ∀ (i : Nat), i < List.length path → (fun i => [SV.int IntKind.i64 (List.getD path i (0 : Int))]) i = (fun i => [SV.int IntKind.i64 (List.getD path i (0 : Int))]) i, kind = kind, day = day, (0 : Int) = (0 : Int), (↑(List.length R) : Int) = (↑(List.length R) : Int), List.length R = List.length R ∧ ∀ (i : Nat), i < List.length R → (fun i => [SV.int IntKind.i64 (List.getD R i (0 : Int))]) i = (fun i => [SV.int IntKind.i64 (List.getD R i (0 : Int))]) i, List.length R = List.length R ∧ ∀ (i : Nat), i < List.length R → (fun i => [SV.int IntKind.i64 (List.getD R i (0 : Int))]) i = (fun i => [SV.int IntKind.i64 (List.getD R i (0 : Int))]) i, List.length l = List.length l ∧ ∀ (i : Nat), i < List.length l → (fun i => Permit.cells (List.getD l i default)) i = (fun i => Permit.cells (List.getD l i default)) i] (by kernel_rfl) (by kernel_rfl) ⟨rfl, ⟨rfl, fun _ _ => rfl⟩, rfl, rfl, rfl, rfl, ⟨rfl, fun _ _ => rfl⟩, ⟨rfl, fun _ _ => rfl⟩, ⟨rfl, fun _ _ => rfl⟩, trivial⟩ (by omega) ?_
    intro k hk
    refine good_run 6 (obs := []) (by kernel_rfl) trivial ?_
    refine good_cond (decide ((↑k : Int) < (↑(List.length R) : Int))) (by kernel_rfl) (fun hc2 => ?_) (fun hc2 => ?_)
    · have hlt : k < R.length := by simp only [decide_eq_true_eq] at hc2; omega
      have hz : 0 < k → ((k : Int) - 1).toNat = k - 1 := fun h => by omega
      refine good_run 27 (obs := [(1 : Nat) = (1 : Nat) ∧ (0 : Int) ≤ (↑k : Int) ∧ (↑k : Int) < (↑(List.length R) : Int), decide ((0 : Int) < (↑k : Int)) = true ∧ True → InK IntKind.i64 ((↑k : Int) - (1 : Int)), decide ((0 : Int) < (↑k : Int)) = true ∧ True → (1 : Nat) = (1 : Nat) ∧ (0 : Int) ≤ (↑k : Int) - (1 : Int) ∧ (↑k : Int) - (1 : Int) < (↑(List.length R) : Int)]) (by kernel_rfl) (by (first | omega | assumption | exact ⟨rfl, trivial⟩ | simp only [AllP, inK_iff, roomOK_iff, decide_eq_true_eq, Bool.and_eq_true, Bool.or_eq_true, Bool.not_eq_true', decide_eq_false_iff_not, and_true, true_and]; (first | omega | (and_intros <;> intros <;> (try and_intros) <;> first | omega | assumption | exact trivial)))) ?_
      refine good_cond (decide ((0 : Int) < (↑k : Int)) && decide (List.getD R k (0 : Int) ≤ List.getD R (Int.toNat ((↑k : Int) - (1 : Int))) (0 : Int))) (by kernel_rfl) (fun hc3 => ?_) (fun hc3 => ?_)
      · exfalso
        simp only [gt_iff_lt, ge_iff_le, Bool.and_eq_true, decide_eq_true_eq] at hc3
        have h0 : 0 < k := by omega
        rw [hz h0] at hc3
        have := sorted_lt ha (show k - 1 < k by omega) hlt
        omega
      · refine good_run 7 (obs := [InK IntKind.i64 ((↑k : Int) + (1 : Int))]) (by kernel_rfl) (by (first | omega | assumption | exact ⟨rfl, trivial⟩ | simp only [AllP, inK_iff, roomOK_iff, decide_eq_true_eq, Bool.and_eq_true, Bool.or_eq_true, Bool.not_eq_true', decide_eq_false_iff_not, and_true, true_and]; (first | omega | (and_intros <;> intros <;> (try and_intros) <;> first | omega | assumption | exact trivial)))) ?_
        refine good_backJ (k + 1) [reader = reader, List.length path = List.length path ∧ ∀ (i : Nat), i < List.length path → (fun i => [SV.int IntKind.i64 (List.getD path i (0 : Int))]) i = (fun i => [SV.int IntKind.i64 (List.getD path i (0 : Int))]) i, kind = kind, day = day, (↑k : Int) + (1 : Int) = (↑(k + (1 : Nat)) : Int), (↑(List.length R) : Int) = (↑(List.length R) : Int), List.length R = List.length R ∧ ∀ (i : Nat), i < List.length R → (fun i => [SV.int IntKind.i64 (List.getD R i (0 : Int))]) i = (fun i => [SV.int IntKind.i64 (List.getD R i (0 : Int))]) i, List.length R = List.length R ∧ ∀ (i : Nat), i < List.length R → (fun i => [SV.int IntKind.i64 (List.getD R i (0 : Int))]) i = (fun i => [SV.int IntKind.i64 (List.getD R i (0 : Int))]) i, List.length l = List.length l ∧ ∀ (i : Nat), i < List.length l → (fun i => Permit.cells (List.getD l i default)) i = (fun i => Permit.cells (List.getD l i default)) i] (by kernel_rfl) (by kernel_rfl) ⟨rfl, ⟨rfl, fun _ _ => rfl⟩, rfl, rfl, (by omega), rfl, ⟨rfl, fun _ _ => rfl⟩, ⟨rfl, fun _ _ => rfl⟩, ⟨rfl, fun _ _ => rfl⟩, trivial⟩ (by omega) (by show _ < _; omega)
    · have hin : inB R reader = (firstP l reader path kind day).2 := hm reader
      refine good_run 2 (obs := []) (by kernel_rfl) trivial ?_
      refine good_leaveJ (by kernel_rfl) ?_
      refine good_run 4 (obs := []) (by kernel_rfl) trivial ?_
      refine good_call (c := True) (by kernel_rfl) (fun _ => SVles.refl _) (fun _ => SpecOwn.spec (s17 (l) (by (first | omega | assumption | exact ⟨rfl, trivial⟩ | simp only [AllP, inK_iff, roomOK_iff, decide_eq_true_eq, Bool.and_eq_true, Bool.or_eq_true, Bool.not_eq_true', decide_eq_false_iff_not, and_true, true_and]; (first | omega | (and_intros <;> intros <;> (try and_intros) <;> first | omega | assumption | exact trivial)))))) (by kernel_rfl) ?_
      refine good_run 3 (obs := [True → (0 : Nat) + (4 : Nat) ≤ (4 : Nat)]) (by kernel_rfl) (by (first | omega | assumption | exact ⟨rfl, trivial⟩ | simp only [AllP, inK_iff, roomOK_iff, decide_eq_true_eq, Bool.and_eq_true, Bool.or_eq_true, Bool.not_eq_true', decide_eq_false_iff_not, and_true, true_and]; (first | omega | (and_intros <;> intros <;> (try and_intros) <;> first | omega | assumption | exact trivial)))) ?_
      refine good_call (c := True) (by kernel_rfl) (fun _ => SVles.refl _) (fun _ => SpecOwn.spec (s14 (reader) (path) (kind) (day) (by (first | omega | assumption | exact ⟨rfl, trivial⟩ | simp only [AllP, inK_iff, roomOK_iff, decide_eq_true_eq, Bool.and_eq_true, Bool.or_eq_true, Bool.not_eq_true', decide_eq_false_iff_not, and_true, true_and]; (first | omega | (and_intros <;> intros <;> (try and_intros) <;> first | omega | assumption | exact trivial)))))) (by kernel_rfl) ?_
      refine good_run 4 (obs := []) (by kernel_rfl) trivial ?_
      refine good_call (c := True) (by kernel_rfl) (fun _ => SVles.refl _) (fun _ => s24 (l) (reader) (path) (kind) (day)) (by kernel_rfl) ?_
      refine good_run 13 (obs := []) (by kernel_rfl) trivial ?_
      refine good_call (c := True) (by kernel_rfl) (fun _ => SVles.refl _) (fun _ => s29 (R) (reader)) (by kernel_rfl) ?_
      refine good_run 4 (obs := []) (by kernel_rfl) trivial ?_
      refine good_cond (inB R reader != (firstP l reader path kind day).snd) (by kernel_rfl) (fun hc3 => ?_) (fun hc3 => ?_)
      · exfalso
        rw [hin] at hc3
        simp at hc3
      · refine good_run 10 (obs := []) (by kernel_rfl) trivial ?_
        refine good_loopJ (fun j : Nat => ⟨[(71, .sv (.int .i64 (j))), (70, LV.sv (SV.int IntKind.i64 (↑(List.length R) : Int))), (69, LV.sv (SV.lst (1 : Nat) (List.length R) fun i => [SV.int IntKind.i64 (List.getD R i (0 : Int))])), (3, LV.ptr (0 : Nat) (0 : Nat)), (0, LV.sv (SV.lst (6 : Nat) (List.length l) fun i => Permit.cells (List.getD l i default)))], [Blk.cells (25 : Nat) true [SV.int IntKind.i64 reader, SV.lst (1 : Nat) (List.length path) fun i => [SV.int IntKind.i64 (List.getD path i (0 : Int))], SV.int IntKind.i64 kind, SV.int IntKind.i64 day]]⟩) (fun j => j ≤ R.length) (fun j => R.length - j) (0) [reader = reader, List.length path = List.length path ∧ ∀ (i : Nat), i < List.length path → (fun i => [SV.int IntKind.i64 (List.getD path i (0 : Int))]) i = (fun i => [SV.int IntKind.i64 (List.getD path i (0 : Int))]) i, kind = kind, day = day, (0 : Int) = (0 : Int), (↑(List.length R) : Int) = (↑(List.length R) : Int), List.length R = List.length R ∧ ∀ (i : Nat), i < List.length R → (fun i => [SV.int IntKind.i64 (List.getD R i (0 : Int))]) i = (fun i => [SV.int IntKind.i64 (List.getD R i (0 : Int))]) i, List.length l = List.length l ∧ ∀ (i : Nat), i < List.length l → (fun i => Permit.cells (List.getD l i default)) i = (fun i => Permit.cells (List.getD l i default)) i] (by kernel_rfl) (by kernel_rfl) ⟨rfl, ⟨rfl, fun _ _ => rfl⟩, rfl, rfl, rfl, rfl, ⟨rfl, fun _ _ => rfl⟩, ⟨rfl, fun _ _ => rfl⟩, trivial⟩ (by omega) ?_
        intro j hj
        refine good_run 6 (obs := []) (by kernel_rfl) trivial ?_
        refine good_cond (decide ((↑j : Int) < (↑(List.length R) : Int))) (by kernel_rfl) (fun hc4 => ?_) (fun hc4 => ?_)
        · have hlt : j < R.length := by simp only [decide_eq_true_eq] at hc4; omega
          have hf : (firstP l (R.getD j 0) path kind day).2 = true := by rw [← hm]; exact decide_eq_true (Go.Sx.getD_mem R 0 j hlt)
          refine good_run 13 (obs := [(1 : Nat) = (1 : Nat) ∧ (0 : Int) ≤ (↑j : Int) ∧ (↑j : Int) < (↑(List.length R) : Int)]) (by kernel_rfl) (by (first | omega | assumption | exact ⟨rfl, trivial⟩ | simp only [AllP, inK_iff, roomOK_iff, decide_eq_true_eq, Bool.and_eq_true, Bool.or_eq_true, Bool.not_eq_true', decide_eq_false_iff_not, and_true, true_and]; (first | omega | (and_intros <;> intros <;> (try and_intros) <;> first | omega | assumption | exact trivial)))) ?_
          refine good_call (c := True) (by kernel_rfl) (fun _ => SVles.refl _) (fun _ => SpecOwn.spec (s17 (l) (by (first | omega | assumption | exact ⟨rfl, trivial⟩ | simp only [AllP, inK_iff, roomOK_iff, decide_eq_true_eq, Bool.and_eq_true, Bool.or_eq_true, Bool.not_eq_true', decide_eq_false_iff_not, and_true, true_and]; (first | omega | (and_intros <;> intros <;> (try and_intros) <;> first | omega | assumption | exact trivial)))))) (by kernel_rfl) ?_
          refine good_run 2 (obs := [True → (0 : Nat) + (4 : Nat) ≤ (4 : Nat)]) (by kernel_rfl) (by (first | omega | assumption | exact ⟨rfl, trivial⟩ | simp only [AllP, inK_iff, roomOK_iff, decide_eq_true_eq, Bool.and_eq_true, Bool.or_eq_true, Bool.not_eq_true', decide_eq_false_iff_not, and_true, true_and]; (first | omega | (and_intros <;> intros <;> (try and_intros) <;> first | omega | assumption | exact trivial)))) ?_
          refine good_call (c := True) (by kernel_rfl) (fun _ => SVles.refl _) (fun _ => SpecOwn.spec (s14 (reader) (path) (kind) (day) (by (first | omega | assumption | exact ⟨rfl, trivial⟩ | simp only [AllP, inK_iff, roomOK_iff, decide_eq_true_eq, Bool.and_eq_true, Bool.or_eq_true, Bool.not_eq_true', decide_eq_false_iff_not, and_true, true_and]; (first | omega | (and_intros <;> intros <;> (try and_intros) <;> first | omega | assumption | exact trivial)))))) (by kernel_rfl) ?_
          refine good_run 4 (obs := []) (by kernel_rfl) trivial ?_
          refine good_call (c := True) (by kernel_rfl) (fun _ => SVles.refl _) (fun _ => s24 (l) (List.getD R j (0 : Int)) (path) (kind) (day)) (by kernel_rfl) ?_
          refine good_run 13 (obs := []) (by kernel_rfl) trivial ?_
          refine good_cond (!(firstP l (List.getD R j (0 : Int)) path kind day).snd) (by kernel_rfl) (fun hc5 => ?_) (fun hc5 => ?_)
          · exfalso
            rw [hf] at hc5
            cases hc5
          · refine good_run 7 (obs := [InK IntKind.i64 ((↑j : Int) + (1 : Int))]) (by kernel_rfl) (by (first | omega | assumption | exact ⟨rfl, trivial⟩ | simp only [AllP, inK_iff, roomOK_iff, decide_eq_true_eq, Bool.and_eq_true, Bool.or_eq_true, Bool.not_eq_true', decide_eq_false_iff_not, and_true, true_and]; (first | omega | (and_intros <;> intros <;> (try and_intros) <;> first | omega | assumption | exact trivial)))) ?_
            refine good_backJ (j + 1) [reader = reader, List.length path = List.length path ∧ ∀ (i : Nat), i < List.length path → (fun i => [SV.int IntKind.i64 (List.getD path i (0 : Int))]) i = (fun i => [SV.int IntKind.i64 (List.getD path i (0 : Int))]) i, kind = kind, day = day, (↑j : Int) + (1 : Int) = (↑(j + (1 : Nat)) : Int), (↑(List.length R) : Int) = (↑(List.length R) : Int), List.length R = List.length R ∧ ∀ (i : Nat), i < List.length R → (fun i => [SV.int IntKind.i64 (List.getD R i (0 : Int))]) i = (fun i => [SV.int IntKind.i64 (List.getD R i (0 : Int))]) i, List.length l = List.length l ∧ ∀ (i : Nat), i < List.length l → (fun i => Permit.cells (List.getD l i default)) i = (fun i => Permit.cells (List.getD l i default)) i] (by kernel_rfl) (by kernel_rfl) ⟨rfl, ⟨rfl, fun _ _ => rfl⟩, rfl, rfl, (by omega), rfl, ⟨rfl, fun _ _ => rfl⟩, ⟨rfl, fun _ _ => rfl⟩, trivial⟩ (by omega) (by show _ < _; omega)
        · refine good_run 2 (obs := []) (by kernel_rfl) trivial ?_
          refine good_leaveJ (by kernel_rfl) ?_
          refine good_run 7 (obs := []) (by kernel_rfl) trivial ?_
          refine good_fin [true = true] (by kernel_rfl) ⟨rfl, trivial⟩
end Go.Sx.T
