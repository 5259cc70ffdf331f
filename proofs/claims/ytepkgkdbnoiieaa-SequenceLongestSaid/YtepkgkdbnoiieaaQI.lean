/- Contracts of functions of the program, each proved by running its code symbolically (QI). -/
import Derived.Test.YtepkgkdbnoiieaaQB
namespace Go.Sx.T
open Go Go.Proofs Go.Sx
set_option maxRecDepth 100000
set_option maxHeartbeats 4000000
set_option linter.unusedVariables false
set_option linter.unusedSimpArgs false
/-- The first elements without those that are as the one before. -/
def cmpP (l : List Int) : Nat → List Int
  | 0 => []
  | m + 1 => if m = 0 ∨ l.getD m 0 ≠ l.getD (m - 1) 0 then cmpP l m ++ [l.getD m 0] else cmpP l m
def compactI (l : List Int) : List Int := cmpP l l.length
theorem cmpP_le (l : List Int) : ∀ m, (cmpP l m).length ≤ m
  | 0 => Nat.le_refl _
  | m + 1 => by
    have := cmpP_le l m
    rw [cmpP]
    split
    · rw [List.length_append, List.length_singleton]; omega
    · omega
theorem cmpP_take (l : List Int) : ∀ m, m ≤ l.length → (∀ j, 0 < j → j < m → l.getD j 0 ≠ l.getD (j - 1) 0) → cmpP l m = l.take m
  | 0, _, _ => by simp [cmpP]
  | m + 1, hm, h => by
    rw [cmpP, if_pos, cmpP_take l m (by omega) (fun j h0 hj => h j h0 (by omega)), List.take_succ_eq_append_getElem (by omega), getD_of_lt l m (by omega)]
    by_cases e : m = 0
    · exact .inl e
    · exact .inr (h m (by omega) (by omega))
theorem s45 (l : List Int) (hl : l.length ≤ 100000) : SpecTake Try.prog 45 [] 3 1 l.length (fun i => [.int .i64 (l.getD i 0)]) [] (compactI l).length (fun i => [.int .i64 ((compactI l).getD i 0)]) := by
  refine specTake_of_good mixed Try.func45 F45_ok (by kernel_rfl) ?_
  refine good_run 13 (obs := []) (by kernel_rfl) trivial ?_
  refine good_cond (decide ((↑(List.length l) : Int) < (2 : Int))) (by kernel_rfl) (fun hc1 => ?_) (fun hc1 => ?_)
  · have e : compactI l = l := by
      have h2 : l.length < 2 := by simp only [decide_eq_true_eq] at hc1; omega
      rw [compactI, cmpP_take l l.length (Nat.le_refl _) (fun j h0 hj => by omega), List.take_length]
    rw [e]
    refine good_run 8 (obs := []) (by kernel_rfl) trivial ?_
    refine good_finTake [List.length l = List.length l ∧ ∀ (j : Nat), j < List.length l → (fun i => [SV.int IntKind.i64 (List.getD l i (0 : Int))]) j = (fun i => [SV.int IntKind.i64 (List.getD l i (0 : Int))]) j] (by kernel_rfl) ⟨⟨rfl, fun _ _ => rfl⟩, trivial⟩
    all_goals skip
  · refine good_run 8 (obs := []) (by kernel_rfl) trivial ?_
    refine good_loopJ (fun i : Nat => ⟨[(3, .sv (.int .i64 (i))), (0, LV.own (0 : Nat))], [Blk.row (3 : Nat) (1 : Nat) (List.length l) true fun i => [SV.int IntKind.i64 (List.getD l i (0 : Int))]]⟩) (fun i => 1 ≤ i ∧ i ≤ l.length ∧ ∀ j, 0 < j → j < i → l.getD j 0 ≠ l.getD (j - 1) 0) (fun i => l.length - i) (1) [List.length l = List.length l ∧ ∀ (i : Nat), i < List.length l → (fun i => [SV.int IntKind.i64 (List.getD l i (0 : Int))]) i = (fun i => [SV.int IntKind.i64 (List.getD l i (0 : Int))]) i, (1 : Int) = (1 : Int)] (by kernel_rfl) (by kernel_rfl) ⟨⟨rfl, fun _ _ => rfl⟩, rfl, trivial⟩ ?_ ?_
    · exact ⟨Nat.le_refl _, by simp at hc1; omega, fun j h0 h1 => by omega⟩
    intro i hi
    obtain ⟨hi1, hi2, hi3⟩ := hi
    have hz : ((i : Int) - 1).toNat = i - 1 := by omega
    refine good_run 9 (obs := []) (by kernel_rfl) trivial ?_
    refine good_cond (decide ((↑i : Int) < (↑(List.length l) : Int))) (by kernel_rfl) (fun hc2 => ?_) (fun hc2 => ?_)
    · have hlt : i < l.length := by simp only [decide_eq_true_eq] at hc2; omega
      refine good_run 17 (obs := [True → (1 : Nat) = (1 : Nat) ∧ (0 : Int) ≤ (↑i : Int) ∧ (↑i : Int) < (↑(List.length l) : Int), True → InK IntKind.i64 ((↑i : Int) - (1 : Int)), True → (1 : Nat) = (1 : Nat) ∧ (0 : Int) ≤ (↑i : Int) - (1 : Int) ∧ (↑i : Int) - (1 : Int) < (↑(List.length l) : Int)]) (by kernel_rfl) (by (first | omega | assumption | exact ⟨rfl, trivial⟩ | simp only [AllP, inK_iff, roomOK_iff, decide_eq_true_eq, Bool.and_eq_true, Bool.or_eq_true, Bool.not_eq_true', decide_eq_false_iff_not, and_true, true_and]; (first | omega | (and_intros <;> intros <;> (try and_intros) <;> first | omega | assumption | exact trivial)))) ?_
      refine good_cond (decide (List.getD l i (0 : Int) = List.getD l (Int.toNat ((↑i : Int) - (1 : Int))) (0 : Int))) (by kernel_rfl) (fun hc3 => ?_) (fun hc3 => ?_)
      · have hdup : l.getD i 0 = l.getD (i - 1) 0 := by rw [hz] at hc3; simpa using hc3
        have hci := cmpP_take l i hi2 hi3
        have hcl : (cmpP l i).length = i := by rw [hci, List.length_take]; omega
        have hc1' : cmpP l (i + 1) = cmpP l i := by rw [cmpP, if_neg]; rintro (h | h); omega; exact h hdup
        have hcl1 : (cmpP l (i + 1)).length = i := by rw [hc1', hcl]
        refine good_run 15 (obs := [(1 : Nat) = (1 : Nat) ∧ (0 : Int) ≤ (↑i : Int) ∧ (↑i : Int) ≤ (↑(List.length l - (0 : Nat)) : Int) ∧ (0 : Nat) + (List.length l - (0 : Nat)) ≤ List.length l]) (by kernel_rfl) (by (first | omega | assumption | exact ⟨rfl, trivial⟩ | simp only [AllP, inK_iff, roomOK_iff, decide_eq_true_eq, Bool.and_eq_true, Bool.or_eq_true, Bool.not_eq_true', decide_eq_false_iff_not, and_true, true_and]; (first | omega | (and_intros <;> intros <;> (try and_intros) <;> first | omega | assumption | exact trivial)))) ?_
        refine good_loopJ (fun q : Nat × (Nat → Int) => ⟨[(3, .sv (.int .i64 (((cmpP l (i + q.1)).length)))), (5, .sv (.int .i64 (q.1))), (4, LV.part (0 : Nat) ((0 : Nat) + i) ((0 : Nat) + (List.length l - (0 : Nat)))), (0, LV.own (0 : Nat))], [.row 3 1 l.length true fun j => [.int .i64 (q.2 j)]]⟩) (fun q => 1 ≤ q.1 ∧ i + q.1 ≤ l.length ∧ (cmpP l (i + q.1)).length < i + q.1 ∧ (∀ j, j < (cmpP l (i + q.1)).length → q.2 j = (cmpP l (i + q.1)).getD j 0) ∧ ∀ j, i + q.1 ≤ j + 1 → q.2 j = l.getD j 0) (fun q => l.length - q.1) ((1, fun j => l.getD j 0)) [List.length l = List.length l ∧ ∀ (i : Nat), i < List.length l → (fun i => [SV.int IntKind.i64 (List.getD l i (0 : Int))]) i = (fun j => [SV.int IntKind.i64 (((1 : Nat), fun j => List.getD l j (0 : Int)).snd j)]) i, (↑i : Int) = (↑(List.length (cmpP l (i + (1 : Nat)))) : Int), (1 : Int) = (1 : Int), (0 : Nat) + i = (0 : Nat) + i ∧ (0 : Nat) + (List.length l - (0 : Nat)) = (0 : Nat) + (List.length l - (0 : Nat))] (by kernel_rfl) (by kernel_rfl) ⟨⟨rfl, fun _ _ => rfl⟩, (by omega), rfl, ⟨rfl, rfl⟩, trivial⟩ ?_ ?_
        · refine ⟨Nat.le_refl _, by show i + 1 ≤ _; omega, by show (cmpP l (i + 1)).length < i + 1; omega, fun j hj => ?_, fun _ _ => rfl⟩
          simp only at hj ⊢
          rw [hcl1] at hj
          rw [hc1', hci, getD_take _ _ _ hj]
        rintro ⟨k, G⟩ ⟨hk1, hk2, hk3, hG1, hG2⟩
        simp only at hk1 hk2 hk3 hG1 hG2
        have hz2 : ((k : Int) - 1).toNat = k - 1 := by omega
        refine good_run 9 (obs := []) (by kernel_rfl) trivial ?_
        refine good_cond (decide ((↑k : Int) < (↑((0 : Nat) + (List.length l - (0 : Nat)) - ((0 : Nat) + i)) : Int))) (by kernel_rfl) (fun hc4 => ?_) (fun hc4 => ?_)
        · have hlt2 : i + k < l.length := by simp only [decide_eq_true_eq] at hc4; omega
          have hg1 : G (i + k) = l.getD (i + k) 0 := hG2 _ (by omega)
          have hg2 : G (i + (k - 1)) = l.getD (i + k - 1) 0 := by rw [hG2 _ (by omega), show i + (k - 1) = i + k - 1 by omega]
          refine good_run 17 (obs := [True → (1 : Nat) = (1 : Nat) ∧ (0 : Int) ≤ (↑k : Int) ∧ (0 : Nat) + i + k < (0 : Nat) + (List.length l - (0 : Nat)), True → InK IntKind.i64 ((↑k : Int) - (1 : Int)), True → (1 : Nat) = (1 : Nat) ∧ (0 : Int) ≤ (↑k : Int) - (1 : Int) ∧ (0 : Nat) + i + Int.toNat ((↑k : Int) - (1 : Int)) < (0 : Nat) + (List.length l - (0 : Nat))]) (by kernel_rfl) (by (first | omega | assumption | exact ⟨rfl, trivial⟩ | simp only [AllP, inK_iff, roomOK_iff, decide_eq_true_eq, Bool.and_eq_true, Bool.or_eq_true, Bool.not_eq_true', decide_eq_false_iff_not, and_true, true_and]; (first | omega | (and_intros <;> intros <;> (try and_intros) <;> first | omega | assumption | exact trivial)))) ?_
          refine good_cond (!decide (G ((0 : Nat) + i + k) = G ((0 : Nat) + i + Int.toNat ((↑k : Int) - (1 : Int))))) (by kernel_rfl) (fun hc5 => ?_) (fun hc5 => ?_)
          · have h5 : l.getD (i + k) 0 ≠ l.getD (i + k - 1) 0 := by
              rw [Nat.zero_add, hz2, hg1, hg2] at hc5
              simpa using hc5
            have hks : cmpP l (i + (k + 1)) = cmpP l (i + k) ++ [l.getD (i + k) 0] := by rw [← Nat.add_assoc, cmpP, if_pos (.inr h5)]
            have hkl : (cmpP l (i + (k + 1))).length = (cmpP l (i + k)).length + 1 := by rw [hks, List.length_append]; rfl
            refine good_run 25 (obs := [(1 : Nat) = (1 : Nat) ∧ (0 : Int) ≤ (↑k : Int) ∧ (0 : Nat) + i + k < (0 : Nat) + (List.length l - (0 : Nat)), (1 : Nat) = (1 : Nat) ∧ (0 : Int) ≤ (↑(List.length (cmpP l (i + k))) : Int) ∧ (↑(List.length (cmpP l (i + k))) : Int) < (↑(List.length l) : Int), (1 : Nat) = (1 : Nat) ∧ (0 : Nat) + (1 : Nat) ≤ (1 : Nat), InK IntKind.i64 ((↑(List.length (cmpP l (i + k))) : Int) + (1 : Int)), InK IntKind.i64 ((↑k : Int) + (1 : Int))]) (by kernel_rfl) (by (first | omega | assumption | exact ⟨rfl, trivial⟩ | simp only [AllP, inK_iff, roomOK_iff, decide_eq_true_eq, Bool.and_eq_true, Bool.or_eq_true, Bool.not_eq_true', decide_eq_false_iff_not, and_true, true_and]; (first | omega | (and_intros <;> intros <;> (try and_intros) <;> first | omega | assumption | exact trivial)))) ?_
            refine good_backJ ((k + 1, fun j => if j = (cmpP l (i + k)).length then G (0 + i + k) else G j)) [List.length l = List.length l ∧ ∀ (i_1 : Nat), i_1 < List.length l → (fun j => if j = List.length (cmpP l (i + k)) then lay ((fun j => [SV.int IntKind.i64 ((k, G).snd j)]) (List.length (cmpP l (i + k)))) (0 : Nat) [SV.int IntKind.i64 (G ((0 : Nat) + i + k))] else (fun j => [SV.int IntKind.i64 ((k, G).snd j)]) j) i_1 = (fun j => [SV.int IntKind.i64 ((k + (1 : Nat), fun j => if j = List.length (cmpP l (i + k)) then G ((0 : Nat) + i + k) else G j).snd j)]) i_1, (↑(List.length (cmpP l (i + k))) : Int) + (1 : Int) = (↑(List.length (cmpP l (i + (k + (1 : Nat))))) : Int), (↑k : Int) + (1 : Int) = (↑(k + (1 : Nat)) : Int), (0 : Nat) + i = (0 : Nat) + i ∧ (0 : Nat) + (List.length l - (0 : Nat)) = (0 : Nat) + (List.length l - (0 : Nat))] (by kernel_rfl) (by kernel_rfl) ⟨?_, (by omega), (by omega), ⟨rfl, rfl⟩, trivial⟩ ?_ (by show _ < _; omega)
            · refine ⟨rfl, fun j hj => ?_⟩
              simp only
              by_cases hj' : j = (cmpP l (i + k)).length
              · rw [if_pos hj', if_pos hj']; rfl
              · rw [if_neg hj', if_neg hj']
            · refine ⟨by show 1 ≤ k + 1; omega, by show i + (k + 1) ≤ _; omega, by show (cmpP l (i + (k + 1))).length < i + (k + 1); omega, fun j hj => ?_, fun j hj => ?_⟩
              · simp only at hj ⊢
                rw [hks, getD_append]
                by_cases hj' : j = (cmpP l (i + k)).length
                · rw [if_pos hj', if_neg (by omega), hj', Nat.sub_self, Nat.zero_add, hg1]; rfl
                · rw [if_neg hj', if_pos (by omega)]; exact hG1 j (by omega)
              · simp only at hj ⊢
                rw [if_neg (by omega)]; exact hG2 j (by omega)
          · have h5 : l.getD (i + k) 0 = l.getD (i + k - 1) 0 := by
              rw [Nat.zero_add, hz2, hg1, hg2] at hc5
              simpa using hc5
            have hks : cmpP l (i + (k + 1)) = cmpP l (i + k) := by rw [← Nat.add_assoc, cmpP, if_neg]; rintro (h | h); omega; exact h h5
            refine good_run 8 (obs := [InK IntKind.i64 ((↑k : Int) + (1 : Int))]) (by kernel_rfl) (by (first | omega | assumption | exact ⟨rfl, trivial⟩ | simp only [AllP, inK_iff, roomOK_iff, decide_eq_true_eq, Bool.and_eq_true, Bool.or_eq_true, Bool.not_eq_true', decide_eq_false_iff_not, and_true, true_and]; (first | omega | (and_intros <;> intros <;> (try and_intros) <;> first | omega | assumption | exact trivial)))) ?_
            refine good_backJ ((k + 1, G)) [List.length l = List.length l ∧ ∀ (i : Nat), i < List.length l → (fun j => [SV.int IntKind.i64 ((k, G).snd j)]) i = (fun j => [SV.int IntKind.i64 ((k + (1 : Nat), G).snd j)]) i, (↑(List.length (cmpP l (i + k))) : Int) = (↑(List.length (cmpP l (i + (k + (1 : Nat))))) : Int), (↑k : Int) + (1 : Int) = (↑(k + (1 : Nat)) : Int), (0 : Nat) + i = (0 : Nat) + i ∧ (0 : Nat) + (List.length l - (0 : Nat)) = (0 : Nat) + (List.length l - (0 : Nat))] (by kernel_rfl) (by kernel_rfl) ⟨⟨rfl, fun _ _ => rfl⟩, ?_, (by omega), ⟨rfl, rfl⟩, trivial⟩ ?_ (by show _ < _; omega)
            · rw [hks]
            · refine ⟨by show 1 ≤ k + 1; omega, by show i + (k + 1) ≤ _; omega, by show (cmpP l (i + (k + 1))).length < i + (k + 1); rw [hks]; omega, fun j hj => ?_, fun j hj => hG2 j (by simp only at hj; omega)⟩
              simp only at hj ⊢
              rw [hks] at hj ⊢
              exact hG1 j hj
        · have hge : i + k = l.length := by simp only [decide_eq_false_iff_not] at hc4; omega
          have hce : compactI l = cmpP l (i + k) := by rw [hge]; rfl
          refine good_run 2 (obs := []) (by kernel_rfl) trivial ?_
          refine good_leaveJ (by kernel_rfl) ?_
          refine good_run 20 (obs := [(1 : Nat) = (1 : Nat) ∧ (0 : Int) ≤ (↑(List.length (cmpP l (i + k))) : Int) ∧ (↑(List.length (cmpP l (i + k))) : Int) ≤ (↑(List.length l - (0 : Nat)) : Int) ∧ (0 : Nat) + (List.length l - (0 : Nat)) ≤ List.length l, (1 : Nat) = (1 : Nat), (1 : Nat) = (1 : Nat) ∧ (0 : Int) ≤ (0 : Int) ∧ (0 : Int) ≤ (↑(List.length (cmpP l (i + k))) : Int) ∧ (0 : Nat) + List.length (cmpP l (i + k)) ≤ List.length l]) (by kernel_rfl) (by (first | omega | assumption | exact ⟨rfl, trivial⟩ | simp only [AllP, inK_iff, roomOK_iff, decide_eq_true_eq, Bool.and_eq_true, Bool.or_eq_true, Bool.not_eq_true', decide_eq_false_iff_not, and_true, true_and]; (first | omega | (and_intros <;> intros <;> (try and_intros) <;> first | omega | assumption | exact trivial)))) ?_
          refine good_leaveJ (by kernel_rfl) ?_
          refine good_run 2 (obs := []) (by kernel_rfl) trivial ?_
          refine good_finTake [(0 : Nat) + List.length (cmpP l (i + k)) = List.length (compactI l) ∧ List.length (compactI l) ≤ List.length l ∧ ∀ (j : Nat), j < List.length (compactI l) → spliceGet ((0 : Nat) + List.length (cmpP l (i + k))) ((0 : Nat) + (List.length l - (0 : Nat)) - ((0 : Nat) + List.length (cmpP l (i + k)))) (fun x => List.map SV.val [Value.int IntKind.i64 (Int.ofNat (0 : Nat))]) (fun j => [SV.int IntKind.i64 ((k, G).snd j)]) j = (fun i => [SV.int IntKind.i64 (List.getD (compactI l) i (0 : Int))]) j] (by kernel_rfl) ⟨?_, trivial⟩
          rw [hce]
          refine ⟨by rw [Nat.zero_add], by omega, fun j hj => ?_⟩
          unfold spliceGet
          rw [if_neg (by omega)]
          simp only
          rw [hG1 j hj]
      · have hne : l.getD i 0 ≠ l.getD (i - 1) 0 := by rw [hz] at hc3; simpa using hc3
        have hn : 1 ≤ i + 1 ∧ i + 1 ≤ l.length ∧ ∀ j, 0 < j → j < i + 1 → l.getD j 0 ≠ l.getD (j - 1) 0 := ⟨by omega, hlt, fun j h0 hj => by
          rcases Nat.lt_or_ge j i with h | h
          · exact hi3 j h0 h
          · have : j = i := by omega
            subst this
            exact hne⟩
        refine good_run 8 (obs := [InK IntKind.i64 ((↑i : Int) + (1 : Int))]) (by kernel_rfl) (by (first | omega | assumption | exact ⟨rfl, trivial⟩ | simp only [AllP, inK_iff, roomOK_iff, decide_eq_true_eq, Bool.and_eq_true, Bool.or_eq_true, Bool.not_eq_true', decide_eq_false_iff_not, and_true, true_and]; (first | omega | (and_intros <;> intros <;> (try and_intros) <;> first | omega | assumption | exact trivial)))) ?_
        refine good_backJ (i + 1) [List.length l = List.length l ∧ ∀ (i : Nat), i < List.length l → (fun i => [SV.int IntKind.i64 (List.getD l i (0 : Int))]) i = (fun i => [SV.int IntKind.i64 (List.getD l i (0 : Int))]) i, (↑i : Int) + (1 : Int) = (↑(i + (1 : Nat)) : Int)] (by kernel_rfl) (by kernel_rfl) ⟨⟨rfl, fun _ _ => rfl⟩, (by omega), trivial⟩ (by omega) (by show _ < _; omega)
    · have hge : i = l.length := by simp only [decide_eq_false_iff_not] at hc2; omega
      subst hge
      have e : compactI l = l := by rw [compactI, cmpP_take l l.length (Nat.le_refl _) hi3, List.take_length]
      rw [e]
      refine good_run 2 (obs := []) (by kernel_rfl) trivial ?_
      refine good_leaveJ (by kernel_rfl) ?_
      refine good_run 8 (obs := []) (by kernel_rfl) trivial ?_
      refine good_finTake [List.length l = List.length l ∧ ∀ (j : Nat), j < List.length l → (fun i => [SV.int IntKind.i64 (List.getD l i (0 : Int))]) j = (fun i => [SV.int IntKind.i64 (List.getD l i (0 : Int))]) j] (by kernel_rfl) ⟨⟨rfl, fun _ _ => rfl⟩, trivial⟩
      all_goals skip
/-! Strictly rising lists of numbers. -/
theorem rise_eq {a b : List Int} (ha : a.Pairwise (· < ·)) (hb : b.Pairwise (· < ·)) (h : ∀ x, x ∈ a ↔ x ∈ b) : a = b := by
  induction a generalizing b with
  | nil =>
    cases b with
    | nil => rfl
    | cons y r => exact absurd ((h y).2 (by simp)) (by simp)
  | cons x a ih =>
    cases b with
    | nil => exact absurd ((h x).1 (by simp)) (by simp)
    | cons y b =>
      rw [List.pairwise_cons] at ha hb
      have hxy : x = y := by
        rcases List.mem_cons.1 ((h x).1 (by simp)) with e | hx
        · exact e
        · rcases List.mem_cons.1 ((h y).2 (by simp)) with e | hy
          · exact e.symm
          · have h1 := hb.1 x hx
            have h2 := ha.1 y hy
            omega
      subst hxy
      rw [ih ha.2 hb.2 fun z => ?_]
      constructor
      · intro hz
        rcases List.mem_cons.1 ((h z).1 (List.mem_cons_of_mem _ hz)) with e | hz'
        · have := ha.1 z hz; omega
        · exact hz'
      · intro hz
        rcases List.mem_cons.1 ((h z).2 (List.mem_cons_of_mem _ hz)) with e | hz'
        · have := hb.1 z hz; omega
        · exact hz'
theorem cmpP_spec (l : List Int) (hs : l.Pairwise (· ≤ ·)) : ∀ m, m ≤ l.length → (cmpP l m).Pairwise (· < ·) ∧ (∀ x, x ∈ cmpP l m ↔ x ∈ l.take m) ∧ (0 < m → l.getD (m - 1) 0 ∈ cmpP l m ∧ ∀ x ∈ cmpP l m, x ≤ l.getD (m - 1) 0)
  | 0, _ => by simp [cmpP]
  | m + 1, h => by
    obtain ⟨h1, h2, h3⟩ := cmpP_spec l hs m (by omega)
    have hm : l.getD m 0 = l[m] := getD_of_lt l m (by omega)
    have htk : ∀ x, x ∈ l.take (m + 1) ↔ x ∈ l.take m ∨ x = l.getD m 0 := fun x => by
      rw [List.take_succ_eq_append_getElem (by omega), List.mem_append, List.mem_singleton, hm]
    have hle : 0 < m → l.getD (m - 1) 0 ≤ l.getD m 0 := fun h0 => by
      rw [hm, getD_of_lt l (m - 1) (by omega)]
      exact List.pairwise_iff_getElem.1 hs (m - 1) m (by omega) (by omega) (by omega)
    rw [cmpP]
    by_cases hc : m = 0 ∨ l.getD m 0 ≠ l.getD (m - 1) 0
    · rw [if_pos hc]
      have hlt : ∀ x ∈ cmpP l m, x < l.getD m 0 := fun x hx => by
        have h0 : 0 < m := by
          rcases Nat.eq_zero_or_pos m with e | e
          · subst e; simp [cmpP] at hx
          · exact e
        have := (h3 h0).2 x hx
        have := hle h0
        rcases hc with e | e
        · omega
        · omega
      refine ⟨?_, fun x => ?_, fun _ => ⟨?_, fun x hx => ?_⟩⟩
      · rw [List.pairwise_append]
        exact ⟨h1, by simp, fun x hx y hy => by simp at hy; subst hy; exact hlt x hx⟩
      · rw [List.mem_append, List.mem_singleton, h2, htk]
      · simp
      · rw [Nat.add_sub_cancel]
        rcases List.mem_append.1 hx with hx | hx
        · have := hlt x hx; omega
        · rw [List.mem_singleton] at hx; omega
    · rw [if_neg hc]
      have h0 : 0 < m := by omega
      have he : l.getD m 0 = l.getD (m - 1) 0 := Classical.byContradiction fun e => hc (.inr e)
      refine ⟨h1, fun x => ?_, fun _ => ?_⟩
      · rw [h2, htk]
        constructor
        · exact .inl
        · rintro (hx | hx)
          · exact hx
          · rw [hx, he]; exact (h2 _).1 (h3 h0).1
      · rw [Nat.add_sub_cancel, he]; exact h3 h0
def atI (l : List Int) (u : Int) : Nat := (l.takeWhile fun c => decide (c < u)).length
theorem atI_le (l : List Int) (u : Int) : atI l u ≤ l.length := (List.takeWhile_prefix _).length_le
theorem atI_below (l : List Int) (u : Int) : ∀ j, j < atI l u → l.getD j 0 < u := by
  intro j hj
  unfold atI at hj
  have hp := List.takeWhile_prefix (p := fun c : Int => decide (c < u)) (l := l)
  have h1 : (l.takeWhile fun c => decide (c < u)).getD j 0 = l.getD j 0 := by
    rw [List.prefix_iff_eq_take.1 hp, getD_take _ _ _ hj]
  rw [← h1]
  have h3 := List.all_eq_true.1 (List.all_takeWhile (p := fun c : Int => decide (c < u)) (l := l)) _ (getD_mem _ 0 j hj)
  simpa using h3
theorem atI_stop (l : List Int) (u : Int) (h : atI l u < l.length) : u ≤ l.getD (atI l u) 0 := by
  unfold atI at h ⊢
  have : (l.takeWhile fun c => decide (c < u)) ++ (l.dropWhile fun c => decide (c < u)) = l := List.takeWhile_append_dropWhile
  rcases hd : l.dropWhile (fun c => decide (c < u)) with _ | ⟨x, r⟩
  · rw [hd, List.append_nil] at this
    rw [this] at h
    omega
  · have hx : ¬ (x < u) := by
      have h0 : l.dropWhile (fun c => decide (c < u)) ≠ [] := by rw [hd]; simp
      have h1 := List.head_dropWhile_not (fun c : Int => decide (c < u)) h0
      simp only [hd, List.head_cons] at h1
      simpa using h1
    have e : l.getD (l.takeWhile fun c => decide (c < u)).length 0 = x := by
      rw [hd] at this
      generalize l.takeWhile (fun c => decide (c < u)) = a at this
      rw [← this, getD_append_right _ _ _ (Nat.le_refl _), Nat.sub_self]
      rfl
    rw [e]; omega
theorem insIdx_split {α : Type} (x : α) : ∀ (l : List α) (n : Nat), n ≤ l.length → l.insertIdx n x = l.take n ++ x :: l.drop n
  | l, 0, _ => by simp
  | [], n + 1, h => by simp at h
  | y :: r, n + 1, h => by
    rw [List.insertIdx_succ_cons, insIdx_split x r n (by simpa using h)]
    rfl
theorem s46 (l : List Int) (x : Int) (hr : l.Pairwise (· < ·)) (hl : l.length ≤ 100000) :
    Spec Try.prog 46 [ints l, .int .i64 x] (.tup [.int .i64 (atI l x), .bool (decide ((atI l x : Int) < l.length) && decide (l.getD (atI l x) 0 = x))]) := by
  have hk := atI_le l x
  have h1 := atI_below l x
  have h2 : ∀ j, atI l x ≤ j → j < l.length → x ≤ l.getD j 0 := fun j hj hjl => by
    have h3 := atI_stop l x (by omega)
    by_cases e : j = atI l x
    · rw [e]; exact h3
    · have := List.pairwise_iff_getElem.1 hr (atI l x) j (by omega) hjl (by omega)
      rw [getD_of_lt l (atI l x) (by omega)] at h3
      rw [getD_of_lt l j hjl]
      omega
  generalize atI l x = k at *
  refine spec_of_good mixed Try.func46 F46_ok (by kernel_rfl) ?_
  have hu1 : IntKind.u64.min = 0 := rfl
  have hu2 : IntKind.u64.max = 18446744073709551615 := rfl
  have hu3 : IntKind.u64.bits = 64 := rfl
  refine good_run 22 (obs := []) (by kernel_rfl) trivial ?_
  refine good_loopJ (fun q : Nat × Nat => ⟨[(7, .sv (.int .i64 (q.1))), (8, .sv (.int .i64 (q.2))), (6, LV.sv (SV.int IntKind.i64 (↑(List.length l) : Int))), (0, LV.sv (SV.lst (1 : Nat) (List.length l) fun i => [SV.int IntKind.i64 (List.getD l i (0 : Int))])), (1, LV.sv (SV.int IntKind.i64 x))], []⟩) (fun q => q.1 ≤ k ∧ k ≤ q.2 ∧ q.2 ≤ l.length) (fun q => q.2 - q.1) ((0, l.length)) [(0 : Int) = (0 : Int), (↑(List.length l) : Int) = (↑(List.length l) : Int), (↑(List.length l) : Int) = (↑(List.length l) : Int), List.length l = List.length l ∧ ∀ (i : Nat), i < List.length l → (fun i => [SV.int IntKind.i64 (List.getD l i (0 : Int))]) i = (fun i => [SV.int IntKind.i64 (List.getD l i (0 : Int))]) i, x = x] (by kernel_rfl) (by kernel_rfl) ⟨rfl, rfl, rfl, ⟨rfl, fun _ _ => rfl⟩, rfl, trivial⟩ (by omega) ?_
  rintro ⟨i, j⟩ ⟨hi, hj, hn⟩
  simp only at hi hj hn
  refine good_run 8 (obs := []) (by kernel_rfl) trivial ?_
  refine good_cond (decide ((↑i : Int) < (↑j : Int))) (by kernel_rfl) (fun hc1 => ?_) (fun hc1 => ?_)
  · have hij : i < j := by simp only [decide_eq_true_eq] at hc1; omega
    have e2 : (((i : Int) + j) / 2 ^ 1).toNat = (i + j) / 2 := by omega
    refine good_run 20 (obs := [InK IntKind.i64 ((↑i : Int) + (↑j : Int)), InK IntKind.u64 ((↑i : Int) + (↑j : Int)), (0 : Int) ≤ (1 : Int) ∧ (1 : Nat) ≤ IntKind.bits IntKind.u64, InK IntKind.i64 (((↑i : Int) + (↑j : Int)) / (2 : Int) ^ (1 : Nat)), (1 : Nat) = (1 : Nat) ∧ (0 : Int) ≤ ((↑i : Int) + (↑j : Int)) / (2 : Int) ^ (1 : Nat) ∧ ((↑i : Int) + (↑j : Int)) / (2 : Int) ^ (1 : Nat) < (↑(List.length l) : Int)]) (by kernel_rfl) (by (first | omega | assumption | exact ⟨rfl, trivial⟩ | simp only [AllP, inK_iff, roomOK_iff, decide_eq_true_eq, Bool.and_eq_true, Bool.or_eq_true, Bool.not_eq_true', decide_eq_false_iff_not, and_true, true_and]; (first | omega | (and_intros <;> intros <;> (try and_intros) <;> first | omega | assumption | exact trivial)))) ?_
    refine good_call (c := True) (by kernel_rfl) (fun _ => SVles.refl _) (fun _ => s56 (List.getD l (Int.toNat (((↑i : Int) + (↑j : Int)) / (2 : Int) ^ (1 : Nat))) (0 : Int)) (x)) (by kernel_rfl) ?_
    refine good_run 2 (obs := []) (by kernel_rfl) trivial ?_
    refine good_cond (decide (List.getD l (Int.toNat (((↑i : Int) + (↑j : Int)) / (2 : Int) ^ (1 : Nat))) (0 : Int) < x)) (by kernel_rfl) (fun hc2 => ?_) (fun hc2 => ?_)
    · have : (i + j) / 2 < k := by
        refine Nat.lt_of_not_le fun hk' => ?_
        have := h2 _ hk' (by omega)
        simp only [decide_eq_true_eq, e2] at hc2; omega
      refine good_run 7 (obs := [InK IntKind.i64 (((↑i : Int) + (↑j : Int)) / (2 : Int) ^ (1 : Nat) + (1 : Int))]) (by kernel_rfl) (by (first | omega | assumption | exact ⟨rfl, trivial⟩ | simp only [AllP, inK_iff, roomOK_iff, decide_eq_true_eq, Bool.and_eq_true, Bool.or_eq_true, Bool.not_eq_true', decide_eq_false_iff_not, and_true, true_and]; (first | omega | (and_intros <;> intros <;> (try and_intros) <;> first | omega | assumption | exact trivial)))) ?_
      refine good_backJ (((i + j) / 2 + 1, j)) [((↑i : Int) + (↑j : Int)) / (2 : Int) ^ (1 : Nat) + (1 : Int) = (↑((i + j) / (2 : Nat) + (1 : Nat)) : Int), (↑j : Int) = (↑j : Int), (↑(List.length l) : Int) = (↑(List.length l) : Int), List.length l = List.length l ∧ ∀ (i : Nat), i < List.length l → (fun i => [SV.int IntKind.i64 (List.getD l i (0 : Int))]) i = (fun i => [SV.int IntKind.i64 (List.getD l i (0 : Int))]) i, x = x] (by kernel_rfl) (by kernel_rfl) ⟨(by omega), rfl, rfl, ⟨rfl, fun _ _ => rfl⟩, rfl, trivial⟩ (by omega) (by show _ < _; omega)
    · have : k ≤ (i + j) / 2 := by
        refine Nat.le_of_not_lt fun hk' => ?_
        have := h1 _ hk'
        simp only [decide_eq_false_iff_not, e2] at hc2; omega
      refine good_run 6 (obs := []) (by kernel_rfl) trivial ?_
      refine good_backJ ((i, (i + j) / 2)) [(↑i : Int) = (↑i : Int), ((↑i : Int) + (↑j : Int)) / (2 : Int) ^ (1 : Nat) = (↑((i + j) / (2 : Nat)) : Int), (↑(List.length l) : Int) = (↑(List.length l) : Int), List.length l = List.length l ∧ ∀ (i : Nat), i < List.length l → (fun i => [SV.int IntKind.i64 (List.getD l i (0 : Int))]) i = (fun i => [SV.int IntKind.i64 (List.getD l i (0 : Int))]) i, x = x] (by kernel_rfl) (by kernel_rfl) ⟨rfl, (by omega), rfl, ⟨rfl, fun _ _ => rfl⟩, rfl, trivial⟩ (by omega) (by show _ < _; omega)
  · have : i = k := by simp only [decide_eq_false_iff_not] at hc1; omega
    subst this
    refine good_run 2 (obs := []) (by kernel_rfl) trivial ?_
    refine good_leaveJ (by kernel_rfl) ?_
    refine good_run 20 (obs := [decide ((↑i : Int) < (↑(List.length l) : Int)) = true ∧ True → (1 : Nat) = (1 : Nat) ∧ (0 : Int) ≤ (↑i : Int) ∧ (↑i : Int) < (↑(List.length l) : Int), decide (List.getD l i (0 : Int) = x) = false ∧ decide ((↑i : Int) < (↑(List.length l) : Int)) = true ∧ True → (1 : Nat) = (1 : Nat) ∧ (0 : Int) ≤ (↑i : Int) ∧ (↑i : Int) < (↑(List.length l) : Int)]) (by kernel_rfl) (by (first | omega | assumption | exact ⟨rfl, trivial⟩ | simp only [AllP, inK_iff, roomOK_iff, decide_eq_true_eq, Bool.and_eq_true, Bool.or_eq_true, Bool.not_eq_true', decide_eq_false_iff_not, and_true, true_and]; (first | omega | (and_intros <;> intros <;> (try and_intros) <;> first | omega | assumption | exact trivial)))) ?_
    refine good_call (c := decide (List.getD l i (0 : Int) = x) = false ∧ decide ((↑i : Int) < (↑(List.length l) : Int)) = true ∧ True) (by kernel_rfl) (fun _ => SVles.refl _) (fun _ => s62 (List.getD l i (0 : Int))) (by kernel_rfl) ?_
    refine good_run 4 (obs := []) (by kernel_rfl) trivial ?_
    refine good_call (c := false = true ∧ decide (List.getD l i (0 : Int) = x) = false ∧ decide ((↑i : Int) < (↑(List.length l) : Int)) = true ∧ True) (by kernel_rfl) (fun _ => SVles.refl _) (fun _ => s62 (x)) (by kernel_rfl) ?_
    refine good_run 9 (obs := []) (by kernel_rfl) trivial ?_
    refine good_fin [(↑i : Int) = (↑i : Int), (decide ((↑i : Int) < (↑(List.length l) : Int)) && (decide (List.getD l i (0 : Int) = x) || false && false)) = (decide ((↑i : Int) < (↑(List.length l) : Int)) && decide (List.getD l i (0 : Int) = x))] (by kernel_rfl) ⟨rfl, ?_, trivial⟩
    simp
end Go.Sx.T
