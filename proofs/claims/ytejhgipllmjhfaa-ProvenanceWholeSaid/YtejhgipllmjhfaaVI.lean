/- Contracts of functions of the program, each proved by running its code symbolically (VI). -/
import Derived.Test.YtejhgipllmjhfaaVA
namespace Go.Sx.T
open Go Go.Proofs Go.Sx
set_option maxRecDepth 100000
set_option maxHeartbeats 4000000
set_option linter.unusedVariables false
set_option linter.unusedSimpArgs false
/-- The first elements without those that are as the one before. -/
def cmpP (l : List Int) : Nat → List Int
  | 0 => []
  | m + 1 => if m = 0 ∨ l.getD m 0 ≠ l.getD (m - 1) 0 then cmpP l m ++ [l.getD m 0] else cmpP l m
def compactI (l : List Int) : List Int := cmpP l l.length
theorem cmpP_take (l : List Int) : ∀ m, m ≤ l.length → (∀ j, 0 < j → j < m → l.getD j 0 ≠ l.getD (j - 1) 0) → cmpP l m = l.take m
  | 0, _, _ => by simp [cmpP]
  | m + 1, hm, h => by
    rw [cmpP, if_pos, cmpP_take l m (by omega) (fun j h0 hj => h j h0 (by omega)), List.take_succ_eq_append_getElem (by omega), getD_of_lt l m (by omega)]
    by_cases e : m = 0
    · exact .inl e
    · exact .inr (h m (by omega) (by omega))
theorem s72 (l : List Int) (hl : l.length ≤ 100000) : SpecTake Try.prog 72 [] 3 1 l.length (fun i => [.int .i64 (l.getD i 0)]) [] (compactI l).length (fun i => [.int .i64 ((compactI l).getD i 0)]) := by
  refine specTake_of_good mixed Try.func72 F72_ok (by kernel_rfl) ?_
  refine good_run 13 (obs := []) (by kernel_rfl) trivial ?_
  refine good_cond (decide ((↑(List.length l) : Int) < (2 : Int))) (by kernel_rfl) (fun hc1 => ?_) (fun hc1 => ?_)
  · have e : compactI l = l := by
      have h2 : l.length < 2 := by simp only [decide_eq_true_eq] at hc1; omega
      rw [compactI, cmpP_take l l.length (Nat.le_refl _) (fun j h0 hj => by omega), List.take_length]
    rw [e]
    refine good_run 8 (obs := []) (by kernel_rfl) trivial ?_
    refine good_finTake [List.length l = List.length l ∧ ∀ (j : Nat), j < List.length l → (fun i => [SV.int IntKind.i64 (List.getD l i (0 : Int))]) j = (fun i => [SV.int IntKind.i64 (List.getD l i (0 : Int))]) j] (by kernel_rfl) ⟨⟨rfl, fun _ _ => rfl⟩, trivial⟩
    all_goals skip
  · refine good_run 8 (obs := []) (by kernel_rfl) trivial ?_
    refine good_loopJ (fun i : Nat => ⟨[(3, .sv (.int .i64 (i))), (0, LV.own (0 : Nat))], [Blk.row (3 : Nat) (1 : Nat) (List.length l) true fun i => [SV.int IntKind.i64 (List.getD l i (0 : Int))]]⟩) (fun i => 1 ≤ i ∧ i ≤ l.length ∧ ∀ j, 0 < j → j < i → l.getD j 0 ≠ l.getD (j - 1) 0) (fun i => l.length - i) (1) [List.length l = List.length l ∧ ∀ (i : Nat), i < List.length l → (fun i => [SV.int IntKind.i64 (List.getD l i (0 : Int))]) i = (fun i => [SV.int IntKind.i64 (List.getD l i (0 : Int))]) i, (1 : Int) = (1 : Int)] (by kernel_rfl) (by kernel_rfl) ⟨⟨rfl, fun _ _ => rfl⟩, rfl, trivial⟩ ?_ ?_
    · exact ⟨Nat.le_refl _, by simp at hc1; omega, fun j h0 h1 => by omega⟩
    intro i hi
    obtain ⟨hi1, hi2, hi3⟩ := hi
    have hz : ((i : Int) - 1).toNat = i - 1 := by omega
    refine good_run 9 (obs := []) (by kernel_rfl) trivial ?_
    refine good_cond (decide ((↑i : Int) < (↑(List.length l) : Int))) (by kernel_rfl) (fun hc2 => ?_) (fun hc2 => ?_)
    · have hlt : i < l.length := by simp only [decide_eq_true_eq] at hc2; omega
      refine good_run 17 (obs := [True → (1 : Nat) = (1 : Nat) ∧ (0 : Int) ≤ (↑i : Int) ∧ (↑i : Int) < (↑(List.length l) : Int), True → InK IntKind.i64 ((↑i : Int) - (1 : Int)), True → (1 : Nat) = (1 : Nat) ∧ (0 : Int) ≤ (↑i : Int) - (1 : Int) ∧ (↑i : Int) - (1 : Int) < (↑(List.length l) : Int)]) (by kernel_rfl) (by (first | omega | assumption | exact ⟨rfl, trivial⟩ | simp only [AllP, inK_iff, roomOK_iff, decide_eq_true_eq, Bool.and_eq_true, Bool.or_eq_true, Bool.not_eq_true', decide_eq_false_iff_not, and_true, true_and]; (first | omega | (and_intros <;> intros <;> (try and_intros) <;> first | omega | assumption | exact trivial)))) ?_
      refine good_cond (decide (List.getD l i (0 : Int) = List.getD l (Int.toNat ((↑i : Int) - (1 : Int))) (0 : Int))) (by kernel_rfl) (fun hc3 => ?_) (fun hc3 => ?_)
      · have hdup : l.getD i 0 = l.getD (i - 1) 0 := by rw [hz] at hc3; simpa using hc3
        have hci := cmpP_take l i hi2 hi3
        have hcl : (cmpP l i).length = i := by rw [hci, List.length_take]; omega
        have hc1' : cmpP l (i + 1) = cmpP l i := by rw [cmpP, if_neg]; rintro (h | h); omega; exact h hdup
        have hcl1 : (cmpP l (i + 1)).length = i := by rw [hc1', hcl]
        refine good_run 15 (obs := [(1 : Nat) = (1 : Nat) ∧ (0 : Int) ≤ (↑i : Int) ∧ (↑i : Int) ≤ (↑(List.length l - (0 : Nat)) : Int) ∧ (0 : Nat) + (List.length l - (0 : Nat)) ≤ List.length l]) (by kernel_rfl) (by (first | omega | assumption | exact ⟨rfl, trivial⟩ | simp only [AllP, inK_iff, roomOK_iff, decide_eq_true_eq, Bool.and_eq_true, Bool.or_eq_true, Bool.not_eq_true', decide_eq_false_iff_not, and_true, true_and]; (first | omega | (and_intros <;> intros <;> (try and_intros) <;> first | omega | assumption | exact trivial)))) ?_
        refine good_loopJ (fun q : Nat × (Nat → Int) => ⟨[(3, .sv (.int .i64 (((cmpP l (i + q.1)).length)))), (5, .sv (.int .i64 (q.1))), (4, LV.part (0 : Nat) ((0 : Nat) + i) ((0 : Nat) + (List.length l - (0 : Nat)))), (0, LV.own (0 : Nat))], [.row 3 1 l.length true fun j => [.int .i64 (q.2 j)]]⟩) (fun q => 1 ≤ q.1 ∧ i + q.1 ≤ l.length ∧ (cmpP l (i + q.1)).length < i + q.1 ∧ (∀ j, j < (cmpP l (i + q.1)).length → q.2 j = (cmpP l (i + q.1)).getD j 0) ∧ ∀ j, i + q.1 ≤ j + 1 → q.2 j = l.getD j 0) (fun q => l.length - q.1) ((1, fun j => l.getD j 0)) [List.length l = List.length l ∧ ∀ (i : Nat), i < List.length l → (fun i => [SV.int IntKind.i64 (List.getD l i (0 : Int))]) i = (fun j => [SV.int IntKind.i64 (((1 : Nat), fun j => List.getD l j (0 : Int)).snd j)]) i, (↑i : Int) = (↑(List.length (cmpP l (i + (1 : Nat)))) : Int), (1 : Int) = (1 : Int), (0 : Nat) + i = (0 : Nat) + i ∧ (0 : Nat) + (List.length l - (0 : Nat)) = (0 : Nat) + (List.length l - (0 : Nat))] (by kernel_rfl) (by kernel_rfl) ⟨⟨rfl, fun _ _ => rfl⟩, (by omega), rfl, ⟨rfl, rfl⟩, trivial⟩ ?_ ?_
        · refine ⟨Nat.le_refl _, by show i + 1 ≤ _; omega, by show (cmpP l (i + 1)).length < i + 1; omega, fun j hj => ?_, fun _ _ => rfl⟩
          simp only at hj ⊢
          rw [hcl1] at hj
          rw [hc1', hci, getD_take _ _ _ hj]
        rintro ⟨k, G⟩ ⟨hk1, hk2, hk3, hG1, hG2⟩
        simp only at hk1 hk2 hk3 hG1 hG2
        have hz2 : ((k : Int) - 1).toNat = k - 1 := by omega
        refine good_run 9 (obs := []) (by kernel_rfl) trivial ?_
        refine good_cond (decide ((↑k : Int) < (↑((0 : Nat) + (List.length l - (0 : Nat)) - ((0 : Nat) + i)) : Int))) (by kernel_rfl) (fun hc4 => ?_) (fun hc4 => ?_)
        · have hlt2 : i + k < l.length := by simp only [decide_eq_true_eq] at hc4; omega
          have hg1 : G (i + k) = l.getD (i + k) 0 := hG2 _ (by omega)
          have hg2 : G (i + (k - 1)) = l.getD (i + k - 1) 0 := by rw [hG2 _ (by omega), show i + (k - 1) = i + k - 1 by omega]
          refine good_run 17 (obs := [True → (1 : Nat) = (1 : Nat) ∧ (0 : Int) ≤ (↑k : Int) ∧ (0 : Nat) + i + k < (0 : Nat) + (List.length l - (0 : Nat)), True → InK IntKind.i64 ((↑k : Int) - (1 : Int)), True → (1 : Nat) = (1 : Nat) ∧ (0 : Int) ≤ (↑k : Int) - (1 : Int) ∧ (0 : Nat) + i + Int.toNat ((↑k : Int) - (1 : Int)) < (0 : Nat) + (List.length l - (0 : Nat))]) (by kernel_rfl) (by (first | omega | assumption | exact ⟨rfl, trivial⟩ | simp only [AllP, inK_iff, roomOK_iff, decide_eq_true_eq, Bool.and_eq_true, Bool.or_eq_true, Bool.not_eq_true', decide_eq_false_iff_not, and_true, true_and]; (first | omega | (and_intros <;> intros <;> (try and_intros) <;> first | omega | assumption | exact trivial)))) ?_
          refine good_cond (!decide (G ((0 : Nat) + i + k) = G ((0 : Nat) + i + Int.toNat ((↑k : Int) - (1 : Int))))) (by kernel_rfl) (fun hc5 => ?_) (fun hc5 => ?_)
          · have h5 : l.getD (i + k) 0 ≠ l.getD (i + k - 1) 0 := by
              rw [Nat.zero_add, hz2, hg1, hg2] at hc5
              simpa using hc5
            have hks : cmpP l (i + (k + 1)) = cmpP l (i + k) ++ [l.getD (i + k) 0] := by rw [← Nat.add_assoc, cmpP, if_pos (.inr h5)]
            have hkl : (cmpP l (i + (k + 1))).length = (cmpP l (i + k)).length + 1 := by rw [hks, List.length_append]; rfl
            refine good_run 25 (obs := [(1 : Nat) = (1 : Nat) ∧ (0 : Int) ≤ (↑k : Int) ∧ (0 : Nat) + i + k < (0 : Nat) + (List.length l - (0 : Nat)), (1 : Nat) = (1 : Nat) ∧ (0 : Int) ≤ (↑(List.length (cmpP l (i + k))) : Int) ∧ (↑(List.length (cmpP l (i + k))) : Int) < (↑(List.length l) : Int), (1 : Nat) = (1 : Nat) ∧ (0 : Nat) + (1 : Nat) ≤ (1 : Nat), InK IntKind.i64 ((↑(List.length (cmpP l (i + k))) : Int) + (1 : Int)), InK IntKind.i64 ((↑k : Int) + (1 : Int))]) (by kernel_rfl) (by (first | omega | assumption | exact ⟨rfl, trivial⟩ | simp only [AllP, inK_iff, roomOK_iff, decide_eq_true_eq, Bool.and_eq_true, Bool.or_eq_true, Bool.not_eq_true', decide_eq_false_iff_not, and_true, true_and]; (first | omega | (and_intros <;> intros <;> (try and_intros) <;> first | omega | assumption | exact trivial)))) ?_
            refine good_backJ ((k + 1, fun j => if j = (cmpP l (i + k)).length then G (0 + i + k) else G j)) [List.length l = List.length l ∧ ∀ (i_1 : Nat), i_1 < List.length l → (fun j => if j = List.length (cmpP l (i + k)) then lay ((fun j => [SV.int IntKind.i64 ((k, G).snd j)]) (List.length (cmpP l (i + k)))) (0 : Nat) [SV.int IntKind.i64 (G ((0 : Nat) + i + k))] else (fun j => [SV.int IntKind.i64 ((k, G).snd j)]) j) i_1 = (fun j => [SV.int IntKind.i64 ((k + (1 : Nat), fun j => if j = List.length (cmpP l (i + k)) then G ((0 : Nat) + i + k) else G j).snd j)]) i_1, (↑(List.length (cmpP l (i + k))) : Int) + (1 : Int) = (↑(List.length (cmpP l (i + (k + (1 : Nat))))) : Int), (↑k : Int) + (1 : Int) = (↑(k + (1 : Nat)) : Int), (0 : Nat) + i = (0 : Nat) + i ∧ (0 : Nat) + (List.length l - (0 : Nat)) = (0 : Nat) + (List.length l - (0 : Nat))] (by kernel_rfl) (by kernel_rfl) ⟨?_, (by omega), (by omega), ⟨rfl, rfl⟩, trivial⟩ ?_ (by show _ < _; omega)
            · refine ⟨rfl, fun j hj => ?_⟩
              simp only
              by_cases hj' : j = (cmpP l (i + k)).length
              · rw [if_pos hj', if_pos hj']; rfl
              · rw [if_neg hj', if_neg hj']
            · refine ⟨by show 1 ≤ k + 1; omega, by show i + (k + 1) ≤ _; omega, by show (cmpP l (i + (k + 1))).length < i + (k + 1); omega, fun j hj => ?_, fun j hj => ?_⟩
              · simp only at hj ⊢
                rw [hks, getD_append]
                by_cases hj' : j = (cmpP l (i + k)).length
                · rw [if_pos hj', if_neg (by omega), hj', Nat.sub_self, Nat.zero_add, hg1]; rfl
                · rw [if_neg hj', if_pos (by omega)]; exact hG1 j (by omega)
              · simp only at hj ⊢
                rw [if_neg (by omega)]; exact hG2 j (by omega)
          · have h5 : l.getD (i + k) 0 = l.getD (i + k - 1) 0 := by
              rw [Nat.zero_add, hz2, hg1, hg2] at hc5
              simpa using hc5
            have hks : cmpP l (i + (k + 1)) = cmpP l (i + k) := by rw [← Nat.add_assoc, cmpP, if_neg]; rintro (h | h); omega; exact h h5
            refine good_run 8 (obs := [InK IntKind.i64 ((↑k : Int) + (1 : Int))]) (by kernel_rfl) (by (first | omega | assumption | exact ⟨rfl, trivial⟩ | simp only [AllP, inK_iff, roomOK_iff, decide_eq_true_eq, Bool.and_eq_true, Bool.or_eq_true, Bool.not_eq_true', decide_eq_false_iff_not, and_true, true_and]; (first | omega | (and_intros <;> intros <;> (try and_intros) <;> first | omega | assumption | exact trivial)))) ?_
            refine good_backJ ((k + 1, G)) [List.length l = List.length l ∧ ∀ (i : Nat), i < List.length l → (fun j => [SV.int IntKind.i64 ((k, G).snd j)]) i = (fun j => [SV.int IntKind.i64 ((k + (1 : Nat), G).snd j)]) i, (↑(List.length (cmpP l (i + k))) : Int) = (↑(List.length (cmpP l (i + (k + (1 : Nat))))) : Int), (↑k : Int) + (1 : Int) = (↑(k + (1 : Nat)) : Int), (0 : Nat) + i = (0 : Nat) + i ∧ (0 : Nat) + (List.length l - (0 : Nat)) = (0 : Nat) + (List.length l - (0 : Nat))] (by kernel_rfl) (by kernel_rfl) ⟨⟨rfl, fun _ _ => rfl⟩, ?_, (by omega), ⟨rfl, rfl⟩, trivial⟩ ?_ (by show _ < _; omega)
            · rw [hks]
            · refine ⟨by show 1 ≤ k + 1; omega, by show i + (k + 1) ≤ _; omega, by show (cmpP l (i + (k + 1))).length < i + (k + 1); rw [hks]; omega, fun j hj => ?_, fun j hj => hG2 j (by simp only at hj; omega)⟩
              simp only at hj ⊢
              rw [hks] at hj ⊢
              exact hG1 j hj
        · have hge : i + k = l.length := by simp only [decide_eq_false_iff_not] at hc4; omega
          have hce : compactI l = cmpP l (i + k) := by rw [hge]; rfl
          refine good_run 2 (obs := []) (by kernel_rfl) trivial ?_
          refine good_leaveJ (by kernel_rfl) ?_
          refine good_run 20 (obs := [(1 : Nat) = (1 : Nat) ∧ (0 : Int) ≤ (↑(List.length (cmpP l (i + k))) : Int) ∧ (↑(List.length (cmpP l (i + k))) : Int) ≤ (↑(List.length l - (0 : Nat)) : Int) ∧ (0 : Nat) + (List.length l - (0 : Nat)) ≤ List.length l, (1 : Nat) = (1 : Nat), (1 : Nat) = (1 : Nat) ∧ (0 : Int) ≤ (0 : Int) ∧ (0 : Int) ≤ (↑(List.length (cmpP l (i + k))) : Int) ∧ (0 : Nat) + List.length (cmpP l (i + k)) ≤ List.length l]) (by kernel_rfl) (by (first | omega | assumption | exact ⟨rfl, trivial⟩ | simp only [AllP, inK_iff, roomOK_iff, decide_eq_true_eq, Bool.and_eq_true, Bool.or_eq_true, Bool.not_eq_true', decide_eq_false_iff_not, and_true, true_and]; (first | omega | (and_intros <;> intros <;> (try and_intros) <;> first | omega | assumption | exact trivial)))) ?_
          refine good_leaveJ (by kernel_rfl) ?_
          refine good_run 2 (obs := []) (by kernel_rfl) trivial ?_
          refine good_finTake [(0 : Nat) + List.length (cmpP l (i + k)) = List.length (compactI l) ∧ List.length (compactI l) ≤ List.length l ∧ ∀ (j : Nat), j < List.length (compactI l) → spliceGet ((0 : Nat) + List.length (cmpP l (i + k))) ((0 : Nat) + (List.length l - (0 : Nat)) - ((0 : Nat) + List.length (cmpP l (i + k)))) (fun x => List.map SV.val [Value.int IntKind.i64 (Int.ofNat (0 : Nat))]) (fun j => [SV.int IntKind.i64 ((k, G).snd j)]) j = (fun i => [SV.int IntKind.i64 (List.getD (compactI l) i (0 : Int))]) j] (by kernel_rfl) ⟨?_, trivial⟩
          rw [hce]
          refine ⟨by rw [Nat.zero_add], by omega, fun j hj => ?_⟩
          unfold spliceGet
          rw [if_neg (by omega)]
          simp only
          rw [hG1 j hj]
      · have hne : l.getD i 0 ≠ l.getD (i - 1) 0 := by rw [hz] at hc3; simpa using hc3
        have hn : 1 ≤ i + 1 ∧ i + 1 ≤ l.length ∧ ∀ j, 0 < j → j < i + 1 → l.getD j 0 ≠ l.getD (j - 1) 0 := ⟨by omega, hlt, fun j h0 hj => by
          rcases Nat.lt_or_ge j i with h | h
          · exact hi3 j h0 h
          · have : j = i := by omega
            subst this
            exact hne⟩
        refine good_run 8 (obs := [InK IntKind.i64 ((↑i : Int) + (1 : Int))]) (by kernel_rfl) (by (first | omega | assumption | exact ⟨rfl, trivial⟩ | simp only [AllP, inK_iff, roomOK_iff, decide_eq_true_eq, Bool.and_eq_true, Bool.or_eq_true, Bool.not_eq_true', decide_eq_false_iff_not, and_true, true_and]; (first | omega | (and_intros <;> intros <;> (try and_intros) <;> first | omega | assumption | exact trivial)))) ?_
        refine good_backJ (i + 1) [List.length l = List.length l ∧ ∀ (i : Nat), i < List.length l → (fun i => [SV.int IntKind.i64 (List.getD l i (0 : Int))]) i = (fun i => [SV.int IntKind.i64 (List.getD l i (0 : Int))]) i, (↑i : Int) + (1 : Int) = (↑(i + (1 : Nat)) : Int)] (by kernel_rfl) (by kernel_rfl) ⟨⟨rfl, fun _ _ => rfl⟩, (by omega), trivial⟩ (by omega) (by show _ < _; omega)
    · have hge : i = l.length := by simp only [decide_eq_false_iff_not] at hc2; omega
      subst hge
      have e : compactI l = l := by rw [compactI, cmpP_take l l.length (Nat.le_refl _) hi3, List.take_length]
      rw [e]
      refine good_run 2 (obs := []) (by kernel_rfl) trivial ?_
      refine good_leaveJ (by kernel_rfl) ?_
      refine good_run 8 (obs := []) (by kernel_rfl) trivial ?_
      refine good_finTake [List.length l = List.length l ∧ ∀ (j : Nat), j < List.length l → (fun i => [SV.int IntKind.i64 (List.getD l i (0 : Int))]) j = (fun i => [SV.int IntKind.i64 (List.getD l i (0 : Int))]) j] (by kernel_rfl) ⟨⟨rfl, fun _ _ => rfl⟩, trivial⟩
      all_goals skip
end Go.Sx.T
