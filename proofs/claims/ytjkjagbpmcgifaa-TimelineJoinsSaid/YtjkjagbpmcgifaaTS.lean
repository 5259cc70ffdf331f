/- Contracts of functions of the program, each proved by running its code symbolically (TS). -/
import Derived.Test.YtjkjagbpmcgifaaTQ
namespace Go.Sx.T
open Go Go.Proofs Go.Sx
set_option maxRecDepth 100000
set_option maxHeartbeats 4000000
set_option linter.unusedVariables false
set_option linter.unusedSimpArgs false
theorem norm_nil0 : Norm [] := ⟨fun p hp => by simp at hp, by simp⟩
theorem s28 (a b : List Piece) : Spec Try.prog 28 [pieces a, pieces b] (.tup [pieces (overR a b).1, .int .i64 (overR a b).2]) := by
  refine spec_of_good mixed Try.func28 F28_ok (by kernel_rfl) ?_
  refine good_run 9 (obs := []) (by kernel_rfl) trivial ?_
  refine good_call (c := True) (by kernel_rfl) (fun _ => SVles.refl _) (fun _ => s23 (a)) (by kernel_rfl) ?_
  refine good_run 10 (obs := []) (by kernel_rfl) trivial ?_
  refine good_cond (decide (check a = (0 : Int))) (by kernel_rfl) (fun hc1 => ?_) (fun hc1 => ?_)
  · simp only [decide_eq_true_eq] at hc1
    have hk : chk2 a b = check b := if_neg (fun h => h hc1)
    refine good_run 2 (obs := []) (by kernel_rfl) trivial ?_
    refine good_call (c := True) (by kernel_rfl) (fun _ => SVles.refl _) (fun _ => s23 (b)) (by kernel_rfl) ?_
    refine good_run 10 (obs := []) (by kernel_rfl) trivial ?_
    refine good_cond (!decide (check b = (0 : Int))) (by kernel_rfl) (fun hc2 => ?_) (fun hc2 => ?_)
    · simp only [Bool.not_eq_true', decide_eq_false_iff_not] at hc2
      have : overR a b = ([], chk2 a b) := if_pos (by rw [hk]; exact hc2)
      rw [this, hk]
      refine good_run 9 (obs := []) (by kernel_rfl) trivial ?_
      refine good_fin [(0 : Nat) = (0 : Nat), check b = check b] (by kernel_rfl) ⟨rfl, rfl, trivial⟩
    · simp only [Bool.not_eq_false', decide_eq_true_eq] at hc2
      have : overR a b = buildR (isort (keysOf (psOf [] [a, b]))) (overV a b) := if_neg (fun h => h (hk.trans hc2))
      rw [this]
      have hu0 : UpTo (overV a b) 0 [] := ⟨norm_nil0, fun p hp => by simp at hp, fun d => by rw [if_neg (by omega)]; rfl, by simp⟩
      refine good_run 14 (obs := []) (by kernel_rfl) trivial ?_
      refine good_loopJ (fun q : Int × List Piece => ⟨[(8, .sv (.int .i64 (q.1))), (7, .own 0), (0, LV.sv (SV.lst (3 : Nat) (List.length a) fun i => Piece.cells (List.getD a i default))), (1, LV.sv (SV.lst (3 : Nat) (List.length b) fun i => Piece.cells (List.getD b i default)))], [rowP q.2]⟩) (fun q => 0 ≤ q.1 ∧ q.1 ≤ 1048576 ∧ UpTo (overV a b) q.1 q.2) (fun q => (1048576 - q.1).toNat) ((0, [])) [(0 : Nat) = (0 : Nat) ∧ ∀ (i : Nat), i < (0 : Nat) → cutRows (3 : Nat) [] i = (fun i => Piece.cells (List.getD ((0 : Int), []).snd i default)) i, (0 : Int) = (0 : Int), List.length a = List.length a ∧ ∀ (i : Nat), i < List.length a → (fun i => Piece.cells (List.getD a i default)) i = (fun i => Piece.cells (List.getD a i default)) i, List.length b = List.length b ∧ ∀ (i : Nat), i < List.length b → (fun i => Piece.cells (List.getD b i default)) i = (fun i => Piece.cells (List.getD b i default)) i] (by kernel_rfl) (by kernel_rfl) ⟨?_, rfl, ⟨rfl, fun _ _ => rfl⟩, ⟨rfl, fun _ _ => rfl⟩, trivial⟩ ?_ ?_
      · exact ⟨rfl, fun i hi => absurd hi (Nat.not_lt_zero i)⟩
      · exact ⟨by decide, by decide, hu0⟩
      rintro ⟨day, out⟩ ⟨h0, h1, hu⟩
      have hl := hu.len
      simp only at h0 h1 hl hu
      refine good_run 7 (obs := []) (by kernel_rfl) trivial ?_
      refine good_cond (decide (day < (1048576 : Int))) (by kernel_rfl) (fun hc3 => ?_) (fun hc3 => ?_)
      · simp only [decide_eq_true_eq] at hc3
        obtain ⟨e1, e2, e3⟩ := endD_ok (a := a) (b := b) hc3
        have hst := upto_step h0 e1 hu (fun d q1 q2 => by unfold overV; rw [(e3 d q1 q2).1, (e3 d q1 q2).2])
        refine good_run 6 (obs := []) (by kernel_rfl) trivial ?_
        refine good_call (c := True) (by kernel_rfl) (fun _ => SVles.refl _) (fun _ => s43 (a) (day)) (by kernel_rfl) ?_
        refine good_run 2 (obs := []) (by kernel_rfl) trivial ?_
        refine good_call (c := True) (by kernel_rfl) (fun _ => SVles.refl _) (fun _ => s43 (b) (day)) (by kernel_rfl) ?_
        refine good_run 8 (obs := []) (by kernel_rfl) trivial ?_
        refine good_call (c := True) (by kernel_rfl) (fun _ => SVles.refl _) (fun _ => s20 (a) (day)) (by kernel_rfl) ?_
        refine good_run 11 (obs := []) (by kernel_rfl) trivial ?_
        refine good_call (c := True) (by kernel_rfl) (fun _ => SVles.refl _) (fun _ => s20 (b) (day)) (by kernel_rfl) ?_
        refine good_run 13 (obs := []) (by kernel_rfl) trivial ?_
        refine good_cond (okV (atF b day)) (by kernel_rfl) (fun hc4 => ?_) (fun hc4 => ?_)
        · obtain ⟨v, hv⟩ := Option.isSome_iff_exists.1 (show (atF b day).isSome = true from hc4)
          have hov : overV a b day = some v := by rw [overV, hv]; rfl
          rw [hv]
          refine good_run 12 (obs := []) (by kernel_rfl) trivial ?_
          refine good_cond true (by kernel_rfl) (fun _ => ?_) (fun h => nomatch h)
          refine good_run 7 (obs := []) (by kernel_rfl) trivial ?_
          refine good_take (by kernel_rfl) (SVles.refl _) (SVles.refl _) (s44 ((day, out).snd) (day) (min (nextD a day) (nextD b day)) (optV (some v)) (by (first | omega | assumption | exact ⟨rfl, trivial⟩ | simp only [AllP, inK_iff, roomOK_iff, decide_eq_true_eq, Bool.and_eq_true, Bool.or_eq_true, Bool.not_eq_true', decide_eq_false_iff_not, and_true, true_and]; (first | omega | (and_intros <;> intros <;> (try and_intros) <;> first | omega | assumption | exact trivial))))) ?_
          refine good_run 9 (obs := []) (by kernel_rfl) trivial ?_
          refine good_backJ ((endD a b day, putR out ⟨day, endD a b day, v⟩)) [List.length (putR (day, out).snd { From := day, Until := min (nextD a day) (nextD b day), Value := optV (some v) }) = List.length (endD a b day, putR out { From := day, Until := endD a b day, Value := v }).snd ∧ ∀ (i : Nat), i < List.length (putR (day, out).snd { From := day, Until := min (nextD a day) (nextD b day), Value := optV (some v) }) → (fun i => Piece.cells (List.getD (putR (day, out).snd { From := day, Until := min (nextD a day) (nextD b day), Value := optV (some v) }) i default)) i = (fun i => Piece.cells (List.getD (endD a b day, putR out { From := day, Until := endD a b day, Value := v }).snd i default)) i, min (nextD a day) (nextD b day) = endD a b day, List.length a = List.length a ∧ ∀ (i : Nat), i < List.length a → (fun i => Piece.cells (List.getD a i default)) i = (fun i => Piece.cells (List.getD a i default)) i, List.length b = List.length b ∧ ∀ (i : Nat), i < List.length b → (fun i => Piece.cells (List.getD b i default)) i = (fun i => Piece.cells (List.getD b i default)) i] (by kernel_rfl) (by kernel_rfl) ⟨?_, (by rfl), ⟨rfl, fun _ _ => rfl⟩, ⟨rfl, fun _ _ => rfl⟩, trivial⟩ ?_ (by show _ < _; omega)
          · exact ⟨rfl, fun i _ => rfl⟩
          · exact ⟨by show (0 : Int) ≤ endD a b day; omega, e2, hst.2 v hov⟩
        · have hv : atF b day = none := by
            cases h : atF b day with
            | none => rfl
            | some v => rw [h] at hc4; cases hc4
          have hov : overV a b day = atF a day := by rw [overV, hv]; rfl
          refine good_run 7 (obs := []) (by kernel_rfl) trivial ?_
          refine good_cond (okV (atF a day)) (by kernel_rfl) (fun hc5 => ?_) (fun hc5 => ?_)
          · obtain ⟨v, hw⟩ := Option.isSome_iff_exists.1 (show (atF a day).isSome = true from hc5)
            have hoo : overV a b day = some v := hov.trans hw
            rw [hw]
            refine good_run 7 (obs := []) (by kernel_rfl) trivial ?_
            refine good_take (by kernel_rfl) (SVles.refl _) (SVles.refl _) (s44 ((day, out).snd) (day) (min (nextD a day) (nextD b day)) (optV (some v)) (by (first | omega | assumption | exact ⟨rfl, trivial⟩ | simp only [AllP, inK_iff, roomOK_iff, decide_eq_true_eq, Bool.and_eq_true, Bool.or_eq_true, Bool.not_eq_true', decide_eq_false_iff_not, and_true, true_and]; (first | omega | (and_intros <;> intros <;> (try and_intros) <;> first | omega | assumption | exact trivial))))) ?_
            refine good_run 9 (obs := []) (by kernel_rfl) trivial ?_
            refine good_backJ ((endD a b day, putR out ⟨day, endD a b day, v⟩)) [List.length (putR (day, out).snd { From := day, Until := min (nextD a day) (nextD b day), Value := optV (some v) }) = List.length (endD a b day, putR out { From := day, Until := endD a b day, Value := v }).snd ∧ ∀ (i : Nat), i < List.length (putR (day, out).snd { From := day, Until := min (nextD a day) (nextD b day), Value := optV (some v) }) → (fun i => Piece.cells (List.getD (putR (day, out).snd { From := day, Until := min (nextD a day) (nextD b day), Value := optV (some v) }) i default)) i = (fun i => Piece.cells (List.getD (endD a b day, putR out { From := day, Until := endD a b day, Value := v }).snd i default)) i, min (nextD a day) (nextD b day) = endD a b day, List.length a = List.length a ∧ ∀ (i : Nat), i < List.length a → (fun i => Piece.cells (List.getD a i default)) i = (fun i => Piece.cells (List.getD a i default)) i, List.length b = List.length b ∧ ∀ (i : Nat), i < List.length b → (fun i => Piece.cells (List.getD b i default)) i = (fun i => Piece.cells (List.getD b i default)) i] (by kernel_rfl) (by kernel_rfl) ⟨?_, (by rfl), ⟨rfl, fun _ _ => rfl⟩, ⟨rfl, fun _ _ => rfl⟩, trivial⟩ ?_ (by show _ < _; omega)
            · exact ⟨rfl, fun i _ => rfl⟩
            · exact ⟨by show (0 : Int) ≤ endD a b day; omega, e2, hst.2 v hoo⟩
          · have hw : atF a day = none := by
              cases h : atF a day with
              | none => rfl
              | some v => rw [h] at hc5; cases hc5
            have hoo : overV a b day = none := hov.trans hw
            refine good_run 7 (obs := []) (by kernel_rfl) trivial ?_
            refine good_backJ ((endD a b day, out)) [List.length (day, out).snd = List.length (endD a b day, out).snd ∧ ∀ (i : Nat), i < List.length (day, out).snd → (fun i => Piece.cells (List.getD (day, out).snd i default)) i = (fun i => Piece.cells (List.getD (endD a b day, out).snd i default)) i, min (nextD a day) (nextD b day) = endD a b day, List.length a = List.length a ∧ ∀ (i : Nat), i < List.length a → (fun i => Piece.cells (List.getD a i default)) i = (fun i => Piece.cells (List.getD a i default)) i, List.length b = List.length b ∧ ∀ (i : Nat), i < List.length b → (fun i => Piece.cells (List.getD b i default)) i = (fun i => Piece.cells (List.getD b i default)) i] (by kernel_rfl) (by kernel_rfl) ⟨⟨rfl, fun _ _ => rfl⟩, (by rfl), ⟨rfl, fun _ _ => rfl⟩, ⟨rfl, fun _ _ => rfl⟩, trivial⟩ ?_ (by show _ < _; omega)
            exact ⟨by show (0 : Int) ≤ endD a b day; omega, e2, hst.1 hoo⟩
      · simp only [decide_eq_false_iff_not] at hc3
        have hd : day = 1048576 := by omega
        subst hd
        have hbe := upto_end hc1 hc2 hu (fun d e q1 q2 => by unfold overV; rw [q1, q2]) (fun d q1 q2 => by unfold overV; rw [q1, q2]; rfl)
        unfold cutsL at hbe
        unfold buildR
        rw [hbe]
        refine good_run 2 (obs := []) (by kernel_rfl) trivial ?_
        refine good_leaveJ (by kernel_rfl) ?_
        refine good_run 9 (obs := []) (by kernel_rfl) trivial ?_
        refine good_cond (decide ((1024 : Int) < (↑(List.length ((1048576 : Int), out).snd) : Int))) (by kernel_rfl) (fun hc4 => ?_) (fun hc4 => ?_)
        · simp only [decide_eq_true_eq] at hc4
          rw [if_pos (by omega)]
          refine good_run 8 (obs := []) (by kernel_rfl) trivial ?_
          refine good_fin [(0 : Nat) = (0 : Nat), (8 : Int) = (8 : Int)] (by kernel_rfl) ⟨rfl, rfl, trivial⟩
        · simp only [decide_eq_false_iff_not] at hc4
          rw [if_neg (by omega)]
          refine good_run 9 (obs := []) (by kernel_rfl) trivial ?_
          refine good_fin [List.length ((1048576 : Int), out).snd = List.length (out, (0 : Int)).fst ∧ ∀ (i : Nat), i < List.length ((1048576 : Int), out).snd → (fun i => Piece.cells (List.getD ((1048576 : Int), out).snd i default)) i = (fun i => Piece.cells (List.getD (out, (0 : Int)).fst i default)) i, (0 : Int) = (0 : Int)] (by kernel_rfl) ⟨⟨rfl, fun _ _ => rfl⟩, rfl, trivial⟩
  · simp only [decide_eq_false_iff_not] at hc1
    have hk : chk2 a b = check a := if_pos hc1
    have : overR a b = ([], chk2 a b) := if_pos (by rw [hk]; exact hc1)
    rw [this, hk]
    refine good_run 8 (obs := []) (by kernel_rfl) trivial ?_
    refine good_cond (!decide (check a = (0 : Int))) (by kernel_rfl) (fun hc2 => ?_) (fun hc2 => ?_)
    · refine good_run 9 (obs := []) (by kernel_rfl) trivial ?_
      refine good_fin [(0 : Nat) = (0 : Nat), check a = check a] (by kernel_rfl) ⟨rfl, rfl, trivial⟩
    · simp only [Bool.not_eq_false', decide_eq_true_eq] at hc2
      exact (hc1 hc2).elim
theorem diff_iff (a b : List Piece) (d : Int) : ((!decide (optV (atF a d) = optV (atF b d)) || okV (atF a d) != okV (atF b d)) = true → diffV a b d = some 0) ∧ ((!decide (optV (atF a d) = optV (atF b d)) || okV (atF a d) != okV (atF b d)) = false → diffV a b d = none) := by
  unfold diffV okV optV
  cases atF a d <;> cases atF b d
  · simp
  · simp
  · simp
  · rename_i x y
    by_cases h : x = y <;> simp [h]
theorem s26 (a b : List Piece) : Spec Try.prog 26 [pieces a, pieces b] (.tup [spans (changesR a b).1, .int .i64 (changesR a b).2]) := by
  refine spec_of_good mixed Try.func26 F26_ok (by kernel_rfl) ?_
  refine good_run 9 (obs := []) (by kernel_rfl) trivial ?_
  refine good_call (c := True) (by kernel_rfl) (fun _ => SVles.refl _) (fun _ => s23 (a)) (by kernel_rfl) ?_
  refine good_run 10 (obs := []) (by kernel_rfl) trivial ?_
  refine good_cond (decide (check a = (0 : Int))) (by kernel_rfl) (fun hc1 => ?_) (fun hc1 => ?_)
  · simp only [decide_eq_true_eq] at hc1
    have hk : chk2 a b = check b := if_neg (fun h => h hc1)
    refine good_run 2 (obs := []) (by kernel_rfl) trivial ?_
    refine good_call (c := True) (by kernel_rfl) (fun _ => SVles.refl _) (fun _ => s23 (b)) (by kernel_rfl) ?_
    refine good_run 10 (obs := []) (by kernel_rfl) trivial ?_
    refine good_cond (!decide (check b = (0 : Int))) (by kernel_rfl) (fun hc2 => ?_) (fun hc2 => ?_)
    · simp only [Bool.not_eq_true', decide_eq_false_iff_not] at hc2
      have : changesR a b = ([], chk2 a b) := if_pos (by rw [hk]; exact hc2)
      rw [this, hk]
      refine good_run 9 (obs := []) (by kernel_rfl) trivial ?_
      refine good_fin [(0 : Nat) = (0 : Nat), check b = check b] (by kernel_rfl) ⟨rfl, rfl, trivial⟩
    · simp only [Bool.not_eq_false', decide_eq_true_eq] at hc2
      have : changesR a b = ((diffR a b).1.map spanOf, (diffR a b).2) := if_neg (fun h => h (hk.trans hc2))
      rw [this]
      have hu0 : UpTo (diffV a b) 0 [] := ⟨norm_nil0, fun p hp => by simp at hp, fun d => by rw [if_neg (by omega)]; rfl, by simp⟩
      refine good_run 14 (obs := []) (by kernel_rfl) trivial ?_
      refine good_loopJ (fun q : Int × List Piece => ⟨[(8, .sv (.int .i64 (q.1))), (7, .own 0), (0, LV.sv (SV.lst (3 : Nat) (List.length a) fun i => Piece.cells (List.getD a i default))), (1, LV.sv (SV.lst (3 : Nat) (List.length b) fun i => Piece.cells (List.getD b i default)))], [rowP q.2]⟩) (fun q => 0 ≤ q.1 ∧ q.1 ≤ 1048576 ∧ UpTo (diffV a b) q.1 q.2) (fun q => (1048576 - q.1).toNat) ((0, [])) [(0 : Nat) = (0 : Nat) ∧ ∀ (i : Nat), i < (0 : Nat) → cutRows (3 : Nat) [] i = (fun i => Piece.cells (List.getD ((0 : Int), []).snd i default)) i, (0 : Int) = (0 : Int), List.length a = List.length a ∧ ∀ (i : Nat), i < List.length a → (fun i => Piece.cells (List.getD a i default)) i = (fun i => Piece.cells (List.getD a i default)) i, List.length b = List.length b ∧ ∀ (i : Nat), i < List.length b → (fun i => Piece.cells (List.getD b i default)) i = (fun i => Piece.cells (List.getD b i default)) i] (by kernel_rfl) (by kernel_rfl) ⟨?_, rfl, ⟨rfl, fun _ _ => rfl⟩, ⟨rfl, fun _ _ => rfl⟩, trivial⟩ ?_ ?_
      · exact ⟨rfl, fun i hi => absurd hi (Nat.not_lt_zero i)⟩
      · exact ⟨by decide, by decide, hu0⟩
      rintro ⟨day, out⟩ ⟨h0, h1, hu⟩
      have hl := hu.len
      simp only at h0 h1 hl hu
      refine good_run 7 (obs := []) (by kernel_rfl) trivial ?_
      refine good_cond (decide (day < (1048576 : Int))) (by kernel_rfl) (fun hc3 => ?_) (fun hc3 => ?_)
      · simp only [decide_eq_true_eq] at hc3
        obtain ⟨e1, e2, e3⟩ := endD_ok (a := a) (b := b) hc3
        have hst := upto_step h0 e1 hu (fun d q1 q2 => by unfold diffV; rw [(e3 d q1 q2).1, (e3 d q1 q2).2])
        refine good_run 6 (obs := []) (by kernel_rfl) trivial ?_
        refine good_call (c := True) (by kernel_rfl) (fun _ => SVles.refl _) (fun _ => s43 (a) (day)) (by kernel_rfl) ?_
        refine good_run 2 (obs := []) (by kernel_rfl) trivial ?_
        refine good_call (c := True) (by kernel_rfl) (fun _ => SVles.refl _) (fun _ => s43 (b) (day)) (by kernel_rfl) ?_
        refine good_run 8 (obs := []) (by kernel_rfl) trivial ?_
        refine good_call (c := True) (by kernel_rfl) (fun _ => SVles.refl _) (fun _ => s20 (a) (day)) (by kernel_rfl) ?_
        refine good_run 11 (obs := []) (by kernel_rfl) trivial ?_
        refine good_call (c := True) (by kernel_rfl) (fun _ => SVles.refl _) (fun _ => s20 (b) (day)) (by kernel_rfl) ?_
        refine good_run 20 (obs := []) (by kernel_rfl) trivial ?_
        refine good_cond (!decide (optV (atF a day) = optV (atF b day)) || okV (atF a day) != okV (atF b day)) (by kernel_rfl) (fun hc4 => ?_) (fun hc4 => ?_)
        · have hv := (diff_iff a b day).1 hc4
          refine good_run 6 (obs := []) (by kernel_rfl) trivial ?_
          refine good_take (by kernel_rfl) (SVles.refl _) (SVles.cons (svle_agg (SVles.cons (SVle.refl _) (SVles.cons (SVle.refl _) (SVles.cons (svle_val_int .i64 0) (SVles.refl []))))) (SVles.refl [])) (s44 out day (min (nextD a day) (nextD b day)) 0 (by omega)) ?_
          refine good_run 9 (obs := []) (by kernel_rfl) trivial ?_
          refine good_backJ ((endD a b day, putR out ⟨day, endD a b day, 0⟩)) [List.length (putR out { From := day, Until := min (nextD a day) (nextD b day), Value := (0 : Int) }) = List.length (endD a b day, putR out { From := day, Until := endD a b day, Value := (0 : Int) }).snd ∧ ∀ (i : Nat), i < List.length (putR out { From := day, Until := min (nextD a day) (nextD b day), Value := (0 : Int) }) → (fun i => Piece.cells (List.getD (putR out { From := day, Until := min (nextD a day) (nextD b day), Value := (0 : Int) }) i default)) i = (fun i => Piece.cells (List.getD (endD a b day, putR out { From := day, Until := endD a b day, Value := (0 : Int) }).snd i default)) i, min (nextD a day) (nextD b day) = endD a b day, List.length a = List.length a ∧ ∀ (i : Nat), i < List.length a → (fun i => Piece.cells (List.getD a i default)) i = (fun i => Piece.cells (List.getD a i default)) i, List.length b = List.length b ∧ ∀ (i : Nat), i < List.length b → (fun i => Piece.cells (List.getD b i default)) i = (fun i => Piece.cells (List.getD b i default)) i] (by kernel_rfl) (by kernel_rfl) ⟨?_, (by rfl), ⟨rfl, fun _ _ => rfl⟩, ⟨rfl, fun _ _ => rfl⟩, trivial⟩ ?_ (by show _ < _; omega)
          · exact ⟨rfl, fun i _ => rfl⟩
          · exact ⟨by show (0 : Int) ≤ endD a b day; omega, e2, hst.2 0 hv⟩
        · have hv := (diff_iff a b day).2 hc4
          refine good_run 7 (obs := []) (by kernel_rfl) trivial ?_
          refine good_backJ ((endD a b day, out)) [List.length (day, out).snd = List.length (endD a b day, out).snd ∧ ∀ (i : Nat), i < List.length (day, out).snd → (fun i => Piece.cells (List.getD (day, out).snd i default)) i = (fun i => Piece.cells (List.getD (endD a b day, out).snd i default)) i, min (nextD a day) (nextD b day) = endD a b day, List.length a = List.length a ∧ ∀ (i : Nat), i < List.length a → (fun i => Piece.cells (List.getD a i default)) i = (fun i => Piece.cells (List.getD a i default)) i, List.length b = List.length b ∧ ∀ (i : Nat), i < List.length b → (fun i => Piece.cells (List.getD b i default)) i = (fun i => Piece.cells (List.getD b i default)) i] (by kernel_rfl) (by kernel_rfl) ⟨⟨rfl, fun _ _ => rfl⟩, (by rfl), ⟨rfl, fun _ _ => rfl⟩, ⟨rfl, fun _ _ => rfl⟩, trivial⟩ ?_ (by show _ < _; omega)
          exact ⟨by show (0 : Int) ≤ endD a b day; omega, e2, hst.1 hv⟩
      · simp only [decide_eq_false_iff_not] at hc3
        have hd : day = 1048576 := by omega
        subst hd
        have hbe := upto_end hc1 hc2 hu (fun d e q1 q2 => by unfold diffV; rw [q1, q2]) (fun d q1 q2 => by unfold diffV; rw [q1, q2]; exact if_pos rfl)
        unfold cutsL at hbe
        have hdr : diffR a b = if 1024 < out.length then ([], 8) else (out, 0) := by unfold diffR buildR; rw [hbe]
        refine good_run 2 (obs := []) (by kernel_rfl) trivial ?_
        refine good_leaveJ (by kernel_rfl) ?_
        refine good_run 9 (obs := []) (by kernel_rfl) trivial ?_
        refine good_cond (decide ((1024 : Int) < (↑(List.length ((1048576 : Int), out).snd) : Int))) (by kernel_rfl) (fun hc4 => ?_) (fun hc4 => ?_)
        · simp only [decide_eq_true_eq] at hc4
          rw [hdr, if_pos (by omega)]
          refine good_run 8 (obs := []) (by kernel_rfl) trivial ?_
          refine good_fin [(0 : Nat) = (0 : Nat), (8 : Int) = (8 : Int)] (by kernel_rfl) ⟨rfl, rfl, trivial⟩
        · simp only [decide_eq_false_iff_not] at hc4
          rw [hdr, if_neg (by omega)]
          refine good_run 14 (obs := []) (by kernel_rfl) trivial ?_
          refine good_loopJ (fun k : Nat => ⟨[(15, .sv (.int .i64 (k))), (14, .own 1), (7, LV.own (0 : Nat))], [Blk.row (47 : Nat) (3 : Nat) (List.length ((1048576 : Int), out).snd) true fun i => Piece.cells (List.getD ((1048576 : Int), out).snd i default), rowS ((out.take k).map spanOf)]⟩) (fun k => k ≤ out.length) (fun k => out.length - k) (0) [List.length ((1048576 : Int), out).snd = List.length ((1048576 : Int), out).snd ∧ ∀ (i : Nat), i < List.length ((1048576 : Int), out).snd → (fun i => Piece.cells (List.getD ((1048576 : Int), out).snd i default)) i = (fun i => Piece.cells (List.getD ((1048576 : Int), out).snd i default)) i, (0 : Nat) = (0 : Nat) ∧ ∀ (i : Nat), i < (0 : Nat) → cutRows (2 : Nat) [] i = (fun i => Span.cells (List.getD (List.map spanOf (List.take (0 : Nat) out)) i default)) i, (0 : Int) = (0 : Int)] (by kernel_rfl) (by kernel_rfl) ⟨⟨rfl, fun _ _ => rfl⟩, ?_, rfl, trivial⟩ (by omega) ?_
          · exact ⟨rfl, fun i hi => absurd hi (Nat.not_lt_zero i)⟩
          intro k hk
          have hml : ((out.take k).map spanOf).length ≤ k := by rw [List.length_map, List.length_take]; omega
          refine good_run 9 (obs := []) (by kernel_rfl) trivial ?_
          refine good_cond (decide ((↑k : Int) < (↑(List.length ((1048576 : Int), out).snd) : Int))) (by kernel_rfl) (fun hc5 => ?_) (fun hc5 => ?_)
          · have hlt : k < out.length := by simp only [decide_eq_true_eq] at hc5; omega
            have hs : (out.take (k + 1)).map spanOf = (out.take k).map spanOf ++ [spanOf (out.getD k default)] := by
              rw [take_snoc _ default k hlt, List.map_append]; rfl
            refine good_run 22 (obs := [(3 : Nat) = (3 : Nat) ∧ (0 : Int) ≤ (↑k : Int) ∧ (↑k : Int) < (↑(List.length ((1048576 : Int), out).snd) : Int), (0 : Nat) + (2 : Nat) ≤ (3 : Nat), (24 : Nat) = (24 : Nat) ∧ (2 : Nat) = (2 : Nat) ∧ (2 : Nat) = (2 : Nat) ∧ roomOK (List.length (List.map spanOf (List.take k out)) + (1 : Nat)) (16 : Nat), InK IntKind.i64 ((↑k : Int) + (1 : Int))]) (by kernel_rfl) (by (first | omega | assumption | exact ⟨rfl, trivial⟩ | simp only [AllP, inK_iff, roomOK_iff, decide_eq_true_eq, Bool.and_eq_true, Bool.or_eq_true, Bool.not_eq_true', decide_eq_false_iff_not, and_true, true_and]; (first | omega | (and_intros <;> intros <;> (try and_intros) <;> first | omega | assumption | exact trivial)))) ?_
            refine good_backJ (k + 1) [List.length ((1048576 : Int), out).snd = List.length ((1048576 : Int), out).snd ∧ ∀ (i : Nat), i < List.length ((1048576 : Int), out).snd → (fun i => Piece.cells (List.getD ((1048576 : Int), out).snd i default)) i = (fun i => Piece.cells (List.getD ((1048576 : Int), out).snd i default)) i, List.length (List.map spanOf (List.take k out)) + (1 : Nat) = List.length (List.map spanOf (List.take (k + (1 : Nat)) out)) ∧ ∀ (i : Nat), i < List.length (List.map spanOf (List.take k out)) + (1 : Nat) → joinGet (List.length (List.map spanOf (List.take k out))) (fun i => Span.cells (List.getD (List.map spanOf (List.take k out)) i default)) (cutRows (2 : Nat) [SV.int IntKind.i64 (List.getD ((1048576 : Int), out).snd k default).From, SV.int IntKind.i64 (List.getD ((1048576 : Int), out).snd k default).Until]) i = (fun i => Span.cells (List.getD (List.map spanOf (List.take (k + (1 : Nat)) out)) i default)) i, (↑k : Int) + (1 : Int) = (↑(k + (1 : Nat)) : Int)] (by kernel_rfl) (by kernel_rfl) ⟨⟨rfl, fun _ _ => rfl⟩, ?_, (by omega), trivial⟩ (by omega) (by show _ < _; omega)
            rw [hs]
            refine ⟨by rw [List.length_append]; rfl, fun i hi => ?_⟩
            unfold joinGet
            split
            · rename_i h; simp only; rw [getD_append_left _ _ _ h]
            · rename_i h
              have : i = ((out.take k).map spanOf).length := by omega
              subst this
              have hl' : ((out.take k).map spanOf ++ [spanOf (out.getD k default)]).getD ((out.take k).map spanOf).length default = spanOf (out.getD k default) := by
                rw [List.getD_eq_getElem?_getD, List.getElem?_append_right (Nat.le_refl _), Nat.sub_self]; rfl
              rw [Nat.sub_self]
              show _ = Span.cells (List.getD _ _ _)
              rw [hl']
              rfl
          · have hge : k = out.length := by simp only [decide_eq_false_iff_not] at hc5; omega
            subst hge
            rw [List.take_length]
            refine good_run 2 (obs := []) (by kernel_rfl) trivial ?_
            refine good_leaveJ (by kernel_rfl) ?_
            refine good_run 9 (obs := []) (by kernel_rfl) trivial ?_
            refine good_fin [List.length (List.map spanOf out) = List.length (List.map spanOf (out, (0 : Int)).fst, (out, (0 : Int)).snd).fst ∧ ∀ (i : Nat), i < List.length (List.map spanOf out) → (fun i => Span.cells (List.getD (List.map spanOf out) i default)) i = (fun i => Span.cells (List.getD (List.map spanOf (out, (0 : Int)).fst, (out, (0 : Int)).snd).fst i default)) i, (0 : Int) = (0 : Int)] (by kernel_rfl) ⟨⟨rfl, fun _ _ => rfl⟩, rfl, trivial⟩
  · simp only [decide_eq_false_iff_not] at hc1
    have hk : chk2 a b = check a := if_pos hc1
    have : changesR a b = ([], chk2 a b) := if_pos (by rw [hk]; exact hc1)
    rw [this, hk]
    refine good_run 8 (obs := []) (by kernel_rfl) trivial ?_
    refine good_cond (!decide (check a = (0 : Int))) (by kernel_rfl) (fun hc2 => ?_) (fun hc2 => ?_)
    · refine good_run 9 (obs := []) (by kernel_rfl) trivial ?_
      refine good_fin [(0 : Nat) = (0 : Nat), check a = check a] (by kernel_rfl) ⟨rfl, rfl, trivial⟩
    · simp only [Bool.not_eq_false', decide_eq_true_eq] at hc2
      exact (hc1 hc2).elim
end Go.Sx.T
