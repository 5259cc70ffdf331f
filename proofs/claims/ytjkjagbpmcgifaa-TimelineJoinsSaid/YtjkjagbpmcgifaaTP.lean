/- Contracts of functions of the program, each proved by running its code symbolically (TP). -/
import Derived.Test.YtjkjagbpmcgifaaTO
namespace Go.Sx.T
open Go Go.Proofs Go.Sx
set_option maxRecDepth 100000
set_option maxHeartbeats 4000000
set_option linter.unusedVariables false
set_option linter.unusedSimpArgs false
def anyS (l : List Span) (d : Int) : Bool := l.any fun s => decide (s.From ≤ d) && decide (d < s.Until)
theorem norm_at : ∀ {r : List Piece}, Norm r → ∀ {p : Piece} {d : Int}, p ∈ r → p.From ≤ d → d < p.Until → atF r d = some p.Value
  | q :: r, h, p, d, hp, h1, h2 => by
    rw [atF_cons]
    rcases List.mem_cons.1 hp with rfl | hp
    · rw [if_pos ⟨h1, h2⟩]
    · have := (h.head p hp).le
      rw [if_neg (by omega)]
      exact norm_at h.tail hp h1 h2
theorem any_at : ∀ (r : List Piece) (d : Int), anyS (r.map spanOf) d = okV (atF r d)
  | [], d => rfl
  | p :: r, d => by
    rw [atF_cons]
    have h := any_at r d
    unfold anyS at h ⊢
    rw [List.map_cons, List.any_cons, h]
    by_cases hp : p.From ≤ d ∧ d < p.Until
    · rw [if_pos hp]
      show (decide (p.From ≤ d) && decide (d < p.Until) || _) = true
      rw [decide_eq_true hp.1, decide_eq_true hp.2]; rfl
    · rw [if_neg hp]
      have : (decide (p.From ≤ d) && decide (d < p.Until)) = false := by
        rw [Bool.eq_false_iff]; intro hh
        simp only [Bool.and_eq_true, decide_eq_true_eq] at hh; exact hp hh
      show (decide (p.From ≤ d) && decide (d < p.Until) || _) = _
      rw [this]; rfl
theorem anyS_snoc (l : List Span) (s : Span) (d : Int) : anyS (l ++ [s]) d = (anyS l d || (decide (s.From ≤ d) && decide (d < s.Until))) := by simp [anyS]
theorem s7 (a b : List Piece) (day : Int) : Spec Try.prog 7 [pieces a, pieces b, .int .i64 day] (.bool true) := by
  refine spec_of_good mixed Try.func7 F7_ok (by kernel_rfl) ?_
  refine good_run 8 (obs := []) (by kernel_rfl) trivial ?_
  refine good_call (c := True) (by kernel_rfl) (fun _ => SVles.refl _) (fun _ => s10) (by kernel_rfl) ?_
  refine good_run 3 (obs := []) (by kernel_rfl) trivial ?_
  refine good_cond false (by kernel_rfl) (fun h => nomatch h) (fun _ => ?_)
  refine good_run 14 (obs := []) (by kernel_rfl) trivial ?_
  refine good_cond (decide ((40 : Int) < (↑(List.length a) : Int)) || decide ((40 : Int) < (↑(List.length b) : Int))) (by kernel_rfl) (fun hc1 => ?_) (fun hc1 => ?_)
  · refine good_run 7 (obs := []) (by kernel_rfl) trivial ?_
    refine good_fin [true = true] (by kernel_rfl) ⟨rfl, trivial⟩
  · have hl : a.length ≤ 40 ∧ b.length ≤ 40 := by
      simp only [Bool.or_eq_false_iff, decide_eq_false_iff_not] at hc1; omega
    refine good_run 5 (obs := []) (by kernel_rfl) trivial ?_
    refine good_call (c := True) (by kernel_rfl) (fun _ => SVles.refl _) (fun _ => s25 (a) (b)) (by kernel_rfl) ?_
    refine good_run 14 (obs := []) (by kernel_rfl) trivial ?_
    refine good_cond (!decide ((changesR a b).snd = (0 : Int))) (by kernel_rfl) (fun hc2 => ?_) (fun hc2 => ?_)
    · simp only [Bool.not_eq_true', decide_eq_false_iff_not] at hc2
      have := changes_err (by omega) hc2
      refine good_run 10 (obs := []) (by kernel_rfl) trivial ?_
      refine good_fin [decide ((↑(List.length (changesR a b).fst) : Int) = (0 : Int)) = true] (by kernel_rfl) ⟨?_, trivial⟩
      all_goals (rw [this]; rfl)
    · simp only [Bool.not_eq_false', decide_eq_true_eq] at hc2
      have hck := changes_ok0 hc2
      obtain ⟨r, er, m⟩ := diff_made (by omega) hck
      rw [er]
      have rlen := m.len
      have hqn : (r.map spanOf).length ≤ 1000 := by rw [List.length_map]; omega
      have hval : ∀ p ∈ r, p.Value = 0 := fun p hp => by
        have hv := m.norm.ok p hp
        have h1 := norm_at m.norm hp (d := p.From) (by omega) (by omega)
        rw [m.at', diffV] at h1
        split at h1
        · cases h1
        · injection h1 with h1; exact h1.symm
      have hsp : ∀ k, k < (r.map spanOf).length → 0 ≤ ((r.map spanOf).getD k default).From ∧ ((r.map spanOf).getD k default).From < ((r.map spanOf).getD k default).Until ∧ ((r.map spanOf).getD k default).Until ≤ 1048576 := fun k hk => by
        rw [List.length_map] at hk
        rw [getD_map (d := default) _ _ _ hk]
        have hm := getD_mem r default k hk
        exact ⟨(m.rng _ hm).1, m.norm.ok _ hm, (m.rng _ hm).2⟩
      have hgap : ∀ k, 0 < k → k < (r.map spanOf).length → ((r.map spanOf).getD (k - 1) default).Until < ((r.map spanOf).getD k default).From := fun k h0 hk => by
        rw [List.length_map] at hk
        rw [getD_map (d := default) _ _ _ hk, getD_map (d := default) _ _ _ (by omega)]
        have hR : RP (r.getD (k - 1) default) (r.getD k default) := by
          rw [getD_of_lt r (k - 1) (by omega), getD_of_lt r k hk]
          exact List.pairwise_iff_getElem.1 m.norm.ord (k - 1) k (by omega) hk (by omega)
        rcases hR with h1 | h1
        · exact h1
        · exact (h1.2 (by rw [hval _ (getD_mem r default (k - 1) (by omega)), hval _ (getD_mem r default k hk)])).elim
      refine good_run 5 (obs := []) (by kernel_rfl) trivial ?_
      refine good_call (c := True) (by kernel_rfl) (fun _ => SVles.refl _) (fun _ => s17 (a) (day)) (by kernel_rfl) ?_
      refine good_run 11 (obs := []) (by kernel_rfl) trivial ?_
      refine good_call (c := True) (by kernel_rfl) (fun _ => SVles.refl _) (fun _ => s17 (b) (day)) (by kernel_rfl) ?_
      refine good_run 21 (obs := []) (by kernel_rfl) trivial ?_
      refine good_loopJ (fun k : Nat => ⟨[(51, .sv (.int .i64 (k))), (13, .sv (.bool (anyS ((r.map spanOf).take k) day))), (50, LV.sv (SV.int IntKind.i64 (↑(List.length (List.map spanOf r, (0 : Int)).fst) : Int))), (49, LV.sv (SV.lst (2 : Nat) (List.length (List.map spanOf r, (0 : Int)).fst) fun i => Span.cells (List.getD (List.map spanOf r, (0 : Int)).fst i default))), (12, LV.sv (SV.bool (okV (atF b day)))), (11, LV.sv (SV.int IntKind.i64 (optV (atF b day)))), (10, LV.sv (SV.bool (okV (atF a day)))), (9, LV.sv (SV.int IntKind.i64 (optV (atF a day)))), (7, LV.sv (SV.lst (2 : Nat) (List.length (List.map spanOf r, (0 : Int)).fst) fun i => Span.cells (List.getD (List.map spanOf r, (0 : Int)).fst i default))), (0, LV.sv (SV.lst (3 : Nat) (List.length a) fun i => Piece.cells (List.getD a i default))), (1, LV.sv (SV.lst (3 : Nat) (List.length b) fun i => Piece.cells (List.getD b i default))), (2, LV.sv (SV.int IntKind.i64 day))], []⟩) (fun k => k ≤ (r.map spanOf).length) (fun k => (r.map spanOf).length - k) (0) [(0 : Int) = (0 : Int), false = anyS [] day, (↑(List.length (List.map spanOf r, (0 : Int)).fst) : Int) = (↑(List.length (List.map spanOf r, (0 : Int)).fst) : Int), List.length (List.map spanOf r, (0 : Int)).fst = List.length (List.map spanOf r, (0 : Int)).fst ∧ ∀ (i : Nat), i < List.length (List.map spanOf r, (0 : Int)).fst → (fun i => Span.cells (List.getD (List.map spanOf r, (0 : Int)).fst i default)) i = (fun i => Span.cells (List.getD (List.map spanOf r, (0 : Int)).fst i default)) i, okV (atF b day) = okV (atF b day), optV (atF b day) = optV (atF b day), okV (atF a day) = okV (atF a day), optV (atF a day) = optV (atF a day), List.length (List.map spanOf r, (0 : Int)).fst = List.length (List.map spanOf r, (0 : Int)).fst ∧ ∀ (i : Nat), i < List.length (List.map spanOf r, (0 : Int)).fst → (fun i => Span.cells (List.getD (List.map spanOf r, (0 : Int)).fst i default)) i = (fun i => Span.cells (List.getD (List.map spanOf r, (0 : Int)).fst i default)) i, List.length a = List.length a ∧ ∀ (i : Nat), i < List.length a → (fun i => Piece.cells (List.getD a i default)) i = (fun i => Piece.cells (List.getD a i default)) i, List.length b = List.length b ∧ ∀ (i : Nat), i < List.length b → (fun i => Piece.cells (List.getD b i default)) i = (fun i => Piece.cells (List.getD b i default)) i, day = day] (by kernel_rfl) (by kernel_rfl) ⟨rfl, (by assumption), rfl, ⟨rfl, fun _ _ => rfl⟩, rfl, rfl, rfl, rfl, ⟨rfl, fun _ _ => rfl⟩, ⟨rfl, fun _ _ => rfl⟩, ⟨rfl, fun _ _ => rfl⟩, rfl, trivial⟩ (by omega) ?_
      intro k hk
      have ek : ((k : Int) - 1).toNat = k - 1 := by omega
      refine good_run 6 (obs := []) (by kernel_rfl) trivial ?_
      refine good_cond (decide ((↑k : Int) < (↑(List.length (List.map spanOf r, (0 : Int)).fst) : Int))) (by kernel_rfl) (fun hc3 => ?_) (fun hc3 => ?_)
      · have hlt : k < (r.map spanOf).length := by simp only [decide_eq_true_eq] at hc3; omega
        have h1 := hsp k hlt
        have h2 := hgap k
        have hs := take_snoc (r.map spanOf) default k hlt
        refine good_run 48 (obs := [(2 : Nat) = (2 : Nat) ∧ (0 : Int) ≤ (↑k : Int) ∧ (↑k : Int) < (↑(List.length (List.map spanOf r, (0 : Int)).fst) : Int), (0 : Nat) + (2 : Nat) ≤ (2 : Nat), (2 : Nat) = (2 : Nat) ∧ (0 : Nat) + (2 : Nat) ≤ (2 : Nat), decide ((0 : Int) < (↑k : Int)) = true ∧ (decide ((List.getD (List.map spanOf r, (0 : Int)).fst k default).From < (0 : Int)) || decide ((List.getD (List.map spanOf r, (0 : Int)).fst k default).Until ≤ (List.getD (List.map spanOf r, (0 : Int)).fst k default).From) || decide ((1048576 : Int) < (List.getD (List.map spanOf r, (0 : Int)).fst k default).Until)) = false ∧ True → InK IntKind.i64 ((↑k : Int) - (1 : Int)), decide ((0 : Int) < (↑k : Int)) = true ∧ (decide ((List.getD (List.map spanOf r, (0 : Int)).fst k default).From < (0 : Int)) || decide ((List.getD (List.map spanOf r, (0 : Int)).fst k default).Until ≤ (List.getD (List.map spanOf r, (0 : Int)).fst k default).From) || decide ((1048576 : Int) < (List.getD (List.map spanOf r, (0 : Int)).fst k default).Until)) = false ∧ True → (2 : Nat) = (2 : Nat) ∧ (0 : Int) ≤ (↑k : Int) - (1 : Int) ∧ (↑k : Int) - (1 : Int) < (↑(List.length (List.map spanOf r, (0 : Int)).fst) : Int)]) (by kernel_rfl) (by (first | omega | assumption | exact ⟨rfl, trivial⟩ | simp only [AllP, inK_iff, roomOK_iff, decide_eq_true_eq, Bool.and_eq_true, Bool.or_eq_true, Bool.not_eq_true', decide_eq_false_iff_not, and_true, true_and]; (first | omega | (and_intros <;> intros <;> (try and_intros) <;> first | omega | assumption | exact trivial)))) ?_
        refine good_cond (decide ((List.getD (List.map spanOf r, (0 : Int)).fst k default).From < (0 : Int)) || decide ((List.getD (List.map spanOf r, (0 : Int)).fst k default).Until ≤ (List.getD (List.map spanOf r, (0 : Int)).fst k default).From) || decide ((1048576 : Int) < (List.getD (List.map spanOf r, (0 : Int)).fst k default).Until) || decide ((0 : Int) < (↑k : Int)) && decide ((List.getD (List.map spanOf r, (0 : Int)).fst k default).From ≤ (List.getD (List.map spanOf r, (0 : Int)).fst (Int.toNat ((↑k : Int) - (1 : Int))) default).Until)) (by kernel_rfl) (fun hc4 => ?_) (fun hc4 => ?_)
        · exfalso
          rw [ek] at hc4
          simp only [Bool.or_eq_true, Bool.and_eq_true, decide_eq_true_eq] at hc4
          rcases hc4 with ((h | h) | h) | ⟨h, h'⟩
          · omega
          · omega
          · omega
          · have := h2 (by omega) hlt; omega
        · refine good_run 24 (obs := [InK IntKind.i64 ((↑k : Int) + (1 : Int))]) (by kernel_rfl) (by (first | omega | assumption | exact ⟨rfl, trivial⟩ | simp only [AllP, inK_iff, roomOK_iff, decide_eq_true_eq, Bool.and_eq_true, Bool.or_eq_true, Bool.not_eq_true', decide_eq_false_iff_not, and_true, true_and]; (first | omega | (and_intros <;> intros <;> (try and_intros) <;> first | omega | assumption | exact trivial)))) ?_
          refine good_backJ (k + 1) [(↑k : Int) + (1 : Int) = (↑(k + (1 : Nat)) : Int), (anyS (List.take k (List.map spanOf r)) day || decide ((List.getD (List.map spanOf r, (0 : Int)).fst k default).From ≤ day) && decide (day < (List.getD (List.map spanOf r, (0 : Int)).fst k default).Until)) = anyS (List.take (k + (1 : Nat)) (List.map spanOf r)) day, (↑(List.length (List.map spanOf r, (0 : Int)).fst) : Int) = (↑(List.length (List.map spanOf r, (0 : Int)).fst) : Int), List.length (List.map spanOf r, (0 : Int)).fst = List.length (List.map spanOf r, (0 : Int)).fst ∧ ∀ (i : Nat), i < List.length (List.map spanOf r, (0 : Int)).fst → (fun i => Span.cells (List.getD (List.map spanOf r, (0 : Int)).fst i default)) i = (fun i => Span.cells (List.getD (List.map spanOf r, (0 : Int)).fst i default)) i, okV (atF b day) = okV (atF b day), optV (atF b day) = optV (atF b day), okV (atF a day) = okV (atF a day), optV (atF a day) = optV (atF a day), List.length (List.map spanOf r, (0 : Int)).fst = List.length (List.map spanOf r, (0 : Int)).fst ∧ ∀ (i : Nat), i < List.length (List.map spanOf r, (0 : Int)).fst → (fun i => Span.cells (List.getD (List.map spanOf r, (0 : Int)).fst i default)) i = (fun i => Span.cells (List.getD (List.map spanOf r, (0 : Int)).fst i default)) i, List.length a = List.length a ∧ ∀ (i : Nat), i < List.length a → (fun i => Piece.cells (List.getD a i default)) i = (fun i => Piece.cells (List.getD a i default)) i, List.length b = List.length b ∧ ∀ (i : Nat), i < List.length b → (fun i => Piece.cells (List.getD b i default)) i = (fun i => Piece.cells (List.getD b i default)) i, day = day] (by kernel_rfl) (by kernel_rfl) ⟨(by omega), ?_, rfl, ⟨rfl, fun _ _ => rfl⟩, rfl, rfl, rfl, rfl, ⟨rfl, fun _ _ => rfl⟩, ⟨rfl, fun _ _ => rfl⟩, ⟨rfl, fun _ _ => rfl⟩, rfl, trivial⟩ (by omega) (by show _ < _; omega)
          rw [hs, anyS_snoc]
      · have hge : k = (r.map spanOf).length := by simp only [decide_eq_false_iff_not] at hc3; omega
        subst hge
        rw [List.take_length, any_at, m.at']
        refine good_run 2 (obs := []) (by kernel_rfl) trivial ?_
        refine good_leaveJ (by kernel_rfl) ?_
        refine good_run 20 (obs := []) (by kernel_rfl) trivial ?_
        refine good_call (c := (okV (diffV a b day) == (!decide (optV (atF a day) = optV (atF b day)) || okV (atF a day) != okV (atF b day))) = true ∧ True) (by kernel_rfl) (fun _ => SVles.refl _) (fun _ => s16 (a) (b)) (by kernel_rfl) ?_
        refine good_run 7 (obs := []) (by kernel_rfl) trivial ?_
        refine good_fin [(okV (diffV a b day) == (!decide (optV (atF a day) = optV (atF b day)) || okV (atF a day) != okV (atF b day)) && decide ((↑(List.length (List.map spanOf r, (0 : Int)).fst) : Int) = (0 : Int)) == decide (a = b)) = true] (by kernel_rfl) ⟨?_, trivial⟩
        have h1 : okV (diffV a b day) = (!decide (optV (atF a day) = optV (atF b day)) || okV (atF a day) != okV (atF b day)) := by
          unfold diffV okV optV
          cases atF a day <;> cases atF b day
          · simp
          · simp
          · simp
          · rename_i x y
            by_cases h : x = y <;> simp [h]
        have h2 : decide (((r.map spanOf).length : Int) = 0) = decide (a = b) := by
          by_cases hab : a = b
          · rw [decide_eq_true hab]
            have hr0 : r = [] := by
              cases hr : r with
              | nil => rfl
              | cons p r' =>
                exfalso
                have hm : p ∈ r := by rw [hr]; simp
                have hv := m.norm.ok p hm
                have h1 := atF_isSome hm (d := p.From) (by omega) (by omega)
                rw [m.at', diffV, hab, if_pos rfl] at h1
                exact h1 rfl
            rw [hr0]; rfl
          · rw [decide_eq_false hab]
            refine decide_eq_false fun hlen => hab ?_
            have hr0 : r = [] := List.eq_nil_of_length_eq_zero (by rw [List.length_map] at hlen; omega)
            refine norm_unique (check_norm m.ca).1 (check_norm m.cb).1 fun d => ?_
            have h1 := m.at' d
            rw [hr0, atF_nil, diffV] at h1
            split at h1
            · assumption
            · cases h1
        rw [← h1]
        show (okV (diffV a b day) == okV (diffV a b day) && decide (((r.map spanOf).length : Int) = 0) == decide (a = b)) = true
        rw [h2]
        simp
end Go.Sx.T
