/- Contracts of functions of the program, each proved by running its code symbolically (TO). -/
import Derived.Test.YtjkjagbpmcgifaaTN
namespace Go.Sx.T
open Go Go.Proofs Go.Sx
set_option maxRecDepth 100000
set_option maxHeartbeats 4000000
set_option linter.unusedVariables false
set_option linter.unusedSimpArgs false
theorem pair_at {a b : List Piece} {g : Int → Option Int} (hg : ∀ d e, atF a d = atF a e → atF b d = atF b e → g d = g e) (h0 : ∀ d, atF a d = none → atF b d = none → g d = none)
    (ha : ∀ p ∈ a, p.From < p.Until) (hb : ∀ p ∈ b, p.From < p.Until) :
    Norm (buildAt (cutsL [] [a, b]) g (cutsL [] [a, b]).length) ∧ ∀ d, atF (buildAt (cutsL [] [a, b]) g (cutsL [] [a, b]).length) d = g d := by
  have hD := cuts_asc [] [a, b]
  have af : ∀ p ∈ a, p.From ∈ cutsL [] [a, b] := fun p hp => mem_cuts.2 (.inr ⟨a, by simp, p, hp, .inl rfl⟩)
  have au : ∀ p ∈ a, p.Until ∈ cutsL [] [a, b] := fun p hp => mem_cuts.2 (.inr ⟨a, by simp, p, hp, .inr rfl⟩)
  have bf : ∀ p ∈ b, p.From ∈ cutsL [] [a, b] := fun p hp => mem_cuts.2 (.inr ⟨b, by simp, p, hp, .inl rfl⟩)
  have bu : ∀ p ∈ b, p.Until ∈ cutsL [] [a, b] := fun p hp => mem_cuts.2 (.inr ⟨b, by simp, p, hp, .inr rfl⟩)
  refine build_all hD (fun j d hj h1 h2 => ?_) (fun d hd => ?_) (fun d hd => ?_)
  · refine hg _ _ (atF_congr fun p hp => ?_) (atF_congr fun p hp => ?_)
    · have c1 := between hD hj h1 h2 (af p hp)
      have c2 := between hD hj h1 h2 (au p hp)
      omega
    · have c1 := between hD hj h1 h2 (bf p hp)
      have c2 := between hD hj h1 h2 (bu p hp)
      omega
  · exact h0 d (atF_none_of fun p hp hh => by have := hd _ (af p hp); omega) (atF_none_of fun p hp hh => by have := hd _ (bf p hp); omega)
  · exact h0 d (atF_none_of fun p hp hh => by have := hd _ (au p hp); omega) (atF_none_of fun p hp hh => by have := hd _ (bu p hp); omega)
theorem pair_len (a b : List Piece) (g : Int → Option Int) : (buildAt (cutsL [] [a, b]) g (cutsL [] [a, b]).length).length ≤ 2 * (a.length + b.length) := by
  have hcl := cut_len [] [a, b]
  simp only [List.length_nil, List.flatten_cons, List.flatten_nil, List.append_nil, List.length_append, Nat.zero_add] at hcl
  have := buildAt_len (cutsL [] [a, b]) g (cutsL [] [a, b]).length
  have h2 : (cutsL [] [a, b]).length ≤ 2 * (a.length + b.length) := hcl
  omega
theorem build_small {a b : List Piece} {g : Int → Option Int} (h : a.length + b.length ≤ 500) : buildR (cutsL [] [a, b]) g = (buildAt (cutsL [] [a, b]) g (cutsL [] [a, b]).length, 0) := by
  have := pair_len a b g
  rw [buildR, if_neg (by omega)]
structure Made (a b r : List Piece) (g : Int → Option Int) : Prop where
  ca : check a = 0
  cb : check b = 0
  norm : Norm r
  at' : ∀ d, atF r d = g d
  len : r.length ≤ 2 * (a.length + b.length)
  rng : ∀ p ∈ r, 0 ≤ p.From ∧ p.Until ≤ 1048576
theorem pair_made {a b : List Piece} {g : Int → Option Int} (ha : check a = 0) (hb : check b = 0) (hg : ∀ d e, atF a d = atF a e → atF b d = atF b e → g d = g e) (h0 : ∀ d, atF a d = none → atF b d = none → g d = none) :
    Made a b (buildAt (cutsL [] [a, b]) g (cutsL [] [a, b]).length) g := by
  obtain ⟨h1, h2⟩ := pair_at hg h0 (check_norm ha).1.ok (check_norm hb).1.ok
  refine ⟨ha, hb, h1, h2, pair_len a b g, norm_bounds h1 h2 fun d hd => ?_⟩
  by_cases h3 : atF a d = none
  · by_cases h4 : atF b d = none
    · exact (hd (h0 d h3 h4)).elim
    · exact atF_range hb h4
  · exact atF_range ha h3
theorem over_made {a b : List Piece} (h : a.length + b.length ≤ 500) (hc : chk2 a b = 0) : ∃ r, overR a b = (r, 0) ∧ Made a b r (overV a b) := by
  obtain ⟨k1, k2⟩ := chk2_zero hc
  refine ⟨_, ?_, pair_made k1 k2 (fun d e h1 h2 => by rw [overV, overV, h1, h2]) (fun d h1 h2 => by rw [overV, h1, h2]; rfl)⟩
  rw [overR, if_neg (fun hh => hh hc)]
  exact build_small h
theorem diff_made {a b : List Piece} (h : a.length + b.length ≤ 500) (hc : chk2 a b = 0) : ∃ r, changesR a b = (r.map spanOf, 0) ∧ Made a b r (diffV a b) := by
  obtain ⟨k1, k2⟩ := chk2_zero hc
  refine ⟨_, ?_, pair_made k1 k2 (fun d e h1 h2 => by rw [diffV, diffV, h1, h2]) (fun d h1 h2 => by rw [diffV, h1, h2]; rfl)⟩
  rw [changesR, if_neg (fun hh => hh hc), diffR]
  rw [show isort (keysOf (psOf [] [a, b])) = cutsL [] [a, b] from rfl, build_small h]
theorem over_err {a b : List Piece} (h : a.length + b.length ≤ 500) (he : (overR a b).2 ≠ 0) : (overR a b).1 = [] := by
  by_cases hc : chk2 a b = 0
  · obtain ⟨r, e, _⟩ := over_made h hc; rw [e] at he; exact (he rfl).elim
  · rw [overR, if_pos hc]
theorem changes_err {a b : List Piece} (h : a.length + b.length ≤ 500) (he : (changesR a b).2 ≠ 0) : (changesR a b).1 = [] := by
  by_cases hc : chk2 a b = 0
  · obtain ⟨r, e, _⟩ := diff_made h hc; rw [e] at he; exact (he rfl).elim
  · rw [changesR, if_pos hc]
theorem over_ok0 {a b : List Piece} (h : (overR a b).2 = 0) : chk2 a b = 0 := by
  refine Classical.byContradiction fun hc => ?_
  rw [overR, if_pos hc] at h; exact hc h
theorem changes_ok0 {a b : List Piece} (h : (changesR a b).2 = 0) : chk2 a b = 0 := by
  refine Classical.byContradiction fun hc => ?_
  rw [changesR, if_pos hc] at h; exact hc h
theorem over_self {a b c : List Piece} (h : a.length + b.length ≤ 500) (hc : chk2 a b = 0) (hn : check c = 0) (hf : ∀ d, overV a b d = atF c d) : overR a b = (c, 0) := by
  obtain ⟨r, e, m⟩ := over_made h hc
  rw [e, norm_unique m.norm (check_norm hn).1 fun d => (m.at' d).trans (hf d)]
theorem check_nil : check [] = 0 := rfl
theorem s9 (a b : List Piece) (day : Int) : Spec Try.prog 9 [pieces a, pieces b, .int .i64 day] (.bool true) := by
  refine spec_of_good mixed Try.func9 F9_ok (by kernel_rfl) ?_
  refine good_run 8 (obs := []) (by kernel_rfl) trivial ?_
  refine good_call (c := True) (by kernel_rfl) (fun _ => SVles.refl _) (fun _ => s10) (by kernel_rfl) ?_
  refine good_run 3 (obs := []) (by kernel_rfl) trivial ?_
  refine good_cond false (by kernel_rfl) (fun h => nomatch h) (fun _ => ?_)
  refine good_run 14 (obs := []) (by kernel_rfl) trivial ?_
  refine good_cond (decide ((40 : Int) < (↑(List.length a) : Int)) || decide ((40 : Int) < (↑(List.length b) : Int))) (by kernel_rfl) (fun hc1 => ?_) (fun hc1 => ?_)
  · refine good_run 7 (obs := []) (by kernel_rfl) trivial ?_
    refine good_fin [true = true] (by kernel_rfl) ⟨rfl, trivial⟩
  · have hl : a.length ≤ 40 ∧ b.length ≤ 40 := by
      simp only [Bool.or_eq_false_iff, decide_eq_false_iff_not] at hc1; omega
    refine good_run 5 (obs := []) (by kernel_rfl) trivial ?_
    refine good_call (c := True) (by kernel_rfl) (fun _ => SVles.refl _) (fun _ => s27 (a) (b)) (by kernel_rfl) ?_
    refine good_run 14 (obs := []) (by kernel_rfl) trivial ?_
    refine good_cond (!decide ((overR a b).snd = (0 : Int))) (by kernel_rfl) (fun hc2 => ?_) (fun hc2 => ?_)
    · simp only [Bool.not_eq_true', decide_eq_false_iff_not] at hc2
      have := over_err (by omega) hc2
      refine good_run 10 (obs := []) (by kernel_rfl) trivial ?_
      refine good_fin [decide ((↑(List.length (overR a b).fst) : Int) = (0 : Int)) = true] (by kernel_rfl) ⟨?_, trivial⟩
      all_goals (rw [this]; rfl)
    · simp only [Bool.not_eq_false', decide_eq_true_eq] at hc2
      have hck := over_ok0 hc2
      obtain ⟨r, er, m⟩ := over_made (by omega) hck
      rw [er]
      have rlen := m.len
      have rchk : check r = 0 := norm_check m.norm m.rng (by omega)
      have ca := m.ca
      have z1 : chk2 a [] = 0 := by rw [chk2, if_neg (fun h => h ca), check_nil]
      have z2 : chk2 [] a = 0 := by rw [chk2, if_neg (fun h => h check_nil)]; exact ca
      have o1 : overR a [] = (a, 0) := over_self (by simp; omega) z1 ca fun d => rfl
      have o2 : overR [] a = (a, 0) := over_self (by simp; omega) z2 ca fun d => by rw [overV, atF_nil]; cases atF a d <;> rfl
      have z3 : chk2 a r = 0 := by rw [chk2, if_neg (fun h => h ca)]; exact rchk
      obtain ⟨q, eq', mq⟩ := diff_made (a := a) (b := r) (by omega) z3
      have w27l : Spec Try.prog 27 [pieces a, pieces []] (.tup [pieces a, .int .i64 0]) := by have := s27 a []; rwa [o1] at this
      have w27r : Spec Try.prog 27 [pieces [], pieces a] (.tup [pieces a, .int .i64 0]) := by have := s27 [] a; rwa [o2] at this
      have s25a : Spec Try.prog 25 [pieces a, pieces r] (.tup [spans (q.map spanOf), .int .i64 0]) := by have := s25 a r; rwa [eq'] at this
      have hqn : (q.map spanOf).length ≤ 1000 := by have := mq.len; rw [List.length_map]; omega
      have hbs : ∀ k, k < (q.map spanOf).length → okV (atF b ((q.map spanOf).getD k default).From) = true := by
        intro k hk
        rw [List.length_map] at hk
        rw [getD_map (d := default) _ _ _ hk]
        have hm := getD_mem q default k hk
        have hv := mq.norm.ok _ hm
        have h1 := atF_isSome hm (d := (q.getD k default).From) (by omega) (by omega)
        rw [mq.at', diffV] at h1
        show (atF b (q.getD k default).From).isSome = true
        cases hb : atF b (q.getD k default).From with
        | some v => rfl
        | none =>
          exfalso
          rw [if_pos] at h1
          · exact h1 rfl
          · rw [m.at', overV, hb]; rfl
      refine good_run 5 (obs := []) (by kernel_rfl) trivial ?_
      refine good_call (c := True) (by kernel_rfl) (fun _ => SVles.refl _) (fun _ => s17 (a) (day)) (by kernel_rfl) ?_
      refine good_run 11 (obs := []) (by kernel_rfl) trivial ?_
      refine good_call (c := True) (by kernel_rfl) (fun _ => SVles.refl _) (fun _ => s17 (b) (day)) (by kernel_rfl) ?_
      refine good_run 11 (obs := []) (by kernel_rfl) trivial ?_
      refine good_call (c := True) (by kernel_rfl) (fun _ => SVles.refl _) (fun _ => s17 ((r, (0 : Int)).fst) (day)) (by kernel_rfl) ?_
      refine good_run 13 (obs := []) (by kernel_rfl) trivial ?_
      refine good_cond (okV (atF b day)) (by kernel_rfl) (fun hc3 => ?_) (fun hc3 => ?_)
      · have hat : atF r day = atF b day := by rw [m.at', overV]; cases h : atF b day with | none => (rw [h] at hc3; cases hc3) | some v => rfl
        refine good_run 9 (obs := []) (by kernel_rfl) trivial ?_
        refine good_call (args := [SV.lst (3 : Nat) (List.length a) fun i => Piece.cells (List.getD a i default), SV.val (Value.slice none (0 : Nat) (0 : Nat))]) (c := True) (by kernel_rfl) (fun _ => SVles.cons (SVle.refl _) (SVles.cons no_piece (SVles.refl []))) (fun _ => w27l) (by kernel_rfl) ?_
        refine good_run 10 (obs := []) (by kernel_rfl) trivial ?_
        refine good_call (args := [SV.val (Value.slice none (0 : Nat) (0 : Nat)), SV.lst (3 : Nat) (List.length a) fun i => Piece.cells (List.getD a i default)]) (c := True) (by kernel_rfl) (fun _ => SVles.cons no_piece (SVles.refl _)) (fun _ => w27r) (by kernel_rfl) ?_
        refine good_run 11 (obs := []) (by kernel_rfl) trivial ?_
        refine good_call (c := True) (by kernel_rfl) (fun _ => SVles.refl _) (fun _ => s25a) (by kernel_rfl) ?_
        refine good_run 11 (obs := []) (by kernel_rfl) trivial ?_
        refine good_call (c := True) (by kernel_rfl) (fun _ => SVles.refl _) (fun _ => s18 ((r, (0 : Int)).fst)) (by kernel_rfl) ?_
        refine good_run 27 (obs := []) (by kernel_rfl) trivial ?_
        refine good_call (c := (!decide (check (r, (0 : Int)).fst = (0 : Int)) || !decide (optV (atF (r, (0 : Int)).fst day) = optV (atF b day)) || okV (atF (r, (0 : Int)).fst day) != true || !decide ((0 : Int) = (0 : Int)) || !decide ((0 : Int) = (0 : Int)) || !decide ((0 : Int) = (0 : Int))) = false ∧ True) (by kernel_rfl) (fun _ => SVles.refl _) (fun _ => s16 (a) (a)) (by kernel_rfl) ?_
        refine good_run 7 (obs := []) (by kernel_rfl) trivial ?_
        refine good_call (c := (!decide (check (r, (0 : Int)).fst = (0 : Int)) || !decide (optV (atF (r, (0 : Int)).fst day) = optV (atF b day)) || okV (atF (r, (0 : Int)).fst day) != true || !decide ((0 : Int) = (0 : Int)) || !decide ((0 : Int) = (0 : Int)) || !decide ((0 : Int) = (0 : Int)) || !decide (a = a)) = false ∧ True) (by kernel_rfl) (fun _ => SVles.refl _) (fun _ => s16 (a) (a)) (by kernel_rfl) ?_
        refine good_run 5 (obs := []) (by kernel_rfl) trivial ?_
        refine good_cond (!decide (check (r, (0 : Int)).fst = (0 : Int)) || !decide (optV (atF (r, (0 : Int)).fst day) = optV (atF b day)) || okV (atF (r, (0 : Int)).fst day) != true || !decide ((0 : Int) = (0 : Int)) || !decide ((0 : Int) = (0 : Int)) || !decide ((0 : Int) = (0 : Int)) || !decide (a = a) || !decide (a = a)) (by kernel_rfl) (fun hc4 => ?_) (fun hc4 => ?_)
        · rw [rchk, hat] at hc4; simp [hc3] at hc4
        · refine good_run 10 (obs := []) (by kernel_rfl) trivial ?_
          refine good_loopJ (fun k : Nat => ⟨[(121, .sv (.int .i64 (k))), (120, LV.sv (SV.int IntKind.i64 (↑(List.length (List.map spanOf q)) : Int))), (119, LV.sv (SV.lst (2 : Nat) (List.length (List.map spanOf q)) fun i => Span.cells (List.getD (List.map spanOf q) i default))), (1, LV.sv (SV.lst (3 : Nat) (List.length b) fun i => Piece.cells (List.getD b i default)))], []⟩) (fun k => k ≤ (q.map spanOf).length) (fun k => (q.map spanOf).length - k) (0) [(0 : Int) = (0 : Int), (↑(List.length (List.map spanOf q)) : Int) = (↑(List.length (List.map spanOf q)) : Int), List.length (List.map spanOf q) = List.length (List.map spanOf q) ∧ ∀ (i : Nat), i < List.length (List.map spanOf q) → (fun i => Span.cells (List.getD (List.map spanOf q) i default)) i = (fun i => Span.cells (List.getD (List.map spanOf q) i default)) i, List.length b = List.length b ∧ ∀ (i : Nat), i < List.length b → (fun i => Piece.cells (List.getD b i default)) i = (fun i => Piece.cells (List.getD b i default)) i] (by kernel_rfl) (by kernel_rfl) ⟨rfl, rfl, ⟨rfl, fun _ _ => rfl⟩, ⟨rfl, fun _ _ => rfl⟩, trivial⟩ (by omega) ?_
          intro k hk
          refine good_run 6 (obs := []) (by kernel_rfl) trivial ?_
          refine good_cond (decide ((↑k : Int) < (↑(List.length (List.map spanOf q)) : Int))) (by kernel_rfl) (fun hc5 => ?_) (fun hc5 => ?_)
          · have hlt : k < (q.map spanOf).length := by simp only [decide_eq_true_eq] at hc5; omega
            have hb := hbs k hlt
            refine good_run 16 (obs := [(2 : Nat) = (2 : Nat) ∧ (0 : Int) ≤ (↑k : Int) ∧ (↑k : Int) < (↑(List.length (List.map spanOf q)) : Int), (0 : Nat) + (2 : Nat) ≤ (2 : Nat), (2 : Nat) = (2 : Nat) ∧ (0 : Nat) + (2 : Nat) ≤ (2 : Nat)]) (by kernel_rfl) (by (first | omega | assumption | exact ⟨rfl, trivial⟩ | simp only [AllP, inK_iff, roomOK_iff, decide_eq_true_eq, Bool.and_eq_true, Bool.or_eq_true, Bool.not_eq_true', decide_eq_false_iff_not, and_true, true_and]; (first | omega | (and_intros <;> intros <;> (try and_intros) <;> first | omega | assumption | exact trivial)))) ?_
            refine good_call (c := True) (by kernel_rfl) (fun _ => SVles.refl _) (fun _ => s17 (b) ((List.getD (List.map spanOf q) k default).From)) (by kernel_rfl) ?_
            refine good_run 13 (obs := []) (by kernel_rfl) trivial ?_
            refine good_cond (!okV (atF b (List.getD (List.map spanOf q) k default).From)) (by kernel_rfl) (fun hc6 => ?_) (fun hc6 => ?_)
            · rw [hb] at hc6; cases hc6
            · refine good_run 7 (obs := [InK IntKind.i64 ((↑k : Int) + (1 : Int))]) (by kernel_rfl) (by (first | omega | assumption | exact ⟨rfl, trivial⟩ | simp only [AllP, inK_iff, roomOK_iff, decide_eq_true_eq, Bool.and_eq_true, Bool.or_eq_true, Bool.not_eq_true', decide_eq_false_iff_not, and_true, true_and]; (first | omega | (and_intros <;> intros <;> (try and_intros) <;> first | omega | assumption | exact trivial)))) ?_
              refine good_backJ (k + 1) [(↑k : Int) + (1 : Int) = (↑(k + (1 : Nat)) : Int), (↑(List.length (List.map spanOf q)) : Int) = (↑(List.length (List.map spanOf q)) : Int), List.length (List.map spanOf q) = List.length (List.map spanOf q) ∧ ∀ (i : Nat), i < List.length (List.map spanOf q) → (fun i => Span.cells (List.getD (List.map spanOf q) i default)) i = (fun i => Span.cells (List.getD (List.map spanOf q) i default)) i, List.length b = List.length b ∧ ∀ (i : Nat), i < List.length b → (fun i => Piece.cells (List.getD b i default)) i = (fun i => Piece.cells (List.getD b i default)) i] (by kernel_rfl) (by kernel_rfl) ⟨(by omega), rfl, ⟨rfl, fun _ _ => rfl⟩, ⟨rfl, fun _ _ => rfl⟩, trivial⟩ (by omega) (by show _ < _; omega)
          · refine good_run 2 (obs := []) (by kernel_rfl) trivial ?_
            refine good_leaveJ (by kernel_rfl) ?_
            refine good_run 7 (obs := []) (by kernel_rfl) trivial ?_
            refine good_fin [true = true] (by kernel_rfl) ⟨rfl, trivial⟩
      · have hat : atF r day = atF a day := by rw [m.at', overV]; cases h : atF b day with | none => rfl | some v => (rw [h] at hc3; cases hc3)
        refine good_run 4 (obs := []) (by kernel_rfl) trivial ?_
        refine good_call (args := [SV.lst (3 : Nat) (List.length a) fun i => Piece.cells (List.getD a i default), SV.val (Value.slice none (0 : Nat) (0 : Nat))]) (c := True) (by kernel_rfl) (fun _ => SVles.cons (SVle.refl _) (SVles.cons no_piece (SVles.refl []))) (fun _ => w27l) (by kernel_rfl) ?_
        refine good_run 10 (obs := []) (by kernel_rfl) trivial ?_
        refine good_call (args := [SV.val (Value.slice none (0 : Nat) (0 : Nat)), SV.lst (3 : Nat) (List.length a) fun i => Piece.cells (List.getD a i default)]) (c := True) (by kernel_rfl) (fun _ => SVles.cons no_piece (SVles.refl _)) (fun _ => w27r) (by kernel_rfl) ?_
        refine good_run 11 (obs := []) (by kernel_rfl) trivial ?_
        refine good_call (c := True) (by kernel_rfl) (fun _ => SVles.refl _) (fun _ => s25a) (by kernel_rfl) ?_
        refine good_run 11 (obs := []) (by kernel_rfl) trivial ?_
        refine good_call (c := True) (by kernel_rfl) (fun _ => SVles.refl _) (fun _ => s18 ((r, (0 : Int)).fst)) (by kernel_rfl) ?_
        refine good_run 27 (obs := []) (by kernel_rfl) trivial ?_
        refine good_call (c := (!decide (check (r, (0 : Int)).fst = (0 : Int)) || !decide (optV (atF (r, (0 : Int)).fst day) = optV (atF a day)) || okV (atF (r, (0 : Int)).fst day) != okV (atF a day) || !decide ((0 : Int) = (0 : Int)) || !decide ((0 : Int) = (0 : Int)) || !decide ((0 : Int) = (0 : Int))) = false ∧ True) (by kernel_rfl) (fun _ => SVles.refl _) (fun _ => s16 (a) (a)) (by kernel_rfl) ?_
        refine good_run 7 (obs := []) (by kernel_rfl) trivial ?_
        refine good_call (c := (!decide (check (r, (0 : Int)).fst = (0 : Int)) || !decide (optV (atF (r, (0 : Int)).fst day) = optV (atF a day)) || okV (atF (r, (0 : Int)).fst day) != okV (atF a day) || !decide ((0 : Int) = (0 : Int)) || !decide ((0 : Int) = (0 : Int)) || !decide ((0 : Int) = (0 : Int)) || !decide (a = a)) = false ∧ True) (by kernel_rfl) (fun _ => SVles.refl _) (fun _ => s16 (a) (a)) (by kernel_rfl) ?_
        refine good_run 5 (obs := []) (by kernel_rfl) trivial ?_
        refine good_cond (!decide (check (r, (0 : Int)).fst = (0 : Int)) || !decide (optV (atF (r, (0 : Int)).fst day) = optV (atF a day)) || okV (atF (r, (0 : Int)).fst day) != okV (atF a day) || !decide ((0 : Int) = (0 : Int)) || !decide ((0 : Int) = (0 : Int)) || !decide ((0 : Int) = (0 : Int)) || !decide (a = a) || !decide (a = a)) (by kernel_rfl) (fun hc4 => ?_) (fun hc4 => ?_)
        · rw [rchk, hat] at hc4; simp  at hc4
        · refine good_run 10 (obs := []) (by kernel_rfl) trivial ?_
          refine good_loopJ (fun k : Nat => ⟨[(121, .sv (.int .i64 (k))), (120, LV.sv (SV.int IntKind.i64 (↑(List.length (List.map spanOf q)) : Int))), (119, LV.sv (SV.lst (2 : Nat) (List.length (List.map spanOf q)) fun i => Span.cells (List.getD (List.map spanOf q) i default))), (1, LV.sv (SV.lst (3 : Nat) (List.length b) fun i => Piece.cells (List.getD b i default)))], []⟩) (fun k => k ≤ (q.map spanOf).length) (fun k => (q.map spanOf).length - k) (0) [(0 : Int) = (0 : Int), (↑(List.length (List.map spanOf q)) : Int) = (↑(List.length (List.map spanOf q)) : Int), List.length (List.map spanOf q) = List.length (List.map spanOf q) ∧ ∀ (i : Nat), i < List.length (List.map spanOf q) → (fun i => Span.cells (List.getD (List.map spanOf q) i default)) i = (fun i => Span.cells (List.getD (List.map spanOf q) i default)) i, List.length b = List.length b ∧ ∀ (i : Nat), i < List.length b → (fun i => Piece.cells (List.getD b i default)) i = (fun i => Piece.cells (List.getD b i default)) i] (by kernel_rfl) (by kernel_rfl) ⟨rfl, rfl, ⟨rfl, fun _ _ => rfl⟩, ⟨rfl, fun _ _ => rfl⟩, trivial⟩ (by omega) ?_
          intro k hk
          refine good_run 6 (obs := []) (by kernel_rfl) trivial ?_
          refine good_cond (decide ((↑k : Int) < (↑(List.length (List.map spanOf q)) : Int))) (by kernel_rfl) (fun hc5 => ?_) (fun hc5 => ?_)
          · have hlt : k < (q.map spanOf).length := by simp only [decide_eq_true_eq] at hc5; omega
            have hb := hbs k hlt
            refine good_run 16 (obs := [(2 : Nat) = (2 : Nat) ∧ (0 : Int) ≤ (↑k : Int) ∧ (↑k : Int) < (↑(List.length (List.map spanOf q)) : Int), (0 : Nat) + (2 : Nat) ≤ (2 : Nat), (2 : Nat) = (2 : Nat) ∧ (0 : Nat) + (2 : Nat) ≤ (2 : Nat)]) (by kernel_rfl) (by (first | omega | assumption | exact ⟨rfl, trivial⟩ | simp only [AllP, inK_iff, roomOK_iff, decide_eq_true_eq, Bool.and_eq_true, Bool.or_eq_true, Bool.not_eq_true', decide_eq_false_iff_not, and_true, true_and]; (first | omega | (and_intros <;> intros <;> (try and_intros) <;> first | omega | assumption | exact trivial)))) ?_
            refine good_call (c := True) (by kernel_rfl) (fun _ => SVles.refl _) (fun _ => s17 (b) ((List.getD (List.map spanOf q) k default).From)) (by kernel_rfl) ?_
            refine good_run 13 (obs := []) (by kernel_rfl) trivial ?_
            refine good_cond (!okV (atF b (List.getD (List.map spanOf q) k default).From)) (by kernel_rfl) (fun hc6 => ?_) (fun hc6 => ?_)
            · rw [hb] at hc6; cases hc6
            · refine good_run 7 (obs := [InK IntKind.i64 ((↑k : Int) + (1 : Int))]) (by kernel_rfl) (by (first | omega | assumption | exact ⟨rfl, trivial⟩ | simp only [AllP, inK_iff, roomOK_iff, decide_eq_true_eq, Bool.and_eq_true, Bool.or_eq_true, Bool.not_eq_true', decide_eq_false_iff_not, and_true, true_and]; (first | omega | (and_intros <;> intros <;> (try and_intros) <;> first | omega | assumption | exact trivial)))) ?_
              refine good_backJ (k + 1) [(↑k : Int) + (1 : Int) = (↑(k + (1 : Nat)) : Int), (↑(List.length (List.map spanOf q)) : Int) = (↑(List.length (List.map spanOf q)) : Int), List.length (List.map spanOf q) = List.length (List.map spanOf q) ∧ ∀ (i : Nat), i < List.length (List.map spanOf q) → (fun i => Span.cells (List.getD (List.map spanOf q) i default)) i = (fun i => Span.cells (List.getD (List.map spanOf q) i default)) i, List.length b = List.length b ∧ ∀ (i : Nat), i < List.length b → (fun i => Piece.cells (List.getD b i default)) i = (fun i => Piece.cells (List.getD b i default)) i] (by kernel_rfl) (by kernel_rfl) ⟨(by omega), rfl, ⟨rfl, fun _ _ => rfl⟩, ⟨rfl, fun _ _ => rfl⟩, trivial⟩ (by omega) (by show _ < _; omega)
          · refine good_run 2 (obs := []) (by kernel_rfl) trivial ?_
            refine good_leaveJ (by kernel_rfl) ?_
            refine good_run 7 (obs := []) (by kernel_rfl) trivial ?_
            refine good_fin [true = true] (by kernel_rfl) ⟨rfl, trivial⟩
end Go.Sx.T
