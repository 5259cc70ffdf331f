/- Contracts of functions of the program, each proved by running its code symbolically (TM). -/
import Derived.Test.YtjkjagbpmcgifaaTK
namespace Go.Sx.T
open Go Go.Proofs Go.Sx
set_option maxRecDepth 100000
set_option maxHeartbeats 4000000
set_option linter.unusedVariables false
set_option linter.unusedSimpArgs false
theorem norm_check {l : List Piece} (h : Norm l) (hb : ∀ p ∈ l, 0 ≤ p.From ∧ p.Until ≤ 1048576) (hl : l.length ≤ 1024) : check l = 0 := by
  refine check_zero.2 ⟨hl, fun j hj => ?_⟩
  have hm := getD_mem l default j hj
  have hs : okSpan (l.getD j default).From (l.getD j default).Until = true := by
    have h1 := hb _ hm
    have h2 := h.ok _ hm
    simp [okSpan]
    have := h1.1
    have := h1.2
    simp only [List.getD_eq_getElem?_getD] at *
    omega
  unfold faultP
  rw [if_neg (by rw [hs]; decide)]
  unfold prevOf
  by_cases h0 : j = 0
  · rw [if_pos h0]
  · rw [if_neg h0]
    simp only
    rw [if_neg]
    have hR : RP (l.getD (j - 1) default) (l.getD j default) := by
      rw [getD_of_lt l (j - 1) (by omega), getD_of_lt l j hj]
      exact List.pairwise_iff_getElem.1 h.ord (j - 1) j (by omega) hj (by omega)
    rintro (h1 | ⟨h1, h2⟩)
    · have := hR.le; omega
    · rcases hR with h3 | h3
      · omega
      · exact h3.2 h2.symm
theorem norm_bounds {r : List Piece} {g : Int → Option Int} (h : Norm r) (hr : ∀ d, atF r d = g d) (hg : ∀ d, g d ≠ none → 0 ≤ d ∧ d < 1048576) : ∀ p ∈ r, 0 ≤ p.From ∧ p.Until ≤ 1048576 := by
  intro p hp
  have hv := h.ok p hp
  have h1 := atF_isSome hp (d := p.From) (by omega) (by omega)
  have h2 := atF_isSome hp (d := p.Until - 1) (by omega) (by omega)
  rw [hr] at h1 h2
  have h3 := hg _ h1
  have h4 := hg _ h2
  omega
theorem atF_range {l : List Piece} (h : check l = 0) {d : Int} (hd : atF l d ≠ none) : 0 ≤ d ∧ d < 1048576 := by
  obtain ⟨v, hv⟩ := Option.ne_none_iff_exists'.1 hd
  obtain ⟨p, hp, h1, h2, _⟩ := atF_some_mem hv
  have := (check_norm h).2 p hp
  omega
structure Replaced (l : List Piece) (a b : Int) (w : Option Int) (r : List Piece) : Prop where
  chk : check l = 0
  span : 0 ≤ a ∧ a < b ∧ b ≤ 1048576
  norm : Norm r
  at' : ∀ d, atF r d = overF l a b w d
  ok : check r = 0
theorem replace_ok {l : List Piece} {a b : Int} {w : Option Int} (h : (replaceR l a b w).2 = 0) : Replaced l a b w (replaceR l a b w).1 := by
  unfold replaceR at h ⊢
  by_cases h1 : check l ≠ 0
  · rw [if_pos h1] at h; exact (h1 h).elim
  · rw [if_neg h1] at h ⊢
    by_cases h2 : okSpan a b = false
    · rw [if_pos h2] at h; cases h
    · rw [if_neg h2] at h ⊢
      have h1' : check l = 0 := Classical.byContradiction h1
      have h2' : okSpan a b = true := by simpa using h2
      have h3 : 0 ≤ a ∧ a < b ∧ b ≤ 1048576 := by simpa [okSpan, and_assoc] using h2'
      obtain ⟨n1, n2⟩ := check_norm h1'
      obtain ⟨r1, r2⟩ := replace_at (w := w) h3.2.1 n1.ok
      unfold buildR at h ⊢
      rw [show isort (keysOf (psOf [⟨a, b⟩] [l])) = cutsL [⟨a, b⟩] [l] from rfl] at h ⊢
      split at h
      · cases h
      · rename_i hlen
        rw [if_neg hlen]
        refine ⟨h1', h3, r1, r2, norm_check r1 (norm_bounds r1 r2 fun d hd => ?_) (Nat.le_of_not_lt hlen)⟩
        unfold overF at hd
        split at hd
        · omega
        · exact atF_range h1' hd
theorem replace_small {l : List Piece} {a b : Int} {w : Option Int} (hl : l.length ≤ 400) : (replaceR l a b w).2 = (if check l ≠ 0 then check l else if okSpan a b = false then 2 else 0) ∧ ((replaceR l a b w).2 ≠ 0 → (replaceR l a b w).1 = []) := by
  unfold replaceR
  by_cases h1 : check l ≠ 0
  · rw [if_pos h1, if_pos h1]; exact ⟨rfl, fun _ => rfl⟩
  · rw [if_neg h1, if_neg h1]
    by_cases h2 : okSpan a b = false
    · rw [if_pos h2, if_pos h2]; exact ⟨rfl, fun _ => rfl⟩
    · rw [if_neg h2, if_neg h2]
      have hc := cut_len [⟨a, b⟩] [l]
      simp only [List.length_singleton, List.flatten_cons, List.flatten_nil, List.append_nil] at hc
      have hb := buildAt_len (isort (keysOf (psOf [⟨a, b⟩] [l]))) (overF l a b w) (isort (keysOf (psOf [⟨a, b⟩] [l]))).length
      unfold buildR
      rw [if_neg (by omega)]
      exact ⟨rfl, fun h => (h rfl).elim⟩
theorem s4 (l : List Piece) (a b v day : Int) : Spec Try.prog 4 [pieces l, .agg [.int .i64 a, .int .i64 b], .int .i64 v, .int .i64 day] (.bool true) := by
  refine spec_of_good mixed Try.func4 F4_ok (by kernel_rfl) ?_
  refine good_run 9 (obs := []) (by kernel_rfl) trivial ?_
  refine good_call (c := True) (by kernel_rfl) (fun _ => SVles.refl _) (fun _ => s10) (by kernel_rfl) ?_
  refine good_run 3 (obs := []) (by kernel_rfl) trivial ?_
  refine good_cond false (by kernel_rfl) (fun h => nomatch h) (fun _ => ?_)
  refine good_run 9 (obs := []) (by kernel_rfl) trivial ?_
  refine good_cond (decide ((40 : Int) < (↑(List.length l) : Int))) (by kernel_rfl) (fun hc1 => ?_) (fun hc1 => ?_)
  · refine good_run 7 (obs := []) (by kernel_rfl) trivial ?_
    refine good_fin [true = true] (by kernel_rfl) ⟨rfl, trivial⟩
  · have hl : l.length ≤ 40 := by simp only [decide_eq_false_iff_not] at hc1; omega
    obtain ⟨e1, f1⟩ := replace_small (l := l) (a := a) (b := b) (w := some v) (by omega)
    obtain ⟨e2, f2⟩ := replace_small (l := l) (a := a) (b := b) (w := none) (by omega)
    have e3 : (replaceR l a b (some v)).2 = (replaceR l a b none).2 := e1.trans e2.symm
    refine good_run 6 (obs := [(0 : Nat) + (2 : Nat) ≤ (2 : Nat)]) (by kernel_rfl) (by (first | omega | assumption | exact ⟨rfl, trivial⟩ | simp only [AllP, inK_iff, roomOK_iff, decide_eq_true_eq, Bool.and_eq_true, Bool.or_eq_true, Bool.not_eq_true', decide_eq_false_iff_not, and_true, true_and]; (first | omega | (and_intros <;> intros <;> (try and_intros) <;> first | omega | assumption | exact trivial)))) ?_
    refine good_call (c := True) (by kernel_rfl) (fun _ => SVles.refl _) (fun _ => s12 (l) (a) (b) (v)) (by kernel_rfl) ?_
    refine good_run 11 (obs := [(0 : Nat) + (2 : Nat) ≤ (2 : Nat)]) (by kernel_rfl) (by (first | omega | assumption | exact ⟨rfl, trivial⟩ | simp only [AllP, inK_iff, roomOK_iff, decide_eq_true_eq, Bool.and_eq_true, Bool.or_eq_true, Bool.not_eq_true', decide_eq_false_iff_not, and_true, true_and]; (first | omega | (and_intros <;> intros <;> (try and_intros) <;> first | omega | assumption | exact trivial)))) ?_
    refine good_call (c := True) (by kernel_rfl) (fun _ => SVles.refl _) (fun _ => s14 (l) (a) (b)) (by kernel_rfl) ?_
    refine good_run 18 (obs := []) (by kernel_rfl) trivial ?_
    refine good_cond (!decide ((replaceR l a b (some v)).snd = (0 : Int)) || !decide ((replaceR l a b none).snd = (0 : Int))) (by kernel_rfl) (fun hc2 => ?_) (fun hc2 => ?_)
    · have hne : (replaceR l a b none).2 ≠ 0 := by
        intro h
        rw [e3, h] at hc2; simp at hc2
      have g1 := f1 (by rw [e3]; exact hne)
      have g2 := f2 hne
      refine good_run 20 (obs := []) (by kernel_rfl) trivial ?_
      refine good_fin [(decide ((replaceR l a b (some v)).snd = (replaceR l a b none).snd) && decide ((↑(List.length (replaceR l a b (some v)).fst) : Int) = (0 : Int)) && decide ((↑(List.length (replaceR l a b none).fst) : Int) = (0 : Int))) = true] (by kernel_rfl) ⟨?_, trivial⟩
      rw [e3, g1, g2]; simp
    · simp only [Bool.or_eq_false_iff, Bool.not_eq_false', decide_eq_true_eq] at hc2
      have r1 := replace_ok hc2.1
      have r2 := replace_ok hc2.2
      have k1 := r1.ok
      have k2 := r2.ok
      have a1 := r1.at' day
      have a2 := r2.at' day
      refine good_run 5 (obs := []) (by kernel_rfl) trivial ?_
      refine good_call (c := True) (by kernel_rfl) (fun _ => SVles.refl _) (fun _ => s17 (l) (day)) (by kernel_rfl) ?_
      refine good_run 11 (obs := []) (by kernel_rfl) trivial ?_
      refine good_call (c := True) (by kernel_rfl) (fun _ => SVles.refl _) (fun _ => s17 ((replaceR l a b (some v)).fst) (day)) (by kernel_rfl) ?_
      refine good_run 11 (obs := []) (by kernel_rfl) trivial ?_
      refine good_call (c := True) (by kernel_rfl) (fun _ => SVles.refl _) (fun _ => s17 ((replaceR l a b none).fst) (day)) (by kernel_rfl) ?_
      refine good_run 11 (obs := []) (by kernel_rfl) trivial ?_
      refine good_call (c := True) (by kernel_rfl) (fun _ => SVles.refl _) (fun _ => s18 ((replaceR l a b (some v)).fst)) (by kernel_rfl) ?_
      refine good_run 4 (obs := []) (by kernel_rfl) trivial ?_
      refine good_call (c := (!decide (check (replaceR l a b (some v)).fst = (0 : Int))) = false ∧ True) (by kernel_rfl) (fun _ => SVles.refl _) (fun _ => s18 ((replaceR l a b none).fst)) (by kernel_rfl) ?_
      refine good_run 5 (obs := []) (by kernel_rfl) trivial ?_
      refine good_cond (!decide (check (replaceR l a b (some v)).fst = (0 : Int)) || !decide (check (replaceR l a b none).fst = (0 : Int))) (by kernel_rfl) (fun hc3 => ?_) (fun hc3 => ?_)
      · rw [k1, k2] at hc3; simp at hc3
      · clear hc3
        refine good_run 16 (obs := []) (by kernel_rfl) trivial ?_
        refine good_cond (decide (a ≤ day) && decide (day < b)) (by kernel_rfl) (fun hc3 => ?_) (fun hc3 => ?_)
        · simp only [Bool.and_eq_true, decide_eq_true_eq] at hc3
          rw [overF, if_pos hc3] at a1 a2
          refine good_run 21 (obs := []) (by kernel_rfl) trivial ?_
          refine good_fin [(okV (atF (replaceR l a b (some v)).fst day) && decide (optV (atF (replaceR l a b (some v)).fst day) = v) && !okV (atF (replaceR l a b none).fst day) && decide (optV (atF (replaceR l a b none).fst day) = (0 : Int))) = true] (by kernel_rfl) ⟨?_, trivial⟩
          rw [a1, a2]; simp [okV, optV]
        · have hn : ¬ (a ≤ day ∧ day < b) := fun hh => by rw [decide_eq_true hh.1, decide_eq_true hh.2] at hc3; cases hc3
          rw [overF, if_neg hn] at a1 a2
          refine good_run 25 (obs := []) (by kernel_rfl) trivial ?_
          refine good_fin [(decide (optV (atF (replaceR l a b (some v)).fst day) = optV (atF l day)) && okV (atF (replaceR l a b (some v)).fst day) == okV (atF l day) && decide (optV (atF (replaceR l a b none).fst day) = optV (atF l day)) && okV (atF (replaceR l a b none).fst day) == okV (atF l day)) = true] (by kernel_rfl) ⟨?_, trivial⟩
          rw [a1, a2]; simp
theorem replace_len {l : List Piece} {a b : Int} {w : Option Int} : (replaceR l a b w).1.length ≤ 2 * (1 + l.length) := by
  have hc := cut_len [⟨a, b⟩] [l]
  simp only [List.length_singleton, List.flatten_cons, List.flatten_nil, List.append_nil] at hc
  have hb := buildAt_len (isort (keysOf (psOf [⟨a, b⟩] [l]))) (overF l a b w) (isort (keysOf (psOf [⟨a, b⟩] [l]))).length
  unfold replaceR buildR
  split
  · simp
  · split
    · simp
    · split
      · simp
      · show (buildAt _ _ _).length ≤ _; omega
theorem days_ge : ∀ {r : List Piece} {a b v : Int}, Norm r → a < b → (∀ d, a ≤ d → d < b → atF r d = some v) → b - a ≤ daysF v r
  | [], a, b, v, _, hab, h => by have := h a (Int.le_refl _) hab; rw [atF_nil] at this; cases this
  | p :: r, a, b, v, hn, hab, h => by
    have hp := hn.ok p (by simp)
    have hnn : ∀ (r : List Piece), Norm r → 0 ≤ daysF v r := by
      intro r
      induction r with
      | nil => intro _; exact Int.le_refl _
      | cons q r ih =>
        intro hq
        have h1 := ih hq.tail
        have h2 := hq.ok q (by simp)
        simp only [daysF]
        split <;> omega
    have h0 := hnn r hn.tail
    have ha := h a (Int.le_refl _) hab
    rw [atF_cons] at ha
    simp only [daysF]
    split at ha
    · rename_i hpa
      injection ha with ha
      rw [if_pos ha]
      have : b ≤ p.Until := by
        refine Classical.byContradiction fun hlt => ?_
        have h1 := h p.Until (by omega) (by omega)
        rw [atF_cons, if_neg (by omega)] at h1
        obtain ⟨z, hz, h2, h3, h4⟩ := atF_some_mem h1
        rcases hn.head z hz with h5 | h5
        · omega
        · exact h5.2 (by omega)
      omega
    · rename_i hpa
      have htail : ∀ d, a ≤ d → d < b → atF r d = some v := by
        intro d hd1 hd2
        have h1 := h d hd1 hd2
        rw [atF_cons] at h1
        split at h1
        · rename_i hpd
          exfalso
          obtain ⟨z, hz, h2, h3, _⟩ := atF_some_mem ha
          have := (hn.head z hz).le
          omega
        · exact h1
      have := days_ge hn.tail hab htail
      split <;> omega
theorem twice {l : List Piece} {a b u : Int} {w : Option Int} (hl : l.length ≤ 40) (h : (replaceR l a b (some u)).2 = 0) : replaceR (replaceR l a b (some u)).1 a b w = replaceR l a b w ∧ (replaceR l a b w).2 = 0 := by
  have r := replace_ok h
  have hlen := replace_len (l := l) (a := a) (b := b) (w := some u)
  have hs : okSpan a b = true := by have := r.span; simp [okSpan]; omega
  have e1 := (replace_small (l := l) (a := a) (b := b) (w := w) (by omega)).1
  rw [if_neg (fun hh => hh r.chk), if_neg (by rw [hs]; decide)] at e1
  have e2 := (replace_small (l := (replaceR l a b (some u)).1) (a := a) (b := b) (w := w) (by omega)).1
  rw [if_neg (fun hh => hh r.ok), if_neg (by rw [hs]; decide)] at e2
  refine ⟨?_, e1⟩
  have r1 := replace_ok e1
  have r2 := replace_ok e2
  refine Prod.ext (norm_unique r2.norm r1.norm fun d => ?_) (e2.trans e1.symm)
  rw [r2.at', r1.at', overF, overF]
  split
  · rfl
  · rename_i hd; rw [r.at', overF, if_neg hd]
theorem s5 (l : List Piece) (a b u v : Int) : Spec Try.prog 5 [pieces l, .agg [.int .i64 a, .int .i64 b], .int .i64 u, .int .i64 v] (.bool true) := by
  refine spec_of_good mixed Try.func5 F5_ok (by kernel_rfl) ?_
  refine good_run 9 (obs := []) (by kernel_rfl) trivial ?_
  refine good_call (c := True) (by kernel_rfl) (fun _ => SVles.refl _) (fun _ => s10) (by kernel_rfl) ?_
  refine good_run 3 (obs := []) (by kernel_rfl) trivial ?_
  refine good_cond false (by kernel_rfl) (fun h => nomatch h) (fun _ => ?_)
  refine good_run 9 (obs := []) (by kernel_rfl) trivial ?_
  refine good_cond (decide ((40 : Int) < (↑(List.length l) : Int))) (by kernel_rfl) (fun hc1 => ?_) (fun hc1 => ?_)
  · refine good_run 7 (obs := []) (by kernel_rfl) trivial ?_
    refine good_fin [true = true] (by kernel_rfl) ⟨rfl, trivial⟩
  · have hl : l.length ≤ 40 := by simp only [decide_eq_false_iff_not] at hc1; omega
    refine good_run 6 (obs := [(0 : Nat) + (2 : Nat) ≤ (2 : Nat)]) (by kernel_rfl) (by (first | omega | assumption | exact ⟨rfl, trivial⟩ | simp only [AllP, inK_iff, roomOK_iff, decide_eq_true_eq, Bool.and_eq_true, Bool.or_eq_true, Bool.not_eq_true', decide_eq_false_iff_not, and_true, true_and]; (first | omega | (and_intros <;> intros <;> (try and_intros) <;> first | omega | assumption | exact trivial)))) ?_
    refine good_call (c := True) (by kernel_rfl) (fun _ => SVles.refl _) (fun _ => s12 (l) (a) (b) (u)) (by kernel_rfl) ?_
    refine good_run 14 (obs := []) (by kernel_rfl) trivial ?_
    refine good_cond (!decide ((replaceR l a b (some u)).snd = (0 : Int))) (by kernel_rfl) (fun hc2 => ?_) (fun hc2 => ?_)
    · refine good_run 7 (obs := []) (by kernel_rfl) trivial ?_
      refine good_fin [true = true] (by kernel_rfl) ⟨rfl, trivial⟩
    · simp only [Bool.not_eq_false', decide_eq_true_eq] at hc2
      have r0 := replace_ok hc2
      obtain ⟨t1, t2⟩ := twice (w := some v) hl hc2
      obtain ⟨t3, t4⟩ := twice (w := none) hl hc2
      have r1 := replace_ok t2
      have hsp := r0.span
      have hd : b - a ≤ daysR (replaceR l a b (some v)).1 v := by
        have : daysR (replaceR l a b (some v)).1 v = daysF v (replaceR l a b (some v)).1 := if_pos r1.ok
        rw [this]
        exact days_ge r1.norm hsp.2.1 fun d h1 h2 => by rw [r1.at', overF, if_pos ⟨h1, h2⟩]
      refine good_run 6 (obs := [(0 : Nat) + (2 : Nat) ≤ (2 : Nat)]) (by kernel_rfl) (by (first | omega | assumption | exact ⟨rfl, trivial⟩ | simp only [AllP, inK_iff, roomOK_iff, decide_eq_true_eq, Bool.and_eq_true, Bool.or_eq_true, Bool.not_eq_true', decide_eq_false_iff_not, and_true, true_and]; (first | omega | (and_intros <;> intros <;> (try and_intros) <;> first | omega | assumption | exact trivial)))) ?_
      refine good_call (c := True) (by kernel_rfl) (fun _ => SVles.refl _) (fun _ => s12 ((replaceR l a b (some u)).fst) (a) (b) (v)) (by kernel_rfl) ?_
      refine good_run 12 (obs := [(0 : Nat) + (2 : Nat) ≤ (2 : Nat)]) (by kernel_rfl) (by (first | omega | assumption | exact ⟨rfl, trivial⟩ | simp only [AllP, inK_iff, roomOK_iff, decide_eq_true_eq, Bool.and_eq_true, Bool.or_eq_true, Bool.not_eq_true', decide_eq_false_iff_not, and_true, true_and]; (first | omega | (and_intros <;> intros <;> (try and_intros) <;> first | omega | assumption | exact trivial)))) ?_
      refine good_call (c := True) (by kernel_rfl) (fun _ => SVles.refl _) (fun _ => s12 (l) (a) (b) (v)) (by kernel_rfl) ?_
      refine good_run 11 (obs := [(0 : Nat) + (2 : Nat) ≤ (2 : Nat)]) (by kernel_rfl) (by (first | omega | assumption | exact ⟨rfl, trivial⟩ | simp only [AllP, inK_iff, roomOK_iff, decide_eq_true_eq, Bool.and_eq_true, Bool.or_eq_true, Bool.not_eq_true', decide_eq_false_iff_not, and_true, true_and]; (first | omega | (and_intros <;> intros <;> (try and_intros) <;> first | omega | assumption | exact trivial)))) ?_
      refine good_call (c := True) (by kernel_rfl) (fun _ => SVles.refl _) (fun _ => s14 ((replaceR l a b (some u)).fst) (a) (b)) (by kernel_rfl) ?_
      refine good_run 11 (obs := [(0 : Nat) + (2 : Nat) ≤ (2 : Nat)]) (by kernel_rfl) (by (first | omega | assumption | exact ⟨rfl, trivial⟩ | simp only [AllP, inK_iff, roomOK_iff, decide_eq_true_eq, Bool.and_eq_true, Bool.or_eq_true, Bool.not_eq_true', decide_eq_false_iff_not, and_true, true_and]; (first | omega | (and_intros <;> intros <;> (try and_intros) <;> first | omega | assumption | exact trivial)))) ?_
      refine good_call (c := True) (by kernel_rfl) (fun _ => SVles.refl _) (fun _ => s14 (l) (a) (b)) (by kernel_rfl) ?_
      refine good_run 26 (obs := []) (by kernel_rfl) trivial ?_
      refine good_call (c := (decide ((replaceR (replaceR l a b (some u)).fst a b (some v)).snd = (0 : Int)) && decide ((replaceR l a b (some v)).snd = (0 : Int)) && decide ((replaceR (replaceR l a b (some u)).fst a b none).snd = (0 : Int)) && decide ((replaceR l a b none).snd = (0 : Int))) = true ∧ True) (by kernel_rfl) (fun _ => SVles.refl _) (fun _ => s16 ((replaceR (replaceR l a b (some u)).fst a b (some v)).fst) ((replaceR l a b (some v)).fst)) (by kernel_rfl) ?_
      refine good_run 4 (obs := []) (by kernel_rfl) trivial ?_
      refine good_call (c := (decide ((replaceR (replaceR l a b (some u)).fst a b (some v)).snd = (0 : Int)) && decide ((replaceR l a b (some v)).snd = (0 : Int)) && decide ((replaceR (replaceR l a b (some u)).fst a b none).snd = (0 : Int)) && decide ((replaceR l a b none).snd = (0 : Int)) && decide ((replaceR (replaceR l a b (some u)).fst a b (some v)).fst = (replaceR l a b (some v)).fst)) = true ∧ True) (by kernel_rfl) (fun _ => SVles.refl _) (fun _ => s16 ((replaceR (replaceR l a b (some u)).fst a b none).fst) ((replaceR l a b none).fst)) (by kernel_rfl) ?_
      refine good_run 4 (obs := []) (by kernel_rfl) trivial ?_
      refine good_call (c := (decide ((replaceR (replaceR l a b (some u)).fst a b (some v)).snd = (0 : Int)) && decide ((replaceR l a b (some v)).snd = (0 : Int)) && decide ((replaceR (replaceR l a b (some u)).fst a b none).snd = (0 : Int)) && decide ((replaceR l a b none).snd = (0 : Int)) && decide ((replaceR (replaceR l a b (some u)).fst a b (some v)).fst = (replaceR l a b (some v)).fst) && decide ((replaceR (replaceR l a b (some u)).fst a b none).fst = (replaceR l a b none).fst)) = true ∧ True) (by kernel_rfl) (fun _ => SVles.refl _) (fun _ => s19 ((replaceR (replaceR l a b (some u)).fst a b (some v)).fst) (v)) (by kernel_rfl) ?_
      refine good_run 11 (obs := [(decide ((replaceR (replaceR l a b (some u)).fst a b (some v)).snd = (0 : Int)) && decide ((replaceR l a b (some v)).snd = (0 : Int)) && decide ((replaceR (replaceR l a b (some u)).fst a b none).snd = (0 : Int)) && decide ((replaceR l a b none).snd = (0 : Int)) && decide ((replaceR (replaceR l a b (some u)).fst a b (some v)).fst = (replaceR l a b (some v)).fst) && decide ((replaceR (replaceR l a b (some u)).fst a b none).fst = (replaceR l a b none).fst)) = true ∧ True → InK IntKind.i64 (b - a)]) (by kernel_rfl) (by (first | omega | assumption | exact ⟨rfl, trivial⟩ | simp only [AllP, inK_iff, roomOK_iff, decide_eq_true_eq, Bool.and_eq_true, Bool.or_eq_true, Bool.not_eq_true', decide_eq_false_iff_not, and_true, true_and]; (first | omega | (and_intros <;> intros <;> (try and_intros) <;> first | omega | assumption | exact trivial)))) ?_
      refine good_fin [(decide ((replaceR (replaceR l a b (some u)).fst a b (some v)).snd = (0 : Int)) && decide ((replaceR l a b (some v)).snd = (0 : Int)) && decide ((replaceR (replaceR l a b (some u)).fst a b none).snd = (0 : Int)) && decide ((replaceR l a b none).snd = (0 : Int)) && decide ((replaceR (replaceR l a b (some u)).fst a b (some v)).fst = (replaceR l a b (some v)).fst) && decide ((replaceR (replaceR l a b (some u)).fst a b none).fst = (replaceR l a b none).fst) && decide (b - a ≤ daysR (replaceR (replaceR l a b (some u)).fst a b (some v)).fst v)) = true] (by kernel_rfl) ⟨?_, trivial⟩
      rw [t1, t3, t2, t4]
      simp only [decide_true, Bool.and_true, Bool.true_and, decide_eq_true_eq]
      exact hd
end Go.Sx.T
