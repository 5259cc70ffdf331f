/- Contracts of functions of the program, each proved by running its code symbolically (PK). -/
import Derived.Test.YtjhimnlbgmlcdaaPJ
namespace Go.Sx.T
open Go Go.Proofs Go.Sx
set_option maxRecDepth 100000
set_option maxHeartbeats 4000000
set_option linter.unusedVariables false
set_option linter.unusedSimpArgs false
theorem s27 (p : Permit) (id : Int) : Spec Try.prog 27 [p.sv, .ref [.int .i64 id] 0] (.bool (decide (p.ID = id))) := by
  refine spec_of_good mixed Try.func27 F27_ok (by kernel_rfl) ?_
  refine good_run 16 (obs := []) (by kernel_rfl) trivial ?_
  refine good_fin [decide (p.ID = id) = decide (p.ID = id)] (by kernel_rfl) ⟨rfl, trivial⟩
theorem chk_iff : ∀ (l : List Permit) (prev : Option Int), chk prev l = 0 ↔ (∀ p ∈ l, formedB p = true) ∧ (∀ q, prev = some q → ∀ p ∈ l, q < p.ID) ∧ l.Pairwise (fun a b => a.ID < b.ID)
  | [], _ => by simp [chk]
  | p :: r, prev => by
    rw [chk]
    cases hf : formedB p with
    | false =>
      simp only [if_true]
      constructor
      · intro h; cases h
      · rintro ⟨h, _⟩
        have := h p (by simp)
        rw [hf] at this; cases this
    | true =>
      simp only [Bool.true_eq_false, if_false]
      cases hp : prevB prev p.ID with
      | true =>
        simp only [if_true]
        constructor
        · intro h; cases h
        · rintro ⟨_, h, _⟩
          cases prev with
          | none => simp [prevB] at hp
          | some q =>
            have := h q rfl p (by simp)
            simp [prevB] at hp; omega
      | false =>
        simp only [Bool.false_eq_true, if_false]
        rw [chk_iff r (some p.ID)]
        constructor
        · rintro ⟨h1, h2, h3⟩
          have h2' := h2 p.ID rfl
          refine ⟨fun x hx => ?_, fun q hq x hx => ?_, List.pairwise_cons.2 ⟨h2', h3⟩⟩
          · rcases List.mem_cons.1 hx with rfl | hx
            · exact hf
            · exact h1 x hx
          · subst hq
            simp [prevB] at hp
            rcases List.mem_cons.1 hx with rfl | hx
            · omega
            · have := h2' x hx; omega
        · rintro ⟨h1, h2, h3⟩
          obtain ⟨h4, h5⟩ := List.pairwise_cons.1 h3
          exact ⟨fun x hx => h1 x (by simp [hx]), fun q hq => by injection hq with hq; subst hq; exact h4, h5⟩
theorem check_iff (l : List Permit) : check l = 0 ↔ l.length ≤ 64 ∧ (∀ p ∈ l, formedB p = true) ∧ l.Pairwise (fun a b => a.ID < b.ID) := by
  unfold check
  split
  · constructor
    · intro h; cases h
    · intro h; omega
  · rw [chk_iff]
    constructor
    · rintro ⟨h1, _, h2⟩; exact ⟨by omega, h1, h2⟩
    · rintro ⟨_, h1, h2⟩; exact ⟨h1, by simp, h2⟩
theorem revoked_err {l : List Permit} {id day : Int} (h : (revoked l id day).2 ≠ 0) : (revoked l id day).1 = [] := by
  unfold revoked at h ⊢
  split
  · rfl
  · rename_i h1
    rw [if_neg h1] at h
    split
    · rfl
    · rename_i i hi
      rw [hi] at h
      simp only [] at h
      split
      · rfl
      · rename_i h2
        rw [if_neg h2] at h
        split
        · rfl
        · rename_i h3
          rw [if_neg h3] at h
          split at h <;> exact (h rfl).elim
theorem revoked_ok {l : List Permit} {id day : Int} (h : (revoked l id day).2 = 0) : ∃ l1 p l2, l = l1 ++ p :: l2 ∧ p.ID = id ∧ check l = 0 ∧ 0 ≤ day ∧ day < p.Until ∧
    ((day ≤ p.From ∧ (revoked l id day).1 = l1 ++ l2) ∨ (p.From < day ∧ (revoked l id day).1 = l1 ++ p.until day :: l2)) := by
  unfold revoked at h ⊢
  split at h
  · cases h
  · rename_i h1
    have h1' : check l = 0 := by simpa using h1
    rw [if_neg h1]
    cases hi : l.findIdx? (fun p => decide (p.ID = id)) with
    | none => rw [hi] at h; cases h
    | some i =>
      rw [hi] at h
      simp only [] at h ⊢
      rw [List.findIdx?_eq_some_iff_getElem] at hi
      obtain ⟨hil, hg, _⟩ := hi
      have hgd : l.getD i default = l[i] := getD_of_lt l i hil
      split at h
      · cases h
      · rename_i h2
        rw [if_neg h2]
        split at h
        · cases h
        · rename_i h3
          rw [if_neg h3]
          refine ⟨l.take i, l[i], l.drop (i + 1), by rw [List.getElem_cons_drop hil, List.take_append_drop], by simpa using hg, h1', by omega, by rw [hgd] at h3; omega, ?_⟩
          by_cases h4 : day ≤ (l.getD i default).From
          · left
            rw [if_pos h4, List.eraseIdx_eq_take_drop_succ]
            rw [hgd] at h4
            exact ⟨h4, rfl⟩
          · right
            rw [if_neg h4, hgd, List.set_eq_take_append_cons_drop, if_pos hil]
            rw [hgd] at h4
            exact ⟨by omega, rfl⟩
theorem until_formed {p : Permit} {day : Int} (h : formedB p = true) (h1 : p.From < day) (h2 : day < p.Until) : formedB (p.until day) = true := by
  have e : formedB (p.until day) = (idB p.ID && idB p.Reader && idB p.Unit && decide (1 ≤ p.Kinds) && decide (p.Kinds ≤ 7) && decide (0 ≤ p.From) && decide (p.From < day) && decide (day ≤ 1048576)) := rfl
  rw [e]
  simp only [formedB, Bool.and_eq_true, decide_eq_true_eq] at h ⊢
  exact ⟨⟨h.1.1, by omega⟩, by omega⟩
theorem check_revoked {l : List Permit} {id day : Int} (h : (revoked l id day).2 = 0) : check (revoked l id day).1 = 0 := by
  obtain ⟨l1, p, l2, rfl, hid, hc, h0, hu, hcase⟩ := revoked_ok h
  rw [check_iff] at hc ⊢
  obtain ⟨hl, hf, hp⟩ := hc
  rcases hcase with ⟨_, e⟩ | ⟨hfrom, e⟩
  · rw [e]
    refine ⟨by simp at hl ⊢; omega, fun q hq => hf q (by simp at hq ⊢; rcases hq with h | h <;> simp [h]), ?_⟩
    exact hp.sublist (List.Sublist.append_left (List.sublist_cons_self _ _) _)
  · rw [e]
    refine ⟨by simpa using hl, fun q hq => ?_, ?_⟩
    · simp only [List.mem_append, List.mem_cons] at hq
      rcases hq with hq | rfl | hq
      · exact hf q (by simp [hq])
      · exact until_formed (hf p (by simp)) hfrom hu
      · exact hf q (by simp [hq])
    · rw [List.pairwise_append, List.pairwise_cons] at hp ⊢
      obtain ⟨h1, ⟨h2, h3⟩, h4⟩ := hp
      refine ⟨h1, ⟨h2, h3⟩, fun a ha b hb => ?_⟩
      rcases List.mem_cons.1 hb with rfl | hb
      · exact h4 a ha p (by simp)
      · exact h4 a ha b (by simp [hb])
def firstF : Option Permit → Int × Bool
  | some p => (p.ID, true)
  | none => (0, false)
theorem firstP_eq {l : List Permit} (h : check l = 0) (reader : Int) (path : List Int) (kind day : Int) : firstP l reader path kind day = firstF (l.find? fun p => coversB p reader path kind day) := by
  unfold firstP
  rw [h]
  simp only [ne_eq, not_true_eq_false, if_false]
  cases l.find? (fun p => coversB p reader path kind day) <;> rfl
theorem covers_until {p : Permit} {reader : Int} {path : List Int} {kind day x : Int} (hf : formedB p = true) (h1 : p.From < day) (h2 : day < p.Until) : coversB (p.until day) reader path kind x = (coversB p reader path kind x && decide (x < day)) := by
  have hf' := until_formed hf h1 h2
  simp only [coversB, openB, hf, hf', Bool.true_and]
  show (decide (p.Reader = reader) && (inB path p.Unit && decide (p.From ≤ x) && decide (x < day)) && kindB p kind) = (decide (p.Reader = reader) && (inB path p.Unit && decide (p.From ≤ x) && decide (x < p.Until)) && kindB p kind && decide (x < day))
  by_cases hx : x < day
  · have e1 : decide (x < p.Until) = true := by simp; omega
    have e2 : decide (x < day) = true := by simpa using hx
    simp only [e1, e2, Bool.and_true]
  · have e2 : decide (x < day) = false := by simpa using hx
    simp only [e2, Bool.and_false, Bool.false_and]
theorem covers_day {p : Permit} {reader : Int} {path : List Int} {kind x : Int} (h : x < p.From) : coversB p reader path kind x = false := by
  have e : decide (p.From ≤ x) = false := by simp; omega
  simp [coversB, openB, e]
theorem revokes_law (l : List Permit) (id day : Int) (reader : Int) (path : List Int) (kind x : Int) (h : (revoked l id day).2 = 0) :
    ((x < day ∨ (firstP l reader path kind x).2 = false ∨ (firstP l reader path kind x).1 ≠ id) → firstP (revoked l id day).1 reader path kind x = firstP l reader path kind x) ∧
    (day ≤ x → (firstP l reader path kind x).2 = true → (firstP l reader path kind x).1 = id → firstP (revoked l id day).1 reader path kind x = firstP (l.filter fun p => !decide (p.ID = id)) reader path kind x ∧ (firstP (revoked l id day).1 reader path kind x).1 ≠ id) := by
  have hcm := check_revoked h
  obtain ⟨l1, p, l2, rfl, hid, hc, h0, hu, hcase⟩ := revoked_ok h
  have hc' := (check_iff _).1 hc
  obtain ⟨hl, hfm, hpw⟩ := hc'
  have hfp : formedB p = true := hfm p (by simp)
  have hidpos : 1 ≤ id := by
    have := hfp
    simp only [formedB, idB, Bool.and_eq_true, decide_eq_true_eq] at this
    omega
  rw [List.pairwise_append, List.pairwise_cons] at hpw
  obtain ⟨hp1, ⟨hp2, hp3⟩, hp4⟩ := hpw
  have hn1 : ∀ q ∈ l1, q.ID ≠ id := fun q hq => by have := hp4 q hq p (by simp); omega
  have hn2 : ∀ q ∈ l2, q.ID ≠ id := fun q hq => by have := hp2 q hq; omega
  rw [firstP_eq hc, firstP_eq hcm, List.find?_append, List.find?_cons]
  generalize hf1 : l1.find? (fun p => coversB p reader path kind x) = r1
  have hr1 : ∀ q, r1 = some q → q.ID ≠ id := fun q hq => hn1 q (List.mem_of_find?_eq_some (hf1.trans hq))
  generalize hf2 : l2.find? (fun p => coversB p reader path kind x) = r2
  have hr2 : ∀ q, r2 = some q → q.ID ≠ id := fun q hq => hn2 q (List.mem_of_find?_eq_some (hf2.trans hq))
  -- the list that is left without the permit
  have hfil : (l1 ++ p :: l2).filter (fun p => !decide (p.ID = id)) = l1 ++ l2 := by
    rw [List.filter_append, List.filter_cons]
    have e1 : l1.filter (fun p => !decide (p.ID = id)) = l1 := by rw [List.filter_eq_self]; intro q hq; simpa using hn1 q hq
    have e2 : l2.filter (fun p => !decide (p.ID = id)) = l2 := by rw [List.filter_eq_self]; intro q hq; simpa using hn2 q hq
    rw [e1, e2]; simp [hid]
  have hcf : check (l1 ++ l2) = 0 := by
    rw [check_iff]
    refine ⟨by simp at hl ⊢; omega, fun q hq => hfm q (by simp at hq ⊢; rcases hq with h | h <;> simp [h]), ?_⟩
    exact ((check_iff _).1 hc).2.2.sublist (List.Sublist.append_left (List.sublist_cons_self _ _) _)
  rw [hfil, firstP_eq hcf, List.find?_append, hf1, hf2]
  have hrest : (firstF (r1.or r2)).1 ≠ id := by
    cases r1 with
    | some q => exact hr1 q rfl
    | none =>
      cases r2 with
      | some q => exact hr2 q rfl
      | none => show (0 : Int) ≠ id; omega
  rcases hcase with ⟨hfr, e⟩ | ⟨hfr, e⟩
  · rw [e, List.find?_append, hf1, hf2]
    refine ⟨fun hor => ?_, fun _ _ _ => ⟨rfl, hrest⟩⟩
    cases hcv : coversB p reader path kind x with
    | false => rfl
    | true =>
      cases r1 with
      | some q => rfl
      | none =>
        simp only [hcv] at hor
        rcases hor with hor | hor | hor
        · have := covers_day (p := p) (reader := reader) (path := path) (kind := kind) (x := x) (by omega)
          rw [hcv] at this; cases this
        · cases hor
        · exact (hor hid).elim
  · rw [e, List.find?_append, List.find?_cons, hf1, hf2, covers_until hfp hfr hu]
    refine ⟨fun hor => ?_, fun hx hok hidx => ?_⟩
    · cases hcv : coversB p reader path kind x with
      | false => simp
      | true =>
        cases r1 with
        | some q => rfl
        | none =>
          simp only [hcv] at hor
          rcases hor with hor | hor | hor
          · have : decide (x < day) = true := by simpa using hor
            rw [this]; rfl
          · cases hor
          · exact (hor hid).elim
    · have : decide (x < day) = false := by simp; omega
      rw [this, Bool.and_false]
      exact ⟨rfl, hrest⟩
theorem s7 (l : List Permit) (reader : Int) (path : List Int) (kind day : Int) (id from' : Int) : Spec Try.prog 7 [permits l, asked reader path kind day, .agg [.int .i64 id, .int .i64 from']] (.bool true) := by
  refine spec_len 0 rfl (hasBody_of_slim Try.func7 F7_ok) fun hlen => ?_
  refine spec_of_good mixed Try.func7 F7_ok (by kernel_rfl) ?_
  refine good_run 10 (obs := []) (by kernel_rfl) trivial ?_
  refine good_call (c := True) (by kernel_rfl) (fun _ => SVles.refl _) (fun _ => s11) (by kernel_rfl) ?_
  refine good_run 3 (obs := []) (by kernel_rfl) trivial ?_
  refine good_cond false (by kernel_rfl) (fun h => nomatch h) (fun _ => ?_)
  refine good_run 3 (obs := []) (by kernel_rfl) trivial ?_
  refine good_all [0, 1, 2, 4, 5, 6, 7, 8, 18, 19, 20, 21, 22, 23] 45 [(0 : Int) ≤ (0 : Int) ∧ (0 : Int) < (2 : Int), (0 : Int) ≤ (1 : Int) ∧ (1 : Int) < (2 : Int), (1 : Nat) = (1 : Nat) ∧ (0 : Nat) + (1 : Nat) ≤ (1 : Nat)] (by kernel_rfl) (by (first | omega | assumption | simp only [AllP, inK_iff, roomOK_iff, decide_eq_true_eq, Bool.and_eq_true, Bool.or_eq_true, Bool.not_eq_true', decide_eq_false_iff_not, and_true, true_and]; omega)) ?_
  refine good_run 6 (obs := []) (by kernel_rfl) trivial ?_
  refine good_call (c := True) (by kernel_rfl) (fun _ => SVles.refl _) (fun _ => s12 (l) (path)) (by kernel_rfl) ?_
  refine good_run 3 (obs := []) (by kernel_rfl) trivial ?_
  refine good_cond (!(decide (List.length l ≤ (20 : Nat)) && decide (List.length path ≤ (20 : Nat)))) (by kernel_rfl) (fun hc1 => ?_) (fun hc1 => ?_)
  · refine good_run 7 (obs := []) (by kernel_rfl) trivial ?_
    refine good_fin [true = true] (by kernel_rfl) ⟨rfl, trivial⟩
  · simp only [Bool.not_eq_false', Bool.and_eq_true, decide_eq_true_eq] at hc1
    obtain ⟨hl, hp⟩ := hc1
    refine good_run 4 (obs := []) (by kernel_rfl) trivial ?_
    refine good_call (c := True) (by kernel_rfl) (fun _ => SVles.refl _) (fun _ => SpecOwn.spec (s17 (l) (by (first | omega | assumption | simp only [AllP, inK_iff, roomOK_iff, decide_eq_true_eq, Bool.and_eq_true, Bool.or_eq_true, Bool.not_eq_true', decide_eq_false_iff_not, and_true, true_and]; omega)))) (by kernel_rfl) ?_
    refine good_run 2 (obs := []) (by kernel_rfl) trivial ?_
    refine good_call (c := True) (by kernel_rfl) (fun _ => SVles.refl _) (fun _ => s21 (l) (id) (from')) (by kernel_rfl) ?_
    refine good_run 14 (obs := []) (by kernel_rfl) trivial ?_
    refine good_cond (!decide ((revoked l id from').2 = (0 : Int))) (by kernel_rfl) (fun hc1 => ?_) (fun hc1 => ?_)
    · simp only [Bool.not_eq_true', decide_eq_false_iff_not] at hc1
      refine good_run 10 (obs := []) (by kernel_rfl) trivial ?_
      refine good_fin [decide ((↑(List.length (revoked l id from').fst) : Int) = (0 : Int)) = true] (by kernel_rfl) ⟨?_, trivial⟩
      rw [revoked_err hc1]; rfl
    · simp only [Bool.not_eq_false', decide_eq_true_eq] at hc1
      have hcm := check_revoked hc1
      have hm : (revoked l id from').1.length ≤ 100000 := by have := check_len hcm; omega
      have hlaw := revokes_law l id from' reader path kind day hc1
      refine good_run 4 (obs := []) (by kernel_rfl) trivial ?_
      refine good_call (c := True) (by kernel_rfl) (fun _ => SVles.refl _) (fun _ => SpecOwn.spec (s17 (l) (by (first | omega | assumption | simp only [AllP, inK_iff, roomOK_iff, decide_eq_true_eq, Bool.and_eq_true, Bool.or_eq_true, Bool.not_eq_true', decide_eq_false_iff_not, and_true, true_and]; omega)))) (by kernel_rfl) ?_
      refine good_run 3 (obs := [True → (0 : Nat) + (4 : Nat) ≤ (4 : Nat)]) (by kernel_rfl) (by (first | omega | assumption | simp only [AllP, inK_iff, roomOK_iff, decide_eq_true_eq, Bool.and_eq_true, Bool.or_eq_true, Bool.not_eq_true', decide_eq_false_iff_not, and_true, true_and]; omega)) ?_
      refine good_call (c := True) (by kernel_rfl) (fun _ => SVles.refl _) (fun _ => SpecOwn.spec (s14 (reader) (path) (kind) (day) (by (first | omega | assumption | simp only [AllP, inK_iff, roomOK_iff, decide_eq_true_eq, Bool.and_eq_true, Bool.or_eq_true, Bool.not_eq_true', decide_eq_false_iff_not, and_true, true_and]; omega)))) (by kernel_rfl) ?_
      refine good_run 4 (obs := []) (by kernel_rfl) trivial ?_
      refine good_call (c := True) (by kernel_rfl) (fun _ => SVles.refl _) (fun _ => s24 (l) (reader) (path) (kind) (day)) (by kernel_rfl) ?_
      refine good_run 10 (obs := []) (by kernel_rfl) trivial ?_
      refine good_call (c := True) (by kernel_rfl) (fun _ => SVles.refl _) (fun _ => SpecOwn.spec (s17 ((revoked l id from').fst) (by (first | omega | assumption | simp only [AllP, inK_iff, roomOK_iff, decide_eq_true_eq, Bool.and_eq_true, Bool.or_eq_true, Bool.not_eq_true', decide_eq_false_iff_not, and_true, true_and]; omega)))) (by kernel_rfl) ?_
      refine good_run 3 (obs := [True → (0 : Nat) + (4 : Nat) ≤ (4 : Nat)]) (by kernel_rfl) (by (first | omega | assumption | simp only [AllP, inK_iff, roomOK_iff, decide_eq_true_eq, Bool.and_eq_true, Bool.or_eq_true, Bool.not_eq_true', decide_eq_false_iff_not, and_true, true_and]; omega)) ?_
      refine good_call (c := True) (by kernel_rfl) (fun _ => SVles.refl _) (fun _ => SpecOwn.spec (s14 (reader) (path) (kind) (day) (by (first | omega | assumption | simp only [AllP, inK_iff, roomOK_iff, decide_eq_true_eq, Bool.and_eq_true, Bool.or_eq_true, Bool.not_eq_true', decide_eq_false_iff_not, and_true, true_and]; omega)))) (by kernel_rfl) ?_
      refine good_run 4 (obs := []) (by kernel_rfl) trivial ?_
      refine good_call (c := True) (by kernel_rfl) (fun _ => SVles.refl _) (fun _ => s24 ((revoked l id from').fst) (reader) (path) (kind) (day)) (by kernel_rfl) ?_
      refine good_run 11 (obs := []) (by kernel_rfl) trivial ?_
      refine good_own (c := True) (by kernel_rfl) (by kernel_rfl) (SVles.refl _) (s17 ((revoked l id from').fst) (by (first | omega | assumption | simp only [AllP, inK_iff, roomOK_iff, decide_eq_true_eq, Bool.and_eq_true, Bool.or_eq_true, Bool.not_eq_true', decide_eq_false_iff_not, and_true, true_and]; omega))) ?_
      refine good_call (c := True) (by kernel_rfl) (fun _ => SVles.refl _) (fun _ => s16 ((revoked l id from').fst)) (by kernel_rfl) ?_
      refine good_run 3 (obs := []) (by kernel_rfl) trivial ?_
      refine good_cond (!decide (check (revoked l id from').fst = (0 : Int))) (by kernel_rfl) (fun hc2 => ?_) (fun hc2 => ?_)
      · rw [hcm] at hc2; simp at hc2
      · refine good_run 19 (obs := []) (by kernel_rfl) trivial ?_
        refine good_cond (decide (day < from') || !(firstP l reader path kind day).2 || !decide ((firstP l reader path kind day).1 = id)) (by kernel_rfl) (fun hc3 => ?_) (fun hc3 => ?_)
        · refine good_run 15 (obs := []) (by kernel_rfl) trivial ?_
          refine good_fin [(decide ((firstP l reader path kind day).1 = (firstP (revoked l id from').fst reader path kind day).1) && (firstP l reader path kind day).2 == (firstP (revoked l id from').fst reader path kind day).2) = true] (by kernel_rfl) ⟨?_, trivial⟩
          have := hlaw.1 (by
            simp only [Bool.or_eq_true, decide_eq_true_eq, Bool.not_eq_true', decide_eq_false_iff_not] at hc3
            rcases hc3 with (h | h) | h
            · exact .inl h
            · exact .inr (.inl h)
            · exact .inr (.inr h))
          rw [this]; simp
        · simp only [Bool.or_eq_false_iff, decide_eq_false_iff_not, Bool.not_eq_false', decide_eq_true_eq] at hc3
          obtain ⟨⟨h1, h2⟩, h3⟩ := hc3
          obtain ⟨h4, h5⟩ := hlaw.2 (by omega) h2 h3
          refine good_run 4 (obs := []) (by kernel_rfl) trivial ?_
          refine good_own (c := True) (by kernel_rfl) (by kernel_rfl) (SVles.refl _) (s17 (l) (by (first | omega | assumption | simp only [AllP, inK_iff, roomOK_iff, decide_eq_true_eq, Bool.and_eq_true, Bool.or_eq_true, Bool.not_eq_true', decide_eq_false_iff_not, and_true, true_and]; omega))) ?_
          refine good_run 1 (obs := []) (by kernel_rfl) trivial ?_
          refine good_take (by kernel_rfl) (SVles.refl _) (SVles.refl _) (s26 l 27 [.ref [.int .i64 id] 0] (fun p => decide (p.ID = id)) (fun p => s27 p id) (by omega)) ?_
          refine good_run 9 (obs := [True → (0 : Nat) + (4 : Nat) ≤ (4 : Nat)]) (by kernel_rfl) (by (first | omega | assumption | simp only [AllP, inK_iff, roomOK_iff, decide_eq_true_eq, Bool.and_eq_true, Bool.or_eq_true, Bool.not_eq_true', decide_eq_false_iff_not, and_true, true_and]; omega)) ?_
          refine good_call (c := True) (by kernel_rfl) (fun _ => SVles.refl _) (fun _ => SpecOwn.spec (s14 (reader) (path) (kind) (day) (by (first | omega | assumption | simp only [AllP, inK_iff, roomOK_iff, decide_eq_true_eq, Bool.and_eq_true, Bool.or_eq_true, Bool.not_eq_true', decide_eq_false_iff_not, and_true, true_and]; omega)))) (by kernel_rfl) ?_
          refine good_run 4 (obs := []) (by kernel_rfl) trivial ?_
          refine good_call (c := True) (by kernel_rfl) (fun _ => SVles.refl _) (fun _ => s24 (List.filter (fun p => !decide (p.ID = id)) l) (reader) (path) (kind) (day)) (by kernel_rfl) ?_
          refine good_run 26 (obs := []) (by kernel_rfl) trivial ?_
          refine good_fin [(decide ((firstP (revoked l id from').fst reader path kind day).1 = (firstP (List.filter (fun p => !decide (p.ID = id)) l) reader path kind day).1) && (firstP (revoked l id from').fst reader path kind day).2 == (firstP (List.filter (fun p => !decide (p.ID = id)) l) reader path kind day).2 && !decide ((firstP (revoked l id from').fst reader path kind day).1 = id)) = true] (by kernel_rfl) ⟨?_, trivial⟩
          rw [← h4]
          simp [h5]
end Go.Sx.T
