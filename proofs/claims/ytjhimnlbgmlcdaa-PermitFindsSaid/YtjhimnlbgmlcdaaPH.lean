/- Contracts of functions of the program, each proved by running its code symbolically (PH). -/
import Derived.Test.YtjhimnlbgmlcdaaPG
import Derived.Test.YtjhimnlbgmlcdaaSx4
namespace Go.Sx.T
open Go Go.Proofs Go.Sx
set_option maxRecDepth 100000
set_option maxHeartbeats 4000000
set_option linter.unusedVariables false
set_option linter.unusedSimpArgs false
theorem eq31 : EqOK Try.prog 31 6 := eqOK_flat 5 (by decide) (by kernel_rfl) ⟨_, Try.underlying31⟩ (by kernel_rfl)
theorem permit_ints (p q : Permit) : ([p.ID, p.Reader, p.Unit, p.Kinds, p.From, p.Until] = [q.ID, q.Reader, q.Unit, q.Kinds, q.From, q.Until]) ↔ p = q := by
  constructor
  · intro h
    simp only [List.cons.injEq, and_true] at h
    obtain ⟨h1, h2, h3, h4, h5, h6⟩ := h
    cases p; cases q; simp_all
  · rintro rfl; rfl
theorem s23 (a b : List Permit) : Spec Try.prog 23 [permits a, permits b] (.bool (decide (a = b))) := by
  refine spec_len 0 rfl (hasBody_of_slim Try.func23 F23_ok) fun hlen => ?_
  refine spec_of_good mixed Try.func23 F23_ok (by kernel_rfl) ?_
  have heq := eq31
  refine good_run 15 (obs := []) (by kernel_rfl) trivial ?_
  refine good_cond (!decide ((↑(List.length a) : Int) = (↑(List.length b) : Int))) (by kernel_rfl) (fun hc1 => ?_) (fun hc1 => ?_)
  · simp only [Bool.not_eq_true', decide_eq_false_iff_not] at hc1
    have : decide (a = b) = false := decide_eq_false fun e => hc1 (by rw [e])
    rw [this]
    refine good_run 7 (obs := []) (by kernel_rfl) trivial ?_
    refine good_fin [false = false] (by kernel_rfl) ⟨rfl, trivial⟩
  · simp only [Bool.not_eq_false', decide_eq_true_eq] at hc1
    have hab : a.length = b.length := by omega
    refine good_run 10 (obs := []) (by kernel_rfl) trivial ?_
    refine good_loopJ (fun k : Nat => ⟨[(13, .sv (.int .i64 (k))), (12, LV.sv (SV.int IntKind.i64 (↑(List.length a) : Int))), (0, LV.sv (SV.lst (6 : Nat) (List.length a) fun i => Permit.cells (List.getD a i default))), (1, LV.sv (SV.lst (6 : Nat) (List.length b) fun i => Permit.cells (List.getD b i default)))], []⟩) (fun k => k ≤ a.length ∧ ∀ i, i < k → a.getD i default = b.getD i default) (fun k => a.length - k) (0) [(0 : Int) = (0 : Int), (↑(List.length a) : Int) = (↑(List.length a) : Int), List.length a = List.length a ∧ ∀ (i : Nat), i < List.length a → (fun i => Permit.cells (List.getD a i default)) i = (fun i => Permit.cells (List.getD a i default)) i, List.length b = List.length b ∧ ∀ (i : Nat), i < List.length b → (fun i => Permit.cells (List.getD b i default)) i = (fun i => Permit.cells (List.getD b i default)) i] (by kernel_rfl) (by kernel_rfl) ⟨rfl, rfl, ⟨rfl, fun _ _ => rfl⟩, ⟨rfl, fun _ _ => rfl⟩, trivial⟩ ⟨by omega, by omega⟩ ?_
    intro k hk
    refine good_run 6 (obs := []) (by kernel_rfl) trivial ?_
    refine good_cond (decide ((↑k : Int) < (↑(List.length a) : Int))) (by kernel_rfl) (fun hc2 => ?_) (fun hc2 => ?_)
    · have hlt : k < a.length := by simp only [decide_eq_true_eq] at hc2; omega
      refine good_run 22 (obs := [True → (6 : Nat) = (6 : Nat) ∧ (0 : Int) ≤ (↑k : Int) ∧ (↑k : Int) < (↑(List.length a) : Int), True → (0 : Nat) + (6 : Nat) ≤ (6 : Nat), True → (6 : Nat) = (6 : Nat) ∧ (0 : Int) ≤ (↑k : Int) ∧ (↑k : Int) < (↑(List.length b) : Int), True → (0 : Nat) + (6 : Nat) ≤ (6 : Nat), True → EqOK Try.prog (31 : TypeId) (6 : Nat) ∧ (6 : Nat) = (6 : Nat)]) (by kernel_rfl) (by (first | omega | assumption | exact ⟨rfl, trivial⟩ | simp only [AllP, inK_iff, roomOK_iff, decide_eq_true_eq, Bool.and_eq_true, Bool.or_eq_true, Bool.not_eq_true', decide_eq_false_iff_not, and_true, true_and]; (first | omega | (and_intros <;> intros <;> (try and_intros) <;> first | omega | assumption | exact trivial)))) ?_
      refine good_cond (true ^^ decide ([(List.getD a k default).ID, (List.getD a k default).Reader, (List.getD a k default).Unit, (List.getD a k default).Kinds, (List.getD a k default).From, (List.getD a k default).Until] = [(List.getD b k default).ID, (List.getD b k default).Reader, (List.getD b k default).Unit, (List.getD b k default).Kinds, (List.getD b k default).From, (List.getD b k default).Until])) (by kernel_rfl) (fun hc3 => ?_) (fun hc3 => ?_)
      · have hne : a.getD k default ≠ b.getD k default := fun e => by rw [e] at hc3; simp at hc3
        have : decide (a = b) = false := decide_eq_false fun e => hne (by rw [e])
        rw [this]
        refine good_run 8 (obs := []) (by kernel_rfl) trivial ?_
        refine good_leaveJ (by kernel_rfl) ?_
        refine good_run 2 (obs := []) (by kernel_rfl) trivial ?_
        refine good_fin [false = false] (by kernel_rfl) ⟨rfl, trivial⟩
      · have he : a.getD k default = b.getD k default := by
          refine (permit_ints _ _).1 ?_
          simpa using hc3
        refine good_run 7 (obs := [InK IntKind.i64 ((↑k : Int) + (1 : Int))]) (by kernel_rfl) (by (first | omega | assumption | exact ⟨rfl, trivial⟩ | simp only [AllP, inK_iff, roomOK_iff, decide_eq_true_eq, Bool.and_eq_true, Bool.or_eq_true, Bool.not_eq_true', decide_eq_false_iff_not, and_true, true_and]; (first | omega | (and_intros <;> intros <;> (try and_intros) <;> first | omega | assumption | exact trivial)))) ?_
        refine good_backJ (k + 1) [(↑k : Int) + (1 : Int) = (↑(k + (1 : Nat)) : Int), (↑(List.length a) : Int) = (↑(List.length a) : Int), List.length a = List.length a ∧ ∀ (i : Nat), i < List.length a → (fun i => Permit.cells (List.getD a i default)) i = (fun i => Permit.cells (List.getD a i default)) i, List.length b = List.length b ∧ ∀ (i : Nat), i < List.length b → (fun i => Permit.cells (List.getD b i default)) i = (fun i => Permit.cells (List.getD b i default)) i] (by kernel_rfl) (by kernel_rfl) ⟨(by omega), rfl, ⟨rfl, fun _ _ => rfl⟩, ⟨rfl, fun _ _ => rfl⟩, trivial⟩ ?_ (by show _ < _; omega)
        exact ⟨hlt, fun i hi => by
          rcases Nat.lt_or_ge i k with h | h
          · exact hk.2 i h
          · have : i = k := by omega
            subst this; exact he⟩
    · have hge : k = a.length := by simp only [decide_eq_false_iff_not] at hc2; have := hk.1; omega
      have : decide (a = b) = true := decide_eq_true (ext_getD a b hab fun i hi => hk.2 i (by omega))
      rw [this]
      refine good_run 2 (obs := []) (by kernel_rfl) trivial ?_
      refine good_leaveJ (by kernel_rfl) ?_
      refine good_run 7 (obs := []) (by kernel_rfl) trivial ?_
      refine good_fin [true = true] (by kernel_rfl) ⟨rfl, trivial⟩
theorem s4 (l : List Permit) (p : Permit) (x y : Int) : Spec Try.prog 4 [permits l, p.sv, .agg [.int .i64 x, .int .i64 y]] (.bool true) := by
  refine spec_len 0 rfl (hasBody_of_slim Try.func4 F4_ok) fun hlen => ?_
  refine spec_of_good mixed Try.func4 F4_ok (by kernel_rfl) ?_
  refine good_run 10 (obs := []) (by kernel_rfl) trivial ?_
  refine good_call (c := True) (by kernel_rfl) (fun _ => SVles.refl _) (fun _ => s11) (by kernel_rfl) ?_
  refine good_run 3 (obs := []) (by kernel_rfl) trivial ?_
  refine good_cond false (by kernel_rfl) (fun h => nomatch h) (fun _ => ?_)
  refine good_run 5 (obs := []) (by kernel_rfl) trivial ?_
  refine good_call (c := True) (by kernel_rfl) (fun _ => SVles.refl _) (fun _ => s12a (l)) (by kernel_rfl) ?_
  refine good_run 8 (obs := []) (by kernel_rfl) trivial ?_
  refine good_cond (!decide (List.length l ≤ (20 : Nat)) && !decide ((↑(List.length l) : Int) = (64 : Int))) (by kernel_rfl) (fun hc1 => ?_) (fun hc1 => ?_)
  · refine good_run 7 (obs := []) (by kernel_rfl) trivial ?_
    refine good_fin [true = true] (by kernel_rfl) ⟨rfl, trivial⟩
  · simp only [Bool.and_eq_false_iff, Bool.not_eq_false', decide_eq_true_eq] at hc1
    have hl : l.length ≤ 64 := by omega
    refine good_run 4 (obs := []) (by kernel_rfl) trivial ?_
    refine good_call (c := True) (by kernel_rfl) (fun _ => SVles.refl _) (fun _ => SpecOwn.spec (s17 (l) (by (first | omega | assumption | exact ⟨rfl, trivial⟩ | simp only [AllP, inK_iff, roomOK_iff, decide_eq_true_eq, Bool.and_eq_true, Bool.or_eq_true, Bool.not_eq_true', decide_eq_false_iff_not, and_true, true_and]; (first | omega | (and_intros <;> intros <;> (try and_intros) <;> first | omega | assumption | exact trivial)))))) (by kernel_rfl) ?_
    refine good_run 1 (obs := [True → (0 : Nat) + (6 : Nat) ≤ (6 : Nat)]) (by kernel_rfl) (by (first | omega | assumption | exact ⟨rfl, trivial⟩ | simp only [AllP, inK_iff, roomOK_iff, decide_eq_true_eq, Bool.and_eq_true, Bool.or_eq_true, Bool.not_eq_true', decide_eq_false_iff_not, and_true, true_and]; (first | omega | (and_intros <;> intros <;> (try and_intros) <;> first | omega | assumption | exact trivial)))) ?_
    refine good_call (c := True) (by kernel_rfl) (fun _ => SVles.refl _) (fun _ => s19 (l) (p)) (by kernel_rfl) ?_
    refine good_run 11 (obs := [(0 : Nat) + (6 : Nat) ≤ (6 : Nat)]) (by kernel_rfl) (by (first | omega | assumption | exact ⟨rfl, trivial⟩ | simp only [AllP, inK_iff, roomOK_iff, decide_eq_true_eq, Bool.and_eq_true, Bool.or_eq_true, Bool.not_eq_true', decide_eq_false_iff_not, and_true, true_and]; (first | omega | (and_intros <;> intros <;> (try and_intros) <;> first | omega | assumption | exact trivial)))) ?_
    refine good_call (c := True) (by kernel_rfl) (fun _ => SVles.refl _) (fun _ => s20 (l) (p)) (by kernel_rfl) ?_
    refine good_run 10 (obs := []) (by kernel_rfl) trivial ?_
    refine good_call (c := True) (by kernel_rfl) (fun _ => SVles.refl _) (fun _ => SpecOwn.spec (s17 (l) (by (first | omega | assumption | exact ⟨rfl, trivial⟩ | simp only [AllP, inK_iff, roomOK_iff, decide_eq_true_eq, Bool.and_eq_true, Bool.or_eq_true, Bool.not_eq_true', decide_eq_false_iff_not, and_true, true_and]; (first | omega | (and_intros <;> intros <;> (try and_intros) <;> first | omega | assumption | exact trivial)))))) (by kernel_rfl) ?_
    refine good_run 4 (obs := [True → (0 : Int) ≤ (0 : Int) ∧ (0 : Int) < (2 : Int), True → (0 : Int) ≤ (1 : Int) ∧ (1 : Int) < (2 : Int)]) (by kernel_rfl) (by (first | omega | assumption | exact ⟨rfl, trivial⟩ | simp only [AllP, inK_iff, roomOK_iff, decide_eq_true_eq, Bool.and_eq_true, Bool.or_eq_true, Bool.not_eq_true', decide_eq_false_iff_not, and_true, true_and]; (first | omega | (and_intros <;> intros <;> (try and_intros) <;> first | omega | assumption | exact trivial)))) ?_
    refine good_call (c := True) (by kernel_rfl) (fun _ => SVles.refl _) (fun _ => s21 (l) (x) (y)) (by kernel_rfl) ?_
    refine good_run 14 (obs := [(0 : Int) ≤ (0 : Int) ∧ (0 : Int) < (2 : Int), (0 : Int) ≤ (1 : Int) ∧ (1 : Int) < (2 : Int)]) (by kernel_rfl) (by (first | omega | assumption | exact ⟨rfl, trivial⟩ | simp only [AllP, inK_iff, roomOK_iff, decide_eq_true_eq, Bool.and_eq_true, Bool.or_eq_true, Bool.not_eq_true', decide_eq_false_iff_not, and_true, true_and]; (first | omega | (and_intros <;> intros <;> (try and_intros) <;> first | omega | assumption | exact trivial)))) ?_
    refine good_call (c := True) (by kernel_rfl) (fun _ => SVles.refl _) (fun _ => s22 (l) (x) (y)) (by kernel_rfl) ?_
    refine good_run 11 (obs := []) (by kernel_rfl) trivial ?_
    refine good_call (c := True) (by kernel_rfl) (fun _ => SVles.refl _) (fun _ => s23 ((granted l p).fst) ((granted l p).fst)) (by kernel_rfl) ?_
    refine good_run 9 (obs := []) (by kernel_rfl) trivial ?_
    refine good_call (c := (decide ((granted l p).fst = (granted l p).fst) && decide ((granted l p).snd = (granted l p).snd)) = true ∧ True) (by kernel_rfl) (fun _ => SVles.refl _) (fun _ => s23 ((revoked l x y).fst) ((revoked l x y).fst)) (by kernel_rfl) ?_
    refine good_run 11 (obs := []) (by kernel_rfl) trivial ?_
    refine good_fin [(decide ((granted l p).fst = (granted l p).fst) && decide ((granted l p).snd = (granted l p).snd) && decide ((revoked l x y).fst = (revoked l x y).fst) && decide ((revoked l x y).snd = (revoked l x y).snd)) = true] (by kernel_rfl) ⟨?_, trivial⟩
    simp
theorem granted_err {l : List Permit} {p : Permit} (h : (granted l p).2 ≠ 0) : (granted l p).1 = [] := by
  unfold granted at h ⊢
  split
  · rfl
  · rename_i h1
    rw [if_neg h1] at h
    split
    · rfl
    · rename_i h2
      rw [if_neg h2] at h
      split
      · rfl
      · rename_i h3
        rw [if_neg h3] at h
        split
        · rfl
        · rename_i h4
          rw [if_neg h4] at h
          exact (h rfl).elim
theorem granted_ok {l : List Permit} {p : Permit} (h : (granted l p).2 = 0) : granted l p = (l ++ [p], 0) ∧ check l = 0 ∧ formedB p = true ∧ (0 < l.length → (l.getD (l.length - 1) default).ID < p.ID) ∧ l.length < 64 := by
  unfold granted at h ⊢
  split at h
  · cases h
  · split at h
    · cases h
    · split at h
      · cases h
      · split at h
        · cases h
        · rename_i h1 h2 h3 h4
          have h2' : formedB p = true := by simpa using h2
          have h1' : check l = 0 := by simpa using h1
          rw [if_neg h1, if_neg h2, if_neg h3, if_neg h4]
          refine ⟨rfl, h1', h2', fun h0 => ?_, by omega⟩
          simp only [Bool.and_eq_true, decide_eq_true_eq, not_and] at h3
          have := h3 h0
          omega
theorem chk_append : ∀ (l r : List Permit) (prev : Option Int), chk prev l = 0 → chk prev (l ++ r) = chk (match l.getLast? with | some q => some q.ID | none => prev) r
  | [], _, _, _ => rfl
  | p :: l, r, prev, h => by
    rw [chk] at h
    rw [List.cons_append, chk]
    split at h
    · cases h
    · split at h
      · cases h
      · rename_i h1 h2
        rw [if_neg h1, if_neg h2, chk_append l r _ h]
        cases l with
        | nil => rfl
        | cons q t => simp [List.getLast?_cons]
theorem check_granted {l : List Permit} {p : Permit} (h : (granted l p).2 = 0) : check (l ++ [p]) = 0 := by
  obtain ⟨_, h1, h2, h3, h4⟩ := granted_ok h
  have hc : chk none l = 0 := by
    rw [check] at h1; rw [if_neg (by omega)] at h1; exact h1
  rw [check, if_neg (by simp; omega), chk_append l [p] none hc]
  simp only [chk, h2]
  cases hl : l.getLast? with
  | none => simp [prevB]
  | some q =>
    have hne : l ≠ [] := by rintro rfl; simp at hl
    have hpos : 0 < l.length := List.length_pos_iff.2 hne
    have hq : l.getD (l.length - 1) default = q := by
      rw [List.getLast?_eq_getElem?] at hl
      rw [List.getD_eq_getElem?_getD, hl]; rfl
    have := h3 hpos
    rw [hq] at this
    simp [prevB]; omega
theorem gives_law (l : List Permit) (p : Permit) (reader : Int) (path : List Int) (kind day : Int) (h : (granted l p).2 = 0) :
    ((firstP l reader path kind day).2 = true → (firstP (l ++ [p]) reader path kind day) = firstP l reader path kind day) ∧
    ((firstP l reader path kind day).2 = false → (firstP (l ++ [p]) reader path kind day) = if coversB p reader path kind day then (p.ID, true) else (0, false)) := by
  obtain ⟨_, h1, _⟩ := granted_ok h
  have h2 := check_granted h
  unfold firstP
  rw [h1, h2, List.find?_append]
  simp only [ne_eq, not_true_eq_false, if_false]
  cases l.find? (fun p => coversB p reader path kind day) with
  | some q => simp
  | none =>
    simp only [Option.none_or, List.find?_cons, List.find?_nil]
    cases coversB p reader path kind day <;> simp
theorem s5 (l : List Permit) (p : Permit) (reader : Int) (path : List Int) (kind day : Int) : Spec Try.prog 5 [permits l, p.sv, asked reader path kind day] (.bool true) := by
  refine spec_len 0 rfl (hasBody_of_slim Try.func5 F5_ok) fun hlen => ?_
  refine spec_of_good mixed Try.func5 F5_ok (by kernel_rfl) ?_
  refine good_run 10 (obs := []) (by kernel_rfl) trivial ?_
  refine good_call (c := True) (by kernel_rfl) (fun _ => SVles.refl _) (fun _ => s11) (by kernel_rfl) ?_
  refine good_run 3 (obs := []) (by kernel_rfl) trivial ?_
  refine good_cond false (by kernel_rfl) (fun h => nomatch h) (fun _ => ?_)
  refine good_run 7 (obs := []) (by kernel_rfl) trivial ?_
  refine good_call (c := True) (by kernel_rfl) (fun _ => SVles.refl _) (fun _ => s12 (l) (path)) (by kernel_rfl) ?_
  refine good_run 3 (obs := []) (by kernel_rfl) trivial ?_
  refine good_cond (!(decide (List.length l ≤ (20 : Nat)) && decide (List.length path ≤ (20 : Nat)))) (by kernel_rfl) (fun hc1 => ?_) (fun hc1 => ?_)
  · refine good_run 7 (obs := []) (by kernel_rfl) trivial ?_
    refine good_fin [true = true] (by kernel_rfl) ⟨rfl, trivial⟩
  · simp only [Bool.not_eq_false', Bool.and_eq_true, decide_eq_true_eq] at hc1
    obtain ⟨hl, hp⟩ := hc1
    refine good_run 4 (obs := []) (by kernel_rfl) trivial ?_
    refine good_call (c := True) (by kernel_rfl) (fun _ => SVles.refl _) (fun _ => SpecOwn.spec (s17 (l) (by (first | omega | assumption | exact ⟨rfl, trivial⟩ | simp only [AllP, inK_iff, roomOK_iff, decide_eq_true_eq, Bool.and_eq_true, Bool.or_eq_true, Bool.not_eq_true', decide_eq_false_iff_not, and_true, true_and]; (first | omega | (and_intros <;> intros <;> (try and_intros) <;> first | omega | assumption | exact trivial)))))) (by kernel_rfl) ?_
    refine good_run 1 (obs := [True → (0 : Nat) + (6 : Nat) ≤ (6 : Nat)]) (by kernel_rfl) (by (first | omega | assumption | exact ⟨rfl, trivial⟩ | simp only [AllP, inK_iff, roomOK_iff, decide_eq_true_eq, Bool.and_eq_true, Bool.or_eq_true, Bool.not_eq_true', decide_eq_false_iff_not, and_true, true_and]; (first | omega | (and_intros <;> intros <;> (try and_intros) <;> first | omega | assumption | exact trivial)))) ?_
    refine good_call (c := True) (by kernel_rfl) (fun _ => SVles.refl _) (fun _ => s19 (l) (p)) (by kernel_rfl) ?_
    refine good_run 14 (obs := []) (by kernel_rfl) trivial ?_
    refine good_cond (!decide ((granted l p).snd = (0 : Int))) (by kernel_rfl) (fun hc1 => ?_) (fun hc1 => ?_)
    · simp only [Bool.not_eq_true', decide_eq_false_iff_not] at hc1
      refine good_run 10 (obs := []) (by kernel_rfl) trivial ?_
      refine good_fin [decide ((↑(List.length (granted l p).fst) : Int) = (0 : Int)) = true] (by kernel_rfl) ⟨?_, trivial⟩
      rw [granted_err hc1]; rfl
    · simp only [Bool.not_eq_false', decide_eq_true_eq] at hc1
      have hm : (granted l p).1.length ≤ 100000 := by
        rw [(granted_ok hc1).1]; simp; omega
      have hlaw := gives_law l p reader path kind day hc1
      have hm2 : (granted l p).1 = l ++ [p] := by rw [(granted_ok hc1).1]
      refine good_run 4 (obs := []) (by kernel_rfl) trivial ?_
      refine good_call (c := True) (by kernel_rfl) (fun _ => SVles.refl _) (fun _ => SpecOwn.spec (s17 (l) (by (first | omega | assumption | exact ⟨rfl, trivial⟩ | simp only [AllP, inK_iff, roomOK_iff, decide_eq_true_eq, Bool.and_eq_true, Bool.or_eq_true, Bool.not_eq_true', decide_eq_false_iff_not, and_true, true_and]; (first | omega | (and_intros <;> intros <;> (try and_intros) <;> first | omega | assumption | exact trivial)))))) (by kernel_rfl) ?_
      refine good_run 3 (obs := [True → (0 : Nat) + (4 : Nat) ≤ (4 : Nat)]) (by kernel_rfl) (by (first | omega | assumption | exact ⟨rfl, trivial⟩ | simp only [AllP, inK_iff, roomOK_iff, decide_eq_true_eq, Bool.and_eq_true, Bool.or_eq_true, Bool.not_eq_true', decide_eq_false_iff_not, and_true, true_and]; (first | omega | (and_intros <;> intros <;> (try and_intros) <;> first | omega | assumption | exact trivial)))) ?_
      refine good_call (c := True) (by kernel_rfl) (fun _ => SVles.refl _) (fun _ => SpecOwn.spec (s14 (reader) (path) (kind) (day) (by (first | omega | assumption | exact ⟨rfl, trivial⟩ | simp only [AllP, inK_iff, roomOK_iff, decide_eq_true_eq, Bool.and_eq_true, Bool.or_eq_true, Bool.not_eq_true', decide_eq_false_iff_not, and_true, true_and]; (first | omega | (and_intros <;> intros <;> (try and_intros) <;> first | omega | assumption | exact trivial)))))) (by kernel_rfl) ?_
      refine good_run 4 (obs := []) (by kernel_rfl) trivial ?_
      refine good_call (c := True) (by kernel_rfl) (fun _ => SVles.refl _) (fun _ => s24 (l) (reader) (path) (kind) (day)) (by kernel_rfl) ?_
      refine good_run 10 (obs := []) (by kernel_rfl) trivial ?_
      refine good_call (c := True) (by kernel_rfl) (fun _ => SVles.refl _) (fun _ => SpecOwn.spec (s17 ((granted l p).fst) (by (first | omega | assumption | exact ⟨rfl, trivial⟩ | simp only [AllP, inK_iff, roomOK_iff, decide_eq_true_eq, Bool.and_eq_true, Bool.or_eq_true, Bool.not_eq_true', decide_eq_false_iff_not, and_true, true_and]; (first | omega | (and_intros <;> intros <;> (try and_intros) <;> first | omega | assumption | exact trivial)))))) (by kernel_rfl) ?_
      refine good_run 3 (obs := [True → (0 : Nat) + (4 : Nat) ≤ (4 : Nat)]) (by kernel_rfl) (by (first | omega | assumption | exact ⟨rfl, trivial⟩ | simp only [AllP, inK_iff, roomOK_iff, decide_eq_true_eq, Bool.and_eq_true, Bool.or_eq_true, Bool.not_eq_true', decide_eq_false_iff_not, and_true, true_and]; (first | omega | (and_intros <;> intros <;> (try and_intros) <;> first | omega | assumption | exact trivial)))) ?_
      refine good_call (c := True) (by kernel_rfl) (fun _ => SVles.refl _) (fun _ => SpecOwn.spec (s14 (reader) (path) (kind) (day) (by (first | omega | assumption | exact ⟨rfl, trivial⟩ | simp only [AllP, inK_iff, roomOK_iff, decide_eq_true_eq, Bool.and_eq_true, Bool.or_eq_true, Bool.not_eq_true', decide_eq_false_iff_not, and_true, true_and]; (first | omega | (and_intros <;> intros <;> (try and_intros) <;> first | omega | assumption | exact trivial)))))) (by kernel_rfl) ?_
      refine good_run 4 (obs := []) (by kernel_rfl) trivial ?_
      refine good_call (c := True) (by kernel_rfl) (fun _ => SVles.refl _) (fun _ => s24 ((granted l p).fst) (reader) (path) (kind) (day)) (by kernel_rfl) ?_
      refine good_run 13 (obs := []) (by kernel_rfl) trivial ?_
      refine good_cond ((firstP l reader path kind day).snd) (by kernel_rfl) (fun hc2 => ?_) (fun hc2 => ?_)
      · refine good_run 13 (obs := []) (by kernel_rfl) trivial ?_
        refine good_fin [((firstP (granted l p).fst reader path kind day).snd && decide ((firstP l reader path kind day).fst = (firstP (granted l p).fst reader path kind day).fst)) = true] (by kernel_rfl) ⟨?_, trivial⟩
        rw [hm2, hlaw.1 hc2, hc2]
        simp
      · refine good_run 8 (obs := [True → (0 : Nat) + (6 : Nat) ≤ (6 : Nat), True → (0 : Nat) + (4 : Nat) ≤ (4 : Nat)]) (by kernel_rfl) (by (first | omega | assumption | exact ⟨rfl, trivial⟩ | simp only [AllP, inK_iff, roomOK_iff, decide_eq_true_eq, Bool.and_eq_true, Bool.or_eq_true, Bool.not_eq_true', decide_eq_false_iff_not, and_true, true_and]; (first | omega | (and_intros <;> intros <;> (try and_intros) <;> first | omega | assumption | exact trivial)))) ?_
        refine good_call (c := True) (by kernel_rfl) (fun _ => SVles.refl _) (fun _ => SpecOwn.spec (s14 (reader) (path) (kind) (day) (by (first | omega | assumption | exact ⟨rfl, trivial⟩ | simp only [AllP, inK_iff, roomOK_iff, decide_eq_true_eq, Bool.and_eq_true, Bool.or_eq_true, Bool.not_eq_true', decide_eq_false_iff_not, and_true, true_and]; (first | omega | (and_intros <;> intros <;> (try and_intros) <;> first | omega | assumption | exact trivial)))))) (by kernel_rfl) ?_
        refine good_run 4 (obs := []) (by kernel_rfl) trivial ?_
        refine good_call (c := True) (by kernel_rfl) (fun _ => SVles.refl _) (fun _ => s13 (p) (reader) (path) (kind) (day)) (by kernel_rfl) ?_
        refine good_run 22 (obs := []) (by kernel_rfl) trivial ?_
        refine good_fin [((firstP (granted l p).fst reader path kind day).snd == coversB p reader path kind day && (!(firstP (granted l p).fst reader path kind day).snd || decide ((firstP (granted l p).fst reader path kind day).fst = p.ID) && decide (reader = p.Reader))) = true] (by kernel_rfl) ⟨?_, trivial⟩
        rw [hm2, hlaw.2 hc2]
        cases hcv : coversB p reader path kind day with
        | false => simp
        | true =>
          have : reader = p.Reader := by
            simp only [coversB, Bool.and_eq_true, decide_eq_true_eq] at hcv
            exact hcv.1.1.symm
          simp [this]
end Go.Sx.T
