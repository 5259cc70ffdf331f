/- Contracts of functions of the program, each proved by running its code symbolically (CU). -/
import Derived.Test.YteecckjnbeambaaCP
namespace Go.Sx.T
open Go Go.Proofs Go.Sx
set_option maxRecDepth 100000
set_option maxHeartbeats 4000000
set_option linter.unusedVariables false
set_option linter.unusedSimpArgs false
theorem stays_err {l : List Move} {b : Int} (h : (staysF l b).2.2 ≠ 0) : (staysF l b).1 = [] ∧ (staysF l b).2.1 = [] := by
  unfold staysF at h ⊢
  by_cases h1 : checkL l ≠ 0
  · rw [if_pos h1]; exact ⟨rfl, rfl⟩
  · rw [if_neg h1] at h ⊢
    by_cases h2 : okId b = true
    · rw [if_pos h2] at h; exact (h rfl).elim
    · rw [if_neg h2]; exact ⟨rfl, rfl⟩
structure Covers (l : List Move) (b : Int) (ps : List Place) (ss : List Span) : Prop where
  len : ps.length = ss.length
  pos : 0 < ss.length
  small : ss.length ≤ 1025
  first : (ss.getD 0 default).From = 0
  last : (ss.getD (ss.length - 1) default).Until = 1048576
  each : ∀ j, j < ss.length → (ss.getD j default).From < (ss.getD j default).Until
  next : ∀ j, j + 1 < ss.length → (ss.getD j default).Until = (ss.getD (j + 1) default).From ∧ ps.getD j default ≠ ps.getD (j + 1) default
  now : ∀ d j, j < ss.length → (ss.getD j default).From ≤ d → d < (ss.getD j default).Until → whereL l b d = (ps.getD j default, 0)
theorem stays_covers {l : List Move} {b : Int} (h : (staysF l b).2.2 = 0) : Covers l b (staysF l b).1 (staysF l b).2.1 := by
  have hc : checkL l = 0 := Classical.byContradiction fun hc => by rw [staysF, if_pos hc] at h; cases h
  have hb : okId b = true := Classical.byContradiction fun hb => by rw [staysF, if_neg (by simp [hc]), if_neg hb] at h; cases h
  have e : staysF l b = ((stayN (histL l b) (histL l b).length).1, (stayN (histL l b) (histL l b).length).2, 0) := by rw [staysF, if_neg (by simp [hc]), if_pos hb]
  rw [e]
  have hll := ((checkL_iff l).1 hc).1
  have hhl : (histL l b).length ≤ l.length := List.length_filter_le _ _
  have hr : ∀ j, j < (histL l b).length → 0 ≤ ((histL l b).getD j default).Day ∧ ((histL l b).getD j default).Day ≤ 1048575 := fun j hj => by
    have hm : (histL l b).getD j default ∈ l := (List.mem_filter.1 (getD_mem (histL l b) default j hj)).1
    obtain ⟨k, hk, e⟩ := List.mem_iff_getElem.1 hm
    have h := (checkL_at hc hk).ok
    rw [getD_of_lt l k hk, e] at h
    simp only [okMove, okDay, Bool.and_eq_true, decide_eq_true_eq] at h
    omega
  have H := stay_all (histL l b) (asc_hist (asc_of_check hc) b) hr _ (Nat.le_refl _)
  obtain ⟨n1, n2, n3⟩ := stayN_len (histL l b) (histL l b).length
  simp only
  generalize hq : stayN (histL l b) (histL l b).length = q at H n1 n2 n3 ⊢
  have hfrom : ∀ j, j < q.2.length → 0 ≤ (q.2.getD j default).From := by
    intro j
    induction j with
    | zero => intro _; rw [H.first]; exact Int.le_refl _
    | succ j ih =>
      intro hj
      have h1 := ih (by omega)
      have h2 := H.each j (by omega)
      have h3 := (H.next j hj).1
      omega
  have huntil : ∀ j, j < q.2.length → (q.2.getD j default).Until ≤ 1048576 := fun j hj => by
    by_cases e : j = q.2.length - 1
    · rw [e, H.last]; exact Int.le_refl _
    · have h1 := H.until_le (q.2.length - 1 - j - 1) j (by omega)
      rw [show j + (q.2.length - 1 - j - 1) + 1 = q.2.length - 1 by omega] at h1
      have h2 := H.each (q.2.length - 1) (by omega)
      rw [H.last] at h2
      omega
  refine ⟨H.len, H.pos, by omega, H.first, H.last, H.each, H.next, fun d j hj h1 h2 => ?_⟩
  have h3 := hfrom j hj
  have h4 := huntil j hj
  have hd : okDay d = true := by simp only [okDay, Bool.and_eq_true, decide_eq_true_eq]; omega
  rw [whereL, if_neg (by simp [hc]), if_pos ⟨hb, hd⟩, last_until l d b (asc_of_check hc), ← H.now d (by omega) (fun h => by omega) j hj h1 h2]
theorem s6 (l : List Move) (b day : Int) : Spec Try.prog 6 [moves l, .int .i64 b, .int .i64 day] (.bool true) := by
  refine spec_of_good mixed Try.func6 F6_ok (by kernel_rfl) ?_
  have heq := eq24
  refine good_run 8 (obs := []) (by kernel_rfl) trivial ?_
  refine good_call (c := True) (by kernel_rfl) (fun _ => SVles.refl _) (fun _ => s10) (by kernel_rfl) ?_
  refine good_run 3 (obs := []) (by kernel_rfl) trivial ?_
  refine good_cond false (by kernel_rfl) (fun h => nomatch h) (fun _ => ?_)
  refine good_run 5 (obs := []) (by kernel_rfl) trivial ?_
  refine good_call (c := True) (by kernel_rfl) (fun _ => SVles.refl _) (fun _ => s11 (l)) (by kernel_rfl) ?_
  refine good_run 3 (obs := []) (by kernel_rfl) trivial ?_
  refine good_cond (!decide ((↑(List.length l) : Int) ≤ (60 : Int))) (by kernel_rfl) (fun hc1 => ?_) (fun hc1 => ?_)
  · refine good_run 7 (obs := []) (by kernel_rfl) trivial ?_
    refine good_fin [true = true] (by kernel_rfl) ⟨rfl, trivial⟩
  · have hfew : l.length ≤ 60 := by simp at hc1; omega
    refine good_run 4 (obs := []) (by kernel_rfl) trivial ?_
    refine good_own (c := True) (by kernel_rfl) (by kernel_rfl) (SVles.refl _) (s13 (List.length l) (fun i => Move.cells (List.getD l i default)) (by (first | omega | assumption | exact ⟨rfl, trivial⟩ | simp only [AllP, inK_iff, roomOK_iff, decide_eq_true_eq, Bool.and_eq_true, Bool.or_eq_true, Bool.not_eq_true', decide_eq_false_iff_not, and_true, true_and]; (first | omega | (and_intros <;> intros <;> (try and_intros) <;> first | omega | assumption | exact trivial))))) ?_
    refine good_run 1 (obs := []) (by kernel_rfl) trivial ?_
    refine good_call (c := True) (by kernel_rfl) (fun _ => SVles.refl _) (fun _ => s23 (l) (b)) (by kernel_rfl) ?_
    refine good_run 16 (obs := []) (by kernel_rfl) trivial ?_
    refine good_cond (!decide ((staysF l b).snd.2 = (0 : Int))) (by kernel_rfl) (fun hc2 => ?_) (fun hc2 => ?_)
    · obtain ⟨e1, e2⟩ := stays_err (l := l) (b := b) (by simpa using hc2)
      rw [e1, e2]
      refine good_run 15 (obs := []) (by kernel_rfl) trivial ?_
      refine good_fin [(decide ((0 : Int) = (0 : Int)) && decide ((0 : Int) = (0 : Int))) = true] (by kernel_rfl) ⟨(by rfl), trivial⟩
    · have H := stays_covers (l := l) (b := b) (by simpa using hc2)
      generalize (staysF l b).1 = ps at *
      generalize (staysF l b).2.1 = ss at *
      have hsm := H.small
      have hpos := H.pos
      have hle := H.len
      have hz : ((ss.length : Int) - 1).toNat = ss.length - 1 := by omega
      refine good_run 33 (obs := [(!decide ((↑(List.length ps) : Int) = (↑(List.length ss) : Int)) || decide ((↑(List.length ss) : Int) = (0 : Int))) = false ∧ True → (2 : Nat) = (2 : Nat) ∧ (0 : Int) ≤ (0 : Int) ∧ (0 : Int) < (↑(List.length ss) : Int), (!decide ((↑(List.length ps) : Int) = (↑(List.length ss) : Int)) || decide ((↑(List.length ss) : Int) = (0 : Int)) || !decide ((List.getD ss (0 : Nat) default).From = (0 : Int))) = false ∧ True → InK IntKind.i64 ((↑(List.length ss) : Int) - (1 : Int)), (!decide ((↑(List.length ps) : Int) = (↑(List.length ss) : Int)) || decide ((↑(List.length ss) : Int) = (0 : Int)) || !decide ((List.getD ss (0 : Nat) default).From = (0 : Int))) = false ∧ True → (2 : Nat) = (2 : Nat) ∧ (0 : Int) ≤ (↑(List.length ss) : Int) - (1 : Int) ∧ (↑(List.length ss) : Int) - (1 : Int) < (↑(List.length ss) : Int)]) (by kernel_rfl) (by (first | omega | assumption | exact ⟨rfl, trivial⟩ | simp only [AllP, inK_iff, roomOK_iff, decide_eq_true_eq, Bool.and_eq_true, Bool.or_eq_true, Bool.not_eq_true', decide_eq_false_iff_not, and_true, true_and]; (first | omega | (and_intros <;> intros <;> (try and_intros) <;> first | omega | assumption | exact trivial)))) ?_
      refine good_cond (!decide ((↑(List.length ps) : Int) = (↑(List.length ss) : Int)) || decide ((↑(List.length ss) : Int) = (0 : Int)) || !decide ((List.getD ss (0 : Nat) default).From = (0 : Int)) || !decide ((List.getD ss (Int.toNat ((↑(List.length ss) : Int) - (1 : Int))) default).Until = (1048576 : Int))) (by kernel_rfl) (fun hc3 => ?_) (fun hc3 => ?_)
      · exfalso
        rw [hz, H.first, H.last, hle] at hc3
        have h0 : decide ((ss.length : Int) = 0) = false := decide_eq_false (by omega)
        rw [h0] at hc3
        simp at hc3
      · refine good_run 10 (obs := []) (by kernel_rfl) trivial ?_
        refine good_loopJ (fun i : Nat => ⟨[(65, .sv (.int .i64 (i))), (64, LV.sv (SV.int IntKind.i64 (↑(List.length ss) : Int))), (8, LV.sv (SV.lst (2 : Nat) (List.length ss) fun i => Span.cells (List.getD ss i default))), (7, LV.sv (SV.lst (2 : Nat) (List.length ps) fun i => Place.cells (List.getD ps i default))), (0, LV.sv (SV.lst (6 : Nat) (List.length l) fun i => Move.cells (List.getD l i default))), (1, LV.sv (SV.int IntKind.i64 b)), (2, LV.sv (SV.int IntKind.i64 day))], [Blk.row (26 : Nat) (6 : Nat) (List.length l) false fun i => Move.cells (List.getD l i default)]⟩) (fun i => i ≤ ss.length) (fun i => ss.length - i) (0) [List.length l = List.length l ∧ ∀ (i : Nat), i < List.length l → (fun i => Move.cells (List.getD l i default)) i = (fun i => Move.cells (List.getD l i default)) i, (0 : Int) = (0 : Int), (↑(List.length ss) : Int) = (↑(List.length ss) : Int), List.length ss = List.length ss ∧ ∀ (i : Nat), i < List.length ss → (fun i => Span.cells (List.getD ss i default)) i = (fun i => Span.cells (List.getD ss i default)) i, List.length ps = List.length ps ∧ ∀ (i : Nat), i < List.length ps → (fun i => Place.cells (List.getD ps i default)) i = (fun i => Place.cells (List.getD ps i default)) i, List.length l = List.length l ∧ ∀ (i : Nat), i < List.length l → (fun i => Move.cells (List.getD l i default)) i = (fun i => Move.cells (List.getD l i default)) i, b = b, day = day] (by kernel_rfl) (by kernel_rfl) ⟨⟨rfl, fun _ _ => rfl⟩, rfl, rfl, ⟨rfl, fun _ _ => rfl⟩, ⟨rfl, fun _ _ => rfl⟩, ⟨rfl, fun _ _ => rfl⟩, rfl, rfl, trivial⟩ (by omega) ?_
        intro i hi
        refine good_run 6 (obs := []) (by kernel_rfl) trivial ?_
        refine good_cond (decide ((↑i : Int) < (↑(List.length ss) : Int))) (by kernel_rfl) (fun hc4 => ?_) (fun hc4 => ?_)
        · have hlt : i < ss.length := by simp only [decide_eq_true_eq] at hc4; omega
          have hz1 : 0 < i → ((i : Int) - 1).toNat = i - 1 := fun h => by omega
          have hE := H.each i hlt
          refine good_run 55 (obs := [True → (2 : Nat) = (2 : Nat) ∧ (0 : Int) ≤ (↑i : Int) ∧ (↑i : Int) < (↑(List.length ss) : Int), True → (2 : Nat) = (2 : Nat) ∧ (0 : Int) ≤ (↑i : Int) ∧ (↑i : Int) < (↑(List.length ss) : Int), decide ((0 : Int) < (↑i : Int)) = true ∧ decide ((List.getD ss i default).Until ≤ (List.getD ss i default).From) = false ∧ True → InK IntKind.i64 ((↑i : Int) - (1 : Int)), decide ((0 : Int) < (↑i : Int)) = true ∧ decide ((List.getD ss i default).Until ≤ (List.getD ss i default).From) = false ∧ True → (2 : Nat) = (2 : Nat) ∧ (0 : Int) ≤ (↑i : Int) - (1 : Int) ∧ (↑i : Int) - (1 : Int) < (↑(List.length ss) : Int), decide ((0 : Int) < (↑i : Int)) = true ∧ decide ((List.getD ss i default).Until ≤ (List.getD ss i default).From) = false ∧ True → (2 : Nat) = (2 : Nat) ∧ (0 : Int) ≤ (↑i : Int) ∧ (↑i : Int) < (↑(List.length ss) : Int), (!decide ((List.getD ss (Int.toNat ((↑i : Int) - (1 : Int))) default).Until = (List.getD ss i default).From)) = false ∧ decide ((0 : Int) < (↑i : Int)) = true ∧ decide ((List.getD ss i default).Until ≤ (List.getD ss i default).From) = false ∧ True → InK IntKind.i64 ((↑i : Int) - (1 : Int)), (!decide ((List.getD ss (Int.toNat ((↑i : Int) - (1 : Int))) default).Until = (List.getD ss i default).From)) = false ∧ decide ((0 : Int) < (↑i : Int)) = true ∧ decide ((List.getD ss i default).Until ≤ (List.getD ss i default).From) = false ∧ True → (2 : Nat) = (2 : Nat) ∧ (0 : Int) ≤ (↑i : Int) - (1 : Int) ∧ (↑i : Int) - (1 : Int) < (↑(List.length ps) : Int), (!decide ((List.getD ss (Int.toNat ((↑i : Int) - (1 : Int))) default).Until = (List.getD ss i default).From)) = false ∧ decide ((0 : Int) < (↑i : Int)) = true ∧ decide ((List.getD ss i default).Until ≤ (List.getD ss i default).From) = false ∧ True → (0 : Nat) + (2 : Nat) ≤ (2 : Nat), (!decide ((List.getD ss (Int.toNat ((↑i : Int) - (1 : Int))) default).Until = (List.getD ss i default).From)) = false ∧ decide ((0 : Int) < (↑i : Int)) = true ∧ decide ((List.getD ss i default).Until ≤ (List.getD ss i default).From) = false ∧ True → (2 : Nat) = (2 : Nat) ∧ (0 : Int) ≤ (↑i : Int) ∧ (↑i : Int) < (↑(List.length ps) : Int), (!decide ((List.getD ss (Int.toNat ((↑i : Int) - (1 : Int))) default).Until = (List.getD ss i default).From)) = false ∧ decide ((0 : Int) < (↑i : Int)) = true ∧ decide ((List.getD ss i default).Until ≤ (List.getD ss i default).From) = false ∧ True → (0 : Nat) + (2 : Nat) ≤ (2 : Nat), (!decide ((List.getD ss (Int.toNat ((↑i : Int) - (1 : Int))) default).Until = (List.getD ss i default).From)) = false ∧ decide ((0 : Int) < (↑i : Int)) = true ∧ decide ((List.getD ss i default).Until ≤ (List.getD ss i default).From) = false ∧ True → EqOK Try.prog (24 : TypeId) (2 : Nat) ∧ (2 : Nat) = (2 : Nat)]) (by kernel_rfl) (by (first | omega | assumption | exact ⟨rfl, trivial⟩ | simp only [AllP, inK_iff, roomOK_iff, decide_eq_true_eq, Bool.and_eq_true, Bool.or_eq_true, Bool.not_eq_true', decide_eq_false_iff_not, and_true, true_and]; (first | omega | (and_intros <;> intros <;> (try and_intros) <;> first | omega | assumption | exact trivial)))) ?_
          refine good_cond (decide ((List.getD ss i default).Until ≤ (List.getD ss i default).From) || decide ((0 : Int) < (↑i : Int)) && (!decide ((List.getD ss (Int.toNat ((↑i : Int) - (1 : Int))) default).Until = (List.getD ss i default).From) || false ^^ decide ([(List.getD ps (Int.toNat ((↑i : Int) - (1 : Int))) default).Kind, (List.getD ps (Int.toNat ((↑i : Int) - (1 : Int))) default).Of] = [(List.getD ps i default).Kind, (List.getD ps i default).Of]))) (by kernel_rfl) (fun hc5 => ?_) (fun hc5 => ?_)
          · exfalso
            rcases Nat.eq_zero_or_pos i with h | h
            · subst h
              rw [decide_eq_false (by omega)] at hc5
              simp at hc5
            · have hN := H.next (i - 1) (by omega)
              rw [show i - 1 + 1 = i by omega] at hN
              rw [hz1 h, decide_eq_false (by omega), hN.1] at hc5
              have : [(ps.getD (i - 1) default).Kind, (ps.getD (i - 1) default).Of] ≠ [(ps.getD i default).Kind, (ps.getD i default).Of] := fun e => hN.2 ((place_ints _ _).1 e)
              simp only [decide_eq_false this] at hc5
              simp at hc5
          · refine good_run 21 (obs := [(2 : Nat) = (2 : Nat) ∧ (0 : Int) ≤ (↑i : Int) ∧ (↑i : Int) < (↑(List.length ss) : Int), decide ((List.getD ss i default).From ≤ day) = true ∧ True → (2 : Nat) = (2 : Nat) ∧ (0 : Int) ≤ (↑i : Int) ∧ (↑i : Int) < (↑(List.length ss) : Int)]) (by kernel_rfl) (by (first | omega | assumption | exact ⟨rfl, trivial⟩ | simp only [AllP, inK_iff, roomOK_iff, decide_eq_true_eq, Bool.and_eq_true, Bool.or_eq_true, Bool.not_eq_true', decide_eq_false_iff_not, and_true, true_and]; (first | omega | (and_intros <;> intros <;> (try and_intros) <;> first | omega | assumption | exact trivial)))) ?_
            refine good_cond (decide ((List.getD ss i default).From ≤ day) && decide (day < (List.getD ss i default).Until)) (by kernel_rfl) (fun hc6 => ?_) (fun hc6 => ?_)
            · simp only [Bool.and_eq_true, decide_eq_true_eq] at hc6
              have hw := H.now day i hlt hc6.1 hc6.2
              have s18a : Spec Try.prog 18 [moves l, .int .i64 b, .int .i64 day] (.tup [(ps.getD i default).sv, .int .i64 0]) := by
                have := s18 l b day
                rwa [hw] at this
              refine good_run 3 (obs := []) (by kernel_rfl) trivial ?_
              refine good_own (c := True) (by kernel_rfl) (by kernel_rfl) (SVles.refl _) (s13 (List.length l) (fun i => Move.cells (List.getD l i default)) (by (first | omega | assumption | exact ⟨rfl, trivial⟩ | simp only [AllP, inK_iff, roomOK_iff, decide_eq_true_eq, Bool.and_eq_true, Bool.or_eq_true, Bool.not_eq_true', decide_eq_false_iff_not, and_true, true_and]; (first | omega | (and_intros <;> intros <;> (try and_intros) <;> first | omega | assumption | exact trivial))))) ?_
              refine good_run 2 (obs := []) (by kernel_rfl) trivial ?_
              refine good_call (c := True) (by kernel_rfl) (fun _ => SVles.refl _) (fun _ => s18a) (by kernel_rfl) ?_
              refine good_run 22 (obs := [(2 : Nat) = (2 : Nat) ∧ (0 : Nat) + (2 : Nat) ≤ (2 : Nat), (!decide ((0 : Int) = (0 : Int))) = false ∧ True → (0 : Nat) + (2 : Nat) ≤ (2 : Nat), (!decide ((0 : Int) = (0 : Int))) = false ∧ True → (2 : Nat) = (2 : Nat) ∧ (0 : Int) ≤ (↑i : Int) ∧ (↑i : Int) < (↑(List.length ps) : Int), (!decide ((0 : Int) = (0 : Int))) = false ∧ True → (0 : Nat) + (2 : Nat) ≤ (2 : Nat), (!decide ((0 : Int) = (0 : Int))) = false ∧ True → EqOK Try.prog (24 : Nat) (2 : Nat) ∧ (2 : Nat) = (2 : Nat)]) (by kernel_rfl) (by (first | omega | assumption | exact ⟨rfl, trivial⟩ | simp only [AllP, inK_iff, roomOK_iff, decide_eq_true_eq, Bool.and_eq_true, Bool.or_eq_true, Bool.not_eq_true', decide_eq_false_iff_not, and_true, true_and]; (first | omega | (and_intros <;> intros <;> (try and_intros) <;> first | omega | assumption | exact trivial)))) ?_
              refine good_cond (!decide ((0 : Int) = (0 : Int)) || true ^^ decide ([(List.getD ps i default).Kind, (List.getD ps i default).Of] = [(List.getD ps i default).Kind, (List.getD ps i default).Of])) (by kernel_rfl) (fun hc7 => ?_) (fun hc7 => ?_)
              · exfalso
                simp at hc7
              · refine good_run 7 (obs := [InK IntKind.i64 ((↑i : Int) + (1 : Int))]) (by kernel_rfl) (by (first | omega | assumption | exact ⟨rfl, trivial⟩ | simp only [AllP, inK_iff, roomOK_iff, decide_eq_true_eq, Bool.and_eq_true, Bool.or_eq_true, Bool.not_eq_true', decide_eq_false_iff_not, and_true, true_and]; (first | omega | (and_intros <;> intros <;> (try and_intros) <;> first | omega | assumption | exact trivial)))) ?_
                refine good_backJ (i + 1) [List.length l = List.length l ∧ ∀ (i : Nat), i < List.length l → (fun i => Move.cells (List.getD l i default)) i = (fun i => Move.cells (List.getD l i default)) i, (↑i : Int) + (1 : Int) = (↑(i + (1 : Nat)) : Int), (↑(List.length ss) : Int) = (↑(List.length ss) : Int), List.length ss = List.length ss ∧ ∀ (i : Nat), i < List.length ss → (fun i => Span.cells (List.getD ss i default)) i = (fun i => Span.cells (List.getD ss i default)) i, List.length ps = List.length ps ∧ ∀ (i : Nat), i < List.length ps → (fun i => Place.cells (List.getD ps i default)) i = (fun i => Place.cells (List.getD ps i default)) i, List.length l = List.length l ∧ ∀ (i : Nat), i < List.length l → (fun i => Move.cells (List.getD l i default)) i = (fun i => Move.cells (List.getD l i default)) i, b = b, day = day] (by kernel_rfl) (by kernel_rfl) ⟨⟨rfl, fun _ _ => rfl⟩, (by omega), rfl, ⟨rfl, fun _ _ => rfl⟩, ⟨rfl, fun _ _ => rfl⟩, ⟨rfl, fun _ _ => rfl⟩, rfl, rfl, trivial⟩ (by omega) (by show _ < _; omega)
            · refine good_run 7 (obs := [InK IntKind.i64 ((↑i : Int) + (1 : Int))]) (by kernel_rfl) (by (first | omega | assumption | exact ⟨rfl, trivial⟩ | simp only [AllP, inK_iff, roomOK_iff, decide_eq_true_eq, Bool.and_eq_true, Bool.or_eq_true, Bool.not_eq_true', decide_eq_false_iff_not, and_true, true_and]; (first | omega | (and_intros <;> intros <;> (try and_intros) <;> first | omega | assumption | exact trivial)))) ?_
              refine good_backJ (i + 1) [List.length l = List.length l ∧ ∀ (i : Nat), i < List.length l → (fun i => Move.cells (List.getD l i default)) i = (fun i => Move.cells (List.getD l i default)) i, (↑i : Int) + (1 : Int) = (↑(i + (1 : Nat)) : Int), (↑(List.length ss) : Int) = (↑(List.length ss) : Int), List.length ss = List.length ss ∧ ∀ (i : Nat), i < List.length ss → (fun i => Span.cells (List.getD ss i default)) i = (fun i => Span.cells (List.getD ss i default)) i, List.length ps = List.length ps ∧ ∀ (i : Nat), i < List.length ps → (fun i => Place.cells (List.getD ps i default)) i = (fun i => Place.cells (List.getD ps i default)) i, List.length l = List.length l ∧ ∀ (i : Nat), i < List.length l → (fun i => Move.cells (List.getD l i default)) i = (fun i => Move.cells (List.getD l i default)) i, b = b, day = day] (by kernel_rfl) (by kernel_rfl) ⟨⟨rfl, fun _ _ => rfl⟩, (by omega), rfl, ⟨rfl, fun _ _ => rfl⟩, ⟨rfl, fun _ _ => rfl⟩, ⟨rfl, fun _ _ => rfl⟩, rfl, rfl, trivial⟩ (by omega) (by show _ < _; omega)
        · refine good_run 2 (obs := []) (by kernel_rfl) trivial ?_
          refine good_leaveJ (by kernel_rfl) ?_
          refine good_run 7 (obs := []) (by kernel_rfl) trivial ?_
          refine good_fin [true = true] (by kernel_rfl) ⟨rfl, trivial⟩
end Go.Sx.T
