/- Contracts of functions of the program, each proved by running its code symbolically (BW). -/
import Derived.Test.YtffgpipdiinkcaaBV
namespace Go.Sx.T
open Go Go.Proofs Go.Sx
set_option maxRecDepth 100000
set_option maxHeartbeats 4000000
set_option linter.unusedVariables false
set_option linter.unusedSimpArgs false
theorem put_perm {l : List Box} {id at' : Int} {c : Content} (h : (putB l id at' c).2 = 0) : Right (putB l id at' c).1 ∧ (units (putB l id at' c).1).Perm (c.Unit :: units l) := by
  have hck := check_iff.1 (put_undone h).1
  refine ⟨hck, ?_⟩
  obtain ⟨hr, i, hi, _, a0, a1, _, _, _, _, e⟩ := putB_ok h
  rw [e]
  have hp := units_withC_perm (cs := (l.getD i default).Contents.insertIdx at'.toNat c) hi
  have hq : (unitsC ((l.getD i default).Contents.insertIdx at'.toNat c)).Perm (c.Unit :: unitsC (l.getD i default).Contents) := (ins_perm _ _ c (by omega)).map _
  refine List.perm_iff_count.2 fun a => ?_
  have h1 := List.perm_iff_count.1 hp a
  have h2 := List.perm_iff_count.1 hq a
  simp only [List.count_append, List.count_cons] at h1 h2 ⊢
  omega
theorem take_perm {l : List Box} {u : Int} (h : (takeB l u).2.2 = 0) : Right (takeB l u).1 ∧ (units l).Perm ((takeB l u).2.1.Unit :: units (takeB l u).1) := by
  unfold takeB at h ⊢
  split at h
  · cases h
  · rename_i h1
    have hr := check_iff.1 (by simpa using h1 : check l = 0)
    split at h
    · cases h
    · rename_i h2
      rw [if_neg h1, if_neg h2]
      obtain ⟨i, j, hi, hj, hu, e⟩ := where_some h2
      simp only [e, Int.toNat_natCast]
      refine ⟨(right_take hr hi hj).1, ?_⟩
      have hp := units_withC_perm (cs := (l.getD i default).Contents.eraseIdx j) hi
      have hq : (unitsC (l.getD i default).Contents).Perm (((l.getD i default).Contents.getD j default).Unit :: unitsC ((l.getD i default).Contents.eraseIdx j)) := (erase_perm _ j hj).map _
      refine List.perm_iff_count.2 fun a => ?_
      have h1 := List.perm_iff_count.1 hp a
      have h2 := List.perm_iff_count.1 hq a
      simp only [List.count_append, List.count_cons] at h1 h2 ⊢
      omega
theorem isort_eq {a b : List Int} (h : a.Perm b) : isort a = isort b := by
  have h1 := (isort_perm a).trans (h.trans (isort_perm b).symm)
  exact List.Perm.eq_of_pairwise (le := (· ≤ ·)) (fun x y _ _ h1 h2 => Int.le_antisymm h1 h2) (isort_sorted a) (isort_sorted b) h1
structure Step where
  a : Int
  b : Int
  c : Int
  d : Int
  deriving Inhabited
def Step.cells (s : Step) : List SV := [.int .i64 s.a, .int .i64 s.b, .int .i64 s.c, .int .i64 s.d]
def stepsV (l : List Step) : SV := .lst 4 l.length fun i => (l.getD i default).cells
theorem right_len {l : List Box} (h : Right l) : l.length ≤ 100000 ∧ (∀ b ∈ l, b.Contents.length ≤ 100000) ∧ ∀ b ∈ l, b.Contents.length ≤ 1000 := by
  have := h.len
  exact ⟨by omega, fun b hb => by have := (fault_zero.1 (h.fault b hb)).2.1; omega, fun b hb => by have := (fault_zero.1 (h.fault b hb)).2.1; omega⟩
theorem s9 (l : List Box) (ss : List Step) : Spec Try.prog 9 [boxes l, stepsV ss] (.bool true) := by
  refine spec_len 1 rfl (hasBody_of_slim Try.func9 F9_ok) fun hls => ?_
  refine spec_lenEl 0 rfl (hasBody_of_slim Try.func9 F9_ok) fun hlen hel => ?_
  refine spec_of_good mixed Try.func9 F9_ok (by kernel_rfl) ?_
  refine good_run 8 (obs := []) (by kernel_rfl) trivial ?_
  refine good_call (c := True) (by kernel_rfl) (fun _ => SVles.refl _) (fun _ => s10) (by kernel_rfl) ?_
  refine good_run 3 (obs := []) (by kernel_rfl) trivial ?_
  refine good_cond false (by kernel_rfl) (fun h => nomatch h) (fun _ => ?_)
  refine good_run 5 (obs := []) (by kernel_rfl) trivial ?_
  refine good_call (c := True) (by kernel_rfl) (fun _ => SVles.refl _) (fun _ => s11 (l)) (by kernel_rfl) ?_
  refine good_run 9 (obs := []) (by kernel_rfl) trivial ?_
  refine good_call (c := (!few l || decide ((20 : Int) < (↑(List.length ss) : Int))) = false ∧ True) (by kernel_rfl) (fun _ => SVles.refl _) (fun _ => SpecOwn.spec (s13 (l) ?_ ?_)) (by kernel_rfl) ?_
  · rename_i h
    simp only [Bool.or_eq_false_iff, Bool.not_eq_false'] at h
    have := (few_spec h.1.1).1
    omega
  · rename_i h
    simp only [Bool.or_eq_false_iff, Bool.not_eq_false'] at h
    exact fun b hb => by have := (few_spec h.1.1).2 b hb; omega
  refine good_run 2 (obs := []) (by kernel_rfl) trivial ?_
  refine good_call (c := (!few l || decide ((20 : Int) < (↑(List.length ss) : Int))) = false ∧ True) (by kernel_rfl) (fun _ => SVles.refl _) (fun _ => s17 (l)) (by kernel_rfl) ?_
  refine good_run 5 (obs := []) (by kernel_rfl) trivial ?_
  refine good_cond (!few l || decide ((20 : Int) < (↑(List.length ss) : Int)) || !decide (check l = (0 : Int))) (by kernel_rfl) (fun hc1 => ?_) (fun hc1 => ?_)
  · refine good_run 7 (obs := []) (by kernel_rfl) trivial ?_
    refine good_fin [true = true] (by kernel_rfl) ⟨rfl, trivial⟩
  · simp only [Bool.or_eq_false_iff, Bool.not_eq_false', decide_eq_false_iff_not, decide_eq_true_eq] at hc1
    obtain ⟨⟨hfew, hss⟩, hck⟩ := hc1
    have hR := check_iff.1 hck
    obtain ⟨r1, r2, r3⟩ := right_len hR
    refine good_run 4 (obs := []) (by kernel_rfl) trivial ?_
    refine good_call (c := True) (by kernel_rfl) (fun _ => SVles.refl _) (fun _ => s28 (l) (by (first | omega | assumption | exact ⟨rfl, trivial⟩ | simp only [AllP, inK_iff, roomOK_iff, decide_eq_true_eq, Bool.and_eq_true, Bool.or_eq_true, Bool.not_eq_true', decide_eq_false_iff_not, and_true, true_and]; (first | omega | (and_intros <;> intros <;> (try and_intros) <;> first | omega | assumption | exact trivial)))) (by (first | omega | assumption | exact ⟨rfl, trivial⟩ | simp only [AllP, inK_iff, roomOK_iff, decide_eq_true_eq, Bool.and_eq_true, Bool.or_eq_true, Bool.not_eq_true', decide_eq_false_iff_not, and_true, true_and]; (first | omega | (and_intros <;> intros <;> (try and_intros) <;> first | omega | assumption | exact trivial))))) (by kernel_rfl) ?_
    refine good_run 12 (obs := []) (by kernel_rfl) trivial ?_
    refine good_loopJ (fun q : Nat × List Box => ⟨[(31, .sv (.int .i64 (q.1))), (0, .sv (boxes q.2)), (30, LV.sv (SV.int IntKind.i64 (↑(List.length ss) : Int))), (29, LV.sv (SV.lst (4 : Nat) (List.length ss) fun i => Step.cells (List.getD ss i default))), (5, LV.sv (SV.lst (1 : Nat) (List.length (isort (units l))) fun i => [SV.int IntKind.i64 (List.getD (isort (units l)) i (0 : Int))]))], []⟩) (fun q => q.1 ≤ ss.length ∧ Right q.2 ∧ (units q.2).Perm (units l)) (fun q => ss.length - q.1) ((0, l)) [(0 : Int) = (0 : Int), List.length l = List.length ((0 : Nat), l).snd ∧ ∀ (i : Nat), i < List.length l → (fun i => Box.cells (List.getD l i default)) i = (fun i => Box.cells (List.getD ((0 : Nat), l).snd i default)) i, (↑(List.length ss) : Int) = (↑(List.length ss) : Int), List.length ss = List.length ss ∧ ∀ (i : Nat), i < List.length ss → (fun i => Step.cells (List.getD ss i default)) i = (fun i => Step.cells (List.getD ss i default)) i, List.length (isort (units l)) = List.length (isort (units l)) ∧ ∀ (i : Nat), i < List.length (isort (units l)) → (fun i => [SV.int IntKind.i64 (List.getD (isort (units l)) i (0 : Int))]) i = (fun i => [SV.int IntKind.i64 (List.getD (isort (units l)) i (0 : Int))]) i] (by kernel_rfl) (by kernel_rfl) ⟨rfl, ⟨rfl, fun _ _ => rfl⟩, rfl, ⟨rfl, fun _ _ => rfl⟩, ⟨rfl, fun _ _ => rfl⟩, trivial⟩ ?_ ?_
    · exact ⟨by omega, hR, .refl _⟩
    rintro ⟨k, m⟩ ⟨hk, hRm, hpm⟩
    simp only at hk hRm hpm
    obtain ⟨m1, m2, m3⟩ := right_len hRm
    have hckm := check_iff.2 hRm
    refine good_run 6 (obs := []) (by kernel_rfl) trivial ?_
    refine good_cond (decide ((↑k : Int) < (↑(List.length ss) : Int))) (by kernel_rfl) (fun hc1 => ?_) (fun hc1 => ?_)
    · have hlt : k < ss.length := by simp only [decide_eq_true_eq] at hc1; omega
      refine good_run 14 (obs := [(4 : Nat) = (4 : Nat) ∧ (0 : Int) ≤ (↑k : Int) ∧ (↑k : Int) < (↑(List.length ss) : Int), (0 : Nat) + (4 : Nat) ≤ (4 : Nat), (4 : Nat) = (4 : Nat) ∧ (0 : Nat) + (4 : Nat) ≤ (4 : Nat)]) (by kernel_rfl) (by (first | omega | assumption | exact ⟨rfl, trivial⟩ | simp only [AllP, inK_iff, roomOK_iff, decide_eq_true_eq, Bool.and_eq_true, Bool.or_eq_true, Bool.not_eq_true', decide_eq_false_iff_not, and_true, true_and]; (first | omega | (and_intros <;> intros <;> (try and_intros) <;> first | omega | assumption | exact trivial)))) ?_
      refine good_own (c := True) (by kernel_rfl) (by kernel_rfl) (SVles.refl _) (s13 ((k, m).snd) (by (first | omega | assumption | exact ⟨rfl, trivial⟩ | simp only [AllP, inK_iff, roomOK_iff, decide_eq_true_eq, Bool.and_eq_true, Bool.or_eq_true, Bool.not_eq_true', decide_eq_false_iff_not, and_true, true_and]; (first | omega | (and_intros <;> intros <;> (try and_intros) <;> first | omega | assumption | exact trivial)))) (by (first | omega | assumption | exact ⟨rfl, trivial⟩ | simp only [AllP, inK_iff, roomOK_iff, decide_eq_true_eq, Bool.and_eq_true, Bool.or_eq_true, Bool.not_eq_true', decide_eq_false_iff_not, and_true, true_and]; (first | omega | (and_intros <;> intros <;> (try and_intros) <;> first | omega | assumption | exact trivial))))) ?_
      refine good_run 18 (obs := [(0 : Int) ≤ (0 : Int) ∧ (0 : Int) < (4 : Int)]) (by kernel_rfl) (by (first | omega | assumption | exact ⟨rfl, trivial⟩ | simp only [AllP, inK_iff, roomOK_iff, decide_eq_true_eq, Bool.and_eq_true, Bool.or_eq_true, Bool.not_eq_true', decide_eq_false_iff_not, and_true, true_and]; (first | omega | (and_intros <;> intros <;> (try and_intros) <;> first | omega | assumption | exact trivial)))) ?_
      refine good_cond (decide ((List.getD ss k default).a = (0 : Int))) (by kernel_rfl) (fun hc2 => ?_) (fun hc2 => ?_)
      · refine good_run 8 (obs := [(0 : Int) ≤ (1 : Int) ∧ (1 : Int) < (4 : Int), (0 : Int) ≤ (2 : Int) ∧ (2 : Int) < (4 : Int), (0 : Int) ≤ (3 : Int) ∧ (3 : Int) < (4 : Int)]) (by kernel_rfl) (by (first | omega | assumption | exact ⟨rfl, trivial⟩ | simp only [AllP, inK_iff, roomOK_iff, decide_eq_true_eq, Bool.and_eq_true, Bool.or_eq_true, Bool.not_eq_true', decide_eq_false_iff_not, and_true, true_and]; (first | omega | (and_intros <;> intros <;> (try and_intros) <;> first | omega | assumption | exact trivial)))) ?_
        refine good_call (c := True) (by kernel_rfl) (fun _ => SVles.refl _) (fun _ => s19 ((k, m).snd) ((List.getD ss k default).b) ((List.getD ss k default).c) ((List.getD ss k default).d) (by (first | omega | assumption | exact ⟨rfl, trivial⟩ | simp only [AllP, inK_iff, roomOK_iff, decide_eq_true_eq, Bool.and_eq_true, Bool.or_eq_true, Bool.not_eq_true', decide_eq_false_iff_not, and_true, true_and]; (first | omega | (and_intros <;> intros <;> (try and_intros) <;> first | omega | assumption | exact trivial))))) (by kernel_rfl) ?_
        refine good_run 15 (obs := []) (by kernel_rfl) trivial ?_
        refine good_cond (!decide ((splitB (k, m).snd (List.getD ss k default).b (List.getD ss k default).c (List.getD ss k default).d).snd = (0 : Int))) (by kernel_rfl) (fun hc3 => ?_) (fun hc3 => ?_)
        · simp only [Bool.not_eq_true', decide_eq_false_iff_not] at hc3
          refine good_run 8 (obs := [InK IntKind.i64 ((↑k : Int) + (1 : Int))]) (by kernel_rfl) (by (first | omega | assumption | exact ⟨rfl, trivial⟩ | simp only [AllP, inK_iff, roomOK_iff, decide_eq_true_eq, Bool.and_eq_true, Bool.or_eq_true, Bool.not_eq_true', decide_eq_false_iff_not, and_true, true_and]; (first | omega | (and_intros <;> intros <;> (try and_intros) <;> first | omega | assumption | exact trivial)))) ?_
          refine good_backJ ((k + 1, m)) [(↑k : Int) + (1 : Int) = (↑(k + (1 : Nat)) : Int), List.length (k, m).snd = List.length (k + (1 : Nat), m).snd ∧ ∀ (i : Nat), i < List.length (k, m).snd → (fun i => Box.cells (List.getD (k, m).snd i default)) i = (fun i => Box.cells (List.getD (k + (1 : Nat), m).snd i default)) i, (↑(List.length ss) : Int) = (↑(List.length ss) : Int), List.length ss = List.length ss ∧ ∀ (i : Nat), i < List.length ss → (fun i => Step.cells (List.getD ss i default)) i = (fun i => Step.cells (List.getD ss i default)) i, List.length (isort (units l)) = List.length (isort (units l)) ∧ ∀ (i : Nat), i < List.length (isort (units l)) → (fun i => [SV.int IntKind.i64 (List.getD (isort (units l)) i (0 : Int))]) i = (fun i => [SV.int IntKind.i64 (List.getD (isort (units l)) i (0 : Int))]) i] (by kernel_rfl) (by kernel_rfl) ⟨(by omega), ⟨rfl, fun _ _ => rfl⟩, rfl, ⟨rfl, fun _ _ => rfl⟩, ⟨rfl, fun _ _ => rfl⟩, trivial⟩ ?_ (by show _ < _; omega)
          exact ⟨hlt, hRm, hpm⟩
        · simp only [Bool.not_eq_false', decide_eq_true_eq] at hc3
          have hR' : Right ((splitB m (ss.getD k default).b (ss.getD k default).c (ss.getD k default).d).1) := (split_right hc3).1
          have hp' : (units ((splitB m (ss.getD k default).b (ss.getD k default).c (ss.getD k default).d).1)).Perm (units l) := (split_right hc3).2.1.trans hpm
          obtain ⟨n1, n2, n3⟩ := right_len hR'
          have hck' := check_iff.2 hR'
          have heq' := isort_eq hp'
          refine good_run 10 (obs := []) (by kernel_rfl) trivial ?_
          refine good_own (c := True) (by kernel_rfl) (by kernel_rfl) (SVles.refl _) (s13 ((splitB (k, m).snd (List.getD ss k default).b (List.getD ss k default).c (List.getD ss k default).d).fst) (by (first | omega | assumption | exact ⟨rfl, trivial⟩ | simp only [AllP, inK_iff, roomOK_iff, decide_eq_true_eq, Bool.and_eq_true, Bool.or_eq_true, Bool.not_eq_true', decide_eq_false_iff_not, and_true, true_and]; (first | omega | (and_intros <;> intros <;> (try and_intros) <;> first | omega | assumption | exact trivial)))) (by (first | omega | assumption | exact ⟨rfl, trivial⟩ | simp only [AllP, inK_iff, roomOK_iff, decide_eq_true_eq, Bool.and_eq_true, Bool.or_eq_true, Bool.not_eq_true', decide_eq_false_iff_not, and_true, true_and]; (first | omega | (and_intros <;> intros <;> (try and_intros) <;> first | omega | assumption | exact trivial))))) ?_
          refine good_call (c := True) (by kernel_rfl) (fun _ => SVles.refl _) (fun _ => s17 ((splitB (k, m).snd (List.getD ss k default).b (List.getD ss k default).c (List.getD ss k default).d).fst)) (by kernel_rfl) ?_
          refine good_run 4 (obs := []) (by kernel_rfl) trivial ?_
          refine good_call (c := (!decide (check (splitB (k, m).snd (List.getD ss k default).b (List.getD ss k default).c (List.getD ss k default).d).fst = (0 : Int))) = false ∧ True) (by kernel_rfl) (fun _ => SVles.refl _) (fun _ => s28 ((splitB (k, m).snd (List.getD ss k default).b (List.getD ss k default).c (List.getD ss k default).d).fst) (by (first | omega | assumption | exact ⟨rfl, trivial⟩ | simp only [AllP, inK_iff, roomOK_iff, decide_eq_true_eq, Bool.and_eq_true, Bool.or_eq_true, Bool.not_eq_true', decide_eq_false_iff_not, and_true, true_and]; (first | omega | (and_intros <;> intros <;> (try and_intros) <;> first | omega | assumption | exact trivial)))) (by (first | omega | assumption | exact ⟨rfl, trivial⟩ | simp only [AllP, inK_iff, roomOK_iff, decide_eq_true_eq, Bool.and_eq_true, Bool.or_eq_true, Bool.not_eq_true', decide_eq_false_iff_not, and_true, true_and]; (first | omega | (and_intros <;> intros <;> (try and_intros) <;> first | omega | assumption | exact trivial))))) (by kernel_rfl) ?_
          refine good_run 3 (obs := []) (by kernel_rfl) trivial ?_
          refine good_call (c := (!decide (check (splitB (k, m).snd (List.getD ss k default).b (List.getD ss k default).c (List.getD ss k default).d).fst = (0 : Int))) = false ∧ True) (by kernel_rfl) (fun _ => SVles.refl _) (fun _ => s29 (isort (units (splitB (k, m).snd (List.getD ss k default).b (List.getD ss k default).c (List.getD ss k default).d).fst)) (isort (units l))) (by kernel_rfl) ?_
          refine good_run 5 (obs := []) (by kernel_rfl) trivial ?_
          refine good_cond (!decide (check (splitB (k, m).snd (List.getD ss k default).b (List.getD ss k default).c (List.getD ss k default).d).fst = (0 : Int)) || !decide (isort (units (splitB (k, m).snd (List.getD ss k default).b (List.getD ss k default).c (List.getD ss k default).d).fst) = isort (units l))) (by kernel_rfl) (fun hc4 => ?_) (fun hc4 => ?_)
          · rw [hck', heq'] at hc4; simp at hc4
          · refine good_run 7 (obs := [InK IntKind.i64 ((↑k : Int) + (1 : Int))]) (by kernel_rfl) (by (first | omega | assumption | exact ⟨rfl, trivial⟩ | simp only [AllP, inK_iff, roomOK_iff, decide_eq_true_eq, Bool.and_eq_true, Bool.or_eq_true, Bool.not_eq_true', decide_eq_false_iff_not, and_true, true_and]; (first | omega | (and_intros <;> intros <;> (try and_intros) <;> first | omega | assumption | exact trivial)))) ?_
            refine good_backJ ((k + 1, (splitB m (ss.getD k default).b (ss.getD k default).c (ss.getD k default).d).1)) [(↑k : Int) + (1 : Int) = (↑(k + (1 : Nat)) : Int), List.length (splitB (k, m).snd (List.getD ss k default).b (List.getD ss k default).c (List.getD ss k default).d).fst = List.length (k + (1 : Nat), (splitB m (List.getD ss k default).b (List.getD ss k default).c (List.getD ss k default).d).fst).snd ∧ ∀ (i : Nat), i < List.length (splitB (k, m).snd (List.getD ss k default).b (List.getD ss k default).c (List.getD ss k default).d).fst → (fun i => Box.cells (List.getD (splitB (k, m).snd (List.getD ss k default).b (List.getD ss k default).c (List.getD ss k default).d).fst i default)) i = (fun i => Box.cells (List.getD (k + (1 : Nat), (splitB m (List.getD ss k default).b (List.getD ss k default).c (List.getD ss k default).d).fst).snd i default)) i, (↑(List.length ss) : Int) = (↑(List.length ss) : Int), List.length ss = List.length ss ∧ ∀ (i : Nat), i < List.length ss → (fun i => Step.cells (List.getD ss i default)) i = (fun i => Step.cells (List.getD ss i default)) i, List.length (isort (units l)) = List.length (isort (units l)) ∧ ∀ (i : Nat), i < List.length (isort (units l)) → (fun i => [SV.int IntKind.i64 (List.getD (isort (units l)) i (0 : Int))]) i = (fun i => [SV.int IntKind.i64 (List.getD (isort (units l)) i (0 : Int))]) i] (by kernel_rfl) (by kernel_rfl) ⟨(by omega), ⟨rfl, fun _ _ => rfl⟩, rfl, ⟨rfl, fun _ _ => rfl⟩, ⟨rfl, fun _ _ => rfl⟩, trivial⟩ ?_ (by show _ < _; omega)
            exact ⟨hlt, hR', hp'⟩
      · refine good_run 6 (obs := []) (by kernel_rfl) trivial ?_
        refine good_cond (decide ((List.getD ss k default).a = (1 : Int))) (by kernel_rfl) (fun hc3 => ?_) (fun hc3 => ?_)
        · refine good_run 6 (obs := [(0 : Int) ≤ (1 : Int) ∧ (1 : Int) < (4 : Int), (0 : Int) ≤ (2 : Int) ∧ (2 : Int) < (4 : Int)]) (by kernel_rfl) (by (first | omega | assumption | exact ⟨rfl, trivial⟩ | simp only [AllP, inK_iff, roomOK_iff, decide_eq_true_eq, Bool.and_eq_true, Bool.or_eq_true, Bool.not_eq_true', decide_eq_false_iff_not, and_true, true_and]; (first | omega | (and_intros <;> intros <;> (try and_intros) <;> first | omega | assumption | exact trivial)))) ?_
          refine good_call (c := True) (by kernel_rfl) (fun _ => SVles.refl _) (fun _ => s26 ((k, m).snd) ((List.getD ss k default).b) ((List.getD ss k default).c) (by (first | omega | assumption | exact ⟨rfl, trivial⟩ | simp only [AllP, inK_iff, roomOK_iff, decide_eq_true_eq, Bool.and_eq_true, Bool.or_eq_true, Bool.not_eq_true', decide_eq_false_iff_not, and_true, true_and]; (first | omega | (and_intros <;> intros <;> (try and_intros) <;> first | omega | assumption | exact trivial))))) (by kernel_rfl) ?_
          refine good_run 15 (obs := []) (by kernel_rfl) trivial ?_
          refine good_cond (!decide ((joinB (k, m).snd (List.getD ss k default).b (List.getD ss k default).c).snd = (0 : Int))) (by kernel_rfl) (fun hc4 => ?_) (fun hc4 => ?_)
          · simp only [Bool.not_eq_true', decide_eq_false_iff_not] at hc4
            refine good_run 8 (obs := [InK IntKind.i64 ((↑k : Int) + (1 : Int))]) (by kernel_rfl) (by (first | omega | assumption | exact ⟨rfl, trivial⟩ | simp only [AllP, inK_iff, roomOK_iff, decide_eq_true_eq, Bool.and_eq_true, Bool.or_eq_true, Bool.not_eq_true', decide_eq_false_iff_not, and_true, true_and]; (first | omega | (and_intros <;> intros <;> (try and_intros) <;> first | omega | assumption | exact trivial)))) ?_
            refine good_backJ ((k + 1, m)) [(↑k : Int) + (1 : Int) = (↑(k + (1 : Nat)) : Int), List.length (k, m).snd = List.length (k + (1 : Nat), m).snd ∧ ∀ (i : Nat), i < List.length (k, m).snd → (fun i => Box.cells (List.getD (k, m).snd i default)) i = (fun i => Box.cells (List.getD (k + (1 : Nat), m).snd i default)) i, (↑(List.length ss) : Int) = (↑(List.length ss) : Int), List.length ss = List.length ss ∧ ∀ (i : Nat), i < List.length ss → (fun i => Step.cells (List.getD ss i default)) i = (fun i => Step.cells (List.getD ss i default)) i, List.length (isort (units l)) = List.length (isort (units l)) ∧ ∀ (i : Nat), i < List.length (isort (units l)) → (fun i => [SV.int IntKind.i64 (List.getD (isort (units l)) i (0 : Int))]) i = (fun i => [SV.int IntKind.i64 (List.getD (isort (units l)) i (0 : Int))]) i] (by kernel_rfl) (by kernel_rfl) ⟨(by omega), ⟨rfl, fun _ _ => rfl⟩, rfl, ⟨rfl, fun _ _ => rfl⟩, ⟨rfl, fun _ _ => rfl⟩, trivial⟩ ?_ (by show _ < _; omega)
            exact ⟨hlt, hRm, hpm⟩
          · simp only [Bool.not_eq_false', decide_eq_true_eq] at hc4
            have hR' : Right ((joinB m (ss.getD k default).b (ss.getD k default).c).1) := (join_right hc4).1
            have hp' : (units ((joinB m (ss.getD k default).b (ss.getD k default).c).1)).Perm (units l) := (join_right hc4).2.1.trans hpm
            obtain ⟨n1, n2, n3⟩ := right_len hR'
            have hck' := check_iff.2 hR'
            have heq' := isort_eq hp'
            refine good_run 10 (obs := []) (by kernel_rfl) trivial ?_
            refine good_own (c := True) (by kernel_rfl) (by kernel_rfl) (SVles.refl _) (s13 ((joinB (k, m).snd (List.getD ss k default).b (List.getD ss k default).c).fst) (by (first | omega | assumption | exact ⟨rfl, trivial⟩ | simp only [AllP, inK_iff, roomOK_iff, decide_eq_true_eq, Bool.and_eq_true, Bool.or_eq_true, Bool.not_eq_true', decide_eq_false_iff_not, and_true, true_and]; (first | omega | (and_intros <;> intros <;> (try and_intros) <;> first | omega | assumption | exact trivial)))) (by (first | omega | assumption | exact ⟨rfl, trivial⟩ | simp only [AllP, inK_iff, roomOK_iff, decide_eq_true_eq, Bool.and_eq_true, Bool.or_eq_true, Bool.not_eq_true', decide_eq_false_iff_not, and_true, true_and]; (first | omega | (and_intros <;> intros <;> (try and_intros) <;> first | omega | assumption | exact trivial))))) ?_
            refine good_call (c := True) (by kernel_rfl) (fun _ => SVles.refl _) (fun _ => s17 ((joinB (k, m).snd (List.getD ss k default).b (List.getD ss k default).c).fst)) (by kernel_rfl) ?_
            refine good_run 4 (obs := []) (by kernel_rfl) trivial ?_
            refine good_call (c := (!decide (check (joinB (k, m).snd (List.getD ss k default).b (List.getD ss k default).c).fst = (0 : Int))) = false ∧ True) (by kernel_rfl) (fun _ => SVles.refl _) (fun _ => s28 ((joinB (k, m).snd (List.getD ss k default).b (List.getD ss k default).c).fst) (by (first | omega | assumption | exact ⟨rfl, trivial⟩ | simp only [AllP, inK_iff, roomOK_iff, decide_eq_true_eq, Bool.and_eq_true, Bool.or_eq_true, Bool.not_eq_true', decide_eq_false_iff_not, and_true, true_and]; (first | omega | (and_intros <;> intros <;> (try and_intros) <;> first | omega | assumption | exact trivial)))) (by (first | omega | assumption | exact ⟨rfl, trivial⟩ | simp only [AllP, inK_iff, roomOK_iff, decide_eq_true_eq, Bool.and_eq_true, Bool.or_eq_true, Bool.not_eq_true', decide_eq_false_iff_not, and_true, true_and]; (first | omega | (and_intros <;> intros <;> (try and_intros) <;> first | omega | assumption | exact trivial))))) (by kernel_rfl) ?_
            refine good_run 3 (obs := []) (by kernel_rfl) trivial ?_
            refine good_call (c := (!decide (check (joinB (k, m).snd (List.getD ss k default).b (List.getD ss k default).c).fst = (0 : Int))) = false ∧ True) (by kernel_rfl) (fun _ => SVles.refl _) (fun _ => s29 (isort (units (joinB (k, m).snd (List.getD ss k default).b (List.getD ss k default).c).fst)) (isort (units l))) (by kernel_rfl) ?_
            refine good_run 5 (obs := []) (by kernel_rfl) trivial ?_
            refine good_cond (!decide (check (joinB (k, m).snd (List.getD ss k default).b (List.getD ss k default).c).fst = (0 : Int)) || !decide (isort (units (joinB (k, m).snd (List.getD ss k default).b (List.getD ss k default).c).fst) = isort (units l))) (by kernel_rfl) (fun hc5 => ?_) (fun hc5 => ?_)
            · rw [hck', heq'] at hc5; simp at hc5
            · refine good_run 7 (obs := [InK IntKind.i64 ((↑k : Int) + (1 : Int))]) (by kernel_rfl) (by (first | omega | assumption | exact ⟨rfl, trivial⟩ | simp only [AllP, inK_iff, roomOK_iff, decide_eq_true_eq, Bool.and_eq_true, Bool.or_eq_true, Bool.not_eq_true', decide_eq_false_iff_not, and_true, true_and]; (first | omega | (and_intros <;> intros <;> (try and_intros) <;> first | omega | assumption | exact trivial)))) ?_
              refine good_backJ ((k + 1, (joinB m (ss.getD k default).b (ss.getD k default).c).1)) [(↑k : Int) + (1 : Int) = (↑(k + (1 : Nat)) : Int), List.length (joinB (k, m).snd (List.getD ss k default).b (List.getD ss k default).c).fst = List.length (k + (1 : Nat), (joinB m (List.getD ss k default).b (List.getD ss k default).c).fst).snd ∧ ∀ (i : Nat), i < List.length (joinB (k, m).snd (List.getD ss k default).b (List.getD ss k default).c).fst → (fun i => Box.cells (List.getD (joinB (k, m).snd (List.getD ss k default).b (List.getD ss k default).c).fst i default)) i = (fun i => Box.cells (List.getD (k + (1 : Nat), (joinB m (List.getD ss k default).b (List.getD ss k default).c).fst).snd i default)) i, (↑(List.length ss) : Int) = (↑(List.length ss) : Int), List.length ss = List.length ss ∧ ∀ (i : Nat), i < List.length ss → (fun i => Step.cells (List.getD ss i default)) i = (fun i => Step.cells (List.getD ss i default)) i, List.length (isort (units l)) = List.length (isort (units l)) ∧ ∀ (i : Nat), i < List.length (isort (units l)) → (fun i => [SV.int IntKind.i64 (List.getD (isort (units l)) i (0 : Int))]) i = (fun i => [SV.int IntKind.i64 (List.getD (isort (units l)) i (0 : Int))]) i] (by kernel_rfl) (by kernel_rfl) ⟨(by omega), ⟨rfl, fun _ _ => rfl⟩, rfl, ⟨rfl, fun _ _ => rfl⟩, ⟨rfl, fun _ _ => rfl⟩, trivial⟩ ?_ (by show _ < _; omega)
              exact ⟨hlt, hR', hp'⟩
        · refine good_run 10 (obs := [(0 : Int) ≤ (1 : Int) ∧ (1 : Int) < (4 : Int)]) (by kernel_rfl) (by (first | omega | assumption | exact ⟨rfl, trivial⟩ | simp only [AllP, inK_iff, roomOK_iff, decide_eq_true_eq, Bool.and_eq_true, Bool.or_eq_true, Bool.not_eq_true', decide_eq_false_iff_not, and_true, true_and]; (first | omega | (and_intros <;> intros <;> (try and_intros) <;> first | omega | assumption | exact trivial)))) ?_
          refine good_call (c := True) (by kernel_rfl) (fun _ => SVles.refl _) (fun _ => s23 ((k, m).snd) ((List.getD ss k default).b) (by (first | omega | assumption | exact ⟨rfl, trivial⟩ | simp only [AllP, inK_iff, roomOK_iff, decide_eq_true_eq, Bool.and_eq_true, Bool.or_eq_true, Bool.not_eq_true', decide_eq_false_iff_not, and_true, true_and]; (first | omega | (and_intros <;> intros <;> (try and_intros) <;> first | omega | assumption | exact trivial))))) (by kernel_rfl) ?_
          refine good_run 15 (obs := [(2 : Nat) = (2 : Nat) ∧ (0 : Nat) + (2 : Nat) ≤ (2 : Nat)]) (by kernel_rfl) (by (first | omega | assumption | exact ⟨rfl, trivial⟩ | simp only [AllP, inK_iff, roomOK_iff, decide_eq_true_eq, Bool.and_eq_true, Bool.or_eq_true, Bool.not_eq_true', decide_eq_false_iff_not, and_true, true_and]; (first | omega | (and_intros <;> intros <;> (try and_intros) <;> first | omega | assumption | exact trivial)))) ?_
          refine good_cond (decide ((takeB (k, m).snd (List.getD ss k default).b).snd.2 = (0 : Int))) (by kernel_rfl) (fun hc4 => ?_) (fun hc4 => ?_)
          · simp only [decide_eq_true_eq] at hc4
            obtain ⟨t1, t2⟩ := take_perm hc4
            obtain ⟨u1, u2, u3⟩ := right_len t1
            refine good_run 7 (obs := [(0 : Int) ≤ (2 : Int) ∧ (2 : Int) < (4 : Int), (0 : Int) ≤ (3 : Int) ∧ (3 : Int) < (4 : Int), (0 : Nat) + (2 : Nat) ≤ (2 : Nat)]) (by kernel_rfl) (by (first | omega | assumption | exact ⟨rfl, trivial⟩ | simp only [AllP, inK_iff, roomOK_iff, decide_eq_true_eq, Bool.and_eq_true, Bool.or_eq_true, Bool.not_eq_true', decide_eq_false_iff_not, and_true, true_and]; (first | omega | (and_intros <;> intros <;> (try and_intros) <;> first | omega | assumption | exact trivial)))) ?_
            refine good_call (c := True) (by kernel_rfl) (fun _ => SVles.refl _) (fun _ => s21 ((takeB (k, m).snd (List.getD ss k default).b).fst) ((List.getD ss k default).c) ((List.getD ss k default).d) ((takeB (k, m).snd (List.getD ss k default).b).snd.1) (by (first | omega | assumption | exact ⟨rfl, trivial⟩ | simp only [AllP, inK_iff, roomOK_iff, decide_eq_true_eq, Bool.and_eq_true, Bool.or_eq_true, Bool.not_eq_true', decide_eq_false_iff_not, and_true, true_and]; (first | omega | (and_intros <;> intros <;> (try and_intros) <;> first | omega | assumption | exact trivial))))) (by kernel_rfl) ?_
            refine good_run 15 (obs := []) (by kernel_rfl) trivial ?_
            refine good_cond (!decide ((putB (takeB (k, m).snd (List.getD ss k default).b).fst (List.getD ss k default).c (List.getD ss k default).d (takeB (k, m).snd (List.getD ss k default).b).snd.fst).snd = (0 : Int))) (by kernel_rfl) (fun hc5 => ?_) (fun hc5 => ?_)
            · simp only [Bool.not_eq_true', decide_eq_false_iff_not] at hc5
              refine good_run 8 (obs := [InK IntKind.i64 ((↑k : Int) + (1 : Int))]) (by kernel_rfl) (by (first | omega | assumption | exact ⟨rfl, trivial⟩ | simp only [AllP, inK_iff, roomOK_iff, decide_eq_true_eq, Bool.and_eq_true, Bool.or_eq_true, Bool.not_eq_true', decide_eq_false_iff_not, and_true, true_and]; (first | omega | (and_intros <;> intros <;> (try and_intros) <;> first | omega | assumption | exact trivial)))) ?_
              refine good_backJ ((k + 1, m)) [(↑k : Int) + (1 : Int) = (↑(k + (1 : Nat)) : Int), List.length (k, m).snd = List.length (k + (1 : Nat), m).snd ∧ ∀ (i : Nat), i < List.length (k, m).snd → (fun i => Box.cells (List.getD (k, m).snd i default)) i = (fun i => Box.cells (List.getD (k + (1 : Nat), m).snd i default)) i, (↑(List.length ss) : Int) = (↑(List.length ss) : Int), List.length ss = List.length ss ∧ ∀ (i : Nat), i < List.length ss → (fun i => Step.cells (List.getD ss i default)) i = (fun i => Step.cells (List.getD ss i default)) i, List.length (isort (units l)) = List.length (isort (units l)) ∧ ∀ (i : Nat), i < List.length (isort (units l)) → (fun i => [SV.int IntKind.i64 (List.getD (isort (units l)) i (0 : Int))]) i = (fun i => [SV.int IntKind.i64 (List.getD (isort (units l)) i (0 : Int))]) i] (by kernel_rfl) (by kernel_rfl) ⟨(by omega), ⟨rfl, fun _ _ => rfl⟩, rfl, ⟨rfl, fun _ _ => rfl⟩, ⟨rfl, fun _ _ => rfl⟩, trivial⟩ ?_ (by show _ < _; omega)
              exact ⟨hlt, hRm, hpm⟩
            · simp only [Bool.not_eq_false', decide_eq_true_eq] at hc5
              have hR' : Right ((putB (takeB m (ss.getD k default).b).1 (ss.getD k default).c (ss.getD k default).d (takeB m (ss.getD k default).b).2.1).1) := (put_perm hc5).1
              have hp' : (units ((putB (takeB m (ss.getD k default).b).1 (ss.getD k default).c (ss.getD k default).d (takeB m (ss.getD k default).b).2.1).1)).Perm (units l) := ((put_perm hc5).2.trans t2.symm).trans hpm
              obtain ⟨n1, n2, n3⟩ := right_len hR'
              have hck' := check_iff.2 hR'
              have heq' := isort_eq hp'
              refine good_run 10 (obs := []) (by kernel_rfl) trivial ?_
              refine good_own (c := True) (by kernel_rfl) (by kernel_rfl) (SVles.refl _) (s13 ((putB (takeB (k, m).snd (List.getD ss k default).b).fst (List.getD ss k default).c (List.getD ss k default).d (takeB (k, m).snd (List.getD ss k default).b).snd.fst).fst) (by (first | omega | assumption | exact ⟨rfl, trivial⟩ | simp only [AllP, inK_iff, roomOK_iff, decide_eq_true_eq, Bool.and_eq_true, Bool.or_eq_true, Bool.not_eq_true', decide_eq_false_iff_not, and_true, true_and]; (first | omega | (and_intros <;> intros <;> (try and_intros) <;> first | omega | assumption | exact trivial)))) (by (first | omega | assumption | exact ⟨rfl, trivial⟩ | simp only [AllP, inK_iff, roomOK_iff, decide_eq_true_eq, Bool.and_eq_true, Bool.or_eq_true, Bool.not_eq_true', decide_eq_false_iff_not, and_true, true_and]; (first | omega | (and_intros <;> intros <;> (try and_intros) <;> first | omega | assumption | exact trivial))))) ?_
              refine good_call (c := True) (by kernel_rfl) (fun _ => SVles.refl _) (fun _ => s17 ((putB (takeB (k, m).snd (List.getD ss k default).b).fst (List.getD ss k default).c (List.getD ss k default).d (takeB (k, m).snd (List.getD ss k default).b).snd.fst).fst)) (by kernel_rfl) ?_
              refine good_run 4 (obs := []) (by kernel_rfl) trivial ?_
              refine good_call (c := (!decide (check (putB (takeB (k, m).snd (List.getD ss k default).b).fst (List.getD ss k default).c (List.getD ss k default).d (takeB (k, m).snd (List.getD ss k default).b).snd.fst).fst = (0 : Int))) = false ∧ True) (by kernel_rfl) (fun _ => SVles.refl _) (fun _ => s28 ((putB (takeB (k, m).snd (List.getD ss k default).b).fst (List.getD ss k default).c (List.getD ss k default).d (takeB (k, m).snd (List.getD ss k default).b).snd.fst).fst) (by (first | omega | assumption | exact ⟨rfl, trivial⟩ | simp only [AllP, inK_iff, roomOK_iff, decide_eq_true_eq, Bool.and_eq_true, Bool.or_eq_true, Bool.not_eq_true', decide_eq_false_iff_not, and_true, true_and]; (first | omega | (and_intros <;> intros <;> (try and_intros) <;> first | omega | assumption | exact trivial)))) (by (first | omega | assumption | exact ⟨rfl, trivial⟩ | simp only [AllP, inK_iff, roomOK_iff, decide_eq_true_eq, Bool.and_eq_true, Bool.or_eq_true, Bool.not_eq_true', decide_eq_false_iff_not, and_true, true_and]; (first | omega | (and_intros <;> intros <;> (try and_intros) <;> first | omega | assumption | exact trivial))))) (by kernel_rfl) ?_
              refine good_run 3 (obs := []) (by kernel_rfl) trivial ?_
              refine good_call (c := (!decide (check (putB (takeB (k, m).snd (List.getD ss k default).b).fst (List.getD ss k default).c (List.getD ss k default).d (takeB (k, m).snd (List.getD ss k default).b).snd.fst).fst = (0 : Int))) = false ∧ True) (by kernel_rfl) (fun _ => SVles.refl _) (fun _ => s29 (isort (units (putB (takeB (k, m).snd (List.getD ss k default).b).fst (List.getD ss k default).c (List.getD ss k default).d (takeB (k, m).snd (List.getD ss k default).b).snd.fst).fst)) (isort (units l))) (by kernel_rfl) ?_
              refine good_run 5 (obs := []) (by kernel_rfl) trivial ?_
              refine good_cond (!decide (check (putB (takeB (k, m).snd (List.getD ss k default).b).fst (List.getD ss k default).c (List.getD ss k default).d (takeB (k, m).snd (List.getD ss k default).b).snd.fst).fst = (0 : Int)) || !decide (isort (units (putB (takeB (k, m).snd (List.getD ss k default).b).fst (List.getD ss k default).c (List.getD ss k default).d (takeB (k, m).snd (List.getD ss k default).b).snd.fst).fst) = isort (units l))) (by kernel_rfl) (fun hc6 => ?_) (fun hc6 => ?_)
              · rw [hck', heq'] at hc6; simp at hc6
              · refine good_run 7 (obs := [InK IntKind.i64 ((↑k : Int) + (1 : Int))]) (by kernel_rfl) (by (first | omega | assumption | exact ⟨rfl, trivial⟩ | simp only [AllP, inK_iff, roomOK_iff, decide_eq_true_eq, Bool.and_eq_true, Bool.or_eq_true, Bool.not_eq_true', decide_eq_false_iff_not, and_true, true_and]; (first | omega | (and_intros <;> intros <;> (try and_intros) <;> first | omega | assumption | exact trivial)))) ?_
                refine good_backJ ((k + 1, (putB (takeB m (ss.getD k default).b).1 (ss.getD k default).c (ss.getD k default).d (takeB m (ss.getD k default).b).2.1).1)) [(↑k : Int) + (1 : Int) = (↑(k + (1 : Nat)) : Int), List.length (putB (takeB (k, m).snd (List.getD ss k default).b).fst (List.getD ss k default).c (List.getD ss k default).d (takeB (k, m).snd (List.getD ss k default).b).snd.fst).fst = List.length (k + (1 : Nat), (putB (takeB m (List.getD ss k default).b).fst (List.getD ss k default).c (List.getD ss k default).d (takeB m (List.getD ss k default).b).snd.fst).fst).snd ∧ ∀ (i : Nat), i < List.length (putB (takeB (k, m).snd (List.getD ss k default).b).fst (List.getD ss k default).c (List.getD ss k default).d (takeB (k, m).snd (List.getD ss k default).b).snd.fst).fst → (fun i => Box.cells (List.getD (putB (takeB (k, m).snd (List.getD ss k default).b).fst (List.getD ss k default).c (List.getD ss k default).d (takeB (k, m).snd (List.getD ss k default).b).snd.fst).fst i default)) i = (fun i => Box.cells (List.getD (k + (1 : Nat), (putB (takeB m (List.getD ss k default).b).fst (List.getD ss k default).c (List.getD ss k default).d (takeB m (List.getD ss k default).b).snd.fst).fst).snd i default)) i, (↑(List.length ss) : Int) = (↑(List.length ss) : Int), List.length ss = List.length ss ∧ ∀ (i : Nat), i < List.length ss → (fun i => Step.cells (List.getD ss i default)) i = (fun i => Step.cells (List.getD ss i default)) i, List.length (isort (units l)) = List.length (isort (units l)) ∧ ∀ (i : Nat), i < List.length (isort (units l)) → (fun i => [SV.int IntKind.i64 (List.getD (isort (units l)) i (0 : Int))]) i = (fun i => [SV.int IntKind.i64 (List.getD (isort (units l)) i (0 : Int))]) i] (by kernel_rfl) (by kernel_rfl) ⟨(by omega), ⟨rfl, fun _ _ => rfl⟩, rfl, ⟨rfl, fun _ _ => rfl⟩, ⟨rfl, fun _ _ => rfl⟩, trivial⟩ ?_ (by show _ < _; omega)
                exact ⟨hlt, hR', hp'⟩
          · simp only [decide_eq_false_iff_not] at hc4
            refine good_run 9 (obs := []) (by kernel_rfl) trivial ?_
            refine good_cond (!decide ((takeB (k, m).snd (List.getD ss k default).b).snd.2 = (0 : Int))) (by kernel_rfl) (fun hc5 => ?_) (fun hc5 => ?_)
            · refine good_run 8 (obs := [InK IntKind.i64 ((↑k : Int) + (1 : Int))]) (by kernel_rfl) (by (first | omega | assumption | exact ⟨rfl, trivial⟩ | simp only [AllP, inK_iff, roomOK_iff, decide_eq_true_eq, Bool.and_eq_true, Bool.or_eq_true, Bool.not_eq_true', decide_eq_false_iff_not, and_true, true_and]; (first | omega | (and_intros <;> intros <;> (try and_intros) <;> first | omega | assumption | exact trivial)))) ?_
              refine good_backJ ((k + 1, m)) [(↑k : Int) + (1 : Int) = (↑(k + (1 : Nat)) : Int), List.length (k, m).snd = List.length (k + (1 : Nat), m).snd ∧ ∀ (i : Nat), i < List.length (k, m).snd → (fun i => Box.cells (List.getD (k, m).snd i default)) i = (fun i => Box.cells (List.getD (k + (1 : Nat), m).snd i default)) i, (↑(List.length ss) : Int) = (↑(List.length ss) : Int), List.length ss = List.length ss ∧ ∀ (i : Nat), i < List.length ss → (fun i => Step.cells (List.getD ss i default)) i = (fun i => Step.cells (List.getD ss i default)) i, List.length (isort (units l)) = List.length (isort (units l)) ∧ ∀ (i : Nat), i < List.length (isort (units l)) → (fun i => [SV.int IntKind.i64 (List.getD (isort (units l)) i (0 : Int))]) i = (fun i => [SV.int IntKind.i64 (List.getD (isort (units l)) i (0 : Int))]) i] (by kernel_rfl) (by kernel_rfl) ⟨(by omega), ⟨rfl, fun _ _ => rfl⟩, rfl, ⟨rfl, fun _ _ => rfl⟩, ⟨rfl, fun _ _ => rfl⟩, trivial⟩ ?_ (by show _ < _; omega)
              exact ⟨hlt, hRm, hpm⟩
            · exfalso
              simp only [Bool.not_eq_false', decide_eq_true_eq] at hc5
              exact hc4 hc5
    · refine good_run 2 (obs := []) (by kernel_rfl) trivial ?_
      refine good_leaveJ (by kernel_rfl) ?_
      refine good_run 7 (obs := []) (by kernel_rfl) trivial ?_
      refine good_fin [true = true] (by kernel_rfl) ⟨rfl, trivial⟩
end Go.Sx.T
