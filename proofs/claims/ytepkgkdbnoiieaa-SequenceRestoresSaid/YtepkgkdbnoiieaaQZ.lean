/- Contracts of functions of the program, each proved by running its code symbolically (QZ). -/
import Derived.Test.YtepkgkdbnoiieaaQV
namespace Go.Sx.T
open Go Go.Proofs Go.Sx
set_option maxRecDepth 100000
set_option maxHeartbeats 8000000
set_option linter.unusedVariables false
set_option linter.unusedSimpArgs false
theorem lexlt_nil (b : List Int) : lexlt [] b = false := by cases b <;> rfl
theorem s58 (a b : List Int) (h : a.length = b.length) : Spec Try.prog 58 [ints a, ints b] (.bool (lexlt a b)) := by
  refine spec_len 0 rfl (hasBody_of_slim Try.func58 F58_ok) fun hlen => ?_
  refine spec_of_good mixed Try.func58 F58_ok (by kernel_rfl) ?_
  refine good_run 12 (obs := []) (by kernel_rfl) trivial ?_
  refine good_loopJ (fun k : Nat => ⟨[(5, .sv (.int .i64 (k))), (0, LV.sv (SV.lst (1 : Nat) (List.length a) fun i => [SV.int IntKind.i64 (List.getD a i (0 : Int))])), (1, LV.sv (SV.lst (1 : Nat) (List.length b) fun i => [SV.int IntKind.i64 (List.getD b i (0 : Int))]))], []⟩) (fun k => k ≤ a.length ∧ lexlt (a.drop k) (b.drop k) = lexlt a b) (fun k => a.length - k) (0) [(0 : Int) = (0 : Int), List.length a = List.length a ∧ ∀ (i : Nat), i < List.length a → (fun i => [SV.int IntKind.i64 (List.getD a i (0 : Int))]) i = (fun i => [SV.int IntKind.i64 (List.getD a i (0 : Int))]) i, List.length b = List.length b ∧ ∀ (i : Nat), i < List.length b → (fun i => [SV.int IntKind.i64 (List.getD b i (0 : Int))]) i = (fun i => [SV.int IntKind.i64 (List.getD b i (0 : Int))]) i] (by kernel_rfl) (by kernel_rfl) ⟨rfl, ⟨rfl, fun _ _ => rfl⟩, ⟨rfl, fun _ _ => rfl⟩, trivial⟩ ⟨by omega, rfl⟩ ?_
  intro k hk
  obtain ⟨hk, hx⟩ := hk
  refine good_run 9 (obs := []) (by kernel_rfl) trivial ?_
  refine good_cond (decide ((↑k : Int) < (↑(List.length a) : Int))) (by kernel_rfl) (fun hc1 => ?_) (fun hc1 => ?_)
  · have hlt : k < a.length := by simp only [decide_eq_true_eq] at hc1; omega
    rw [drop_getD (d := (0 : Int)) a k hlt, drop_getD (d := (0 : Int)) b k (by omega), lexlt] at hx
    refine good_run 16 (obs := [True → (1 : Nat) = (1 : Nat) ∧ (0 : Int) ≤ (↑k : Int) ∧ (↑k : Int) < (↑(List.length a) : Int), True → (1 : Nat) = (1 : Nat) ∧ (0 : Int) ≤ (↑k : Int) ∧ (↑k : Int) < (↑(List.length b) : Int)]) (by kernel_rfl) (by (first | omega | assumption | exact ⟨rfl, trivial⟩ | simp only [AllP, inK_iff, roomOK_iff, decide_eq_true_eq, Bool.and_eq_true, Bool.or_eq_true, Bool.not_eq_true', decide_eq_false_iff_not, and_true, true_and]; (first | omega | (and_intros <;> intros <;> (try and_intros) <;> first | omega | assumption | exact trivial)))) ?_
    refine good_cond (!decide (List.getD a k (0 : Int) = List.getD b k (0 : Int))) (by kernel_rfl) (fun hc2 => ?_) (fun hc2 => ?_)
    · rw [if_neg (by simpa using hc2)] at hx
      rw [← hx]
      refine good_run 17 (obs := [True → (1 : Nat) = (1 : Nat) ∧ (0 : Int) ≤ (↑k : Int) ∧ (↑k : Int) < (↑(List.length a) : Int), True → (1 : Nat) = (1 : Nat) ∧ (0 : Int) ≤ (↑k : Int) ∧ (↑k : Int) < (↑(List.length b) : Int)]) (by kernel_rfl) (by (first | omega | assumption | exact ⟨rfl, trivial⟩ | simp only [AllP, inK_iff, roomOK_iff, decide_eq_true_eq, Bool.and_eq_true, Bool.or_eq_true, Bool.not_eq_true', decide_eq_false_iff_not, and_true, true_and]; (first | omega | (and_intros <;> intros <;> (try and_intros) <;> first | omega | assumption | exact trivial)))) ?_
      refine good_leaveJ (by kernel_rfl) ?_
      refine good_run 2 (obs := []) (by kernel_rfl) trivial ?_
      refine good_fin [decide (List.getD a k (0 : Int) < List.getD b k (0 : Int)) = decide (List.getD a k (0 : Int) < List.getD b k (0 : Int))] (by kernel_rfl) ⟨rfl, trivial⟩
    · rw [if_pos (by simpa using hc2)] at hx
      refine good_run 8 (obs := [InK IntKind.i64 ((↑k : Int) + (1 : Int))]) (by kernel_rfl) (by (first | omega | assumption | exact ⟨rfl, trivial⟩ | simp only [AllP, inK_iff, roomOK_iff, decide_eq_true_eq, Bool.and_eq_true, Bool.or_eq_true, Bool.not_eq_true', decide_eq_false_iff_not, and_true, true_and]; (first | omega | (and_intros <;> intros <;> (try and_intros) <;> first | omega | assumption | exact trivial)))) ?_
      refine good_backJ (k + 1) [(↑k : Int) + (1 : Int) = (↑(k + (1 : Nat)) : Int), List.length a = List.length a ∧ ∀ (i : Nat), i < List.length a → (fun i => [SV.int IntKind.i64 (List.getD a i (0 : Int))]) i = (fun i => [SV.int IntKind.i64 (List.getD a i (0 : Int))]) i, List.length b = List.length b ∧ ∀ (i : Nat), i < List.length b → (fun i => [SV.int IntKind.i64 (List.getD b i (0 : Int))]) i = (fun i => [SV.int IntKind.i64 (List.getD b i (0 : Int))]) i] (by kernel_rfl) (by kernel_rfl) ⟨(by omega), ⟨rfl, fun _ _ => rfl⟩, ⟨rfl, fun _ _ => rfl⟩, trivial⟩ ⟨by omega, by assumption⟩ (by show _ < _; omega)
  · have : k = a.length := by simp only [decide_eq_false_iff_not] at hc1; omega
    subst this
    rw [List.drop_length, lexlt_nil] at hx
    rw [← hx]
    refine good_run 2 (obs := []) (by kernel_rfl) trivial ?_
    refine good_leaveJ (by kernel_rfl) ?_
    refine good_run 7 (obs := []) (by kernel_rfl) trivial ?_
    refine good_fin [false = false] (by kernel_rfl) ⟨rfl, trivial⟩
/-- The best parts that are known, and the one that is being sought. -/
def bstL (l : List Int) (k : Nat) : List Int := l.getD k 0 :: lis (l.getD k 0) (l.drop (k + 1))
def bestK (l : List Int) (i k : Nat) : List Int := if i ≤ k then bstL l k else []
def bestI (l : List Int) (i : Nat) (c : List Int) (k : Nat) : List Int := if k = i then c else bestK l (i + 1) k
structure BSt where
  k : Nat
  c : List Int
def mkB (k : Nat) (c : List Int) : BSt := ⟨k, c⟩
theorem btr_int (a b : List Int) : (decide ((b.length : Int) < a.length) || decide ((a.length : Int) = b.length) && lexlt a b) = btr a b := by
  unfold btr
  rw [show decide ((b.length : Int) < a.length) = decide (b.length < a.length) from decide_eq_decide.2 (by omega), show decide ((a.length : Int) = b.length) = decide (a.length = b.length) from decide_eq_decide.2 (by omega)]
theorem cons_ints (x : Int) (c : List Int) : SVle (.lst 1 (1 + c.length) (joinGet 1 (cutRows 1 [.int .i64 x]) fun i => [.int .i64 (c.getD i 0)])) (ints (x :: c)) := by
  refine svle_lst (by rw [List.length_cons]; omega) fun i hi => ?_
  unfold joinGet
  match i with
  | 0 => exact SVles.refl _
  | i + 1 => rw [if_neg (by omega)]; exact SVles.refl _
theorem rowStep (l : List Int) (n : Nat) (c : List Int) (hb : bstL l n = l.getD n 0 :: c) (j : Nat) :
    SVles (if j = n then lay [ints (bestI l n c n)] 0 [.lst 1 (1 + (bestI l n c n).length) (joinGet 1 (cutRows 1 [.int .i64 (l.getD n 0)]) fun i => [.int .i64 ((bestI l n c n).getD i 0)])] else [ints (bestI l n c j)]) [ints (bestK l n j)] := by
  have eI : bestI l n c n = c := if_pos rfl
  rw [eI]
  by_cases h : j = n
  · subst h
    rw [if_pos rfl, show bestK l j j = bstL l j from if_pos (Nat.le_refl _), hb]
    exact ⟨cons_ints _ _, trivial⟩
  · rw [if_neg h]
    have : bestI l n c j = bestK l n j := by
      unfold bestI bestK
      rw [if_neg h]
      by_cases h2 : n ≤ j
      · rw [if_pos (by omega), if_pos h2]
      · rw [if_neg (by omega), if_neg h2]
    rw [this]
    exact SVles.refl _
theorem s41 (l : List Int) (hl : l.length ≤ 256) (hpos : ∀ x ∈ l, 0 < x) : Spec Try.prog 41 [ints l] (ints (lis 0 l)) := by
  refine spec_of_good mixed Try.func41 F41_ok (by kernel_rfl) ?_
  refine good_run 9 (obs := []) (by kernel_rfl) trivial ?_
  refine good_run 13 (obs := [(↑(List.length l) : Int) = (↑(List.length l) : Int) ∧ (0 : Int) ≤ (↑(List.length l) : Int) ∧ roomOK (List.length l) (24 : Nat)]) (by kernel_rfl) (by (first | omega | assumption | exact ⟨rfl, trivial⟩ | simp only [AllP, inK_iff, roomOK_iff, decide_eq_true_eq, Bool.and_eq_true, Bool.or_eq_true, Bool.not_eq_true', decide_eq_false_iff_not, and_true, true_and]; (first | omega | (and_intros <;> intros <;> (try and_intros) <;> first | omega | assumption | exact trivial)))) ?_
  refine good_row 0 (t := (22 : Nat)) (sz := (1 : Nat)) (n := List.length l) (mu := true) (get := fun x => List.map SV.val [Value.slice none (0 : Nat) (0 : Nat)]) (fun _ => [ints []]) (by kernel_rfl) (fun i _ => ⟨svle_nil rfl, trivial⟩) ?_
  refine good_run 6 (obs := [InK IntKind.i64 ((↑(List.length l) : Int) - (1 : Int))]) (by kernel_rfl) (by (first | omega | assumption | exact ⟨rfl, trivial⟩ | simp only [AllP, inK_iff, roomOK_iff, decide_eq_true_eq, Bool.and_eq_true, Bool.or_eq_true, Bool.not_eq_true', decide_eq_false_iff_not, and_true, true_and]; (first | omega | (and_intros <;> intros <;> (try and_intros) <;> first | omega | assumption | exact trivial)))) ?_
  refine good_loopJ (fun i : Nat => ⟨[(5, .sv (.int .i64 (((i : Int) - 1)))), (4, .sv (ints (outL (l.drop i)))), (3, LV.own (0 : Nat)), (0, LV.sv (SV.lst (1 : Nat) (List.length l) fun i => [SV.int IntKind.i64 (List.getD l i (0 : Int))]))], [.row 22 1 l.length true fun k => [ints (bestK l i k)]]⟩) (fun i => i ≤ l.length) (fun i => i) (l.length) [List.length l = List.length l ∧ ∀ (i : Nat), i < List.length l → (fun x => [ints []]) i = (fun k => [ints (bestK l (List.length l) k)]) i, (↑(List.length l) : Int) - (1 : Int) = (↑(List.length l) : Int) - (1 : Int), List.length (outL (List.drop (List.length l) l)) = (0 : Nat), List.length l = List.length l ∧ ∀ (i : Nat), i < List.length l → (fun i => [SV.int IntKind.i64 (List.getD l i (0 : Int))]) i = (fun i => [SV.int IntKind.i64 (List.getD l i (0 : Int))]) i] (by kernel_rfl) (by kernel_rfl) ⟨?_, rfl, ?_, ⟨rfl, fun _ _ => rfl⟩, trivial⟩ (by omega) ?_
  · refine ⟨rfl, fun i hi => ?_⟩
    simp only [bestK]
    rw [if_neg (by omega)]
  · rw [List.drop_length]; rfl
  intro i hi
  refine good_run 7 (obs := []) (by kernel_rfl) trivial ?_
  refine good_cond (decide ((0 : Int) ≤ (↑i : Int) - (1 : Int))) (by kernel_rfl) (fun hc1 => ?_) (fun hc1 => ?_)
  · have hi0 : 0 < i := by simp only [decide_eq_true_eq] at hc1; omega
    obtain ⟨n, rfl⟩ : ∃ n, i = n + 1 := ⟨i - 1, by omega⟩
    have e1 : ((n + 1 : Nat) : Int) - 1 = n := by omega
    have e2 : (((n + 1 : Nat) : Int) - 1).toNat = n := by omega
    have hnl : n < l.length := by omega
    rw [e1]
    refine good_run 12 (obs := [InK IntKind.i64 ((↑n : Int) + (1 : Int))]) (by kernel_rfl) (by (first | omega | assumption | exact ⟨rfl, trivial⟩ | simp only [AllP, inK_iff, roomOK_iff, decide_eq_true_eq, Bool.and_eq_true, Bool.or_eq_true, Bool.not_eq_true', decide_eq_false_iff_not, and_true, true_and]; (first | omega | (and_intros <;> intros <;> (try and_intros) <;> first | omega | assumption | exact trivial)))) ?_
    refine good_loopJ (fun q : BSt => ⟨[(6, .sv (.int .i64 (q.k))), (5, .sv (.int .i64 (n))), (4, LV.sv (SV.lst (1 : Nat) (List.length (outL (List.drop (n + (1 : Nat)) l))) fun i => [SV.int IntKind.i64 (List.getD (outL (List.drop (n + (1 : Nat)) l)) i (0 : Int))])), (3, LV.own (0 : Nat)), (0, LV.sv (SV.lst (1 : Nat) (List.length l) fun i => [SV.int IntKind.i64 (List.getD l i (0 : Int))]))], [.row 22 1 l.length true fun k => [ints (bestI l n q.c k)]]⟩) (fun q => n < q.k ∧ q.k ≤ l.length ∧ pick q.c (lis (l.getD n 0) (l.drop q.k)) = lis (l.getD n 0) (l.drop (n + 1))) (fun q => l.length - q.k) (mkB (n + 1) []) [List.length l = List.length l ∧ ∀ (i : Nat), i < List.length l → (fun k => [ints (bestK l (n + (1 : Nat)) k)]) i = (fun k => [ints (bestI l n (mkB (n + (1 : Nat)) []).c k)]) i, (↑n : Int) + (1 : Int) = (↑(mkB (n + (1 : Nat)) []).k : Int), (↑n : Int) = (↑n : Int), List.length (outL (List.drop (n + (1 : Nat)) l)) = List.length (outL (List.drop (n + (1 : Nat)) l)) ∧ ∀ (i : Nat), i < List.length (outL (List.drop (n + (1 : Nat)) l)) → (fun i => [SV.int IntKind.i64 (List.getD (outL (List.drop (n + (1 : Nat)) l)) i (0 : Int))]) i = (fun i => [SV.int IntKind.i64 (List.getD (outL (List.drop (n + (1 : Nat)) l)) i (0 : Int))]) i, List.length l = List.length l ∧ ∀ (i : Nat), i < List.length l → (fun i => [SV.int IntKind.i64 (List.getD l i (0 : Int))]) i = (fun i => [SV.int IntKind.i64 (List.getD l i (0 : Int))]) i] (by kernel_rfl) (by kernel_rfl) ⟨?_, (by rfl), rfl, ⟨rfl, fun _ _ => rfl⟩, ⟨rfl, fun _ _ => rfl⟩, trivial⟩ ?_ ?_
    · refine ⟨rfl, fun k hk => ?_⟩
      simp only [bestI, mkB]
      by_cases h : k = n
      · rw [if_pos h]; unfold bestK; rw [if_neg (by omega)]
      · rw [if_neg h]
    · exact ⟨Nat.lt_succ_self _, hnl, pick_nil _⟩
    rintro q ⟨hnk, hkl, hp⟩
    have eI : bestI l n q.c n = q.c := if_pos rfl
    have hcl : q.c.length ≤ 256 := by
      have h1 := pick_len q.c (lis (l.getD n 0) (l.drop q.k))
      have h2 := (lis_sub (l.drop (n + 1)) (l.getD n 0)).length_le
      rw [hp] at h1
      rw [List.length_drop] at h2
      omega
    refine good_run 9 (obs := []) (by kernel_rfl) trivial ?_
    refine good_cond (decide ((↑q.k : Int) < (↑(List.length l) : Int))) (by kernel_rfl) (fun hc2 => ?_) (fun hc2 => ?_)
    · have hkl2 : q.k < l.length := by simp only [decide_eq_true_eq] at hc2; omega
      have eK : bestI l n q.c q.k = bstL l q.k := by
        unfold bestI bestK
        rw [if_neg (by omega), if_pos (by omega)]
      have hd := lis_drop (l.getD n 0) l q.k hkl2
      refine good_run 47 (obs := [True → (1 : Nat) = (1 : Nat) ∧ (0 : Int) ≤ (↑q.k : Int) ∧ (↑q.k : Int) < (↑(List.length l) : Int), True → (1 : Nat) = (1 : Nat) ∧ (0 : Int) ≤ (↑n : Int) ∧ (↑n : Int) < (↑(List.length l) : Int), decide (List.getD l n (0 : Int) < List.getD l q.k (0 : Int)) = true ∧ True → (1 : Nat) = (1 : Nat) ∧ (0 : Int) ≤ (↑q.k : Int) ∧ (↑q.k : Int) < (↑(List.length l) : Int), decide (List.getD l n (0 : Int) < List.getD l q.k (0 : Int)) = true ∧ True → (1 : Nat) = (1 : Nat) ∧ (0 : Int) ≤ (↑n : Int) ∧ (↑n : Int) < (↑(List.length l) : Int), decide ((↑(List.length (bestI l n q.c n)) : Int) < (↑(List.length (bestI l n q.c q.k)) : Int)) = false ∧ decide (List.getD l n (0 : Int) < List.getD l q.k (0 : Int)) = true ∧ True → (1 : Nat) = (1 : Nat) ∧ (0 : Int) ≤ (↑q.k : Int) ∧ (↑q.k : Int) < (↑(List.length l) : Int), decide ((↑(List.length (bestI l n q.c n)) : Int) < (↑(List.length (bestI l n q.c q.k)) : Int)) = false ∧ decide (List.getD l n (0 : Int) < List.getD l q.k (0 : Int)) = true ∧ True → (1 : Nat) = (1 : Nat) ∧ (0 : Int) ≤ (↑n : Int) ∧ (↑n : Int) < (↑(List.length l) : Int), decide ((↑(List.length (bestI l n q.c q.k)) : Int) = (↑(List.length (bestI l n q.c n)) : Int)) = true ∧ decide ((↑(List.length (bestI l n q.c n)) : Int) < (↑(List.length (bestI l n q.c q.k)) : Int)) = false ∧ decide (List.getD l n (0 : Int) < List.getD l q.k (0 : Int)) = true ∧ True → (1 : Nat) = (1 : Nat) ∧ (0 : Int) ≤ (↑q.k : Int) ∧ (↑q.k : Int) < (↑(List.length l) : Int), decide ((↑(List.length (bestI l n q.c q.k)) : Int) = (↑(List.length (bestI l n q.c n)) : Int)) = true ∧ decide ((↑(List.length (bestI l n q.c n)) : Int) < (↑(List.length (bestI l n q.c q.k)) : Int)) = false ∧ decide (List.getD l n (0 : Int) < List.getD l q.k (0 : Int)) = true ∧ True → (1 : Nat) = (1 : Nat) ∧ (0 : Int) ≤ (↑n : Int) ∧ (↑n : Int) < (↑(List.length l) : Int)]) (by kernel_rfl) (by (first | omega | assumption | exact ⟨rfl, trivial⟩ | simp only [AllP, inK_iff, roomOK_iff, decide_eq_true_eq, Bool.and_eq_true, Bool.or_eq_true, Bool.not_eq_true', decide_eq_false_iff_not, and_true, true_and]; (first | omega | (and_intros <;> intros <;> (try and_intros) <;> first | omega | assumption | exact trivial)))) ?_
      refine good_call (c := decide ((↑(List.length (bestI l n q.c q.k)) : Int) = (↑(List.length (bestI l n q.c n)) : Int)) = true ∧ decide ((↑(List.length (bestI l n q.c n)) : Int) < (↑(List.length (bestI l n q.c q.k)) : Int)) = false ∧ decide (List.getD l n (0 : Int) < List.getD l q.k (0 : Int)) = true ∧ True) (by kernel_rfl) (fun _ => SVles.refl _) (fun _ => s58 (bestI l n q.c q.k) (bestI l n q.c n) ?_) (by kernel_rfl) ?_
      · rename_i hg; have := hg.1; simp only [decide_eq_true_eq] at this; omega
      · refine good_run 5 (obs := []) (by kernel_rfl) trivial ?_
        refine good_cond (decide (List.getD l n (0 : Int) < List.getD l q.k (0 : Int)) && (decide ((↑(List.length (bestI l n q.c n)) : Int) < (↑(List.length (bestI l n q.c q.k)) : Int)) || decide ((↑(List.length (bestI l n q.c q.k)) : Int) = (↑(List.length (bestI l n q.c n)) : Int)) && lexlt (bestI l n q.c q.k) (bestI l n q.c n))) (by kernel_rfl) (fun hc3 => ?_) (fun hc3 => ?_)
        · rw [eI, eK, btr_int, Bool.and_eq_true, decide_eq_true_eq] at hc3
          rw [if_pos hc3.1] at hd
          have hn : pick (bstL l q.k) (lis (l.getD n 0) (l.drop (q.k + 1))) = lis (l.getD n 0) (l.drop (n + 1)) := by
            rw [← hp, hd, ← pick_assoc, pick_comm q.c, show pick (l.getD q.k 0 :: lis (l.getD q.k 0) (l.drop (q.k + 1))) q.c = bstL l q.k from if_pos hc3.2]
          refine good_run 18 (obs := [(1 : Nat) = (1 : Nat) ∧ (0 : Int) ≤ (↑q.k : Int) ∧ (↑q.k : Int) < (↑(List.length l) : Int), (1 : Nat) = (1 : Nat) ∧ (0 : Int) ≤ (↑n : Int) ∧ (↑n : Int) < (↑(List.length l) : Int), (1 : Nat) = (1 : Nat) ∧ (0 : Nat) + (1 : Nat) ≤ (1 : Nat), InK IntKind.i64 ((↑q.k : Int) + (1 : Int))]) (by kernel_rfl) (by (first | omega | assumption | exact ⟨rfl, trivial⟩ | simp only [AllP, inK_iff, roomOK_iff, decide_eq_true_eq, Bool.and_eq_true, Bool.or_eq_true, Bool.not_eq_true', decide_eq_false_iff_not, and_true, true_and]; (first | omega | (and_intros <;> intros <;> (try and_intros) <;> first | omega | assumption | exact trivial)))) ?_
          refine good_backJ (mkB (q.k + 1) (bstL l q.k)) [List.length l = List.length l ∧ ∀ (i : Nat), i < List.length l → (fun j => if j = n then lay ((fun k => [ints (bestI l n q.c k)]) n) (0 : Nat) [SV.lst (1 : Nat) (List.length (bestI l n q.c q.k)) fun i => [SV.int IntKind.i64 (List.getD (bestI l n q.c q.k) i (0 : Int))]] else (fun k => [ints (bestI l n q.c k)]) j) i = (fun k => [ints (bestI l n (mkB (q.k + (1 : Nat)) (bstL l q.k)).c k)]) i, (↑q.k : Int) + (1 : Int) = (↑(mkB (q.k + (1 : Nat)) (bstL l q.k)).k : Int), (↑n : Int) = (↑n : Int), List.length (outL (List.drop (n + (1 : Nat)) l)) = List.length (outL (List.drop (n + (1 : Nat)) l)) ∧ ∀ (i : Nat), i < List.length (outL (List.drop (n + (1 : Nat)) l)) → (fun i => [SV.int IntKind.i64 (List.getD (outL (List.drop (n + (1 : Nat)) l)) i (0 : Int))]) i = (fun i => [SV.int IntKind.i64 (List.getD (outL (List.drop (n + (1 : Nat)) l)) i (0 : Int))]) i, List.length l = List.length l ∧ ∀ (i : Nat), i < List.length l → (fun i => [SV.int IntKind.i64 (List.getD l i (0 : Int))]) i = (fun i => [SV.int IntKind.i64 (List.getD l i (0 : Int))]) i] (by kernel_rfl) (by kernel_rfl) ⟨?_, (by rfl), rfl, ⟨rfl, fun _ _ => rfl⟩, ⟨rfl, fun _ _ => rfl⟩, trivial⟩ ?_ ?_
          · refine ⟨rfl, fun j hj => ?_⟩
            simp only [eK]
            by_cases h : j = n
            · rw [if_pos h]
              show _ = [ints (bestI l n (bstL l q.k) j)]
              rw [show bestI l n (bstL l q.k) j = bstL l q.k from if_pos h]
              rfl
            · rw [if_neg h]
              show _ = [ints (bestI l n (bstL l q.k) j)]
              unfold bestI
              rw [if_neg h, if_neg h]
          · exact ⟨by show n < q.k + 1; omega, hkl2, hn⟩
          · show l.length - (q.k + 1) < _; omega
        · rw [eI, eK, btr_int, Bool.and_eq_false_iff, decide_eq_false_iff_not] at hc3
          have hn : pick q.c (lis (l.getD n 0) (l.drop (q.k + 1))) = lis (l.getD n 0) (l.drop (n + 1)) := by
            rw [← hp, hd]
            split
            · rename_i hlt
              have hb : btr (bstL l q.k) q.c = false := by
                rcases hc3 with h | h
                · exact absurd hlt h
                · exact h
              rw [← pick_assoc, pick_comm q.c (l.getD q.k 0 :: _), show pick (l.getD q.k 0 :: lis (l.getD q.k 0) (l.drop (q.k + 1))) q.c = q.c from pick_eq_right hb]
            · rfl
          refine good_run 8 (obs := [InK IntKind.i64 ((↑q.k : Int) + (1 : Int))]) (by kernel_rfl) (by (first | omega | assumption | exact ⟨rfl, trivial⟩ | simp only [AllP, inK_iff, roomOK_iff, decide_eq_true_eq, Bool.and_eq_true, Bool.or_eq_true, Bool.not_eq_true', decide_eq_false_iff_not, and_true, true_and]; (first | omega | (and_intros <;> intros <;> (try and_intros) <;> first | omega | assumption | exact trivial)))) ?_
          refine good_backJ (mkB (q.k + 1) q.c) [List.length l = List.length l ∧ ∀ (i : Nat), i < List.length l → (fun k => [ints (bestI l n q.c k)]) i = (fun k => [ints (bestI l n (mkB (q.k + (1 : Nat)) q.c).c k)]) i, (↑q.k : Int) + (1 : Int) = (↑(mkB (q.k + (1 : Nat)) q.c).k : Int), (↑n : Int) = (↑n : Int), List.length (outL (List.drop (n + (1 : Nat)) l)) = List.length (outL (List.drop (n + (1 : Nat)) l)) ∧ ∀ (i : Nat), i < List.length (outL (List.drop (n + (1 : Nat)) l)) → (fun i => [SV.int IntKind.i64 (List.getD (outL (List.drop (n + (1 : Nat)) l)) i (0 : Int))]) i = (fun i => [SV.int IntKind.i64 (List.getD (outL (List.drop (n + (1 : Nat)) l)) i (0 : Int))]) i, List.length l = List.length l ∧ ∀ (i : Nat), i < List.length l → (fun i => [SV.int IntKind.i64 (List.getD l i (0 : Int))]) i = (fun i => [SV.int IntKind.i64 (List.getD l i (0 : Int))]) i] (by kernel_rfl) (by kernel_rfl) ⟨?_, (by rfl), rfl, ⟨rfl, fun _ _ => rfl⟩, ⟨rfl, fun _ _ => rfl⟩, trivial⟩ ?_ ?_
          · exact ⟨rfl, fun _ _ => rfl⟩
          · exact ⟨by show n < q.k + 1; omega, hkl2, hn⟩
          · show l.length - (q.k + 1) < _; omega
    · have hke : q.k = l.length := by simp only [decide_eq_false_iff_not] at hc2; omega
      rw [hke, List.drop_length, lis, pick_nil'] at hp
      have hbn : bstL l n = l.getD n 0 :: q.c := by rw [hp]; rfl
      have hou : outL (l.drop n) = pick (bstL l n) (outL (l.drop (n + 1))) := by
        rw [drop_getD (d := (0 : Int)) l n hnl]; rfl
      have hcb : (bestI l n q.c n).length ≤ 256 := by rw [eI]; exact hcl
      refine good_run 2 (obs := []) (by kernel_rfl) trivial ?_
      refine good_leaveJ (by kernel_rfl) ?_
      refine good_run 10 (obs := []) (by kernel_rfl) trivial ?_
      refine good_all [0, 3, 4, 5, 6, 19, 20, 21, 22, 78, 79, 80, 81, 82, 83, 84, 85, 86, 87, 88, 89, 90] 10 [(1 : Nat) = (1 : Nat) ∧ (0 : Int) ≤ (↑n : Int) ∧ (↑n : Int) < (↑(List.length l) : Int), (1 : Nat) = (1 : Nat) ∧ (0 : Int) ≤ (↑n : Int) ∧ (↑n : Int) < (↑(List.length l) : Int), (3 : Nat) = (3 : Nat) ∧ (1 : Nat) = (1 : Nat) ∧ (1 : Nat) = (1 : Nat) ∧ roomOK ((1 : Nat) + List.length (bestI l n q.c n)) (8 : Nat), (1 : Nat) = (1 : Nat) ∧ (0 : Int) ≤ (↑n : Int) ∧ (↑n : Int) < (↑(List.length l) : Int), (1 : Nat) = (1 : Nat) ∧ (0 : Nat) + (1 : Nat) ≤ (1 : Nat)] (by kernel_rfl) (by (first | omega | assumption | exact ⟨rfl, trivial⟩ | simp only [AllP, inK_iff, roomOK_iff, decide_eq_true_eq, Bool.and_eq_true, Bool.or_eq_true, Bool.not_eq_true', decide_eq_false_iff_not, and_true, true_and]; (first | omega | (and_intros <;> intros <;> (try and_intros) <;> first | omega | assumption | exact trivial)))) ?_
      refine good_run 2 (obs := []) (by kernel_rfl) trivial ?_
      refine good_row 0 (t := (22 : Nat)) (sz := (1 : Nat)) (n := List.length l) (mu := true) (get := fun j => if j = n then lay ((fun k => [ints (bestI l n q.c k)]) n) (0 : Nat) [SV.lst (1 : Nat) ((1 : Nat) + List.length (bestI l n q.c n)) (joinGet (1 : Nat) (cutRows (1 : Nat) [SV.int IntKind.i64 (List.getD l n (0 : Int))]) fun i => [SV.int IntKind.i64 (List.getD (bestI l n q.c n) i (0 : Int))])] else (fun k => [ints (bestI l n q.c k)]) j) (fun k => [ints (bestK l n k)]) (by kernel_rfl) (fun j _ => rowStep l n q.c hbn j) ?_
      have eK2 : bestK l n n = bstL l n := if_pos (Nat.le_refl _)
      refine good_run 24 (obs := [(1 : Nat) = (1 : Nat) ∧ (0 : Int) ≤ (↑n : Int) ∧ (↑n : Int) < (↑(List.length l) : Int), decide ((↑(List.length (outL (List.drop (n + (1 : Nat)) l))) : Int) < (↑(List.length (bestK l n n)) : Int)) = false ∧ True → (1 : Nat) = (1 : Nat) ∧ (0 : Int) ≤ (↑n : Int) ∧ (↑n : Int) < (↑(List.length l) : Int), decide ((↑(List.length (bestK l n n)) : Int) = (↑(List.length (outL (List.drop (n + (1 : Nat)) l))) : Int)) = true ∧ decide ((↑(List.length (outL (List.drop (n + (1 : Nat)) l))) : Int) < (↑(List.length (bestK l n n)) : Int)) = false ∧ True → (1 : Nat) = (1 : Nat) ∧ (0 : Int) ≤ (↑n : Int) ∧ (↑n : Int) < (↑(List.length l) : Int)]) (by kernel_rfl) (by (first | omega | assumption | exact ⟨rfl, trivial⟩ | simp only [AllP, inK_iff, roomOK_iff, decide_eq_true_eq, Bool.and_eq_true, Bool.or_eq_true, Bool.not_eq_true', decide_eq_false_iff_not, and_true, true_and]; (first | omega | (and_intros <;> intros <;> (try and_intros) <;> first | omega | assumption | exact trivial)))) ?_
      refine good_call (c := decide ((↑(List.length (bestK l n n)) : Int) = (↑(List.length (outL (List.drop (n + (1 : Nat)) l))) : Int)) = true ∧ decide ((↑(List.length (outL (List.drop (n + (1 : Nat)) l))) : Int) < (↑(List.length (bestK l n n)) : Int)) = false ∧ True) (by kernel_rfl) (fun _ => SVles.refl _) (fun _ => s58 (bestK l n n) (outL (List.drop (n + (1 : Nat)) l)) ?_) (by kernel_rfl) ?_
      · rename_i hg; have := hg.1; simp only [decide_eq_true_eq] at this; omega
      refine good_run 5 (obs := []) (by kernel_rfl) trivial ?_
      refine good_cond (decide ((↑(List.length (outL (List.drop (n + (1 : Nat)) l))) : Int) < (↑(List.length (bestK l n n)) : Int)) || decide ((↑(List.length (bestK l n n)) : Int) = (↑(List.length (outL (List.drop (n + (1 : Nat)) l))) : Int)) && lexlt (bestK l n n) (outL (List.drop (n + (1 : Nat)) l))) (by kernel_rfl) (fun hc3 => ?_) (fun hc3 => ?_)
      · rw [eK2, btr_int] at hc3
        have ho2 : outL (l.drop n) = bstL l n := by rw [hou]; exact if_pos hc3
        refine good_run 15 (obs := [(1 : Nat) = (1 : Nat) ∧ (0 : Int) ≤ (↑n : Int) ∧ (↑n : Int) < (↑(List.length l) : Int), InK IntKind.i64 ((↑n : Int) - (1 : Int))]) (by kernel_rfl) (by (first | omega | assumption | exact ⟨rfl, trivial⟩ | simp only [AllP, inK_iff, roomOK_iff, decide_eq_true_eq, Bool.and_eq_true, Bool.or_eq_true, Bool.not_eq_true', decide_eq_false_iff_not, and_true, true_and]; (first | omega | (and_intros <;> intros <;> (try and_intros) <;> first | omega | assumption | exact trivial)))) ?_
        refine good_backJ (n) [List.length l = List.length l ∧ ∀ (i : Nat), i < List.length l → (fun k => [ints (bestK l n k)]) i = (fun k => [ints (bestK l n k)]) i, (↑n : Int) - (1 : Int) = (↑n : Int) - (1 : Int), List.length (bestK l n n) = List.length (outL (List.drop n l)) ∧ ∀ (i : Nat), i < List.length (bestK l n n) → (fun i => [SV.int IntKind.i64 (List.getD (bestK l n n) i (0 : Int))]) i = (fun i => [SV.int IntKind.i64 (List.getD (outL (List.drop n l)) i (0 : Int))]) i, List.length l = List.length l ∧ ∀ (i : Nat), i < List.length l → (fun i => [SV.int IntKind.i64 (List.getD l i (0 : Int))]) i = (fun i => [SV.int IntKind.i64 (List.getD l i (0 : Int))]) i] (by kernel_rfl) (by kernel_rfl) ⟨⟨rfl, fun _ _ => rfl⟩, rfl, ?_, ⟨rfl, fun _ _ => rfl⟩, trivial⟩ (by omega) (by show _ < _; omega)
        rw [ho2, eK2]
        exact ⟨rfl, fun _ _ => rfl⟩
      · rw [eK2, btr_int] at hc3
        have ho2 : outL (l.drop n) = outL (l.drop (n + 1)) := by rw [hou]; exact pick_eq_right hc3
        refine good_run 8 (obs := [InK IntKind.i64 ((↑n : Int) - (1 : Int))]) (by kernel_rfl) (by (first | omega | assumption | exact ⟨rfl, trivial⟩ | simp only [AllP, inK_iff, roomOK_iff, decide_eq_true_eq, Bool.and_eq_true, Bool.or_eq_true, Bool.not_eq_true', decide_eq_false_iff_not, and_true, true_and]; (first | omega | (and_intros <;> intros <;> (try and_intros) <;> first | omega | assumption | exact trivial)))) ?_
        refine good_backJ (n) [List.length l = List.length l ∧ ∀ (i : Nat), i < List.length l → (fun k => [ints (bestK l n k)]) i = (fun k => [ints (bestK l n k)]) i, (↑n : Int) - (1 : Int) = (↑n : Int) - (1 : Int), List.length (outL (List.drop (n + (1 : Nat)) l)) = List.length (outL (List.drop n l)) ∧ ∀ (i : Nat), i < List.length (outL (List.drop (n + (1 : Nat)) l)) → (fun i => [SV.int IntKind.i64 (List.getD (outL (List.drop (n + (1 : Nat)) l)) i (0 : Int))]) i = (fun i => [SV.int IntKind.i64 (List.getD (outL (List.drop n l)) i (0 : Int))]) i, List.length l = List.length l ∧ ∀ (i : Nat), i < List.length l → (fun i => [SV.int IntKind.i64 (List.getD l i (0 : Int))]) i = (fun i => [SV.int IntKind.i64 (List.getD l i (0 : Int))]) i] (by kernel_rfl) (by kernel_rfl) ⟨⟨rfl, fun _ _ => rfl⟩, rfl, ?_, ⟨rfl, fun _ _ => rfl⟩, trivial⟩ (by omega) (by show _ < _; omega)
        rw [ho2]
        exact ⟨rfl, fun _ _ => rfl⟩
  · have hi0 : i = 0 := by simp only [decide_eq_false_iff_not] at hc1; omega
    subst hi0
    rw [List.drop_zero, outL_eq l hpos]
    refine good_run 2 (obs := []) (by kernel_rfl) trivial ?_
    refine good_leaveJ (by kernel_rfl) ?_
    refine good_run 8 (obs := []) (by kernel_rfl) trivial ?_
    refine good_fin [List.length (lis (0 : Int) l) = List.length (lis (0 : Int) l) ∧ ∀ (i : Nat), i < List.length (lis (0 : Int) l) → (fun i => [SV.int IntKind.i64 (List.getD (lis (0 : Int) l) i (0 : Int))]) i = (fun i => [SV.int IntKind.i64 (List.getD (lis (0 : Int) l) i (0 : Int))]) i] (by kernel_rfl) ⟨⟨rfl, fun _ _ => rfl⟩, trivial⟩
end Go.Sx.T
