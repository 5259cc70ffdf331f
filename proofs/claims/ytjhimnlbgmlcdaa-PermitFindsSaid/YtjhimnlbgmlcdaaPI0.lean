/- Contracts of functions of the program, each proved by running its code symbolically (PI0). -/
import Derived.Test.YtjhimnlbgmlcdaaPH
namespace Go.Sx.T
open Go Go.Proofs Go.Sx
set_option maxRecDepth 100000
set_option maxHeartbeats 4000000
set_option linter.unusedVariables false
set_option linter.unusedSimpArgs false
def kstep (reader : Int) (path : List Int) (day : Int) (n : Nat) (p : Permit) : Nat := if (decide (p.Reader = reader) && openB p path day) = true then n ||| p.Kinds.toNat else n
def kindsOf (l : List Permit) (reader : Int) (path : List Int) (day : Int) : Nat := l.foldl (kstep reader path day) 0
def kindsR (l : List Permit) (reader : Int) (path : List Int) (day : Int) : Int := if check l = 0 then (kindsOf l reader path day : Int) else 0
theorem or_le7 (a b : Nat) (ha : a ≤ 7) (hb : b ≤ 7) : a ||| b ≤ 7 := by
  have := Nat.or_lt_two_pow (n := 3) (x := a) (y := b) (by omega) (by omega)
  omega
theorem open_formed {p : Permit} {path : List Int} {day : Int} (h : openB p path day = true) : formedB p = true := by
  simp only [openB, Bool.and_eq_true] at h
  exact h.1.1.1
theorem s25 (l : List Permit) (reader : Int) (path : List Int) (day : Int) : Spec Try.prog 25 [permits l, .int .i64 reader, ints path, .int .i64 day] (.int .i64 (kindsR l reader path day)) := by
  refine spec_len 0 rfl (hasBody_of_slim Try.func25 F25_ok) fun hlen => ?_
  refine spec_of_good mixed Try.func25 F25_ok (by kernel_rfl) ?_
  refine good_run 19 (obs := []) (by kernel_rfl) trivial ?_
  refine good_loopJ (fun q : Nat × Nat => ⟨[(0, .sv (permits l)), (1, .sv (.int .i64 reader)), (2, .sv (ints path)), (3, .sv (.int .i64 day)), (9, .sv (.int .i64 (q.2 : Int))), (12, .sv (permits l)), (13, .sv (.int .i64 l.length)), (14, .sv (.int .i64 q.1))], []⟩) (fun q => q.1 ≤ l.length ∧ q.2 ≤ 7 ∧ (l.drop q.1).foldl (kstep reader path day) q.2 = kindsOf l reader path day) (fun q => l.length - q.1) ((0, 0)) [List.length l = List.length l ∧ ∀ (i : Nat), i < List.length l → (fun i => Permit.cells (List.getD l i default)) i = (fun i => Permit.cells (List.getD l i default)) i, reader = reader, List.length path = List.length path ∧ ∀ (i : Nat), i < List.length path → (fun i => [SV.int IntKind.i64 (List.getD path i (0 : Int))]) i = (fun i => [SV.int IntKind.i64 (List.getD path i (0 : Int))]) i, day = day, (0 : Int) = (0 : Int), List.length l = List.length l ∧ ∀ (i : Nat), i < List.length l → (fun i => Permit.cells (List.getD l i default)) i = (fun i => Permit.cells (List.getD l i default)) i, (↑(List.length l) : Int) = (↑(List.length l) : Int), (0 : Int) = (0 : Int)] (by kernel_rfl) (by kernel_rfl) ⟨⟨rfl, fun _ _ => rfl⟩, rfl, ⟨rfl, fun _ _ => rfl⟩, rfl, rfl, ⟨rfl, fun _ _ => rfl⟩, rfl, rfl, trivial⟩ ?_ ?_
  · exact ⟨Nat.zero_le _, Nat.zero_le _, rfl⟩
  · rintro ⟨k, n⟩ ⟨hk, hn, hf⟩
    simp only [] at hk hn hf
    refine good_run 6 (obs := []) (by kernel_rfl) trivial ?_
    refine good_cond (decide ((↑k : Int) < (↑(List.length l) : Int))) (by kernel_rfl) (fun hc1 => ?_) (fun hc1 => ?_)
    · have hlt : k < l.length := by simp only [decide_eq_true_eq] at hc1; omega
      rw [drop_getD l k hlt, List.foldl_cons] at hf
      refine good_run 22 (obs := [(6 : Nat) = (6 : Nat) ∧ (0 : Int) ≤ (↑k : Int) ∧ (↑k : Int) < (↑(List.length l) : Int), (0 : Nat) + (6 : Nat) ≤ (6 : Nat), (6 : Nat) = (6 : Nat) ∧ (0 : Nat) + (6 : Nat) ≤ (6 : Nat), decide ((List.getD l k default).Reader = reader) = true ∧ True → (0 : Nat) + (6 : Nat) ≤ (6 : Nat)]) (by kernel_rfl) (by (first | omega | assumption | exact ⟨rfl, trivial⟩ | simp only [AllP, inK_iff, roomOK_iff, decide_eq_true_eq, Bool.and_eq_true, Bool.or_eq_true, Bool.not_eq_true', decide_eq_false_iff_not, and_true, true_and]; (first | omega | (and_intros <;> intros <;> (try and_intros) <;> first | omega | assumption | exact trivial)))) ?_
      refine good_call (c := decide ((List.getD l k default).Reader = reader) = true ∧ True) (by kernel_rfl) (fun _ => SVles.refl _) (fun _ => s35 (List.getD l k default) (path) (day)) (by kernel_rfl) ?_
      refine good_run 4 (obs := []) (by kernel_rfl) trivial ?_
      refine good_cond (decide ((List.getD l k default).Reader = reader) && openB (List.getD l k default) path day) (by kernel_rfl) (fun hc2 => ?_) (fun hc2 => ?_)
      · have hfm := formed_kinds (open_formed (by simp only [Bool.and_eq_true] at hc2; exact hc2.2))
        have hle := or_le7 n (l.getD k default).Kinds.toNat hn (by omega)
        rw [kstep, if_pos hc2] at hf
        refine good_run 14 (obs := [IntKind.i64 = IntKind.i64 ∧ (0 : Int) ≤ (↑n : Int) ∧ (0 : Int) ≤ (List.getD l k default).Kinds ∧ InK IntKind.i64 (↑n : Int) ∧ InK IntKind.i64 (List.getD l k default).Kinds, InK IntKind.i64 ((↑k : Int) + (1 : Int))]) (by kernel_rfl) (by (first | omega | assumption | exact ⟨rfl, trivial⟩ | simp only [AllP, inK_iff, roomOK_iff, decide_eq_true_eq, Bool.and_eq_true, Bool.or_eq_true, Bool.not_eq_true', decide_eq_false_iff_not, and_true, true_and]; (first | omega | (and_intros <;> intros <;> (try and_intros) <;> first | omega | assumption | exact trivial)))) ?_
        refine good_backJ ((k + 1, n ||| (l.getD k default).Kinds.toNat)) [List.length l = List.length l ∧ ∀ (i : Nat), i < List.length l → (fun i => Permit.cells (List.getD l i default)) i = (fun i => Permit.cells (List.getD l i default)) i, reader = reader, List.length path = List.length path ∧ ∀ (i : Nat), i < List.length path → (fun i => [SV.int IntKind.i64 (List.getD path i (0 : Int))]) i = (fun i => [SV.int IntKind.i64 (List.getD path i (0 : Int))]) i, day = day, (↑(n ||| Int.toNat (List.getD l k default).Kinds) : Int) = (↑(n ||| Int.toNat (List.getD l k default).Kinds) : Int), List.length l = List.length l ∧ ∀ (i : Nat), i < List.length l → (fun i => Permit.cells (List.getD l i default)) i = (fun i => Permit.cells (List.getD l i default)) i, (↑(List.length l) : Int) = (↑(List.length l) : Int), (↑k : Int) + (1 : Int) = (↑(k + (1 : Nat)) : Int)] (by kernel_rfl) (by kernel_rfl) ⟨⟨rfl, fun _ _ => rfl⟩, rfl, ⟨rfl, fun _ _ => rfl⟩, rfl, rfl, ⟨rfl, fun _ _ => rfl⟩, rfl, (by omega), trivial⟩ ?_ ?_
        · exact ⟨hlt, hle, hf⟩
        · show _ < _; omega
      · rw [kstep, if_neg (by rw [hc2]; simp)] at hf
        refine good_run 7 (obs := [InK IntKind.i64 ((↑k : Int) + (1 : Int))]) (by kernel_rfl) (by (first | omega | assumption | exact ⟨rfl, trivial⟩ | simp only [AllP, inK_iff, roomOK_iff, decide_eq_true_eq, Bool.and_eq_true, Bool.or_eq_true, Bool.not_eq_true', decide_eq_false_iff_not, and_true, true_and]; (first | omega | (and_intros <;> intros <;> (try and_intros) <;> first | omega | assumption | exact trivial)))) ?_
        refine good_backJ ((k + 1, n)) [List.length l = List.length l ∧ ∀ (i : Nat), i < List.length l → (fun i => Permit.cells (List.getD l i default)) i = (fun i => Permit.cells (List.getD l i default)) i, reader = reader, List.length path = List.length path ∧ ∀ (i : Nat), i < List.length path → (fun i => [SV.int IntKind.i64 (List.getD path i (0 : Int))]) i = (fun i => [SV.int IntKind.i64 (List.getD path i (0 : Int))]) i, day = day, (↑n : Int) = (↑n : Int), List.length l = List.length l ∧ ∀ (i : Nat), i < List.length l → (fun i => Permit.cells (List.getD l i default)) i = (fun i => Permit.cells (List.getD l i default)) i, (↑(List.length l) : Int) = (↑(List.length l) : Int), (↑k : Int) + (1 : Int) = (↑(k + (1 : Nat)) : Int)] (by kernel_rfl) (by kernel_rfl) ⟨⟨rfl, fun _ _ => rfl⟩, rfl, ⟨rfl, fun _ _ => rfl⟩, rfl, rfl, ⟨rfl, fun _ _ => rfl⟩, rfl, (by omega), trivial⟩ ?_ ?_
        · exact ⟨hlt, hn, hf⟩
        · show _ < _; omega
    · have hk' : k = l.length := by simp only [decide_eq_false_iff_not] at hc1; omega
      subst hk'
      rw [List.drop_length] at hf
      refine good_run 2 (obs := []) (by kernel_rfl) trivial ?_
      refine good_leaveJ (by kernel_rfl) ?_
      refine good_run 5 (obs := []) (by kernel_rfl) trivial ?_
      refine good_call (c := True) (by kernel_rfl) (fun _ => SVles.refl _) (fun _ => s16 (l)) (by kernel_rfl) ?_
      refine good_run 3 (obs := []) (by kernel_rfl) trivial ?_
      refine good_cond (!decide (check l = (0 : Int))) (by kernel_rfl) (fun hc2 => ?_) (fun hc2 => ?_)
      · simp only [Bool.not_eq_true', decide_eq_false_iff_not] at hc2
        refine good_run 7 (obs := []) (by kernel_rfl) trivial ?_
        refine good_fin [(0 : Int) = kindsR l reader path day] (by kernel_rfl) ⟨?_, trivial⟩
        rw [kindsR, if_neg hc2]
      · simp only [Bool.not_eq_false', decide_eq_true_eq] at hc2
        refine good_run 8 (obs := []) (by kernel_rfl) trivial ?_
        refine good_fin [(↑n : Int) = kindsR l reader path day] (by kernel_rfl) ⟨?_, trivial⟩
        rw [kindsR, if_pos hc2, ← hf]
        rfl
theorem foldl_bit (reader : Int) (path : List Int) (day : Int) (j : Nat) : ∀ (l : List Permit) (n : Nat), (l.foldl (kstep reader path day) n).testBit j = (n.testBit j || l.any fun p => decide (p.Reader = reader) && openB p path day && p.Kinds.toNat.testBit j)
  | [], n => by simp
  | p :: l, n => by
    rw [List.foldl_cons, foldl_bit reader path day j l, List.any_cons, kstep]
    cases h : (decide (p.Reader = reader) && openB p path day) with
    | true => simp [Nat.testBit_or, Bool.or_assoc]
    | false => simp
theorem foldl_le7 (reader : Int) (path : List Int) (day : Int) : ∀ (l : List Permit) (n : Nat), n ≤ 7 → l.foldl (kstep reader path day) n ≤ 7
  | [], n, h => h
  | p :: l, n, h => by
    rw [List.foldl_cons]
    refine foldl_le7 reader path day l _ ?_
    rw [kstep]
    split
    · rename_i hc
      simp only [Bool.and_eq_true] at hc
      have := formed_kinds (open_formed hc.2)
      exact or_le7 _ _ h (by omega)
    · exact h
theorem kinds_range (l : List Permit) (reader : Int) (path : List Int) (day : Int) : 0 ≤ kindsR l reader path day ∧ kindsR l reader path day ≤ 7 := by
  unfold kindsR
  split
  · have := foldl_le7 reader path day l 0 (by omega)
    unfold kindsOf; omega
  · omega
theorem first_snd (l : List Permit) (reader : Int) (path : List Int) (kind day : Int) : (firstP l reader path kind day).2 = (decide (check l = 0) && l.any fun p => coversB p reader path kind day) := by
  unfold firstP
  by_cases h : check l = 0
  · simp only [h, ne_eq, not_true_eq_false, if_false, decide_true, Bool.true_and]
    cases hf : l.find? (fun p => coversB p reader path kind day) with
    | none =>
      rw [List.find?_eq_none] at hf
      symm
      simp only [List.any_eq_false]
      intro p hp; simpa using hf p hp
    | some q =>
      symm
      simp only [List.any_eq_true]
      exact ⟨q, List.mem_of_find?_eq_some hf, by simpa using List.find?_some hf⟩
  · simp [h]
theorem bit_kind (p : Permit) (k : Nat) (hk : k < 3) (h : 0 ≤ p.Kinds) : p.Kinds.toNat.testBit k = kindB p ((k : Int) + 1) := by
  have e1 : decide ((1 : Int) ≤ (k : Int) + 1) = true := by simp; omega
  have e2 : decide ((k : Int) + 1 ≤ 3) = true := by simp; omega
  have e3 : ((k : Int) + 1 - 1).toNat = k := by omega
  rw [kindB, e1, e2, e3, Bool.true_and, Bool.true_and, Nat.testBit_eq_decide_div_mod_eq]
  apply decide_eq_decide.2
  obtain ⟨n, hn⟩ := Int.eq_ofNat_of_zero_le h
  rw [hn]
  simp only [Int.toNat_natCast]
  have : ((n : Int) / 2 ^ k % 2 = 1) ↔ (((n / 2 ^ k % 2 : Nat) : Int) = 1) := by
    simp
  rw [this]; omega
theorem bits_law (l : List Permit) (reader : Int) (path : List Int) (day : Int) (k : Nat) (hk : k < 3) :
    decide ((((kindsR l reader path day / 2 ^ k).toNat &&& (1 : Int).toNat : Nat) : Int) = 1) = (firstP l reader path ((k : Int) + 1) day).2 := by
  have hr := kinds_range l reader path day
  have hh := half_le (kindsR l reader path day) k hr
  rw [first_snd]
  have e : decide ((((kindsR l reader path day / 2 ^ k).toNat &&& (1 : Int).toNat : Nat) : Int) = 1) = (kindsR l reader path day).toNat.testBit k := by
    rw [Nat.testBit_eq_decide_div_mod_eq]
    apply decide_eq_decide.2
    rw [and_one _ hh.1]
    obtain ⟨n, hn⟩ := Int.eq_ofNat_of_zero_le hr.1
    rw [hn]
    simp only [Int.toNat_natCast]
    have : ((n : Int) / 2 ^ k % 2 = 1) ↔ (((n / 2 ^ k % 2 : Nat) : Int) = 1) := by
      simp
    rw [this]; omega
  rw [e]
  unfold kindsR
  by_cases h : check l = 0
  · simp only [h, if_true, decide_true, Bool.true_and, Int.toNat_natCast]
    unfold kindsOf
    rw [foldl_bit]
    simp only [Nat.zero_testBit, Bool.false_or]
    congr 1
    funext p
    unfold coversB
    cases ho : openB p path day with
    | false => simp
    | true => rw [bit_kind p k hk (formed_kinds (open_formed ho)).1]
  · simp [h]
end Go.Sx.T
