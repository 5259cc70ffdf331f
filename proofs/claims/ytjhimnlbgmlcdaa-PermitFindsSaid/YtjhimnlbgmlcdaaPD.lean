/- Contracts of functions of the program, each proved by running its code symbolically (PD). -/
import Derived.Test.YtjhimnlbgmlcdaaPB
namespace Go.Sx.T
open Go Go.Proofs Go.Sx
set_option maxRecDepth 100000
set_option maxHeartbeats 4000000
set_option linter.unusedVariables false
set_option linter.unusedSimpArgs false
def asked (reader : Int) (path : List Int) (kind day : Int) : SV := .agg [.int .i64 reader, ints path, .int .i64 kind, .int .i64 day]
theorem s18 (l : List Permit) : Spec Try.prog 18 [permits l] (.int .i64 (check l)) := by
  refine spec_of_good mixed Try.func18 F18_ok (by kernel_rfl) ?_
  refine good_run 13 (obs := []) (by kernel_rfl) trivial ?_
  refine good_cond (decide ((64 : Int) < (↑(List.length l) : Int))) (by kernel_rfl) (fun hc1 => ?_) (fun hc1 => ?_)
  · refine good_run 7 (obs := []) (by kernel_rfl) trivial ?_
    refine good_fin [(8 : Int) = check l] (by kernel_rfl) ⟨?_, trivial⟩
    simp at hc1
    simp [check]; omega
  · have hlen : l.length ≤ 64 := by simp at hc1; omega
    have hc : check l = chk none l := by simp [check]; omega
    refine good_run 10 (obs := []) (by kernel_rfl) trivial ?_
    refine good_loopJ (fun k : Nat => ⟨[(0, .sv (permits l)), (8, .sv (permits l)), (9, .sv (.int .i64 l.length)), (10, .sv (.int .i64 k))], []⟩) (fun k => k ≤ l.length ∧ chk (prevAt l k) (l.drop k) = chk none l) (fun k => l.length - k) (0) [List.length l = List.length l ∧ ∀ (i : Nat), i < List.length l → (fun i => Permit.cells (List.getD l i default)) i = (fun i => Permit.cells (List.getD l i default)) i, List.length l = List.length l ∧ ∀ (i : Nat), i < List.length l → (fun i => Permit.cells (List.getD l i default)) i = (fun i => Permit.cells (List.getD l i default)) i, (↑(List.length l) : Int) = (↑(List.length l) : Int), (0 : Int) = (0 : Int)] (by kernel_rfl) (by kernel_rfl) ⟨⟨rfl, fun _ _ => rfl⟩, ⟨rfl, fun _ _ => rfl⟩, rfl, rfl, trivial⟩ ?_ ?_
    · exact ⟨Nat.zero_le _, by simp [prevAt]⟩
    · intro k hk
      refine good_run 6 (obs := []) (by kernel_rfl) trivial ?_
      refine good_cond (decide ((↑k : Int) < (↑(List.length l) : Int))) (by kernel_rfl) (fun hc2 => ?_) (fun hc2 => ?_)
      · have hlt : k < l.length := by simp at hc2; omega
        have hstep := chk_step l k hlt
        refine good_run 17 (obs := [(6 : Nat) = (6 : Nat) ∧ (0 : Int) ≤ (↑k : Int) ∧ (↑k : Int) < (↑(List.length l) : Int), (0 : Nat) + (6 : Nat) ≤ (6 : Nat), (6 : Nat) = (6 : Nat) ∧ (0 : Nat) + (6 : Nat) ≤ (6 : Nat), (0 : Nat) + (6 : Nat) ≤ (6 : Nat)]) (by kernel_rfl) (by (first | omega | assumption | exact ⟨rfl, trivial⟩ | simp only [AllP, inK_iff, roomOK_iff, decide_eq_true_eq, Bool.and_eq_true, Bool.or_eq_true, Bool.not_eq_true', decide_eq_false_iff_not, and_true, true_and]; (first | omega | (and_intros <;> intros <;> (try and_intros) <;> first | omega | assumption | exact trivial)))) ?_
        refine good_call (c := True) (by kernel_rfl) (fun _ => SVles.refl _) (fun _ => s38 (List.getD l k default)) (by kernel_rfl) ?_
        refine good_run 3 (obs := []) (by kernel_rfl) trivial ?_
        refine good_cond (!formedB (List.getD l k default)) (by kernel_rfl) (fun hc3 => ?_) (fun hc3 => ?_)
        · refine good_run 9 (obs := []) (by kernel_rfl) trivial ?_
          refine good_leaveJ (by kernel_rfl) ?_
          refine good_run 2 (obs := []) (by kernel_rfl) trivial ?_
          refine good_fin [(2 : Int) = check l] (by kernel_rfl) ⟨?_, trivial⟩
          simp at hc3
          rw [hc, ← hk.2, hstep]; simp [hc3]
        · have e1 : ((k : Int) - 1).toNat = k - 1 := by omega
          have hf : formedB (l.getD k default) = true := by cases h : formedB (l.getD k default) <;> simp_all
          refine good_run 18 (obs := [decide ((0 : Int) < (↑k : Int)) = true ∧ True → InK IntKind.i64 ((↑k : Int) - (1 : Int)), decide ((0 : Int) < (↑k : Int)) = true ∧ True → (6 : Nat) = (6 : Nat) ∧ (0 : Int) ≤ (↑k : Int) - (1 : Int) ∧ (↑k : Int) - (1 : Int) < (↑(List.length l) : Int)]) (by kernel_rfl) (by (first | omega | assumption | exact ⟨rfl, trivial⟩ | simp only [AllP, inK_iff, roomOK_iff, decide_eq_true_eq, Bool.and_eq_true, Bool.or_eq_true, Bool.not_eq_true', decide_eq_false_iff_not, and_true, true_and]; (first | omega | (and_intros <;> intros <;> (try and_intros) <;> first | omega | assumption | exact trivial)))) ?_
          refine good_cond (decide ((0 : Int) < (↑k : Int)) && decide ((List.getD l k default).ID ≤ (List.getD l (Int.toNat ((↑k : Int) - (1 : Int))) default).ID)) (by kernel_rfl) (fun hc4 => ?_) (fun hc4 => ?_)
          · refine good_run 8 (obs := []) (by kernel_rfl) trivial ?_
            refine good_leaveJ (by kernel_rfl) ?_
            refine good_run 2 (obs := []) (by kernel_rfl) trivial ?_
            refine good_fin [(5 : Int) = check l] (by kernel_rfl) ⟨?_, trivial⟩
            rw [e1] at hc4
            rw [hc, ← hk.2, hstep, hf, hc4]; rfl
          · refine good_run 7 (obs := [InK IntKind.i64 ((↑k : Int) + (1 : Int))]) (by kernel_rfl) (by (first | omega | assumption | exact ⟨rfl, trivial⟩ | simp only [AllP, inK_iff, roomOK_iff, decide_eq_true_eq, Bool.and_eq_true, Bool.or_eq_true, Bool.not_eq_true', decide_eq_false_iff_not, and_true, true_and]; (first | omega | (and_intros <;> intros <;> (try and_intros) <;> first | omega | assumption | exact trivial)))) ?_
            refine good_backJ (k + 1) [List.length l = List.length l ∧ ∀ (i : Nat), i < List.length l → (fun i => Permit.cells (List.getD l i default)) i = (fun i => Permit.cells (List.getD l i default)) i, List.length l = List.length l ∧ ∀ (i : Nat), i < List.length l → (fun i => Permit.cells (List.getD l i default)) i = (fun i => Permit.cells (List.getD l i default)) i, (↑(List.length l) : Int) = (↑(List.length l) : Int), (↑k : Int) + (1 : Int) = (↑(k + (1 : Nat)) : Int)] (by kernel_rfl) (by kernel_rfl) ⟨⟨rfl, fun _ _ => rfl⟩, ⟨rfl, fun _ _ => rfl⟩, rfl, (by omega), trivial⟩ ?_ ?_
            · rw [e1] at hc4
              rw [hf, hc4] at hstep
              exact ⟨by omega, by rw [← hk.2, hstep]; rfl⟩
            · show _ < _; omega
      · refine good_run 2 (obs := []) (by kernel_rfl) trivial ?_
        refine good_leaveJ (by kernel_rfl) ?_
        refine good_run 7 (obs := []) (by kernel_rfl) trivial ?_
        refine good_fin [(0 : Int) = check l] (by kernel_rfl) ⟨?_, trivial⟩
        have : k = l.length := by simp at hc2; omega
        subst this
        rw [hc, ← hk.2]; simp [chk]
theorem s37 (l : List Int) (h : l.length ≤ 100000) : SpecOwn Try.prog 37 [ints l] 3 1 l.length fun i => [.int .i64 (l.getD i 0)] := by
  refine specOwn_of_good mixed Try.func37 F37_ok (by kernel_rfl) ?_
  refine good_run 9 (obs := []) (by kernel_rfl) trivial ?_
  refine good_nil (List.length l) (by kernel_rfl) (fun hc1b hc1 => ?_)
  refine good_run 2 (obs := []) (by kernel_rfl) trivial ?_
  refine good_cond (false ^^ hc1b) (by kernel_rfl) (fun hc2 => ?_) (fun hc2 => ?_)
  · cases hc1b <;> simp at hc2
    refine good_run 7 (obs := []) (by kernel_rfl) trivial ?_
    refine good_finOwn [List.length l = (0 : Nat)] (by kernel_rfl) ⟨?_, trivial⟩
    exact hc1 rfl
  · cases hc1b <;> simp at hc2
    refine good_run 10 (obs := [(3 : Nat) = (3 : Nat) ∧ (1 : Nat) = (1 : Nat) ∧ (1 : Nat) = (1 : Nat) ∧ roomOK ((0 : Nat) + List.length l) (8 : Nat)]) (by kernel_rfl) (by (first | omega | assumption | exact ⟨rfl, trivial⟩ | simp only [AllP, inK_iff, roomOK_iff, decide_eq_true_eq, Bool.and_eq_true, Bool.or_eq_true, Bool.not_eq_true', decide_eq_false_iff_not, and_true, true_and]; (first | omega | (and_intros <;> intros <;> (try and_intros) <;> first | omega | assumption | exact trivial)))) ?_
    refine good_finOwn [(0 : Nat) + List.length l = List.length l ∧ ∀ (j : Nat), j < List.length l → joinGet (0 : Nat) (cutRows (1 : Nat) []) (fun i => [SV.int IntKind.i64 (List.getD l i (0 : Int))]) j = (fun i => [SV.int IntKind.i64 (List.getD l i (0 : Int))]) j] (by kernel_rfl) ⟨?_, trivial⟩
    exact ⟨by omega, fun j _ => rfl⟩
theorem s17 (l : List Permit) (h : l.length ≤ 100000) : SpecOwn Try.prog 17 [permits l] 31 6 l.length fun i => (l.getD i default).cells := by
  refine specOwn_of_good mixed Try.func17 F17_ok (by kernel_rfl) ?_
  refine good_run 9 (obs := []) (by kernel_rfl) trivial ?_
  refine good_nil (List.length l) (by kernel_rfl) (fun hc1b hc1 => ?_)
  refine good_run 2 (obs := []) (by kernel_rfl) trivial ?_
  refine good_cond (false ^^ hc1b) (by kernel_rfl) (fun hc2 => ?_) (fun hc2 => ?_)
  · cases hc1b <;> simp at hc2
    refine good_run 7 (obs := []) (by kernel_rfl) trivial ?_
    refine good_finOwn [List.length l = (0 : Nat)] (by kernel_rfl) ⟨?_, trivial⟩
    exact hc1 rfl
  · cases hc1b <;> simp at hc2
    refine good_run 10 (obs := [(31 : Nat) = (31 : Nat) ∧ (6 : Nat) = (6 : Nat) ∧ (6 : Nat) = (6 : Nat) ∧ roomOK ((0 : Nat) + List.length l) (48 : Nat)]) (by kernel_rfl) (by (first | omega | assumption | exact ⟨rfl, trivial⟩ | simp only [AllP, inK_iff, roomOK_iff, decide_eq_true_eq, Bool.and_eq_true, Bool.or_eq_true, Bool.not_eq_true', decide_eq_false_iff_not, and_true, true_and]; (first | omega | (and_intros <;> intros <;> (try and_intros) <;> first | omega | assumption | exact trivial)))) ?_
    refine good_finOwn [(0 : Nat) + List.length l = List.length l ∧ ∀ (j : Nat), j < List.length l → joinGet (0 : Nat) (cutRows (6 : Nat) []) (fun i => Permit.cells (List.getD l i default)) j = (fun i => Permit.cells (List.getD l i default)) j] (by kernel_rfl) ⟨?_, trivial⟩
    exact ⟨by omega, fun j _ => rfl⟩
theorem s14 (reader : Int) (path : List Int) (kind day : Int) (h : path.length ≤ 100000) : SpecOwn Try.prog 14 [asked reader path kind day] 3 1 path.length fun i => [.int .i64 (path.getD i 0)] := by
  refine specOwn_of_good mixed Try.func14 F14_ok (by kernel_rfl) ?_
  refine good_run 10 (obs := []) (by kernel_rfl) trivial ?_
  refine good_own (c := True) (by kernel_rfl) (by kernel_rfl) (SVles.refl _) (s37 (path) (by (first | omega | assumption | exact ⟨rfl, trivial⟩ | simp only [AllP, inK_iff, roomOK_iff, decide_eq_true_eq, Bool.and_eq_true, Bool.or_eq_true, Bool.not_eq_true', decide_eq_false_iff_not, and_true, true_and]; (first | omega | (and_intros <;> intros <;> (try and_intros) <;> first | omega | assumption | exact trivial))))) ?_
  refine good_run 4 (obs := []) (by kernel_rfl) trivial ?_
  refine good_finOwn [List.length path = List.length path ∧ ∀ (j : Nat), j < List.length path → (fun i => [SV.int IntKind.i64 (List.getD path i (0 : Int))]) j = (fun i => [SV.int IntKind.i64 (List.getD path i (0 : Int))]) j] (by kernel_rfl) ⟨⟨rfl, fun _ _ => rfl⟩, trivial⟩
def findI (l : List Permit) (g : Permit → Bool) : Int := match l.findIdx? g with | some i => (i : Int) | none => -1
theorem findI_hit (l : List Permit) (g : Permit → Bool) (k : Nat) (hk : k < l.length) (h : g (l.getD k default) = true) (hn : ∀ j, j < k → g (l.getD j default) = false) : findI l g = k := by
  have : l.findIdx? g = some k := by
    rw [List.findIdx?_eq_some_iff_getElem]
    refine ⟨hk, ?_, fun j hj => ?_⟩
    · rw [List.getD_eq_getElem?_getD, List.getElem?_eq_getElem hk] at h; exact h
    · have := hn j hj
      rw [List.getD_eq_getElem?_getD, List.getElem?_eq_getElem (Nat.lt_trans hj hk)] at this
      simpa using this
  rw [findI, this]
theorem findI_none (l : List Permit) (g : Permit → Bool) (hn : ∀ j, j < l.length → g (l.getD j default) = false) : findI l g = -1 := by
  have : l.findIdx? g = none := by
    rw [List.findIdx?_eq_none_iff]
    intro x hx
    obtain ⟨i, hi, e⟩ := List.mem_iff_getElem.1 hx
    have := hn i hi
    rw [List.getD_eq_getElem?_getD, List.getElem?_eq_getElem hi] at this
    simpa [e] using this
  rw [findI, this]
theorem s41 (l : List Permit) (f : FuncId) (caps : List SV) (g : Permit → Bool) (h : ∀ p : Permit, Spec Try.prog f (p.sv :: caps) (.bool (g p))) : Spec Try.prog 41 [permits l, .fn f caps] (.int .i64 (findI l g)) := by
  refine spec_len 0 rfl (hasBody_of_slim Try.func41 F41_ok) fun hlen => ?_
  refine spec_of_good mixed Try.func41 F41_ok (by kernel_rfl) ?_
  refine good_run 14 (obs := []) (by kernel_rfl) trivial ?_
  refine good_loopJ (fun k : Nat => ⟨[(1, .sv (.fn f caps)), (0, .sv (permits l)), (6, .sv (permits l)), (7, .sv (.int .i64 l.length)), (8, .sv (.int .i64 k))], []⟩) (fun k => k ≤ l.length ∧ ∀ j, j < k → g (l.getD j default) = false) (fun k => l.length - k) (0) [SVle (SV.fn f caps) (SV.fn f caps), List.length l = List.length l ∧ ∀ (i : Nat), i < List.length l → (fun i => Permit.cells (List.getD l i default)) i = (fun i => Permit.cells (List.getD l i default)) i, List.length l = List.length l ∧ ∀ (i : Nat), i < List.length l → (fun i => Permit.cells (List.getD l i default)) i = (fun i => Permit.cells (List.getD l i default)) i, (↑(List.length l) : Int) = (↑(List.length l) : Int), (0 : Int) = (0 : Int)] (by kernel_rfl) (by kernel_rfl) ⟨SVle.refl _, ⟨rfl, fun _ _ => rfl⟩, ⟨rfl, fun _ _ => rfl⟩, rfl, rfl, trivial⟩ ?_ ?_
  · exact ⟨Nat.zero_le _, by simp⟩
  · intro k hk
    refine good_run 6 (obs := []) (by kernel_rfl) trivial ?_
    refine good_cond (decide ((↑k : Int) < (↑(List.length l) : Int))) (by kernel_rfl) (fun hc1 => ?_) (fun hc1 => ?_)
    · have hlt : k < l.length := by simp at hc1; omega
      refine good_run 16 (obs := [(6 : Nat) = (6 : Nat) ∧ (0 : Int) ≤ (↑k : Int) ∧ (↑k : Int) < (↑(List.length l) : Int), (0 : Nat) + (6 : Nat) ≤ (6 : Nat)]) (by kernel_rfl) (by (first | omega | assumption | exact ⟨rfl, trivial⟩ | simp only [AllP, inK_iff, roomOK_iff, decide_eq_true_eq, Bool.and_eq_true, Bool.or_eq_true, Bool.not_eq_true', decide_eq_false_iff_not, and_true, true_and]; (first | omega | (and_intros <;> intros <;> (try and_intros) <;> first | omega | assumption | exact trivial)))) ?_
      refine good_call (c := True) (by kernel_rfl) (fun _ => SVles.refl _) (fun _ => h (l.getD k default)) (by kernel_rfl) ?_
      refine good_run 2 (obs := []) (by kernel_rfl) trivial ?_
      refine good_cond (g (List.getD l k default)) (by kernel_rfl) (fun hc2 => ?_) (fun hc2 => ?_)
      · refine good_run 9 (obs := []) (by kernel_rfl) trivial ?_
        refine good_leaveJ (by kernel_rfl) ?_
        refine good_run 2 (obs := []) (by kernel_rfl) trivial ?_
        refine good_fin [(↑k : Int) = findI l g] (by kernel_rfl) ⟨?_, trivial⟩
        rw [findI_hit l g k hlt hc2 hk.2]
      · refine good_run 7 (obs := [InK IntKind.i64 ((↑k : Int) + (1 : Int))]) (by kernel_rfl) (by (first | omega | assumption | exact ⟨rfl, trivial⟩ | simp only [AllP, inK_iff, roomOK_iff, decide_eq_true_eq, Bool.and_eq_true, Bool.or_eq_true, Bool.not_eq_true', decide_eq_false_iff_not, and_true, true_and]; (first | omega | (and_intros <;> intros <;> (try and_intros) <;> first | omega | assumption | exact trivial)))) ?_
        refine good_backJ (k + 1) [SVle (SV.fn f caps) (SV.fn f caps), List.length l = List.length l ∧ ∀ (i : Nat), i < List.length l → (fun i => Permit.cells (List.getD l i default)) i = (fun i => Permit.cells (List.getD l i default)) i, List.length l = List.length l ∧ ∀ (i : Nat), i < List.length l → (fun i => Permit.cells (List.getD l i default)) i = (fun i => Permit.cells (List.getD l i default)) i, (↑(List.length l) : Int) = (↑(List.length l) : Int), (↑k : Int) + (1 : Int) = (↑(k + (1 : Nat)) : Int)] (by kernel_rfl) (by kernel_rfl) ⟨SVle.refl _, ⟨rfl, fun _ _ => rfl⟩, ⟨rfl, fun _ _ => rfl⟩, rfl, (by omega), trivial⟩ ?_ ?_
        · refine ⟨by omega, fun j hj => ?_⟩
          rcases Nat.lt_or_ge j k with h | h
          · exact hk.2 j h
          · have : j = k := by omega
            subst this
            exact hc2
        · show _ < _; omega
    · refine good_run 2 (obs := []) (by kernel_rfl) trivial ?_
      refine good_leaveJ (by kernel_rfl) ?_
      refine good_run 7 (obs := []) (by kernel_rfl) trivial ?_
      refine good_fin [(-1 : Int) = findI l g] (by kernel_rfl) ⟨?_, trivial⟩
      have : k = l.length := by simp at hc1; omega
      subst this
      rw [findI_none l g hk.2]
theorem s44 (p : Permit) (reader : Int) (path : List Int) (kind day : Int) : Spec Try.prog 44 [p.sv, .ref [.int .i64 reader] 0, .ref [ints path] 0, .ref [.int .i64 kind] 0, .ref [.int .i64 day] 0] (.bool (coversB p reader path kind day)) := by
  refine spec_of_good mixed Try.func44 F44_ok (by kernel_rfl) ?_
  refine good_run 13 (obs := [(0 : Nat) + (6 : Nat) ≤ (6 : Nat)]) (by kernel_rfl) (by (first | omega | assumption | exact ⟨rfl, trivial⟩ | simp only [AllP, inK_iff, roomOK_iff, decide_eq_true_eq, Bool.and_eq_true, Bool.or_eq_true, Bool.not_eq_true', decide_eq_false_iff_not, and_true, true_and]; (first | omega | (and_intros <;> intros <;> (try and_intros) <;> first | omega | assumption | exact trivial)))) ?_
  refine good_call (c := True) (by kernel_rfl) (fun _ => SVles.refl _) (fun _ => s13 (p) (reader) (path) (kind) (day)) (by kernel_rfl) ?_
  refine good_run 4 (obs := []) (by kernel_rfl) trivial ?_
  refine good_fin [coversB p reader path kind day = coversB p reader path kind day] (by kernel_rfl) ⟨rfl, trivial⟩
theorem s42 (p : Permit) (id : Int) : Spec Try.prog 42 [p.sv, .ref [.int .i64 id] 0] (.bool (decide (p.ID = id))) := by
  refine spec_of_good mixed Try.func42 F42_ok (by kernel_rfl) ?_
  refine good_run 16 (obs := []) (by kernel_rfl) trivial ?_
  refine good_fin [decide (p.ID = id) = decide (p.ID = id)] (by kernel_rfl) ⟨rfl, trivial⟩
theorem findI_cases (l : List Permit) (g : Permit → Bool) : (findI l g = -1 ∧ l.find? g = none) ∨ ∃ k : Nat, k < l.length ∧ findI l g = k ∧ l.find? g = some (l.getD k default) ∧ g (l.getD k default) = true := by
  rcases h : l.findIdx? g with _ | k
  · left
    refine ⟨by rw [findI, h], ?_⟩
    rw [List.findIdx?_eq_none_iff] at h
    rw [List.find?_eq_none]
    intro x hx; simpa using h x hx
  · right
    have h' := h
    rw [List.findIdx?_eq_some_iff_getElem] at h'
    obtain ⟨hk, hg, hn⟩ := h'
    refine ⟨k, hk, by rw [findI, h], ?_⟩
    rw [List.getD_eq_getElem?_getD, List.getElem?_eq_getElem hk]
    refine ⟨?_, hg⟩
    rw [List.find?_eq_some_iff_getElem]
    exact ⟨hg, k, hk, rfl, fun j hj => by simpa using hn j hj⟩
def firstP (l : List Permit) (reader : Int) (path : List Int) (kind day : Int) : Int × Bool :=
  if check l ≠ 0 then (0, false) else match l.find? (fun p => coversB p reader path kind day) with | some p => (p.ID, true) | none => (0, false)
theorem s24 (l : List Permit) (reader : Int) (path : List Int) (kind day : Int) : Spec Try.prog 24 [permits l, .int .i64 reader, ints path, .int .i64 kind, .int .i64 day] (.tup [.int .i64 (firstP l reader path kind day).1, .bool (firstP l reader path kind day).2]) := by
  refine spec_of_good mixed Try.func24 F24_ok (by kernel_rfl) ?_
  have hf := findI_cases l (fun p => coversB p reader path kind day)
  refine good_run 14 (obs := []) (by kernel_rfl) trivial ?_
  refine good_call (c := True) (by kernel_rfl) (fun _ => SVles.refl _) (fun _ => s41 l 44 [.ref [.int .i64 reader] 0, .ref [ints path] 0, .ref [.int .i64 kind] 0, .ref [.int .i64 day] 0] (fun p => coversB p reader path kind day) (fun p => s44 p reader path kind day)) (by kernel_rfl) ?_
  refine good_run 11 (obs := []) (by kernel_rfl) trivial ?_
  refine good_call (c := decide ((findI l fun p => coversB p reader path kind day) < (0 : Int)) = false ∧ True) (by kernel_rfl) (fun _ => SVles.refl _) (fun _ => s16 (l)) (by kernel_rfl) ?_
  refine good_run 5 (obs := []) (by kernel_rfl) trivial ?_
  refine good_cond (decide ((findI l fun p => coversB p reader path kind day) < (0 : Int)) || !decide (check l = (0 : Int))) (by kernel_rfl) (fun hc1 => ?_) (fun hc1 => ?_)
  · have : firstP l reader path kind day = (0, false) := by
      rw [firstP]
      by_cases hc : check l = 0
      · rcases hf with hf | ⟨k, hk, hf, _⟩
        · simp [hf.2]
        · rw [hf] at hc1; simp [hc] at hc1; omega
      · simp [hc]
    refine good_run 8 (obs := []) (by kernel_rfl) trivial ?_
    refine good_fin [(0 : Int) = (firstP l reader path kind day).fst, false = (firstP l reader path kind day).snd] (by kernel_rfl) ⟨?_, ?_, trivial⟩
    · rw [this]
    · rw [this]
  · have hc : check l = 0 := by
      simp only [Bool.or_eq_false_iff, Bool.not_eq_false', decide_eq_true_eq] at hc1
      exact hc1.2
    rcases hf with hf | ⟨k, hk, hf, hf2, hf3⟩
    · rw [hf.1] at hc1; simp at hc1
    · have : firstP l reader path kind day = ((l.getD k default).ID, true) := by
        rw [firstP, hf2]; simp [hc]
      refine good_run 13 (obs := [(6 : Nat) = (6 : Nat) ∧ ((0 : Int) ≤ findI l fun p => coversB p reader path kind day) ∧ (findI l fun p => coversB p reader path kind day) < (↑(List.length l) : Int)]) (by kernel_rfl) (by (first | omega | assumption | exact ⟨rfl, trivial⟩ | simp only [AllP, inK_iff, roomOK_iff, decide_eq_true_eq, Bool.and_eq_true, Bool.or_eq_true, Bool.not_eq_true', decide_eq_false_iff_not, and_true, true_and]; (first | omega | (and_intros <;> intros <;> (try and_intros) <;> first | omega | assumption | exact trivial)))) ?_
      refine good_fin [(List.getD l (Int.toNat (findI l fun p => coversB p reader path kind day)) default).ID = (firstP l reader path kind day).fst, true = (firstP l reader path kind day).snd] (by kernel_rfl) ⟨?_, ?_, trivial⟩
      · rw [this, hf]; rfl
      · rw [this]
def granted (l : List Permit) (p : Permit) : List Permit × Int :=
  if check l ≠ 0 then ([], 1) else if formedB p = false then ([], 2) else if (decide (0 < l.length) && decide (p.ID ≤ (l.getD (l.length - 1) default).ID)) = true then ([], 5)
  else if 64 ≤ l.length then ([], 12) else (l ++ [p], 0)
theorem check_len {l : List Permit} (h : check l = 0) : l.length ≤ 64 := by
  rw [check] at h
  split at h
  · omega
  · omega
theorem app_permit (l : List Permit) (p : Permit) : l.length + 1 = (l ++ [p]).length ∧ ∀ i, i < l.length + 1 → joinGet l.length (fun i => (l.getD i default).cells) (cutRows 6 p.cells) i = ((l ++ [p]).getD i default).cells := by
  refine ⟨by simp, fun i hi => ?_⟩
  unfold joinGet
  split
  · rename_i h
    show (l.getD i default).cells = _
    rw [List.getD_eq_getElem?_getD, List.getD_eq_getElem?_getD, List.getElem?_append_left h]
  · have : i = l.length := by omega
    subst this
    rw [List.getD_eq_getElem?_getD, List.getElem?_append_right (Nat.le_refl _)]
    simp [cutRows, Permit.cells]
theorem s19 (l : List Permit) (p : Permit) : Spec Try.prog 19 [permits l, p.sv] (.tup [permits (granted l p).1, .int .i64 (granted l p).2]) := by
  refine spec_of_good mixed Try.func19 F19_ok (by kernel_rfl) ?_
  refine good_run 12 (obs := []) (by kernel_rfl) trivial ?_
  refine good_call (c := True) (by kernel_rfl) (fun _ => SVles.refl _) (fun _ => s16 (l)) (by kernel_rfl) ?_
  refine good_run 4 (obs := []) (by kernel_rfl) trivial ?_
  refine good_cond (!decide (check l = (0 : Int))) (by kernel_rfl) (fun hc1 => ?_) (fun hc1 => ?_)
  · have : granted l p = ([], 1) := by
      rw [granted]; simp at hc1; simp [hc1]
    rw [this]
    refine good_run 9 (obs := []) (by kernel_rfl) trivial ?_
    refine good_fin [(0 : Nat) = (0 : Nat), (1 : Int) = (1 : Int)] (by kernel_rfl) ⟨rfl, rfl, trivial⟩
  · have hc : check l = 0 := by simpa using hc1
    have hl := check_len hc
    have hl1 : ((l.length : Int) - 1).toNat = l.length - 1 := by omega
    refine good_run 3 (obs := [(0 : Nat) + (6 : Nat) ≤ (6 : Nat)]) (by kernel_rfl) (by (first | omega | assumption | exact ⟨rfl, trivial⟩ | simp only [AllP, inK_iff, roomOK_iff, decide_eq_true_eq, Bool.and_eq_true, Bool.or_eq_true, Bool.not_eq_true', decide_eq_false_iff_not, and_true, true_and]; (first | omega | (and_intros <;> intros <;> (try and_intros) <;> first | omega | assumption | exact trivial)))) ?_
    refine good_call (c := True) (by kernel_rfl) (fun _ => SVles.refl _) (fun _ => s40 (p)) (by kernel_rfl) ?_
    refine good_run 4 (obs := []) (by kernel_rfl) trivial ?_
    refine good_cond (!formedB p) (by kernel_rfl) (fun hc2 => ?_) (fun hc2 => ?_)
    · have : granted l p = ([], 2) := by
        rw [granted]; simp at hc2; simp [hc, hc2]
      rw [this]
      refine good_run 9 (obs := []) (by kernel_rfl) trivial ?_
      refine good_fin [(0 : Nat) = (0 : Nat), (2 : Int) = (2 : Int)] (by kernel_rfl) ⟨rfl, rfl, trivial⟩
    · have hf : formedB p = true := by simpa using hc2
      refine good_run 20 (obs := [decide ((0 : Int) < (↑(List.length l) : Int)) = true ∧ True → InK IntKind.i64 ((↑(List.length l) : Int) - (1 : Int)), decide ((0 : Int) < (↑(List.length l) : Int)) = true ∧ True → (6 : Nat) = (6 : Nat) ∧ (0 : Int) ≤ (↑(List.length l) : Int) - (1 : Int) ∧ (↑(List.length l) : Int) - (1 : Int) < (↑(List.length l) : Int)]) (by kernel_rfl) (by (first | omega | assumption | exact ⟨rfl, trivial⟩ | simp only [AllP, inK_iff, roomOK_iff, decide_eq_true_eq, Bool.and_eq_true, Bool.or_eq_true, Bool.not_eq_true', decide_eq_false_iff_not, and_true, true_and]; (first | omega | (and_intros <;> intros <;> (try and_intros) <;> first | omega | assumption | exact trivial)))) ?_
      refine good_cond (decide ((0 : Int) < (↑(List.length l) : Int)) && decide (p.ID ≤ (List.getD l (Int.toNat ((↑(List.length l) : Int) - (1 : Int))) default).ID)) (by kernel_rfl) (fun hc3 => ?_) (fun hc3 => ?_)
      · rw [hl1] at hc3
        have : granted l p = ([], 5) := by
          rw [granted, hf]; simp only [hc]
          have e : decide ((0 : Int) < (l.length : Int)) = decide (0 < l.length) := decide_eq_decide.2 (by omega)
          rw [e] at hc3
          rw [hc3]; rfl
        rw [this]
        refine good_run 9 (obs := []) (by kernel_rfl) trivial ?_
        refine good_fin [(0 : Nat) = (0 : Nat), (5 : Int) = (5 : Int)] (by kernel_rfl) ⟨rfl, rfl, trivial⟩
      · rw [hl1] at hc3
        have e : decide ((0 : Int) < (l.length : Int)) = decide (0 < l.length) := decide_eq_decide.2 (by omega)
        rw [e] at hc3
        refine good_run 8 (obs := []) (by kernel_rfl) trivial ?_
        refine good_cond (decide ((64 : Int) ≤ (↑(List.length l) : Int))) (by kernel_rfl) (fun hc4 => ?_) (fun hc4 => ?_)
        · have : granted l p = ([], 12) := by
            rw [granted, hf, hc3]; simp [hc]; simp at hc4; omega
          rw [this]
          refine good_run 9 (obs := []) (by kernel_rfl) trivial ?_
          refine good_fin [(0 : Nat) = (0 : Nat), (12 : Int) = (12 : Int)] (by kernel_rfl) ⟨rfl, rfl, trivial⟩
        · have hlt : l.length < 64 := by simp at hc4; omega
          have : granted l p = (l ++ [p], 0) := by
            rw [granted, hf, hc3]; simp [hc]; omega
          rw [this]
          refine good_run 6 (obs := []) (by kernel_rfl) trivial ?_
          refine good_pick [1, 2] (by kernel_rfl) ⟨?_, ?_, trivial⟩
          refine good_own (c := True) (by kernel_rfl) (by kernel_rfl) (SVles.refl _) (s17 (l) (by (first | omega | assumption | exact ⟨rfl, trivial⟩ | simp only [AllP, inK_iff, roomOK_iff, decide_eq_true_eq, Bool.and_eq_true, Bool.or_eq_true, Bool.not_eq_true', decide_eq_false_iff_not, and_true, true_and]; (first | omega | (and_intros <;> intros <;> (try and_intros) <;> first | omega | assumption | exact trivial))))) ?_
          refine good_run 19 (obs := [(0 : Nat) + (6 : Nat) ≤ (6 : Nat), (31 : Nat) = (31 : Nat) ∧ (6 : Nat) = (6 : Nat) ∧ (6 : Nat) = (6 : Nat) ∧ roomOK (List.length l + (1 : Nat)) (48 : Nat)]) (by kernel_rfl) (by (first | omega | assumption | exact ⟨rfl, trivial⟩ | simp only [AllP, inK_iff, roomOK_iff, decide_eq_true_eq, Bool.and_eq_true, Bool.or_eq_true, Bool.not_eq_true', decide_eq_false_iff_not, and_true, true_and]; (first | omega | (and_intros <;> intros <;> (try and_intros) <;> first | omega | assumption | exact trivial)))) ?_
          refine good_fin [List.length l + (1 : Nat) = List.length (l ++ [p], (0 : Int)).fst ∧ ∀ (i : Nat), i < List.length l + (1 : Nat) → joinGet (List.length l) (fun i => Permit.cells (List.getD l i default)) (cutRows (6 : Nat) [SV.int IntKind.i64 p.ID, SV.int IntKind.i64 p.Reader, SV.int IntKind.i64 p.Unit, SV.int IntKind.i64 p.Kinds, SV.int IntKind.i64 p.From, SV.int IntKind.i64 p.Until]) i = (fun i => Permit.cells (List.getD (l ++ [p], (0 : Int)).fst i default)) i, (0 : Int) = (0 : Int)] (by kernel_rfl) ⟨?_, rfl, trivial⟩
          rotate_left 1
          refine good_run 2 (obs := [(0 : Nat) + (6 : Nat) ≤ (6 : Nat)]) (by kernel_rfl) (by (first | omega | assumption | exact ⟨rfl, trivial⟩ | simp only [AllP, inK_iff, roomOK_iff, decide_eq_true_eq, Bool.and_eq_true, Bool.or_eq_true, Bool.not_eq_true', decide_eq_false_iff_not, and_true, true_and]; (first | omega | (and_intros <;> intros <;> (try and_intros) <;> first | omega | assumption | exact trivial)))) ?_
          refine good_pick [1, 3] (by kernel_rfl) ⟨?_, ?_, trivial⟩
          refine good_own (c := True) (by kernel_rfl) (by kernel_rfl) (SVles.refl _) (s17 (l) (by (first | omega | assumption | exact ⟨rfl, trivial⟩ | simp only [AllP, inK_iff, roomOK_iff, decide_eq_true_eq, Bool.and_eq_true, Bool.or_eq_true, Bool.not_eq_true', decide_eq_false_iff_not, and_true, true_and]; (first | omega | (and_intros <;> intros <;> (try and_intros) <;> first | omega | assumption | exact trivial))))) ?_
          refine good_run 16 (obs := [(31 : Nat) = (31 : Nat) ∧ (6 : Nat) = (6 : Nat) ∧ (6 : Nat) = (6 : Nat) ∧ roomOK (List.length l + (1 : Nat)) (48 : Nat)]) (by kernel_rfl) (by (first | omega | assumption | exact ⟨rfl, trivial⟩ | simp only [AllP, inK_iff, roomOK_iff, decide_eq_true_eq, Bool.and_eq_true, Bool.or_eq_true, Bool.not_eq_true', decide_eq_false_iff_not, and_true, true_and]; (first | omega | (and_intros <;> intros <;> (try and_intros) <;> first | omega | assumption | exact trivial)))) ?_
          refine good_fin [List.length l + (1 : Nat) = List.length (l ++ [p], (0 : Int)).fst ∧ ∀ (i : Nat), i < List.length l + (1 : Nat) → joinGet (List.length l) (fun i => Permit.cells (List.getD l i default)) (cutRows (6 : Nat) [SV.int IntKind.i64 p.ID, SV.int IntKind.i64 p.Reader, SV.int IntKind.i64 p.Unit, SV.int IntKind.i64 p.Kinds, SV.int IntKind.i64 p.From, SV.int IntKind.i64 p.Until]) i = (fun i => Permit.cells (List.getD (l ++ [p], (0 : Int)).fst i default)) i, (0 : Int) = (0 : Int)] (by kernel_rfl) ⟨?_, rfl, trivial⟩
          rotate_left 1
          refine good_run 3 (obs := []) (by kernel_rfl) trivial ?_
          refine good_own (c := True) (by kernel_rfl) (by kernel_rfl) (SVles.refl _) (s17 (l) (by (first | omega | assumption | exact ⟨rfl, trivial⟩ | simp only [AllP, inK_iff, roomOK_iff, decide_eq_true_eq, Bool.and_eq_true, Bool.or_eq_true, Bool.not_eq_true', decide_eq_false_iff_not, and_true, true_and]; (first | omega | (and_intros <;> intros <;> (try and_intros) <;> first | omega | assumption | exact trivial))))) ?_
          refine good_run 13 (obs := [(31 : Nat) = (31 : Nat) ∧ (6 : Nat) = (6 : Nat) ∧ (6 : Nat) = (6 : Nat) ∧ roomOK (List.length l + (1 : Nat)) (48 : Nat)]) (by kernel_rfl) (by (first | omega | assumption | exact ⟨rfl, trivial⟩ | simp only [AllP, inK_iff, roomOK_iff, decide_eq_true_eq, Bool.and_eq_true, Bool.or_eq_true, Bool.not_eq_true', decide_eq_false_iff_not, and_true, true_and]; (first | omega | (and_intros <;> intros <;> (try and_intros) <;> first | omega | assumption | exact trivial)))) ?_
          refine good_fin [List.length l + (1 : Nat) = List.length (l ++ [p], (0 : Int)).fst ∧ ∀ (i : Nat), i < List.length l + (1 : Nat) → joinGet (List.length l) (fun i => Permit.cells (List.getD l i default)) (cutRows (6 : Nat) [SV.int IntKind.i64 p.ID, SV.int IntKind.i64 p.Reader, SV.int IntKind.i64 p.Unit, SV.int IntKind.i64 p.Kinds, SV.int IntKind.i64 p.From, SV.int IntKind.i64 p.Until]) i = (fun i => Permit.cells (List.getD (l ++ [p], (0 : Int)).fst i default)) i, (0 : Int) = (0 : Int)] (by kernel_rfl) ⟨?_, rfl, trivial⟩
          rotate_left 1
          all_goals exact app_permit l p
end Go.Sx.T
