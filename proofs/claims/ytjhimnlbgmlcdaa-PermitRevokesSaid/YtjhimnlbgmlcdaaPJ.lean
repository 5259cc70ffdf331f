/- Contracts of functions of the program, each proved by running its code symbolically (PJ). -/
import Derived.Test.YtjhimnlbgmlcdaaPI
namespace Go.Sx.T
open Go Go.Proofs Go.Sx
set_option maxRecDepth 100000
set_option maxHeartbeats 4000000
set_option linter.unusedVariables false
set_option linter.unusedSimpArgs false
theorem findI_split (l : List Permit) (g : Permit → Bool) : (findI l g = -1 ∧ l.filter (fun p => !g p) = l) ∨ ∃ k : Nat, k < l.length ∧ findI l g = k ∧ (l.take (k + 1)).filter (fun p => !g p) = l.take k := by
  rcases h : l.findIdx? g with _ | k
  · left
    refine ⟨by rw [findI, h], ?_⟩
    rw [List.findIdx?_eq_none_iff] at h
    rw [List.filter_eq_self]
    intro p hp; simpa using h p hp
  · right
    have h' := h
    rw [List.findIdx?_eq_some_iff_getElem] at h'
    obtain ⟨hk, hg, hn⟩ := h'
    refine ⟨k, hk, by rw [findI, h], ?_⟩
    rw [List.take_succ_eq_append_getElem hk, List.filter_append]
    have : (l.take k).filter (fun p => !g p) = l.take k := by
      rw [List.filter_eq_self]
      intro p hp
      obtain ⟨i, hi, rfl⟩ := List.mem_iff_getElem.1 hp
      have hik : i < k := by simp at hi; omega
      have := hn i hik
      simpa using this
    rw [this]
    simp [hg]
theorem take_set_snoc {α : Type} (cur : List α) (i : Nat) (v : α) (h : i < cur.length) : (cur.set i v).take (i + 1) = cur.take i ++ [v] := by
  rw [List.take_succ_eq_append_getElem (by simpa using h), List.take_set_of_le (Nat.le_refl _)]
  simp
theorem s26 (l : List Permit) (f : FuncId) (caps : List SV) (g : Permit → Bool) (h : ∀ p : Permit, Spec Try.prog f (p.sv :: caps) (.bool (g p))) (hl : l.length ≤ 100000) :
    SpecTake Try.prog 26 [] 31 6 l.length (fun i => (l.getD i default).cells) [.fn f caps] (l.filter fun p => !g p).length fun i => ((l.filter fun p => !g p).getD i default).cells := by
  refine specTake_of_good mixed Try.func26 F26_ok (by kernel_rfl) ?_
  have hf := findI_split l g
  refine good_run 9 (obs := []) (by kernel_rfl) trivial ?_
  refine good_call (c := True) (by kernel_rfl) (fun _ => SVles.refl _) (fun _ => s41 l f caps g h) (by kernel_rfl) ?_
  refine good_run 10 (obs := []) (by kernel_rfl) trivial ?_
  refine good_cond (decide (findI l g = (-1 : Int))) (by kernel_rfl) (fun hc1 => ?_) (fun hc1 => ?_)
  · simp only [decide_eq_true_eq] at hc1
    rcases hf with hf | ⟨k, hk, hf, _⟩
    · refine good_run 8 (obs := []) (by kernel_rfl) trivial ?_
      refine good_finTake [List.length l = List.length (List.filter (fun p => !g p) l) ∧ ∀ (j : Nat), j < List.length (List.filter (fun p => !g p) l) → (fun i => Permit.cells (List.getD l i default)) j = (fun i => Permit.cells (List.getD (List.filter (fun p => !g p) l) i default)) j] (by kernel_rfl) ⟨?_, trivial⟩
      rw [hf.2]
      exact ⟨rfl, fun _ _ => rfl⟩
    · omega
  · simp only [decide_eq_false_iff_not] at hc1
    rcases hf with hf | ⟨k0, hk0, hf, hf2⟩
    · exact (hc1 hf.1).elim
    rw [hf]
    refine good_run 10 (obs := [InK IntKind.i64 ((↑k0 : Int) + (1 : Int))]) (by kernel_rfl) (by (first | omega | assumption | simp only [AllP, inK_iff, roomOK_iff, decide_eq_true_eq, Bool.and_eq_true, Bool.or_eq_true, Bool.not_eq_true', decide_eq_false_iff_not, and_true, true_and]; omega)) ?_
    refine good_loopJ (fun q : Nat × List Permit × Nat => ⟨[(0, .own 0), (1, .sv (.fn f caps)), (5, .sv (.int .i64 q.2.2)), (6, .sv (.int .i64 q.1))], [.row 31 6 q.2.1.length true fun i => (q.2.1.getD i default).cells]⟩) (fun q => q.1 ≤ l.length ∧ q.2.2 < q.1 ∧ q.2.1.length = l.length ∧ q.2.1.take q.2.2 = (l.take q.1).filter (fun p => !g p) ∧ q.2.1.drop q.1 = l.drop q.1) (fun q => l.length - q.1) ((k0 + 1, l, k0)) [List.length l = List.length (k0 + (1 : Nat), l, k0).snd.fst ∧ ∀ (i : Nat), i < List.length l → (fun i => Permit.cells (List.getD l i default)) i = (fun i => Permit.cells (List.getD (k0 + (1 : Nat), l, k0).snd.fst i default)) i, SVle (SV.fn f caps) (SV.fn f caps), (↑k0 : Int) = (↑k0 : Int), (↑k0 : Int) + (1 : Int) = (↑(k0 + (1 : Nat)) : Int)] (by kernel_rfl) (by kernel_rfl) ⟨⟨rfl, fun _ _ => rfl⟩, SVle.refl _, rfl, (by omega), trivial⟩ ?_ ?_
    · exact ⟨hk0, Nat.lt_succ_self _, rfl, hf2.symm, rfl⟩
    · rintro ⟨j, cur, i⟩ ⟨hj, hij, hcl, htk, hdr⟩
      simp only [] at hj hij hcl htk hdr
      refine good_run 9 (obs := []) (by kernel_rfl) trivial ?_
      refine good_cond (decide ((↑j : Int) < (↑(List.length (j, cur, i).snd.fst) : Int))) (by kernel_rfl) (fun hc2 => ?_) (fun hc2 => ?_)
      · have hlt : j < l.length := by simp only [decide_eq_true_eq] at hc2; omega
        have hcj : cur.getD j default = l.getD j default := by
          have := congrArg (fun q => List.getD q 0 default) hdr
          simpa [getD_drop] using this
        have hnext : cur.drop (j + 1) = l.drop (j + 1) := by
          rw [← List.drop_drop, hdr, List.drop_drop]
        refine good_run 17 (obs := [(6 : Nat) = (6 : Nat) ∧ (0 : Int) ≤ (↑j : Int) ∧ (↑j : Int) < (↑(List.length (j, cur, i).snd.fst) : Int), (0 : Nat) + (6 : Nat) ≤ (6 : Nat), (6 : Nat) = (6 : Nat) ∧ (0 : Nat) + (6 : Nat) ≤ (6 : Nat), (0 : Nat) + (6 : Nat) ≤ (6 : Nat)]) (by kernel_rfl) (by (first | omega | assumption | simp only [AllP, inK_iff, roomOK_iff, decide_eq_true_eq, Bool.and_eq_true, Bool.or_eq_true, Bool.not_eq_true', decide_eq_false_iff_not, and_true, true_and]; omega)) ?_
        refine good_call (c := True) (by kernel_rfl) (fun _ => SVles.refl _) (fun _ => h (cur.getD j default)) (by kernel_rfl) ?_
        refine good_run 3 (obs := []) (by kernel_rfl) trivial ?_
        refine good_cond (!g (List.getD cur j default)) (by kernel_rfl) (fun hc3 => ?_) (fun hc3 => ?_)
        · simp only [Bool.not_eq_true'] at hc3
          rw [hcj] at hc3
          refine good_run 22 (obs := [(0 : Nat) + (6 : Nat) ≤ (6 : Nat), (6 : Nat) = (6 : Nat) ∧ (0 : Int) ≤ (↑i : Int) ∧ (↑i : Int) < (↑(List.length (j, cur, i).snd.fst) : Int), (6 : Nat) = (6 : Nat) ∧ (0 : Nat) + (6 : Nat) ≤ (6 : Nat), InK IntKind.i64 ((↑i : Int) + (1 : Int)), InK IntKind.i64 ((↑j : Int) + (1 : Int))]) (by kernel_rfl) (by (first | omega | assumption | simp only [AllP, inK_iff, roomOK_iff, decide_eq_true_eq, Bool.and_eq_true, Bool.or_eq_true, Bool.not_eq_true', decide_eq_false_iff_not, and_true, true_and]; omega)) ?_
          refine good_backJ ((j + 1, cur.set i (cur.getD j default), i + 1)) [List.length (j, cur, i).snd.fst = List.length (j + (1 : Nat), List.set cur i (List.getD cur j default), i + (1 : Nat)).snd.fst ∧ ∀ (i_1 : Nat), i_1 < List.length (j, cur, i).snd.fst → (fun j_1 => if j_1 = i then lay ((fun i_2 => Permit.cells (List.getD (j, cur, i).snd.fst i_2 default)) i) (0 : Nat) [SV.int IntKind.i64 (List.getD (j, cur, i).snd.fst j default).ID, SV.int IntKind.i64 (List.getD (j, cur, i).snd.fst j default).Reader, SV.int IntKind.i64 (List.getD (j, cur, i).snd.fst j default).Unit, SV.int IntKind.i64 (List.getD (j, cur, i).snd.fst j default).Kinds, SV.int IntKind.i64 (List.getD (j, cur, i).snd.fst j default).From, SV.int IntKind.i64 (List.getD (j, cur, i).snd.fst j default).Until] else (fun i_2 => Permit.cells (List.getD (j, cur, i).snd.fst i_2 default)) j_1) i_1 = (fun i_2 => Permit.cells (List.getD (j + (1 : Nat), List.set cur i (List.getD cur j default), i + (1 : Nat)).snd.fst i_2 default)) i_1, SVle (SV.fn f caps) (SV.fn f caps), (↑i : Int) + (1 : Int) = (↑(i + (1 : Nat)) : Int), (↑j : Int) + (1 : Int) = (↑(j + (1 : Nat)) : Int)] (by kernel_rfl) (by kernel_rfl) ⟨?_, SVle.refl _, (by omega), (by omega), trivial⟩ ?_ ?_
          · refine ⟨by simp, fun k hk => ?_⟩
            show (if k = i then lay (cur.getD i default).cells 0 (cur.getD j default).cells else (cur.getD k default).cells) = ((cur.set i (cur.getD j default)).getD k default).cells
            rw [getD_set _ _ _ _ (by omega)]
            split <;> rfl
          · refine ⟨hlt, Nat.succ_lt_succ hij, by simpa using hcl, ?_, ?_⟩
            · show (cur.set i (cur.getD j default)).take (i + 1) = _
              rw [take_set_snoc _ _ _ (by omega), htk, List.take_succ_eq_append_getElem hlt, List.filter_append, hcj, ← getD_of_lt (d := default) l j hlt]
              simp only [List.filter_cons, List.filter_nil, hc3, Bool.not_false, if_true]
            · show (cur.set i (cur.getD j default)).drop (j + 1) = _
              rw [List.drop_set_of_lt (by omega)]
              exact hnext
          · show _ < _; omega
        · simp only [Bool.not_eq_false'] at hc3
          rw [hcj] at hc3
          refine good_run 8 (obs := [InK IntKind.i64 ((↑j : Int) + (1 : Int))]) (by kernel_rfl) (by (first | omega | assumption | simp only [AllP, inK_iff, roomOK_iff, decide_eq_true_eq, Bool.and_eq_true, Bool.or_eq_true, Bool.not_eq_true', decide_eq_false_iff_not, and_true, true_and]; omega)) ?_
          refine good_backJ ((j + 1, cur, i)) [List.length (j, cur, i).snd.fst = List.length (j + (1 : Nat), cur, i).snd.fst ∧ ∀ (i_1 : Nat), i_1 < List.length (j, cur, i).snd.fst → (fun i_2 => Permit.cells (List.getD (j, cur, i).snd.fst i_2 default)) i_1 = (fun i_2 => Permit.cells (List.getD (j + (1 : Nat), cur, i).snd.fst i_2 default)) i_1, SVle (SV.fn f caps) (SV.fn f caps), (↑i : Int) = (↑i : Int), (↑j : Int) + (1 : Int) = (↑(j + (1 : Nat)) : Int)] (by kernel_rfl) (by kernel_rfl) ⟨⟨rfl, fun _ _ => rfl⟩, SVle.refl _, rfl, (by omega), trivial⟩ ?_ ?_
          · refine ⟨hlt, Nat.lt_succ_of_lt hij, hcl, ?_, hnext⟩
            show cur.take i = _
            rw [htk, List.take_succ_eq_append_getElem hlt, List.filter_append, ← getD_of_lt (d := default) l j hlt]
            simp only [List.filter_cons, List.filter_nil, hc3, Bool.not_true, Bool.false_eq_true, if_false, List.append_nil]
          · show _ < _; omega
      · have hj' : j = l.length := by simp only [decide_eq_false_iff_not] at hc2; omega
        subst hj'
        rw [List.take_length] at htk
        have hlen : (l.filter fun p => !g p).length = i := by rw [← htk]; simp; omega
        refine good_run 2 (obs := []) (by kernel_rfl) trivial ?_
        refine good_leaveJ (by kernel_rfl) ?_
        refine good_run 18 (obs := [(6 : Nat) = (6 : Nat) ∧ (0 : Int) ≤ (↑i : Int) ∧ (↑i : Int) ≤ (↑(List.length (List.length l, cur, i).snd.fst - (0 : Nat)) : Int) ∧ (0 : Nat) + (List.length (List.length l, cur, i).snd.fst - (0 : Nat)) ≤ List.length (List.length l, cur, i).snd.fst, (6 : Nat) = (6 : Nat), (6 : Nat) = (6 : Nat) ∧ (0 : Int) ≤ (0 : Int) ∧ (0 : Int) ≤ (↑i : Int) ∧ (0 : Nat) + i ≤ List.length (List.length l, cur, i).snd.fst]) (by kernel_rfl) (by (first | omega | assumption | simp only [AllP, inK_iff, roomOK_iff, decide_eq_true_eq, Bool.and_eq_true, Bool.or_eq_true, Bool.not_eq_true', decide_eq_false_iff_not, and_true, true_and]; omega)) ?_
        refine good_finTake [(0 : Nat) + i = List.length (List.filter (fun p => !g p) l) ∧ List.length (List.filter (fun p => !g p) l) ≤ List.length (List.length l, cur, i).snd.fst ∧ ∀ (j : Nat), j < List.length (List.filter (fun p => !g p) l) → spliceGet ((0 : Nat) + i) ((0 : Nat) + (List.length (List.length l, cur, i).snd.fst - (0 : Nat)) - ((0 : Nat) + i)) (fun x => List.map SV.val [Value.int IntKind.i64 (Int.ofNat (0 : Nat)), Value.int IntKind.i64 (Int.ofNat (0 : Nat)), Value.int IntKind.i64 (Int.ofNat (0 : Nat)), Value.int IntKind.i64 (Int.ofNat (0 : Nat)), Value.int IntKind.i64 (Int.ofNat (0 : Nat)), Value.int IntKind.i64 (Int.ofNat (0 : Nat))]) (fun i_1 => Permit.cells (List.getD (List.length l, cur, i).snd.fst i_1 default)) j = (fun i => Permit.cells (List.getD (List.filter (fun p => !g p) l) i default)) j] (by kernel_rfl) ⟨?_, trivial⟩
        rw [hlen]
        refine ⟨by omega, by show i ≤ cur.length; omega, fun k hk => ?_⟩
        have e : ((l.filter fun p => !g p).getD k default) = cur.getD k default := by rw [← htk, getD_take _ _ _ hk]
        show _ = ((l.filter fun p => !g p).getD k default).cells
        rw [e]
        unfold spliceGet
        rw [if_neg (by omega)]
end Go.Sx.T
