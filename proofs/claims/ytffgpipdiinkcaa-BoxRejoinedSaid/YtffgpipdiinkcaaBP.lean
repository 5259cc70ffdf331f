/- Contracts of functions of the program, each proved by running its code symbolically (BP). -/
import Derived.Test.YtffgpipdiinkcaaBO
namespace Go.Sx.T
open Go Go.Proofs Go.Sx
set_option maxRecDepth 100000
set_option maxHeartbeats 4000000
set_option linter.unusedVariables false
set_option linter.unusedSimpArgs false
def mkB (w c : Int) (i : Nat) : Box := ⟨(i : Int) + 1, w, w, c, []⟩
def fullL (w c : Int) : List Box := (List.range 128).map (mkB w c)
def rawB (w c : Int) (i : Nat) : List SV := [.int .i64 ((i : Int) + 1), .int .i64 w, .int .i64 w, .int .i64 c, .val (.slice none 0 0)]
theorem fullL_length (w c : Int) : (fullL w c).length = 128 := by simp [fullL]
theorem fullL_getD (w c : Int) (i : Nat) (h : i < 128) : (fullL w c).getD i default = mkB w c i := by
  unfold fullL
  rw [getD_map (d := 0) _ _ _ (by simpa using h), getD_of_lt _ i (by simpa using h)]
  simp
theorem full_le (w c : Int) : SVles [.lst 5 128 (rawB w c)] [boxes (fullL w c)] := by
  refine ⟨svle_lst (fullL_length w c).symm fun i hi => ?_, trivial⟩
  rw [fullL_getD w c i hi]
  exact ⟨SVle.refl _, SVle.refl _, SVle.refl _, SVle.refl _, svle_nil rfl, trivial⟩
theorem full_mem (w c : Int) : ∀ b ∈ fullL w c, b.Contents.length ≤ 100000 := by
  intro b hb
  obtain ⟨i, _, rfl⟩ := List.mem_map.1 hb
  exact Nat.zero_le _
theorem full_split (w c at' : Int) : (splitB (fullL w c) 1 at' 129).1 = [] := by
  unfold splitB
  split
  · rfl
  · split
    · rfl
    · simp only
      split
      · rfl
      · split
        · rfl
        · rw [if_pos (by rw [fullL_length]; exact Nat.le_refl _)]
theorem full_more (w c : Int) : check (fullL w c ++ [mkB w c 128]) = 8 := by
  rw [check, if_pos]
  rw [List.length_append, fullL_length]; exact Nat.lt_succ_self _
def cellB (w c : Int) (i : Nat) : List SV := ((fullL w c).getD i default).cells
theorem boxes_full (w c : Int) : boxes (fullL w c) = .lst 5 128 (cellB w c) := by
  unfold boxes; rw [fullL_length]; rfl
def fullE (w c at' : Int) : Int := (splitB (fullL w c) 1 at' 129).2
def fullK (w c : Int) : Int := check (fullL w c)
theorem s13b (w c : Int) : SpecOwn Try.prog 13 [.lst 5 128 (rawB w c)] 27 5 128 (cellB w c) := by
  have := s13 (fullL w c) (by rw [fullL_length]; decide) (full_mem w c)
  rw [boxes_full, fullL_length] at this
  have hle := full_le w c
  rw [boxes_full] at hle
  exact ⟨this.1, fun w' M vs hM hl hd => this.2 w' M vs hM hl (fun i s v hs hv => by
    match i, hs with
    | 0, hs => cases hs; exact hle.1 _ _ _ (hd 0 _ v rfl hv))⟩
theorem s13c (w c : Int) : SpecOwn Try.prog 13 [.lst 5 128 (cellB w c)] 27 5 128 (cellB w c) := by
  have := s13 (fullL w c) (by rw [fullL_length]; decide) (full_mem w c)
  rwa [boxes_full, fullL_length] at this
theorem s19a (w c at' : Int) : Spec Try.prog 19 [.lst 5 128 (cellB w c), .int .i64 1, .int .i64 at', .int .i64 129] (.tup [boxes [], .int .i64 (fullE w c at')]) := by
  have := s19 (fullL w c) 1 at' 129 (full_mem w c)
  rwa [boxes_full, full_split] at this
theorem s20a (w c at' : Int) : Spec Try.prog 20 [.lst 5 128 (rawB w c), .int .i64 1, .int .i64 at', .int .i64 129] (.tup [boxes [], .int .i64 (fullE w c at')]) := by
  have := s20 (fullL w c) 1 at' 129 (full_mem w c)
  rw [boxes_full, full_split] at this
  have hle := full_le w c
  rw [boxes_full] at hle
  exact ⟨this.1, fun w' M vs hM hl hd => this.2 w' M vs hM hl (fun i s v hs hv => by
    match i, hs with
    | 0, hs => cases hs; exact hle.1 _ _ _ (hd 0 _ v rfl hv)
    | 1, hs => cases hs; exact hd 1 _ v rfl hv
    | 2, hs => cases hs; exact hd 2 _ v rfl hv
    | 3, hs => cases hs; exact hd 3 _ v rfl hv)⟩
theorem s17a (w c : Int) : Spec Try.prog 17 [.lst 5 128 (cellB w c)] (.int .i64 (fullK w c)) := by
  have := s17 (fullL w c)
  rwa [boxes_full] at this
theorem s18a (w c : Int) : Spec Try.prog 18 [.lst 5 128 (rawB w c)] (.int .i64 (fullK w c)) := by
  have := s18 (fullL w c)
  rw [boxes_full] at this
  have hle := full_le w c
  rw [boxes_full] at hle
  exact ⟨this.1, fun w' M vs hM hl hd => this.2 w' M vs hM hl (fun i s v hs hv => by
    match i, hs with
    | 0, hs => cases hs; exact hle.1 _ _ _ (hd 0 _ v rfl hv))⟩
theorem s17b (w c : Int) : Spec Try.prog 17 [.lst 5 129 (joinGet 128 (cellB w c) (cutRows 5 [.int .i64 129, .int .i64 w, .int .i64 w, .int .i64 c, .val (.slice none 0 0)]))] (.int .i64 8) := by
  have := s17 (fullL w c ++ [mkB w c 128])
  rw [full_more] at this
  have hle : SVle (.lst 5 129 (joinGet 128 (cellB w c) (cutRows 5 [.int .i64 129, .int .i64 w, .int .i64 w, .int .i64 c, .val (.slice none 0 0)]))) (boxes (fullL w c ++ [mkB w c 128])) := by
    refine svle_lst (by rw [List.length_append, fullL_length]; rfl) fun i hi => ?_
    unfold joinGet
    split
    · rename_i h
      rw [getD_append_left _ _ _ (by rw [fullL_length]; exact h)]
      exact SVles.refl _
    · have : i = 128 := by omega
      subst this
      rw [getD_append_right _ _ _ (by rw [fullL_length]; exact Nat.le_refl _), fullL_length]
      exact ⟨SVle.refl _, SVle.refl _, SVle.refl _, SVle.refl _, svle_nil rfl, trivial⟩
  exact ⟨this.1, fun w' M vs hM hl hd => this.2 w' M vs hM hl (fun i s v hs hv => by
    match i, hs with
    | 0, hs => cases hs; exact hle _ _ _ (hd 0 _ v rfl hv))⟩
theorem s4 (w c at' : Int) : Spec Try.prog 4 [.int .i64 w, .int .i64 c, .int .i64 at'] (.bool true) := by
  refine spec_of_good mixed Try.func4 F4_ok (by kernel_rfl) ?_
  refine good_run 8 (obs := []) (by kernel_rfl) trivial ?_
  refine good_call (c := True) (by kernel_rfl) (fun _ => SVles.refl _) (fun _ => s10) (by kernel_rfl) ?_
  refine good_run 3 (obs := []) (by kernel_rfl) trivial ?_
  refine good_cond false (by kernel_rfl) (fun h => nomatch h) (fun _ => ?_)
  refine good_run 13 (obs := []) (by kernel_rfl) trivial ?_
  refine good_loopJ (fun k : Nat => ⟨[(16, .sv (.int .i64 (k))), (7, .own 0), (0, LV.sv (SV.int IntKind.i64 w)), (1, LV.sv (SV.int IntKind.i64 c)), (2, LV.sv (SV.int IntKind.i64 at'))], [.row 27 5 k true (rawB w c)]⟩) (fun k => k ≤ 128) (fun k => 128 - k) (0) [(0 : Nat) = (0 : Nat), (0 : Int) = (0 : Int), w = w, c = c, at' = at'] (by kernel_rfl) (by kernel_rfl) ⟨rfl, rfl, rfl, rfl, rfl, trivial⟩ (by omega) ?_
  intro k hk
  refine good_run 6 (obs := []) (by kernel_rfl) trivial ?_
  refine good_cond (decide ((↑k : Int) < (128 : Int))) (by kernel_rfl) (fun hc1 => ?_) (fun hc1 => ?_)
  · have hlt : k < 128 := by simp only [decide_eq_true_eq] at hc1; omega
    refine good_run 28 (obs := [InK IntKind.i64 ((↑k : Int) + (1 : Int)), (27 : Nat) = (27 : Nat) ∧ (5 : Nat) = (5 : Nat) ∧ (5 : Nat) = (5 : Nat) ∧ roomOK (k + (1 : Nat)) (56 : Nat), InK IntKind.i64 ((↑k : Int) + (1 : Int))]) (by kernel_rfl) (by (first | omega | assumption | exact ⟨rfl, trivial⟩ | simp only [AllP, inK_iff, roomOK_iff, decide_eq_true_eq, Bool.and_eq_true, Bool.or_eq_true, Bool.not_eq_true', decide_eq_false_iff_not, and_true, true_and]; (first | omega | (and_intros <;> intros <;> (try and_intros) <;> first | omega | assumption | exact trivial)))) ?_
    refine good_backJ (k + 1) [k + (1 : Nat) = k + (1 : Nat) ∧ ∀ (i : Nat), i < k + (1 : Nat) → joinGet k (rawB w c) (cutRows (5 : Nat) [SV.int IntKind.i64 ((↑k : Int) + (1 : Int)), SV.int IntKind.i64 w, SV.int IntKind.i64 w, SV.int IntKind.i64 c, SV.val (Value.slice none (0 : Nat) (0 : Nat))]) i = rawB w c i, (↑k : Int) + (1 : Int) = (↑(k + (1 : Nat)) : Int), w = w, c = c, at' = at'] (by kernel_rfl) (by kernel_rfl) ⟨?_, (by omega), rfl, rfl, rfl, trivial⟩ (by omega) (by show _ < _; omega)
    refine ⟨rfl, fun i hi => ?_⟩
    unfold joinGet
    split
    · rfl
    · have : i = k := by omega
      subst this
      rw [Nat.sub_self]; rfl
  · have : k = 128 := by simp only [decide_eq_false_iff_not] at hc1; omega
    subst this
    refine good_fade ⟨[(7, LV.own (0 : Nat)), (0, LV.sv (SV.int IntKind.i64 w)), (1, LV.sv (SV.int IntKind.i64 c)), (2, LV.sv (SV.int IntKind.i64 at'))], [Blk.row (27 : Nat) (5 : Nat) (128 : Nat) false (rawB w c)]⟩ [(128 : Nat) = (128 : Nat) ∧ ∀ (i : Nat), i < (128 : Nat) → rawB w c i = rawB w c i, w = w, c = c, at' = at'] (by kernel_rfl) (by kernel_rfl) ⟨⟨rfl, fun _ _ => rfl⟩, rfl, rfl, rfl, trivial⟩ ?_
    refine good_run 2 (obs := []) (by kernel_rfl) trivial ?_
    refine good_leaveJ (by kernel_rfl) ?_
    refine good_run 4 (obs := []) (by kernel_rfl) trivial ?_
    refine good_own (c := True) (by kernel_rfl) (by kernel_rfl) (SVles.refl _) (s13b (w) (c)) ?_
    refine good_run 1 (obs := []) (by kernel_rfl) trivial ?_
    refine good_call (c := True) (by kernel_rfl) (fun _ => SVles.refl _) (fun _ => s19a (w) (c) (at')) (by kernel_rfl) ?_
    refine good_run 11 (obs := []) (by kernel_rfl) trivial ?_
    refine good_call (c := True) (by kernel_rfl) (fun _ => SVles.refl _) (fun _ => s20a (w) (c) (at')) (by kernel_rfl) ?_
    refine good_run 10 (obs := []) (by kernel_rfl) trivial ?_
    refine good_own (c := True) (by kernel_rfl) (by kernel_rfl) (SVles.refl _) (s13b (w) (c)) ?_
    refine good_run 27 (obs := [(27 : Nat) = (27 : Nat) ∧ (5 : Nat) = (5 : Nat) ∧ (5 : Nat) = (5 : Nat) ∧ roomOK (129 : Nat) (56 : Nat)]) (by kernel_rfl) (by (first | omega | assumption | exact ⟨rfl, trivial⟩ | simp only [AllP, inK_iff, roomOK_iff, decide_eq_true_eq, Bool.and_eq_true, Bool.or_eq_true, Bool.not_eq_true', decide_eq_false_iff_not, and_true, true_and]; (first | omega | (and_intros <;> intros <;> (try and_intros) <;> first | omega | assumption | exact trivial)))) ?_
    refine good_call (c := (decide ((0 : Int) = (0 : Int)) && decide ((0 : Int) = (0 : Int)) && decide (fullE w c at' = fullE w c at')) = true ∧ True) (by kernel_rfl) (fun _ => SVles.refl _) (fun _ => SpecOwn.spec (s13b (w) (c))) (by kernel_rfl) ?_
    refine good_run 2 (obs := []) (by kernel_rfl) trivial ?_
    refine good_call (c := (decide ((0 : Int) = (0 : Int)) && decide ((0 : Int) = (0 : Int)) && decide (fullE w c at' = fullE w c at')) = true ∧ True) (by kernel_rfl) (fun _ => SVles.refl _) (fun _ => s17a (w) (c)) (by kernel_rfl) ?_
    refine good_run 3 (obs := []) (by kernel_rfl) trivial ?_
    refine good_call (c := (decide ((0 : Int) = (0 : Int)) && decide ((0 : Int) = (0 : Int)) && decide (fullE w c at' = fullE w c at')) = true ∧ True) (by kernel_rfl) (fun _ => SVles.refl _) (fun _ => s18a (w) (c)) (by kernel_rfl) ?_
    refine good_run 6 (obs := []) (by kernel_rfl) trivial ?_
    refine good_call (c := (decide ((0 : Int) = (0 : Int)) && decide ((0 : Int) = (0 : Int)) && decide (fullE w c at' = fullE w c at') && decide (fullK w c = fullK w c)) = true ∧ True) (by kernel_rfl) (fun _ => SVles.refl _) (fun _ => s17b (w) (c)) (by kernel_rfl) ?_
    refine good_run 7 (obs := []) (by kernel_rfl) trivial ?_
    refine good_fin [(decide ((0 : Int) = (0 : Int)) && decide ((0 : Int) = (0 : Int)) && decide (fullE w c at' = fullE w c at') && decide (fullK w c = fullK w c) && decide ((8 : Int) = (8 : Int))) = true] (by kernel_rfl) ⟨?_, trivial⟩
    simp
end Go.Sx.T
