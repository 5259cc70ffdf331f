/- Contracts of functions of the program, each proved by running its code symbolically (RN). -/
import Derived.Test.YtdiikneggikfkaaRK
import Derived.Test.YtdiikneggikfkaaRFY
import Derived.Test.YtdiikneggikfkaaRCY
import Derived.Test.YtdiikneggikfkaaSxSort1
import Derived.StillTailTactics
namespace Go.Sx.T
open Go Go.Proofs Go.Sx Go.Shelf Go.RowKit Go.Lib Go.Sort
set_option maxRecDepth 100000
set_option linter.unusedVariables false
set_option linter.unusedSimpArgs false
set_option maxHeartbeats 1000000 in
theorem or39a (a b : Int) (W : World) (g : Nat) (ha : W.cell? ⟨g, 0, none⟩ = some (.int .i64 a)) (hb : W.cell? ⟨g, 1, none⟩ = some (.int .i64 b)) (h0 : a ≠ 0) :
    Calls Try.prog 39 #[.slice (some ⟨g, 0, none⟩) 2 2] W fun e w' => e = .returned (.int .i64 a) ∧ w' = W := by
  have hne : (a != 0) = true := by simp [h0]
  go_enter Try.func39, Try.ntmps39
  go_wp2
  refine wp_loop_rounds 1 ?_
  rw [rounds_succ]
  go_wp2
  go_ret
  exact ⟨rfl, rfl⟩
set_option maxHeartbeats 1000000 in
theorem or39b (b : Int) (W : World) (g : Nat) (ha : W.cell? ⟨g, 0, none⟩ = some (.int .i64 0)) (hb : W.cell? ⟨g, 1, none⟩ = some (.int .i64 b)) (h0 : b ≠ 0) :
    Calls Try.prog 39 #[.slice (some ⟨g, 0, none⟩) 2 2] W fun e w' => e = .returned (.int .i64 b) ∧ w' = W := by
  have hne : (b != 0) = true := by simp [h0]
  go_enter Try.func39, Try.ntmps39
  go_wp2
  refine wp_loop_rounds 2 ?_
  rw [rounds_succ]
  go_wp2
  rw [rounds_succ]
  go_wp2
  go_ret
  exact ⟨rfl, rfl⟩
set_option maxHeartbeats 1000000 in
theorem or39c (W : World) (g : Nat) (ha : W.cell? ⟨g, 0, none⟩ = some (.int .i64 0)) (hb : W.cell? ⟨g, 1, none⟩ = some (.int .i64 0)) :
    Calls Try.prog 39 #[.slice (some ⟨g, 0, none⟩) 2 2] W fun e w' => e = .returned (.int .i64 0) ∧ w' = W := by
  go_enter Try.func39, Try.ntmps39
  go_wp2
  refine wp_loop_rounds 3 ?_
  rw [rounds_succ]
  go_wp2
  rw [rounds_succ]
  go_wp2
  rw [rounds_succ]
  go_wp2
  go_ret
  exact ⟨rfl, rfl⟩
theorem or39 (a b : Int) (W : World) (g : Nat) (ha : W.cell? ⟨g, 0, none⟩ = some (.int .i64 a)) (hb : W.cell? ⟨g, 1, none⟩ = some (.int .i64 b)) :
    Calls Try.prog 39 #[.slice (some ⟨g, 0, none⟩) 2 2] W fun e w' => e = .returned (.int .i64 (if a ≠ 0 then a else b)) ∧ w' = W := by
  by_cases h : a ≠ 0
  · rw [if_pos h]; exact or39a a b W g ha hb h
  · rw [if_neg h]
    have h1 : a = 0 := Classical.not_not.1 h
    subst h1
    by_cases h2 : b ≠ 0
    · exact or39b b W g ha hb h2
    · have h3 : b = 0 := Classical.not_not.1 h2
      subst h3
      exact or39c W g ha hb
def orI (a b : Int) : Int := if a ≠ 0 then a else b
set_option maxHeartbeats 2000000 in
theorem closure38 (W : World) (bl ol bb bo n c x y : Nat) (fx fy ix iy : Int) (hx : x < n) (hy : y < n) (h0 : W.cell? ⟨bl, ol, none⟩ = some (.slice (some ⟨bb, bo, none⟩) n c))
    (h1 : W.cell? ⟨bb, bo + x * 4 + 2, none⟩ = some (.int .i64 fx)) (h2 : W.cell? ⟨bb, bo + y * 4 + 2, none⟩ = some (.int .i64 fy)) (h3 : W.cell? ⟨bb, bo + x * 4, none⟩ = some (.int .i64 ix)) (h4 : W.cell? ⟨bb, bo + y * 4, none⟩ = some (.int .i64 iy)) :
    Calls Try.prog 38 #[.int .i64 (x : Int), .int .i64 (y : Int), .pointer (some ⟨bl, ol, none⟩)] W fun e w' => e = .returned (.int .i64 (orI (Lib.compareInt fx fy) (Lib.compareInt ix iy))) ∧ ∃ q os', w' = grow (W.drewN q) os' := by
  have hcon := fun a b W' => AnyG.cmp_Compare_int laysC5 a b W'
  change ∀ a b W', Calls Try.prog 40 _ _ _ at hcon
  generalize hr1 : Lib.compareInt fx fy = r1
  generalize hr2 : Lib.compareInt ix iy = r2
  have hcon1 : ∀ W', Calls Try.prog 40 #[.int .i64 fx, .int .i64 fy] W' fun e w' => e = .returned (.int .i64 r1) ∧ w' = W' := fun W' => hr1 ▸ hcon fx fy W'
  have hcon2 : ∀ W', Calls Try.prog 40 #[.int .i64 ix, .int .i64 iy] W' fun e w' => e = .returned (.int .i64 r2) ∧ w' = W' := fun W' => hr2 ▸ hcon ix iy W'
  clear hcon
  go_enter Try.func38, Try.ntmps38
  go_wp2
  refine wp_region_still_tail 24 mixed (by kernel_rfl) ?_
  simp only [List.take_succ_cons, List.take_zero, List.drop_succ_cons, List.drop_zero]
  iterate 12 still_step
  still_call (hcon1 _)
  iterate 10 still_step
  still_call (hcon2 _)
  refine wpStill_nil ?_
  go_wp2_with (go_at_call 39; refine (or39 r1 r2 _ _ (by simp [go_sem]) (by simp [go_sem])).mono ?_; rintro e w' ⟨rfl, rfl⟩)
  · go_ret
    exact ⟨by simp [orI], 1, #[_], by rw [alloc_eq_grow]; rfl⟩
  · go_ret
    exact ⟨by rw [orI, if_pos h]; rfl, 1, #[_], by rw [alloc_eq_grow]; rfl⟩
theorem compare_neg (a b : Int) : Lib.compareInt a b < 0 ↔ a < b := by
  unfold Lib.compareInt
  split
  · omega
  · split <;> omega
theorem compare_zero (a b : Int) : Lib.compareInt a b = 0 ↔ a = b := by
  unfold Lib.compareInt
  split
  · omega
  · split <;> omega
/-- The comparison of two bookings by their numbers in the list. -/
def cfB (l : List Bk) (i j : _root_.Fin l.length) : Int := orI (Lib.compareInt (bk l i.val).F (bk l j.val).F) (Lib.compareInt (bk l i.val).ID (bk l j.val).ID)
theorem cfB_neg (l : List Bk) (i j : _root_.Fin l.length) : cfB l i j < 0 ↔ keyLt l i.val j.val := by
  unfold cfB orI keyLt
  by_cases h : Lib.compareInt (bk l i.val).F (bk l j.val).F = 0
  · rw [if_neg (by simp [h]), compare_neg]
    rw [compare_zero] at h
    omega
  · rw [if_pos h, compare_neg]
    rw [compare_zero] at h
    omega
instance (l : List Bk) (i j : Nat) : Decidable (keyLt l i j) := by unfold keyLt; infer_instance
theorem lt_cfB (l : List Bk) (i j : _root_.Fin l.length) : ltOf (cfB l) i j = decide (keyLt l i.val j.val) := by
  unfold ltOf
  exact decide_eq_decide.2 (cfB_neg l i j)
theorem swo_cfB (l : List Bk) : SWO (ltOf (cfB l)) := by
  refine ⟨fun x => ?_, fun x y z h1 h2 => ?_, fun x y z h1 h2 => ?_⟩
  · rw [lt_cfB, decide_eq_false_iff_not]; unfold keyLt; omega
  · rw [lt_cfB, decide_eq_true_eq] at *; unfold keyLt at *; omega
  · rw [lt_cfB, decide_eq_false_iff_not] at *; unfold keyLt at *; omega
theorem cell_sortF {n : Nat} [Inhabited (_root_.Fin n)] (w : World) (blk m : Nat) (dk : Array (_root_.Fin n)) (os : Array Obj) (b o : Nat) (v : Value) (hb : b < w.heap.size) (hne : b ≠ blk) (h : w.cell? ⟨b, o, none⟩ = some v) :
    (sortWorld (encF n) w blk 0 m dk os).cell? ⟨b, o, none⟩ = some v := by
  rw [sortWorld, putRow_fin]
  have hg := grownBy_sortedI (w := w) (g := blk) (n := m) (os := os) (dk.map fun x => (x.val : Int))
  rw [World.cell?_of_block (hg.block b hb (fun e => hne (by injection e)))]
  exact h
theorem finRange_val (n : Nat) : (List.finRange n).map _root_.Fin.val = List.range n := by
  apply List.ext_getElem (by simp)
  intro i h1 h2
  simp
theorem s37 (l : List Bk) (hl : l.length ≤ 100000) (hp : l.Pairwise fun a b => a.ID < b.ID) : SpecSort Try.prog 37 [] 3 1 l.length (fun i => [.int .i64 (i : Int)]) [.fn 38 [.ref [bks l] 0]] (fun i => [.int .i64 ((ordL l).getD i 0 : Nat)]) := by
  refine sort1_spec laysF6 (hasBody_of_slim Try.func37 F37_ok) 38 [.ref [bks l] 0] (enters_of Try.func38 (by kernel_rfl) rfl) l.length (by omega) (cfB l) (swo_cfB l) (fun w M cb blk hM hden => ?_) 3 (ordL l) (ordL_len l) (fun d hd hs => ?_)
  · intro m os dk hdk x y
    obtain ⟨v, hcb, hv⟩ : ∃ v, cb = #[v] ∧ Den w M (.ref [bks l] 0) v := by
      generalize hx : (SV.fn 38 [.ref [bks l] 0]) = z at hden
      cases hden with
      | fn f cs vs hlw hw =>
        cases hx
        have h1 : cb.size = 1 := hlw.symm
        refine ⟨cb[0], ?_, hw 0 _ _ rfl (Array.getElem?_eq_getElem (by omega))⟩
        refine Array.ext (by simp [h1]) fun i h2 h3 => ?_
        have : i = 0 := by omega
        subst this
        rfl
      | _ => cases hx
    subst hcb
    have hx0 : 0 < l.length := by have := x.isLt; omega
    generalize hz : (SV.ref [bks l] 0) = z at hv
    cases hv with
    | ref cs off b o val hMb hb h1 hc h =>
      cases hz
      have hc0 := hc 0 (bks l) rfl
      have hd0 := h 0 (bks l) rfl
      generalize hq : val 0 = q at hc0 hd0
      unfold bks at hd0
      cases hd0 with
      | lst _ _ _ A c bb bo val2 hcc hm hA hMB hbb hz2 h12 hcell hh =>
        rw [hA hx0] at hc0
        have hnb : b ≠ blk := fun e => hMb (e ▸ hM)
        have hnbb : bb ≠ blk := fun e => hMB hx0 (e ▸ hM)
        have hcellW : ∀ (i j : Nat) (k : Int), i < l.length → (Bk.cells (l.getD i default))[j]? = some (.int .i64 k) → (sortWorld (encF l.length) w blk 0 m dk os).cell? ⟨bb, bo + (i * 4 + j), none⟩ = some (.int .i64 k) := fun i j k hi hj => by
          refine cell_sortF _ _ _ _ _ _ _ _ (hbb hx0) hnbb ?_
          rw [hcell i j _ hi hj]
          have := hh i j _ hi hj
          generalize val2 i j = u at this
          cases this; rfl
        have hbox := cell_sortF w blk m dk os b (o + 0) _ hb hnb hc0
        exact closure38 (sortWorld (encF l.length) w blk 0 m dk os) b (o + 0) bb bo l.length c x.val y.val _ _ _ _ x.isLt y.isLt hbox (hcellW x.val 2 _ x.isLt rfl) (hcellW y.val 2 _ y.isLt rfl) (hcellW x.val 0 _ x.isLt rfl) (hcellW y.val 0 _ y.isLt rfl)
    | _ => cases hz
  · refine List.Perm.eq_of_pairwise (le := fun i j => leB l i j = true) (fun i j hi hj h1 h2 => ?_) ?_ (ordL_sorted l) ?_
    · obtain ⟨i', _, rfl⟩ := List.mem_map.1 hi
      have hj' : j < l.length := by simpa using (ordL_perm l).mem_iff.1 hj
      rw [leB_iff] at h1 h2
      have he : (bk l i'.val).ID = (bk l j).ID := by omega
      rcases Nat.lt_trichotomy i'.val j with h | h | h
      · have := List.pairwise_iff_getElem.1 hp i'.val j i'.isLt hj' h
        unfold bk at he
        rw [getD_of_lt l _ i'.isLt, getD_of_lt l _ hj'] at he
        omega
      · exact h
      · have := List.pairwise_iff_getElem.1 hp j i'.val hj' i'.isLt h
        unfold bk at he
        rw [getD_of_lt l _ i'.isLt, getD_of_lt l _ hj'] at he
        omega
    · rw [List.pairwise_map, List.pairwise_iff_getElem]
      intro i j hi hj hij
      have := hs i j hij hj
      rw [cfB_neg] at this
      rw [leB_iff]
      unfold keyLt at this
      omega
    · refine List.Perm.trans ?_ (ordL_perm l).symm
      have := hd.map _root_.Fin.val
      rwa [finRange_val] at this
end Go.Sx.T
