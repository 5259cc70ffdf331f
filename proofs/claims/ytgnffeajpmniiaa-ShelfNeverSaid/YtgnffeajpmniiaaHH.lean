/- Contracts of functions of the program, each proved by running its code symbolically (HH). -/
import Derived.Test.YtgnffeajpmniiaaHG
namespace Go.Sx.T
open Go Go.Proofs Go.Sx Go.RowKit Go.Shelf
set_option maxRecDepth 100000
set_option maxHeartbeats 4000000
set_option linter.unusedVariables false
set_option linter.unusedSimpArgs false
attribute [local go_sem] Oper.semAt_some
theorem ints_cells {w : World} {M : Nat → Prop} {ids : List Int} {A : Option Addr} {c : Nat} (h : Den w M (ints ids) (.slice A ids.length c)) (h0 : 0 < ids.length) :
    ∃ b o, A = some ⟨b, o, none⟩ ∧ b < w.heap.size ∧ ∀ k, k < ids.length → w.cell? ⟨b, o + k, none⟩ = some (.int .i64 (ids.getD k 0)) := by
  unfold ints at h
  cases h with
  | lst sz n get A c b o val hc hm hA hM hb hz h1 hcell h =>
    refine ⟨b, o, hA h0, hb h0, fun k hk => ?_⟩
    have := hcell k 0 _ hk rfl
    rw [den_int (h k 0 _ hk rfl)] at this
    simpa using this
theorem grown_none {w w' : World} (h : Below w.heap.size w w') : w.grownBy w' none := ⟨h.os, h.tape, h.output, h.size, fun k hk _ => h.block k hk⟩
theorem it70_in (l : List Shf) (b : List Box) (s : List Std) (hr : Asc b Box.ID) (hl : b.length ≤ 100000) (hw : wOK b) (ids : List Int) (hn : ids.length ≤ 100000)
    (w0 : World) (M : Nat → Prop) (hM : ∀ b, M b → b < w0.heap.size) (A0 A1 A2 : Option Addr) (c0 c1 c2 : Nat)
    (hst : Den w0 M (store l b s) (.agg #[.slice A0 l.length c0, .slice A1 b.length c1, .slice A2 s.length c2]))
    (x : Int) (A : Option Addr) (c : Nat) (hids : Den w0 M (ints ids) (.slice A ids.length c)) (n : Nat) (hn1 : 1 ≤ n)
    (lp Bst Bsd : Nat) (J Jx : List (Int × Int) → World → Prop) (W : World) (hJ : AbidesFrom W.heap.size J) (hJx : AbidesFrom W.heap.size Jx)
    (hY : ∀ pre x W1, J pre W1 → pre.length < ids.length + 1 → YieldAt Fence.wide (n - 1) Try.prog lp #[.int .i64 x.1, .int .i64 x.2] W1 fun e W' =>
      (e = .returned (.bool true) ∧ J (pre ++ [x]) W' ∧ KpB w0.heap.size Bst W1 W') ∨ (e = .returned (.bool false) ∧ Jx (pre ++ [x]) W'))
    (hW : Below w0.heap.size w0 W) (hBst : Bst < W.heap.size)
    (hs0 : W.cell? ⟨Bst, 0, none⟩ = some (.slice A0 l.length c0)) (hs1 : W.cell? ⟨Bst, 1, none⟩ = some (.slice A1 b.length c1)) (hs2 : W.cell? ⟨Bst, 2, none⟩ = some (.slice A2 s.length c2))
    (hd0 : W.cell? ⟨Bsd, 0, none⟩ = some (.int .i64 x)) (hd1 : W.cell? ⟨Bsd, 1, none⟩ = some (.slice A ids.length c)) (h0 : J [] W) :
    CallsIn Fence.wide n Try.prog 70 #[.func (.yield lp) #[] #[], .pointer (some ⟨Bsd, 0, none⟩), .pointer (some ⟨Bst, 0, none⟩)] W fun e W' => (∃ v, e = .returned v) ∧
      ((∃ ys, ys = upto (offF b ids) (ids.length + 1) ∧ J ys W') ∨ (∃ pre, (∃ k, k ≤ ids.length + 1 ∧ pre = upto (offF b ids) k) ∧ Jx pre W')) := by
  refine callsIn_of_wp Try.func70 rfl trivial ?_ rfl
  simp only [Try.ntmps70, List.size_toArray, List.length_cons, List.length_nil, Nat.reduceAdd, Nat.reduceSub, Array.replicate_succ, Array.replicate_zero, List.push_toArray, List.append_toArray, List.nil_append, List.cons_append]
  gi_wp2
  gi_loopw [4, 12] (fun vn vi wr => ∃ k : Nat, k ≤ ids.length ∧ vi = .int .i64 k ∧ vn = .int .i64 (widthI b (ids.take k)) ∧ J (upto (offF b ids) k) wr ∧ Below w0.heap.size w0 wr ∧ W.heap.size ≤ wr.heap.size ∧
      wr.cell? ⟨Bst, 0, none⟩ = some (.slice A0 l.length c0) ∧ wr.cell? ⟨Bst, 1, none⟩ = some (.slice A1 b.length c1) ∧ wr.cell? ⟨Bst, 2, none⟩ = some (.slice A2 s.length c2))
    (fun _ i _ => ids.length - (intOf i).toNat)
  case atStart => exact ⟨0, Nat.zero_le _, rfl, by simp [widthI], h0, hW, Nat.le_refl _, hs0, hs1, hs2⟩
  case round =>
    obtain ⟨k, hk, rfl, rfl, hJs, hnx, hsz, g0, g1, g2⟩ := hrel
    by_cases hlt : k < ids.length
    · obtain ⟨bb, o, rfl, hbb, hcells⟩ := ints_cells hids (by omega)
      have hcx := (hnx.cell (p := ⟨bb, o + k, none⟩) hbb).trans (hcells k hlt)
      have htk := widthI_take hw ids k hlt
      obtain ⟨fn, tmps, assign, body, hy, hR⟩ := hY _ (offF b ids k) wr hJs (by rw [upto_length]; omega)
      dsimp only [offF] at hy
      generalize hu : ids.getD k 0 = u at hcx htk hy
      generalize hm : widthI b (ids.take k) = m at htk hy ⊢
      gi_wp2
      refine hR.mono ?_
      rintro e W3 (⟨rfl, hJ3, hk3⟩ | ⟨rfl, hJx3⟩)
      · have k0 := hk3.2 _ _ g0
        have k1 := hk3.2 _ _ g1
        have k2 := hk3.2 _ _ g2
        have hn3 := hnx.trans hk3.1
        have hst3 := hst.kept hn3
        have hM3 : ∀ b, M b → b < W3.heap.size := fun b hb => Nat.lt_of_lt_of_le (hM b hb) hn3.size
        have hf52 : Fence.wide.fn 52 := trivial
        have hc52 := c52 l b s u hr hl W3 M hM3 _ hst3
        gi_wp2_with (gi_at_call 52; refine (callsIn_wide.2 hc52).mono ?_; rintro e w' ⟨i0, i2, i3, A5, n5, c5, bb5, rfl, hb5⟩)
        go_roundw
        case rel =>
          generalize hob : Obj.cells _ 51 = ob
          have hB : Below W3.heap.size W3 (w'.alloc ob) := hb5.alloc hb5.size ob
          have hs3 := hk3.1.size
          have hs4 := hB.size
          refine ⟨k + 1, by omega, by simp, by rw [htk.1], ?_, hn3.trans (hB.mono hn3.size), by omega, (hB.cell (p := ⟨Bst, 0, none⟩) (by show Bst < _; omega)).trans k0, (hB.cell (p := ⟨Bst, 1, none⟩) (by show Bst < _; omega)).trans k1, (hB.cell (p := ⟨Bst, 2, none⟩) (by show Bst < _; omega)).trans k2⟩
          rw [upto_succ]
          exact hJ _ _ _ none hJ3 (grown_none hB) (fun r e => by cases e)
        case measure =>
          have e1 : (intOf (Value.int IntKind.i64 ((k : Int) + 1))).toNat = k + 1 := by show ((k : Int) + 1).toNat = k + 1; omega
          have e2 : (intOf (Value.int IntKind.i64 (k : Int))).toNat = k := by show ((k : Int)).toNat = k; omega
          rw [e1, e2]; omega
      · gi_wp2
        refine bodyPost_ret (results_none rfl _ _ _) rfl ?_
        exact ⟨⟨_, rfl⟩, .inr ⟨_, ⟨k + 1, by omega, (upto_succ _ _).symm⟩, hJx3⟩⟩
    · obtain rfl : k = ids.length := by omega
      obtain ⟨fn, tmps, assign, body, hy, hR⟩ := hY _ ((0 : Int), widthI b ids) wr hJs (by rw [upto_length]; omega)
      dsimp only at hy
      have hlast : upto (offF b ids) ids.length ++ [((0 : Int), widthI b ids)] = upto (offF b ids) (ids.length + 1) := by
        rw [upto_succ]; simp [offF]
      rw [hlast] at hR
      gi_wp2
      refine hR.mono ?_
      rintro e W3 (⟨rfl, hJ3, hk3⟩ | ⟨rfl, hJx3⟩)
      · gi_wp2
        go_end0
        exact ⟨⟨_, rfl⟩, .inl ⟨_, rfl, hJ3⟩⟩
      · gi_wp2
        go_end0
        exact ⟨⟨_, rfl⟩, .inr ⟨_, ⟨_, Nat.le_refl _, rfl⟩, hJx3⟩⟩
end Go.Sx.T
