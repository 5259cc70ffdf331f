/- Contracts of functions of the program, each proved by running its code symbolically (HI). -/
import Derived.Test.YtgnffeajpmniiaaHH
import Derived.RangeFuncBox
namespace Go.Sx.T
open Go Go.Proofs Go.Sx Go.RowKit Go.Shelf
set_option maxRecDepth 100000
set_option maxHeartbeats 4000000
set_option linter.unusedVariables false
set_option linter.unusedSimpArgs false
attribute [local go_sem] Oper.semAt_some
theorem stops70 (l : List Shf) (b : List Box) (s : List Std) (hr : Asc b Box.ID) (hl : b.length ≤ 100000) (hw : wOK b) (ids : List Int) (hn : ids.length ≤ 100000)
    (w0 : World) (M : Nat → Prop) (hM : ∀ b, M b → b < w0.heap.size) (A0 A1 A2 : Option Addr) (c0 c1 c2 : Nat)
    (hst : Den w0 M (store l b s) (.agg #[.slice A0 l.length c0, .slice A1 b.length c1, .slice A2 s.length c2]))
    (x : Int) (A : Option Addr) (c : Nat) (hids : Den w0 M (ints ids) (.slice A ids.length c)) (n : Nat) (hn1 : 1 ≤ n) (Bst Bsd : Nat) (w : World) (h0 : Below w0.heap.size w0 w) (hBst : Bst < w.heap.size) (hBsd : Bsd < w.heap.size)
    (hs0 : w.cell? ⟨Bst, 0, none⟩ = some (.slice A0 l.length c0)) (hs1 : w.cell? ⟨Bst, 1, none⟩ = some (.slice A1 b.length c1)) (hs2 : w.cell? ⟨Bst, 2, none⟩ = some (.slice A2 s.length c2))
    (hd0 : w.cell? ⟨Bsd, 0, none⟩ = some (.int .i64 x)) (hd1 : w.cell? ⟨Bsd, 1, none⟩ = some (.slice A ids.length c)) :
    SeqStopsK Fence.wide n Try.prog 70 #[.pointer (some ⟨Bsd, 0, none⟩), .pointer (some ⟨Bst, 0, none⟩)] (fun p : Int × Int => #[Value.int .i64 p.1, Value.int .i64 p.2]) (KpB w0.heap.size Bst)
      (fun ys => ys = upto (offF b ids) (ids.length + 1)) (fun pre => ∃ k, k ≤ ids.length + 1 ∧ pre = upto (offF b ids) k) (ids.length + 1) w := fun lp J Jx W hW hJ hJx hY hJ0 => by
  have hsz := hW.size
  exact it70_in l b s hr hl hw ids hn w0 M hM A0 A1 A2 c0 c1 c2 hst x A c hids n hn1 lp Bst Bsd J Jx W hJ hJx hY (h0.trans (hW.mono h0.size)) (by omega)
    ((hW.cell (p := ⟨Bst, 0, none⟩) hBst).trans hs0) ((hW.cell (p := ⟨Bst, 1, none⟩) hBst).trans hs1) ((hW.cell (p := ⟨Bst, 2, none⟩) hBst).trans hs2)
    ((hW.cell (p := ⟨Bsd, 0, none⟩) hBsd).trans hd0) ((hW.cell (p := ⟨Bsd, 1, none⟩) hBsd).trans hd1) hJ0
theorem c50 (A0 A1 A2 A : Option Addr) (n0 c0 n1 c1 n2 c2 n3 c : Nat) (x : Int) (n : Nat) (w : World) :
    CallsIn Fence.wide n Try.prog 50 #[.agg #[.slice A0 n0 c0, .slice A1 n1 c1, .slice A2 n2 c2], .agg #[.int .i64 x, .slice A n3 c]] w fun e w' =>
      e = .returned (.func (.func 70) #[] #[.pointer (some ⟨w.heap.size + 1, 0, none⟩), .pointer (some ⟨w.heap.size, 0, none⟩)]) ∧
      w' = (w.alloc (.cells #[.slice A0 n0 c0, .slice A1 n1 c1, .slice A2 n2 c2] 73)).alloc (.cells #[.int .i64 x, .slice A n3 c] 47) := by
  refine callsIn_of_wp Try.func50 rfl trivial ?_ rfl
  simp only [Try.ntmps50, List.size_toArray, List.length_cons, List.length_nil, Nat.reduceAdd, Nat.reduceSub, Array.replicate_succ, Array.replicate_zero, List.push_toArray, List.append_toArray, List.nil_append, List.cons_append]
  gi_wp2
  go_ret
  exact ⟨rfl, rfl⟩
theorem cellA {W : World} {a : Addr} {v : Value} (o : Obj) (h : W.cell? a = some v) : (W.alloc o).cell? a = some v := cell_kept h (World.grownBy_alloc W o none) (fun r e => by cases e)
theorem frozA {W : World} {a : Addr} {v : Value} (o : Obj) (h : W.cell? a = some v) (hf : W.frozen? a = false) : (W.alloc o).frozen? a = false := (frozen_kept h (World.grownBy_alloc W o none) (fun r e => by cases e)).trans hf
def lastAt (pre : List (Int × Int)) : Int := (pre.getLast?.map (·.2)).getD 0
theorem lastAt_snoc (pre : List (Int × Int)) (x : Int × Int) : lastAt (pre ++ [x]) = x.2 := by simp [lastAt]
theorem c69 (l : List Shf) (b : List Box) (s : List Std) (hr : Asc b Box.ID) (hl : b.length ≤ 100000) (hw : wOK b) (ids : List Int) (hn : ids.length ≤ 100000)
    (w : World) (M : Nat → Prop) (hM : ∀ b, M b → b < w.heap.size) (A0 A1 A2 : Option Addr) (c0 c1 c2 : Nat)
    (hst : Den w M (store l b s) (.agg #[.slice A0 l.length c0, .slice A1 b.length c1, .slice A2 s.length c2]))
    (x : Int) (A : Option Addr) (c : Nat) (hids : Den w M (ints ids) (.slice A ids.length c)) (n : Nat) (hn1 : 3 ≤ n) :
    CallsIn Fence.wide n Try.prog 69 #[.agg #[.slice A0 l.length c0, .slice A1 b.length c1, .slice A2 s.length c2], .agg #[.int .i64 x, .slice A ids.length c]] w fun e w' => e = .returned (.int .i64 (widthI b ids)) ∧ Below w.heap.size w w' := by
  have h1 : 1 ≤ n := by omega
  have hst70 := stops70 l b s hr hl hw ids hn w M hM A0 A1 A2 c0 c1 c2 hst x A c hids
  have hc50 := c50 A0 A1 A2 A l.length c0 b.length c1 s.length c2 ids.length c x
  have hF : ∀ f, Fence.wide.fn f := fun _ => trivial
  have hro : Fence.wide.round = none := rfl
  generalize Fence.wide = F at *
  refine callsIn_of_wp_marks Try.func69 rfl (hF 69) ?_ hro
  simp only [Try.ntmps69, List.size_toArray, List.length_cons, List.length_nil, Nat.reduceAdd, Nat.reduceSub, Array.replicate_succ, Array.replicate_zero, List.push_toArray, List.append_toArray, List.nil_append, List.cons_append]
  have hf50 := hF 50
  gi_wp2_with (gi_at_call 50; refine (hc50 (n - 1) _).mono ?_; rintro e w' ⟨rfl, rfl⟩)
  obtain ⟨w1, hw1⟩ : ∃ w1, (w.alloc (.cells #[.slice A0 l.length c0, .slice A1 b.length c1, .slice A2 s.length c2] 73)).alloc (.cells #[.int .i64 x, .slice A ids.length c] 47) = w1 := ⟨_, rfl⟩
  have hz1 : w1.heap.size = w.heap.size + 1 + 1 := by rw [← hw1]; simp
  have hB1 : Below w.heap.size w w1 := by rw [← hw1]; exact ((Below.refl _ w).alloc (Nat.le_refl _) _).alloc (by simp) _
  rw [hw1]
  have hs0 := Boxed.new w1 3 (.int .i64 0)
  have hs : (w1.alloc (.cells #[.int .i64 0] 3)).cell? ⟨w1.heap.size, 0, none⟩ = some (.int .i64 0) ∧ (w1.alloc (.cells #[.int .i64 0] 3)).frozen? ⟨w1.heap.size, 0, none⟩ = false := ⟨hs0.cell, hs0.frozen⟩
  obtain ⟨w2, hw2⟩ : ∃ w2, w1.alloc (.cells #[.int .i64 0] 3) = w2 := ⟨_, rfl⟩
  have hz2 : w2.heap.size = w1.heap.size + 1 := by rw [← hw2]; simp
  have hB2 : Below w.heap.size w w2 := by rw [← hw2]; exact hB1.alloc hB1.size _
  rw [hw2] at hs ⊢
  obtain ⟨w3, hw3⟩ : ∃ w3, (w2.alloc (.cells #[.slice A0 l.length c0, .slice A1 b.length c1, .slice A2 s.length c2] 73)).alloc (.cells #[.int .i64 x, .slice A ids.length c] 47) = w3 := ⟨_, rfl⟩
  have hz3 : w3.heap.size = w2.heap.size + 1 + 1 := by rw [← hw3]; simp
  have hB3 : Below w.heap.size w w3 := by rw [← hw3]; exact (hB2.alloc hB2.size _).alloc (by simp; omega) _
  have q0 : w3.cell? ⟨w2.heap.size, 0, none⟩ = some (.slice A0 l.length c0) := by rw [← hw3]; simp [go_sem]
  have q1 : w3.cell? ⟨w2.heap.size, 1, none⟩ = some (.slice A1 b.length c1) := by rw [← hw3]; simp [go_sem]
  have q2 : w3.cell? ⟨w2.heap.size, 2, none⟩ = some (.slice A2 s.length c2) := by rw [← hw3]; simp [go_sem]
  have r0 : w3.cell? ⟨w2.heap.size + 1, 0, none⟩ = some (.int .i64 x) := by rw [← hw3]; simp [go_sem]
  have r1 : w3.cell? ⟨w2.heap.size + 1, 1, none⟩ = some (.slice A ids.length c) := by rw [← hw3]; simp [go_sem]
  have hc3 : w3.cell? ⟨w1.heap.size, 0, none⟩ = some (.int .i64 0) ∧ w3.frozen? ⟨w1.heap.size, 0, none⟩ = false := by
    rw [← hw3]
    exact ⟨cellA _ (cellA _ hs.1), frozA _ (cellA _ hs.1) (frozA _ hs.1 hs.2)⟩
  rw [hw3]
  have E1 : w.heap.size + 1 + 1 = w1.heap.size := hz1.symm
  have E2 : w1.heap.size + 1 = w2.heap.size := hz2.symm
  simp only [E1, E2]
  have h12 : w1.heap.size < w2.heap.size := by omega
  have hge : w.heap.size ≤ w1.heap.size := by omega
  have hge3 : w.heap.size ≤ w3.heap.size := by omega
  clear hw1 hw2 hw3
  refine wpIn_rangeFunc_ownF hro h1 (gf := 70) (lb := #[.pointer (some ⟨w2.heap.size + 1, 0, none⟩), .pointer (some ⟨w2.heap.size, 0, none⟩)]) rfl (hF 70) (enters_of Try.func70 (by kernel_rfl) rfl)
    (hst70 (n - 1) (by omega) w2.heap.size (w2.heap.size + 1) w3 hB3 (by omega) (by omega) q0 q1 q2 r0 r1)
    (fun h k => kpB_t h k) (kpB_b (by omega)) (Below.refl _ _) (fun _ => rfl)
    (fun pre W => (W.cell? ⟨w1.heap.size, 0, none⟩ = some (.int .i64 (lastAt pre)) ∧ W.frozen? ⟨w1.heap.size, 0, none⟩ = false) ∧ Below w.heap.size w W)
    (fun _ _ _ => False)
    (OwnFrom.and (Own.from (fun s A B row hs hg hr => ⟨cell_kept hs.1 hg hr, (frozen_kept hs.1 hg hr).trans hs.2⟩) _) (ownFrom_below (Nat.le_refl _) (by omega)))
    (fun _ _ _ _ _ hs _ _ => hs)
    ⟨hc3, hB3⟩
    (fun p => { tmps := #[.agg #[.slice A0 l.length c0, .slice A1 b.length c1, .slice A2 s.length c2], .agg #[.int .i64 x, .slice A ids.length c], .pointer (some ⟨w.heap.size, 0, none⟩), .pointer (some ⟨w.heap.size + 1, 0, none⟩), .int .i64 0, .pointer (some ⟨w1.heap.size, 0, none⟩), undef, .int .i64 p.2,
      .agg #[.slice A0 l.length c0, .slice A1 b.length c1, .slice A2 s.length c2], .agg #[.int .i64 x, .slice A ids.length c], .func (.func 70) #[] #[.pointer (some ⟨w2.heap.size + 1, 0, none⟩), .pointer (some ⟨w2.heap.size, 0, none⟩)], .int .i64 p.1, .int .i64 p.2, undef, undef], defers := [] }) ?assign ?body ?done ?stop
  case assign =>
    clear E1 E2 hz1 hz2 hz3 q0 q1 q2 r0 r1 hs hs0 hc3 hst hids hst70 hc50
    intro lp p W K hK
    gi_wp2
    exact hK
  case body =>
    clear E1 E2 hz1 hz2 hz3 q0 q1 q2 r0 r1 hs hs0 hc3 hst hids hst70 hc50
    rintro lp pre p W ⟨⟨hc, hf⟩, hB⟩ _
    gi_wp2
    refine ⟨KeepsOthers.setCell _ _ _, ⟨(Below.refl w.heap.size W).setCell (p := ⟨w1.heap.size, 0, none⟩) (by show _ ≤ w1.heap.size; omega) _, fun o v hv => ?_⟩, ⟨by rw [lastAt_snoc]; exact World.cell?_setCell_same' _ _ _ (by rw [hc]; rfl), by rw [World.frozen?_setCell]; exact hf⟩, hB.setCell (p := ⟨w1.heap.size, 0, none⟩) (by show _ ≤ w1.heap.size; omega) _⟩
    rw [World.cell?_of_block (w := W) (Below.heap_setCell W _ _ _ (by show w2.heap.size ≠ w1.heap.size; omega))]
    exact hv
  case done =>
    clear E1 E2 hz1 hz2 hz3 q0 q1 q2 r0 r1 hs hs0 hc3 hst hids hst70 hc50
    rintro D ys W hD rfl ⟨⟨hc, _⟩, hB⟩ hK
    gi_wp2
    refine ⟨by simp, .inl ⟨_, _, rfl, run_takeDeferred hK, ?_⟩⟩
    refine ⟨_, results_tmp rfl _ _ _, ?_, hB.trans (belowK_b (w := w) (Nat.le_refl _) W D _ _ (by omega) hK rfl rfl)⟩
    rw [upto_succ, lastAt_snoc]
    simp [offF]
  case stop =>
    rintro D c pre W _ _ h _
    exact h.elim
theorem s69 (l : List Shf) (b : List Box) (s : List Std) (x : Std) (hr : Asc b Box.ID) (hl : b.length ≤ 100000) (hw : wOK b) (hn : x.Boxes.length ≤ 100000) :
    Spec Try.prog 69 [store l b s, x.sv] (.int .i64 (widthI b x.Boxes)) := by
  refine ⟨hasBody_of_slim Try.func69 F69_ok, fun w M vs hM hlen hden => ?_⟩
  obtain ⟨v, u, rfl⟩ := list_len2 vs hlen
  have h0 := hden 0 _ _ rfl rfl
  have h1 := hden 1 _ _ rfl rfl
  obtain ⟨A0, c0, A1, c1, A2, c2, rfl, _, _, _⟩ := den_store h0
  obtain ⟨y, z, rfl, h2, h3⟩ := den_agg2 h1
  obtain ⟨A, c, rfl⟩ := den_lst h3
  obtain rfl := den_int h2
  refine (callsIn_wide.1 (c69 l b s hr hl hw x.Boxes hn w M hM A0 A1 A2 c0 c1 c2 h0 x.Shelf A c h3 3 (Nat.le_refl _))).mono ?_
  rintro e w' ⟨rfl, hB⟩
  exact ⟨_, rfl, hB, .int _ _⟩
end Go.Sx.T
