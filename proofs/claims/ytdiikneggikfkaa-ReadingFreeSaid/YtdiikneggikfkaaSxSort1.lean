/- Contracts of functions of the program, each proved by running its code symbolically (SxSort1). -/
import Derived.Test.YtdiikneggikfkaaSxSort
import Derived.Shelf.SlSortCmp.NoneTotal
/- The library's slices.SortFunc at the numbers below n, as a contract of the executor's. -/
namespace Go.Sx
open Go Go.RowKit Go.Sort Go.Proofs Go.Shelf
set_option linter.unusedVariables false

def encF (n : Nat) (x : _root_.Fin n) : Value := .int .i64 (x.val : Int)

theorem putRow_fin {n : Nat} [Inhabited (_root_.Fin n)] (w : World) (b : Nat) (d : Array (_root_.Fin n)) : putRow (encF n) w b 0 d = putRow (Value.int .i64) w b 0 (d.map fun x => (x.val : Int)) := by
  unfold putRow
  congr 1
  funext c
  unfold putCells
  congr 1
  funext k x
  rw [Array.size_map]
  split
  · rename_i h
    have hk : k - 0 < d.size := by omega
    rw [getElem!_pos d _ hk, getElem!_pos _ _ (by simpa using hk), Array.getElem_map]; rfl
  · rfl

theorem sort1_spec {P : Program} {ρ : Ren} (L : SlLaysF.n6 P ρ) (hb : HasBody P (ρ.f 6)) (g : FuncId) (caps : List SV)
    (eg : ∀ args w, (callFunc g args).run P w = .ok (.enter g args) w) (n : Nat) (hn : n ≤ 4000000000000000000) (cf : _root_.Fin n → _root_.Fin n → Int) (hO : SWO (ltOf cf))
    (hcmp : ∀ [Inhabited (_root_.Fin n)] (w : World) (M : Nat → Prop) (cb : Array Value) (blk : Nat), M blk → Den w M (.fn g caps) (.func (.func g) #[] cb) → CmpLays1 P g cb (encF n) cf blk 0 n w)
    (t : TypeId) (ord : List Nat) (hol : ord.length = n) (hu : ∀ d : List (_root_.Fin n), d.Perm (List.finRange n) → (∀ i j (hij : i < j) (hj : j < d.length), ¬ cf d[j] (d[i]'(Nat.lt_trans hij hj)) < 0) → d.map _root_.Fin.val = ord) :
    SpecSort P (ρ.f 6) [] t 1 n (fun i => [.int .i64 (i : Int)]) [.fn g caps] (fun i => [.int .i64 ((ord.getD i 0 : Nat) : Int)]) := by
  refine ⟨hb, fun w M base us vs v hM hbase hMv hus hvs _ hpost hok => ?_⟩
  obtain rfl : us = [] := List.eq_nil_of_length_eq_zero (by simpa using hus.symm)
  obtain ⟨fv, rfl⟩ : ∃ fv, vs = [fv] := by
    match vs, hvs with
    | [fv], _ => exact ⟨fv, rfl⟩
  have hfv := hpost 0 _ fv rfl rfl
  obtain ⟨cb, rfl⟩ : ∃ cb, fv = .func (.func g) #[] cb := by
    generalize hx : (SV.fn g caps) = x at hfv
    cases hfv with
    | fn f cs ws hlw hw => cases hx; exact ⟨ws, rfl⟩
    | _ => cases hx
  obtain ⟨xs, ho, hz, hone, hd⟩ := hok
  have hxl : xs.length = n := by rw [ho.1, Nat.mul_one]
  have hxs : xs = ((List.range n).map fun (i : Nat) => (i : Int)).map (Value.int .i64) := by
    apply List.ext_getElem (by simp [hxl])
    intro i h1 h2
    have h3 := hd i 0 (.int .i64 (i : Int)) xs[i] (by omega) rfl (by rw [Nat.mul_one, Nat.add_zero]; exact List.getElem?_eq_getElem h1)
    simp only [List.getElem_map, List.getElem_range]
    generalize xs[i] = u at h3
    cases h3; rfl
  subst hxs
  rcases Nat.eq_zero_or_pos n with h0 | h0
  · subst h0
    have hnone : ∀ (p : Option Addr) (c : Nat), Calls P (ρ.f 6) #[.slice p 0 c, .func (.func g) #[] cb] w fun e w' => e = .returned (.tuple #[]) ∧ w' = w := fun p c => AnyF.slices_SortFunc_none { L with } p c _ w
    have hfin : ∀ v : Value, BlkOK w M base (.row t 1 0 true fun i => [.int .i64 (i : Int)]) v → BlkOK w M base (.row t 1 0 true fun i => [.int .i64 ((ord.getD i 0 : Nat) : Int)]) v := by
      rintro v ⟨xs, h1, _, h3, _⟩
      exact ⟨xs, h1, fun i hi => absurd hi (Nat.not_lt_zero _), h3, fun i j s u hi => absurd hi (Nat.not_lt_zero _)⟩
    have hok' := hfin v ⟨_, ho, hz, hone, hd⟩
    obtain ⟨p, c, rfl⟩ : ∃ p c, v = .slice p 0 c := by
      rcases ho.2 with ⟨rfl, _⟩ | ⟨b, cap, cur, rfl, _⟩
      · exact ⟨_, _, rfl⟩
      · exact ⟨_, _, rfl⟩
    refine (hnone p c).mono fun ex w' ⟨he, hw⟩ => ?_
    subst hw
    exact ⟨he, ⟨rfl, rfl, rfl, Nat.le_refl _, fun _ _ _ => rfl⟩, hok'⟩
  · haveI : Inhabited (_root_.Fin n) := ⟨⟨0, h0⟩⟩
    rcases ho.2 with ⟨rfl, h1⟩ | ⟨b, cap, cur, rfl, hg, hh, hnc, hcap, hsz, htk⟩
    · omega
    · have hbl : b < w.heap.size := (Array.getElem?_eq_some_iff.1 hh).1
      have hsz0 : (List.finRange n).toArray.size = n := by simp
      have hH0 := holds_of_blockI (ss := (List.range n).map fun (i : Nat) => (i : Int)) hh (by rw [← htk]; simp)
      have hholds : Holds (encF n) w b 0 (List.finRange n).toArray := by
        intro j hj
        have hj' : j < n := by simpa using hj
        obtain ⟨h2, h3⟩ := hH0 j (by simpa using hj')
        refine ⟨?_, h3⟩
        rw [h2]
        have e1 : ((List.range n).map fun (i : Nat) => (i : Int)).toArray[j]! = (j : Int) := by
          rw [getElem!_pos _ j (by simpa using hj')]; simp
        have e2 : (List.finRange n).toArray[j]! = ⟨j, hj'⟩ := by
          rw [getElem!_pos _ j hj]; simp
        rw [e1, e2]; rfl
      have hcon := Any.slices_SortFunc L (encF n) (fun x => rfl) cf hO g cb b 0 cap (List.finRange n).toArray w eg (by rw [hsz0]; exact hcmp w M cb b (hMv b rfl) hfv) hholds hbl (by rw [hsz0]; omega)
      rw [hsz0] at hcon
      refine hcon.mono fun ex w' ⟨he, d', m, os, hp, hs, hw⟩ => ?_
      obtain ⟨p1, _, p3⟩ := hp
      have hsz' : d'.size = n := by rw [p1, hsz0]
      have hperm : d'.toList.Perm (List.finRange n) := by
        have hx : ∀ (z : Array (_root_.Fin n)), z.size ≤ n → (z.extract 0 n).toList = z.toList := fun z hz => by
          rw [Array.toList_extract, List.extract_eq_take_drop, List.drop_zero]
          exact List.take_of_length_le (by simp; omega)
        have p4 := p3
        rw [hx d' (by omega), hx _ (by omega)] at p4
        exact p4
      have hd' : d'.toList.map _root_.Fin.val = ord := hu d'.toList hperm fun i j hij hj => by
        have hj' : j < d'.size := by simpa using hj
        have h := hs i j (Nat.zero_le _) hij (by omega)
        rw [getElem!_pos d' j hj', getElem!_pos d' i (by omega)] at h
        simpa [ltOf] using h
      have hmap : (d'.map fun x => (x.val : Int)) = (ord.map fun (i : Nat) => (i : Int)).toArray := by
        rw [← hd']
        apply Array.ext'
        simp
      have hw2 : w' = grow (putRow (Value.int .i64) (Sort.ahead w m) b 0 (ord.map fun (i : Nat) => (i : Int)).toArray) os := by
        rw [hw, sortWorld, putRow_fin, hmap]
      subst hw2
      have hown := ownsRow_sortedI (w := w) (base := base) (n := m) (os := os) (ss := (List.range n).map fun (i : Nat) => (i : Int)) (ts := ord.map fun (i : Nat) => (i : Int)) (by simp [hol]) hg hh (by simpa using hnc) hcap hsz
      rw [show ((List.range n).map fun (i : Nat) => (i : Int)).length = n by simp] at hown
      refine ⟨he, grownBy_sortedI _, _, hown, fun i hi => rfl, ?_, ?_⟩
      · intro g' cur' t' fr' hb' hh' u hu'
        simp only [blkNo, Option.some.injEq] at hb'
        subst hb'
        have h1 := heap_sortedI (n := m) (os := os) (ord.map fun (i : Nat) => (i : Int)).toArray hh
        rw [h1] at hh'
        injection hh' with hh'
        injection hh' with q1 q2 q3
        subst q1
        obtain ⟨i, hi⟩ := List.mem_iff_getElem?.1 hu'
        rw [Array.getElem?_toList] at hi
        unfold putCells at hi
        rw [Array.getElem?_mapIdx] at hi
        cases hc : cur[i]? with
        | none => rw [hc] at hi; cases hi
        | some x =>
          rw [hc] at hi
          simp only [Option.map_some, Option.some.injEq] at hi
          subst hi
          split
          · rfl
          · exact hone b cur t (0, 0) rfl hh x (by rw [Array.mem_toList_iff]; exact Array.mem_of_getElem? hc)
      · intro i j s u hi hj hu'
        cases j with
        | succ j => simp at hj
        | zero =>
          have hi' : i < ord.length := by rw [hol]; exact hi
          rw [Nat.mul_one, Nat.add_zero, List.getElem?_map, List.getElem?_map, List.getElem?_eq_getElem hi'] at hu'
          simp only [List.getElem?_cons_zero, Option.some.injEq, Option.map_some] at hj hu'
          subst hj hu'
          rw [getD_of_lt _ i hi']
          exact .int _ _
end Go.Sx
