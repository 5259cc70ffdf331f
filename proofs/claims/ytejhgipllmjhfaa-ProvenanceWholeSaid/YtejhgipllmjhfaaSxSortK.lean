/- Contracts of functions of the program, each proved by running its code symbolically (SxSortK). -/
import Derived.Test.YtejhgipllmjhfaaSx4
import Derived.Shelf.SlSortCmp.NoneTotal
import Derived.Sort.OwnSortedInts
/- The library's slices.SortFunc at elements of k numbers, as a contract of the executor's. -/
namespace Go.Sx
open Go Go.RowKit Go.Sort Go.Proofs Go.Shelf
set_option linter.unusedVariables false

section
variable {α : Type} [Inhabited α] (nums : α → List Int) (k : Nat)

def encN (x : α) : List Value := (nums x).map (Value.int .i64)
def svN (x : α) : List SV := (nums x).map (SV.int .i64)

theorem heap_sortedK {w : World} {g n : Nat} {os : Array Obj} {cur : Array Value} {e : TypeId} {fr : Nat × Nat} (F : Array Value) (hb : w.heap[g]? = some (.cells cur e fr)) :
    (grow (putRow id (Sort.ahead w n) g 0 F) os).heap[g]? = some (.cells (putCells id 0 F cur) e fr) := by
  have hg : g < w.heap.size := (Array.getElem?_eq_some_iff.1 hb).1
  rw [heap_grow_old _ _ (by simpa using hg)]
  simp [putRow, mapBlock, Sort.ahead, Array.getElem?_modify, hb, onCells]

theorem grownBy_sortedK {w : World} {g n : Nat} {os : Array Obj} (F : Array Value) : w.grownBy (grow (putRow id (Sort.ahead w n) g 0 F) os) (some g) := by
  refine ⟨rfl, rfl, rfl, by simp, fun k hk hne => ?_⟩
  rw [heap_grow_old _ _ (by simpa using hk)]
  have : g ≠ k := fun e => hne (by rw [e])
  simp [putRow, mapBlock, Sort.ahead, Array.getElem?_modify, this]

theorem take_putCellsK (cur F : Array Value) (h : F.size ≤ cur.size) : (putCells id 0 F cur).toList.take F.size = F.toList := by
  apply List.ext_getElem?
  intro j
  by_cases hj : j < F.size
  · rw [List.getElem?_take_of_lt hj, Array.getElem?_toList]
    simp [putCells, hj, show j < cur.size by omega]
  · rw [List.getElem?_take_eq_none (by omega), List.getElem?_eq_none (by simp; omega)]

theorem flat_get (hk : ∀ x, (nums x).length = k) (d : Array α) (i j : Nat) (hi : i < d.size) (hj : j < k) : (flatK (encN nums) k d)[i * k + j]? = some (Value.int .i64 ((nums d[i]!).getD j 0)) := by
  have ht : i * k + j < d.size * k := by
    have : (i + 1) * k ≤ d.size * k := Nat.mul_le_mul_right k hi
    rw [Nat.add_mul, Nat.one_mul] at this
    omega
  have hs : i * k + j < (flatK (encN nums) k d).size := by simpa using ht
  have h1 := get_flatK (encN nums) k d (i * k + j) ht
  have e1 : (i * k + j) / k = i := by rw [Nat.mul_comm, Nat.mul_add_div (by omega), Nat.div_eq_of_lt hj, Nat.add_zero]
  have e2 : (i * k + j) % k = j := by rw [Nat.mul_comm, Nat.mul_add_mod, Nat.mod_eq_of_lt hj]
  rw [e1, e2] at h1
  rw [Array.getElem?_eq_getElem hs]
  rw [getElem!_pos (flatK (encN nums) k d) (i * k + j) hs] at h1
  rw [h1]
  have hl : j < (nums d[i]!).length := by rw [hk]; exact hj
  rw [getD_of_lt (nums d[i]!) j hl]
  unfold encN
  rw [getElem!_pos _ _ (by simpa using hl), List.getElem_map]

theorem sortK_spec {P : Program} {ρ : Ren} (L : SlLaysF0.n6 P ρ) (hk : ∀ x, (nums x).length = k) (aE : ∀ w, (isAgg (ρ.t 24)).run P w = .ok true w) (zE : ∀ w, (Go.sizeOf (ρ.t 24)).run P w = .ok k w) (cf : α → α → Int) (hO : SWO (ltOf cf)) (hb : HasBody P (ρ.f 6)) (g : FuncId) (caps : List SV)
    (eg : ∀ args w, (callFunc g args).run P w = .ok (.enter g args) w)
    (hcmp : ∀ (w : World) (M : Nat → Prop) (cb : Array Value) (blk size : Nat), M blk → Den w M (.fn g caps) (.func (.func g) #[] cb) → CmpLays P g cb (encN nums) k cf blk 0 size w)
    (t : TypeId) (l l' : List α) (hl : l.length ≤ 4000000000000000000) (hu : ∀ d : List α, d.Perm l → (∀ i j, i < j → j < d.length → ¬ cf (d.getD j default) (d.getD i default) < 0) → d = l') :
    SpecSort P (ρ.f 6) [] t k l.length (fun i => svN nums (l.getD i default)) [.fn g caps] (fun i => svN nums (l'.getD i default)) := by
  refine ⟨hb, fun w M base us vs v hM hbase hMv hus hvs _ hpost hok => ?_⟩
  obtain rfl : us = [] := List.eq_nil_of_length_eq_zero (by simpa using hus.symm)
  obtain ⟨fv, rfl⟩ : ∃ fv, vs = [fv] := by
    match vs, hvs with
    | [fv], _ => exact ⟨fv, rfl⟩
  have hfv := hpost 0 _ fv rfl rfl
  obtain ⟨cb, rfl⟩ : ∃ cb, fv = .func (.func g) #[] cb := by
    generalize hx : (SV.fn g caps) = x at hfv
    cases hfv with
    | fn f cs ws hlw hw => cases hx; exact ⟨ws, rfl⟩
    | _ => cases hx
  obtain ⟨xs, ho, hz, hone, hd⟩ := hok
  have hxl : xs.length = l.length * k := ho.1
  have hxs : ∀ i j, i < l.length → j < k → xs[i * k + j]? = some (Value.int .i64 ((nums (l.getD i default)).getD j 0)) := fun i j hi hj => by
    have ht : i * k + j < xs.length := by
      have : (i + 1) * k ≤ l.length * k := Nat.mul_le_mul_right k hi
      rw [Nat.add_mul, Nat.one_mul] at this
      omega
    have hnl : j < (nums (l.getD i default)).length := by rw [hk]; exact hj
    have h1 := hd i j (.int .i64 ((nums (l.getD i default)).getD j 0)) _ hi (by rw [getD_of_lt (nums (l.getD i default)) j hnl]; show (svN nums (l.getD i default))[j]? = _; unfold svN; rw [List.getElem?_map, List.getElem?_eq_getElem hnl]; rfl) (List.getElem?_eq_getElem ht)
    rw [List.getElem?_eq_getElem ht]
    generalize xs[i * k + j] = u at h1
    cases h1
    rfl
  rcases ho.2 with ⟨rfl, h0⟩ | ⟨b, cap, cur, rfl, hg, hh, hn, hcap, hsz, htk⟩
  · have hl1 : l = [] := List.eq_nil_of_length_eq_zero h0
    subst hl1
    have hl2 := hu [] (.refl _) (fun i j _ hj => absurd hj (Nat.not_lt_zero _))
    subst hl2
    refine (AnyF.slices_SortFunc_none L none 0 _ w).mono fun ex w' ⟨he, hw⟩ => ?_
    subst hw
    exact ⟨he, ⟨rfl, rfl, rfl, Nat.le_refl _, fun _ _ _ => rfl⟩, xs, ho, fun i hi => absurd hi (Nat.not_lt_zero _), hone, fun i j s u hi => absurd hi (Nat.not_lt_zero _)⟩
  · have hbl : b < w.heap.size := (Array.getElem?_eq_some_iff.1 hh).1
    have hat : ∀ (m : List α) (i : Nat), i < m.length → m.toArray[i]! = m.getD i default := fun m i hi => by
      rw [getD_of_lt m i hi, getElem!_pos _ _ (by simpa using hi)]
      simp
    have hholds : HoldsK (encN nums) k w b 0 l.toArray := by
      intro j hj
      have hj' : j < l.length * k := by simpa using hj
      have k0 : 0 < k := by
        rcases Nat.eq_zero_or_pos k with h | h
        · subst h; simp at hj'
        · exact h
      have e : j / k * k + j % k = j := Nat.div_add_mod' j k
      have hi : j / k < l.length := Nat.div_lt_of_lt_mul (by rwa [Nat.mul_comm])
      have hr := Nat.mod_lt j k0
      have h1 := hxs (j / k) (j % k) hi hr
      have h2 := flat_get nums k hk l.toArray (j / k) (j % k) (by simpa using hi) hr
      rw [hat l _ hi] at h2
      rw [e] at h1 h2
      rw [← htk, List.getElem?_take_of_lt hj', Array.getElem?_toList] at h1
      refine ⟨?_, by simp [World.frozen?, hh]⟩
      have h3 : (flatK (encN nums) k l.toArray)[j]! = Value.int .i64 ((nums (l.getD (j / k) default)).getD (j % k) 0) := by
        rw [getElem!_pos (flatK (encN nums) k l.toArray) j hj]
        rw [Array.getElem?_eq_getElem hj] at h2
        exact Option.some.inj h2
      rw [h3]
      simp [World.cell?, hh, h1]
    have hcon := AnyQ.slices_SortFunc L k aE zE (encN nums) (fun x => by simp [encN, hk]) (fun x v hv => by
      obtain ⟨m, _, rfl⟩ := List.mem_map.1 hv
      rfl) cf hO g cb b 0 cap l.toArray w eg (hcmp w M cb b _ (hMv b rfl) hfv) hholds hbl (by simp; omega)
    refine hcon.mono fun ex w' ⟨he, d', n, os, hp, hs, hw⟩ => ?_
    obtain ⟨p1, _, p3⟩ := hp
    have hsz' : d'.size = l.length := by simpa using p1
    have hperm : d'.toList.Perm l := by
      have e1 : d'.extract 0 l.toArray.size = d' := by rw [← p1]; exact Array.extract_size ..
      have e2 : l.toArray.extract 0 l.toArray.size = l.toArray := Array.extract_size ..
      rw [e1, e2] at p3
      simpa using p3
    have hd' : d'.toList = l' := hu d'.toList hperm fun i j hij hj => by
      have h := hs i j (Nat.zero_le _) hij (by simpa [hsz'] using hj)
      have hj' : j < d'.size := by simpa using hj
      rw [getElem!_pos d' j hj', getElem!_pos d' i (by omega)] at h
      rw [getD_of_lt _ j hj, getD_of_lt _ i (by omega)]
      simpa [ltOf] using h
    have hd2 : d' = l'.toArray := by rw [← hd']
    subst hd2
    have hl' : l'.length = l.length := by simpa using hsz'
    have hw2 : w' = grow (putRow id (Sort.ahead w n) b 0 (flatK (encN nums) k l'.toArray)) os := hw
    subst hw2
    have hFs : (flatK (encN nums) k l'.toArray).size = l.length * k := by simp [hl']
    have hcs : l.length * k ≤ cur.size := by rw [hsz]; exact Nat.mul_le_mul_right k hn
    refine ⟨he, grownBy_sortedK _, (flatK (encN nums) k l'.toArray).toList, ⟨by simp [hl'], .inr ⟨b, cap, _, rfl, hg, heap_sortedK _ hh, hn, hcap, by simp [putCells, hsz], ?_⟩⟩, fun i hi => by simp [svN, hk], ?_, ?_⟩
    · rw [← hFs]; exact take_putCellsK cur _ (by rw [hFs]; exact hcs)
    · intro g' cur' t' fr' hb' hh' u hu'
      simp only [blkNo, Option.some.injEq] at hb'
      subst hb'
      rw [heap_sortedK _ hh] at hh'
      injection hh' with hh'
      injection hh' with q1 q2 q3
      subst q1
      obtain ⟨i, hi⟩ := List.mem_iff_getElem?.1 hu'
      rw [Array.getElem?_toList] at hi
      unfold putCells at hi
      rw [Array.getElem?_mapIdx] at hi
      cases hc : cur[i]? with
      | none => rw [hc] at hi; cases hi
      | some x =>
        rw [hc] at hi
        simp only [Option.map_some, Option.some.injEq] at hi
        subst hi
        split
        · rename_i hlt
          have hlt' : i < l'.length * k := by simpa using hlt.2
          have k0 : 0 < k := by
            rcases Nat.eq_zero_or_pos k with h | h
            · subst h; simp at hlt'
            · exact h
          have h2 := flat_get nums k hk l'.toArray (i / k) (i % k) (by simpa using Nat.div_lt_of_lt_mul (by rwa [Nat.mul_comm])) (Nat.mod_lt i k0)
          rw [Nat.div_add_mod' i k] at h2
          have hi2 : i < (flatK (encN nums) k l'.toArray).size := by simpa using hlt'
          rw [Nat.sub_zero, getElem!_pos (flatK (encN nums) k l'.toArray) i hi2]
          rw [Array.getElem?_eq_getElem hi2] at h2
          rw [Option.some.inj h2]
          rfl
        · exact hone b cur t (0, 0) rfl hh x (by rw [Array.mem_toList_iff]; exact Array.mem_of_getElem? hc)
    · intro i j s u hi hj hu'
      have hjk : j < k := by
        have := (List.getElem?_eq_some_iff.1 hj).1
        simpa [svN, hk] using this
      have h2 := flat_get nums k hk l'.toArray i j (by simpa [hl'] using hi) hjk
      rw [hat l' i (by omega)] at h2
      rw [Array.getElem?_toList, h2] at hu'
      injection hu' with hu'
      subst hu'
      have hnl : j < (nums (l'.getD i default)).length := by rw [hk]; exact hjk
      simp only [svN, List.getElem?_map, List.getElem?_eq_getElem hnl, Option.map_some, Option.some.injEq] at hj
      subst hj
      rw [getD_of_lt _ j hnl]
      exact .int _ _
end
end Go.Sx
