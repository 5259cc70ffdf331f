/- Contracts of functions of the program, each proved by running its code symbolically (SxKeys). -/
import Derived.Test.YtjhimnlbgmlcdaaSxSort
import Derived.Test.YtjhimnlbgmlcdaaSx4
import Derived.Shelf.SlIterI.Sorted
/- The library's slices.Sorted(maps.Keys(m)) at a map with keys of type int, as a contract of the executor's. -/
namespace Go.Sx
open Go Go.RowKit Go.Sort Go.Proofs Go.Shelf Go.Maps
set_option linter.unusedVariables false
set_option linter.unusedSimpArgs false

theorem isort_of_perm {a b : List Int} (h : a.Perm b) : isort a = isort b := by
  have h1 := (isort_perm a).trans (h.trans (isort_perm b).symm)
  exact List.Perm.eq_of_pairwise (le := (· ≤ ·)) (fun x y _ _ h1 h2 => Int.le_antisymm h1 h2) (isort_sorted a) (isort_sorted b) h1

/-- A row of numbers as a list. -/
theorem den_ints {w : World} {M : Nat → Prop} {base : Nat} {t : TypeId} {v : Value} {l : List Int} (h : w.ownsRow base t 1 v l.length (l.map encZ)) (hn : ∀ b, base ≤ b → b < w.heap.size → ¬ M b) :
    Den w M (.lst 1 l.length fun i => [.int .i64 (l.getD i 0)]) v := by
  obtain ⟨hl, ho⟩ := h
  rcases ho with ⟨rfl, h0⟩ | ⟨g, cap, cur, rfl, hg, hh, hnc, hcm, hcur, htake⟩
  · rw [h0]
    exact .lst 1 0 _ none 0 0 0 (fun _ _ => undef) (Nat.le_refl _) (by simp [maxLen]) (fun h => by omega) (fun h => by omega) (fun h => by omega) (fun _ h => by omega) (fun _ _ _ h => by omega) (fun _ _ _ h => by omega) (fun _ _ _ h => by omega)
  · have hgl : g < w.heap.size := (Array.getElem?_eq_some_iff.1 hh).1
    refine .lst 1 l.length _ _ cap g 0 (fun i _ => .int .i64 (l.getD i 0)) hnc hcm (fun _ => rfl) (fun _ => hn g hg hgl) (fun _ => hgl) (fun _ _ => rfl) (fun _ _ _ _ _ => rfl) ?_ ?_
    · intro i j s hi hj
      cases j with
      | succ j => simp at hj
      | zero =>
        have h1 : cur.toList[i]? = some (.int .i64 (l.getD i 0)) := by
          have h2 : (cur.toList.take (l.length * 1))[i]? = some (encZ (l.getD i 0)) := by
            rw [htake, List.getElem?_map, List.getElem?_eq_getElem hi, getD_of_lt l i hi]; rfl
          rwa [List.getElem?_take_of_lt (by omega)] at h2
        rw [Array.getElem?_toList] at h1
        simp [World.cell?, hh, h1]
    · intro i j s hi hj
      cases j with
      | succ j => simp at hj
      | zero => cases hj; exact .int _ _

theorem map_owns {P : Program} {k : TypeId} {w : World} {b clock : Nat} {es : Array MapEntry} {keys : List Int} (hk : P.underlying k = some (.int .i64)) (hh : w.heap[b]? = some (.map es clock)) (h1 : es.toList.map (·.key) = keys.map (Value.int .i64)) (h2 : keys.Nodup) (h3 : ∀ e ∈ es.toList, e.born < clock) (h4 : (es.toList.map (·.born)).Nodup)
    (hin : ∀ x ∈ keys, InK .i64 x) (hlen : keys.length ≤ maxLen) :
    ∃ D : DataW Unit, w.ownsMap P k (fun _ => some (.nil, [])) b keys.length D ∧ (intKeys D).Perm keys ∧ Maps.size D = keys.length := by
  have hlk : es.toList.length = keys.length := by have := congrArg List.length h1; simpa using this
  have hsz : es.size = keys.length := by simpa using hlk
  have hrd : ∀ x ∈ es.toList, ∃ n : Int, x.key = .int .i64 n ∧ WideElems.rd P k (fun _ => some ((.nil : DataW Unit), [])) x = some (.int .i64 n, .nil) := by
    intro x hx
    have : x.key ∈ keys.map (Value.int .i64) := by rw [← h1]; exact List.mem_map_of_mem hx
    obtain ⟨n, hn, e⟩ := List.mem_map.1 this
    refine ⟨n, e.symm, ?_⟩
    have hw : (Lit.int .i64 n).wf = true := by
      have h0 := hin n hn
      unfold InK at h0
      simp only [Lit.wf, Bool.and_eq_true, decide_eq_true_eq]
      first | exact h0 | (simp only [IntKind.min, IntKind.max] at h0 ⊢; exact h0)
    have hko : keyOf P k x.key = some (.int .i64 n) := by
      rw [← e]
      simp [keyOf, hk, mapKey, hw]
    simp [WideElems.rd, hko]
  refine ⟨_, ⟨es, clock, hh, ⟨by omega, ⟨h3, h4, ?_⟩, fun x hx => ?_⟩, by simpa using Nat.le_of_eq hlk, rfl⟩, ?_, ?_⟩
  · rw [h1]
    exact List.pairwise_map.2 (h2.imp fun hab e => hab (by injection e))
  · obtain ⟨n, _, h⟩ := hrd x hx
    exact ⟨_, h⟩
  · show (List.map (fun p => intOf p.1) ((es.toList.map (WideElems.rg P k fun _ => some (.nil, []))).foldr DataW.insert [])).Perm keys
    refine ((WideShapes.sorted_perm _).map _).trans ?_
    rw [List.map_map]
    refine List.Perm.of_eq ?_
    have : es.toList.map ((fun p : Lit × DataW Unit => intOf p.1) ∘ WideElems.rg P k fun _ => some (.nil, [])) = (es.toList.map (·.key)).map (fun v => match v with | .int _ n => n | _ => 0) := by
      rw [List.map_map]
      refine List.map_congr_left fun x hx => ?_
      obtain ⟨n, e, h⟩ := hrd x hx
      simp only [Function.comp_apply, WideElems.rg, h, Option.getD_some, e, intOf]
    rw [this, h1, List.map_map]
    exact List.map_id keys
  · rw [size_eq, length_sorted, List.length_map, hlk]

theorem sorted_spec {P : Program} {ρk ρs ρ : Ren} (Lk : SlLaysZI.n10 P ρk) (Ls : SlLaysZI.n6 P ρs) (Ly : Lays.n189 P ρ) (h9 : ρs.f 9 = ρ.f 189) (hb : HasBody P (ρs.f 6)) (e9 : Enters P (ρs.f 9)) (eg : Enters P (ρk.f 10))
    (us : Nat → Value) (z : Value) (t : TypeId) (mu : Bool) (keys : List Int) (get : Int → SV) (hin : ∀ k ∈ keys, InK .i64 k) (hlen : keys.length ≤ 1000000000) :
    SpecX P (ρs.f 6) us [.sv (.fn (ρk.f 10) [.val (us 1)])] [.map z keys get, .cells t mu [.val (us 0)]]
      (fun o => o = ⟨[.sv (.lst 1 (isort keys).length fun i => [.int .i64 ((isort keys).getD i 0)])], [.map z keys get, .cells t mu [.val (us 0)]], [(0, us 0), (1, us 1)]⟩) := by
  refine ⟨hb, fun w M0 L vs hus hsafe hinv hl hd => ?_⟩
  obtain ⟨b, es, clock, hL0, hh, q1, q2, q3, q4, q5, q6⟩ := hinv.ok 0 _ rfl
  obtain ⟨B, cs, hL1, _, hB, hcs, _, hcell⟩ := hinv.ok 1 _ rfl
  have hc0 : cs[0]? = some (us 0) := by
    have hlt : 0 < cs.size := by rw [← hcs]; simp
    have h0 := hcell 0 _ _ rfl (Array.getElem?_eq_getElem hlt)
    rw [Array.getElem?_eq_getElem hlt]
    generalize cs[0] = u at h0
    cases h0
    rfl
  obtain ⟨v0, hv0⟩ : ∃ v, vs = #[v] := by
    match vs, hl with
    | ⟨[v]⟩, _ => exact ⟨v, rfl⟩
  subst hv0
  have hd0 := hd 0 _ v0 rfl rfl
  have hv : v0 = .func (.func (ρk.f 10)) #[] #[.pointer (some ⟨B, 0, none⟩)] := by
    cases hd0 with
    | fn f caps ws hlw hw =>
      obtain ⟨u, hu⟩ : ∃ u, ws = #[u] := by
        match ws, hlw with
        | ⟨[u]⟩, _ => exact ⟨u, rfl⟩
      subst hu
      have := hw 0 _ u rfl rfl
      cases this
      rw [← hus 1 (by simp), hL1]
  subst hv
  obtain ⟨D, hown, hperm, hsize⟩ := map_owns (P := P) (k := ρk.t 26) Lk.t26 hh q1 q2 q3 q4 hin (by unfold maxLen; omega)
  have hBl : B < w.heap.size := (Array.getElem?_eq_some_iff.1 hB).1
  have hm : w.cell? ⟨B, 0, none⟩ = some (.map (some b)) := by
    rw [← hus 0 (by simp), hL0] at hc0
    simp [World.cell?, hB, hc0]
  have hseq := AnyZI.keys_gives Lk Fence.wide 1 trivial rfl (by omega) B b keys.length D w hBl hm hown
  have hsort : AnyZI.SortsIn P ρs Fence.wide (4 - 1) := by
    refine ⟨fun blk off cap ss W hH hblk hsz => callsIn_wide.2 ?_, fun p cap W => callsIn_wide.2 ?_⟩
    · rw [h9]; exact Any.slices_Sort_int Ly blk off cap ss W hH hblk hsz
    · rw [h9]; exact Any.slices_Sort_int_none Ly p cap W
  have hcall := AnyZI.sorted_in Ls Fence.wide 4 trivial trivial trivial trivial rfl (by omega) hsort e9 (ρk.f 10) #[.pointer (some ⟨B, 0, none⟩)] trivial eg _ (Maps.size D) (by rw [hsize]; unfold maxLen; omega) (by rw [hsize]; omega) w hseq
  refine (callsIn_wide.1 hcall).mono fun e w' ⟨v, ss, he, hS, hrow, hnil, hbel⟩ => ?_
  have hss : isort ss = isort keys := isort_of_perm (hS.trans hperm)
  have hrow' : w'.ownsRow w.heap.size (ρs.t 26) 1 v (isort keys).length ((isort keys).map encZ) := by
    have e1 : ss.length = (isort keys).length := by rw [← hss, isort_length]
    rw [e1] at hrow
    rw [← hss]
    rw [← hss] at hrow
    exact hrow
  have hinv' := hinv.keep hbel
  refine ⟨v, _, L, he, rfl, hinv', ⟨[v], rfl, rfl, fun i x u hx hu => ?_⟩, fun p hp => ?_⟩
  · match i, hx, hu with
    | 0, hx, hu =>
      cases hx; cases hu
      refine den_ints hrow' fun b' hb' _ hm' => ?_
      have : b' < w.heap.size := by
        rcases hm' with hm' | ⟨i, k, hi, _, hbi⟩
        · exact (hsafe b' hm').1
        · exact (hinv.low i b' (List.getElem?_eq_some_iff.1 hi).1 hbi).2
      omega
    | i + 1, hx, _ => simp at hx
  · simp only [List.mem_cons, List.not_mem_nil, or_false] at hp
    rcases hp with rfl | rfl
    · exact ⟨by simp, hus 0 (by simp)⟩
    · exact ⟨by simp, hus 1 (by simp)⟩
end Go.Sx
