/- Contracts of functions of the program, each proved by running its code symbolically (QOP). -/
import Derived.Test.YtepkgkdbnoiieaaQRP
namespace Go.Sx.T
open Go Go.Proofs Go.Sx
set_option maxRecDepth 100000
set_option maxHeartbeats 4000000
set_option linter.unusedVariables false
set_option linter.unusedSimpArgs false
/-! The moves of Restore sort; no fewer do. -/
theorem filter_sub : ∀ {P l : List Int}, P.Sublist l → l.Nodup → l.filter (fun x => decide (x ∈ P)) = P
  | _, _, .slnil, _ => rfl
  | P, _, .cons (l₂ := l) x h, hn => by
    rw [List.nodup_cons] at hn
    have hx : x ∉ P := fun h' => hn.1 (h.subset h')
    rw [List.filter_cons, if_neg (by simpa using hx)]
    exact filter_sub h hn.2
  | _, _, .cons_cons (l₁ := P) (l₂ := l) x h, hn => by
    rw [List.nodup_cons] at hn
    rw [List.filter_cons, if_pos (by simp)]
    congr 1
    rw [show l.filter (fun y => decide (y ∈ x :: P)) = l.filter (fun y => decide (y ∈ P)) from List.filter_congr fun y hy => ?_]
    · exact filter_sub h hn.2
    · have : y ≠ x := fun e => hn.1 (by rw [← e]; exact hy)
      simp [this]
theorem restO_filter (D X : List Int) (m : Shift) (h : m.Number ∉ D) : (restO X m).filter (fun x => decide (x ∈ D ++ [m.Number])) = X.filter (fun x => decide (x ∈ D)) := by
  unfold restO
  rw [List.filter_filter]
  refine List.filter_congr fun x _ => ?_
  by_cases e : x = m.Number
  · subst e; simp [eqK, h]
  · simp [eqK, e]
theorem befR_cases {D : List Int} (hp : ∀ x ∈ D, 0 < x) (u : Int) : (befR D u = 0 ∧ ∀ y ∈ D, y ≤ u) ∨ (befR D u ∈ D ∧ u < befR D u ∧ ∀ y ∈ D, u < y → befR D u ≤ y) := by
  obtain ⟨h1, h2, h3, h4⟩ := minFold (fun x => decide (u < x)) D 0 (Int.le_refl _) hp
  change 0 ≤ befR D u at h1
  change befR D u = 0 ∨ befR D u ∈ D ∧ _ at h2
  rcases h2 with h | ⟨h, hu⟩
  · left
    refine ⟨h, fun y hy => Classical.byContradiction fun hlt => ?_⟩
    exact (h4 y hy (by simp only [decide_eq_true_eq]; omega)).1 h
  · right
    exact ⟨h, of_decide_eq_true hu, fun y hy hlt => (h4 y hy (decide_eq_true hlt)).2⟩
theorem sort_step {o D : List Int} {u : Int} (hn : o.Nodup) (h0 : ∀ x ∈ o, 0 < x) (hD : ∀ x ∈ D, x ∈ o) (hu : u ∈ o) (huD : u ∉ D) (hs : (o.filter fun x => decide (x ∈ D)).Pairwise (· < ·)) :
    appOK o ⟨u, befR D u⟩ = 0 ∧ ((appStep o ⟨u, befR D u⟩).filter fun x => decide (x ∈ D ++ [u])).Pairwise (· < ·) := by
  have hup := h0 u hu
  rcases befR_cases (fun x hx => h0 x (hD x hx)) u with ⟨hb, hle⟩ | ⟨hb, hlt, hle⟩
  · rw [hb]
    refine ⟨appOK_zero.2 ⟨hu, .inl rfl, by show u ≠ 0; omega⟩, ?_⟩
    rw [appStep_zero o ⟨u, 0⟩ (fun h => by have := h0 _ h; simp at this), List.filter_append]
    rw [restO_filter D o ⟨u, 0⟩ huD]
    rw [List.pairwise_append]
    refine ⟨hs, ?_, fun x hx y hy => ?_⟩
    · exact (List.pairwise_singleton _ _).sublist List.filter_sublist
    · have hxD : x ∈ D := by simpa using (List.mem_filter.1 hx).2
      have hy' : y = u := by simpa using (List.mem_filter.1 hy).1
      have h1 := hle x hxD
      have h2 : x ≠ u := fun e => huD (by rw [← e]; exact hxD)
      omega
  · have hbo := hD _ hb
    have hne : u ≠ befR D u := by omega
    refine ⟨appOK_zero.2 ⟨hu, .inr hbo, hne⟩, ?_⟩
    obtain ⟨A, C, e⟩ := List.append_of_mem hbo
    generalize befR D u = b at *
    subst e
    rw [appStep_split A C ⟨u, b⟩ hn hne]
    rw [List.filter_append, List.filter_cons, if_pos (by simpa using hb), List.pairwise_append, List.pairwise_cons] at hs
    obtain ⟨hsA, ⟨hsb, hsC⟩, hAC⟩ := hs
    rw [List.filter_append, restO_filter D A ⟨u, b⟩ huD, List.filter_cons, if_pos (by simp), List.filter_cons, if_pos (by simp [hb]), restO_filter D C ⟨u, b⟩ huD]
    rw [List.pairwise_append, List.pairwise_cons, List.pairwise_cons]
    refine ⟨hsA, ⟨fun y hy => ?_, hsb, hsC⟩, fun x hx y hy => ?_⟩
    · show u < y
      rcases List.mem_cons.1 hy with e | hy
      · have e' : y = b := e
        omega
      · have := hsb y hy; omega
    · have hxb := hAC x hx b (List.mem_cons_self ..)
      have hxD : x ∈ D := by simpa using (List.mem_filter.1 hx).2
      have hxu : x < u := by
        have h2 : x ≠ u := fun e => huD (by rw [← e]; exact hxD)
        refine Classical.byContradiction fun h => ?_
        have := hle x hxD (by omega)
        omega
      rcases List.mem_cons.1 hy with e | hy
      · show x < y; rw [e]; exact hxu
      · exact hAC x hx y hy
theorem app_sorts {l p : List Int} (hn : l.Nodup) (h0 : ∀ x ∈ l, 0 < x) : ∀ (r d o : List Int), o.Perm l → (o.filter fun x => decide (x ∈ p ++ d)).Pairwise (· < ·) → (p ++ d ++ r).Perm l → appF o (outG p d r) = (isort l, 0)
  | [], d, o, ho, hs, hp => by
    rw [outG, appF]
    rw [List.append_nil] at hp
    have e : (o.filter fun x => decide (x ∈ p ++ d)) = o := List.filter_eq_self.2 fun x hx => by
      rw [decide_eq_true_eq]; exact hp.mem_iff.2 (ho.mem_iff.1 hx)
    rw [e] at hs
    rw [show isort l = o from ?_]
    exact List.Perm.eq_of_pairwise (le := (· ≤ ·)) (fun x y _ _ h1 h2 => Int.le_antisymm h1 h2) (isort_sorted l) (hs.imp fun h => Int.le_of_lt h) ((isort_perm l).trans ho.symm)
  | u :: r, d, o, ho, hs, hp => by
    have hno : o.Nodup := ho.nodup_iff.2 hn
    have hmem : ∀ x, x ∈ p ++ d ++ u :: r → x ∈ o := fun x hx => ho.mem_iff.2 (hp.mem_iff.1 hx)
    have hnd : (p ++ d ++ u :: r).Nodup := hp.nodup_iff.2 hn
    have huD : u ∉ p ++ d := fun h => (List.nodup_append.1 hnd).2.2 _ h _ (List.mem_cons_self ..) rfl
    have huo : u ∈ o := hmem u (List.mem_append_right _ (List.mem_cons_self ..))
    obtain ⟨h1, h2⟩ := sort_step hno (fun x hx => h0 x (ho.mem_iff.1 hx)) (fun x hx => hmem x (List.mem_append_left _ hx)) huo huD hs
    rw [outG, appF, if_pos h1]
    rw [List.append_assoc] at h2
    exact app_sorts hn h0 r (d ++ [u]) _ ((appStep_perm o _ hno huo).trans ho) h2 (by rw [← List.append_assoc, List.append_assoc (p ++ d)]; exact hp)
theorem rest_sorts {l : List Int} (hc : chkL l = 0) : appF l (outG (lis 0 l) [] (unset (lis 0 l) (isort l))) = (isort l, 0) := by
  obtain ⟨h1, h2, h3, h4⟩ := chk_pos hc
  refine app_sorts h2 (fun x hx => by have := h4 x hx; omega) _ [] l (List.Perm.refl _) ?_ ?_
  · rw [List.append_nil, filter_sub (lis_sub l 0) h2]; exact lis_rise l 0
  · rw [List.append_nil]; exact unset_perm h2
theorem outG_nums (p : List Int) : ∀ (r d : List Int), (outG p d r).map Shift.Number = r
  | [], _ => rfl
  | u :: r, d => by rw [outG, List.map_cons, outG_nums p r]
/-! No fewer moves. -/
end Go.Sx.T
