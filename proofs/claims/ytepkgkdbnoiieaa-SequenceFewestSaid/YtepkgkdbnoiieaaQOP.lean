/- Contracts of functions of the program, each proved by running its code symbolically (QOP). -/
import Derived.Test.YtepkgkdbnoiieaaQRP
namespace Go.Sx.T
open Go Go.Proofs Go.Sx
set_option maxRecDepth 100000
set_option maxHeartbeats 4000000
set_option linter.unusedVariables false
set_option linter.unusedSimpArgs false
/-! The moves of Restore sort; no fewer do. -/
/-! No fewer moves. -/
theorem appStep_filter (o : List Int) (m : Shift) (p : Int → Bool) (h : p m.Number = false) : (appStep o m).filter p = o.filter p := by
  have e : (restO o m).filter p = o.filter p := by
    unfold restO
    rw [List.filter_filter]
    refine List.filter_congr fun x _ => ?_
    by_cases e : x = m.Number
    · subst e; simp [h]
    · simp [eqK, e]
  have := (placeO_bd o m).2
  unfold appStep
  rw [insIdx_split _ _ _ (by omega), List.filter_append, List.filter_cons, if_neg (by simp [h]), ← List.filter_append, List.take_append_drop, e]
theorem appF_filter (p : Int → Bool) : ∀ (ms : List Shift) (o out : List Int), (∀ m ∈ ms, p m.Number = false) → appF o ms = (out, 0) → out.filter p = o.filter p
  | [], o, out, _, h => by
    rw [appF] at h
    injection h with h _
    rw [h]
  | m :: ms, o, out, hm, h => by
    rw [appF] at h
    split at h
    · rw [appF_filter p ms _ out (fun x hx => hm x (List.mem_cons_of_mem _ hx)) h, appStep_filter o m p (hm m (List.mem_cons_self ..))]
    · rename_i hne
      injection h with _ h
      exact absurd h hne
theorem above_of_rise : ∀ (L : List Int) (x : Int), L.Pairwise (· < ·) → (∀ y ∈ L, x < y) → Above x L
  | [], _, _, _ => trivial
  | y :: L, x, h, h' => by
    rw [List.pairwise_cons] at h
    exact ⟨h' y (List.mem_cons_self ..), above_of_rise L y h.2 h.1⟩
theorem lis_longest {l M : List Int} {x : Int} (hs : M.Sublist l) (hr : M.Pairwise (· < ·)) (hx : ∀ y ∈ M, x < y) : M.length ≤ (lis x l).length := by
  have := lis_best l x M hs (above_of_rise M x hr hx)
  simp only [btr, Bool.or_eq_false_iff, decide_eq_false_iff_not] at this
  omega
theorem nodup_le : ∀ (L M : List Int), L.Nodup → (∀ x ∈ L, x ∈ M) → L.length ≤ M.length
  | [], _, _, _ => Nat.zero_le _
  | x :: L, M, hn, hs => by
    rw [List.nodup_cons] at hn
    have hx := hs x (List.mem_cons_self ..)
    have := nodup_le L (M.erase x) hn.2 fun y hy => by
      have : y ≠ x := fun e => hn.1 (by rw [← e]; exact hy)
      exact (List.mem_erase_of_ne this).2 (hs y (List.mem_cons_of_mem _ hy))
    rw [List.length_erase_of_mem hx] at this
    have := List.length_pos_of_mem hx
    simp only [List.length_cons]; omega
theorem fewest {l out : List Int} {ms : List Shift} (hn : l.Nodup) (h0 : ∀ x ∈ l, 0 < x) (h : appF l ms = (out, 0)) (hs : out.Pairwise (· ≤ ·)) : l.length ≤ (lis 0 l).length + ms.length := by
  have hf := appF_filter (fun x => !decide (x ∈ ms.map Shift.Number)) ms l out (fun m hm => by
    simp only [Bool.not_eq_false', decide_eq_true_eq]
    exact List.mem_map_of_mem hm) h
  have hnk : (l.filter fun x => !decide (x ∈ ms.map Shift.Number)).Nodup := hn.sublist List.filter_sublist
  have hr : (l.filter fun x => !decide (x ∈ ms.map Shift.Number)).Pairwise (· < ·) := by
    refine List.Pairwise.imp₂ (fun a b h1 h2 => ?_) (show (l.filter fun x => !decide (x ∈ ms.map Shift.Number)).Pairwise (· ≤ ·) from by rw [← hf]; exact hs.sublist List.filter_sublist) hnk
    omega
  have h1 := lis_longest (x := 0) (List.filter_sublist (l := l)) hr (fun y hy => h0 y (List.mem_filter.1 hy).1)
  have h2 := nodup_le (l.filter fun x => decide (x ∈ ms.map Shift.Number)) (ms.map Shift.Number) (hn.sublist List.filter_sublist) (fun x hx => by simpa using (List.mem_filter.1 hx).2)
  rw [List.length_map] at h2
  have h3 := (List.filter_append_perm (fun x => decide (x ∈ ms.map Shift.Number)) l).length_eq
  rw [List.length_append] at h3
  omega
end Go.Sx.T
