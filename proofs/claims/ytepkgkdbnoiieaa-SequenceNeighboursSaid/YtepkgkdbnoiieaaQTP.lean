/- Contracts of functions of the program, each proved by running its code symbolically (QTP). -/
import Derived.Test.YtepkgkdbnoiieaaQV
namespace Go.Sx.T
open Go Go.Proofs Go.Sx
set_option maxRecDepth 100000
set_option maxHeartbeats 4000000
set_option linter.unusedVariables false
set_option linter.unusedSimpArgs false
/-! Pairs that stand in different orders. -/
def b01 (b : Bool) : Int := if b = true then 1 else 0
def sumI (f : Int → Int) : List Int → Int
  | [] => 0
  | x :: r => f x + sumI f r
theorem sumI_congr {f g : Int → Int} : ∀ (A : List Int), (∀ x ∈ A, f x = g x) → sumI f A = sumI g A
  | [], _ => rfl
  | x :: A, h => by rw [sumI, sumI, h x (List.mem_cons_self ..), sumI_congr A fun y hy => h y (List.mem_cons_of_mem _ hy)]
theorem sumI_zero : ∀ A, sumI (fun _ => 0) A = 0
  | [] => rfl
  | _ :: A => by rw [sumI, sumI_zero A]; rfl
/-- One number stands before another. -/
def bef : List Int → Int → Int → Bool
  | [], _, _ => false
  | x :: r, a, b => (decide (a = x) && decide (b ∈ r)) || bef r a b
theorem bef_mem : ∀ {l : List Int} {a b : Int}, bef l a b = true → a ∈ l ∧ b ∈ l
  | [], _, _, h => by simp [bef] at h
  | x :: r, a, b, h => by
    rw [bef, Bool.or_eq_true, Bool.and_eq_true, decide_eq_true_eq, decide_eq_true_eq] at h
    rcases h with ⟨h1, h2⟩ | h
    · exact ⟨by rw [h1]; exact List.mem_cons_self .., List.mem_cons_of_mem _ h2⟩
    · have := bef_mem h
      exact ⟨List.mem_cons_of_mem _ this.1, List.mem_cons_of_mem _ this.2⟩
theorem bef_irr : ∀ {l : List Int}, l.Nodup → ∀ a, bef l a a = false
  | [], _, _ => rfl
  | x :: r, hn, a => by
    rw [List.nodup_cons] at hn
    rw [bef, bef_irr hn.2 a, Bool.or_false, Bool.and_eq_false_iff, decide_eq_false_iff_not, decide_eq_false_iff_not]
    by_cases e : a = x
    · right; rw [e]; exact hn.1
    · exact .inl e
/-- Inversions of the places, as a sum over pairs. -/
def pairsD (f : Int → Int) (l S : List Int) : Int := sumI (fun a => sumI (fun b => b01 (bef l a b && decide (f b ≤ f a))) S) S
theorem cLe_sum (f : Int → Int) (x : Int) : ∀ r : List Int, cLe (f x) (r.map f) = sumI (fun b => b01 (decide (f b ≤ f x))) r
  | [] => rfl
  | y :: r => by
    rw [List.map_cons, cLe, sumI, cLe_sum f x r]
    congr 1
    unfold b01
    simp only [decide_eq_true_eq]
theorem inv_pairs (f : Int → Int) : ∀ {l : List Int}, l.Nodup → invC (l.map f) = pairsD f l l
  | [], _ => rfl
  | x :: r, hn => by
    have hn' := List.nodup_cons.1 hn
    rw [List.map_cons, invC, cLe_sum, inv_pairs f hn'.2]
    unfold pairsD
    rw [sumI]
    congr 1
    · rw [sumI]
      have h0 : b01 (bef (x :: r) x x && decide (f x ≤ f x)) = 0 := by rw [bef_irr hn x]; rfl
      rw [h0, Int.zero_add]
      refine sumI_congr r fun b hb => ?_
      have : bef (x :: r) x b = true := by rw [bef]; simp [hb]
      rw [this, Bool.true_and]
    · refine sumI_congr r fun a ha => ?_
      have hax : a ≠ x := fun e => hn'.1 (by rw [← e]; exact ha)
      rw [sumI]
      have h0 : b01 (bef (x :: r) a x && decide (f x ≤ f a)) = 0 := by
        have : bef (x :: r) a x = false := by
          rw [bef, Bool.or_eq_false_iff, Bool.and_eq_false_iff]
          refine ⟨.inl (decide_eq_false hax), ?_⟩
          cases h : bef r a x
          · rfl
          · exact absurd (bef_mem h).2 hn'.1
        rw [this]; rfl
      rw [h0, Int.zero_add]
      refine sumI_congr r fun b hb => ?_
      have : bef (x :: r) a b = bef r a b := by rw [bef, decide_eq_false hax]; rfl
      rw [this]
/-- The place of a number tells what stands before it. -/
theorem find_bef {m : List Int} (hn : m.Nodup) {a b : Int} (ha : a ∈ m) (hb : b ∈ m) (hne : a ≠ b) : decide (findI m (eqK b) ≤ findI m (eqK a)) = bef m b a := by
  induction m with
  | nil => simp at ha
  | cons x r ih =>
    have hn' := List.nodup_cons.1 hn
    have hx : findI (x :: r) (eqK x) = 0 := findI_hit (x :: r) (eqK x) 0 (by simp) (by simp [eqK]) (fun j hj => by omega)
    have hr : ∀ c, c ∈ r → findI (x :: r) (eqK c) = findI r (eqK c) + 1 ∧ 0 ≤ findI r (eqK c) := by
      intro c hc
      have hcx : c ≠ x := fun e => hn'.1 (by rw [← e]; exact hc)
      rcases findI_cases r (eqK c) with ⟨e, _, _, h1⟩ | ⟨k, hk, e, hfi, _, h1, _⟩
      · exact absurd (find_neg.1 (by rw [e]; decide)) (by simpa using hc)
      · rw [e]
        refine ⟨?_, by omega⟩
        have hfi' : List.findIdx? (eqK c) (x :: r) = some (k + 1) := by
          rw [List.findIdx?_cons, if_neg (by simp only [eqK, decide_eq_true_eq]; exact fun e => hcx e.symm), hfi]
          rfl
        unfold findI
        rw [hfi']
        rfl
    rw [bef]
    rcases List.mem_cons.1 ha with e | ha' <;> rcases List.mem_cons.1 hb with e' | hb'
    · exact absurd (e.trans e'.symm) hne
    · subst e
      obtain ⟨h1, h2⟩ := hr b hb'
      rw [hx, h1, decide_eq_false (by omega)]
      have : bef r b a = false := by
        cases h : bef r b a
        · rfl
        · exact absurd (bef_mem h).2 hn'.1
      rw [this, decide_eq_false (fun e => hne e.symm)]; rfl
    · subst e'
      obtain ⟨h1, h2⟩ := hr a ha'
      rw [hx, h1, decide_eq_true (by omega), decide_eq_true rfl, decide_eq_true ha']; rfl
    · obtain ⟨h1, _⟩ := hr a ha'
      obtain ⟨h3, _⟩ := hr b hb'
      have hbx : b ≠ x := fun e => hn'.1 (by rw [← e]; exact hb')
      rw [decide_eq_false hbx, Bool.false_and, Bool.false_or, ← ih hn'.2 ha' hb']
      exact decide_eq_decide.2 (by omega)
def disc (l m S : List Int) : Int := sumI (fun a => sumI (fun b => b01 (bef l a b && bef m b a)) S) S
theorem inv_disc {l m : List Int} (hl : l.Nodup) (hp : l.Perm m) : invC (placesL l m) = disc l m l := by
  unfold placesL
  rw [inv_pairs (fun n => findI m (eqK n)) hl]
  unfold pairsD disc
  refine sumI_congr l fun a ha => sumI_congr l fun b hb => ?_
  by_cases e : a = b
  · rw [e, bef_irr hl b]; rfl
  · rw [find_bef (hp.nodup_iff.1 hl) (hp.mem_iff.1 ha) (hp.mem_iff.1 hb) e]
end Go.Sx.T
