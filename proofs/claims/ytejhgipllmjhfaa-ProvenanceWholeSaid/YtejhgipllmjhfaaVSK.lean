/- Contracts of functions of the program, each proved by running its code symbolically (VSK). -/
import Derived.Test.YtejhgipllmjhfaaVP
import Derived.Test.YtejhgipllmjhfaaVFY
import Derived.Test.YtejhgipllmjhfaaVCY
import Derived.Test.YtejhgipllmjhfaaSxSortK
namespace Go.Sx.T
open Go Go.Proofs Go.Sx Go.Shelf Go.RowKit Go.Lib Go.Sort
set_option maxRecDepth 100000
set_option linter.unusedVariables false
set_option linter.unusedSimpArgs false
def camN (c : Came) : List Int := [c.Unit, c.Office, c.Acc, c.Num]
set_option maxHeartbeats 1000000 in
theorem closure49 (x y : Came) (W : World) : Calls Try.prog 49 #[.agg #[.int .i64 x.Unit, .int .i64 x.Office, .int .i64 x.Acc, .int .i64 x.Num], .agg #[.int .i64 y.Unit, .int .i64 y.Office, .int .i64 y.Acc, .int .i64 y.Num]] W fun e w' => e = .returned (.int .i64 (Lib.compareInt x.Num y.Num)) ∧ ∃ q os', w' = grow (W.drewN q) os' := by
  have hcon := fun W' => AnyG.cmp_Compare_int laysC5 x.Num y.Num W'
  change ∀ W', Calls Try.prog 42 _ _ _ at hcon
  generalize Lib.compareInt x.Num y.Num = r at hcon ⊢
  go_enter Try.func49, Try.ntmps49
  go_wp2_with (go_at_call 42; refine (hcon _).mono ?_; rintro e w' ⟨rfl, rfl⟩)
  go_ret
  exact ⟨rfl, 0, _, by rw [alloc_eq_grow, alloc_eq_grow, grow_grow]; rfl⟩
theorem compare_cmpI (a b : Int) : Lib.compareInt a b = cmpI a b := by
  unfold Lib.compareInt cmpI
  rfl
theorem lt_cmpN (x y : Came) : ltOf cmpN x y = decide (x.Num < y.Num) := by
  unfold ltOf cmpN
  rw [Bool.eq_iff_iff, decide_eq_true_eq, decide_eq_true_eq, cmpI_neg]
theorem swo_cmpN : SWO (ltOf cmpN) := by
  refine ⟨fun x => ?_, fun x y z h1 h2 => ?_, fun x y z h1 h2 => ?_⟩
  · rw [lt_cmpN]; simp
  · rw [lt_cmpN, decide_eq_true_eq] at *; omega
  · rw [lt_cmpN, decide_eq_false_iff_not] at *; omega
theorem s48 (l : List Came) (hl : l.length ≤ 100000) (h : l.Pairwise fun x y => x.Num ≠ y.Num) : SpecSort Try.prog 48 [] 32 4 l.length (fun i => (l.getD i default).cells) [.fn 49 []] (fun i => ((sortN l).getD i default).cells) := by
  refine sortK_spec camN 4 laysF6 (fun x => rfl) Try.isAgg32 Try.sizeOf32 cmpN swo_cmpN (hasBody_of_slim Try.func48 F48_ok) 49 [] (enters_of Try.func49 (by kernel_rfl) rfl) (fun w M cb blk size hM hden => ?_) 32 l (sortN l) (by omega) fun d hp hs => ?_
  · have hcb : cb = #[] := by
      generalize hx : (SV.fn 49 []) = x at hden
      cases hden with
      | fn f cs vs hlw hw => cases hx; exact Array.eq_empty_of_size_eq_zero hlw.symm
      | _ => cases hx
    subst hcb
    intro m os dk hd x y
    have := closure49 x y (sortWorldK (encN camN) 4 w blk 0 m dk os)
    rw [compare_cmpI] at this
    exact this
  · refine rise_eqK Came.Num ?_ (sort_strict h) fun x => by rw [hp.mem_iff, (sortN_perm l).mem_iff]
    have h1 : d.Pairwise fun x y => x.Num ≠ y.Num := (hp.pairwise_iff (fun {x y} h => Ne.symm h)).2 h
    rw [List.pairwise_iff_getElem] at h1 ⊢
    intro i j hi hj hij
    have h2 := hs i j hij hj
    have h3 := h1 i j hi hj hij
    rw [getD_of_lt d i hi, getD_of_lt d j hj] at h2
    unfold cmpN at h2
    rw [cmpI_neg] at h2
    omega
end Go.Sx.T
