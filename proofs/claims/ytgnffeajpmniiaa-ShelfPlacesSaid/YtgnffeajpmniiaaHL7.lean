/- Contracts of functions of the program, each proved by running its code symbolically (HL7). -/
import Derived.Test.YtgnffeajpmniiaaHW
import Derived.Test.YtgnffeajpmniiaaH5
/- Place returns the stands with one more box, or the first error, as the reference does, and Remove those without a box; for a store of up to 20 shelves, 20 boxes and 30 stands. No condition: every input. -/
namespace Go.Proofs.Ytgnffeajpmniiaa
open Go Go.Sx Go.Sx.T Go.ChangeShapes Go.WideShapes Go.ChangeAt Go.RowKit
set_option linter.unusedVariables false
set_option maxRecDepth 100000
theorem places_holds_lifted (os : Os) (started : os.Started) (H : Type) (enc : TypeId × Value → H) :
    ReturnsInHanded {} Try.checked os 7 .any (Rows.shelfPlacesSpec.pre6 enc Try.prog Try.f7 Rows.shelfPlacesRow.domain false) (Rows.shelfPlacesSpec.post enc Try.prog Try.f7 false true false false) := by
  refine returnsInHanded_of_change (C := Try.checked) own started (by kernel_rfl) Try.func7
    (ChangeSpec.witness6 (enc := enc) (C := Try.checked) false ⟨#[], #[.agg #[.slice none 0 0, .slice none 0 0, .slice none 0 0], .agg #[.int .i64 0, .int .i64 0, .int .i64 0], .int .i64 0], []⟩ 8 (by kernel_rfl) (by kernel_rfl) (by kernel_rfl) (by kernel_rfl)) ?_
  intro W base args ds gs before hval0 hW hcnd _
  have hval : ∀ (j : Nat) t v, Try.f7.params[j]? = some t → args[j]? = some v → Value.okWide Try.prog W .any base t v := hval0
  have hW' := hW
  obtain ⟨p, q, hA0, hV, rfl, hfz, hnd⟩ := hW
  have hA : DataW.TrodAll enc Try.prog W 0 (fun _ => true) true Try.f7.params.toList args.toList ds p := hA0
  rw [Try.params7] at hA hval
  have hAll := hA
  obtain ⟨v0, vs0, d0, ds0, p0, q0, hargs, rfl, rfl, h0, r0⟩ := trodAll_cons hA
  obtain ⟨v1, vs1, d1, ds1, p1, q1, rfl, rfl, rfl, h1, r1⟩ := trodAll_cons r0
  obtain ⟨v2, vs2, d2, ds2, p2, q2, rfl, rfl, rfl, h2, r2⟩ := trodAll_cons r1
  obtain ⟨rfl, rfl, rfl⟩ := trodAll_nil r2
  obtain rfl : args = #[v0, v1, v2] := by cases args; simp_all
  obtain ⟨rfl, rfl⟩ := trodVars_none hV
  obtain ⟨cs0, rfl, _⟩ := okWide_struct Try.underlying26 (hval 0 26 v0 rfl rfl)
  obtain ⟨cs1, rfl, _⟩ := okWide_array Try.underlying36 (hval 1 36 v1 rfl rfl)
  obtain ⟨n2, rfl⟩ := okWide_int Try.underlying3 (hval 2 3 v2 rfl rfl)
  obtain ⟨x0, hx0, e0⟩ := arg_agg rdStore ⟨_, rfl⟩ h0
  obtain ⟨x1, hx1, e1⟩ := arg_agg rdThree ⟨_, rfl⟩ h1
  obtain ⟨x2, hx2, e2⟩ := arg_one rdI rfl h2
  refine ((s7 x0.1 x0.2.1 x0.2.2 x1.1 x1.2.1 x1.2.2 x2).law (vs := #[.agg cs0, .agg cs1, .int .i64 n2]) rfl (fun i s v hs hv => ?_)).mono fun e W' ⟨he, bel⟩ => ?_
  · match i, hs, hv with
    | 0, hs, hv => cases hs; cases hv; exact e0
    | 1, hs, hv => cases hs; cases hv; exact e1
    | 2, hs, hv => cases hs; cases hv; exact e2
    | i + 3, hs, _ => cases hs
  · subst he
    exact ⟨_, rfl, _, _, _, [], _, [], hW', trodAll_mk1 (shut_bool Try.underlying4 _), below_trodAll laidOut bel (by kernel_rfl) hAll, rfl, bel.frame _, fun h => by cases h⟩
theorem places_holds : Rows.ShelfPlacesSaid :=
  OpenClaim.holds_of_wide 7 Try.f7 rfl rfl rfl rfl rfl rfl rfl ⟨rfl, rfl, rfl, rfl, rfl⟩ rfl rfl rfl rfl rfl (by kernel_rfl) Try.func7 (by kernel_rfl)
    (of_decide_eq_true (by kernel_rfl)) (by unfold Func.isWrapper; first | (rw [if_pos (by decide +kernel)]; kernel_rfl) | (rw [if_neg (by decide +kernel)]; exact ⟨rfl, rfl⟩))
    (fun os started H enc _ => places_holds_lifted os started H enc)
#print axioms places_holds
end Go.Proofs.Ytgnffeajpmniiaa
