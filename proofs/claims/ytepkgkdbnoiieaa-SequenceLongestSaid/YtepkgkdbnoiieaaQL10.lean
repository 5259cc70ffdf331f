/- Contracts of functions of the program, each proved by running its code symbolically (QL10). -/
import Derived.Test.YtepkgkdbnoiieaaQW2
import Derived.Test.YtepkgkdbnoiieaaQX10
/- SequenceLongest returns true for every input. No condition: every input. -/
namespace Go.Proofs.Ytepkgkdbnoiieaa
open Go Go.Sx Go.Sx.T Go.ChangeShapes Go.WideShapes Go.ChangeAt Go.RowKit
set_option linter.unusedVariables false
set_option maxRecDepth 100000
theorem longest_holds_lifted (os : Os) (started : os.Started) (H : Type) (enc : TypeId × Value → H) :
    ReturnsInHanded {} Try.checked os 10 .any (Rows.sequenceLongestSpec.pre6 enc Try.prog Try.f10 Rows.sequenceLongestRow.domain false) (Rows.sequenceLongestSpec.post enc Try.prog Try.f10 false true false false) := by
  refine returnsInHanded_of_change (C := Try.checked) own started (by kernel_rfl) Try.func10
    (ChangeSpec.witness6 (enc := enc) (C := Try.checked) false ⟨#[], #[.slice none 0 0, .int .u16 0], []⟩ 8 (by kernel_rfl) (by kernel_rfl) (by kernel_rfl) (by kernel_rfl)) ?_
  intro W base args ds gs before hval0 hW hcnd _
  have hval : ∀ (j : Nat) t v, Try.f10.params[j]? = some t → args[j]? = some v → Value.okWide Try.prog W .any base t v := hval0
  have hW' := hW
  obtain ⟨p, q, hA0, hV, rfl, hfz, hnd⟩ := hW
  have hA : DataW.TrodAll enc Try.prog W 0 (fun _ => true) true Try.f10.params.toList args.toList ds p := hA0
  rw [Try.params10] at hA hval
  have hAll := hA
  obtain ⟨v0, vs0, d0, ds0, p0, q0, hargs, rfl, rfl, h0, r0⟩ := trodAll_cons hA
  obtain ⟨v1, vs1, d1, ds1, p1, q1, rfl, rfl, rfl, h1, r1⟩ := trodAll_cons r0
  obtain ⟨rfl, rfl, rfl⟩ := trodAll_nil r1
  obtain rfl : args = #[v0, v1] := by cases args; simp_all
  obtain ⟨rfl, rfl⟩ := trodVars_none hV
  obtain ⟨a0, len0, cap0, rfl⟩ := okWide_slice Try.underlying22 (hval 0 22 v0 rfl rfl)
  obtain ⟨n1, rfl⟩ := okWide_int Try.underlying53 (hval 1 53 v1 rfl rfl)
  obtain ⟨x0, hx0, e0⟩ := arg_one rdInts rfl h0
  obtain ⟨x1, hx1, e1⟩ := arg_one rdU16 rfl h1
  refine ((s10 x0 x1 hx1).law (vs := #[.slice a0 len0 cap0, .int .u16 n1]) rfl (fun i s v hs hv => ?_)).mono fun e W' ⟨he, bel⟩ => ?_
  · match i, hs, hv with
    | 0, hs, hv => cases hs; cases hv; exact e0
    | 1, hs, hv => cases hs; cases hv; exact e1
    | i + 2, hs, _ => cases hs
  · subst he
    exact ⟨_, rfl, _, _, _, [], _, [], hW', trodAll_mk1 (shut_bool Try.underlying4 _), below_trodAll laidOut bel (by kernel_rfl) hAll, rfl, bel.frame _, fun h => by cases h⟩
theorem longest_holds : Rows.SequenceLongestSaid :=
  OpenClaim.holds_of_wide 10 Try.f10 rfl rfl rfl rfl rfl rfl rfl ⟨rfl, rfl, rfl, rfl, rfl⟩ rfl rfl rfl rfl rfl (by kernel_rfl) Try.func10 (by kernel_rfl)
    (of_decide_eq_true (by kernel_rfl)) (by unfold Func.isWrapper; first | (rw [if_pos (by decide +kernel)]; kernel_rfl) | (rw [if_neg (by decide +kernel)]; exact ⟨rfl, rfl⟩))
    (fun os started H enc _ => longest_holds_lifted os started H enc)
#print axioms longest_holds
end Go.Proofs.Ytepkgkdbnoiieaa
