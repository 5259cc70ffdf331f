/- Contracts of functions of the program, each proved by running its code symbolically (PL). -/
import Derived.Test.YtjhimnlbgmlcdaaPG
import Derived.Test.YtjhimnlbgmlcdaaSx2
import Derived.Test.YtjhimnlbgmlcdaaRows
namespace Go.Proofs.Ytjhimnlbgmlcdaa
open Go Go.Sx Go.Sx.T Go.ChangeShapes Go.WideShapes Go.ChangeAt Go.RowKit
set_option linter.unusedVariables false
set_option maxRecDepth 100000
theorem own : ownKnob Try.prog.godebug = none := by kernel_rfl
theorem laidOut : laidOutB Try.prog = true := by kernel_rfl
theorem rdI : Rd Try.prog 3 (fun n : Int => [.int .i64 n]) (InK .i64) := rd_int Try.underlying3
theorem rdIs : Rd Try.prog 23 (fun l : List Int => [ints l]) (fun l => l.length ≤ maxLen ∧ ∀ a ∈ l, InK .i64 a) := rd_slice 0 Try.underlying23 (by kernel_rfl) (by decide) rdI
theorem rdSpan : Rd Try.prog 29 (fun p : Int × Int => [.int .i64 p.1, .int .i64 p.2]) (fun p => InK .i64 p.1 ∧ InK .i64 p.2) :=
  (rd_struct 2 Try.underlying29 rfl (by kernel_rfl) (rdSeg_cons rdI (by kernel_rfl) (fun _ => rfl) (rdSeg_cons rdI (by kernel_rfl) (fun _ => rfl) rdSeg_nil)) (fun _ => rfl)).map (fun p => (p.1, p.2.1)) (fun p h => ⟨⟨h.1, h.2.1⟩, rfl⟩)
def inKP (p : Permit) : Prop := InK .i64 p.ID ∧ InK .i64 p.Reader ∧ InK .i64 p.Unit ∧ InK .i64 p.Kinds ∧ InK .i64 p.From ∧ InK .i64 p.Until
theorem rdPermit : Rd Try.prog 31 Permit.cells inKP :=
  (rd_struct 6 Try.underlying31 rfl (by kernel_rfl) (rdSeg_cons rdI (by kernel_rfl) (fun _ => rfl) (rdSeg_cons rdI (by kernel_rfl) (fun _ => rfl) (rdSeg_cons rdI (by kernel_rfl) (fun _ => rfl) (rdSeg_cons rdI (by kernel_rfl) (fun _ => rfl) (rdSeg_cons (k := 2) rdSpan (by kernel_rfl) (fun _ => rfl) rdSeg_nil))))) (fun _ => rfl)).map
    (fun p => ⟨p.1, p.2.1, p.2.2.1, p.2.2.2.1, p.2.2.2.2.1.1, p.2.2.2.2.1.2⟩) (fun p h => ⟨⟨h.1, h.2.1, h.2.2.1, h.2.2.2.1, h.2.2.2.2.1.1, h.2.2.2.2.1.2⟩, rfl⟩)
theorem rdPermits : Rd Try.prog 22 (fun l : List Permit => [permits l]) (fun l => l.length ≤ maxLen ∧ ∀ a ∈ l, inKP a) := rd_slice default Try.underlying22 (by kernel_rfl) (by decide) rdPermit
structure Ask where
  reader : Int
  path : List Int
  kind : Int
  day : Int
theorem rdAsked : Rd Try.prog 25 (fun x : Ask => [.int .i64 x.reader, ints x.path, .int .i64 x.kind, .int .i64 x.day]) (fun x => InK .i64 x.reader ∧ (x.path.length ≤ maxLen ∧ ∀ a ∈ x.path, InK .i64 a) ∧ InK .i64 x.kind ∧ InK .i64 x.day) :=
  (rd_struct 4 Try.underlying25 rfl (by kernel_rfl) (rdSeg_cons rdI (by kernel_rfl) (fun _ => rfl) (rdSeg_cons rdIs (by kernel_rfl) (fun _ => rfl) (rdSeg_cons rdI (by kernel_rfl) (fun _ => rfl) (rdSeg_cons rdI (by kernel_rfl) (fun _ => rfl) rdSeg_nil)))) (fun _ => rfl)).map
    (fun p => ⟨p.1, p.2.1, p.2.2.1, p.2.2.2.1⟩) (fun p h => ⟨⟨h.1, h.2.1, h.2.2.1, h.2.2.2.1⟩, rfl⟩)

theorem checks_lifted (os : Os) (started : os.Started) (H : Type) (enc : TypeId × Value → H) :
    ReturnsInHanded {} Try.checked os 3 .any (Rows.permitChecksSpec.pre6 enc Try.prog Try.f3 Rows.permitChecksRow.domain false) (Rows.permitChecksSpec.post enc Try.prog Try.f3 false true false false) := by
  refine returnsInHanded_of_change (C := Try.checked) own started (by kernel_rfl) Try.func3
    (ChangeSpec.witness6 (enc := enc) (C := Try.checked) false ⟨#[], #[.slice none 0 0, .agg #[.int .i64 0, .slice none 0 0, .int .i64 0, .int .i64 0]], []⟩ 8 (by kernel_rfl) (by kernel_rfl) (by kernel_rfl) (by kernel_rfl)) ?_
  intro W base args ds gs before hval0 hW hcnd _
  have hval : ∀ (j : Nat) t v, Try.f3.params[j]? = some t → args[j]? = some v → Value.okWide Try.prog W .any base t v := hval0
  have hW' := hW
  obtain ⟨p, q, hA0, hV, rfl, hfz, hnd⟩ := hW
  have hA : DataW.TrodAll enc Try.prog W 0 (fun _ => true) true Try.f3.params.toList args.toList ds p := hA0
  rw [Try.params3] at hA hval
  have hAll := hA
  obtain ⟨v0, vs0, d0, ds0, p0, q0, hargs, rfl, rfl, h0, r0⟩ := trodAll_cons hA
  obtain ⟨v1, vs1, d1, ds1, p1, q1, rfl, rfl, rfl, h1, r1⟩ := trodAll_cons r0
  obtain ⟨rfl, rfl, rfl⟩ := trodAll_nil r1
  obtain rfl : args = #[v0, v1] := by cases args; simp_all
  obtain ⟨rfl, rfl⟩ := trodVars_none hV
  obtain ⟨a0, len0, cap0, rfl⟩ := okWide_slice Try.underlying22 (hval 0 22 v0 rfl rfl)
  obtain ⟨cs1, rfl, _⟩ := okWide_struct Try.underlying25 (hval 1 25 v1 rfl rfl)
  obtain ⟨l, _, e0⟩ := arg_one rdPermits rfl h0
  obtain ⟨x, _, e1⟩ := arg_agg rdAsked ⟨_, rfl⟩ h1
  refine ((s3 l x.reader x.path x.kind x.day).law (vs := #[.slice a0 len0 cap0, .agg cs1]) rfl (fun i s v hs hv => ?_)).mono fun e W' ⟨he, bel⟩ => ?_
  · match i, hs, hv with
    | 0, hs, hv => cases hs; cases hv; exact e0
    | 1, hs, hv => cases hs; cases hv; exact e1
    | i + 2, hs, _ => cases hs
  · subst he
    exact ⟨_, rfl, _, _, _, [], _, [], hW', trodAll_mk1 (shut_bool Try.underlying4 _), below_trodAll laidOut bel (by kernel_rfl) hAll, rfl, bel.frame _, fun h => by cases h⟩
theorem checks_holds : Rows.PermitChecksSaid :=
  OpenClaim.holds_of_wide 3 Try.f3 rfl rfl rfl rfl rfl rfl rfl ⟨rfl, rfl, rfl, rfl, rfl⟩ rfl rfl rfl rfl rfl (by kernel_rfl) Try.func3 (by kernel_rfl)
    (of_decide_eq_true (by kernel_rfl)) (by unfold Func.isWrapper; first | (rw [if_pos (by decide +kernel)]; kernel_rfl) | (rw [if_neg (by decide +kernel)]; exact ⟨rfl, rfl⟩))
    (fun os started H enc _ => checks_lifted os started H enc)
#print axioms checks_holds
end Go.Proofs.Ytjhimnlbgmlcdaa
