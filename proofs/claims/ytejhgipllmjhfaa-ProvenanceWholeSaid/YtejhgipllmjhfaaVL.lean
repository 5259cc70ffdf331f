/- Contracts of functions of the program, each proved by running its code symbolically (VL). -/
import Derived.Test.YtejhgipllmjhfaaVK
namespace Go.Sx.T
open Go Go.Proofs Go.Sx
set_option maxRecDepth 100000
set_option maxHeartbeats 4000000
set_option linter.unusedVariables false
set_option linter.unusedSimpArgs false
def fldC (b : Bool) (c : Came) : Int := if b = true then c.Office else c.Acc
theorem s22 (l : List Came) (ks : List Int) : Spec Try.prog 22 [cames l, ints ks] (.tup [ints (gatherC Came.Acc l ks).1, .int .i64 (gatherC Came.Acc l ks).2]) := by
  refine spec_of_good mixed Try.func22 F22_ok (by kernel_rfl) ?_
  refine good_run 10 (obs := []) (by kernel_rfl) trivial ?_
  refine good_call (c := True) (by kernel_rfl) (fun _ => SVles.refl _) (fun _ => s51 l ks 52 Came.Acc s52) (by kernel_rfl) ?_
  refine good_run 7 (obs := []) (by kernel_rfl) trivial ?_
  refine good_fin [List.length (gatherC Came.Acc l ks).fst = List.length (gatherC Came.Acc l ks).fst ∧ ∀ (i : Nat), i < List.length (gatherC Came.Acc l ks).fst → (fun i => [SV.int IntKind.i64 (List.getD (gatherC Came.Acc l ks).fst i (0 : Int))]) i = (fun i => [SV.int IntKind.i64 (List.getD (gatherC Came.Acc l ks).fst i (0 : Int))]) i, (gatherC Came.Acc l ks).snd = (gatherC Came.Acc l ks).snd] (by kernel_rfl) ⟨⟨rfl, fun _ _ => rfl⟩, rfl, trivial⟩
theorem s25 (l : List Came) (ks : List Int) : Spec Try.prog 25 [cames l, ints ks] (.tup [ints (gatherC Came.Office l ks).1, .int .i64 (gatherC Came.Office l ks).2]) := by
  refine spec_of_good mixed Try.func25 F25_ok (by kernel_rfl) ?_
  refine good_run 10 (obs := []) (by kernel_rfl) trivial ?_
  refine good_call (c := True) (by kernel_rfl) (fun _ => SVles.refl _) (fun _ => s51 l ks 54 Came.Office s54) (by kernel_rfl) ?_
  refine good_run 7 (obs := []) (by kernel_rfl) trivial ?_
  refine good_fin [List.length (gatherC Came.Office l ks).fst = List.length (gatherC Came.Office l ks).fst ∧ ∀ (i : Nat), i < List.length (gatherC Came.Office l ks).fst → (fun i => [SV.int IntKind.i64 (List.getD (gatherC Came.Office l ks).fst i (0 : Int))]) i = (fun i => [SV.int IntKind.i64 (List.getD (gatherC Came.Office l ks).fst i (0 : Int))]) i, (gatherC Came.Office l ks).snd = (gatherC Came.Office l ks).snd] (by kernel_rfl) ⟨⟨rfl, fun _ _ => rfl⟩, rfl, trivial⟩
end Go.Sx.T
