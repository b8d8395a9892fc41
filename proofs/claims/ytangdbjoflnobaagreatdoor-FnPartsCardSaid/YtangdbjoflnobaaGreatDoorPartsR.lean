/- The closed facts of FnParts' row. -/
import Derived.Test.YtangdbjoflnobaaGreatDoorTie
import Derived.Test.YtangdbjoflnobaaGreatDoorCards
import Derived.ProofKit
import Derived.OpenShut
import Derived.LaidMore
import Derived.Lay
import Derived.SevenTiedAt
import Derived.Stop.Joined
namespace Go.Proofs.YtangdbjoflnobaaGreatDoor
open Go Go.ChangeShapes Go.WideShapes Go.ChangeAt Go.RowKit
set_option linter.unusedVariables false

theorem bAnd' {a b : Bool} (h1 : a = true) (h2 : b = true) : (a && b) = true := by rw [h1, h2]; rfl
theorem parts_named : Tryz.prog.funcNamed "whittle/whittlelaw7.FnParts" = some 6 := by kernel_rfl
set_option maxHeartbeats 40000000 in
theorem parts_joined : joinedFacts Tryz.prog 6 Tryz.f6 Rows.fnPartsSpec Rows.fnPartsRow = true := by
  unfold joinedFacts
  repeat' with_reducible apply bAnd'
  all_goals (as_aux_lemma => kernel_rfl)
set_option maxHeartbeats 40000000 in
theorem parts_inst : Tryz.f6.isInstance Tryz.prog Rows.fnPartsRow.origin Rows.fnPartsRow.targs := of_decide_eq_true (by kernel_rfl)
set_option maxHeartbeats 40000000 in
theorem parts_wrap : Tryz.f6.isWrapper Tryz.prog Rows.fnPartsRow.wrapper Rows.fnPartsRow.mainSum := by
  unfold Func.isWrapper; first | (rw [if_pos (by decide +kernel)]; kernel_rfl) | (rw [if_neg (by decide +kernel)]; exact ⟨rfl, rfl⟩)
set_option maxHeartbeats 40000000 in
theorem parts_wf : Rows.fnPartsRow.wfByText (OpenSpec.ofChange Rows.fnPartsSpec) = true := by kernel_rfl
theorem parts_main : Tryz.prog.mainIs = some (Rows.fnPartsCard.stood.harness.1, Rows.fnPartsCard.stood.harness.2.toList) := by kernel_rfl
theorem parts_looks : false = Tryz.prog.looks [] := by kernel_rfl
theorem parts_stand : ([31].all fun u => !Tryz.prog.wantsStandIn u) = true := by kernel_rfl
set_option maxHeartbeats 40000000 in
theorem parts_goes : false = Rows.fnPartsRow.goesBy Tryz.prog := by kernel_rfl
end Go.Proofs.YtangdbjoflnobaaGreatDoor
