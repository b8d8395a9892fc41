/- The closed facts of FnApplies' row. -/
import Derived.Test.YtglngfaagjgpjaaGreatDoorTie
import Derived.Test.YtglngfaagjgpjaaGreatDoorCards
import Derived.ProofKit
import Derived.OpenShut
import Derived.LaidMore
import Derived.Lay
import Derived.SevenTiedAt
import Derived.Stop.Joined
namespace Go.Proofs.YtglngfaagjgpjaaGreatDoor
open Go Go.ChangeShapes Go.WideShapes Go.ChangeAt Go.RowKit
set_option linter.unusedVariables false

theorem bAnd' {a b : Bool} (h1 : a = true) (h2 : b = true) : (a && b) = true := by rw [h1, h2]; rfl
theorem applies_named : Tryz.prog.funcNamed "whittle/whittlelaw7.FnApplies" = some 3 := by kernel_rfl
set_option maxHeartbeats 40000000 in
theorem applies_joined : joinedFacts Tryz.prog 3 Tryz.f3 Rows.fnAppliesSpec Rows.fnAppliesRow = true := by
  unfold joinedFacts
  repeat' with_reducible apply bAnd'
  all_goals (as_aux_lemma => kernel_rfl)
set_option maxHeartbeats 40000000 in
theorem applies_inst : Tryz.f3.isInstance Tryz.prog Rows.fnAppliesRow.origin Rows.fnAppliesRow.targs := of_decide_eq_true (by kernel_rfl)
set_option maxHeartbeats 40000000 in
theorem applies_wrap : Tryz.f3.isWrapper Tryz.prog Rows.fnAppliesRow.wrapper Rows.fnAppliesRow.mainSum := by
  unfold Func.isWrapper; first | (rw [if_pos (by decide +kernel)]; kernel_rfl) | (rw [if_neg (by decide +kernel)]; exact ⟨rfl, rfl⟩)
set_option maxHeartbeats 40000000 in
theorem applies_wf : Rows.fnAppliesRow.wfByText (OpenSpec.ofChange Rows.fnAppliesSpec) = true := by kernel_rfl
theorem applies_main : Tryz.prog.mainIs = some (Rows.fnAppliesCard.stood.harness.1, Rows.fnAppliesCard.stood.harness.2.toList) := by kernel_rfl
theorem applies_looks : false = Tryz.prog.looks [] := by kernel_rfl
theorem applies_stand : ([3, 22].all fun u => !Tryz.prog.wantsStandIn u) = true := by kernel_rfl
set_option maxHeartbeats 40000000 in
theorem applies_goes : false = Rows.fnAppliesRow.goesBy Tryz.prog := by kernel_rfl
end Go.Proofs.YtglngfaagjgpjaaGreatDoor
