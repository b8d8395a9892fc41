/- The closed facts of FnLeast' row. -/
import Derived.Test.YtangdbjoflnobaaGreatDoorTie
import Derived.Test.YtangdbjoflnobaaGreatDoorCards
import Derived.ProofKit
import Derived.OpenShut
import Derived.LaidMore
import Derived.Lay
import Derived.SevenTiedAt
import Derived.Stop.Joined
namespace Go.Proofs.YtangdbjoflnobaaGreatDoor
open Go Go.ChangeShapes Go.WideShapes Go.ChangeAt Go.RowKit
set_option linter.unusedVariables false

theorem bAnd' {a b : Bool} (h1 : a = true) (h2 : b = true) : (a && b) = true := by rw [h1, h2]; rfl
theorem least_named : Tryz.prog.funcNamed "whittle/whittlelaw7.FnLeast" = some 5 := by kernel_rfl
set_option maxHeartbeats 40000000 in
theorem least_joined : joinedFacts Tryz.prog 5 Tryz.f5 Rows.fnLeastSpec Rows.fnLeastRow = true := by
  unfold joinedFacts
  repeat' with_reducible apply bAnd'
  all_goals (as_aux_lemma => kernel_rfl)
set_option maxHeartbeats 40000000 in
theorem least_inst : Tryz.f5.isInstance Tryz.prog Rows.fnLeastRow.origin Rows.fnLeastRow.targs := of_decide_eq_true (by kernel_rfl)
set_option maxHeartbeats 40000000 in
theorem least_wrap : Tryz.f5.isWrapper Tryz.prog Rows.fnLeastRow.wrapper Rows.fnLeastRow.mainSum := by
  unfold Func.isWrapper; first | (rw [if_pos (by decide +kernel)]; kernel_rfl) | (rw [if_neg (by decide +kernel)]; exact ⟨rfl, rfl⟩)
set_option maxHeartbeats 40000000 in
theorem least_wf : Rows.fnLeastRow.wfByText (OpenSpec.ofChange Rows.fnLeastSpec) = true := by kernel_rfl
theorem least_main : Tryz.prog.mainIs = some (Rows.fnLeastCard.stood.harness.1, Rows.fnLeastCard.stood.harness.2.toList) := by kernel_rfl
theorem least_looks : false = Tryz.prog.looks [] := by kernel_rfl
theorem least_stand : ([39, 3].all fun u => !Tryz.prog.wantsStandIn u) = true := by kernel_rfl
set_option maxHeartbeats 40000000 in
theorem least_goes : false = Rows.fnLeastRow.goesBy Tryz.prog := by kernel_rfl
end Go.Proofs.YtangdbjoflnobaaGreatDoor
