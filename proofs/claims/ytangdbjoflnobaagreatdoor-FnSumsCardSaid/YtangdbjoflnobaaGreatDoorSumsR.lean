/- The closed facts of FnSums' row. -/
import Derived.Test.YtangdbjoflnobaaGreatDoorTie
import Derived.Test.YtangdbjoflnobaaGreatDoorCards
import Derived.ProofKit
import Derived.OpenShut
import Derived.LaidMore
import Derived.Lay
import Derived.SevenTiedAt
import Derived.Stop.Joined
namespace Go.Proofs.YtangdbjoflnobaaGreatDoor
open Go Go.ChangeShapes Go.WideShapes Go.ChangeAt Go.RowKit
set_option linter.unusedVariables false

theorem bAnd' {a b : Bool} (h1 : a = true) (h2 : b = true) : (a && b) = true := by rw [h1, h2]; rfl
theorem sums_named : Tryz.prog.funcNamed "whittle/whittlelaw7.FnSums" = some 9 := by kernel_rfl
set_option maxHeartbeats 40000000 in
theorem sums_joined : joinedFacts Tryz.prog 9 Tryz.f9 Rows.fnSumsSpec Rows.fnSumsRow = true := by
  unfold joinedFacts
  repeat' with_reducible apply bAnd'
  all_goals (as_aux_lemma => kernel_rfl)
set_option maxHeartbeats 40000000 in
theorem sums_inst : Tryz.f9.isInstance Tryz.prog Rows.fnSumsRow.origin Rows.fnSumsRow.targs := of_decide_eq_true (by kernel_rfl)
set_option maxHeartbeats 40000000 in
theorem sums_wrap : Tryz.f9.isWrapper Tryz.prog Rows.fnSumsRow.wrapper Rows.fnSumsRow.mainSum := by
  unfold Func.isWrapper; first | (rw [if_pos (by decide +kernel)]; kernel_rfl) | (rw [if_neg (by decide +kernel)]; exact ⟨rfl, rfl⟩)
set_option maxHeartbeats 40000000 in
theorem sums_wf : Rows.fnSumsRow.wfByText (OpenSpec.ofChange Rows.fnSumsSpec) = true := by kernel_rfl
theorem sums_main : Tryz.prog.mainIs = some (Rows.fnSumsCard.stood.harness.1, Rows.fnSumsCard.stood.harness.2.toList) := by kernel_rfl
theorem sums_looks : false = Tryz.prog.looks [] := by kernel_rfl
theorem sums_stand : ([39].all fun u => !Tryz.prog.wantsStandIn u) = true := by kernel_rfl
set_option maxHeartbeats 40000000 in
theorem sums_goes : false = Rows.fnSumsRow.goesBy Tryz.prog := by kernel_rfl
end Go.Proofs.YtangdbjoflnobaaGreatDoor
