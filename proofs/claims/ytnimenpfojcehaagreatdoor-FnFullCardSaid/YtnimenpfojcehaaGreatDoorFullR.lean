/- The closed facts of FnFull' row. -/
import Derived.Test.YtnimenpfojcehaaGreatDoorTie
import Derived.Test.YtnimenpfojcehaaGreatDoorCards
import Derived.ProofKit
import Derived.OpenShut
import Derived.LaidMore
import Derived.Lay
import Derived.SevenTiedAt
import Derived.Stop.Joined
namespace Go.Proofs.YtnimenpfojcehaaGreatDoor
open Go Go.ChangeShapes Go.WideShapes Go.ChangeAt Go.RowKit
set_option linter.unusedVariables false

theorem bAnd' {a b : Bool} (h1 : a = true) (h2 : b = true) : (a && b) = true := by rw [h1, h2]; rfl
theorem full_named : Tryz.prog.funcNamed "whittle/whittlelaw7.FnFull" = some 4 := by kernel_rfl
set_option maxHeartbeats 40000000 in
theorem full_joined : joinedFacts Tryz.prog 4 Tryz.f4 Rows.fnFullSpec Rows.fnFullRow = true := by
  unfold joinedFacts
  repeat' with_reducible apply bAnd'
  all_goals (as_aux_lemma => kernel_rfl)
set_option maxHeartbeats 40000000 in
theorem full_inst : Tryz.f4.isInstance Tryz.prog Rows.fnFullRow.origin Rows.fnFullRow.targs := of_decide_eq_true (by kernel_rfl)
set_option maxHeartbeats 40000000 in
theorem full_wrap : Tryz.f4.isWrapper Tryz.prog Rows.fnFullRow.wrapper Rows.fnFullRow.mainSum := by
  unfold Func.isWrapper; first | (rw [if_pos (by decide +kernel)]; kernel_rfl) | (rw [if_neg (by decide +kernel)]; exact ⟨rfl, rfl⟩)
set_option maxHeartbeats 40000000 in
theorem full_wf : Rows.fnFullRow.wfByText (OpenSpec.ofChange Rows.fnFullSpec) = true := by kernel_rfl
theorem full_main : Tryz.prog.mainIs = some (Rows.fnFullCard.stood.harness.1, Rows.fnFullCard.stood.harness.2.toList) := by kernel_rfl
theorem full_looks : false = Tryz.prog.looks [] := by kernel_rfl
theorem full_stand : ([3, 41].all fun u => !Tryz.prog.wantsStandIn u) = true := by kernel_rfl
set_option maxHeartbeats 40000000 in
theorem full_goes : false = Rows.fnFullRow.goesBy Tryz.prog := by kernel_rfl
end Go.Proofs.YtnimenpfojcehaaGreatDoor
