/- The closed facts of FnRests' row. -/
import Derived.Test.YtnimenpfojcehaaGreatDoorTie
import Derived.Test.YtnimenpfojcehaaGreatDoorCards
import Derived.ProofKit
import Derived.OpenShut
import Derived.LaidMore
import Derived.Lay
import Derived.SevenTiedAt
import Derived.Stop.Joined
namespace Go.Proofs.YtnimenpfojcehaaGreatDoor
open Go Go.ChangeShapes Go.WideShapes Go.ChangeAt Go.RowKit
set_option linter.unusedVariables false

theorem bAnd' {a b : Bool} (h1 : a = true) (h2 : b = true) : (a && b) = true := by rw [h1, h2]; rfl
theorem rests_named : Tryz.prog.funcNamed "whittle/whittlelaw7.FnRests" = some 3 := by kernel_rfl
set_option maxHeartbeats 40000000 in
theorem rests_joined : joinedFacts Tryz.prog 3 Tryz.f3 Rows.fnRestsSpec Rows.fnRestsRow = true := by
  unfold joinedFacts
  repeat' with_reducible apply bAnd'
  all_goals (as_aux_lemma => kernel_rfl)
set_option maxHeartbeats 40000000 in
theorem rests_inst : Tryz.f3.isInstance Tryz.prog Rows.fnRestsRow.origin Rows.fnRestsRow.targs := of_decide_eq_true (by kernel_rfl)
set_option maxHeartbeats 40000000 in
theorem rests_wrap : Tryz.f3.isWrapper Tryz.prog Rows.fnRestsRow.wrapper Rows.fnRestsRow.mainSum := by
  unfold Func.isWrapper; first | (rw [if_pos (by decide +kernel)]; kernel_rfl) | (rw [if_neg (by decide +kernel)]; exact ⟨rfl, rfl⟩)
set_option maxHeartbeats 40000000 in
theorem rests_wf : Rows.fnRestsRow.wfByText (OpenSpec.ofChange Rows.fnRestsSpec) = true := by kernel_rfl
theorem rests_main : Tryz.prog.mainIs = some (Rows.fnRestsCard.stood.harness.1, Rows.fnRestsCard.stood.harness.2.toList) := by kernel_rfl
theorem rests_looks : false = Tryz.prog.looks [] := by kernel_rfl
theorem rests_stand : ([3, 22].all fun u => !Tryz.prog.wantsStandIn u) = true := by kernel_rfl
set_option maxHeartbeats 40000000 in
theorem rests_goes : false = Rows.fnRestsRow.goesBy Tryz.prog := by kernel_rfl
end Go.Proofs.YtnimenpfojcehaaGreatDoor
