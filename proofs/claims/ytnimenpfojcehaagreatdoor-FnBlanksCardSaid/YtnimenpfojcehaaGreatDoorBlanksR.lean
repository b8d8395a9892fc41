/- The closed facts of FnBlanks' row. -/
import Derived.Test.YtnimenpfojcehaaGreatDoorTie
import Derived.Test.YtnimenpfojcehaaGreatDoorCards
import Derived.ProofKit
import Derived.OpenShut
import Derived.LaidMore
import Derived.Lay
import Derived.SevenTiedAt
import Derived.Stop.Joined
namespace Go.Proofs.YtnimenpfojcehaaGreatDoor
open Go Go.ChangeShapes Go.WideShapes Go.ChangeAt Go.RowKit
set_option linter.unusedVariables false

theorem bAnd' {a b : Bool} (h1 : a = true) (h2 : b = true) : (a && b) = true := by rw [h1, h2]; rfl
theorem blanks_named : Tryz.prog.funcNamed "whittle/whittlelaw7.FnBlanks" = some 5 := by kernel_rfl
set_option maxHeartbeats 40000000 in
theorem blanks_joined : joinedFacts Tryz.prog 5 Tryz.f5 Rows.fnBlanksSpec Rows.fnBlanksRow = true := by
  unfold joinedFacts
  repeat' with_reducible apply bAnd'
  all_goals (as_aux_lemma => kernel_rfl)
set_option maxHeartbeats 40000000 in
theorem blanks_inst : Tryz.f5.isInstance Tryz.prog Rows.fnBlanksRow.origin Rows.fnBlanksRow.targs := of_decide_eq_true (by kernel_rfl)
set_option maxHeartbeats 40000000 in
theorem blanks_wrap : Tryz.f5.isWrapper Tryz.prog Rows.fnBlanksRow.wrapper Rows.fnBlanksRow.mainSum := by
  unfold Func.isWrapper; first | (rw [if_pos (by decide +kernel)]; kernel_rfl) | (rw [if_neg (by decide +kernel)]; exact ⟨rfl, rfl⟩)
set_option maxHeartbeats 40000000 in
theorem blanks_wf : Rows.fnBlanksRow.wfByText (OpenSpec.ofChange Rows.fnBlanksSpec) = true := by kernel_rfl
theorem blanks_main : Tryz.prog.mainIs = some (Rows.fnBlanksCard.stood.harness.1, Rows.fnBlanksCard.stood.harness.2.toList) := by kernel_rfl
theorem blanks_looks : false = Tryz.prog.looks [] := by kernel_rfl
theorem blanks_stand : ([3, 33, 22].all fun u => !Tryz.prog.wantsStandIn u) = true := by kernel_rfl
set_option maxHeartbeats 40000000 in
theorem blanks_goes : false = Rows.fnBlanksRow.goesBy Tryz.prog := by kernel_rfl
end Go.Proofs.YtnimenpfojcehaaGreatDoor
