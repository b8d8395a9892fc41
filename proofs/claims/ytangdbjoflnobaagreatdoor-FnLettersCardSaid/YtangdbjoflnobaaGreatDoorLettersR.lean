/- The closed facts of FnLetters' row. -/
import Derived.Test.YtangdbjoflnobaaGreatDoorTie
import Derived.Test.YtangdbjoflnobaaGreatDoorCards
import Derived.ProofKit
import Derived.OpenShut
import Derived.LaidMore
import Derived.Lay
import Derived.SevenTiedAt
import Derived.Stop.Joined
namespace Go.Proofs.YtangdbjoflnobaaGreatDoor
open Go Go.ChangeShapes Go.WideShapes Go.ChangeAt Go.RowKit
set_option linter.unusedVariables false

theorem bAnd' {a b : Bool} (h1 : a = true) (h2 : b = true) : (a && b) = true := by rw [h1, h2]; rfl
theorem letters_named : Tryz.prog.funcNamed "whittle/whittlelaw7.FnLetters" = some 7 := by kernel_rfl
set_option maxHeartbeats 40000000 in
theorem letters_joined : joinedFacts Tryz.prog 7 Tryz.f7 Rows.fnLettersSpec Rows.fnLettersRow = true := by
  unfold joinedFacts
  repeat' with_reducible apply bAnd'
  all_goals (as_aux_lemma => kernel_rfl)
set_option maxHeartbeats 40000000 in
theorem letters_inst : Tryz.f7.isInstance Tryz.prog Rows.fnLettersRow.origin Rows.fnLettersRow.targs := of_decide_eq_true (by kernel_rfl)
set_option maxHeartbeats 40000000 in
theorem letters_wrap : Tryz.f7.isWrapper Tryz.prog Rows.fnLettersRow.wrapper Rows.fnLettersRow.mainSum := by
  unfold Func.isWrapper; first | (rw [if_pos (by decide +kernel)]; kernel_rfl) | (rw [if_neg (by decide +kernel)]; exact ⟨rfl, rfl⟩)
set_option maxHeartbeats 40000000 in
theorem letters_wf : Rows.fnLettersRow.wfByText (OpenSpec.ofChange Rows.fnLettersSpec) = true := by kernel_rfl
theorem letters_main : Tryz.prog.mainIs = some (Rows.fnLettersCard.stood.harness.1, Rows.fnLettersCard.stood.harness.2.toList) := by kernel_rfl
theorem letters_looks : false = Tryz.prog.looks [] := by kernel_rfl
theorem letters_stand : ([9].all fun u => !Tryz.prog.wantsStandIn u) = true := by kernel_rfl
set_option maxHeartbeats 40000000 in
theorem letters_goes : false = Rows.fnLettersRow.goesBy Tryz.prog := by kernel_rfl
end Go.Proofs.YtangdbjoflnobaaGreatDoor
