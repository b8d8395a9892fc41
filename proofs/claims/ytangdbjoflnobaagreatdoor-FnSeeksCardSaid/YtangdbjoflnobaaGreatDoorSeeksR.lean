/- The closed facts of FnSeeks' row. -/
import Derived.Test.YtangdbjoflnobaaGreatDoorTie
import Derived.Test.YtangdbjoflnobaaGreatDoorCards
import Derived.ProofKit
import Derived.OpenShut
import Derived.LaidMore
import Derived.Lay
import Derived.SevenTiedAt
import Derived.Stop.Joined
namespace Go.Proofs.YtangdbjoflnobaaGreatDoor
open Go Go.ChangeShapes Go.WideShapes Go.ChangeAt Go.RowKit
set_option linter.unusedVariables false

theorem bAnd' {a b : Bool} (h1 : a = true) (h2 : b = true) : (a && b) = true := by rw [h1, h2]; rfl
theorem seeks_named : Tryz.prog.funcNamed "whittle/whittlelaw7.FnSeeks" = some 12 := by kernel_rfl
set_option maxHeartbeats 40000000 in
theorem seeks_joined : joinedFacts Tryz.prog 12 Tryz.f12 Rows.fnSeeksSpec Rows.fnSeeksRow = true := by
  unfold joinedFacts
  repeat' with_reducible apply bAnd'
  all_goals (as_aux_lemma => kernel_rfl)
set_option maxHeartbeats 40000000 in
theorem seeks_inst : Tryz.f12.isInstance Tryz.prog Rows.fnSeeksRow.origin Rows.fnSeeksRow.targs := of_decide_eq_true (by kernel_rfl)
set_option maxHeartbeats 40000000 in
theorem seeks_wrap : Tryz.f12.isWrapper Tryz.prog Rows.fnSeeksRow.wrapper Rows.fnSeeksRow.mainSum := by
  unfold Func.isWrapper; first | (rw [if_pos (by decide +kernel)]; kernel_rfl) | (rw [if_neg (by decide +kernel)]; exact ⟨rfl, rfl⟩)
set_option maxHeartbeats 40000000 in
theorem seeks_wf : Rows.fnSeeksRow.wfByText (OpenSpec.ofChange Rows.fnSeeksSpec) = true := by kernel_rfl
theorem seeks_main : Tryz.prog.mainIs = some (Rows.fnSeeksCard.stood.harness.1, Rows.fnSeeksCard.stood.harness.2.toList) := by kernel_rfl
theorem seeks_looks : false = Tryz.prog.looks [] := by kernel_rfl
theorem seeks_stand : ([35, 31].all fun u => !Tryz.prog.wantsStandIn u) = true := by kernel_rfl
set_option maxHeartbeats 40000000 in
theorem seeks_goes : false = Rows.fnSeeksRow.goesBy Tryz.prog := by kernel_rfl
end Go.Proofs.YtangdbjoflnobaaGreatDoor
