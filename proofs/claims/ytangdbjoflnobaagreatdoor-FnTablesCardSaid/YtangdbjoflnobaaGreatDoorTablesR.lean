/- The closed facts of FnTables' row. -/
import Derived.Test.YtangdbjoflnobaaGreatDoorTie
import Derived.Test.YtangdbjoflnobaaGreatDoorCards
import Derived.ProofKit
import Derived.OpenShut
import Derived.LaidMore
import Derived.Lay
import Derived.SevenTiedAt
import Derived.Stop.Joined
namespace Go.Proofs.YtangdbjoflnobaaGreatDoor
open Go Go.ChangeShapes Go.WideShapes Go.ChangeAt Go.RowKit
set_option linter.unusedVariables false

theorem bAnd {a b : Bool} (h1 : a = true) (h2 : b = true) : (a && b) = true := by rw [h1, h2]; rfl
theorem tables_named : Tryz.prog.funcNamed "whittle/whittlelaw7.FnTables" = some 3 := by kernel_rfl
set_option maxHeartbeats 40000000 in
theorem tables_joined : joinedFacts Tryz.prog 3 Tryz.f3 Rows.fnTablesSpec Rows.fnTablesRow = true := by
  unfold joinedFacts
  repeat' with_reducible apply bAnd
  all_goals (as_aux_lemma => kernel_rfl)
set_option maxHeartbeats 40000000 in
theorem tables_inst : Tryz.f3.isInstance Tryz.prog Rows.fnTablesRow.origin Rows.fnTablesRow.targs := of_decide_eq_true (by kernel_rfl)
set_option maxHeartbeats 40000000 in
theorem tables_wrap : Tryz.f3.isWrapper Tryz.prog Rows.fnTablesRow.wrapper Rows.fnTablesRow.mainSum := by
  unfold Func.isWrapper; first | (rw [if_pos (by decide +kernel)]; kernel_rfl) | (rw [if_neg (by decide +kernel)]; exact ⟨rfl, rfl⟩)
set_option maxHeartbeats 40000000 in
theorem tables_wf : Rows.fnTablesRow.wfByText (OpenSpec.ofChange Rows.fnTablesSpec) = true := by kernel_rfl
theorem tables_main : Tryz.prog.mainIs = some (Rows.fnTablesCard.stood.harness.1, Rows.fnTablesCard.stood.harness.2.toList) := by kernel_rfl
theorem tables_looks : false = Tryz.prog.looks [] := by kernel_rfl
theorem tables_stand : ([9, 3].all fun u => !Tryz.prog.wantsStandIn u) = true := by kernel_rfl
set_option maxHeartbeats 40000000 in
theorem tables_goes : false = Rows.fnTablesRow.goesBy Tryz.prog := by kernel_rfl
end Go.Proofs.YtangdbjoflnobaaGreatDoor
