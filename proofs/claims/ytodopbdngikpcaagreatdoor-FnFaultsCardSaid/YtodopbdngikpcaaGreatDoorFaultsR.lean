/- The closed facts of FnFaults' row. -/
import Derived.Test.YtodopbdngikpcaaGreatDoorTie
import Derived.Test.YtodopbdngikpcaaGreatDoorCards
import Derived.ProofKit
import Derived.OpenShut
import Derived.LaidMore
import Derived.Lay
import Derived.SevenTiedAt
import Derived.Stop.Joined
namespace Go.Proofs.YtodopbdngikpcaaGreatDoor
open Go Go.ChangeShapes Go.WideShapes Go.ChangeAt Go.RowKit
set_option linter.unusedVariables false

theorem bAnd' {a b : Bool} (h1 : a = true) (h2 : b = true) : (a && b) = true := by rw [h1, h2]; rfl
theorem faults_named : Tryz.prog.funcNamed "whittle/whittlelaw7.FnFaults" = some 4 := by kernel_rfl
set_option maxHeartbeats 40000000 in
theorem faults_joined : joinedFacts Tryz.prog 4 Tryz.f4 Rows.fnFaultsSpec Rows.fnFaultsRow = true := by
  unfold joinedFacts
  repeat' with_reducible apply bAnd'
  all_goals (as_aux_lemma => kernel_rfl)
set_option maxHeartbeats 40000000 in
theorem faults_inst : Tryz.f4.isInstance Tryz.prog Rows.fnFaultsRow.origin Rows.fnFaultsRow.targs := of_decide_eq_true (by kernel_rfl)
set_option maxHeartbeats 40000000 in
theorem faults_wrap : Tryz.f4.isWrapper Tryz.prog Rows.fnFaultsRow.wrapper Rows.fnFaultsRow.mainSum := by
  unfold Func.isWrapper; first | (rw [if_pos (by decide +kernel)]; kernel_rfl) | (rw [if_neg (by decide +kernel)]; exact ⟨rfl, rfl⟩)
set_option maxHeartbeats 40000000 in
theorem faults_wf : Rows.fnFaultsRow.wfByText (OpenSpec.ofChange Rows.fnFaultsSpec) = true := by kernel_rfl
theorem faults_main : Tryz.prog.mainIs = some (Rows.fnFaultsCard.stood.harness.1, Rows.fnFaultsCard.stood.harness.2.toList) := by kernel_rfl
theorem faults_looks : false = Tryz.prog.looks [] := by kernel_rfl
theorem faults_stand : ([3, 22].all fun u => !Tryz.prog.wantsStandIn u) = true := by kernel_rfl
set_option maxHeartbeats 40000000 in
theorem faults_goes : false = Rows.fnFaultsRow.goesBy Tryz.prog := by kernel_rfl
end Go.Proofs.YtodopbdngikpcaaGreatDoor
