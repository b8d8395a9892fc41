/- The closed facts of FnCuts' row. -/
import Derived.Test.YtodopbdngikpcaaGreatDoorTie
import Derived.Test.YtodopbdngikpcaaGreatDoorCards
import Derived.ProofKit
import Derived.OpenShut
import Derived.LaidMore
import Derived.Lay
import Derived.SevenTiedAt
import Derived.Stop.Joined
namespace Go.Proofs.YtodopbdngikpcaaGreatDoor
open Go Go.ChangeShapes Go.WideShapes Go.ChangeAt Go.RowKit
set_option linter.unusedVariables false

theorem bAnd' {a b : Bool} (h1 : a = true) (h2 : b = true) : (a && b) = true := by rw [h1, h2]; rfl
theorem cuts_named : Tryz.prog.funcNamed "whittle/whittlelaw7.FnCuts" = some 5 := by kernel_rfl
set_option maxHeartbeats 40000000 in
theorem cuts_joined : joinedFacts Tryz.prog 5 Tryz.f5 Rows.fnCutsSpec Rows.fnCutsRow = true := by
  unfold joinedFacts
  repeat' with_reducible apply bAnd'
  all_goals (as_aux_lemma => kernel_rfl)
set_option maxHeartbeats 40000000 in
theorem cuts_inst : Tryz.f5.isInstance Tryz.prog Rows.fnCutsRow.origin Rows.fnCutsRow.targs := of_decide_eq_true (by kernel_rfl)
set_option maxHeartbeats 40000000 in
theorem cuts_wrap : Tryz.f5.isWrapper Tryz.prog Rows.fnCutsRow.wrapper Rows.fnCutsRow.mainSum := by
  unfold Func.isWrapper; first | (rw [if_pos (by decide +kernel)]; kernel_rfl) | (rw [if_neg (by decide +kernel)]; exact ⟨rfl, rfl⟩)
set_option maxHeartbeats 40000000 in
theorem cuts_wf : Rows.fnCutsRow.wfByText (OpenSpec.ofChange Rows.fnCutsSpec) = true := by kernel_rfl
theorem cuts_main : Tryz.prog.mainIs = some (Rows.fnCutsCard.stood.harness.1, Rows.fnCutsCard.stood.harness.2.toList) := by kernel_rfl
theorem cuts_looks : false = Tryz.prog.looks [] := by kernel_rfl
theorem cuts_stand : ([9, 3].all fun u => !Tryz.prog.wantsStandIn u) = true := by kernel_rfl
set_option maxHeartbeats 40000000 in
theorem cuts_goes : false = Rows.fnCutsRow.goesBy Tryz.prog := by kernel_rfl
end Go.Proofs.YtodopbdngikpcaaGreatDoor
