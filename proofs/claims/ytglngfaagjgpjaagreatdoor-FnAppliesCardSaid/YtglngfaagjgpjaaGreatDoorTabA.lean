/- Walks of package funcs: the table's scalars. -/
import Derived.Test.YtglngfaagjgpjaaGreatDoorBx8
namespace Go.Proofs.YtglngfaagjgpjaaGreatDoor
open Go Go.RowKit
set_option linter.unusedSimpArgs false
set_option linter.unusedVariables false

set_option maxRecDepth 100000 in
set_option maxHeartbeats 8000000 in
theorem funcs_scalars (w : World) :
    Calls Tryz.prog 124 #[] w fun e w' => ∃ g, e = .returned (.slice (some ⟨g, 0, none⟩) 23 23) ∧ Below w.heap.size w w' ∧ w.heap.size ≤ g ∧ w'.heap[g]? = some (.cells (scalarsL.flatMap SigS.cells).toArray 56 (0, 0)) := by
  have hb := Below.refl w.heap.size w
  go_enter Tryz.func124, Tryz.ntmps124
  repeat (go_wp2_with fail; refine (funcs_scalar _ _ _ _ _).mono ?_; rintro e wn ⟨rfl, hn⟩; replace hb := hb.trans (hn.mono hb.size); clear hn)
  go_wp2
  go_ret
  refine ⟨_, rfl, ?_, hb.size, heap_alloc_new _ _⟩
  exact hb.alloc hb.size _

end Go.Proofs.YtglngfaagjgpjaaGreatDoor
