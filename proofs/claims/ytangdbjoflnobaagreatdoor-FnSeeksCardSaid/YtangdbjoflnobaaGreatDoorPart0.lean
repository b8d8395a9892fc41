/- The address of a field without cells. -/
import Derived.Test.YtangdbjoflnobaaGreatDoorAccA
namespace Go.Proofs.YtangdbjoflnobaaGreatDoor
open Go Go.RowKit
theorem cells0 : Tryz.prog.cellsOf 148 = 0 := by kernel_rfl
theorem run_part0 {w : World} {k : Nat} (h : w.heap[k]? = some (.cells #[] 148 (0, 0))) : (partAt ⟨k, 0, none⟩ 0 0).run Tryz.prog w = .ok ⟨k, 0, none⟩ w := by
  have hs : w.shape? k = some (148, 0) := by simp [World.shape?, h]
  have hv : (viewAt k).run Tryz.prog w = .ok none w := by simp [viewAt, Sem.run_bind, hs]
  have hb : (byteOf ⟨k, 0, none⟩).run Tryz.prog w = .ok 0 w := by simp [byteOf, noView, Sem.run_bind, hv, hs, cells0]
  simp [partAt, Sem.run_bind, hb]
end Go.Proofs.YtangdbjoflnobaaGreatDoor
