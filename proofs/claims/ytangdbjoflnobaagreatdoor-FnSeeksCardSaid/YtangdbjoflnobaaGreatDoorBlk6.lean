/- A block that holds a value. -/
import Derived.Test.YtangdbjoflnobaaGreatDoorAcc
namespace Go.Proofs.YtangdbjoflnobaaGreatDoor
open Go Go.RowKit

def vArr (v : Vl) : Array Value := #[.int .i64 v.k, .int .i64 v.n, .int .i64 v.d, .string v.t, .bool v.b, .int .i64 v.f]
theorem Blk.v6 {w : World} {b : Nat} {v : Vl} {t : TypeId} (h : Blk w b (vArr v) t) : w.cell? ⟨b, 0, none⟩ = some (.int .i64 v.k) ∧ w.cell? ⟨b, 1, none⟩ = some (.int .i64 v.n) ∧ w.cell? ⟨b, 2, none⟩ = some (.int .i64 v.d) ∧ w.cell? ⟨b, 3, none⟩ = some (.string v.t) ∧ w.cell? ⟨b, 4, none⟩ = some (.bool v.b) ∧ w.cell? ⟨b, 5, none⟩ = some (.int .i64 v.f) :=
  ⟨h.cell 0, h.cell 1, h.cell 2, h.cell 3, h.cell 4, h.cell 5⟩
end Go.Proofs.YtangdbjoflnobaaGreatDoor
