/- A number that something came to, as a value; no program in sight. -/
import Derived.Test.YtodopbdngikpcaaGreatDoorBase
namespace Go.Proofs.YtodopbdngikpcaaGreatDoor
open Go.RowKit
def toldB (r : NmB) : Vl := toldF r.n r.d r.ok
end Go.Proofs.YtodopbdngikpcaaGreatDoor
