/- What Read answers (1.9); no program in sight. -/
import Derived.Test.YtangdbjoflnobaaGreatDoorStr
import Derived.Lib.Small
namespace Go.Proofs.YtangdbjoflnobaaGreatDoor
open Go Go.RowKit

def pow10 (k : Nat) : Int := ((10 ^ k : Nat) : Int)
def sgn (minus : Bool) (n : Int) : Int := if minus then -n else n
/-- behind the sign: digits, then what is behind them -/
def readP (minus : Bool) (n : Int) (ok : Bool) : List UInt8 → NmB
  | [] => if ok then mk (sgn minus n) 1 else badB
  | c :: r =>
    if ok = false ∨ (digits r).ok = false ∨ (digits r).rest ≠ [] then badB
    else if c.toNat = 47 then mk (sgn minus n) (digits r).n
    else if c.toNat ≠ 46 ∨ 6 < r.length ∨ 1000000000000 < n then badB
    else mk (sgn minus (n * pow10 r.length + (digits r).n)) (pow10 r.length)
def readS (minus : Bool) (s : List UInt8) : NmB := readP minus (digits s).n (digits s).ok (digits s).rest
def readN (s : List UInt8) : NmB := readS (Lib.hasPrefix s [45]) (Lib.trimPrefix s [45])
end Go.Proofs.YtangdbjoflnobaaGreatDoor
