/- The plain values of chapter 2: a value as its six cells; which are right; no program in sight. -/
import Derived.Test.YtangdbjoflnobaaGreatDoorNum
import Derived.Lib.Strings
namespace Go.Proofs.YtangdbjoflnobaaGreatDoor
open Go.RowKit

/-- An api.Value: kind, number (above, below), text, truth, fault. -/
structure Vl where
  k : Int
  n : Int
  d : Int
  t : ByteArray
  b : Bool
  f : Int
deriving DecidableEq
/-- Its numbers fit into ints, its text into memory. -/
structure Vl.In (x : Vl) : Prop where
  k : I64 x.k
  n : I64 x.n
  d : I64 x.d
  f : I64 x.f
  t : x.t.size ≤ 140737488351232
def veq (x y : Vl) : Bool := decide (x = y)
def noT : ByteArray := ⟨#[]⟩
def blankV : Vl := ⟨0, 0, 0, noT, false, 0⟩
def numV (n d : Int) : Vl := ⟨1, n, d, noT, false, 0⟩
def textV (t : ByteArray) : Vl := ⟨2, 0, 0, t, false, 0⟩
def truthV (b : Bool) : Vl := ⟨3, 0, 0, noT, b, 0⟩
def faultV (f : Int) : Vl := ⟨4, 0, 0, noT, false, f⟩
def plainT (t : ByteArray) : Bool := t.data.toList.all fun c => decide (32 ≤ c.toNat) && decide (c.toNat ≤ 126)
def okc (c : UInt8) : Bool := decide (32 ≤ c.toNat) && decide (c.toNat ≤ 126)
theorem plainT_eq (t : ByteArray) : plainT t = t.data.toList.all okc := rfl
theorem take_snoc (s : ByteArray) (k : Nat) (h : k < s.size) : s.data.toList.take (k + 1) = s.data.toList.take k ++ [s[k]] := by
  rw [List.take_succ_eq_append_getElem (by simpa using h)]; rfl
theorem plain_no {t : ByteArray} {k : Nat} (h : k < t.size) (hc : okc t[k] = false) : plainT t = false := by
  rw [plainT_eq, List.all_eq_false]
  refine ⟨t[k], ?_, by simp [hc]⟩
  exact List.getElem_mem (l := t.data.toList) (by simpa using h)
theorem plain_all {t : ByteArray} (h : (t.data.toList.take t.size).all okc = true) : plainT t = true := by
  rw [plainT_eq]
  rwa [List.take_of_length_le (by simp)] at h
theorem plain_step {t : ByteArray} {k : Nat} (h : k < t.size) (ha : (t.data.toList.take k).all okc = true) (hc : okc t[k] = true) : (t.data.toList.take (k + 1)).all okc = true := by
  rw [take_snoc t k h, List.all_append, ha]; simp [hc]
def rightV (x : Vl) : Bool :=
  if x.k = 0 then veq x blankV
  else if x.k = 1 then rightN x.n x.d && veq x (numV x.n x.d)
  else if x.k = 2 then (decide (x.t.size ≤ 256) && plainT x.t) && veq x (textV x.t)
  else if x.k = 3 then veq x (truthV x.b)
  else if x.k = 4 then (decide (1 ≤ x.f) && decide (x.f ≤ 8)) && veq x (faultV x.f)
  else false
def tkV (x : Vl) : Vl := if rightV x then x else faultV 2

/-! what the makers answer -/
def faultF (c : Int) : Vl := if c < 1 ∨ 8 < c then faultV 2 else faultV c
def textF (t : ByteArray) : Vl := if plainT t then (if 256 < t.size then faultV 7 else textV t) else faultV 2
def numF (n d : Int) : Vl := numV (tk n d).n (tk n d).d
def toldF (n d : Int) (ok : Bool) : Vl := if ok then numF n d else faultV 4
def wordT (b : Bool) : ByteArray := if b then ⟨#[84, 82, 85, 69]⟩ else ⟨#[70, 65, 76, 83, 69]⟩
end Go.Proofs.YtangdbjoflnobaaGreatDoor
