/- Texts in great and small letters, trimmed: still texts. -/
import Derived.Test.YtodopbdngikpcaaGreatDoorValC
import Derived.Test.YtodopbdngikpcaaGreatDoorLettersP
import Derived.WalkSmall
import Derived.Lib.LaidTab
namespace Go.Proofs.YtodopbdngikpcaaGreatDoor
open Go Go.RowKit
set_option linter.unusedSimpArgs false
set_option linter.unusedVariables false

theorem okc_ascii {t : ByteArray} (hp : plainT t = true) : ∀ (j : Nat) (b : UInt8), t.data.toList[j]? = some b → b.toNat < 128 := by
  intro j b h
  rw [plainT_eq] at hp
  have := List.all_eq_true.1 hp b (List.mem_of_getElem? h)
  simp [okc] at this
  omega
def upT (t : ByteArray) : ByteArray := ⟨(Lib.toUpperA t.data.toList).toArray⟩
def loT (t : ByteArray) : ByteArray := ⟨(Lib.toLowerA t.data.toList).toArray⟩
def trT (t : ByteArray) : ByteArray := ⟨(trimL t.data.toList).toArray⟩
def SpTab (w : World) : Prop := Lib.TabIs Tryz.prog w "strings.asciiSpace" .u8 Lib.asciiSpaceTab
theorem SpTab.below {w w1 : World} (h : SpTab w) (hb : Below w.heap.size w w1) (h0 : 0 < w.heap.size) : SpTab w1 :=
  var?_below hb (by kernel_rfl : (Tryz.prog).globalNamed "strings.asciiSpace" = some 0) h0 h

theorem trim_ok {t : ByteArray} (hp : plainT t = true) (hs : t.size ≤ 256) : plainT (trT t) = true ∧ (trT t).size ≤ 256 := by
  refine ⟨?_, ?_⟩
  · rw [plainT_eq] at hp ⊢
    simpa [trT] using trim_all hp
  · have := trim_len t.data.toList
    have e : (trT t).size = (trimL t.data.toList).length := by show (trimL t.data.toList).toArray.size = _; exact List.size_toArray
    have e2 : t.size = t.data.toList.length := Array.length_toList.symm
    omega

theorem up_ok {t : ByteArray} (hp : plainT t = true) (hs : t.size ≤ 256) : plainT (upT t) = true ∧ (upT t).size ≤ 256 := by
  refine ⟨?_, ?_⟩
  · rw [plainT_eq] at hp ⊢
    show ((Lib.toUpperA t.data.toList).toArray.toList).all okc = true
    rw [List.all_eq_true] at hp ⊢
    intro b hb
    simp only [Lib.toUpperA, List.mem_map] at hb
    obtain ⟨c, hc, rfl⟩ := hb
    exact okc_upper (hp c hc)
  · have e : (upT t).size = t.size := by show ((Lib.toUpperA t.data.toList).toArray).size = t.data.size; rw [List.size_toArray, Lib.toUpperA, List.length_map, Array.length_toList]
    omega
theorem lo_ok {t : ByteArray} (hp : plainT t = true) (hs : t.size ≤ 256) : plainT (loT t) = true ∧ (loT t).size ≤ 256 := by
  refine ⟨?_, ?_⟩
  · rw [plainT_eq] at hp ⊢
    show ((Lib.toLowerA t.data.toList).toArray.toList).all okc = true
    rw [List.all_eq_true] at hp ⊢
    intro b hb
    simp only [Lib.toLowerA, List.mem_map] at hb
    obtain ⟨c, hc, rfl⟩ := hb
    exact okc_lower (hp c hc)
  · have e : (loT t).size = t.size := by show ((Lib.toLowerA t.data.toList).toArray).size = t.data.size; rw [List.size_toArray, Lib.toLowerA, List.length_map, Array.length_toList]
    omega
theorem upT_len (t : ByteArray) : (upT t).size = t.size := by show ((Lib.toUpperA t.data.toList).toArray).size = t.data.size; rw [List.size_toArray, Lib.toUpperA, List.length_map, Array.length_toList]

end Go.Proofs.YtodopbdngikpcaaGreatDoor
