/- Plain laws on texts and numbers read from them (chapter 1, 1.8 and 1.9); no program in sight. -/
import Derived.Test.YtangdbjoflnobaaGreatDoorNum
import Derived.Lib.Strings
import Derived.Lib.IndexBytes
namespace Go.Proofs.YtangdbjoflnobaaGreatDoor
open Go Go.RowKit

/-- a text's bytes as a text again -/
def txt (l : List UInt8) : ByteArray := ⟨l.toArray⟩
theorem txt_list (l : List UInt8) : (txt l).data.toList = l := by simp [txt]
theorem txt_size (l : List UInt8) : (txt l).size = l.length := by simp [txt, ByteArray.size]
theorem txt_of (s : ByteArray) : txt s.data.toList = s := by
  obtain ⟨⟨x⟩⟩ := s
  rfl
theorem txt_ext (s : ByteArray) (a b : Nat) : s.extract a b = txt ((s.data.toList.drop a).take (b - a)) := by
  rw [← txt_of (s.extract a b), Lib.extract_data]
theorem txt_drop (s : ByteArray) (k : Nat) : s.extract k s.size = txt (s.data.toList.drop k) := by
  rw [txt_ext, List.take_of_length_le (by simp)]
structure Dg where
  n : Int
  rest : List UInt8
  ok : Bool
/-- digits at the beginning of a text -/
def dg (n : Int) (any : Bool) : List UInt8 → Dg
  | [] => ⟨n, [], any⟩
  | c :: l => if 48 ≤ (c.toNat : Int) ∧ (c.toNat : Int) ≤ 57 then
      (if (1000000000000000000 - ((c.toNat : Int) - 48)) / 10 < n then ⟨0, [], false⟩ else dg (10 * n + ((c.toNat : Int) - 48)) true l)
    else ⟨n, c :: l, any⟩
def digits (s : List UInt8) : Dg := dg 0 false s
theorem dg_bd : ∀ (l : List UInt8) (n : Int) (any : Bool), 0 ≤ n → n ≤ 1000000000000000000 → 0 ≤ (dg n any l).n ∧ (dg n any l).n ≤ 1000000000000000000
  | [], n, any, h0, h1 => ⟨h0, h1⟩
  | c :: l, n, any, h0, h1 => by
    unfold dg
    split
    · split
      · exact ⟨by simp, by simp⟩
      · exact dg_bd l _ _ (by omega) (by omega)
    · exact ⟨h0, h1⟩
theorem digits_bd (l : List UInt8) : 0 ≤ (digits l).n ∧ (digits l).n ≤ 1000000000000000000 := dg_bd l 0 false (by omega) (by omega)
theorem dg_rest : ∀ (l : List UInt8) (n : Int) (any : Bool), (dg n any l).rest.length ≤ l.length
  | [], n, any => by simp [dg]
  | c :: l, n, any => by
    unfold dg
    split
    · split
      · simp
      · have := dg_rest l (10 * n + ((c.toNat : Int) - 48)) true; simp only [List.length_cons]; omega
    · simp
theorem drop_cons (s : ByteArray) (k : Nat) (h : k < s.size) : s.data.toList.drop k = s[k] :: s.data.toList.drop (k + 1) :=
  List.drop_eq_getElem_cons (by simpa using h)
end Go.Proofs.YtangdbjoflnobaaGreatDoor
