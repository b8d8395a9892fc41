/- Plain laws on the table of functions and on rows of records of six cells; no program in sight. -/
import Derived.Test.YtangdbjoflnobaaGreatDoorTab
namespace Go.Proofs.YtangdbjoflnobaaGreatDoor
open Go Go.RowKit
set_option linter.unusedSimpArgs false
set_option linter.unusedVariables false

theorem flat6 {α : Type} (c : α → List Value) (hc : ∀ x, (c x).length = 6) : ∀ (l : List α) (k j : Nat) (hk : k < l.length), j < 6 → (l.flatMap c)[k * 6 + j]? = (c l[k])[j]? := by
  intro l
  induction l with
  | nil => intro k j hk; simp at hk
  | cons x l ih =>
    intro k j hk hj
    rw [List.flatMap_cons]
    cases k with
    | zero => rw [List.getElem?_append_left (by rw [hc]; omega)]; simp
    | succ k =>
      rw [List.getElem?_append_right (by rw [hc]; omega), hc, show (k + 1) * 6 + j - 6 = k * 6 + j by omega]
      exact ih k j (by simpa using hk) hj
theorem flat6_len {α : Type} (c : α → List Value) (hc : ∀ x, (c x).length = 6) (l : List α) : (l.flatMap c).length = l.length * 6 := by
  induction l with
  | nil => rfl
  | cons x l ih => rw [List.flatMap_cons, List.length_append, ih, hc, List.length_cons]; omega
theorem flat6_snoc {α : Type} (c : α → List Value) (l : List α) (x : α) : (l ++ [x]).flatMap c = l.flatMap c ++ c x := by simp

theorem foldNames_len : foldNames.length = 15 := rfl
theorem foldsL_len : foldsL.length = 15 := rfl
theorem tableL_len : tableL.length = 49 := rfl
theorem foldsL_step {k : Nat} (h : k < 15) : (foldsL.take (k + 1)).flatMap SigS.cells = (foldsL.take k).flatMap SigS.cells ++ (foldRow k (foldNames.getD k ⟨#[]⟩)).cells := by
  rw [List.take_succ_eq_append_getElem (by rw [foldsL_len]; exact h), flat6_snoc]
  congr 2
  have : foldsL[k]? = (foldNames.mapIdx foldRow)[k]? := rfl
  rw [List.getElem?_mapIdx] at this
  have hk : k < foldNames.length := by rw [foldNames_len]; exact h
  rw [List.getElem?_eq_getElem hk, List.getElem?_eq_getElem (by rw [foldsL_len]; exact h)] at this
  simp only [Option.map_some, Option.some.injEq] at this
  rw [this, List.getD_eq_getElem?_getD, List.getElem?_eq_getElem hk]
  rfl
theorem foldNames_at {k : Nat} (h : k < 15) : (foldNames.map Value.string).toArray[k]? = some (.string (foldNames.getD k ⟨#[]⟩)) := by
  have hk : k < foldNames.length := by rw [foldNames_len]; exact h
  rw [List.getElem?_toArray, List.getElem?_map, List.getElem?_eq_getElem hk, List.getD_eq_getElem?_getD, List.getElem?_eq_getElem hk]
  rfl
def sigZ : SigS := ⟨0, 0, ⟨#[]⟩, 0, 0, ⟨#[]⟩⟩
def isId (id : Int) (s : SigS) : Bool := s.id == id
def isName (name : ByteArray) (s : SigS) : Bool := s.name.toList == name.toList
def byIdL (id : Int) : Option SigS := tableL.find? (isId id)
def ofL (name : ByteArray) : Option SigS := tableL.find? (isName name)
theorem find_at {α : Type} {l : List α} {p : α → Bool} {k : Nat} (h : k < l.length) (hp : p l[k] = true) (hn : ∀ j (hj : j < l.length), j < k → p l[j] = false) : l.find? p = some l[k] := by
  rw [List.find?_eq_some_iff_getElem]
  exact ⟨hp, k, h, rfl, fun j hj => by rw [hn j (by omega) hj]; rfl⟩
theorem find_no {α : Type} {l : List α} {p : α → Bool} (hn : ∀ j (hj : j < l.length), p l[j] = false) : l.find? p = none := by
  rw [List.find?_eq_none]
  intro x hx
  obtain ⟨j, hj, rfl⟩ := List.getElem_of_mem hx
  rw [hn j hj]; simp
end Go.Proofs.YtangdbjoflnobaaGreatDoor
