/- Rows of values of any kind; the law's texts. Walks of package funcs: the table's rows. Plain laws on the table of functions and on rows of records of six cells; no program in sight. Walks of package funcs: the whole table. Walks of package funcs: one text is taken; a function of one text. -/
import Derived.Test.YtglngfaagjgpjaaGreatDoorValC
import Derived.Deep.Cut
import Derived.Test.YtglngfaagjgpjaaGreatDoorBx1
import Derived.Maps.AppendAt
import Derived.Deep.AppendLies
import Derived.Lib.Hide
import Derived.Handy
import Derived.Test.YtglngfaagjgpjaaGreatDoorBx5
import Derived.RegionTactic
import Derived.ChangeAlike
import Derived.Deep.RegionHeld3
namespace Go.Proofs.YtglngfaagjgpjaaGreatDoor
open Go Go.RowKit
set_option linter.unusedSimpArgs false
set_option linter.unusedVariables false

/-- A row of values, six cells each. -/
def ValRow (w : World) (b off : Nat) (vs : List Vl) : Prop := ∀ k v, vs[k]? = some v →
  w.cell? ⟨b, off + k * 6, none⟩ = some (.int .i64 v.k) ∧ w.cell? ⟨b, off + k * 6 + 1, none⟩ = some (.int .i64 v.n) ∧ w.cell? ⟨b, off + k * 6 + 2, none⟩ = some (.int .i64 v.d) ∧
  w.cell? ⟨b, off + k * 6 + 3, none⟩ = some (.string v.t) ∧ w.cell? ⟨b, off + k * 6 + 4, none⟩ = some (.bool v.b) ∧ w.cell? ⟨b, off + k * 6 + 5, none⟩ = some (.int .i64 v.f)
theorem ValRow.below {w w' : World} {b off : Nat} {vs : List Vl} (h : ValRow w b off vs) (hb : b < w.heap.size) (hw : Below w.heap.size w w') : ValRow w' b off vs := by
  intro k v hv
  obtain ⟨h0, h1, h2, h3, h4, h5⟩ := h k v hv
  have e := fun o => lcc hw b hb o
  exact ⟨(e _).trans h0, (e _).trans h1, (e _).trans h2, (e _).trans h3, (e _).trans h4, (e _).trans h5⟩
/-- What stands in a slice of values. -/
def ValAt (w : World) (la : Option Addr) (vs : List Vl) : Prop := 0 < vs.length → ∃ b off, la = some ⟨b, off, none⟩ ∧ b < w.heap.size ∧ ValRow w b off vs
theorem ValAt.below {w w' : World} {la : Option Addr} {vs : List Vl} (h : ValAt w la vs) (hw : Below w.heap.size w w') : ValAt w' la vs := by
  intro h0
  obtain ⟨b, off, e, hb, hr⟩ := h h0
  exact ⟨b, off, e, lcs hw b hb, hr.below hb hw⟩

end Go.Proofs.YtglngfaagjgpjaaGreatDoor
namespace Go.Proofs.YtglngfaagjgpjaaGreatDoor
open Go Go.RowKit
set_option linter.unusedSimpArgs false
set_option linter.unusedVariables false

/-- api.Sig -/
structure SigS where
  id : Int
  cl : Int
  name : ByteArray
  least : Int
  most : Int
  params : ByteArray
def SigS.cells (s : SigS) : List Value := [.int .i64 s.id, .int .i64 s.cl, .string s.name, .int .i64 s.least, .int .i64 s.most, .string s.params]
def SigS.val (s : SigS) : Value := .agg #[.int .i64 s.id, .int .i64 s.cl, .string s.name, .int .i64 s.least, .int .i64 s.most, .string s.params]
theorem SigS.len (s : SigS) : s.cells.length = 6 := rfl

set_option maxHeartbeats 1000000 in
theorem funcs_row (id cl : Int) (name : ByteArray) (least most : Int) (params : ByteArray) (w : World) :
    Calls Tryz.prog 122 #[.int .i64 id, .int .i64 cl, .string name, .int .i64 least, .int .i64 most, .string params] w fun e w' => e = .returned (.agg #[.int .i64 id, .int .i64 cl, .string name, .int .i64 least, .int .i64 most, .string params]) ∧ Below w.heap.size w w' := by
  go_enter Tryz.func122, Tryz.ntmps122
  go_wp2
  refine bodyPost_ret (v := .agg #[.int .i64 id, .int .i64 cl, .string name, .int .i64 least, .int .i64 most, .string params]) (by simp [results, Tryz.results122, go_sem]) rfl ⟨rfl, ?_⟩
  focus
    repeat with_reducible first | exact Below.refl _ _ | refine below_drewN ?_ _ | refine Below.drew ?_ | refine Below.setCell ?_ ?_ _ | refine Below.alloc ?_ ?_ _ | refine below_then ?_ ?_ (by with_reducible assumption)
    all_goals first | omega | (simp only [sA, sC, sD, sE]; omega) | (simp; done) | (simp; omega)

set_option maxHeartbeats 1000000 in
theorem funcs_scalar (id : Int) (name : ByteArray) (least most : Int) (w : World) :
    Calls Tryz.prog 175 #[.int .i64 id, .string name, .int .i64 least, .int .i64 most] w fun e w' => e = .returned (.agg #[.int .i64 id, .int .i64 4, .string name, .int .i64 least, .int .i64 most, .string ⟨#[118]⟩]) ∧ Below w.heap.size w w' := by
  go_enter Tryz.func175, Tryz.ntmps175
  go_wp2_with fail
  refine (funcs_row _ _ _ _ _ _ _).mono ?_
  rintro e w1 ⟨rfl, hb⟩
  obtain ⟨s1, c1_0, c1_1, c1_2, c1_3, c1_4, c1_5, f1⟩ := L6 hb (w.heap.size) (by first | omega | (simp only [sA, sC, sD, sE]; omega) | (simp; done) | (simp; omega)) (by go_simp; exact ⟨rfl, rfl, rfl, rfl, rfl, rfl⟩) (by intro o; go_simp)
  go_wp2
  refine bodyPost_ret (v := .agg #[.int .i64 id, .int .i64 4, .string name, .int .i64 least, .int .i64 most, .string ⟨#[118]⟩]) (by simp [results, Tryz.results175, go_sem, c1_0, c1_1, c1_2, c1_3, c1_4, c1_5]) rfl ⟨rfl, ?_⟩
  focus
    repeat with_reducible first | exact Below.refl _ _ | refine below_drewN ?_ _ | refine Below.drew ?_ | refine Below.setCell ?_ ?_ _ | refine Below.alloc ?_ ?_ _ | refine below_then ?_ ?_ (by with_reducible assumption)
    all_goals first | omega | (simp only [sA, sC, sD, sE]; omega) | (simp; done) | (simp; omega)

def foldNames : List ByteArray := [⟨#[83, 85, 77]⟩, ⟨#[80, 82, 79, 68, 85, 67, 84]⟩, ⟨#[67, 79, 85, 78, 84]⟩, ⟨#[67, 79, 85, 78, 84, 65]⟩, ⟨#[77, 73, 78]⟩, ⟨#[77, 65, 88]⟩, ⟨#[65, 86, 69, 82, 65, 71, 69]⟩, ⟨#[65, 78, 68]⟩, ⟨#[79, 82]⟩, ⟨#[88, 79, 82]⟩, ⟨#[67, 79, 78, 67, 65, 84]⟩, ⟨#[83, 85, 77, 83, 81]⟩, ⟨#[71, 67, 68]⟩, ⟨#[70, 73, 82, 83, 84]⟩, ⟨#[76, 65, 83, 84]⟩]
def foldRow (i : Nat) (name : ByteArray) : SigS := ⟨1 + (i : Int), 1, name, 1, 30, ⟨#[120]⟩⟩
def foldsL : List SigS := foldNames.mapIdx foldRow
def othersL : List SigS := [⟨20, 2, ⟨#[77, 65, 84, 67, 72]⟩, 2, 2, ⟨#[118, 97]⟩⟩,
  ⟨21, 2, ⟨#[67, 79, 85, 78, 84, 73, 70]⟩, 2, 2, ⟨#[97, 118]⟩⟩,
  ⟨22, 2, ⟨#[83, 85, 77, 73, 70]⟩, 2, 3, ⟨#[97, 118, 97]⟩⟩,
  ⟨23, 2, ⟨#[76, 79, 79, 75, 85, 80]⟩, 3, 3, ⟨#[118, 97, 97]⟩⟩,
  ⟨24, 2, ⟨#[83, 85, 77, 80, 82, 79, 68, 85, 67, 84]⟩, 2, 2, ⟨#[97]⟩⟩,
  ⟨25, 2, ⟨#[73, 78, 68, 69, 88]⟩, 2, 3, ⟨#[97, 118]⟩⟩,
  ⟨26, 2, ⟨#[82, 79, 87, 83]⟩, 1, 1, ⟨#[97]⟩⟩,
  ⟨27, 2, ⟨#[67, 79, 76, 85, 77, 78, 83]⟩, 1, 1, ⟨#[97]⟩⟩,
  ⟨30, 3, ⟨#[73, 70]⟩, 2, 3, ⟨#[118]⟩⟩,
  ⟨31, 3, ⟨#[73, 70, 69, 82, 82, 79, 82]⟩, 2, 2, ⟨#[118]⟩⟩,
  ⟨32, 3, ⟨#[67, 72, 79, 79, 83, 69]⟩, 2, 30, ⟨#[118]⟩⟩]
def scalarsL : List SigS := [⟨40, 4, ⟨#[65, 66, 83]⟩, 1, 1, ⟨#[118]⟩⟩,
  ⟨41, 4, ⟨#[83, 73, 71, 78]⟩, 1, 1, ⟨#[118]⟩⟩,
  ⟨42, 4, ⟨#[73, 78, 84]⟩, 1, 1, ⟨#[118]⟩⟩,
  ⟨43, 4, ⟨#[82, 79, 85, 78, 68]⟩, 1, 2, ⟨#[118]⟩⟩,
  ⟨44, 4, ⟨#[77, 79, 68]⟩, 2, 2, ⟨#[118]⟩⟩,
  ⟨45, 4, ⟨#[81, 85, 79, 84, 73, 69, 78, 84]⟩, 2, 2, ⟨#[118]⟩⟩,
  ⟨46, 4, ⟨#[80, 79, 87, 69, 82]⟩, 2, 2, ⟨#[118]⟩⟩,
  ⟨47, 4, ⟨#[78, 79, 84]⟩, 1, 1, ⟨#[118]⟩⟩,
  ⟨48, 4, ⟨#[76, 69, 78]⟩, 1, 1, ⟨#[118]⟩⟩,
  ⟨49, 4, ⟨#[76, 69, 70, 84]⟩, 1, 2, ⟨#[118]⟩⟩,
  ⟨50, 4, ⟨#[82, 73, 71, 72, 84]⟩, 1, 2, ⟨#[118]⟩⟩,
  ⟨51, 4, ⟨#[77, 73, 68]⟩, 3, 3, ⟨#[118]⟩⟩,
  ⟨52, 4, ⟨#[82, 69, 80, 84]⟩, 2, 2, ⟨#[118]⟩⟩,
  ⟨53, 4, ⟨#[70, 73, 78, 68]⟩, 2, 2, ⟨#[118]⟩⟩,
  ⟨54, 4, ⟨#[85, 80, 80, 69, 82]⟩, 1, 1, ⟨#[118]⟩⟩,
  ⟨55, 4, ⟨#[76, 79, 87, 69, 82]⟩, 1, 1, ⟨#[118]⟩⟩,
  ⟨56, 4, ⟨#[84, 82, 73, 77]⟩, 1, 1, ⟨#[118]⟩⟩,
  ⟨57, 4, ⟨#[86, 65, 76, 85, 69]⟩, 1, 1, ⟨#[118]⟩⟩,
  ⟨58, 4, ⟨#[73, 83, 78, 85, 77, 66, 69, 82]⟩, 1, 1, ⟨#[118]⟩⟩,
  ⟨59, 4, ⟨#[73, 83, 84, 69, 88, 84]⟩, 1, 1, ⟨#[118]⟩⟩,
  ⟨60, 4, ⟨#[73, 83, 66, 76, 65, 78, 75]⟩, 1, 1, ⟨#[118]⟩⟩,
  ⟨61, 4, ⟨#[73, 83, 69, 82, 82, 79, 82]⟩, 1, 1, ⟨#[118]⟩⟩,
  ⟨62, 4, ⟨#[78, 65]⟩, 0, 0, ⟨#[118]⟩⟩]
def tableL : List SigS := foldsL ++ othersL ++ scalarsL

set_option maxHeartbeats 1000000 in
theorem funcs_folds (w : World) :
    Calls Tryz.prog 121 #[] w fun e w' => e = .returned (.slice (some ⟨w.heap.size, 0, none⟩) 15 15) ∧ Below w.heap.size w w' ∧ w'.heap[w.heap.size]? = some (.cells (foldNames.map Value.string).toArray 9 (0, 0)) := by
  go_enter Tryz.func121, Tryz.ntmps121
  go_wp2
  go_ret
  refine ⟨rfl, ?_, heap_alloc_new _ _⟩
  focus
    repeat with_reducible first | exact Below.refl _ _ | refine below_drewN ?_ _ | refine Below.drew ?_ | refine Below.setCell ?_ ?_ _ | refine Below.alloc ?_ ?_ _ | refine below_then ?_ ?_ (by with_reducible assumption)
    all_goals first | omega | (simp only [sA, sC, sD, sE]; omega) | (simp; done) | (simp; omega)

set_option maxHeartbeats 1000000 in
theorem funcs_others (w : World) :
    Calls Tryz.prog 123 #[] w fun e w' => ∃ g, e = .returned (.slice (some ⟨g, 0, none⟩) 11 11) ∧ Below w.heap.size w w' ∧ w.heap.size ≤ g ∧ w'.heap[g]? = some (.cells (othersL.flatMap SigS.cells).toArray 56 (0, 0)) := by
  have hb := Below.refl w.heap.size w
  go_enter Tryz.func123, Tryz.ntmps123
  repeat (go_wp2_with fail; refine (funcs_row _ _ _ _ _ _ _).mono ?_; rintro e wn ⟨rfl, hn⟩; replace hb := hb.trans (hn.mono hb.size); clear hn)
  go_wp2
  go_ret
  refine ⟨_, rfl, ?_, hb.size, heap_alloc_new _ _⟩
  exact hb.alloc hb.size _

end Go.Proofs.YtglngfaagjgpjaaGreatDoor
namespace Go.Proofs.YtglngfaagjgpjaaGreatDoor
open Go Go.RowKit
set_option linter.unusedSimpArgs false
set_option linter.unusedVariables false

theorem flat6 {α : Type} (c : α → List Value) (hc : ∀ x, (c x).length = 6) : ∀ (l : List α) (k j : Nat) (hk : k < l.length), j < 6 → (l.flatMap c)[k * 6 + j]? = (c l[k])[j]? := by
  intro l
  induction l with
  | nil => intro k j hk; simp at hk
  | cons x l ih =>
    intro k j hk hj
    rw [List.flatMap_cons]
    cases k with
    | zero => rw [List.getElem?_append_left (by rw [hc]; omega)]; simp
    | succ k =>
      rw [List.getElem?_append_right (by rw [hc]; omega), hc, show (k + 1) * 6 + j - 6 = k * 6 + j by omega]
      exact ih k j (by simpa using hk) hj
theorem flat6_len {α : Type} (c : α → List Value) (hc : ∀ x, (c x).length = 6) (l : List α) : (l.flatMap c).length = l.length * 6 := by
  induction l with
  | nil => rfl
  | cons x l ih => rw [List.flatMap_cons, List.length_append, ih, hc, List.length_cons]; omega
theorem flat6_snoc {α : Type} (c : α → List Value) (l : List α) (x : α) : (l ++ [x]).flatMap c = l.flatMap c ++ c x := by simp

theorem foldNames_len : foldNames.length = 15 := rfl
theorem foldsL_len : foldsL.length = 15 := rfl
theorem tableL_len : tableL.length = 49 := rfl
theorem foldsL_step {k : Nat} (h : k < 15) : (foldsL.take (k + 1)).flatMap SigS.cells = (foldsL.take k).flatMap SigS.cells ++ (foldRow k (foldNames.getD k ⟨#[]⟩)).cells := by
  rw [List.take_succ_eq_append_getElem (by rw [foldsL_len]; exact h), flat6_snoc]
  congr 2
  have : foldsL[k]? = (foldNames.mapIdx foldRow)[k]? := rfl
  rw [List.getElem?_mapIdx] at this
  have hk : k < foldNames.length := by rw [foldNames_len]; exact h
  rw [List.getElem?_eq_getElem hk, List.getElem?_eq_getElem (by rw [foldsL_len]; exact h)] at this
  simp only [Option.map_some, Option.some.injEq] at this
  rw [this, List.getD_eq_getElem?_getD, List.getElem?_eq_getElem hk]
  rfl
theorem foldNames_at {k : Nat} (h : k < 15) : (foldNames.map Value.string).toArray[k]? = some (.string (foldNames.getD k ⟨#[]⟩)) := by
  have hk : k < foldNames.length := by rw [foldNames_len]; exact h
  rw [List.getElem?_toArray, List.getElem?_map, List.getElem?_eq_getElem hk, List.getD_eq_getElem?_getD, List.getElem?_eq_getElem hk]
  rfl
def sigZ : SigS := ⟨0, 0, ⟨#[]⟩, 0, 0, ⟨#[]⟩⟩
def isId (id : Int) (s : SigS) : Bool := s.id == id
def isName (name : ByteArray) (s : SigS) : Bool := s.name.toList == name.toList
def byIdL (id : Int) : Option SigS := tableL.find? (isId id)
def ofL (name : ByteArray) : Option SigS := tableL.find? (isName name)
theorem find_at {α : Type} {l : List α} {p : α → Bool} {k : Nat} (h : k < l.length) (hp : p l[k] = true) (hn : ∀ j (hj : j < l.length), j < k → p l[j] = false) : l.find? p = some l[k] := by
  rw [List.find?_eq_some_iff_getElem]
  exact ⟨hp, k, h, rfl, fun j hj => by rw [hn j (by omega) hj]; rfl⟩
theorem find_no {α : Type} {l : List α} {p : α → Bool} (hn : ∀ j (hj : j < l.length), p l[j] = false) : l.find? p = none := by
  rw [List.find?_eq_none]
  intro x hx
  obtain ⟨j, hj, rfl⟩ := List.getElem_of_mem hx
  rw [hn j hj]; simp
end Go.Proofs.YtglngfaagjgpjaaGreatDoor
namespace Go.Proofs.YtglngfaagjgpjaaGreatDoor
open Go Go.RowKit
set_option linter.unusedSimpArgs false
set_option linter.unusedVariables false

theorem zero_sig : ∃ i, Tryz.prog.info? 56 = some i ∧ i.zero = some (.agg #[.int .i64 0, .int .i64 0, .string ⟨#[]⟩, .int .i64 0, .int .i64 0, .string ⟨#[]⟩]) ∧ i.size = 6 ∧ i.bytes = 64 := by
  have h : (Tryz.prog.info? 56).map (fun i => (i.zero, i.size, i.bytes)) = some (some (.agg #[.int .i64 0, .int .i64 0, .string ⟨#[]⟩, .int .i64 0, .int .i64 0, .string ⟨#[]⟩]), 6, 64) := by kernel_rfl
  cases hi : Tryz.prog.info? 56 with
  | none => rw [hi] at h; cases h
  | some i => rw [hi] at h; simp only [Option.map_some, Option.some.injEq, Prod.mk.injEq] at h; exact ⟨i, rfl, h.1, h.2.1, h.2.2⟩

/-- What is known behind i rounds of the table's loop. -/
def AllRel (w : World) (g0 : Nat) (x i : Value) (wr : World) : Prop :=
  ∃ k : Nat, k ≤ 15 ∧ i = .int .i64 k ∧ Below w.heap.size w wr ∧ wr.heap[g0]? = some (.cells (foldNames.map Value.string).toArray 9 (0, 0)) ∧
    wr.ownsRow (g0 + 1) 56 6 x k ((foldsL.take k).flatMap SigS.cells)

theorem SigS.one (s : SigS) : ∀ u ∈ s.cells, u.oneCell' = true := by
  intro u hu
  simp only [SigS.cells, List.mem_cons, List.mem_nil_iff, or_false] at hu
  rcases hu with rfl | rfl | rfl | rfl | rfl | rfl <;> rfl
theorem sigs_one (l : List SigS) : ∀ u ∈ l.flatMap SigS.cells, u.oneCell' = true := by
  intro u hu
  obtain ⟨s, _, hs⟩ := List.mem_flatMap.1 hu
  exact s.one u hs
theorem below_grownBy {B : Nat} {w w1 w2 : World} {v : Value} {e : TypeId} {z n : Nat} {xs : List Value} (h : Below B w w1) (hg : w1.grownBy w2 v.ownBlock) (hown : w1.ownsRow B e z v n xs) (hs : B ≤ w1.heap.size) : Below B w w2 :=
  h.trans ⟨hg.os, hg.tape, hg.output, hg.size, fun k hk => hg.block k (by omega) (by
    intro he
    have := (hown.lt k he.symm).1
    omega)⟩
theorem own_below {B : Nat} {w1 w2 : World} {v : Value} {e : TypeId} {z n : Nat} {xs : List Value} (hown : w1.ownsRow B e z v n xs) (h : Below w1.heap.size w1 w2) : w2.ownsRow B e z v n xs :=
  hown.kept (row := none) ⟨h.os, h.tape, h.output, h.size, fun k hk _ => h.block k hk⟩ (by cases hv : v.ownBlock <;> simp)

theorem own_mono {w : World} {base base' : Nat} {v : Value} {e : TypeId} {z n : Nat} {xs : List Value} (h : w.ownsRow base e z v n xs) (hb : base' ≤ base) : w.ownsRow base' e z v n xs :=
  ⟨h.1, h.2.imp id fun ⟨g, cap, cur, he, hb', r⟩ => ⟨g, cap, cur, he, Nat.le_trans hb hb', r⟩⟩
theorem own_ne {w : World} {base : Nat} {v : Value} {e : TypeId} {z n : Nat} {xs : List Value} {k : Nat} (h : w.ownsRow base e z v n xs) (hk : k < base) : some k ≠ v.ownBlock := by
  intro he
  have := (h.lt k he.symm).1
  omega

set_option maxRecDepth 100000 in
set_option maxHeartbeats 1000000 in
theorem funcs_All0 (w : World) (HSc : ∀ wx : World, Calls Tryz.prog 124 #[] wx fun e w' => ∃ g, e = .returned (.slice (some ⟨g, 0, none⟩) 23 23) ∧ Below wx.heap.size wx w' ∧ wx.heap.size ≤ g ∧ w'.heap[g]? = some (.cells (scalarsL.flatMap SigS.cells).toArray 56 (0, 0))) :
    Calls Tryz.prog 61 #[] w fun e w' => ∃ g cap, e = .returned (.slice (some ⟨g, 0, none⟩) 49 cap) ∧ Below w.heap.size w w' ∧ w'.ownsRow w.heap.size 56 6 (.slice (some ⟨g, 0, none⟩) 49 cap) 49 (tableL.flatMap SigS.cells) := by
  have HS := Lib.hid HSc
  clear HSc
  go_enter Tryz.func61, Tryz.ntmps61
  go_wp2_with fail
  refine (funcs_folds _).mono ?_
  rintro e w1 ⟨rfl, hb, hF⟩
  go_wp2
  go_loopw [1, 6] (fun x i wr => AllRel w w.heap.size x i wr) (fun _ i _ => 15 - (intOf i).toNat)
  case atStart => exact ⟨0, by omega, rfl, hb, hF, World.ownsRow_nil _ _ _ _⟩
  case round =>
    obtain ⟨k, hk, rfl, hbk, hFk, hown⟩ := hrel
    by_cases hlt : k < 15
    · obtain ⟨i0, hi, hz, hsz, hby⟩ := zero_sig
      obtain ⟨nm, hnm⟩ : ∃ nm, nm = foldNames.getD k ⟨#[]⟩ := ⟨_, rfl⟩
      have cN : wr.cell? ⟨w.heap.size, k, none⟩ = some (.string nm) := by
        rw [hnm]; exact (cell_of_row wr w.heap.size k _ _ (0, 0) hFk).trans (foldNames_at hlt)
      have HN := Lib.hid hnm
      clear hnm
      have hsw := hbk.size
      have hltF := lt_of_block hFk
      go_wp2_with fail
      refine (funcs_row _ _ _ _ _ _ _).mono ?_
      rintro e w2 ⟨rfl, hb2⟩
      have hown2 := own_below hown hb2
      have hbk2 := hbk.trans (hb2.mono hsw)
      have hF2 := (hb2.block _ hltF).trans hFk
      have hs2 := hb2.size
      go_wp2_with (first
        | (at_builtin; refine wpList_append_lies _ rfl _ _ 96 rfl (w.heap.size + 1) 56 i0 _ 6 64 Tryz.underlying96 hi hz hsz hby rfl (by decide) _ k _ rfl (hown2.alloc _) ⟨w2.heap.size, 0, none⟩ 1 1 (foldRow k nm).cells rfl rfl (World.news_of_block (heap_alloc_new _ _)) (SigS.one _) (by decide) (by unfold maxLen; omega) (by omega) (by simp; omega) _ rfl ?_; intro g cap w3 hown3 hgrow3 hat3 hlt3)
        | go_in)
      go_roundw
      case rel =>
        refine ⟨k + 1, by omega, by go_num, below_grownBy (hbk2.alloc (by omega) _) hgrow3 (own_mono (hown2.alloc _) (by omega)) (by simp; omega), ?_, ?_⟩
        · rw [hgrow3.block _ (by simp; omega) (own_ne (hown2.alloc (.cells (foldRow k nm).cells.toArray 56)) (by omega)), heap_alloc_old _ _ (by omega)]; exact hF2
        · rw [foldsL_step hlt, ← HN.out]; exact hown3
      case measure => simp [intOf]; omega
    · obtain rfl : k = 15 := by omega
      obtain ⟨i0, hi, hz, hsz, hby⟩ := zero_sig
      have hsw := hbk.size
      have hltF := lt_of_block hFk
      go_wp2_with fail
      refine (funcs_others _).mono ?_
      rintro e w2 ⟨g1, rfl, hb2, hg1, hB1⟩
      have hown2 := own_below hown hb2
      have hbk2 := hbk.trans (hb2.mono hsw)
      have hs2 := hb2.size
      have hB1' : g1 < w2.heap.size := lt_of_block hB1
      go_wp2_with (first
        | (at_builtin; refine wpList_append_lies _ rfl _ _ 96 rfl (w.heap.size + 1) 56 i0 _ 6 64 Tryz.underlying96 hi hz hsz hby rfl (by decide) _ 15 _ rfl hown2 ⟨g1, 0, none⟩ 11 11 (othersL.flatMap SigS.cells) rfl rfl (World.news_of_block hB1) (sigs_one _) (by decide) (by unfold maxLen; omega) (by omega) (by omega) _ rfl ?_; intro g cap w3 hown3 hgrow3 hat3 hlt3)
        | fail)
      have hbk3 := below_grownBy hbk2 hgrow3 (own_mono hown2 (by omega)) (by omega)
      have hs3 := hbk3.size
      refine (HS.out _).mono ?_
      rintro e w4 ⟨g2, rfl, hb4, hg2, hB2⟩
      have hown4 := own_below hown3 hb4
      have hbk4 := hbk3.trans (hb4.mono hs3)
      have hs4 := hb4.size
      have hs3' := hgrow3.size
      have hB2' : g2 < w4.heap.size := lt_of_block hB2
      go_wp2_with (first
        | (at_builtin; refine wpList_append_lies _ rfl _ _ 96 rfl (w.heap.size + 1) 56 i0 _ 6 64 Tryz.underlying96 hi hz hsz hby rfl (by decide) _ (15 + 11) _ rfl hown4 ⟨g2, 0, none⟩ 23 23 (scalarsL.flatMap SigS.cells) rfl rfl (World.news_of_block hB2) (sigs_one _) (by decide) (by unfold maxLen; omega) (by omega) (by omega) _ rfl ?_; intro g' cap' w5 hown5 hgrow5 hat5 hlt5)
        | fail)
      go_ret
      refine ⟨_, _, rfl, below_grownBy hbk4 hgrow5 (own_mono hown4 (by omega)) (by omega), ?_⟩
      have e1 : tableL.flatMap SigS.cells = (foldsL.take 15).flatMap SigS.cells ++ othersL.flatMap SigS.cells ++ scalarsL.flatMap SigS.cells := rfl
      rw [e1]
      exact own_mono hown5 (by omega)

end Go.Proofs.YtglngfaagjgpjaaGreatDoor
namespace Go.Proofs.YtglngfaagjgpjaaGreatDoor
open Go Go.RowKit
set_option linter.unusedSimpArgs false
set_option linter.unusedVariables false

theorem zero_str : ∃ i, Tryz.prog.info? 9 = some i ∧ i.zero = some (.string ByteArray.empty) ∧ i.size = 1 ∧ i.bytes = 16 := by
  have h : (Tryz.prog.info? 9).map (fun i => (i.zero, i.size, i.bytes)) = some (some (.string ByteArray.empty), 1, 16) := by kernel_rfl
  cases hi : Tryz.prog.info? 9 with
  | none => rw [hi] at h; cases h
  | some i => rw [hi] at h; simp only [Option.map_some, Option.some.injEq, Prod.mk.injEq] at h; exact ⟨i, rfl, h.1, h.2.1, h.2.2⟩
theorem below_of_grown {w w' : World} (h : w.grownBy w' none) : Below w.heap.size w w' := ⟨h.os, h.tape, h.output, h.size, fun k hk => h.block k hk (by simp)⟩

set_option maxRecDepth 100000 in
set_option maxHeartbeats 1000000 in
theorem funcs_take_s (t : ByteArray) (g c : Nat) (w : World) (hp : plainT t = true) (hs : t.size ≤ 256) (hg : g < w.heap.size)
    (c0 : w.cell? ⟨g, 0, none⟩ = some (.int .i64 2)) (c1 : w.cell? ⟨g, 1, none⟩ = some (.int .i64 0)) (c2 : w.cell? ⟨g, 2, none⟩ = some (.int .i64 0)) (c3 : w.cell? ⟨g, 3, none⟩ = some (.string t)) (c4 : w.cell? ⟨g, 4, none⟩ = some (.bool false)) (c5 : w.cell? ⟨g, 5, none⟩ = some (.int .i64 0)) :
    Calls Tryz.prog 33 #[.string ⟨#[115]⟩, .slice (some ⟨g, 0, none⟩) 1 c] w fun e w' => ∃ gt cap, e = .returned (.tuple #[.agg #[.slice none 0 0, .slice (some ⟨gt, 0, none⟩) 1 cap, .bool false], .agg #[.int .i64 (blankV).k, .int .i64 (blankV).n, .int .i64 (blankV).d, .string (blankV).t, .bool (blankV).b, .int .i64 (blankV).f]]) ∧ Below w.heap.size w w' ∧ w'.ownsRow w.heap.size 9 1 (.slice (some ⟨gt, 0, none⟩) 1 cap) 1 [.string t] := by
  have HT := Lib.hid fun wx => value_AsText_text t wx hp hs
  have hne : ¬ g = w.heap.size := by omega
  have hne' : ¬ w.heap.size = g := by omega
  go_enter Tryz.func33, Tryz.ntmps33
  go_wp2
  refine wp_loop_rounds 2 ?_
  rw [rounds_succ]
  go_wp2_with fail
  refine (HT.out _).mono ?_
  rintro e w1 ⟨rfl, hb⟩
  have hs0 := hb.size
  simp only [sz_alloc] at hs0
  have s1 := lcs hb (w.heap.size) (by (first | omega | (simp only [sz_alloc, sz_setCell, sz_drew, sz_drewN]; omega) | (simp; done) | (simp; omega)))
  have c1_0 := (lcc hb (w.heap.size) (by (first | omega | (simp only [sz_alloc, sz_setCell, sz_drew, sz_drewN]; omega) | (simp; done) | (simp; omega))) 0).trans (by go_simp; exact rfl)
  have c1_1 := (lcc hb (w.heap.size) (by (first | omega | (simp only [sz_alloc, sz_setCell, sz_drew, sz_drewN]; omega) | (simp; done) | (simp; omega))) 1).trans (by go_simp; exact rfl)
  have c1_2 := (lcc hb (w.heap.size) (by (first | omega | (simp only [sz_alloc, sz_setCell, sz_drew, sz_drewN]; omega) | (simp; done) | (simp; omega))) 2).trans (by go_simp; exact rfl)
  have f1 := lcff hb (w.heap.size) (by (first | omega | (simp only [sz_alloc, sz_setCell, sz_drew, sz_drewN]; omega) | (simp; done) | (simp; omega))) (by intro o; go_simp)
  obtain ⟨s2, c2_0, c2_1, c2_2, c2_3, c2_4, c2_5, f2⟩ := L6 hb (w.heap.size + 1) (by first | omega | (simp only [sA, sC, sD, sE]; omega) | (simp; done) | (simp; omega)) (by go_simp; exact ⟨rfl, rfl, rfl, rfl, rfl, rfl⟩) (by intro o; go_simp)
  obtain ⟨i0, hi, hz, hsz, hby⟩ := zero_str
  go_upto_region 13 with (fail)
  first | with_reducible refine wp_rebase ?_ | with_reducible refine wpList_rebase ?_
  intro w1 hb'
  have hb := hb'.out
  clear hb'
  have s3 := lcs hb (w.heap.size) (by (first | omega | (simp only [sz_alloc, sz_setCell, sz_drew, sz_drewN]; omega) | (simp; done) | (simp; omega)))
  have c3_0 := (lcc hb (w.heap.size) (by (first | omega | (simp only [sz_alloc, sz_setCell, sz_drew, sz_drewN]; omega) | (simp; done) | (simp; omega))) 0).trans (by go_simp; exact rfl)
  have c3_1 := (lcc hb (w.heap.size) (by (first | omega | (simp only [sz_alloc, sz_setCell, sz_drew, sz_drewN]; omega) | (simp; done) | (simp; omega))) 1).trans (by go_simp; exact rfl)
  have c3_2 := (lcc hb (w.heap.size) (by (first | omega | (simp only [sz_alloc, sz_setCell, sz_drew, sz_drewN]; omega) | (simp; done) | (simp; omega))) 2).trans (by go_simp; exact rfl)
  have f3 := lcff hb (w.heap.size) (by (first | omega | (simp only [sz_alloc, sz_setCell, sz_drew, sz_drewN]; omega) | (simp; done) | (simp; omega))) (by intro o; go_simp)
  obtain ⟨s4, c4_0, c4_1, c4_2, c4_3, c4_4, c4_5, f4⟩ := L6 hb (w.heap.size + 1) (by first | omega | (simp only [sA, sC, sD, sE]; omega) | (simp; done) | (simp; omega)) (by go_simp; exact ⟨rfl, rfl, rfl, rfl, rfl, rfl⟩) (by intro o; go_simp)
  clear c1_0 c1_1 c1_2 f1 c2_0 c2_1 c2_2 c2_3 c2_4 c2_5 f2
  have hs1 := hb.size
  simp only [sz_alloc, sz_setCell] at hs1
  have hwB : w.heap.size + 2 ≤ (w1.alloc (.cells #[.string t] 9)).heap.size := by rw [sz_alloc]; omega
  go_wp2_with (first
    | (at_builtin
       refine wpList_append_lies _ rfl _ _ 66 rfl (w.heap.size + 2) 9 i0 _ 1 16 Tryz.underlying66 hi hz hsz hby rfl (by decide) _ 0 [] rfl (World.ownsRow_nil _ _ _ _) ⟨w1.heap.size, 0, none⟩ 1 1 [.string t] rfl rfl (World.news_of_block (heap_alloc_new _ _)) (by intro u hu; simp at hu; subst hu; rfl) (by decide) (by decide) (by decide) hwB _ rfl ?_
       intro gt cap w3 hown3 hgrow3 hat3 hlt3
       have hb3 := below_of_grown hgrow3
       have s5 := lcs hb3 (w.heap.size) (by (first | omega | (simp only [sz_alloc, sz_setCell, sz_drew, sz_drewN]; omega) | (simp; done) | (simp; omega)))
       have c5_0 := (lcc hb3 (w.heap.size) (by (first | omega | (simp only [sz_alloc, sz_setCell, sz_drew, sz_drewN]; omega) | (simp; done) | (simp; omega))) 0).trans (by go_simp; exact rfl)
       have c5_1 := (lcc hb3 (w.heap.size) (by (first | omega | (simp only [sz_alloc, sz_setCell, sz_drew, sz_drewN]; omega) | (simp; done) | (simp; omega))) 1).trans (by go_simp; exact rfl)
       have c5_2 := (lcc hb3 (w.heap.size) (by (first | omega | (simp only [sz_alloc, sz_setCell, sz_drew, sz_drewN]; omega) | (simp; done) | (simp; omega))) 2).trans (by go_simp; exact rfl)
       have f5 := lcff hb3 (w.heap.size) (by (first | omega | (simp only [sz_alloc, sz_setCell, sz_drew, sz_drewN]; omega) | (simp; done) | (simp; omega))) (by intro o; go_simp)
       obtain ⟨s6, c6_0, c6_1, c6_2, c6_3, c6_4, c6_5, f6⟩ := L6 hb3 (w.heap.size + 1) (by first | omega | (simp only [sA, sC, sD, sE]; omega) | (simp; done) | (simp; omega)) (by go_simp; exact ⟨rfl, rfl, rfl, rfl, rfl, rfl⟩) (by intro o; go_simp)
       clear c3_0 c3_1 c3_2 f3 c4_0 c4_1 c4_2 c4_3 c4_4 c4_5 f4
       )
    | fail)
  rw [rounds_succ]
  have hlt3' := Lib.hid hlt3
  have hown3' := Lib.hid hown3
  have hs3 := hb3.size
  simp only [sz_alloc] at hs3
  clear hgrow3 hat3 hown3
  go_upto_region 16 with (fail)
  first | with_reducible refine wp_rebase ?_ | with_reducible refine wpList_rebase ?_
  intro w1 hb'
  have hb := hb'.out
  clear hb'
  have s7 := lcs hb (w.heap.size) (by (first | omega | (simp only [sz_alloc, sz_setCell, sz_drew, sz_drewN]; omega) | (simp; done) | (simp; omega)))
  have c7_0 := (lcc hb (w.heap.size) (by (first | omega | (simp only [sz_alloc, sz_setCell, sz_drew, sz_drewN]; omega) | (simp; done) | (simp; omega))) 0).trans (by go_simp; exact rfl)
  have c7_1 := (lcc hb (w.heap.size) (by (first | omega | (simp only [sz_alloc, sz_setCell, sz_drew, sz_drewN]; omega) | (simp; done) | (simp; omega))) 1).trans (by go_simp; exact rfl)
  have c7_2 := (lcc hb (w.heap.size) (by (first | omega | (simp only [sz_alloc, sz_setCell, sz_drew, sz_drewN]; omega) | (simp; done) | (simp; omega))) 2).trans (by go_simp; exact rfl)
  have f7 := lcff hb (w.heap.size) (by (first | omega | (simp only [sz_alloc, sz_setCell, sz_drew, sz_drewN]; omega) | (simp; done) | (simp; omega))) (by intro o; go_simp)
  obtain ⟨s8, c8_0, c8_1, c8_2, c8_3, c8_4, c8_5, f8⟩ := L6 hb (w.heap.size + 1) (by first | omega | (simp only [sA, sC, sD, sE]; omega) | (simp; done) | (simp; omega)) (by go_simp; exact ⟨rfl, rfl, rfl, rfl, rfl, rfl⟩) (by intro o; go_simp)
  clear c5_0 c5_1 c5_2 f5 c6_0 c6_1 c6_2 c6_3 c6_4 c6_5 f6
  go_region_held3 (fun w' => w'.cell? ⟨w.heap.size, 0, none⟩ = some (.slice none 0 0) ∧ w'.cell? ⟨w.heap.size, 1, none⟩ = some (.slice (some ⟨gt, 0, none⟩) 1 cap) ∧ w'.cell? ⟨w.heap.size, 2, none⟩ = some (.bool false) ∧ w'.cell? ⟨w.heap.size + 1, 0, none⟩ = some (.int .i64 blankV.k) ∧ w'.cell? ⟨w.heap.size + 1, 1, none⟩ = some (.int .i64 blankV.n) ∧ w'.cell? ⟨w.heap.size + 1, 2, none⟩ = some (.int .i64 blankV.d) ∧ w'.cell? ⟨w.heap.size + 1, 3, none⟩ = some (.string blankV.t) ∧ w'.cell? ⟨w.heap.size + 1, 4, none⟩ = some (.bool blankV.b) ∧ w'.cell? ⟨w.heap.size + 1, 5, none⟩ = some (.int .i64 blankV.f)) ((first | (refine ⟨?_, ?_, ?_, ?_, ?_, ?_, ?_, ?_, ?_⟩ <;> (go_simp; done)) | go_keep)) (fail)
  rename_i kK kA hHeld
  clear hHeld
  have ho1 := own_below (ownsRow_setCell_below hown3'.out (a := ⟨w.heap.size, 1, none⟩) (by show w.heap.size < _; omega) (.slice (some ⟨gt, 0, none⟩) 1 cap)) hb
  have ho2 := Lib.hid ho1
  clear ho1
  go_wp2
  refine bodyPost_ret (v := .tuple #[.agg #[.slice none 0 0, .slice (some ⟨gt, 0, none⟩) 1 cap, .bool false], .agg #[.int .i64 (blankV).k, .int .i64 (blankV).n, .int .i64 (blankV).d, .string (blankV).t, .bool (blankV).b, .int .i64 (blankV).f]]) (by simp [results, Tryz.results33, go_sem, c7_0, c7_1, c7_2, c8_0, c8_1, c8_2, c8_3, c8_4, c8_5]) rfl ⟨gt, cap, rfl, ?_, ?_⟩
  · focus
      repeat with_reducible first | exact Below.refl _ _ | refine below_drewN ?_ _ | refine Below.drew ?_ | refine Below.setCell ?_ ?_ _ | refine Below.alloc ?_ ?_ _ | refine below_then ?_ ?_ (by with_reducible assumption)
      all_goals first | omega | (simp only [sA, sC, sD, sE]; omega) | (simp; done) | (simp; omega)
  · refine own_mono (base := w.heap.size + 2) ?_ (by omega)
    refine World.ownsRow.drew ?_
    repeat (with_reducible refine ownsRow_setCell_below ?_ (by first | (show w.heap.size < _; omega) | (show w.heap.size + 1 < _; omega)) _)
    exact ho2.out

set_option maxRecDepth 100000 in
set_option maxHeartbeats 1000000 in
theorem funcs_ofTexts48 (t : ByteArray) (gt cap : Nat) (w : World) (hs : t.size ≤ 256) (hg : gt < w.heap.size) (c0 : w.cell? ⟨gt, 0, none⟩ = some (.string t)) :
    Calls Tryz.prog 35 #[.int .i64 48, .agg #[.slice none 0 0, .slice (some ⟨gt, 0, none⟩) 1 cap, .bool false]] w fun e w' => e = .returned (.agg #[.int .i64 (wholeF t.size).k, .int .i64 (wholeF t.size).n, .int .i64 (wholeF t.size).d, .string (wholeF t.size).t, .bool (wholeF t.size).b, .int .i64 (wholeF t.size).f]) ∧ Below w.heap.size w w' := by
  have hne : ¬ gt = w.heap.size := by omega
  have hne' : ¬ w.heap.size = gt := by omega
  have HW := Lib.hid fun wx => funcs_whole (t.size : Int) wx ⟨by omega, by omega⟩
  go_enter Tryz.func35, Tryz.ntmps35
  go_wp2_with fail
  refine (HW.out _).mono ?_
  rintro e w1 ⟨rfl, hb⟩
  obtain ⟨s9, c9_0, c9_1, c9_2, c9_3, c9_4, c9_5, f9⟩ := L6 hb (w.heap.size + 1) (by first | omega | (simp only [sA, sC, sD, sE]; omega) | (simp; done) | (simp; omega)) (by go_simp; exact ⟨rfl, rfl, rfl, rfl, rfl, rfl⟩) (by intro o; go_simp)
  go_wp2
  refine bodyPost_ret (v := .agg #[.int .i64 (wholeF t.size).k, .int .i64 (wholeF t.size).n, .int .i64 (wholeF t.size).d, .string (wholeF t.size).t, .bool (wholeF t.size).b, .int .i64 (wholeF t.size).f]) (by simp [results, Tryz.results35, go_sem, c9_0, c9_1, c9_2, c9_3, c9_4, c9_5]) rfl ⟨rfl, ?_⟩
  focus
    repeat with_reducible first | exact Below.refl _ _ | refine below_drewN ?_ _ | refine Below.drew ?_ | refine Below.setCell ?_ ?_ _ | refine Below.alloc ?_ ?_ _ | refine below_then ?_ ?_ (by with_reducible assumption)
    all_goals first | omega | (simp only [sA, sC, sD, sE]; omega) | (simp; done) | (simp; omega)
end Go.Proofs.YtglngfaagjgpjaaGreatDoor
