/- Walks of package funcs: the table's rows. Plain laws on the table of functions and on rows of records of six cells; no program in sight. Walks of package funcs: the whole table. -/
import Derived.Test.YtnimenpfojcehaaGreatDoorNumA
import Derived.Maps.AppendAt
import Derived.Deep.AppendLies
import Derived.Lib.Hide
import Derived.Handy
namespace Go.Proofs.YtnimenpfojcehaaGreatDoor
open Go Go.RowKit
set_option linter.unusedSimpArgs false
set_option linter.unusedVariables false

/-- api.Sig -/
structure SigS where
  id : Int
  cl : Int
  name : ByteArray
  least : Int
  most : Int
  params : ByteArray
def SigS.cells (s : SigS) : List Value := [.int .i64 s.id, .int .i64 s.cl, .string s.name, .int .i64 s.least, .int .i64 s.most, .string s.params]
def SigS.val (s : SigS) : Value := .agg #[.int .i64 s.id, .int .i64 s.cl, .string s.name, .int .i64 s.least, .int .i64 s.most, .string s.params]
theorem SigS.len (s : SigS) : s.cells.length = 6 := rfl

set_option maxHeartbeats 1000000 in
theorem funcs_row (id cl : Int) (name : ByteArray) (least most : Int) (params : ByteArray) (w : World) :
    Calls Tryz.prog 49 #[.int .i64 id, .int .i64 cl, .string name, .int .i64 least, .int .i64 most, .string params] w fun e w' => e = .returned (.agg #[.int .i64 id, .int .i64 cl, .string name, .int .i64 least, .int .i64 most, .string params]) ∧ Below w.heap.size w w' := by
  go_enter Tryz.func49, Tryz.ntmps49
  go_wp2
  refine bodyPost_ret (v := .agg #[.int .i64 id, .int .i64 cl, .string name, .int .i64 least, .int .i64 most, .string params]) (by simp [results, Tryz.results49, go_sem]) rfl ⟨rfl, ?_⟩
  focus
    repeat with_reducible first | exact Below.refl _ _ | refine below_drewN ?_ _ | refine Below.drew ?_ | refine Below.setCell ?_ ?_ _ | refine Below.alloc ?_ ?_ _ | refine below_then ?_ ?_ (by with_reducible assumption)
    all_goals first | omega | (simp only [sA, sC, sD, sE]; omega) | (simp; done) | (simp; omega)

set_option maxHeartbeats 1000000 in
theorem funcs_scalar (id : Int) (name : ByteArray) (least most : Int) (w : World) :
    Calls Tryz.prog 73 #[.int .i64 id, .string name, .int .i64 least, .int .i64 most] w fun e w' => e = .returned (.agg #[.int .i64 id, .int .i64 4, .string name, .int .i64 least, .int .i64 most, .string ⟨#[118]⟩]) ∧ Below w.heap.size w w' := by
  go_enter Tryz.func73, Tryz.ntmps73
  go_wp2_with fail
  refine (funcs_row _ _ _ _ _ _ _).mono ?_
  rintro e w1 ⟨rfl, hb⟩
  obtain ⟨s1, c1_0, c1_1, c1_2, c1_3, c1_4, c1_5, f1⟩ := L6 hb (w.heap.size) (by first | omega | (simp only [sA, sC, sD, sE]; omega) | (simp; done) | (simp; omega)) (by go_simp; exact ⟨rfl, rfl, rfl, rfl, rfl, rfl⟩) (by intro o; go_simp)
  go_wp2
  refine bodyPost_ret (v := .agg #[.int .i64 id, .int .i64 4, .string name, .int .i64 least, .int .i64 most, .string ⟨#[118]⟩]) (by simp [results, Tryz.results73, go_sem, c1_0, c1_1, c1_2, c1_3, c1_4, c1_5]) rfl ⟨rfl, ?_⟩
  focus
    repeat with_reducible first | exact Below.refl _ _ | refine below_drewN ?_ _ | refine Below.drew ?_ | refine Below.setCell ?_ ?_ _ | refine Below.alloc ?_ ?_ _ | refine below_then ?_ ?_ (by with_reducible assumption)
    all_goals first | omega | (simp only [sA, sC, sD, sE]; omega) | (simp; done) | (simp; omega)

def foldNames : List ByteArray := [⟨#[83, 85, 77]⟩, ⟨#[80, 82, 79, 68, 85, 67, 84]⟩, ⟨#[67, 79, 85, 78, 84]⟩, ⟨#[67, 79, 85, 78, 84, 65]⟩, ⟨#[77, 73, 78]⟩, ⟨#[77, 65, 88]⟩, ⟨#[65, 86, 69, 82, 65, 71, 69]⟩, ⟨#[65, 78, 68]⟩, ⟨#[79, 82]⟩, ⟨#[88, 79, 82]⟩, ⟨#[67, 79, 78, 67, 65, 84]⟩, ⟨#[83, 85, 77, 83, 81]⟩, ⟨#[71, 67, 68]⟩, ⟨#[70, 73, 82, 83, 84]⟩, ⟨#[76, 65, 83, 84]⟩]
def foldRow (i : Nat) (name : ByteArray) : SigS := ⟨1 + (i : Int), 1, name, 1, 30, ⟨#[120]⟩⟩
def foldsL : List SigS := foldNames.mapIdx foldRow
def othersL : List SigS := [⟨20, 2, ⟨#[77, 65, 84, 67, 72]⟩, 2, 2, ⟨#[118, 97]⟩⟩,
  ⟨21, 2, ⟨#[67, 79, 85, 78, 84, 73, 70]⟩, 2, 2, ⟨#[97, 118]⟩⟩,
  ⟨22, 2, ⟨#[83, 85, 77, 73, 70]⟩, 2, 3, ⟨#[97, 118, 97]⟩⟩,
  ⟨23, 2, ⟨#[76, 79, 79, 75, 85, 80]⟩, 3, 3, ⟨#[118, 97, 97]⟩⟩,
  ⟨24, 2, ⟨#[83, 85, 77, 80, 82, 79, 68, 85, 67, 84]⟩, 2, 2, ⟨#[97]⟩⟩,
  ⟨25, 2, ⟨#[73, 78, 68, 69, 88]⟩, 2, 3, ⟨#[97, 118]⟩⟩,
  ⟨26, 2, ⟨#[82, 79, 87, 83]⟩, 1, 1, ⟨#[97]⟩⟩,
  ⟨27, 2, ⟨#[67, 79, 76, 85, 77, 78, 83]⟩, 1, 1, ⟨#[97]⟩⟩,
  ⟨30, 3, ⟨#[73, 70]⟩, 2, 3, ⟨#[118]⟩⟩,
  ⟨31, 3, ⟨#[73, 70, 69, 82, 82, 79, 82]⟩, 2, 2, ⟨#[118]⟩⟩,
  ⟨32, 3, ⟨#[67, 72, 79, 79, 83, 69]⟩, 2, 30, ⟨#[118]⟩⟩]
def scalarsL : List SigS := [⟨40, 4, ⟨#[65, 66, 83]⟩, 1, 1, ⟨#[118]⟩⟩,
  ⟨41, 4, ⟨#[83, 73, 71, 78]⟩, 1, 1, ⟨#[118]⟩⟩,
  ⟨42, 4, ⟨#[73, 78, 84]⟩, 1, 1, ⟨#[118]⟩⟩,
  ⟨43, 4, ⟨#[82, 79, 85, 78, 68]⟩, 1, 2, ⟨#[118]⟩⟩,
  ⟨44, 4, ⟨#[77, 79, 68]⟩, 2, 2, ⟨#[118]⟩⟩,
  ⟨45, 4, ⟨#[81, 85, 79, 84, 73, 69, 78, 84]⟩, 2, 2, ⟨#[118]⟩⟩,
  ⟨46, 4, ⟨#[80, 79, 87, 69, 82]⟩, 2, 2, ⟨#[118]⟩⟩,
  ⟨47, 4, ⟨#[78, 79, 84]⟩, 1, 1, ⟨#[118]⟩⟩,
  ⟨48, 4, ⟨#[76, 69, 78]⟩, 1, 1, ⟨#[118]⟩⟩,
  ⟨49, 4, ⟨#[76, 69, 70, 84]⟩, 1, 2, ⟨#[118]⟩⟩,
  ⟨50, 4, ⟨#[82, 73, 71, 72, 84]⟩, 1, 2, ⟨#[118]⟩⟩,
  ⟨51, 4, ⟨#[77, 73, 68]⟩, 3, 3, ⟨#[118]⟩⟩,
  ⟨52, 4, ⟨#[82, 69, 80, 84]⟩, 2, 2, ⟨#[118]⟩⟩,
  ⟨53, 4, ⟨#[70, 73, 78, 68]⟩, 2, 2, ⟨#[118]⟩⟩,
  ⟨54, 4, ⟨#[85, 80, 80, 69, 82]⟩, 1, 1, ⟨#[118]⟩⟩,
  ⟨55, 4, ⟨#[76, 79, 87, 69, 82]⟩, 1, 1, ⟨#[118]⟩⟩,
  ⟨56, 4, ⟨#[84, 82, 73, 77]⟩, 1, 1, ⟨#[118]⟩⟩,
  ⟨57, 4, ⟨#[86, 65, 76, 85, 69]⟩, 1, 1, ⟨#[118]⟩⟩,
  ⟨58, 4, ⟨#[73, 83, 78, 85, 77, 66, 69, 82]⟩, 1, 1, ⟨#[118]⟩⟩,
  ⟨59, 4, ⟨#[73, 83, 84, 69, 88, 84]⟩, 1, 1, ⟨#[118]⟩⟩,
  ⟨60, 4, ⟨#[73, 83, 66, 76, 65, 78, 75]⟩, 1, 1, ⟨#[118]⟩⟩,
  ⟨61, 4, ⟨#[73, 83, 69, 82, 82, 79, 82]⟩, 1, 1, ⟨#[118]⟩⟩,
  ⟨62, 4, ⟨#[78, 65]⟩, 0, 0, ⟨#[118]⟩⟩]
def tableL : List SigS := foldsL ++ othersL ++ scalarsL

set_option maxHeartbeats 1000000 in
theorem funcs_folds (w : World) :
    Calls Tryz.prog 48 #[] w fun e w' => e = .returned (.slice (some ⟨w.heap.size, 0, none⟩) 15 15) ∧ Below w.heap.size w w' ∧ w'.heap[w.heap.size]? = some (.cells (foldNames.map Value.string).toArray 9 (0, 0)) := by
  go_enter Tryz.func48, Tryz.ntmps48
  go_wp2
  go_ret
  refine ⟨rfl, ?_, heap_alloc_new _ _⟩
  focus
    repeat with_reducible first | exact Below.refl _ _ | refine below_drewN ?_ _ | refine Below.drew ?_ | refine Below.setCell ?_ ?_ _ | refine Below.alloc ?_ ?_ _ | refine below_then ?_ ?_ (by with_reducible assumption)
    all_goals first | omega | (simp only [sA, sC, sD, sE]; omega) | (simp; done) | (simp; omega)

set_option maxHeartbeats 1000000 in
theorem funcs_others (w : World) :
    Calls Tryz.prog 50 #[] w fun e w' => ∃ g, e = .returned (.slice (some ⟨g, 0, none⟩) 11 11) ∧ Below w.heap.size w w' ∧ w.heap.size ≤ g ∧ w'.heap[g]? = some (.cells (othersL.flatMap SigS.cells).toArray 49 (0, 0)) := by
  have hb := Below.refl w.heap.size w
  go_enter Tryz.func50, Tryz.ntmps50
  repeat (go_wp2_with fail; refine (funcs_row _ _ _ _ _ _ _).mono ?_; rintro e wn ⟨rfl, hn⟩; replace hb := hb.trans (hn.mono hb.size); clear hn)
  go_wp2
  go_ret
  refine ⟨_, rfl, ?_, hb.size, heap_alloc_new _ _⟩
  exact hb.alloc hb.size _

end Go.Proofs.YtnimenpfojcehaaGreatDoor
namespace Go.Proofs.YtnimenpfojcehaaGreatDoor
open Go Go.RowKit
set_option linter.unusedSimpArgs false
set_option linter.unusedVariables false

theorem flat6 {α : Type} (c : α → List Value) (hc : ∀ x, (c x).length = 6) : ∀ (l : List α) (k j : Nat) (hk : k < l.length), j < 6 → (l.flatMap c)[k * 6 + j]? = (c l[k])[j]? := by
  intro l
  induction l with
  | nil => intro k j hk; simp at hk
  | cons x l ih =>
    intro k j hk hj
    rw [List.flatMap_cons]
    cases k with
    | zero => rw [List.getElem?_append_left (by rw [hc]; omega)]; simp
    | succ k =>
      rw [List.getElem?_append_right (by rw [hc]; omega), hc, show (k + 1) * 6 + j - 6 = k * 6 + j by omega]
      exact ih k j (by simpa using hk) hj
theorem flat6_snoc {α : Type} (c : α → List Value) (l : List α) (x : α) : (l ++ [x]).flatMap c = l.flatMap c ++ c x := by simp

theorem foldNames_len : foldNames.length = 15 := rfl
theorem foldsL_len : foldsL.length = 15 := rfl
theorem tableL_len : tableL.length = 49 := rfl
theorem foldsL_step {k : Nat} (h : k < 15) : (foldsL.take (k + 1)).flatMap SigS.cells = (foldsL.take k).flatMap SigS.cells ++ (foldRow k (foldNames.getD k ⟨#[]⟩)).cells := by
  rw [List.take_succ_eq_append_getElem (by rw [foldsL_len]; exact h), flat6_snoc]
  congr 2
  have : foldsL[k]? = (foldNames.mapIdx foldRow)[k]? := rfl
  rw [List.getElem?_mapIdx] at this
  have hk : k < foldNames.length := by rw [foldNames_len]; exact h
  rw [List.getElem?_eq_getElem hk, List.getElem?_eq_getElem (by rw [foldsL_len]; exact h)] at this
  simp only [Option.map_some, Option.some.injEq] at this
  rw [this, List.getD_eq_getElem?_getD, List.getElem?_eq_getElem hk]
  rfl
theorem foldNames_at {k : Nat} (h : k < 15) : (foldNames.map Value.string).toArray[k]? = some (.string (foldNames.getD k ⟨#[]⟩)) := by
  have hk : k < foldNames.length := by rw [foldNames_len]; exact h
  rw [List.getElem?_toArray, List.getElem?_map, List.getElem?_eq_getElem hk, List.getD_eq_getElem?_getD, List.getElem?_eq_getElem hk]
  rfl
def sigZ : SigS := ⟨0, 0, ⟨#[]⟩, 0, 0, ⟨#[]⟩⟩
def isId (id : Int) (s : SigS) : Bool := s.id == id
def isName (name : ByteArray) (s : SigS) : Bool := s.name.toList == name.toList
def byIdL (id : Int) : Option SigS := tableL.find? (isId id)
def ofL (name : ByteArray) : Option SigS := tableL.find? (isName name)
theorem find_at {α : Type} {l : List α} {p : α → Bool} {k : Nat} (h : k < l.length) (hp : p l[k] = true) (hn : ∀ j (hj : j < l.length), j < k → p l[j] = false) : l.find? p = some l[k] := by
  rw [List.find?_eq_some_iff_getElem]
  exact ⟨hp, k, h, rfl, fun j hj => by rw [hn j (by omega) hj]; rfl⟩
theorem find_no {α : Type} {l : List α} {p : α → Bool} (hn : ∀ j (hj : j < l.length), p l[j] = false) : l.find? p = none := by
  rw [List.find?_eq_none]
  intro x hx
  obtain ⟨j, hj, rfl⟩ := List.getElem_of_mem hx
  rw [hn j hj]; simp
end Go.Proofs.YtnimenpfojcehaaGreatDoor
namespace Go.Proofs.YtnimenpfojcehaaGreatDoor
open Go Go.RowKit
set_option linter.unusedSimpArgs false
set_option linter.unusedVariables false

theorem zero_sig : ∃ i, Tryz.prog.info? 49 = some i ∧ i.zero = some (.agg #[.int .i64 0, .int .i64 0, .string ⟨#[]⟩, .int .i64 0, .int .i64 0, .string ⟨#[]⟩]) ∧ i.size = 6 ∧ i.bytes = 64 := by
  have h : (Tryz.prog.info? 49).map (fun i => (i.zero, i.size, i.bytes)) = some (some (.agg #[.int .i64 0, .int .i64 0, .string ⟨#[]⟩, .int .i64 0, .int .i64 0, .string ⟨#[]⟩]), 6, 64) := by kernel_rfl
  cases hi : Tryz.prog.info? 49 with
  | none => rw [hi] at h; cases h
  | some i => rw [hi] at h; simp only [Option.map_some, Option.some.injEq, Prod.mk.injEq] at h; exact ⟨i, rfl, h.1, h.2.1, h.2.2⟩

/-- What is known behind i rounds of the table's loop. -/
def AllRel (w : World) (g0 : Nat) (x i : Value) (wr : World) : Prop :=
  ∃ k : Nat, k ≤ 15 ∧ i = .int .i64 k ∧ Below w.heap.size w wr ∧ wr.heap[g0]? = some (.cells (foldNames.map Value.string).toArray 9 (0, 0)) ∧
    wr.ownsRow (g0 + 1) 49 6 x k ((foldsL.take k).flatMap SigS.cells)

theorem SigS.one (s : SigS) : ∀ u ∈ s.cells, u.oneCell' = true := by
  intro u hu
  simp only [SigS.cells, List.mem_cons, List.mem_nil_iff, or_false] at hu
  rcases hu with rfl | rfl | rfl | rfl | rfl | rfl <;> rfl
theorem sigs_one (l : List SigS) : ∀ u ∈ l.flatMap SigS.cells, u.oneCell' = true := by
  intro u hu
  obtain ⟨s, _, hs⟩ := List.mem_flatMap.1 hu
  exact s.one u hs
theorem below_grownBy {B : Nat} {w w1 w2 : World} {v : Value} {e : TypeId} {z n : Nat} {xs : List Value} (h : Below B w w1) (hg : w1.grownBy w2 v.ownBlock) (hown : w1.ownsRow B e z v n xs) (hs : B ≤ w1.heap.size) : Below B w w2 :=
  h.trans ⟨hg.os, hg.tape, hg.output, hg.size, fun k hk => hg.block k (by omega) (by
    intro he
    have := (hown.lt k he.symm).1
    omega)⟩
theorem own_below {B : Nat} {w1 w2 : World} {v : Value} {e : TypeId} {z n : Nat} {xs : List Value} (hown : w1.ownsRow B e z v n xs) (h : Below w1.heap.size w1 w2) : w2.ownsRow B e z v n xs :=
  hown.kept (row := none) ⟨h.os, h.tape, h.output, h.size, fun k hk _ => h.block k hk⟩ (by cases hv : v.ownBlock <;> simp)

theorem own_mono {w : World} {base base' : Nat} {v : Value} {e : TypeId} {z n : Nat} {xs : List Value} (h : w.ownsRow base e z v n xs) (hb : base' ≤ base) : w.ownsRow base' e z v n xs :=
  ⟨h.1, h.2.imp id fun ⟨g, cap, cur, he, hb', r⟩ => ⟨g, cap, cur, he, Nat.le_trans hb hb', r⟩⟩
theorem own_ne {w : World} {base : Nat} {v : Value} {e : TypeId} {z n : Nat} {xs : List Value} {k : Nat} (h : w.ownsRow base e z v n xs) (hk : k < base) : some k ≠ v.ownBlock := by
  intro he
  have := (h.lt k he.symm).1
  omega

set_option maxRecDepth 100000 in
set_option maxHeartbeats 1000000 in
theorem funcs_All0 (w : World) (HSc : ∀ wx : World, Calls Tryz.prog 51 #[] wx fun e w' => ∃ g, e = .returned (.slice (some ⟨g, 0, none⟩) 23 23) ∧ Below wx.heap.size wx w' ∧ wx.heap.size ≤ g ∧ w'.heap[g]? = some (.cells (scalarsL.flatMap SigS.cells).toArray 49 (0, 0))) :
    Calls Tryz.prog 32 #[] w fun e w' => ∃ g cap, e = .returned (.slice (some ⟨g, 0, none⟩) 49 cap) ∧ Below w.heap.size w w' ∧ w'.ownsRow w.heap.size 49 6 (.slice (some ⟨g, 0, none⟩) 49 cap) 49 (tableL.flatMap SigS.cells) := by
  have HS := Lib.hid HSc
  clear HSc
  go_enter Tryz.func32, Tryz.ntmps32
  go_wp2_with fail
  refine (funcs_folds _).mono ?_
  rintro e w1 ⟨rfl, hb, hF⟩
  go_wp2
  go_loopw [1, 6] (fun x i wr => AllRel w w.heap.size x i wr) (fun _ i _ => 15 - (intOf i).toNat)
  case atStart => exact ⟨0, by omega, rfl, hb, hF, World.ownsRow_nil _ _ _ _⟩
  case round =>
    obtain ⟨k, hk, rfl, hbk, hFk, hown⟩ := hrel
    by_cases hlt : k < 15
    · obtain ⟨i0, hi, hz, hsz, hby⟩ := zero_sig
      obtain ⟨nm, hnm⟩ : ∃ nm, nm = foldNames.getD k ⟨#[]⟩ := ⟨_, rfl⟩
      have cN : wr.cell? ⟨w.heap.size, k, none⟩ = some (.string nm) := by
        rw [hnm]; exact (cell_of_row wr w.heap.size k _ _ (0, 0) hFk).trans (foldNames_at hlt)
      have HN := Lib.hid hnm
      clear hnm
      have hsw := hbk.size
      have hltF := lt_of_block hFk
      go_wp2_with fail
      refine (funcs_row _ _ _ _ _ _ _).mono ?_
      rintro e w2 ⟨rfl, hb2⟩
      have hown2 := own_below hown hb2
      have hbk2 := hbk.trans (hb2.mono hsw)
      have hF2 := (hb2.block _ hltF).trans hFk
      have hs2 := hb2.size
      go_wp2_with (first
        | (at_builtin; refine wpList_append_lies _ rfl _ _ 68 rfl (w.heap.size + 1) 49 i0 _ 6 64 Tryz.underlying68 hi hz hsz hby rfl (by decide) _ k _ rfl (hown2.alloc _) ⟨w2.heap.size, 0, none⟩ 1 1 (foldRow k nm).cells rfl rfl (World.news_of_block (heap_alloc_new _ _)) (SigS.one _) (by decide) (by unfold maxLen; omega) (by omega) (by simp; omega) _ rfl ?_; intro g cap w3 hown3 hgrow3 hat3 hlt3)
        | go_in)
      go_roundw
      case rel =>
        refine ⟨k + 1, by omega, by go_num, below_grownBy (hbk2.alloc (by omega) _) hgrow3 (own_mono (hown2.alloc _) (by omega)) (by simp; omega), ?_, ?_⟩
        · rw [hgrow3.block _ (by simp; omega) (own_ne (hown2.alloc (.cells (foldRow k nm).cells.toArray 49)) (by omega)), heap_alloc_old _ _ (by omega)]; exact hF2
        · rw [foldsL_step hlt, ← HN.out]; exact hown3
      case measure => simp [intOf]; omega
    · obtain rfl : k = 15 := by omega
      obtain ⟨i0, hi, hz, hsz, hby⟩ := zero_sig
      have hsw := hbk.size
      have hltF := lt_of_block hFk
      go_wp2_with fail
      refine (funcs_others _).mono ?_
      rintro e w2 ⟨g1, rfl, hb2, hg1, hB1⟩
      have hown2 := own_below hown hb2
      have hbk2 := hbk.trans (hb2.mono hsw)
      have hs2 := hb2.size
      have hB1' : g1 < w2.heap.size := lt_of_block hB1
      go_wp2_with (first
        | (at_builtin; refine wpList_append_lies _ rfl _ _ 68 rfl (w.heap.size + 1) 49 i0 _ 6 64 Tryz.underlying68 hi hz hsz hby rfl (by decide) _ 15 _ rfl hown2 ⟨g1, 0, none⟩ 11 11 (othersL.flatMap SigS.cells) rfl rfl (World.news_of_block hB1) (sigs_one _) (by decide) (by unfold maxLen; omega) (by omega) (by omega) _ rfl ?_; intro g cap w3 hown3 hgrow3 hat3 hlt3)
        | fail)
      have hbk3 := below_grownBy hbk2 hgrow3 (own_mono hown2 (by omega)) (by omega)
      have hs3 := hbk3.size
      refine (HS.out _).mono ?_
      rintro e w4 ⟨g2, rfl, hb4, hg2, hB2⟩
      have hown4 := own_below hown3 hb4
      have hbk4 := hbk3.trans (hb4.mono hs3)
      have hs4 := hb4.size
      have hs3' := hgrow3.size
      have hB2' : g2 < w4.heap.size := lt_of_block hB2
      go_wp2_with (first
        | (at_builtin; refine wpList_append_lies _ rfl _ _ 68 rfl (w.heap.size + 1) 49 i0 _ 6 64 Tryz.underlying68 hi hz hsz hby rfl (by decide) _ (15 + 11) _ rfl hown4 ⟨g2, 0, none⟩ 23 23 (scalarsL.flatMap SigS.cells) rfl rfl (World.news_of_block hB2) (sigs_one _) (by decide) (by unfold maxLen; omega) (by omega) (by omega) _ rfl ?_; intro g' cap' w5 hown5 hgrow5 hat5 hlt5)
        | fail)
      go_ret
      refine ⟨_, _, rfl, below_grownBy hbk4 hgrow5 (own_mono hown4 (by omega)) (by omega), ?_⟩
      have e1 : tableL.flatMap SigS.cells = (foldsL.take 15).flatMap SigS.cells ++ othersL.flatMap SigS.cells ++ scalarsL.flatMap SigS.cells := rfl
      rw [e1]
      exact own_mono hown5 (by omega)

end Go.Proofs.YtnimenpfojcehaaGreatDoor
