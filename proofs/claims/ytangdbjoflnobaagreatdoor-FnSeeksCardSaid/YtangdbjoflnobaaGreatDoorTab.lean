/- Walks of package funcs: the table's rows. -/
import Derived.Test.YtangdbjoflnobaaGreatDoorNumA
import Derived.Maps.AppendAt
import Derived.Deep.AppendLies
namespace Go.Proofs.YtangdbjoflnobaaGreatDoor
open Go Go.RowKit
set_option linter.unusedSimpArgs false
set_option linter.unusedVariables false

/-- api.Sig -/
structure SigS where
  id : Int
  cl : Int
  name : ByteArray
  least : Int
  most : Int
  params : ByteArray
def SigS.cells (s : SigS) : List Value := [.int .i64 s.id, .int .i64 s.cl, .string s.name, .int .i64 s.least, .int .i64 s.most, .string s.params]
def SigS.val (s : SigS) : Value := .agg #[.int .i64 s.id, .int .i64 s.cl, .string s.name, .int .i64 s.least, .int .i64 s.most, .string s.params]
theorem SigS.len (s : SigS) : s.cells.length = 6 := rfl

set_option maxHeartbeats 1000000 in
theorem funcs_row (id cl : Int) (name : ByteArray) (least most : Int) (params : ByteArray) (w : World) :
    Calls Tryz.prog 51 #[.int .i64 id, .int .i64 cl, .string name, .int .i64 least, .int .i64 most, .string params] w fun e w' => e = .returned (.agg #[.int .i64 id, .int .i64 cl, .string name, .int .i64 least, .int .i64 most, .string params]) ∧ Below w.heap.size w w' := by
  go_enter Tryz.func51, Tryz.ntmps51
  go_wp2
  refine bodyPost_ret (v := .agg #[.int .i64 id, .int .i64 cl, .string name, .int .i64 least, .int .i64 most, .string params]) (by simp [results, Tryz.results51, go_sem]) rfl ⟨rfl, ?_⟩
  repeat (first | with_reducible exact Below.refl _ _ | with_reducible refine below_drewN ?_ _ | with_reducible refine Below.drew ?_ | with_reducible refine Below.setCell ?_ (by (first | omega | (simp only [sz_alloc, sz_setCell, sz_drew, sz_drewN]; omega) | (simp; done) | (simp; omega))) _ | with_reducible refine Below.alloc ?_ (by (first | omega | (simp only [sz_alloc, sz_setCell, sz_drew, sz_drewN]; omega) | (simp; done) | (simp; omega))) _ | with_reducible refine below_then ?_ ?_ (by with_reducible assumption) | (first | omega | (simp only [sz_alloc, sz_setCell, sz_drew, sz_drewN]; omega) | (simp; done) | (simp; omega)))

set_option maxHeartbeats 1000000 in
theorem funcs_scalar (id : Int) (name : ByteArray) (least most : Int) (w : World) :
    Calls Tryz.prog 91 #[.int .i64 id, .string name, .int .i64 least, .int .i64 most] w fun e w' => e = .returned (.agg #[.int .i64 id, .int .i64 4, .string name, .int .i64 least, .int .i64 most, .string ⟨#[118]⟩]) ∧ Below w.heap.size w w' := by
  go_enter Tryz.func91, Tryz.ntmps91
  go_wp2_with fail
  refine (funcs_row _ _ _ _ _ _ _).mono ?_
  rintro e w1 ⟨rfl, hb⟩
  have s1 := lcs hb (w.heap.size) (by (first | omega | (simp only [sz_alloc, sz_setCell, sz_drew, sz_drewN]; omega) | (simp; done) | (simp; omega)))
  have c1_0 := (lcc hb (w.heap.size) (by (first | omega | (simp only [sz_alloc, sz_setCell, sz_drew, sz_drewN]; omega) | (simp; done) | (simp; omega))) 0).trans (by go_simp; exact rfl)
  have c1_1 := (lcc hb (w.heap.size) (by (first | omega | (simp only [sz_alloc, sz_setCell, sz_drew, sz_drewN]; omega) | (simp; done) | (simp; omega))) 1).trans (by go_simp; exact rfl)
  have c1_2 := (lcc hb (w.heap.size) (by (first | omega | (simp only [sz_alloc, sz_setCell, sz_drew, sz_drewN]; omega) | (simp; done) | (simp; omega))) 2).trans (by go_simp; exact rfl)
  have c1_3 := (lcc hb (w.heap.size) (by (first | omega | (simp only [sz_alloc, sz_setCell, sz_drew, sz_drewN]; omega) | (simp; done) | (simp; omega))) 3).trans (by go_simp; exact rfl)
  have c1_4 := (lcc hb (w.heap.size) (by (first | omega | (simp only [sz_alloc, sz_setCell, sz_drew, sz_drewN]; omega) | (simp; done) | (simp; omega))) 4).trans (by go_simp; exact rfl)
  have c1_5 := (lcc hb (w.heap.size) (by (first | omega | (simp only [sz_alloc, sz_setCell, sz_drew, sz_drewN]; omega) | (simp; done) | (simp; omega))) 5).trans (by go_simp; exact rfl)
  have f1 := lcff hb (w.heap.size) (by (first | omega | (simp only [sz_alloc, sz_setCell, sz_drew, sz_drewN]; omega) | (simp; done) | (simp; omega))) (by intro o; go_simp)
  go_wp2
  refine bodyPost_ret (v := .agg #[.int .i64 id, .int .i64 4, .string name, .int .i64 least, .int .i64 most, .string ⟨#[118]⟩]) (by simp [results, Tryz.results91, go_sem, c1_0, c1_1, c1_2, c1_3, c1_4, c1_5]) rfl ⟨rfl, ?_⟩
  repeat (first | with_reducible exact Below.refl _ _ | with_reducible refine below_drewN ?_ _ | with_reducible refine Below.drew ?_ | with_reducible refine Below.setCell ?_ (by (first | omega | (simp only [sz_alloc, sz_setCell, sz_drew, sz_drewN]; omega) | (simp; done) | (simp; omega))) _ | with_reducible refine Below.alloc ?_ (by (first | omega | (simp only [sz_alloc, sz_setCell, sz_drew, sz_drewN]; omega) | (simp; done) | (simp; omega))) _ | with_reducible refine below_then ?_ ?_ (by with_reducible assumption) | (first | omega | (simp only [sz_alloc, sz_setCell, sz_drew, sz_drewN]; omega) | (simp; done) | (simp; omega)))

def foldNames : List ByteArray := [⟨#[83, 85, 77]⟩, ⟨#[80, 82, 79, 68, 85, 67, 84]⟩, ⟨#[67, 79, 85, 78, 84]⟩, ⟨#[67, 79, 85, 78, 84, 65]⟩, ⟨#[77, 73, 78]⟩, ⟨#[77, 65, 88]⟩, ⟨#[65, 86, 69, 82, 65, 71, 69]⟩, ⟨#[65, 78, 68]⟩, ⟨#[79, 82]⟩, ⟨#[88, 79, 82]⟩, ⟨#[67, 79, 78, 67, 65, 84]⟩, ⟨#[83, 85, 77, 83, 81]⟩, ⟨#[71, 67, 68]⟩, ⟨#[70, 73, 82, 83, 84]⟩, ⟨#[76, 65, 83, 84]⟩]
def foldRow (i : Nat) (name : ByteArray) : SigS := ⟨1 + (i : Int), 1, name, 1, 30, ⟨#[120]⟩⟩
def foldsL : List SigS := foldNames.mapIdx foldRow
def othersL : List SigS := [⟨20, 2, ⟨#[77, 65, 84, 67, 72]⟩, 2, 2, ⟨#[118, 97]⟩⟩,
  ⟨21, 2, ⟨#[67, 79, 85, 78, 84, 73, 70]⟩, 2, 2, ⟨#[97, 118]⟩⟩,
  ⟨22, 2, ⟨#[83, 85, 77, 73, 70]⟩, 2, 3, ⟨#[97, 118, 97]⟩⟩,
  ⟨23, 2, ⟨#[76, 79, 79, 75, 85, 80]⟩, 3, 3, ⟨#[118, 97, 97]⟩⟩,
  ⟨24, 2, ⟨#[83, 85, 77, 80, 82, 79, 68, 85, 67, 84]⟩, 2, 2, ⟨#[97]⟩⟩,
  ⟨25, 2, ⟨#[73, 78, 68, 69, 88]⟩, 2, 3, ⟨#[97, 118]⟩⟩,
  ⟨26, 2, ⟨#[82, 79, 87, 83]⟩, 1, 1, ⟨#[97]⟩⟩,
  ⟨27, 2, ⟨#[67, 79, 76, 85, 77, 78, 83]⟩, 1, 1, ⟨#[97]⟩⟩,
  ⟨30, 3, ⟨#[73, 70]⟩, 2, 3, ⟨#[118]⟩⟩,
  ⟨31, 3, ⟨#[73, 70, 69, 82, 82, 79, 82]⟩, 2, 2, ⟨#[118]⟩⟩,
  ⟨32, 3, ⟨#[67, 72, 79, 79, 83, 69]⟩, 2, 30, ⟨#[118]⟩⟩]
def scalarsL : List SigS := [⟨40, 4, ⟨#[65, 66, 83]⟩, 1, 1, ⟨#[118]⟩⟩,
  ⟨41, 4, ⟨#[83, 73, 71, 78]⟩, 1, 1, ⟨#[118]⟩⟩,
  ⟨42, 4, ⟨#[73, 78, 84]⟩, 1, 1, ⟨#[118]⟩⟩,
  ⟨43, 4, ⟨#[82, 79, 85, 78, 68]⟩, 1, 2, ⟨#[118]⟩⟩,
  ⟨44, 4, ⟨#[77, 79, 68]⟩, 2, 2, ⟨#[118]⟩⟩,
  ⟨45, 4, ⟨#[81, 85, 79, 84, 73, 69, 78, 84]⟩, 2, 2, ⟨#[118]⟩⟩,
  ⟨46, 4, ⟨#[80, 79, 87, 69, 82]⟩, 2, 2, ⟨#[118]⟩⟩,
  ⟨47, 4, ⟨#[78, 79, 84]⟩, 1, 1, ⟨#[118]⟩⟩,
  ⟨48, 4, ⟨#[76, 69, 78]⟩, 1, 1, ⟨#[118]⟩⟩,
  ⟨49, 4, ⟨#[76, 69, 70, 84]⟩, 1, 2, ⟨#[118]⟩⟩,
  ⟨50, 4, ⟨#[82, 73, 71, 72, 84]⟩, 1, 2, ⟨#[118]⟩⟩,
  ⟨51, 4, ⟨#[77, 73, 68]⟩, 3, 3, ⟨#[118]⟩⟩,
  ⟨52, 4, ⟨#[82, 69, 80, 84]⟩, 2, 2, ⟨#[118]⟩⟩,
  ⟨53, 4, ⟨#[70, 73, 78, 68]⟩, 2, 2, ⟨#[118]⟩⟩,
  ⟨54, 4, ⟨#[85, 80, 80, 69, 82]⟩, 1, 1, ⟨#[118]⟩⟩,
  ⟨55, 4, ⟨#[76, 79, 87, 69, 82]⟩, 1, 1, ⟨#[118]⟩⟩,
  ⟨56, 4, ⟨#[84, 82, 73, 77]⟩, 1, 1, ⟨#[118]⟩⟩,
  ⟨57, 4, ⟨#[86, 65, 76, 85, 69]⟩, 1, 1, ⟨#[118]⟩⟩,
  ⟨58, 4, ⟨#[73, 83, 78, 85, 77, 66, 69, 82]⟩, 1, 1, ⟨#[118]⟩⟩,
  ⟨59, 4, ⟨#[73, 83, 84, 69, 88, 84]⟩, 1, 1, ⟨#[118]⟩⟩,
  ⟨60, 4, ⟨#[73, 83, 66, 76, 65, 78, 75]⟩, 1, 1, ⟨#[118]⟩⟩,
  ⟨61, 4, ⟨#[73, 83, 69, 82, 82, 79, 82]⟩, 1, 1, ⟨#[118]⟩⟩,
  ⟨62, 4, ⟨#[78, 65]⟩, 0, 0, ⟨#[118]⟩⟩]
def tableL : List SigS := foldsL ++ othersL ++ scalarsL

set_option maxHeartbeats 1000000 in
theorem funcs_folds (w : World) :
    Calls Tryz.prog 50 #[] w fun e w' => e = .returned (.slice (some ⟨w.heap.size, 0, none⟩) 15 15) ∧ Below w.heap.size w w' ∧ w'.heap[w.heap.size]? = some (.cells (foldNames.map Value.string).toArray 9 (0, 0)) := by
  go_enter Tryz.func50, Tryz.ntmps50
  go_wp2
  go_ret
  refine ⟨rfl, ?_, heap_alloc_new _ _⟩
  repeat (first | with_reducible exact Below.refl _ _ | with_reducible refine below_drewN ?_ _ | with_reducible refine Below.drew ?_ | with_reducible refine Below.setCell ?_ (by (first | omega | (simp only [sz_alloc, sz_setCell, sz_drew, sz_drewN]; omega) | (simp; done) | (simp; omega))) _ | with_reducible refine Below.alloc ?_ (by (first | omega | (simp only [sz_alloc, sz_setCell, sz_drew, sz_drewN]; omega) | (simp; done) | (simp; omega))) _ | with_reducible refine below_then ?_ ?_ (by with_reducible assumption) | (first | omega | (simp only [sz_alloc, sz_setCell, sz_drew, sz_drewN]; omega) | (simp; done) | (simp; omega)))

set_option maxHeartbeats 1000000 in
theorem funcs_others (w : World) :
    Calls Tryz.prog 52 #[] w fun e w' => ∃ g, e = .returned (.slice (some ⟨g, 0, none⟩) 11 11) ∧ Below w.heap.size w w' ∧ w.heap.size ≤ g ∧ w'.heap[g]? = some (.cells (othersL.flatMap SigS.cells).toArray 23 (0, 0)) := by
  have hb := Below.refl w.heap.size w
  go_enter Tryz.func52, Tryz.ntmps52
  repeat (go_wp2_with fail; refine (funcs_row _ _ _ _ _ _ _).mono ?_; rintro e wn ⟨rfl, hn⟩; replace hb := hb.trans (hn.mono hb.size); clear hn)
  go_wp2
  go_ret
  refine ⟨_, rfl, ?_, hb.size, heap_alloc_new _ _⟩
  exact hb.alloc hb.size _

end Go.Proofs.YtangdbjoflnobaaGreatDoor
