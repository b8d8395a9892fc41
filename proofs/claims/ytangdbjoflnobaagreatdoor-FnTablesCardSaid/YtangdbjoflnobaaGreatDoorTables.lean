/- The walk of FnTables. -/
import Derived.Test.YtangdbjoflnobaaGreatDoorSigEq
import Derived.Test.YtangdbjoflnobaaGreatDoorR7B
import Derived.Test.YtangdbjoflnobaaGreatDoorAble
import Derived.Deep.QuietTactic
import Derived.BigQuiet
namespace Go.Proofs.YtangdbjoflnobaaGreatDoor
open Go Go.RowKit
set_option linter.unusedSimpArgs false
set_option linter.unusedVariables false

/-- A call that hands back the whole table. -/
def AllSaid (f : Nat) : Prop := ∀ wx : World, Calls Tryz.prog f #[] wx fun e w' => ∃ g cap, e = .returned (.slice (some ⟨g, 0, none⟩) 49 cap) ∧ Below wx.heap.size wx w' ∧ w'.ownsRow wx.heap.size 23 6 (.slice (some ⟨g, 0, none⟩) 49 cap) 49 (tableL.flatMap SigS.cells)

/-- What is known behind k rounds of the first loop; of the second. -/
structure Tab1 (w : World) (gl cl gm cm gn cn : Nat) (i : Value) (k : Nat) (wr : World) : Prop where
  le : k ≤ 49
  i : i = .int .i64 k
  below : Below w.heap.size w wr
  l : wr.ownsRow w.heap.size 23 6 (.slice (some ⟨gl, 0, none⟩) 49 cl) 49 ((marked k).flatMap SigS.cells)
  m : wr.ownsRow w.heap.size 23 6 (.slice (some ⟨gm, 0, none⟩) 49 cm) 49 (tableL.flatMap SigS.cells)
  n : wr.ownsRow w.heap.size 23 6 (.slice (some ⟨gn, 0, none⟩) 49 cn) 49 (tableL.flatMap SigS.cells)
structure Tab2 (w : World) (gl cl gm cm gn cn : Nat) (i : Value) (k : Nat) (wr : World) : Prop where
  le : k ≤ 49
  i : i = .int .i64 k
  below : Below w.heap.size w wr
  l : wr.ownsRow w.heap.size 23 6 (.slice (some ⟨gl, 0, none⟩) 49 cl) 49 ((marked 49).flatMap SigS.cells)
  m : wr.ownsRow w.heap.size 23 6 (.slice (some ⟨gm, 0, none⟩) 49 cm) 49 (tableL.flatMap SigS.cells)
  n : wr.ownsRow w.heap.size 23 6 (.slice (some ⟨gn, 0, none⟩) 49 cn) 49 (tableL.flatMap SigS.cells)

set_option maxRecDepth 100000 in
set_option maxHeartbeats 4000000 in
theorem law_FnTables0 (name : ByteArray) (id : Int) (w : World) (HR : AllSaid 21) :
    Calls Tryz.prog 3 #[.string name, .int .i64 id] w fun e w' => e = .returned (.bool true) ∧ Below w.heap.size w w' := by
  have HO1 := Lib.hid fun wx => funcs_Of name wx funcs_scalars
  have HO2 := Lib.hid fun wx => r7_Of name wx HR
  have HI1 := Lib.hid fun wx => funcs_ById id wx funcs_scalars
  have HI2 := Lib.hid fun wx => r7_ById id wx HR
  have HJ := Lib.hid fun wx => funcs_ById 1 wx funcs_scalars
  have eJ : byIdL 1 = some ⟨1, 1, ⟨#[83, 85, 77]⟩, 1, 30, ⟨#[120]⟩⟩ := rfl
  rw [eJ] at HJ
  clear eJ
  have HA := Lib.hid fun wx => funcs_All wx funcs_scalars
  have HR' := Lib.hid HR
  clear HR
  simp only [optSig, SigS.val] at HO1 HO2 HI1 HI2 HJ
  obtain ⟨S1, hS1⟩ : ∃ S, S = (ofL name).getD sigZ := ⟨_, rfl⟩
  obtain ⟨B1, hB1⟩ : ∃ b, b = (ofL name).isSome := ⟨_, rfl⟩
  obtain ⟨S2, hS2⟩ : ∃ S, S = (byIdL id).getD sigZ := ⟨_, rfl⟩
  obtain ⟨B2, hB2⟩ : ∃ b, b = (byIdL id).isSome := ⟨_, rfl⟩
  rw [← hS1, ← hB1] at HO1 HO2
  rw [← hS2, ← hB2] at HI1 HI2
  clear hS1 hB1 hS2 hB2
  go_enter Tryz.func3, Tryz.ntmps3
  go_wp2_with fail
  refine (HO1.out _).mono ?_
  rintro e w1 ⟨rfl, hb⟩
  have b1 := hb
  go_wp2_with fail
  refine (HO2.out _).mono ?_
  rintro e w2 ⟨rfl, hb⟩
  have b2 := below_then (b1.alloc b1.size _) (by simp only [sz_alloc]; have := b1.size; omega) hb
  have s2 := hb.size
  simp only [sz_alloc] at s2
  have s1 := lcs hb (w1.heap.size) (by (first | omega | (simp only [sz_alloc, sz_setCell, sz_drew, sz_drewN]; omega) | (simp; done) | (simp; omega)))
  have c1_0 := (lcc hb (w1.heap.size) (by (first | omega | (simp only [sz_alloc, sz_setCell, sz_drew, sz_drewN]; omega) | (simp; done) | (simp; omega))) 0).trans (by go_simp; exact rfl)
  have c1_1 := (lcc hb (w1.heap.size) (by (first | omega | (simp only [sz_alloc, sz_setCell, sz_drew, sz_drewN]; omega) | (simp; done) | (simp; omega))) 1).trans (by go_simp; exact rfl)
  have c1_2 := (lcc hb (w1.heap.size) (by (first | omega | (simp only [sz_alloc, sz_setCell, sz_drew, sz_drewN]; omega) | (simp; done) | (simp; omega))) 2).trans (by go_simp; exact rfl)
  have c1_3 := (lcc hb (w1.heap.size) (by (first | omega | (simp only [sz_alloc, sz_setCell, sz_drew, sz_drewN]; omega) | (simp; done) | (simp; omega))) 3).trans (by go_simp; exact rfl)
  have c1_4 := (lcc hb (w1.heap.size) (by (first | omega | (simp only [sz_alloc, sz_setCell, sz_drew, sz_drewN]; omega) | (simp; done) | (simp; omega))) 4).trans (by go_simp; exact rfl)
  have c1_5 := (lcc hb (w1.heap.size) (by (first | omega | (simp only [sz_alloc, sz_setCell, sz_drew, sz_drewN]; omega) | (simp; done) | (simp; omega))) 5).trans (by go_simp; exact rfl)
  go_wp2_with fail
  refine (HI1.out _).mono ?_
  rintro e w3 ⟨rfl, hb⟩
  have b3 := below_then (b2.alloc b2.size _) (by simp only [sz_alloc]; have := b2.size; omega) hb
  have s3 := hb.size
  simp only [sz_alloc] at s3
  have s2 := lcs hb (w1.heap.size) (by (first | omega | (simp only [sz_alloc, sz_setCell, sz_drew, sz_drewN]; omega) | (simp; done) | (simp; omega)))
  have c2_0 := (lcc hb (w1.heap.size) (by (first | omega | (simp only [sz_alloc, sz_setCell, sz_drew, sz_drewN]; omega) | (simp; done) | (simp; omega))) 0).trans (by go_simp; exact rfl)
  have c2_1 := (lcc hb (w1.heap.size) (by (first | omega | (simp only [sz_alloc, sz_setCell, sz_drew, sz_drewN]; omega) | (simp; done) | (simp; omega))) 1).trans (by go_simp; exact rfl)
  have c2_2 := (lcc hb (w1.heap.size) (by (first | omega | (simp only [sz_alloc, sz_setCell, sz_drew, sz_drewN]; omega) | (simp; done) | (simp; omega))) 2).trans (by go_simp; exact rfl)
  have c2_3 := (lcc hb (w1.heap.size) (by (first | omega | (simp only [sz_alloc, sz_setCell, sz_drew, sz_drewN]; omega) | (simp; done) | (simp; omega))) 3).trans (by go_simp; exact rfl)
  have c2_4 := (lcc hb (w1.heap.size) (by (first | omega | (simp only [sz_alloc, sz_setCell, sz_drew, sz_drewN]; omega) | (simp; done) | (simp; omega))) 4).trans (by go_simp; exact rfl)
  have c2_5 := (lcc hb (w1.heap.size) (by (first | omega | (simp only [sz_alloc, sz_setCell, sz_drew, sz_drewN]; omega) | (simp; done) | (simp; omega))) 5).trans (by go_simp; exact rfl)
  have s3 := lcs hb (w2.heap.size) (by (first | omega | (simp only [sz_alloc, sz_setCell, sz_drew, sz_drewN]; omega) | (simp; done) | (simp; omega)))
  have c3_0 := (lcc hb (w2.heap.size) (by (first | omega | (simp only [sz_alloc, sz_setCell, sz_drew, sz_drewN]; omega) | (simp; done) | (simp; omega))) 0).trans (by go_simp; exact rfl)
  have c3_1 := (lcc hb (w2.heap.size) (by (first | omega | (simp only [sz_alloc, sz_setCell, sz_drew, sz_drewN]; omega) | (simp; done) | (simp; omega))) 1).trans (by go_simp; exact rfl)
  have c3_2 := (lcc hb (w2.heap.size) (by (first | omega | (simp only [sz_alloc, sz_setCell, sz_drew, sz_drewN]; omega) | (simp; done) | (simp; omega))) 2).trans (by go_simp; exact rfl)
  have c3_3 := (lcc hb (w2.heap.size) (by (first | omega | (simp only [sz_alloc, sz_setCell, sz_drew, sz_drewN]; omega) | (simp; done) | (simp; omega))) 3).trans (by go_simp; exact rfl)
  have c3_4 := (lcc hb (w2.heap.size) (by (first | omega | (simp only [sz_alloc, sz_setCell, sz_drew, sz_drewN]; omega) | (simp; done) | (simp; omega))) 4).trans (by go_simp; exact rfl)
  have c3_5 := (lcc hb (w2.heap.size) (by (first | omega | (simp only [sz_alloc, sz_setCell, sz_drew, sz_drewN]; omega) | (simp; done) | (simp; omega))) 5).trans (by go_simp; exact rfl)
  clear c1_0 c1_1 c1_2 c1_3 c1_4 c1_5
  go_wp2_with fail
  refine (HI2.out _).mono ?_
  rintro e w4 ⟨rfl, hb⟩
  have b4 := below_then (b3.alloc b3.size _) (by simp only [sz_alloc]; have := b3.size; omega) hb
  have s4 := hb.size
  simp only [sz_alloc] at s4
  have s4 := lcs hb (w1.heap.size) (by (first | omega | (simp only [sz_alloc, sz_setCell, sz_drew, sz_drewN]; omega) | (simp; done) | (simp; omega)))
  have c4_0 := (lcc hb (w1.heap.size) (by (first | omega | (simp only [sz_alloc, sz_setCell, sz_drew, sz_drewN]; omega) | (simp; done) | (simp; omega))) 0).trans (by go_simp; exact rfl)
  have c4_1 := (lcc hb (w1.heap.size) (by (first | omega | (simp only [sz_alloc, sz_setCell, sz_drew, sz_drewN]; omega) | (simp; done) | (simp; omega))) 1).trans (by go_simp; exact rfl)
  have c4_2 := (lcc hb (w1.heap.size) (by (first | omega | (simp only [sz_alloc, sz_setCell, sz_drew, sz_drewN]; omega) | (simp; done) | (simp; omega))) 2).trans (by go_simp; exact rfl)
  have c4_3 := (lcc hb (w1.heap.size) (by (first | omega | (simp only [sz_alloc, sz_setCell, sz_drew, sz_drewN]; omega) | (simp; done) | (simp; omega))) 3).trans (by go_simp; exact rfl)
  have c4_4 := (lcc hb (w1.heap.size) (by (first | omega | (simp only [sz_alloc, sz_setCell, sz_drew, sz_drewN]; omega) | (simp; done) | (simp; omega))) 4).trans (by go_simp; exact rfl)
  have c4_5 := (lcc hb (w1.heap.size) (by (first | omega | (simp only [sz_alloc, sz_setCell, sz_drew, sz_drewN]; omega) | (simp; done) | (simp; omega))) 5).trans (by go_simp; exact rfl)
  have s5 := lcs hb (w2.heap.size) (by (first | omega | (simp only [sz_alloc, sz_setCell, sz_drew, sz_drewN]; omega) | (simp; done) | (simp; omega)))
  have c5_0 := (lcc hb (w2.heap.size) (by (first | omega | (simp only [sz_alloc, sz_setCell, sz_drew, sz_drewN]; omega) | (simp; done) | (simp; omega))) 0).trans (by go_simp; exact rfl)
  have c5_1 := (lcc hb (w2.heap.size) (by (first | omega | (simp only [sz_alloc, sz_setCell, sz_drew, sz_drewN]; omega) | (simp; done) | (simp; omega))) 1).trans (by go_simp; exact rfl)
  have c5_2 := (lcc hb (w2.heap.size) (by (first | omega | (simp only [sz_alloc, sz_setCell, sz_drew, sz_drewN]; omega) | (simp; done) | (simp; omega))) 2).trans (by go_simp; exact rfl)
  have c5_3 := (lcc hb (w2.heap.size) (by (first | omega | (simp only [sz_alloc, sz_setCell, sz_drew, sz_drewN]; omega) | (simp; done) | (simp; omega))) 3).trans (by go_simp; exact rfl)
  have c5_4 := (lcc hb (w2.heap.size) (by (first | omega | (simp only [sz_alloc, sz_setCell, sz_drew, sz_drewN]; omega) | (simp; done) | (simp; omega))) 4).trans (by go_simp; exact rfl)
  have c5_5 := (lcc hb (w2.heap.size) (by (first | omega | (simp only [sz_alloc, sz_setCell, sz_drew, sz_drewN]; omega) | (simp; done) | (simp; omega))) 5).trans (by go_simp; exact rfl)
  have s6 := lcs hb (w3.heap.size) (by (first | omega | (simp only [sz_alloc, sz_setCell, sz_drew, sz_drewN]; omega) | (simp; done) | (simp; omega)))
  have c6_0 := (lcc hb (w3.heap.size) (by (first | omega | (simp only [sz_alloc, sz_setCell, sz_drew, sz_drewN]; omega) | (simp; done) | (simp; omega))) 0).trans (by go_simp; exact rfl)
  have c6_1 := (lcc hb (w3.heap.size) (by (first | omega | (simp only [sz_alloc, sz_setCell, sz_drew, sz_drewN]; omega) | (simp; done) | (simp; omega))) 1).trans (by go_simp; exact rfl)
  have c6_2 := (lcc hb (w3.heap.size) (by (first | omega | (simp only [sz_alloc, sz_setCell, sz_drew, sz_drewN]; omega) | (simp; done) | (simp; omega))) 2).trans (by go_simp; exact rfl)
  have c6_3 := (lcc hb (w3.heap.size) (by (first | omega | (simp only [sz_alloc, sz_setCell, sz_drew, sz_drewN]; omega) | (simp; done) | (simp; omega))) 3).trans (by go_simp; exact rfl)
  have c6_4 := (lcc hb (w3.heap.size) (by (first | omega | (simp only [sz_alloc, sz_setCell, sz_drew, sz_drewN]; omega) | (simp; done) | (simp; omega))) 4).trans (by go_simp; exact rfl)
  have c6_5 := (lcc hb (w3.heap.size) (by (first | omega | (simp only [sz_alloc, sz_setCell, sz_drew, sz_drewN]; omega) | (simp; done) | (simp; omega))) 5).trans (by go_simp; exact rfl)
  clear c2_0 c2_1 c2_2 c2_3 c2_4 c2_5 c3_0 c3_1 c3_2 c3_3 c3_4 c3_5
  go_wp2_with fail
  refine (HA.out _).mono ?_
  rintro e w5 ⟨gl, cl, rfl, hb, hl5⟩
  have b5 := below_then (b4.alloc b4.size _) (by simp only [sz_alloc]; have := b4.size; omega) hb
  have s5 := hb.size
  simp only [sz_alloc] at s5 hl5
  have s7 := lcs hb (w1.heap.size) (by (first | omega | (simp only [sz_alloc, sz_setCell, sz_drew, sz_drewN]; omega) | (simp; done) | (simp; omega)))
  have c7_0 := (lcc hb (w1.heap.size) (by (first | omega | (simp only [sz_alloc, sz_setCell, sz_drew, sz_drewN]; omega) | (simp; done) | (simp; omega))) 0).trans (by go_simp; exact rfl)
  have c7_1 := (lcc hb (w1.heap.size) (by (first | omega | (simp only [sz_alloc, sz_setCell, sz_drew, sz_drewN]; omega) | (simp; done) | (simp; omega))) 1).trans (by go_simp; exact rfl)
  have c7_2 := (lcc hb (w1.heap.size) (by (first | omega | (simp only [sz_alloc, sz_setCell, sz_drew, sz_drewN]; omega) | (simp; done) | (simp; omega))) 2).trans (by go_simp; exact rfl)
  have c7_3 := (lcc hb (w1.heap.size) (by (first | omega | (simp only [sz_alloc, sz_setCell, sz_drew, sz_drewN]; omega) | (simp; done) | (simp; omega))) 3).trans (by go_simp; exact rfl)
  have c7_4 := (lcc hb (w1.heap.size) (by (first | omega | (simp only [sz_alloc, sz_setCell, sz_drew, sz_drewN]; omega) | (simp; done) | (simp; omega))) 4).trans (by go_simp; exact rfl)
  have c7_5 := (lcc hb (w1.heap.size) (by (first | omega | (simp only [sz_alloc, sz_setCell, sz_drew, sz_drewN]; omega) | (simp; done) | (simp; omega))) 5).trans (by go_simp; exact rfl)
  have s8 := lcs hb (w2.heap.size) (by (first | omega | (simp only [sz_alloc, sz_setCell, sz_drew, sz_drewN]; omega) | (simp; done) | (simp; omega)))
  have c8_0 := (lcc hb (w2.heap.size) (by (first | omega | (simp only [sz_alloc, sz_setCell, sz_drew, sz_drewN]; omega) | (simp; done) | (simp; omega))) 0).trans (by go_simp; exact rfl)
  have c8_1 := (lcc hb (w2.heap.size) (by (first | omega | (simp only [sz_alloc, sz_setCell, sz_drew, sz_drewN]; omega) | (simp; done) | (simp; omega))) 1).trans (by go_simp; exact rfl)
  have c8_2 := (lcc hb (w2.heap.size) (by (first | omega | (simp only [sz_alloc, sz_setCell, sz_drew, sz_drewN]; omega) | (simp; done) | (simp; omega))) 2).trans (by go_simp; exact rfl)
  have c8_3 := (lcc hb (w2.heap.size) (by (first | omega | (simp only [sz_alloc, sz_setCell, sz_drew, sz_drewN]; omega) | (simp; done) | (simp; omega))) 3).trans (by go_simp; exact rfl)
  have c8_4 := (lcc hb (w2.heap.size) (by (first | omega | (simp only [sz_alloc, sz_setCell, sz_drew, sz_drewN]; omega) | (simp; done) | (simp; omega))) 4).trans (by go_simp; exact rfl)
  have c8_5 := (lcc hb (w2.heap.size) (by (first | omega | (simp only [sz_alloc, sz_setCell, sz_drew, sz_drewN]; omega) | (simp; done) | (simp; omega))) 5).trans (by go_simp; exact rfl)
  have s9 := lcs hb (w3.heap.size) (by (first | omega | (simp only [sz_alloc, sz_setCell, sz_drew, sz_drewN]; omega) | (simp; done) | (simp; omega)))
  have c9_0 := (lcc hb (w3.heap.size) (by (first | omega | (simp only [sz_alloc, sz_setCell, sz_drew, sz_drewN]; omega) | (simp; done) | (simp; omega))) 0).trans (by go_simp; exact rfl)
  have c9_1 := (lcc hb (w3.heap.size) (by (first | omega | (simp only [sz_alloc, sz_setCell, sz_drew, sz_drewN]; omega) | (simp; done) | (simp; omega))) 1).trans (by go_simp; exact rfl)
  have c9_2 := (lcc hb (w3.heap.size) (by (first | omega | (simp only [sz_alloc, sz_setCell, sz_drew, sz_drewN]; omega) | (simp; done) | (simp; omega))) 2).trans (by go_simp; exact rfl)
  have c9_3 := (lcc hb (w3.heap.size) (by (first | omega | (simp only [sz_alloc, sz_setCell, sz_drew, sz_drewN]; omega) | (simp; done) | (simp; omega))) 3).trans (by go_simp; exact rfl)
  have c9_4 := (lcc hb (w3.heap.size) (by (first | omega | (simp only [sz_alloc, sz_setCell, sz_drew, sz_drewN]; omega) | (simp; done) | (simp; omega))) 4).trans (by go_simp; exact rfl)
  have c9_5 := (lcc hb (w3.heap.size) (by (first | omega | (simp only [sz_alloc, sz_setCell, sz_drew, sz_drewN]; omega) | (simp; done) | (simp; omega))) 5).trans (by go_simp; exact rfl)
  have s10 := lcs hb (w4.heap.size) (by (first | omega | (simp only [sz_alloc, sz_setCell, sz_drew, sz_drewN]; omega) | (simp; done) | (simp; omega)))
  have c10_0 := (lcc hb (w4.heap.size) (by (first | omega | (simp only [sz_alloc, sz_setCell, sz_drew, sz_drewN]; omega) | (simp; done) | (simp; omega))) 0).trans (by go_simp; exact rfl)
  have c10_1 := (lcc hb (w4.heap.size) (by (first | omega | (simp only [sz_alloc, sz_setCell, sz_drew, sz_drewN]; omega) | (simp; done) | (simp; omega))) 1).trans (by go_simp; exact rfl)
  have c10_2 := (lcc hb (w4.heap.size) (by (first | omega | (simp only [sz_alloc, sz_setCell, sz_drew, sz_drewN]; omega) | (simp; done) | (simp; omega))) 2).trans (by go_simp; exact rfl)
  have c10_3 := (lcc hb (w4.heap.size) (by (first | omega | (simp only [sz_alloc, sz_setCell, sz_drew, sz_drewN]; omega) | (simp; done) | (simp; omega))) 3).trans (by go_simp; exact rfl)
  have c10_4 := (lcc hb (w4.heap.size) (by (first | omega | (simp only [sz_alloc, sz_setCell, sz_drew, sz_drewN]; omega) | (simp; done) | (simp; omega))) 4).trans (by go_simp; exact rfl)
  have c10_5 := (lcc hb (w4.heap.size) (by (first | omega | (simp only [sz_alloc, sz_setCell, sz_drew, sz_drewN]; omega) | (simp; done) | (simp; omega))) 5).trans (by go_simp; exact rfl)
  clear c4_0 c4_1 c4_2 c4_3 c4_4 c4_5 c5_0 c5_1 c5_2 c5_3 c5_4 c5_5 c6_0 c6_1 c6_2 c6_3 c6_4 c6_5
  go_wp2_with fail
  refine (HA.out _).mono ?_
  rintro e w6 ⟨gm, cm, rfl, hb, hm6⟩
  have b6 := below_then b5 b5.size hb
  have hl6 := own_below hl5 hb
  have s6 := hb.size
  have lt5 := (hl5.lt gl rfl).2
  have lt6 := (hm6.lt gm rfl).1
  have lt7 := (hm6.lt gm rfl).2
  have s11 := lcs hb (w1.heap.size) (by (first | omega | (simp only [sz_alloc, sz_setCell, sz_drew, sz_drewN]; omega) | (simp; done) | (simp; omega)))
  have c11_0 := (lcc hb (w1.heap.size) (by (first | omega | (simp only [sz_alloc, sz_setCell, sz_drew, sz_drewN]; omega) | (simp; done) | (simp; omega))) 0).trans (by go_simp; exact rfl)
  have c11_1 := (lcc hb (w1.heap.size) (by (first | omega | (simp only [sz_alloc, sz_setCell, sz_drew, sz_drewN]; omega) | (simp; done) | (simp; omega))) 1).trans (by go_simp; exact rfl)
  have c11_2 := (lcc hb (w1.heap.size) (by (first | omega | (simp only [sz_alloc, sz_setCell, sz_drew, sz_drewN]; omega) | (simp; done) | (simp; omega))) 2).trans (by go_simp; exact rfl)
  have c11_3 := (lcc hb (w1.heap.size) (by (first | omega | (simp only [sz_alloc, sz_setCell, sz_drew, sz_drewN]; omega) | (simp; done) | (simp; omega))) 3).trans (by go_simp; exact rfl)
  have c11_4 := (lcc hb (w1.heap.size) (by (first | omega | (simp only [sz_alloc, sz_setCell, sz_drew, sz_drewN]; omega) | (simp; done) | (simp; omega))) 4).trans (by go_simp; exact rfl)
  have c11_5 := (lcc hb (w1.heap.size) (by (first | omega | (simp only [sz_alloc, sz_setCell, sz_drew, sz_drewN]; omega) | (simp; done) | (simp; omega))) 5).trans (by go_simp; exact rfl)
  have s12 := lcs hb (w2.heap.size) (by (first | omega | (simp only [sz_alloc, sz_setCell, sz_drew, sz_drewN]; omega) | (simp; done) | (simp; omega)))
  have c12_0 := (lcc hb (w2.heap.size) (by (first | omega | (simp only [sz_alloc, sz_setCell, sz_drew, sz_drewN]; omega) | (simp; done) | (simp; omega))) 0).trans (by go_simp; exact rfl)
  have c12_1 := (lcc hb (w2.heap.size) (by (first | omega | (simp only [sz_alloc, sz_setCell, sz_drew, sz_drewN]; omega) | (simp; done) | (simp; omega))) 1).trans (by go_simp; exact rfl)
  have c12_2 := (lcc hb (w2.heap.size) (by (first | omega | (simp only [sz_alloc, sz_setCell, sz_drew, sz_drewN]; omega) | (simp; done) | (simp; omega))) 2).trans (by go_simp; exact rfl)
  have c12_3 := (lcc hb (w2.heap.size) (by (first | omega | (simp only [sz_alloc, sz_setCell, sz_drew, sz_drewN]; omega) | (simp; done) | (simp; omega))) 3).trans (by go_simp; exact rfl)
  have c12_4 := (lcc hb (w2.heap.size) (by (first | omega | (simp only [sz_alloc, sz_setCell, sz_drew, sz_drewN]; omega) | (simp; done) | (simp; omega))) 4).trans (by go_simp; exact rfl)
  have c12_5 := (lcc hb (w2.heap.size) (by (first | omega | (simp only [sz_alloc, sz_setCell, sz_drew, sz_drewN]; omega) | (simp; done) | (simp; omega))) 5).trans (by go_simp; exact rfl)
  have s13 := lcs hb (w3.heap.size) (by (first | omega | (simp only [sz_alloc, sz_setCell, sz_drew, sz_drewN]; omega) | (simp; done) | (simp; omega)))
  have c13_0 := (lcc hb (w3.heap.size) (by (first | omega | (simp only [sz_alloc, sz_setCell, sz_drew, sz_drewN]; omega) | (simp; done) | (simp; omega))) 0).trans (by go_simp; exact rfl)
  have c13_1 := (lcc hb (w3.heap.size) (by (first | omega | (simp only [sz_alloc, sz_setCell, sz_drew, sz_drewN]; omega) | (simp; done) | (simp; omega))) 1).trans (by go_simp; exact rfl)
  have c13_2 := (lcc hb (w3.heap.size) (by (first | omega | (simp only [sz_alloc, sz_setCell, sz_drew, sz_drewN]; omega) | (simp; done) | (simp; omega))) 2).trans (by go_simp; exact rfl)
  have c13_3 := (lcc hb (w3.heap.size) (by (first | omega | (simp only [sz_alloc, sz_setCell, sz_drew, sz_drewN]; omega) | (simp; done) | (simp; omega))) 3).trans (by go_simp; exact rfl)
  have c13_4 := (lcc hb (w3.heap.size) (by (first | omega | (simp only [sz_alloc, sz_setCell, sz_drew, sz_drewN]; omega) | (simp; done) | (simp; omega))) 4).trans (by go_simp; exact rfl)
  have c13_5 := (lcc hb (w3.heap.size) (by (first | omega | (simp only [sz_alloc, sz_setCell, sz_drew, sz_drewN]; omega) | (simp; done) | (simp; omega))) 5).trans (by go_simp; exact rfl)
  have s14 := lcs hb (w4.heap.size) (by (first | omega | (simp only [sz_alloc, sz_setCell, sz_drew, sz_drewN]; omega) | (simp; done) | (simp; omega)))
  have c14_0 := (lcc hb (w4.heap.size) (by (first | omega | (simp only [sz_alloc, sz_setCell, sz_drew, sz_drewN]; omega) | (simp; done) | (simp; omega))) 0).trans (by go_simp; exact rfl)
  have c14_1 := (lcc hb (w4.heap.size) (by (first | omega | (simp only [sz_alloc, sz_setCell, sz_drew, sz_drewN]; omega) | (simp; done) | (simp; omega))) 1).trans (by go_simp; exact rfl)
  have c14_2 := (lcc hb (w4.heap.size) (by (first | omega | (simp only [sz_alloc, sz_setCell, sz_drew, sz_drewN]; omega) | (simp; done) | (simp; omega))) 2).trans (by go_simp; exact rfl)
  have c14_3 := (lcc hb (w4.heap.size) (by (first | omega | (simp only [sz_alloc, sz_setCell, sz_drew, sz_drewN]; omega) | (simp; done) | (simp; omega))) 3).trans (by go_simp; exact rfl)
  have c14_4 := (lcc hb (w4.heap.size) (by (first | omega | (simp only [sz_alloc, sz_setCell, sz_drew, sz_drewN]; omega) | (simp; done) | (simp; omega))) 4).trans (by go_simp; exact rfl)
  have c14_5 := (lcc hb (w4.heap.size) (by (first | omega | (simp only [sz_alloc, sz_setCell, sz_drew, sz_drewN]; omega) | (simp; done) | (simp; omega))) 5).trans (by go_simp; exact rfl)
  clear c7_0 c7_1 c7_2 c7_3 c7_4 c7_5 c8_0 c8_1 c8_2 c8_3 c8_4 c8_5 c9_0 c9_1 c9_2 c9_3 c9_4 c9_5 c10_0 c10_1 c10_2 c10_3 c10_4 c10_5
  go_wp2_with fail
  refine (HR'.out _).mono ?_
  rintro e w7 ⟨gn, cn, rfl, hb, hn7⟩
  have b7 := below_then b6 b6.size hb
  have hl7 := own_below hl6 hb
  have hm7 := own_below hm6 hb
  have s7 := hb.size
  have lt8 := (hn7.lt gn rfl).1
  have lt9 := (hn7.lt gn rfl).2
  have s15 := lcs hb (w1.heap.size) (by (first | omega | (simp only [sz_alloc, sz_setCell, sz_drew, sz_drewN]; omega) | (simp; done) | (simp; omega)))
  have c15_0 := (lcc hb (w1.heap.size) (by (first | omega | (simp only [sz_alloc, sz_setCell, sz_drew, sz_drewN]; omega) | (simp; done) | (simp; omega))) 0).trans (by go_simp; exact rfl)
  have c15_1 := (lcc hb (w1.heap.size) (by (first | omega | (simp only [sz_alloc, sz_setCell, sz_drew, sz_drewN]; omega) | (simp; done) | (simp; omega))) 1).trans (by go_simp; exact rfl)
  have c15_2 := (lcc hb (w1.heap.size) (by (first | omega | (simp only [sz_alloc, sz_setCell, sz_drew, sz_drewN]; omega) | (simp; done) | (simp; omega))) 2).trans (by go_simp; exact rfl)
  have c15_3 := (lcc hb (w1.heap.size) (by (first | omega | (simp only [sz_alloc, sz_setCell, sz_drew, sz_drewN]; omega) | (simp; done) | (simp; omega))) 3).trans (by go_simp; exact rfl)
  have c15_4 := (lcc hb (w1.heap.size) (by (first | omega | (simp only [sz_alloc, sz_setCell, sz_drew, sz_drewN]; omega) | (simp; done) | (simp; omega))) 4).trans (by go_simp; exact rfl)
  have c15_5 := (lcc hb (w1.heap.size) (by (first | omega | (simp only [sz_alloc, sz_setCell, sz_drew, sz_drewN]; omega) | (simp; done) | (simp; omega))) 5).trans (by go_simp; exact rfl)
  have s16 := lcs hb (w2.heap.size) (by (first | omega | (simp only [sz_alloc, sz_setCell, sz_drew, sz_drewN]; omega) | (simp; done) | (simp; omega)))
  have c16_0 := (lcc hb (w2.heap.size) (by (first | omega | (simp only [sz_alloc, sz_setCell, sz_drew, sz_drewN]; omega) | (simp; done) | (simp; omega))) 0).trans (by go_simp; exact rfl)
  have c16_1 := (lcc hb (w2.heap.size) (by (first | omega | (simp only [sz_alloc, sz_setCell, sz_drew, sz_drewN]; omega) | (simp; done) | (simp; omega))) 1).trans (by go_simp; exact rfl)
  have c16_2 := (lcc hb (w2.heap.size) (by (first | omega | (simp only [sz_alloc, sz_setCell, sz_drew, sz_drewN]; omega) | (simp; done) | (simp; omega))) 2).trans (by go_simp; exact rfl)
  have c16_3 := (lcc hb (w2.heap.size) (by (first | omega | (simp only [sz_alloc, sz_setCell, sz_drew, sz_drewN]; omega) | (simp; done) | (simp; omega))) 3).trans (by go_simp; exact rfl)
  have c16_4 := (lcc hb (w2.heap.size) (by (first | omega | (simp only [sz_alloc, sz_setCell, sz_drew, sz_drewN]; omega) | (simp; done) | (simp; omega))) 4).trans (by go_simp; exact rfl)
  have c16_5 := (lcc hb (w2.heap.size) (by (first | omega | (simp only [sz_alloc, sz_setCell, sz_drew, sz_drewN]; omega) | (simp; done) | (simp; omega))) 5).trans (by go_simp; exact rfl)
  have s17 := lcs hb (w3.heap.size) (by (first | omega | (simp only [sz_alloc, sz_setCell, sz_drew, sz_drewN]; omega) | (simp; done) | (simp; omega)))
  have c17_0 := (lcc hb (w3.heap.size) (by (first | omega | (simp only [sz_alloc, sz_setCell, sz_drew, sz_drewN]; omega) | (simp; done) | (simp; omega))) 0).trans (by go_simp; exact rfl)
  have c17_1 := (lcc hb (w3.heap.size) (by (first | omega | (simp only [sz_alloc, sz_setCell, sz_drew, sz_drewN]; omega) | (simp; done) | (simp; omega))) 1).trans (by go_simp; exact rfl)
  have c17_2 := (lcc hb (w3.heap.size) (by (first | omega | (simp only [sz_alloc, sz_setCell, sz_drew, sz_drewN]; omega) | (simp; done) | (simp; omega))) 2).trans (by go_simp; exact rfl)
  have c17_3 := (lcc hb (w3.heap.size) (by (first | omega | (simp only [sz_alloc, sz_setCell, sz_drew, sz_drewN]; omega) | (simp; done) | (simp; omega))) 3).trans (by go_simp; exact rfl)
  have c17_4 := (lcc hb (w3.heap.size) (by (first | omega | (simp only [sz_alloc, sz_setCell, sz_drew, sz_drewN]; omega) | (simp; done) | (simp; omega))) 4).trans (by go_simp; exact rfl)
  have c17_5 := (lcc hb (w3.heap.size) (by (first | omega | (simp only [sz_alloc, sz_setCell, sz_drew, sz_drewN]; omega) | (simp; done) | (simp; omega))) 5).trans (by go_simp; exact rfl)
  have s18 := lcs hb (w4.heap.size) (by (first | omega | (simp only [sz_alloc, sz_setCell, sz_drew, sz_drewN]; omega) | (simp; done) | (simp; omega)))
  have c18_0 := (lcc hb (w4.heap.size) (by (first | omega | (simp only [sz_alloc, sz_setCell, sz_drew, sz_drewN]; omega) | (simp; done) | (simp; omega))) 0).trans (by go_simp; exact rfl)
  have c18_1 := (lcc hb (w4.heap.size) (by (first | omega | (simp only [sz_alloc, sz_setCell, sz_drew, sz_drewN]; omega) | (simp; done) | (simp; omega))) 1).trans (by go_simp; exact rfl)
  have c18_2 := (lcc hb (w4.heap.size) (by (first | omega | (simp only [sz_alloc, sz_setCell, sz_drew, sz_drewN]; omega) | (simp; done) | (simp; omega))) 2).trans (by go_simp; exact rfl)
  have c18_3 := (lcc hb (w4.heap.size) (by (first | omega | (simp only [sz_alloc, sz_setCell, sz_drew, sz_drewN]; omega) | (simp; done) | (simp; omega))) 3).trans (by go_simp; exact rfl)
  have c18_4 := (lcc hb (w4.heap.size) (by (first | omega | (simp only [sz_alloc, sz_setCell, sz_drew, sz_drewN]; omega) | (simp; done) | (simp; omega))) 4).trans (by go_simp; exact rfl)
  have c18_5 := (lcc hb (w4.heap.size) (by (first | omega | (simp only [sz_alloc, sz_setCell, sz_drew, sz_drewN]; omega) | (simp; done) | (simp; omega))) 5).trans (by go_simp; exact rfl)
  clear c11_0 c11_1 c11_2 c11_3 c11_4 c11_5 c12_0 c12_1 c12_2 c12_3 c12_4 c12_5 c13_0 c13_1 c13_2 c13_3 c13_4 c13_5 c14_0 c14_1 c14_2 c14_3 c14_4 c14_5
  go_wp2_with fail
  refine (law_able _).mono ?_
  rintro e w8 ⟨rfl, hb⟩
  have b8 := below_then b7 b7.size hb
  have hl8 := own_mono (base' := w.heap.size) (own_below hl7 hb) (by have := b4.size; omega)
  have hm8 := own_mono (base' := w.heap.size) (own_below hm7 hb) (by have := b5.size; omega)
  have hn8 := own_mono (base' := w.heap.size) (own_below hn7 hb) (by have := b6.size; omega)
  have nlm : ¬ gl = gm := by omega
  have nln : ¬ gl = gn := by omega
  clear hl5 hl6 hm6 hl7 hm7 hn7 b1 b2 b3 b4 b5 b6 b7 hb
  go_wp2
  go_loopw [16] (fun i wr => ∃ k, Tab1 w gl cl gm cm gn cn i k wr) (fun i _ => 49 - (intOf i).toNat)
  case atStart => exact ⟨0, by omega, rfl, b8, by rw [show marked 0 = tableL from markedL_zero _]; exact hl8, hm8, hn8⟩
  case round =>
    clear hl8 hm8 hn8 b8
    obtain ⟨k, hk, rfl, hbk, hl, hm, hn⟩ := hrel
    by_cases hlt : k < 49
    · obtain ⟨S, hS⟩ : ∃ S, tableL[k]? = some S := ⟨_, List.getElem?_eq_getElem (by rw [tableL_len]; exact hlt)⟩
      have hSm : (marked k)[k]? = some S := (markedL_at hS).trans (by rw [if_neg (by omega)])
      have x0 := (row_cell tableL_len hn hlt hS).1
      have x1 := (row_cell tableL_len hn hlt hS).2.1
      have x2 := (row_cell tableL_len hn hlt hS).2.2.1
      have x3 := (row_cell tableL_len hn hlt hS).2.2.2.1
      have x4 := (row_cell tableL_len hn hlt hS).2.2.2.2.1
      have x5 := (row_cell tableL_len hn hlt hS).2.2.2.2.2
      have y0 := (row_cell tableL_len hm hlt hS).1
      have y1 := (row_cell tableL_len hm hlt hS).2.1
      have y2 := (row_cell tableL_len hm hlt hS).2.2.1
      have y3 := (row_cell tableL_len hm hlt hS).2.2.2.1
      have y4 := (row_cell tableL_len hm hlt hS).2.2.2.2.1
      have y5 := (row_cell tableL_len hm hlt hS).2.2.2.2.2
      have z0 := (row_cell (marked_len k) hl hlt hSm).1
      have z1 := (row_cell (marked_len k) hl hlt hSm).2.1
      have z2 := (row_cell (marked_len k) hl hlt hSm).2.2.1
      have z3 := (row_cell (marked_len k) hl hlt hSm).2.2.2.1
      have z4 := (row_cell (marked_len k) hl hlt hSm).2.2.2.2.1
      have z5 := (row_cell (marked_len k) hl hlt hSm).2.2.2.2.2
      have fz : ∀ o, wr.frozen? ⟨gl, o, none⟩ = false := fun o => hl.frozenAt o
      have H := Lib.hid (And.intro hl (And.intro hm (And.intro hn hbk)))
      have hgl := (hl.lt gl rfl).1
      have HS := Lib.hid hS
      clear hl hm hn hbk hS hSm
      go_wp2_with fail
      go_quiet (fail)
      go_wp2
      go_roundw
      case rel =>
        refine ⟨k + 1, by omega, by go_num, (below_drewN H.out.2.2.2 _).setCell (by show w.heap.size ≤ gl; exact hgl) _, ?_, ?_, ?_⟩
        · show World.ownsRow _ _ _ _ _ _ ((markedL tableL (k + 1)).flatMap SigS.cells)
          rw [← markedL_step (by rw [tableL_len]; exact hlt) HS.out]
          exact (World.ownsRow.stored (w := wr.drewN _) H.out.1 (k * 6) _).1
        · exact World.ownsRow.kept (w := wr.drewN _) H.out.2.1 (World.ownsRow.stored (w := wr.drewN _) H.out.1 (k * 6) _).2 (Or.inr (by simp [Value.ownBlock]; omega))
        · exact World.ownsRow.kept (w := wr.drewN _) H.out.2.2.1 (World.ownsRow.stored (w := wr.drewN _) H.out.1 (k * 6) _).2 (Or.inr (by simp [Value.ownBlock]; omega))
      case measure => simp [intOf]; omega
    · obtain rfl : k = 49 := by omega
      go_wp2
      go_loopw [17] (fun i wr => ∃ k, Tab2 w gl cl gm cm gn cn i k wr) (fun i _ => 49 - (intOf i).toNat)
      case atStart => exact ⟨0, by omega, rfl, hbk, hl, hm, hn⟩
      case round =>
        clear hl hm hn hbk
        obtain ⟨k, hk, rfl, hbk, hl, hm, hn⟩ := hrel
        by_cases hlt : k < 49
        · obtain ⟨S, hS⟩ : ∃ S, tableL[k]? = some S := ⟨_, List.getElem?_eq_getElem (by rw [tableL_len]; exact hlt)⟩
          have hSm : (marked 49)[k]? = some { S with id := 1000 + (k : Int) } := (markedL_at hS).trans (by rw [if_pos hlt])
          have x0 := (row_cell tableL_len hn hlt hS).1
          have x1 := (row_cell tableL_len hn hlt hS).2.1
          have x2 := (row_cell tableL_len hn hlt hS).2.2.1
          have x3 := (row_cell tableL_len hn hlt hS).2.2.2.1
          have x4 := (row_cell tableL_len hn hlt hS).2.2.2.2.1
          have x5 := (row_cell tableL_len hn hlt hS).2.2.2.2.2
          have y0 := (row_cell tableL_len hm hlt hS).1
          have y1 := (row_cell tableL_len hm hlt hS).2.1
          have y2 := (row_cell tableL_len hm hlt hS).2.2.1
          have y3 := (row_cell tableL_len hm hlt hS).2.2.2.1
          have y4 := (row_cell tableL_len hm hlt hS).2.2.2.2.1
          have y5 := (row_cell tableL_len hm hlt hS).2.2.2.2.2
          have z0 := (row_cell (marked_len 49) hl hlt hSm).1
          have H := Lib.hid (And.intro hl (And.intro hm (And.intro hn hbk)))
          clear hl hm hn hbk hS hSm
          go_wp2_with fail
          go_quiet (fail)
          go_wp2
          refine ⟨⟨_, _, _, _, _, _, _, _, _, _, _, _, _, _, _, _, _, _, _, _, _, _, _, _, _, _, _, ?rel, rfl⟩, ?measure⟩
          case rel => exact ⟨k + 1, by omega, by go_num, below_drewN H.out.2.2.2 _, H.out.1, H.out.2.1, H.out.2.2.1⟩
          case measure => simp [intOf]; omega
        · obtain rfl : k = 49 := by omega
          have hS : tableL[0]? = some ⟨1, 1, ⟨#[83, 85, 77]⟩, 1, 30, ⟨#[120]⟩⟩ := rfl
          have x0 := (row_cell tableL_len hn (by decide) hS).1
          have x1 := (row_cell tableL_len hn (by decide) hS).2.1
          have x2 := (row_cell tableL_len hn (by decide) hS).2.2.1
          have x3 := (row_cell tableL_len hn (by decide) hS).2.2.2.1
          have x4 := (row_cell tableL_len hn (by decide) hS).2.2.2.2.1
          have x5 := (row_cell tableL_len hn (by decide) hS).2.2.2.2.2
          simp only [Nat.zero_mul, Nat.zero_add] at x0 x1 x2 x3 x4 x5
          have ltn := (hn.lt gn rfl).2
          clear hl hm hn hS
          go_wp2_with fail
          refine (HJ.out _).mono ?_
          rintro e w9 ⟨rfl, hb⟩
          have b9 := below_then hbk hbk.size hb
          have q1 : ¬ gn = w9.heap.size := by have := hb.size; omega
          have q2 : ¬ w9.heap.size = gn := by have := hb.size; omega
          have s19 := lcs hb (gn) (by (first | omega | (simp only [sz_alloc, sz_setCell, sz_drew, sz_drewN]; omega) | (simp; done) | (simp; omega)))
          have c19_0 := (lcc hb (gn) (by (first | omega | (simp only [sz_alloc, sz_setCell, sz_drew, sz_drewN]; omega) | (simp; done) | (simp; omega))) 0).trans (by go_simp; exact rfl)
          have c19_1 := (lcc hb (gn) (by (first | omega | (simp only [sz_alloc, sz_setCell, sz_drew, sz_drewN]; omega) | (simp; done) | (simp; omega))) 1).trans (by go_simp; exact rfl)
          have c19_2 := (lcc hb (gn) (by (first | omega | (simp only [sz_alloc, sz_setCell, sz_drew, sz_drewN]; omega) | (simp; done) | (simp; omega))) 2).trans (by go_simp; exact rfl)
          have c19_3 := (lcc hb (gn) (by (first | omega | (simp only [sz_alloc, sz_setCell, sz_drew, sz_drewN]; omega) | (simp; done) | (simp; omega))) 3).trans (by go_simp; exact rfl)
          have c19_4 := (lcc hb (gn) (by (first | omega | (simp only [sz_alloc, sz_setCell, sz_drew, sz_drewN]; omega) | (simp; done) | (simp; omega))) 4).trans (by go_simp; exact rfl)
          have c19_5 := (lcc hb (gn) (by (first | omega | (simp only [sz_alloc, sz_setCell, sz_drew, sz_drewN]; omega) | (simp; done) | (simp; omega))) 5).trans (by go_simp; exact rfl)
          clear c15_0 c15_1 c15_2 c15_3 c15_4 c15_5 c16_0 c16_1 c16_2 c16_3 c16_4 c16_5 c17_0 c17_1 c17_2 c17_3 c17_4 c17_5 c18_0 c18_1 c18_2 c18_3 c18_4 c18_5
          go_wp2_with fail
          go_quiet (fail)
          go_wp2
          go_ret
          refine ⟨rfl, ?_⟩
          exact below_drewN (b9.alloc b9.size _) _
end Go.Proofs.YtangdbjoflnobaaGreatDoor
