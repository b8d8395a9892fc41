/- The walk of able. -/
import Derived.Test.YtnimenpfojcehaaGreatDoorBx5
import Derived.Test.YtnimenpfojcehaaGreatDoorAccQ
namespace Go.Proofs.YtnimenpfojcehaaGreatDoor
open Go Go.RowKit
set_option linter.unusedSimpArgs false
set_option linter.unusedVariables false

def accS2 : AccS := { acc0 1 0 with n := 2, d := 1 }
def accS5 : AccS := { acc0 1 0 with n := 5, d := 1 }
theorem adds_turns (b : Nat) (S : AccS) (kd : Value) (n d : Int) (h1 : I64 S.n) (h2 : I64 S.d) (h3 : I64 n) (h4 : I64 d) :
    Turns 183 #[.pointer (some ⟨b, 0, none⟩), .agg #[.int .i64 n, .int .i64 d]] b S (S.sets (add S.n S.d n d)) kd :=
  ⟨fun wx hx => acc_adds b S kd n d wx hx h1 h2 h3 h4⟩
theorem i64_of {x : Int} (h : (decide (-1000 ≤ x) && decide (x ≤ 1000)) = true) : I64 x := by
  simp only [Bool.and_eq_true, decide_eq_true_eq] at h
  exact ⟨by omega, by omega⟩
theorem able_cell (b : Nat) : Turns 12 #[.pointer (some ⟨b, 0, none⟩), .agg #[.int .i64 1, .int .i64 2, .int .i64 1, .string ⟨#[]⟩, .bool false, .int .i64 0]] b (acc0 1 0) accS2 kdN := by
  have hr : rightV ⟨1, 2, 1, ⟨#[]⟩, false, 0⟩ = true := by decide
  refine acc_Cell b _ _ _ _ _ _ _ _ ⟨1, 2, 1, ⟨#[]⟩, false, 0⟩ (tkV_of hr).symm (right_in hr) rfl rfl ?_
  refine numbers_cell1 b _ _ _ _ rfl ?_
  refine acc_takes1 b _ _ _ _ _ rfl ?_
  exact adds_turns b (acc0 1 0) kdN 2 1 (i64_of rfl) (i64_of rfl) (i64_of rfl) (i64_of rfl)
theorem able_feed (b : Nat) : Turns 15 #[.pointer (some ⟨b, 0, none⟩), .agg #[.int .i64 2, .int .i64 0, .int .i64 0, .string ⟨#[51]⟩, .bool false, .int .i64 0]] b accS2 accS5 kdN := by
  have hr : rightV ⟨2, 0, 0, ⟨#[51]⟩, false, 0⟩ = true := by decide
  refine acc_Feed b _ _ _ _ _ _ _ _ ⟨2, 0, 0, ⟨#[51]⟩, false, 0⟩ (tkV_of hr).symm (right_in hr) rfl rfl ?_
  refine numbers_feed1 b _ _ _ _ (right_in hr) (by decide) (by decide) ?_
  refine acc_takes1 b _ _ _ _ _ rfl ?_
  exact adds_turns b accS2 kdN 3 1 (i64_of rfl) (i64_of rfl) (i64_of rfl) (i64_of rfl)
theorem but_below {B B0 b : Nat} {w w' : World} (h : But B b w w') (h1 : B0 ≤ B) (h2 : B0 ≤ b) : Below B0 w w' :=
  ⟨h.os, h.tape, h.output, h.size, fun k hk => h.block k (by omega) (by omega)⟩
theorem five_lit (w : World) : Calls Tryz.prog 21 #[] w fun e w' => e = .returned (.agg #[.int .i64 1, .int .i64 5, .int .i64 1, .string ⟨#[]⟩, .bool false, .int .i64 0]) ∧ Below w.heap.size w w' := law_five w
theorem result_lit (b : Nat) (w : World) (hA : Blk w b (accArr accS5 kdN) 57) :
    Calls Tryz.prog 13 #[.pointer (some ⟨b, 0, none⟩)] w fun e w' => e = .returned (.agg #[.int .i64 1, .int .i64 5, .int .i64 1, .string ⟨#[]⟩, .bool false, .int .i64 0]) ∧ Below w.heap.size w w' :=
  acc_Result1 b accS5 w hA rfl rfl (i64_of rfl) (i64_of rfl)
theorem apply_lit (g : Nat) (w : World) (hB : w.heap[g]? = some (.cells #[.int .i64 2, .int .i64 0, .int .i64 0, .string ⟨#[97, 98, 99, 100, 101]⟩, .bool false, .int .i64 0] 33 (0, 0))) :
    Calls Tryz.prog 22 #[.int .i64 48, .slice (some ⟨g, 0, none⟩) 1 1] w fun e w' => e = .returned (.agg #[.int .i64 1, .int .i64 5, .int .i64 1, .string ⟨#[]⟩, .bool false, .int .i64 0]) ∧ Below w.heap.size w w' := by
  have B : Blk w g _ _ := hB
  exact funcs_Apply48 ⟨#[97, 98, 99, 100, 101]⟩ g 1 w (by decide) (by decide) B.lt (B.cell 0) (B.cell 1) (B.cell 2) (B.cell 3) (B.cell 4) (B.cell 5)
theorem of_lit (w : World) : Calls Tryz.prog 20 #[.string ⟨#[76, 69, 78]⟩] w fun e w' => e = .returned (.tuple #[.agg #[.int .i64 48, .int .i64 4, .string ⟨#[76, 69, 78]⟩, .int .i64 1, .int .i64 1, .string ⟨#[118]⟩], .bool true]) ∧ Below w.heap.size w w' := by
  have h := funcs_Of ⟨#[76, 69, 78]⟩ w funcs_scalars
  have e : ofL ⟨#[76, 69, 78]⟩ = some ⟨48, 4, ⟨#[76, 69, 78]⟩, 1, 1, ⟨#[118]⟩⟩ := by kernel_rfl
  rw [e] at h
  exact h

set_option maxRecDepth 100000 in
set_option maxHeartbeats 4000000 in
theorem law_able (w : World) :
    Calls Tryz.prog 6 #[] w fun e w' => e = .returned (.bool true) ∧ Below w.heap.size w w' := by
  have hv : veq ⟨1, 5, 1, ⟨#[]⟩, false, 0⟩ ⟨1, 5, 1, ⟨#[]⟩, false, 0⟩ = true := by decide
  go_enter Tryz.func6, Tryz.ntmps6
  go_wp2_with fail
  refine (funcs_Open1 _).mono ?_
  rintro e w1 ⟨rfl, A1, hb⟩
  have hb1 := hb
  go_wp2_with fail
  refine ((able_cell w.heap.size).out _ A1).mono ?_
  rintro e w2 ⟨rfl, A2, hb⟩
  have hs1 := A1.lt
  have hb2 := hb1.trans (but_below hb (by omega) (Nat.le_refl _))
  go_wp2_with fail
  refine ((able_feed w.heap.size).out _ A2).mono ?_
  rintro e w3 ⟨rfl, A3, hb⟩
  have hs2 := A2.lt
  have hb3 := hb2.trans (but_below hb (by omega) (Nat.le_refl _))
  go_wp2_with fail
  refine (of_lit _).mono ?_
  rintro e w4 ⟨rfl, hb⟩
  have hs3 := A3.lt
  have hb4 := hb3.trans (hb.mono (by omega))
  have hs4 := hb.size
  have A4 := A3.below hb
  go_wp2_with fail
  refine (result_lit _ _ (A4.alloc _)).mono ?_
  rintro e w5 ⟨rfl, hb⟩
  have hb5 := below_then (hb4.alloc (by omega) _) (by simp only [sz_alloc]; omega) hb
  obtain ⟨s1, c1_0, c1_1, c1_2, c1_3, c1_4, c1_5, f1⟩ := L6 hb (w4.heap.size) (by first | omega | (simp only [sA, sC, sD, sE]; omega) | (simp; done) | (simp; omega)) (by go_simp; exact ⟨rfl, rfl, rfl, rfl, rfl, rfl⟩) (by intro o; go_simp)
  go_wp2_with fail
  refine (five_lit _).mono ?_
  rintro e w6 ⟨rfl, hb⟩
  have hb6 := below_then hb5 hb5.size hb
  obtain ⟨s2, c2_0, c2_1, c2_2, c2_3, c2_4, c2_5, f2⟩ := L6 hb (w4.heap.size) (by first | omega | (simp only [sA, sC, sD, sE]; omega) | (simp; done) | (simp; omega)) (by go_simp; exact ⟨rfl, rfl, rfl, rfl, rfl, rfl⟩) (by intro o; go_simp)
  clear c1_0 c1_1 c1_2 c1_3 c1_4 c1_5 f1
  go_wp2_with fail
  refine (apply_lit _ _ (heap_alloc_new _ _)).mono ?_
  rintro e w7 ⟨rfl, hb⟩
  have hb7 := below_then (hb6.alloc hb6.size _) (by simp only [sz_alloc]; have := hb6.size; omega) hb
  go_wp2_with fail
  refine (five_lit _).mono ?_
  rintro e w8 ⟨rfl, hb⟩
  have hb8 := below_then hb7 hb7.size hb
  go_wp2
  go_ret
  exact ⟨rfl, hb8⟩
end Go.Proofs.YtnimenpfojcehaaGreatDoor
