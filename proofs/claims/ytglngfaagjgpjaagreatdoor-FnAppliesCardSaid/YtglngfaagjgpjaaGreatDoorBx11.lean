/- The walk of able. Walks of package funcs: the functions of texts. -/
import Derived.Test.YtglngfaagjgpjaaGreatDoorAppC
import Derived.Test.YtglngfaagjgpjaaGreatDoorBx10
import Derived.Test.YtglngfaagjgpjaaGreatDoorCutX
import Derived.Test.YtglngfaagjgpjaaGreatDoorBx9
import Derived.Test.YtglngfaagjgpjaaGreatDoorShelfU
namespace Go.Proofs.YtglngfaagjgpjaaGreatDoor
open Go Go.RowKit
set_option linter.unusedSimpArgs false
set_option linter.unusedVariables false

def accS2 : AccS := { acc0 1 0 with n := 2, d := 1 }
def accS5 : AccS := { acc0 1 0 with n := 5, d := 1 }
theorem adds_turns (b : Nat) (S : AccS) (kd : Value) (n d : Int) (h1 : I64 S.n) (h2 : I64 S.d) (h3 : I64 n) (h4 : I64 d) :
    Turns 264 #[.pointer (some ⟨b, 0, none⟩), .agg #[.int .i64 n, .int .i64 d]] b S (S.sets (add S.n S.d n d)) kd :=
  ⟨fun wx hx => acc_adds b S kd n d wx hx h1 h2 h3 h4⟩
theorem i64_of {x : Int} (h : (decide (-1000 ≤ x) && decide (x ≤ 1000)) = true) : I64 x := by
  simp only [Bool.and_eq_true, decide_eq_true_eq] at h
  exact ⟨by omega, by omega⟩
theorem able_cell (b : Nat) : Turns 16 #[.pointer (some ⟨b, 0, none⟩), .agg #[.int .i64 1, .int .i64 2, .int .i64 1, .string ⟨#[]⟩, .bool false, .int .i64 0]] b (acc0 1 0) accS2 kdN := by
  have hr : rightV ⟨1, 2, 1, ⟨#[]⟩, false, 0⟩ = true := by decide
  refine acc_Cell b _ _ _ _ _ _ _ _ ⟨1, 2, 1, ⟨#[]⟩, false, 0⟩ (tkV_of hr).symm (right_in hr) rfl rfl ?_
  refine numbers_cell1 b _ _ _ _ rfl ?_
  refine acc_takes1 b _ _ _ _ _ rfl ?_
  exact adds_turns b (acc0 1 0) kdN 2 1 (i64_of rfl) (i64_of rfl) (i64_of rfl) (i64_of rfl)
theorem able_feed (b : Nat) : Turns 19 #[.pointer (some ⟨b, 0, none⟩), .agg #[.int .i64 2, .int .i64 0, .int .i64 0, .string ⟨#[51]⟩, .bool false, .int .i64 0]] b accS2 accS5 kdN := by
  have hr : rightV ⟨2, 0, 0, ⟨#[51]⟩, false, 0⟩ = true := by decide
  refine acc_Feed b _ _ _ _ _ _ _ _ ⟨2, 0, 0, ⟨#[51]⟩, false, 0⟩ (tkV_of hr).symm (right_in hr) rfl rfl ?_
  refine numbers_feed1 b _ _ _ _ (right_in hr) (by decide) (by decide) ?_
  refine acc_takes1 b _ _ _ _ _ rfl ?_
  exact adds_turns b accS2 kdN 3 1 (i64_of rfl) (i64_of rfl) (i64_of rfl) (i64_of rfl)
theorem but_below {B B0 b : Nat} {w w' : World} (h : But B b w w') (h1 : B0 ≤ B) (h2 : B0 ≤ b) : Below B0 w w' :=
  ⟨h.os, h.tape, h.output, h.size, fun k hk => h.block k (by omega) (by omega)⟩
theorem five_lit (w : World) : Calls Tryz.prog 38 #[] w fun e w' => e = .returned (.agg #[.int .i64 1, .int .i64 5, .int .i64 1, .string ⟨#[]⟩, .bool false, .int .i64 0]) ∧ Below w.heap.size w w' := law_five w
theorem result_lit (b : Nat) (w : World) (hA : Blk w b (accArr accS5 kdN) 81) :
    Calls Tryz.prog 17 #[.pointer (some ⟨b, 0, none⟩)] w fun e w' => e = .returned (.agg #[.int .i64 1, .int .i64 5, .int .i64 1, .string ⟨#[]⟩, .bool false, .int .i64 0]) ∧ Below w.heap.size w w' :=
  acc_Result1 b accS5 w hA rfl rfl (i64_of rfl) (i64_of rfl)
theorem apply_lit (g : Nat) (w : World) (hB : w.heap[g]? = some (.cells #[.int .i64 2, .int .i64 0, .int .i64 0, .string ⟨#[97, 98, 99, 100, 101]⟩, .bool false, .int .i64 0] 26 (0, 0))) :
    Calls Tryz.prog 8 #[.int .i64 48, .slice (some ⟨g, 0, none⟩) 1 1] w fun e w' => e = .returned (.agg #[.int .i64 1, .int .i64 5, .int .i64 1, .string ⟨#[]⟩, .bool false, .int .i64 0]) ∧ Below w.heap.size w w' := by
  have B : Blk w g _ _ := hB
  exact funcs_Apply48 ⟨#[97, 98, 99, 100, 101]⟩ g 1 w (by decide) (by decide) B.lt (B.cell 0) (B.cell 1) (B.cell 2) (B.cell 3) (B.cell 4) (B.cell 5)
theorem of_lit (w : World) : Calls Tryz.prog 37 #[.string ⟨#[76, 69, 78]⟩] w fun e w' => e = .returned (.tuple #[.agg #[.int .i64 48, .int .i64 4, .string ⟨#[76, 69, 78]⟩, .int .i64 1, .int .i64 1, .string ⟨#[118]⟩], .bool true]) ∧ Below w.heap.size w w' := by
  have h := funcs_Of ⟨#[76, 69, 78]⟩ w funcs_scalars
  have e : ofL ⟨#[76, 69, 78]⟩ = some ⟨48, 4, ⟨#[76, 69, 78]⟩, 1, 1, ⟨#[118]⟩⟩ := by kernel_rfl
  rw [e] at h
  exact h

set_option maxRecDepth 100000 in
set_option maxHeartbeats 4000000 in
theorem law_able (w : World) :
    Calls Tryz.prog 9 #[] w fun e w' => e = .returned (.bool true) ∧ Below w.heap.size w w' := by
  have hv : veq ⟨1, 5, 1, ⟨#[]⟩, false, 0⟩ ⟨1, 5, 1, ⟨#[]⟩, false, 0⟩ = true := by decide
  go_enter Tryz.func9, Tryz.ntmps9
  go_wp2_with fail
  refine (funcs_Open1 _).mono ?_
  rintro e w1 ⟨rfl, A1, hb⟩
  have hb1 := hb
  go_wp2_with fail
  refine ((able_cell w.heap.size).out _ A1).mono ?_
  rintro e w2 ⟨rfl, A2, hb⟩
  have hs1 := A1.lt
  have hb2 := hb1.trans (but_below hb (by omega) (Nat.le_refl _))
  go_wp2_with fail
  refine ((able_feed w.heap.size).out _ A2).mono ?_
  rintro e w3 ⟨rfl, A3, hb⟩
  have hs2 := A2.lt
  have hb3 := hb2.trans (but_below hb (by omega) (Nat.le_refl _))
  go_wp2_with fail
  refine (of_lit _).mono ?_
  rintro e w4 ⟨rfl, hb⟩
  have hs3 := A3.lt
  have hb4 := hb3.trans (hb.mono (by omega))
  have hs4 := hb.size
  have A4 := A3.below hb
  go_wp2_with fail
  refine (result_lit _ _ (A4.alloc _)).mono ?_
  rintro e w5 ⟨rfl, hb⟩
  have hb5 := below_then (hb4.alloc (by omega) _) (by simp only [sz_alloc]; omega) hb
  obtain ⟨s1, c1_0, c1_1, c1_2, c1_3, c1_4, c1_5, f1⟩ := L6 hb (w4.heap.size) (by first | omega | (simp only [sA, sC, sD, sE]; omega) | (simp; done) | (simp; omega)) (by go_simp; exact ⟨rfl, rfl, rfl, rfl, rfl, rfl⟩) (by intro o; go_simp)
  go_wp2_with fail
  refine (five_lit _).mono ?_
  rintro e w6 ⟨rfl, hb⟩
  have hb6 := below_then hb5 hb5.size hb
  obtain ⟨s2, c2_0, c2_1, c2_2, c2_3, c2_4, c2_5, f2⟩ := L6 hb (w4.heap.size) (by first | omega | (simp only [sA, sC, sD, sE]; omega) | (simp; done) | (simp; omega)) (by go_simp; exact ⟨rfl, rfl, rfl, rfl, rfl, rfl⟩) (by intro o; go_simp)
  clear c1_0 c1_1 c1_2 c1_3 c1_4 c1_5 f1
  go_wp2_with fail
  refine (apply_lit _ _ (heap_alloc_new _ _)).mono ?_
  rintro e w7 ⟨rfl, hb⟩
  have hb7 := below_then (hb6.alloc hb6.size _) (by simp only [sz_alloc]; have := hb6.size; omega) hb
  go_wp2_with fail
  refine (five_lit _).mono ?_
  rintro e w8 ⟨rfl, hb⟩
  have hb8 := below_then hb7 hb7.size hb
  go_wp2
  go_ret
  exact ⟨rfl, hb8⟩
end Go.Proofs.YtglngfaagjgpjaaGreatDoor
namespace Go.Proofs.YtglngfaagjgpjaaGreatDoor
open Go Go.RowKit
set_option linter.unusedSimpArgs false
set_option linter.unusedVariables false

/-- What the library's functions on texts read of the world. -/
def MaxL (w : World) : Prop := 2 < w.heap.size ∧ ∃ m : Int, w.cell? ⟨2, 0, none⟩ = some (.int .i64 m)
theorem MaxL.below {w w' : World} (h : MaxL w) (hb : Below w.heap.size w w') : MaxL w' := by
  obtain ⟨h0, m, hm⟩ := h
  exact ⟨lcs hb 2 h0, m, (lcc hb 2 h0 0).trans hm⟩
structure Laid (w : World) : Prop where
  sp : SpTab w
  mx : MaxL w
  p10 : Pow10 w
theorem Laid.below {w w' : World} (h : Laid w) (hb : Below w.heap.size w w') : Laid w' :=
  ⟨h.sp.below hb (by have := h.mx.1; omega), h.mx.below hb, h.p10.below hb⟩
def findV (s t : ByteArray) : Vl := if Lib.index t.data.toList s.data.toList < 0 then faultF 5 else wholeF (Lib.index t.data.toList s.data.toList + 1)

set_option maxHeartbeats 1000000 in
theorem ofTexts54 (t : ByteArray) (aN : Option Addr) (lN cN gt off lT cT : Nat) (tr : Bool) (w : World) (hlT : 1 ≤ lT) (hcT : lT ≤ cT) (hg : gt < w.heap.size) (c0 : w.cell? ⟨gt, off, none⟩ = some (.string t)) (hp : plainT t = true) (hs : t.size ≤ 256) :
    Calls Tryz.prog 35 #[.int .i64 54, .agg #[.slice aN lN cN, .slice (some ⟨gt, off, none⟩) lT cT, .bool tr]] w fun e w' => e = .returned (.agg #[.int .i64 (textF (upT t)).k, .int .i64 (textF (upT t)).n, .int .i64 (textF (upT t)).d, .string (textF (upT t)).t, .bool (textF (upT t)).b, .int .i64 (textF (upT t)).f]) ∧ Below w.heap.size w w' := by
  have hne : ¬ gt = w.heap.size := by omega
  have hne' : ¬ w.heap.size = gt := by omega
  have HU : Hid (∀ wx, Calls Tryz.prog 70 #[.string t] wx fun e w' => e = .returned (.string (upT t)) ∧ Below wx.heap.size wx w') := fun wx => Tryz.strings_ToUpper_ascii t wx (by omega) (okc_ascii hp)
  have HV := Lib.hid fun wx => value_Text (upT t) wx (by have := (up_ok hp hs).2; omega)
  clear hp hs
  go_enter Tryz.func35, Tryz.ntmps35
  go_wp2_with fail
  refine (HU.out _).mono ?_
  rintro e w1 ⟨rfl, hb⟩
  obtain ⟨s1, c1_0, c1_1, c1_2, c1_3, c1_4, c1_5, f1⟩ := L6 hb (w.heap.size + 1) (by first | omega | (simp only [sA, sC, sD, sE]; omega) | (simp; done) | (simp; omega)) (by go_simp; exact ⟨rfl, rfl, rfl, rfl, rfl, rfl⟩) (by intro o; go_simp)
  go_wp2_with fail
  refine (HV.out _).mono ?_
  rintro e w2 ⟨rfl, hb⟩
  obtain ⟨s2, c2_0, c2_1, c2_2, c2_3, c2_4, c2_5, f2⟩ := L6 hb (w.heap.size + 1) (by first | omega | (simp only [sA, sC, sD, sE]; omega) | (simp; done) | (simp; omega)) (by go_simp; exact ⟨rfl, rfl, rfl, rfl, rfl, rfl⟩) (by intro o; go_simp)
  clear c1_0 c1_1 c1_2 c1_3 c1_4 c1_5 f1
  go_wp2
  refine bodyPost_ret (v := .agg #[.int .i64 (textF (upT t)).k, .int .i64 (textF (upT t)).n, .int .i64 (textF (upT t)).d, .string (textF (upT t)).t, .bool (textF (upT t)).b, .int .i64 (textF (upT t)).f]) (by simp [results, Tryz.results35, go_sem, c2_0, c2_1, c2_2, c2_3, c2_4, c2_5]) rfl ⟨rfl, ?_⟩
  focus
    repeat with_reducible first | exact Below.refl _ _ | refine below_drewN ?_ _ | refine Below.drew ?_ | refine Below.setCell ?_ ?_ _ | refine Below.alloc ?_ ?_ _ | refine below_then ?_ ?_ (by with_reducible assumption)
    all_goals first | omega | (simp only [sA, sC, sD, sE]; omega) | (simp; done) | (simp; omega)
set_option maxHeartbeats 1000000 in
theorem ofTexts55 (t : ByteArray) (aN : Option Addr) (lN cN gt off lT cT : Nat) (tr : Bool) (w : World) (hlT : 1 ≤ lT) (hcT : lT ≤ cT) (hg : gt < w.heap.size) (c0 : w.cell? ⟨gt, off, none⟩ = some (.string t)) (hp : plainT t = true) (hs : t.size ≤ 256) :
    Calls Tryz.prog 35 #[.int .i64 55, .agg #[.slice aN lN cN, .slice (some ⟨gt, off, none⟩) lT cT, .bool tr]] w fun e w' => e = .returned (.agg #[.int .i64 (textF (loT t)).k, .int .i64 (textF (loT t)).n, .int .i64 (textF (loT t)).d, .string (textF (loT t)).t, .bool (textF (loT t)).b, .int .i64 (textF (loT t)).f]) ∧ Below w.heap.size w w' := by
  have hne : ¬ gt = w.heap.size := by omega
  have hne' : ¬ w.heap.size = gt := by omega
  have HU : Hid (∀ wx, Calls Tryz.prog 71 #[.string t] wx fun e w' => e = .returned (.string (loT t)) ∧ Below wx.heap.size wx w') := fun wx => Tryz.strings_ToLower_ascii t wx (by omega) (okc_ascii hp)
  have HV := Lib.hid fun wx => value_Text (loT t) wx (by have := (lo_ok hp hs).2; omega)
  clear hp hs
  go_enter Tryz.func35, Tryz.ntmps35
  go_wp2_with fail
  refine (HU.out _).mono ?_
  rintro e w1 ⟨rfl, hb⟩
  obtain ⟨s3, c3_0, c3_1, c3_2, c3_3, c3_4, c3_5, f3⟩ := L6 hb (w.heap.size + 1) (by first | omega | (simp only [sA, sC, sD, sE]; omega) | (simp; done) | (simp; omega)) (by go_simp; exact ⟨rfl, rfl, rfl, rfl, rfl, rfl⟩) (by intro o; go_simp)
  go_wp2_with fail
  refine (HV.out _).mono ?_
  rintro e w2 ⟨rfl, hb⟩
  obtain ⟨s4, c4_0, c4_1, c4_2, c4_3, c4_4, c4_5, f4⟩ := L6 hb (w.heap.size + 1) (by first | omega | (simp only [sA, sC, sD, sE]; omega) | (simp; done) | (simp; omega)) (by go_simp; exact ⟨rfl, rfl, rfl, rfl, rfl, rfl⟩) (by intro o; go_simp)
  clear c3_0 c3_1 c3_2 c3_3 c3_4 c3_5 f3
  go_wp2
  refine bodyPost_ret (v := .agg #[.int .i64 (textF (loT t)).k, .int .i64 (textF (loT t)).n, .int .i64 (textF (loT t)).d, .string (textF (loT t)).t, .bool (textF (loT t)).b, .int .i64 (textF (loT t)).f]) (by simp [results, Tryz.results35, go_sem, c4_0, c4_1, c4_2, c4_3, c4_4, c4_5]) rfl ⟨rfl, ?_⟩
  focus
    repeat with_reducible first | exact Below.refl _ _ | refine below_drewN ?_ _ | refine Below.drew ?_ | refine Below.setCell ?_ ?_ _ | refine Below.alloc ?_ ?_ _ | refine below_then ?_ ?_ (by with_reducible assumption)
    all_goals first | omega | (simp only [sA, sC, sD, sE]; omega) | (simp; done) | (simp; omega)
set_option maxHeartbeats 1000000 in
theorem ofTexts48 (t : ByteArray) (aN : Option Addr) (lN cN gt off lT cT : Nat) (tr : Bool) (w : World) (hlT : 1 ≤ lT) (hcT : lT ≤ cT) (hg : gt < w.heap.size) (c0 : w.cell? ⟨gt, off, none⟩ = some (.string t)) (hs : t.size ≤ 256) :
    Calls Tryz.prog 35 #[.int .i64 48, .agg #[.slice aN lN cN, .slice (some ⟨gt, off, none⟩) lT cT, .bool tr]] w fun e w' => e = .returned (.agg #[.int .i64 (wholeF t.size).k, .int .i64 (wholeF t.size).n, .int .i64 (wholeF t.size).d, .string (wholeF t.size).t, .bool (wholeF t.size).b, .int .i64 (wholeF t.size).f]) ∧ Below w.heap.size w w' := by
  have hne : ¬ gt = w.heap.size := by omega
  have hne' : ¬ w.heap.size = gt := by omega
  have HW := Lib.hid fun wx => funcs_whole (t.size : Int) wx ⟨by omega, by omega⟩
  go_enter Tryz.func35, Tryz.ntmps35
  go_wp2_with fail
  refine (HW.out _).mono ?_
  rintro e w1 ⟨rfl, hb⟩
  obtain ⟨s5, c5_0, c5_1, c5_2, c5_3, c5_4, c5_5, f5⟩ := L6 hb (w.heap.size + 1) (by first | omega | (simp only [sA, sC, sD, sE]; omega) | (simp; done) | (simp; omega)) (by go_simp; exact ⟨rfl, rfl, rfl, rfl, rfl, rfl⟩) (by intro o; go_simp)
  go_wp2
  refine bodyPost_ret (v := .agg #[.int .i64 (wholeF t.size).k, .int .i64 (wholeF t.size).n, .int .i64 (wholeF t.size).d, .string (wholeF t.size).t, .bool (wholeF t.size).b, .int .i64 (wholeF t.size).f]) (by simp [results, Tryz.results35, go_sem, c5_0, c5_1, c5_2, c5_3, c5_4, c5_5]) rfl ⟨rfl, ?_⟩
  focus
    repeat with_reducible first | exact Below.refl _ _ | refine below_drewN ?_ _ | refine Below.drew ?_ | refine Below.setCell ?_ ?_ _ | refine Below.alloc ?_ ?_ _ | refine below_then ?_ ?_ (by with_reducible assumption)
    all_goals first | omega | (simp only [sA, sC, sD, sE]; omega) | (simp; done) | (simp; omega)
set_option maxHeartbeats 1000000 in
theorem ofTexts53 (s t : ByteArray) (aN : Option Addr) (lN cN gt off lT cT : Nat) (tr : Bool) (w : World) (hlT : 2 ≤ lT) (hcT : lT ≤ cT) (hg : gt < w.heap.size) (c0 : w.cell? ⟨gt, off, none⟩ = some (.string s)) (c1 : w.cell? ⟨gt, off + 1, none⟩ = some (.string t)) (hs : t.size ≤ 256) (hm : MaxL w) :
    Calls Tryz.prog 35 #[.int .i64 53, .agg #[.slice aN lN cN, .slice (some ⟨gt, off, none⟩) lT cT, .bool tr]] w fun e w' => e = .returned (.agg #[.int .i64 (findV s t).k, .int .i64 (findV s t).n, .int .i64 (findV s t).d, .string (findV s t).t, .bool (findV s t).b, .int .i64 (findV s t).f]) ∧ Below w.heap.size w w' := by
  have hne : ¬ gt = w.heap.size := by omega
  have hne' : ¬ w.heap.size = gt := by omega
  have HI : Hid (∀ wx, Below w.heap.size w wx → Calls Tryz.prog 74 #[.string t, .string s] wx fun e w' => e = .returned (.int .i64 (Lib.index t.data.toList s.data.toList)) ∧ w' = wx) := by
    intro wx h
    obtain ⟨_, m, hx⟩ := hm.below h
    exact Tryz.strings_Index t s m wx (by omega) hx
  have hle := Lib.index_le t.data.toList s.data.toList
  have hsz : t.data.toList.length = t.size := by rw [Array.length_toList]; rfl
  rw [hsz] at hle
  have hge := Lib.index_ge t.data.toList s.data.toList
  have HQ : findV s t = if Lib.index t.data.toList s.data.toList < 0 then faultF 5 else wholeF (Lib.index t.data.toList s.data.toList + 1) := rfl
  have HF := Lib.hid fun wx => value_Fault 5 wx
  generalize Lib.index t.data.toList s.data.toList = k at *
  have HW := Lib.hid fun wx => funcs_whole (k + 1) wx ⟨by omega, by omega⟩
  generalize findV s t = Q at *
  generalize wholeF (k + 1) = R at *
  generalize faultF 5 = F at *
  clear hsz hm
  by_cases hk : k < 0
  · rw [if_pos hk] at HQ
    subst HQ
    go_enter Tryz.func35, Tryz.ntmps35
    go_wp2_with fail
    refine (HI.out _ ?_).mono ?_
    · focus
        repeat with_reducible first | exact Below.refl _ _ | refine below_drewN ?_ _ | refine Below.drew ?_ | refine Below.setCell ?_ ?_ _ | refine Below.alloc ?_ ?_ _ | refine below_then ?_ ?_ (by with_reducible assumption)
        all_goals first | omega | (simp only [sA, sC, sD, sE]; omega) | (simp; done) | (simp; omega)
    rintro e w1 ⟨rfl, rfl⟩
    go_wp2_with fail
    refine (HF.out _).mono ?_
    rintro e w2 ⟨rfl, hb2⟩
    obtain ⟨s6, c6_0, c6_1, c6_2, c6_3, c6_4, c6_5, f6⟩ := L6 hb2 (w.heap.size + 1) (by first | omega | (simp only [sA, sC, sD, sE]; omega) | (simp; done) | (simp; omega)) (by go_simp; exact ⟨rfl, rfl, rfl, rfl, rfl, rfl⟩) (by intro o; go_simp)
    go_wp2
    refine bodyPost_ret (v := .agg #[.int .i64 (Q).k, .int .i64 (Q).n, .int .i64 (Q).d, .string (Q).t, .bool (Q).b, .int .i64 (Q).f]) (by simp [results, Tryz.results35, go_sem, c6_0, c6_1, c6_2, c6_3, c6_4, c6_5]) rfl ⟨rfl, ?_⟩
    focus
      repeat with_reducible first | exact Below.refl _ _ | refine below_drewN ?_ _ | refine Below.drew ?_ | refine Below.setCell ?_ ?_ _ | refine Below.alloc ?_ ?_ _ | refine below_then ?_ ?_ (by with_reducible assumption)
      all_goals first | omega | (simp only [sA, sC, sD, sE]; omega) | (simp; done) | (simp; omega)
  · rw [if_neg hk] at HQ
    subst HQ
    go_enter Tryz.func35, Tryz.ntmps35
    go_wp2_with fail
    refine (HI.out _ ?_).mono ?_
    · focus
        repeat with_reducible first | exact Below.refl _ _ | refine below_drewN ?_ _ | refine Below.drew ?_ | refine Below.setCell ?_ ?_ _ | refine Below.alloc ?_ ?_ _ | refine below_then ?_ ?_ (by with_reducible assumption)
        all_goals first | omega | (simp only [sA, sC, sD, sE]; omega) | (simp; done) | (simp; omega)
    rintro e w1 ⟨rfl, rfl⟩
    go_wp2_with fail
    refine (HW.out _).mono ?_
    rintro e w2 ⟨rfl, hb2⟩
    obtain ⟨s7, c7_0, c7_1, c7_2, c7_3, c7_4, c7_5, f7⟩ := L6 hb2 (w.heap.size + 1) (by first | omega | (simp only [sA, sC, sD, sE]; omega) | (simp; done) | (simp; omega)) (by go_simp; exact ⟨rfl, rfl, rfl, rfl, rfl, rfl⟩) (by intro o; go_simp)
    go_wp2
    refine bodyPost_ret (v := .agg #[.int .i64 (Q).k, .int .i64 (Q).n, .int .i64 (Q).d, .string (Q).t, .bool (Q).b, .int .i64 (Q).f]) (by simp [results, Tryz.results35, go_sem, c7_0, c7_1, c7_2, c7_3, c7_4, c7_5]) rfl ⟨rfl, ?_⟩
    focus
      repeat with_reducible first | exact Below.refl _ _ | refine below_drewN ?_ _ | refine Below.drew ?_ | refine Below.setCell ?_ ?_ _ | refine Below.alloc ?_ ?_ _ | refine below_then ?_ ?_ (by with_reducible assumption)
      all_goals first | omega | (simp only [sA, sC, sD, sE]; omega) | (simp; done) | (simp; omega)
set_option maxHeartbeats 1000000 in
theorem ofTexts_piece (id : Int) (s : ByteArray) (ns : List Nm) (aN : Option Addr) (lN cN gt off lT cT : Nat) (tr : Bool) (w : World) (hid : id = 49 ∨ id = 50 ∨ id = 51 ∨ id = 52) (hlT : 1 ≤ lT) (hcT : lT ≤ cT) (hg : gt < w.heap.size) (c0 : w.cell? ⟨gt, off, none⟩ = some (.string s)) (hs : s.size ≤ 256)
    (hn : ns.length = lN) (h1 : 1 ≤ lN) (h51 : id = 51 → 2 ≤ lN) (hc : lN ≤ cN) (hin : ∀ x ∈ ns, I64 x.n ∧ I64 x.d) (hr : NmAt w aN ns) :
    Calls Tryz.prog 35 #[.int .i64 id, .agg #[.slice aN lN cN, .slice (some ⟨gt, off, none⟩) lT cT, .bool tr]] w fun e w' => e = .returned (.agg #[.int .i64 (pieceP id s ns).k, .int .i64 (pieceP id s ns).n, .int .i64 (pieceP id s ns).d, .string (pieceP id s ns).t, .bool (pieceP id s ns).b, .int .i64 (pieceP id s ns).f]) ∧ Below w.heap.size w w' := by
  have hne : ¬ gt = w.heap.size := by omega
  have hne' : ¬ w.heap.size = gt := by omega
  have HP : Hid (∀ wx, Below w.heap.size w wx → Calls Tryz.prog 75 #[.int .i64 id, .string s, .slice aN lN cN] wx fun e w' => e = .returned (.agg #[.int .i64 (pieceP id s ns).k, .int .i64 (pieceP id s ns).n, .int .i64 (pieceP id s ns).d, .string (pieceP id s ns).t, .bool (pieceP id s ns).b, .int .i64 (pieceP id s ns).f]) ∧ Below wx.heap.size wx w') := by
    intro wx h
    exact funcs_piece id s ns aN lN cN wx hid hn h1 h51 hc hin (NmAt.below hr h) hs
  have k0 : (id == 48) = false := by rw [beq_eq_false_iff_ne]; omega
  have k1 : (id == 54) = false := by rw [beq_eq_false_iff_ne]; omega
  have k2 : (id == 55) = false := by rw [beq_eq_false_iff_ne]; omega
  have k3 : (id == 56) = false := by rw [beq_eq_false_iff_ne]; omega
  have k4 : (id == 53) = false := by rw [beq_eq_false_iff_ne]; omega
  generalize pieceP id s ns = Q at *
  clear hid hr hin h51 hn
  go_enter Tryz.func35, Tryz.ntmps35
  go_wp2_with fail
  refine (HP.out _ ?_).mono ?_
  · focus
      repeat with_reducible first | exact Below.refl _ _ | refine below_drewN ?_ _ | refine Below.drew ?_ | refine Below.setCell ?_ ?_ _ | refine Below.alloc ?_ ?_ _ | refine below_then ?_ ?_ (by with_reducible assumption)
      all_goals first | omega | (simp only [sA, sC, sD, sE]; omega) | (simp; done) | (simp; omega)
  rintro e w2 ⟨rfl, hb2⟩
  obtain ⟨s8, c8_0, c8_1, c8_2, c8_3, c8_4, c8_5, f8⟩ := L6 hb2 (w.heap.size + 1) (by first | omega | (simp only [sA, sC, sD, sE]; omega) | (simp; done) | (simp; omega)) (by go_simp; exact ⟨rfl, rfl, rfl, rfl, rfl, rfl⟩) (by intro o; go_simp)
  go_wp2
  refine bodyPost_ret (v := .agg #[.int .i64 (Q).k, .int .i64 (Q).n, .int .i64 (Q).d, .string (Q).t, .bool (Q).b, .int .i64 (Q).f]) (by simp [results, Tryz.results35, go_sem, c8_0, c8_1, c8_2, c8_3, c8_4, c8_5]) rfl ⟨rfl, ?_⟩
  focus
    repeat with_reducible first | exact Below.refl _ _ | refine below_drewN ?_ _ | refine Below.drew ?_ | refine Below.setCell ?_ ?_ _ | refine Below.alloc ?_ ?_ _ | refine below_then ?_ ?_ (by with_reducible assumption)
    all_goals first | omega | (simp only [sA, sC, sD, sE]; omega) | (simp; done) | (simp; omega)
set_option maxHeartbeats 1000000 in
theorem ofTexts56 (t : ByteArray) (aN : Option Addr) (lN cN gt off lT cT : Nat) (tr : Bool) (w : World) (hlT : 1 ≤ lT) (hcT : lT ≤ cT) (hg : gt < w.heap.size) (c0 : w.cell? ⟨gt, off, none⟩ = some (.string t)) (hp : plainT t = true) (hs : t.size ≤ 256) (htab : SpTab w) :
    Calls Tryz.prog 35 #[.int .i64 56, .agg #[.slice aN lN cN, .slice (some ⟨gt, off, none⟩) lT cT, .bool tr]] w fun e w' => e = .returned (.agg #[.int .i64 (textF (trT t)).k, .int .i64 (textF (trT t)).n, .int .i64 (textF (trT t)).d, .string (textF (trT t)).t, .bool (textF (trT t)).b, .int .i64 (textF (trT t)).f]) ∧ Below w.heap.size w w' := by
  have hne : ¬ gt = w.heap.size := by omega
  have hne' : ¬ w.heap.size = gt := by omega
  have hT := trim_ok hp hs
  have HV := Lib.hid fun wx => value_Text (trT t) wx (by have := hT.2; omega)
  have HF : Hid (∀ wx : World, Below w.heap.size w wx → Calls Tryz.prog 73 #[.string t] wx fun e w' => ∃ sl, e = .returned sl ∧ Below wx.heap.size wx w' ∧
      Hid (Calls Tryz.prog 72 #[sl, .string ⟨#[32]⟩] w' fun e w'' => e = .returned (.string (trT t)) ∧ Below w'.heap.size w' w'')) := by
    intro wx hb
    have h0 : 0 < w.heap.size := by omega
    refine (Tryz.strings_Fields t wx (by omega) (okc_ascii hp) (SpTab.below htab hb h0)).mono ?_
    rintro e w' ⟨rfl, rfl⟩
    refine ⟨_, rfl, (Below.refl _ _).alloc (Nat.le_refl _) _, ?_⟩
    have eF : trT t = ⟨(Lib.join (Lib.fields t.data.toList) [32]).toArray⟩ := rfl
    cases hf : Lib.fields t.data.toList with
    | nil =>
      rw [hf] at eF
      refine (Tryz.strings_Join_none _ _ _ _).mono ?_
      rintro e w'' ⟨rfl, rfl⟩
      exact ⟨by rw [eF]; rfl, Below.refl _ _⟩
    | cons x r =>
      rw [← hf]
      have hmap : ((Lib.fields t.data.toList).map fun l => (⟨l.toArray⟩ : ByteArray)).map (·.data.toList) = Lib.fields t.data.toList := by
        rw [List.map_map]
        conv => rhs; rw [← List.map_id (Lib.fields t.data.toList)]
        apply List.map_congr_left
        intro l _
        simp
      have hlen : ((Lib.fields t.data.toList).map fun l => (⟨l.toArray⟩ : ByteArray)).length = (Lib.fields t.data.toList).length := by simp
      have hle := trim_len t.data.toList
      have e2 : t.size = t.data.toList.length := Array.length_toList.symm
      have hcnt : (Lib.fields t.data.toList).length ≤ 140737488355328 := by
        have hj : (Lib.join (Lib.fields t.data.toList) [32]).length ≤ t.data.toList.length := hle
        rw [hf, Lib.join_length] at hj
        rw [hf]
        simp at hj ⊢
        omega
      have J := Tryz.strings_Join wx.heap.size 0 (Lib.fields t.data.toList).length ((Lib.fields t.data.toList).map fun l => (⟨l.toArray⟩ : ByteArray)) ⟨#[32]⟩
        (wx.alloc (.cells ((Lib.fields t.data.toList).map fun l => Value.string ⟨l.toArray⟩).toArray 9)) (by
          intro j y hy
          simp only [List.getElem?_map, Option.map_eq_some_iff] at hy
          obtain ⟨l, hl, rfl⟩ := hy
          unfold World.cell?
          rw [heap_alloc_new]
          simp [hl]) (by simp) (by rw [hlen]; exact hcnt) (by rw [hlen]; exact Nat.le_refl _) (by
          rw [hmap]
          have hj : (Lib.join (Lib.fields t.data.toList) [32]).length ≤ t.data.toList.length := hle
          have : (Lib.join (Lib.fields t.data.toList) (ByteArray.mk #[32]).data.toList).length = (Lib.join (Lib.fields t.data.toList) [32]).length := rfl
          omega)
      rw [hlen, hmap] at J
      refine J.mono ?_
      rintro e w'' ⟨rfl, hb2⟩
      exact ⟨rfl, hb2⟩
  clear hp hs htab hT
  go_enter Tryz.func35, Tryz.ntmps35
  go_wp2_with fail
  refine (HF.out _ ?_).mono ?_
  · focus
      repeat with_reducible first | exact Below.refl _ _ | refine below_drewN ?_ _ | refine Below.drew ?_ | refine Below.setCell ?_ ?_ _ | refine Below.alloc ?_ ?_ _ | refine below_then ?_ ?_ (by with_reducible assumption)
      all_goals first | omega | (simp only [sA, sC, sD, sE]; omega) | (simp; done) | (simp; omega)
  rintro e w1 ⟨sl, rfl, hb, HJ⟩
  obtain ⟨s9, c9_0, c9_1, c9_2, c9_3, c9_4, c9_5, f9⟩ := L6 hb (w.heap.size + 1) (by first | omega | (simp only [sA, sC, sD, sE]; omega) | (simp; done) | (simp; omega)) (by go_simp; exact ⟨rfl, rfl, rfl, rfl, rfl, rfl⟩) (by intro o; go_simp)
  go_wp2_with fail
  refine HJ.out.mono ?_
  rintro e w2 ⟨rfl, hb⟩
  obtain ⟨s10, c10_0, c10_1, c10_2, c10_3, c10_4, c10_5, f10⟩ := L6 hb (w.heap.size + 1) (by first | omega | (simp only [sA, sC, sD, sE]; omega) | (simp; done) | (simp; omega)) (by go_simp; exact ⟨rfl, rfl, rfl, rfl, rfl, rfl⟩) (by intro o; go_simp)
  clear c9_0 c9_1 c9_2 c9_3 c9_4 c9_5 f9
  go_wp2_with fail
  refine (HV.out _).mono ?_
  rintro e w3 ⟨rfl, hb⟩
  obtain ⟨s11, c11_0, c11_1, c11_2, c11_3, c11_4, c11_5, f11⟩ := L6 hb (w.heap.size + 1) (by first | omega | (simp only [sA, sC, sD, sE]; omega) | (simp; done) | (simp; omega)) (by go_simp; exact ⟨rfl, rfl, rfl, rfl, rfl, rfl⟩) (by intro o; go_simp)
  clear c10_0 c10_1 c10_2 c10_3 c10_4 c10_5 f10
  go_wp2
  refine bodyPost_ret (v := .agg #[.int .i64 (textF (trT t)).k, .int .i64 (textF (trT t)).n, .int .i64 (textF (trT t)).d, .string (textF (trT t)).t, .bool (textF (trT t)).b, .int .i64 (textF (trT t)).f]) (by simp [results, Tryz.results35, go_sem, c11_0, c11_1, c11_2, c11_3, c11_4, c11_5]) rfl ⟨rfl, ?_⟩
  focus
    repeat with_reducible first | exact Below.refl _ _ | refine below_drewN ?_ _ | refine Below.drew ?_ | refine Below.setCell ?_ ?_ _ | refine Below.alloc ?_ ?_ _ | refine below_then ?_ ?_ (by with_reducible assumption)
    all_goals first | omega | (simp only [sA, sC, sD, sE]; omega) | (simp; done) | (simp; omega)

end Go.Proofs.YtglngfaagjgpjaaGreatDoor
