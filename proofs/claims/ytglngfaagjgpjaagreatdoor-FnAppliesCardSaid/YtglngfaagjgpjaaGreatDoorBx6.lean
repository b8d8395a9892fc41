/- The reference's AsTruth. The reference's AsTruth: the word for true. -/
import Derived.Test.YtglngfaagjgpjaaGreatDoorBx5
import Derived.Test.YtglngfaagjgpjaaGreatDoorVX
namespace Go.Proofs.YtglngfaagjgpjaaGreatDoor
open Go Go.RowKit
set_option linter.unusedSimpArgs false
set_option linter.unusedVariables false
set_option maxRecDepth 100000 in
set_option maxHeartbeats 1000000 in
theorem rtu_num (k n d : Int) (t : ByteArray) (b : Bool) (f : Int) (w : World) (v : Vl) (HT : Hid (∀ wx, Calls Tryz.prog 41 #[.agg #[.int .i64 k, .int .i64 n, .int .i64 d, .string t, .bool b, .int .i64 f]] wx fun e w' => e = .returned (.agg #[.int .i64 (v).k, .int .i64 (v).n, .int .i64 (v).d, .string (v).t, .bool (v).b, .int .i64 (v).f]) ∧ Below wx.heap.size wx w')) (hk : v.k = 1) :
    Calls Tryz.prog 44 #[.agg #[.int .i64 k, .int .i64 n, .int .i64 d, .string t, .bool b, .int .i64 f]] w fun e w' => e = .returned (.tuple #[.bool (asTruT v).b, .agg #[.int .i64 ((asTruT v).e).k, .int .i64 ((asTruT v).e).n, .int .i64 ((asTruT v).e).d, .string ((asTruT v).e).t, .bool ((asTruT v).e).b, .int .i64 ((asTruT v).e).f]]) ∧ Below w.heap.size w w' := by
  have HF : Hid (asTruT v = ⟨v.n != 0, blankV⟩) := by unfold Hid asTruT; rw [if_neg (by omega), if_pos hk]
  have k1 : (v.k == 1) = true := by simp [hk]
  have k2 : (v.k == 2) = false := by simp [hk]
  have k3 : (v.k == 3) = false := by simp [hk]
  have k4 : (v.k == 4) = false := by simp [hk]
  clear hk
  generalize asTruT v = R at *
  go_enter Tryz.func44, Tryz.ntmps44
  go_wp2_with fail
  refine (HT.out _).mono ?_
  rintro e w1 ⟨rfl, hb⟩
  obtain ⟨s1, c1_0, c1_1, c1_2, c1_3, c1_4, c1_5, f1⟩ := L6 hb (w.heap.size) (by first | omega | (simp only [sA, sC, sD, sE]; omega) | (simp; done) | (simp; omega)) (by go_simp; exact ⟨rfl, rfl, rfl, rfl, rfl, rfl⟩) (by intro o; go_simp)
  obtain ⟨s2, c2_0, c2_1, c2_2, c2_3, c2_4, c2_5, f2⟩ := L6 hb (w.heap.size + 1) (by first | omega | (simp only [sA, sC, sD, sE]; omega) | (simp; done) | (simp; omega)) (by go_simp; exact ⟨rfl, rfl, rfl, rfl, rfl, rfl⟩) (by intro o; go_simp)
  go_upto_region 2 with (fail)
  first | with_reducible refine wp_rebase ?_ | with_reducible refine wpList_rebase ?_
  intro w1 hb'
  have hb := hb'.out
  clear hb'
  obtain ⟨s3, c3_0, c3_1, c3_2, c3_3, c3_4, c3_5, f3⟩ := L6 hb (w.heap.size) (by first | omega | (simp only [sA, sC, sD, sE]; omega) | (simp; done) | (simp; omega)) (by go_simp; exact ⟨rfl, rfl, rfl, rfl, rfl, rfl⟩) (by intro o; go_simp)
  obtain ⟨s4, c4_0, c4_1, c4_2, c4_3, c4_4, c4_5, f4⟩ := L6 hb (w.heap.size + 1) (by first | omega | (simp only [sA, sC, sD, sE]; omega) | (simp; done) | (simp; omega)) (by go_simp; exact ⟨rfl, rfl, rfl, rfl, rfl, rfl⟩) (by intro o; go_simp)
  clear c1_0 c1_1 c1_2 c1_3 c1_4 c1_5 f1 c2_0 c2_1 c2_2 c2_3 c2_4 c2_5 f2
  go_wp2
  refine bodyPost_ret (v := .tuple #[.bool R.b, .agg #[.int .i64 (R.e).k, .int .i64 (R.e).n, .int .i64 (R.e).d, .string (R.e).t, .bool (R.e).b, .int .i64 (R.e).f]]) (by rw [HF.out]; simp [results, Tryz.results44, go_sem, c3_0, c3_1, c3_2, c3_3, c3_4, c3_5, c4_0, c4_1, c4_2, c4_3, c4_4, c4_5, blankV, noT]) rfl ⟨rfl, ?_⟩
  focus
    repeat with_reducible first | exact Below.refl _ _ | refine below_drewN ?_ _ | refine Below.drew ?_ | refine Below.setCell ?_ ?_ _ | refine Below.alloc ?_ ?_ _ | refine below_then ?_ ?_ (by with_reducible assumption)
    all_goals first | omega | (simp only [sA, sC, sD, sE]; omega) | (simp; done) | (simp; omega)

set_option maxRecDepth 100000 in
set_option maxHeartbeats 1000000 in
theorem rtu_truth (k n d : Int) (t : ByteArray) (b : Bool) (f : Int) (w : World) (v : Vl) (HT : Hid (∀ wx, Calls Tryz.prog 41 #[.agg #[.int .i64 k, .int .i64 n, .int .i64 d, .string t, .bool b, .int .i64 f]] wx fun e w' => e = .returned (.agg #[.int .i64 (v).k, .int .i64 (v).n, .int .i64 (v).d, .string (v).t, .bool (v).b, .int .i64 (v).f]) ∧ Below wx.heap.size wx w')) (hk : v.k = 3) :
    Calls Tryz.prog 44 #[.agg #[.int .i64 k, .int .i64 n, .int .i64 d, .string t, .bool b, .int .i64 f]] w fun e w' => e = .returned (.tuple #[.bool (asTruT v).b, .agg #[.int .i64 ((asTruT v).e).k, .int .i64 ((asTruT v).e).n, .int .i64 ((asTruT v).e).d, .string ((asTruT v).e).t, .bool ((asTruT v).e).b, .int .i64 ((asTruT v).e).f]]) ∧ Below w.heap.size w w' := by
  have HF : Hid (asTruT v = ⟨v.b, blankV⟩) := by unfold Hid asTruT; rw [if_neg (by omega), if_neg (by omega), if_neg (by omega)]
  have k1 : (v.k == 1) = false := by simp [hk]
  have k2 : (v.k == 2) = false := by simp [hk]
  have k3 : (v.k == 3) = true := by simp [hk]
  have k4 : (v.k == 4) = false := by simp [hk]
  clear hk
  generalize asTruT v = R at *
  go_enter Tryz.func44, Tryz.ntmps44
  go_wp2_with fail
  refine (HT.out _).mono ?_
  rintro e w1 ⟨rfl, hb⟩
  obtain ⟨s5, c5_0, c5_1, c5_2, c5_3, c5_4, c5_5, f5⟩ := L6 hb (w.heap.size) (by first | omega | (simp only [sA, sC, sD, sE]; omega) | (simp; done) | (simp; omega)) (by go_simp; exact ⟨rfl, rfl, rfl, rfl, rfl, rfl⟩) (by intro o; go_simp)
  obtain ⟨s6, c6_0, c6_1, c6_2, c6_3, c6_4, c6_5, f6⟩ := L6 hb (w.heap.size + 1) (by first | omega | (simp only [sA, sC, sD, sE]; omega) | (simp; done) | (simp; omega)) (by go_simp; exact ⟨rfl, rfl, rfl, rfl, rfl, rfl⟩) (by intro o; go_simp)
  go_upto_region 2 with (fail)
  first | with_reducible refine wp_rebase ?_ | with_reducible refine wpList_rebase ?_
  intro w1 hb'
  have hb := hb'.out
  clear hb'
  obtain ⟨s7, c7_0, c7_1, c7_2, c7_3, c7_4, c7_5, f7⟩ := L6 hb (w.heap.size) (by first | omega | (simp only [sA, sC, sD, sE]; omega) | (simp; done) | (simp; omega)) (by go_simp; exact ⟨rfl, rfl, rfl, rfl, rfl, rfl⟩) (by intro o; go_simp)
  obtain ⟨s8, c8_0, c8_1, c8_2, c8_3, c8_4, c8_5, f8⟩ := L6 hb (w.heap.size + 1) (by first | omega | (simp only [sA, sC, sD, sE]; omega) | (simp; done) | (simp; omega)) (by go_simp; exact ⟨rfl, rfl, rfl, rfl, rfl, rfl⟩) (by intro o; go_simp)
  clear c5_0 c5_1 c5_2 c5_3 c5_4 c5_5 f5 c6_0 c6_1 c6_2 c6_3 c6_4 c6_5 f6
  go_wp2
  refine bodyPost_ret (v := .tuple #[.bool R.b, .agg #[.int .i64 (R.e).k, .int .i64 (R.e).n, .int .i64 (R.e).d, .string (R.e).t, .bool (R.e).b, .int .i64 (R.e).f]]) (by rw [HF.out]; simp [results, Tryz.results44, go_sem, c7_0, c7_1, c7_2, c7_3, c7_4, c7_5, c8_0, c8_1, c8_2, c8_3, c8_4, c8_5, blankV, noT]) rfl ⟨rfl, ?_⟩
  focus
    repeat with_reducible first | exact Below.refl _ _ | refine below_drewN ?_ _ | refine Below.drew ?_ | refine Below.setCell ?_ ?_ _ | refine Below.alloc ?_ ?_ _ | refine below_then ?_ ?_ (by with_reducible assumption)
    all_goals first | omega | (simp only [sA, sC, sD, sE]; omega) | (simp; done) | (simp; omega)

set_option maxRecDepth 100000 in
set_option maxHeartbeats 1000000 in
theorem rtu_blank (k n d : Int) (t : ByteArray) (b : Bool) (f : Int) (w : World) (v : Vl) (HT : Hid (∀ wx, Calls Tryz.prog 41 #[.agg #[.int .i64 k, .int .i64 n, .int .i64 d, .string t, .bool b, .int .i64 f]] wx fun e w' => e = .returned (.agg #[.int .i64 (v).k, .int .i64 (v).n, .int .i64 (v).d, .string (v).t, .bool (v).b, .int .i64 (v).f]) ∧ Below wx.heap.size wx w')) (hk : v.k = 0) (hb0 : v.b = false) :
    Calls Tryz.prog 44 #[.agg #[.int .i64 k, .int .i64 n, .int .i64 d, .string t, .bool b, .int .i64 f]] w fun e w' => e = .returned (.tuple #[.bool (asTruT v).b, .agg #[.int .i64 ((asTruT v).e).k, .int .i64 ((asTruT v).e).n, .int .i64 ((asTruT v).e).d, .string ((asTruT v).e).t, .bool ((asTruT v).e).b, .int .i64 ((asTruT v).e).f]]) ∧ Below w.heap.size w w' := by
  have HF : Hid (asTruT v = ⟨false, blankV⟩) := by unfold Hid asTruT; rw [if_neg (by omega), if_neg (by omega), if_neg (by omega), hb0]
  clear hb0
  have k1 : (v.k == 1) = false := by simp [hk]
  have k2 : (v.k == 2) = false := by simp [hk]
  have k3 : (v.k == 3) = false := by simp [hk]
  have k4 : (v.k == 4) = false := by simp [hk]
  clear hk
  generalize asTruT v = R at *
  go_enter Tryz.func44, Tryz.ntmps44
  go_wp2_with fail
  refine (HT.out _).mono ?_
  rintro e w1 ⟨rfl, hb⟩
  obtain ⟨s9, c9_0, c9_1, c9_2, c9_3, c9_4, c9_5, f9⟩ := L6 hb (w.heap.size) (by first | omega | (simp only [sA, sC, sD, sE]; omega) | (simp; done) | (simp; omega)) (by go_simp; exact ⟨rfl, rfl, rfl, rfl, rfl, rfl⟩) (by intro o; go_simp)
  obtain ⟨s10, c10_0, c10_1, c10_2, c10_3, c10_4, c10_5, f10⟩ := L6 hb (w.heap.size + 1) (by first | omega | (simp only [sA, sC, sD, sE]; omega) | (simp; done) | (simp; omega)) (by go_simp; exact ⟨rfl, rfl, rfl, rfl, rfl, rfl⟩) (by intro o; go_simp)
  go_upto_region 2 with (fail)
  first | with_reducible refine wp_rebase ?_ | with_reducible refine wpList_rebase ?_
  intro w1 hb'
  have hb := hb'.out
  clear hb'
  obtain ⟨s11, c11_0, c11_1, c11_2, c11_3, c11_4, c11_5, f11⟩ := L6 hb (w.heap.size) (by first | omega | (simp only [sA, sC, sD, sE]; omega) | (simp; done) | (simp; omega)) (by go_simp; exact ⟨rfl, rfl, rfl, rfl, rfl, rfl⟩) (by intro o; go_simp)
  obtain ⟨s12, c12_0, c12_1, c12_2, c12_3, c12_4, c12_5, f12⟩ := L6 hb (w.heap.size + 1) (by first | omega | (simp only [sA, sC, sD, sE]; omega) | (simp; done) | (simp; omega)) (by go_simp; exact ⟨rfl, rfl, rfl, rfl, rfl, rfl⟩) (by intro o; go_simp)
  clear c9_0 c9_1 c9_2 c9_3 c9_4 c9_5 f9 c10_0 c10_1 c10_2 c10_3 c10_4 c10_5 f10
  go_wp2
  refine bodyPost_ret (v := .tuple #[.bool R.b, .agg #[.int .i64 (R.e).k, .int .i64 (R.e).n, .int .i64 (R.e).d, .string (R.e).t, .bool (R.e).b, .int .i64 (R.e).f]]) (by rw [HF.out]; simp [results, Tryz.results44, go_sem, c11_0, c11_1, c11_2, c11_3, c11_4, c11_5, c12_0, c12_1, c12_2, c12_3, c12_4, c12_5, blankV, noT]) rfl ⟨rfl, ?_⟩
  focus
    repeat with_reducible first | exact Below.refl _ _ | refine below_drewN ?_ _ | refine Below.drew ?_ | refine Below.setCell ?_ ?_ _ | refine Below.alloc ?_ ?_ _ | refine below_then ?_ ?_ (by with_reducible assumption)
    all_goals first | omega | (simp only [sA, sC, sD, sE]; omega) | (simp; done) | (simp; omega)

set_option maxRecDepth 100000 in
set_option maxHeartbeats 1000000 in
theorem rtu_fault (k n d : Int) (t : ByteArray) (b : Bool) (f : Int) (w : World) (v : Vl) (HT : Hid (∀ wx, Calls Tryz.prog 41 #[.agg #[.int .i64 k, .int .i64 n, .int .i64 d, .string t, .bool b, .int .i64 f]] wx fun e w' => e = .returned (.agg #[.int .i64 (v).k, .int .i64 (v).n, .int .i64 (v).d, .string (v).t, .bool (v).b, .int .i64 (v).f]) ∧ Below wx.heap.size wx w')) (hk : v.k = 4) :
    Calls Tryz.prog 44 #[.agg #[.int .i64 k, .int .i64 n, .int .i64 d, .string t, .bool b, .int .i64 f]] w fun e w' => e = .returned (.tuple #[.bool (asTruT v).b, .agg #[.int .i64 ((asTruT v).e).k, .int .i64 ((asTruT v).e).n, .int .i64 ((asTruT v).e).d, .string ((asTruT v).e).t, .bool ((asTruT v).e).b, .int .i64 ((asTruT v).e).f]]) ∧ Below w.heap.size w w' := by
  have HF : Hid (asTruT v = ⟨false, v⟩) := by unfold Hid asTruT; rw [if_pos hk]
  have k1 : (v.k == 1) = false := by simp [hk]
  have k2 : (v.k == 2) = false := by simp [hk]
  have k3 : (v.k == 3) = false := by simp [hk]
  have k4 : (v.k == 4) = true := by simp [hk]
  clear hk
  generalize asTruT v = R at *
  go_enter Tryz.func44, Tryz.ntmps44
  go_wp2_with fail
  refine (HT.out _).mono ?_
  rintro e w1 ⟨rfl, hb⟩
  obtain ⟨s13, c13_0, c13_1, c13_2, c13_3, c13_4, c13_5, f13⟩ := L6 hb (w.heap.size) (by first | omega | (simp only [sA, sC, sD, sE]; omega) | (simp; done) | (simp; omega)) (by go_simp; exact ⟨rfl, rfl, rfl, rfl, rfl, rfl⟩) (by intro o; go_simp)
  obtain ⟨s14, c14_0, c14_1, c14_2, c14_3, c14_4, c14_5, f14⟩ := L6 hb (w.heap.size + 1) (by first | omega | (simp only [sA, sC, sD, sE]; omega) | (simp; done) | (simp; omega)) (by go_simp; exact ⟨rfl, rfl, rfl, rfl, rfl, rfl⟩) (by intro o; go_simp)
  go_upto_region 2 with (fail)
  first | with_reducible refine wp_rebase ?_ | with_reducible refine wpList_rebase ?_
  intro w1 hb'
  have hb := hb'.out
  clear hb'
  obtain ⟨s15, c15_0, c15_1, c15_2, c15_3, c15_4, c15_5, f15⟩ := L6 hb (w.heap.size) (by first | omega | (simp only [sA, sC, sD, sE]; omega) | (simp; done) | (simp; omega)) (by go_simp; exact ⟨rfl, rfl, rfl, rfl, rfl, rfl⟩) (by intro o; go_simp)
  obtain ⟨s16, c16_0, c16_1, c16_2, c16_3, c16_4, c16_5, f16⟩ := L6 hb (w.heap.size + 1) (by first | omega | (simp only [sA, sC, sD, sE]; omega) | (simp; done) | (simp; omega)) (by go_simp; exact ⟨rfl, rfl, rfl, rfl, rfl, rfl⟩) (by intro o; go_simp)
  clear c13_0 c13_1 c13_2 c13_3 c13_4 c13_5 f13 c14_0 c14_1 c14_2 c14_3 c14_4 c14_5 f14
  go_upto_region 12 with (fail)
  go_region
  go_wp2
  refine bodyPost_ret (v := .tuple #[.bool R.b, .agg #[.int .i64 (R.e).k, .int .i64 (R.e).n, .int .i64 (R.e).d, .string (R.e).t, .bool (R.e).b, .int .i64 (R.e).f]]) (by rw [HF.out]; simp [results, Tryz.results44, go_sem, c15_0, c15_1, c15_2, c15_3, c15_4, c15_5, c16_0, c16_1, c16_2, c16_3, c16_4, c16_5]) rfl ⟨rfl, ?_⟩
  focus
    repeat with_reducible first | exact Below.refl _ _ | refine below_drewN ?_ _ | refine Below.drew ?_ | refine Below.setCell ?_ ?_ _ | refine Below.alloc ?_ ?_ _ | refine below_then ?_ ?_ (by with_reducible assumption)
    all_goals first | omega | (simp only [sA, sC, sD, sE]; omega) | (simp; done) | (simp; omega)

end Go.Proofs.YtglngfaagjgpjaaGreatDoor
namespace Go.Proofs.YtglngfaagjgpjaaGreatDoor
open Go Go.RowKit
set_option linter.unusedSimpArgs false
set_option linter.unusedVariables false
set_option maxRecDepth 100000 in
set_option maxHeartbeats 600000 in
theorem rtu_yes (k n d : Int) (t : ByteArray) (b : Bool) (f : Int) (w : World) (v : Vl) (HT : Hid (∀ wx, Calls Tryz.prog 41 #[.agg #[.int .i64 k, .int .i64 n, .int .i64 d, .string t, .bool b, .int .i64 f]] wx fun e w' => e = .returned (.agg #[.int .i64 (v).k, .int .i64 (v).n, .int .i64 (v).d, .string (v).t, .bool (v).b, .int .i64 (v).f]) ∧ Below wx.heap.size wx w')) (hk : v.k = 2) (ha : v.t = wordT true) :
    Calls Tryz.prog 44 #[.agg #[.int .i64 k, .int .i64 n, .int .i64 d, .string t, .bool b, .int .i64 f]] w fun e w' => e = .returned (.tuple #[.bool (asTruT v).b, .agg #[.int .i64 ((asTruT v).e).k, .int .i64 ((asTruT v).e).n, .int .i64 ((asTruT v).e).d, .string ((asTruT v).e).t, .bool ((asTruT v).e).b, .int .i64 ((asTruT v).e).f]]) ∧ Below w.heap.size w w' := by
  have HF : Hid (asTruT v = ⟨true, blankV⟩) := by unfold Hid asTruT; rw [if_neg (by omega), if_neg (by omega), if_pos hk, if_pos ha]
  have e1 : (v.t.toList == ([84, 82, 85, 69] : List UInt8)) = true := by rw [ha, ByteArray.toList_eq]; rfl
  have e2 : v.t.toList = ([84, 82, 85, 69] : List UInt8) := by simpa using e1
  clear ha
  have k1 : (v.k == 1) = false := by simp [hk]
  have k2 : (v.k == 2) = true := by simp [hk]
  have k3 : (v.k == 3) = false := by simp [hk]
  have k4 : (v.k == 4) = false := by simp [hk]
  clear hk
  generalize asTruT v = R at *
  go_enter Tryz.func44, Tryz.ntmps44
  go_wp2_with fail
  refine (HT.out _).mono ?_
  rintro e w1 ⟨rfl, hb⟩
  obtain ⟨s1, c1_0, c1_1, c1_2, c1_3, c1_4, c1_5, f1⟩ := L6 hb (w.heap.size) (by first | omega | (simp only [sA, sC, sD, sE]; omega) | (simp; done) | (simp; omega)) (by go_simp; exact ⟨rfl, rfl, rfl, rfl, rfl, rfl⟩) (by intro o; go_simp)
  obtain ⟨s2, c2_0, c2_1, c2_2, c2_3, c2_4, c2_5, f2⟩ := L6 hb (w.heap.size + 1) (by first | omega | (simp only [sA, sC, sD, sE]; omega) | (simp; done) | (simp; omega)) (by go_simp; exact ⟨rfl, rfl, rfl, rfl, rfl, rfl⟩) (by intro o; go_simp)
  go_upto_region 2 with (fail)
  first | with_reducible refine wp_rebase ?_ | with_reducible refine wpList_rebase ?_
  intro w1 hb'
  have hb := hb'.out
  clear hb'
  obtain ⟨s3, c3_0, c3_1, c3_2, c3_3, c3_4, c3_5, f3⟩ := L6 hb (w.heap.size) (by first | omega | (simp only [sA, sC, sD, sE]; omega) | (simp; done) | (simp; omega)) (by go_simp; exact ⟨rfl, rfl, rfl, rfl, rfl, rfl⟩) (by intro o; go_simp)
  obtain ⟨s4, c4_0, c4_1, c4_2, c4_3, c4_4, c4_5, f4⟩ := L6 hb (w.heap.size + 1) (by first | omega | (simp only [sA, sC, sD, sE]; omega) | (simp; done) | (simp; omega)) (by go_simp; exact ⟨rfl, rfl, rfl, rfl, rfl, rfl⟩) (by intro o; go_simp)
  clear c1_0 c1_1 c1_2 c1_3 c1_4 c1_5 f1 c2_0 c2_1 c2_2 c2_3 c2_4 c2_5 f2
  go_wp2
  refine bodyPost_ret (v := .tuple #[.bool R.b, .agg #[.int .i64 (R.e).k, .int .i64 (R.e).n, .int .i64 (R.e).d, .string (R.e).t, .bool (R.e).b, .int .i64 (R.e).f]]) (by rw [HF.out]; simp [results, Tryz.results44, go_sem, c3_0, c3_1, c3_2, c3_3, c3_4, c3_5, c4_0, c4_1, c4_2, c4_3, c4_4, c4_5, blankV, noT]) rfl ⟨rfl, ?_⟩
  focus
    repeat with_reducible first | exact Below.refl _ _ | refine below_drewN ?_ _ | refine Below.drew ?_ | refine Below.setCell ?_ ?_ _ | refine Below.alloc ?_ ?_ _ | refine below_then ?_ ?_ (by with_reducible assumption)
    all_goals first | omega | (simp only [sA, sC, sD, sE]; omega) | (simp; done) | (simp; omega)

set_option maxRecDepth 100000 in
set_option maxHeartbeats 600000 in
theorem rtu_no (k n d : Int) (t : ByteArray) (b : Bool) (f : Int) (w : World) (v : Vl) (HT : Hid (∀ wx, Calls Tryz.prog 41 #[.agg #[.int .i64 k, .int .i64 n, .int .i64 d, .string t, .bool b, .int .i64 f]] wx fun e w' => e = .returned (.agg #[.int .i64 (v).k, .int .i64 (v).n, .int .i64 (v).d, .string (v).t, .bool (v).b, .int .i64 (v).f]) ∧ Below wx.heap.size wx w')) (hk : v.k = 2) (ha : v.t = wordT false) :
    Calls Tryz.prog 44 #[.agg #[.int .i64 k, .int .i64 n, .int .i64 d, .string t, .bool b, .int .i64 f]] w fun e w' => e = .returned (.tuple #[.bool (asTruT v).b, .agg #[.int .i64 ((asTruT v).e).k, .int .i64 ((asTruT v).e).n, .int .i64 ((asTruT v).e).d, .string ((asTruT v).e).t, .bool ((asTruT v).e).b, .int .i64 ((asTruT v).e).f]]) ∧ Below w.heap.size w w' := by
  have hne : ¬ v.t = wordT true := by rw [ha]; intro h; have := congrArg ByteArray.size h; revert this; decide
  have HF : Hid (asTruT v = ⟨false, blankV⟩) := by unfold Hid asTruT; rw [if_neg (by omega), if_neg (by omega), if_pos hk, if_neg hne, if_pos ha]
  have e1 : (v.t.toList == ([70, 65, 76, 83, 69] : List UInt8)) = true := by rw [ha, ByteArray.toList_eq]; rfl
  have e2 : v.t.toList = ([70, 65, 76, 83, 69] : List UInt8) := by simpa using e1
  clear ha hne
  have k1 : (v.k == 1) = false := by simp [hk]
  have k2 : (v.k == 2) = true := by simp [hk]
  have k3 : (v.k == 3) = false := by simp [hk]
  have k4 : (v.k == 4) = false := by simp [hk]
  clear hk
  generalize asTruT v = R at *
  go_enter Tryz.func44, Tryz.ntmps44
  go_wp2_with fail
  refine (HT.out _).mono ?_
  rintro e w1 ⟨rfl, hb⟩
  obtain ⟨s5, c5_0, c5_1, c5_2, c5_3, c5_4, c5_5, f5⟩ := L6 hb (w.heap.size) (by first | omega | (simp only [sA, sC, sD, sE]; omega) | (simp; done) | (simp; omega)) (by go_simp; exact ⟨rfl, rfl, rfl, rfl, rfl, rfl⟩) (by intro o; go_simp)
  obtain ⟨s6, c6_0, c6_1, c6_2, c6_3, c6_4, c6_5, f6⟩ := L6 hb (w.heap.size + 1) (by first | omega | (simp only [sA, sC, sD, sE]; omega) | (simp; done) | (simp; omega)) (by go_simp; exact ⟨rfl, rfl, rfl, rfl, rfl, rfl⟩) (by intro o; go_simp)
  go_upto_region 2 with (fail)
  first | with_reducible refine wp_rebase ?_ | with_reducible refine wpList_rebase ?_
  intro w1 hb'
  have hb := hb'.out
  clear hb'
  obtain ⟨s7, c7_0, c7_1, c7_2, c7_3, c7_4, c7_5, f7⟩ := L6 hb (w.heap.size) (by first | omega | (simp only [sA, sC, sD, sE]; omega) | (simp; done) | (simp; omega)) (by go_simp; exact ⟨rfl, rfl, rfl, rfl, rfl, rfl⟩) (by intro o; go_simp)
  obtain ⟨s8, c8_0, c8_1, c8_2, c8_3, c8_4, c8_5, f8⟩ := L6 hb (w.heap.size + 1) (by first | omega | (simp only [sA, sC, sD, sE]; omega) | (simp; done) | (simp; omega)) (by go_simp; exact ⟨rfl, rfl, rfl, rfl, rfl, rfl⟩) (by intro o; go_simp)
  clear c5_0 c5_1 c5_2 c5_3 c5_4 c5_5 f5 c6_0 c6_1 c6_2 c6_3 c6_4 c6_5 f6
  go_wp2
  refine bodyPost_ret (v := .tuple #[.bool R.b, .agg #[.int .i64 (R.e).k, .int .i64 (R.e).n, .int .i64 (R.e).d, .string (R.e).t, .bool (R.e).b, .int .i64 (R.e).f]]) (by rw [HF.out]; simp [results, Tryz.results44, go_sem, c7_0, c7_1, c7_2, c7_3, c7_4, c7_5, c8_0, c8_1, c8_2, c8_3, c8_4, c8_5, blankV, noT]) rfl ⟨rfl, ?_⟩
  focus
    repeat with_reducible first | exact Below.refl _ _ | refine below_drewN ?_ _ | refine Below.drew ?_ | refine Below.setCell ?_ ?_ _ | refine Below.alloc ?_ ?_ _ | refine below_then ?_ ?_ (by with_reducible assumption)
    all_goals first | omega | (simp only [sA, sC, sD, sE]; omega) | (simp; done) | (simp; omega)

set_option maxRecDepth 100000 in
set_option maxHeartbeats 600000 in
theorem rtu_odd (k n d : Int) (t : ByteArray) (b : Bool) (f : Int) (w : World) (v : Vl) (HT : Hid (∀ wx, Calls Tryz.prog 41 #[.agg #[.int .i64 k, .int .i64 n, .int .i64 d, .string t, .bool b, .int .i64 f]] wx fun e w' => e = .returned (.agg #[.int .i64 (v).k, .int .i64 (v).n, .int .i64 (v).d, .string (v).t, .bool (v).b, .int .i64 (v).f]) ∧ Below wx.heap.size wx w')) (hk : v.k = 2) (ha : ¬ v.t = wordT true) (hb0 : ¬ v.t = wordT false) :
    Calls Tryz.prog 44 #[.agg #[.int .i64 k, .int .i64 n, .int .i64 d, .string t, .bool b, .int .i64 f]] w fun e w' => e = .returned (.tuple #[.bool (asTruT v).b, .agg #[.int .i64 ((asTruT v).e).k, .int .i64 ((asTruT v).e).n, .int .i64 ((asTruT v).e).d, .string ((asTruT v).e).t, .bool ((asTruT v).e).b, .int .i64 ((asTruT v).e).f]]) ∧ Below w.heap.size w w' := by
  have HF : Hid (asTruT v = ⟨false, faultF 2⟩) := by unfold Hid asTruT; rw [if_neg (by omega), if_neg (by omega), if_pos hk, if_neg ha, if_neg hb0]; rfl
  have w1t : (wordT true).toList = ([84, 82, 85, 69] : List UInt8) := by rw [ByteArray.toList_eq]; rfl
  have w0t : (wordT false).toList = ([70, 65, 76, 83, 69] : List UInt8) := by rw [ByteArray.toList_eq]; rfl
  have e1 := tl_no ha
  have e2 := tl_no hb0
  rw [w1t] at e1
  rw [w0t] at e2
  have e3 : ¬ v.t.toList = ([84, 82, 85, 69] : List UInt8) := by simpa using e1
  have e4 : ¬ v.t.toList = ([70, 65, 76, 83, 69] : List UInt8) := by simpa using e2
  have VF := Lib.hid fun wx => r2_Fault 2 wx
  generalize faultF 2 = F at *
  clear ha hb0 w1t w0t
  have k1 : (v.k == 1) = false := by simp [hk]
  have k2 : (v.k == 2) = true := by simp [hk]
  have k3 : (v.k == 3) = false := by simp [hk]
  have k4 : (v.k == 4) = false := by simp [hk]
  clear hk
  generalize asTruT v = R at *
  go_enter Tryz.func44, Tryz.ntmps44
  go_wp2_with fail
  refine (HT.out _).mono ?_
  rintro e w1 ⟨rfl, hb⟩
  obtain ⟨s9, c9_0, c9_1, c9_2, c9_3, c9_4, c9_5, f9⟩ := L6 hb (w.heap.size) (by first | omega | (simp only [sA, sC, sD, sE]; omega) | (simp; done) | (simp; omega)) (by go_simp; exact ⟨rfl, rfl, rfl, rfl, rfl, rfl⟩) (by intro o; go_simp)
  obtain ⟨s10, c10_0, c10_1, c10_2, c10_3, c10_4, c10_5, f10⟩ := L6 hb (w.heap.size + 1) (by first | omega | (simp only [sA, sC, sD, sE]; omega) | (simp; done) | (simp; omega)) (by go_simp; exact ⟨rfl, rfl, rfl, rfl, rfl, rfl⟩) (by intro o; go_simp)
  go_upto_region 2 with (fail)
  first | with_reducible refine wp_rebase ?_ | with_reducible refine wpList_rebase ?_
  intro w1 hb'
  have hb := hb'.out
  clear hb'
  obtain ⟨s11, c11_0, c11_1, c11_2, c11_3, c11_4, c11_5, f11⟩ := L6 hb (w.heap.size) (by first | omega | (simp only [sA, sC, sD, sE]; omega) | (simp; done) | (simp; omega)) (by go_simp; exact ⟨rfl, rfl, rfl, rfl, rfl, rfl⟩) (by intro o; go_simp)
  obtain ⟨s12, c12_0, c12_1, c12_2, c12_3, c12_4, c12_5, f12⟩ := L6 hb (w.heap.size + 1) (by first | omega | (simp only [sA, sC, sD, sE]; omega) | (simp; done) | (simp; omega)) (by go_simp; exact ⟨rfl, rfl, rfl, rfl, rfl, rfl⟩) (by intro o; go_simp)
  clear c9_0 c9_1 c9_2 c9_3 c9_4 c9_5 f9 c10_0 c10_1 c10_2 c10_3 c10_4 c10_5 f10
  go_wp2_with fail
  refine (VF.out _).mono ?_
  rintro e w2 ⟨rfl, hb2⟩
  obtain ⟨s13, c13_0, c13_1, c13_2, c13_3, c13_4, c13_5, f13⟩ := L6 hb2 (w.heap.size + 1) (by first | omega | (simp only [sA, sC, sD, sE]; omega) | (simp; done) | (simp; omega)) (by go_simp; exact ⟨rfl, rfl, rfl, rfl, rfl, rfl⟩) (by intro o; go_simp)
  clear c11_0 c11_1 c11_2 c11_3 c11_4 c11_5 f11 c12_0 c12_1 c12_2 c12_3 c12_4 c12_5 f12
  go_wp2
  refine bodyPost_ret (v := .tuple #[.bool R.b, .agg #[.int .i64 (R.e).k, .int .i64 (R.e).n, .int .i64 (R.e).d, .string (R.e).t, .bool (R.e).b, .int .i64 (R.e).f]]) (by rw [HF.out]; simp [results, Tryz.results44, go_sem, c13_0, c13_1, c13_2, c13_3, c13_4, c13_5]) rfl ⟨rfl, ?_⟩
  focus
    repeat with_reducible first | exact Below.refl _ _ | refine below_drewN ?_ _ | refine Below.drew ?_ | refine Below.setCell ?_ ?_ _ | refine Below.alloc ?_ ?_ _ | refine below_then ?_ ?_ (by with_reducible assumption)
    all_goals first | omega | (simp only [sA, sC, sD, sE]; omega) | (simp; done) | (simp; omega)

theorem r2_AsTruth (k n d : Int) (t : ByteArray) (b : Bool) (f : Int) (w : World) (hx : Vl.In ⟨k, n, d, t, b, f⟩) :
    Calls Tryz.prog 44 #[.agg #[.int .i64 k, .int .i64 n, .int .i64 d, .string t, .bool b, .int .i64 f]] w fun e w' => e = .returned (.tuple #[.bool (asTru ⟨k, n, d, t, b, f⟩).b, .agg #[.int .i64 ((asTru ⟨k, n, d, t, b, f⟩).e).k, .int .i64 ((asTru ⟨k, n, d, t, b, f⟩).e).n, .int .i64 ((asTru ⟨k, n, d, t, b, f⟩).e).d, .string ((asTru ⟨k, n, d, t, b, f⟩).e).t, .bool ((asTru ⟨k, n, d, t, b, f⟩).e).b, .int .i64 ((asTru ⟨k, n, d, t, b, f⟩).e).f]]) ∧ Below w.heap.size w w' := by
  have hv := tkV_right ⟨k, n, d, t, b, f⟩
  have HT := Lib.hid fun wx => r2_Of k n d t b f wx hx
  show Calls _ _ _ _ fun e w' => e = .returned (.tuple #[.bool (asTruT (tkV ⟨k, n, d, t, b, f⟩)).b, .agg #[.int .i64 ((asTruT (tkV ⟨k, n, d, t, b, f⟩)).e).k, .int .i64 ((asTruT (tkV ⟨k, n, d, t, b, f⟩)).e).n, .int .i64 ((asTruT (tkV ⟨k, n, d, t, b, f⟩)).e).d, .string ((asTruT (tkV ⟨k, n, d, t, b, f⟩)).e).t, .bool ((asTruT (tkV ⟨k, n, d, t, b, f⟩)).e).b, .int .i64 ((asTruT (tkV ⟨k, n, d, t, b, f⟩)).e).f]]) ∧ _
  generalize tkV ⟨k, n, d, t, b, f⟩ = v at *
  by_cases h1 : v.k = 1
  · exact rtu_num _ _ _ _ _ _ _ _ HT h1
  by_cases h4 : v.k = 4
  · exact rtu_fault _ _ _ _ _ _ _ _ HT h4
  by_cases h2 : v.k = 2
  · by_cases ha : v.t = wordT true
    · exact rtu_yes _ _ _ _ _ _ _ _ HT h2 ha
    · by_cases hb : v.t = wordT false
      · exact rtu_no _ _ _ _ _ _ _ _ HT h2 hb
      · exact rtu_odd _ _ _ _ _ _ _ _ HT h2 ha hb
  by_cases h3 : v.k = 3
  · exact rtu_truth _ _ _ _ _ _ _ _ HT h3
  unfold rightV at hv
  by_cases h0 : v.k = 0
  · rw [if_pos h0] at hv
    have e := veq_true.1 hv
    exact rtu_blank _ _ _ _ _ _ _ _ HT h0 (congrArg Vl.b e)
  · rw [if_neg h0, if_neg h1, if_neg h2, if_neg h3, if_neg h4] at hv
    cases hv
end Go.Proofs.YtglngfaagjgpjaaGreatDoor
