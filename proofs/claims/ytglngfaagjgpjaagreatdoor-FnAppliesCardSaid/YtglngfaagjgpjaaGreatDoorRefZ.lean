/- Walks of the reference's package for values: AsNumber and AsText of any value. -/
import Derived.Test.YtglngfaagjgpjaaGreatDoorBx6
import Derived.Test.YtglngfaagjgpjaaGreatDoorRefR
import Derived.Test.YtglngfaagjgpjaaGreatDoorBx4
namespace Go.Proofs.YtglngfaagjgpjaaGreatDoor
open Go Go.RowKit
set_option linter.unusedSimpArgs false
set_option linter.unusedVariables false
set_option maxRecDepth 100000 in
set_option maxHeartbeats 1000000 in
theorem rn_blank (k n d : Int) (t : ByteArray) (b : Bool) (f : Int) (w : World) (v : Vl) (HT : Hid (∀ wx, Calls Tryz.prog 41 #[.agg #[.int .i64 k, .int .i64 n, .int .i64 d, .string t, .bool b, .int .i64 f]] wx fun e w' => e = .returned (.agg #[.int .i64 (v).k, .int .i64 (v).n, .int .i64 (v).d, .string (v).t, .bool (v).b, .int .i64 (v).f]) ∧ Below wx.heap.size wx w')) (hk : v.k = 0) :
    Calls Tryz.prog 89 #[.agg #[.int .i64 k, .int .i64 n, .int .i64 d, .string t, .bool b, .int .i64 f]] w fun e w' => e = .returned (.tuple #[.agg #[.int .i64 (asNumT v).n, .int .i64 (asNumT v).d], .agg #[.int .i64 ((asNumT v).e).k, .int .i64 ((asNumT v).e).n, .int .i64 ((asNumT v).e).d, .string ((asNumT v).e).t, .bool ((asNumT v).e).b, .int .i64 ((asNumT v).e).f]]) ∧ Below w.heap.size w w' := by
  have HF : Hid (asNumT v = ⟨0, 1, blankV⟩) := by unfold Hid asNumT; rw [if_neg (by omega), if_neg (by omega), if_pos hk]
  have k1 : (v.k == 1) = false := by simp [hk]
  have k2 : (v.k == 2) = false := by simp [hk]
  have k3 : (v.k == 3) = false := by simp [hk]
  have k4 : (v.k == 4) = false := by simp [hk]
  clear hk
  generalize asNumT v = R at *
  go_enter Tryz.func89, Tryz.ntmps89
  go_wp2_with fail
  refine (HT.out _).mono ?_
  rintro e w1 ⟨rfl, hb⟩
  obtain ⟨s1, c1_0, c1_1, c1_2, c1_3, c1_4, c1_5, f1⟩ := L6 hb (w.heap.size) (by first | omega | (simp only [sA, sC, sD, sE]; omega) | (simp; done) | (simp; omega)) (by go_simp; exact ⟨rfl, rfl, rfl, rfl, rfl, rfl⟩) (by intro o; go_simp)
  obtain ⟨s2, c2_0, c2_1, f2⟩ := L2 hb (w.heap.size + 1) (by first | omega | (simp only [sA, sC, sD, sE]; omega) | (simp; done) | (simp; omega)) (by go_simp; exact ⟨rfl, rfl⟩) (by intro o; go_simp)
  obtain ⟨s3, c3_0, c3_1, c3_2, c3_3, c3_4, c3_5, f3⟩ := L6 hb (w.heap.size + 1 + 1) (by first | omega | (simp only [sA, sC, sD, sE]; omega) | (simp; done) | (simp; omega)) (by go_simp; exact ⟨rfl, rfl, rfl, rfl, rfl, rfl⟩) (by intro o; go_simp)
  go_upto_region 2 with (fail)
  first | with_reducible refine wp_rebase ?_ | with_reducible refine wpList_rebase ?_
  intro w1 hb'
  have hb := hb'.out
  clear hb'
  obtain ⟨s4, c4_0, c4_1, c4_2, c4_3, c4_4, c4_5, f4⟩ := L6 hb (w.heap.size) (by first | omega | (simp only [sA, sC, sD, sE]; omega) | (simp; done) | (simp; omega)) (by go_simp; exact ⟨rfl, rfl, rfl, rfl, rfl, rfl⟩) (by intro o; go_simp)
  obtain ⟨s5, c5_0, c5_1, f5⟩ := L2 hb (w.heap.size + 1) (by first | omega | (simp only [sA, sC, sD, sE]; omega) | (simp; done) | (simp; omega)) (by go_simp; exact ⟨rfl, rfl⟩) (by intro o; go_simp)
  obtain ⟨s6, c6_0, c6_1, c6_2, c6_3, c6_4, c6_5, f6⟩ := L6 hb (w.heap.size + 1 + 1) (by first | omega | (simp only [sA, sC, sD, sE]; omega) | (simp; done) | (simp; omega)) (by go_simp; exact ⟨rfl, rfl, rfl, rfl, rfl, rfl⟩) (by intro o; go_simp)
  clear c1_0 c1_1 c1_2 c1_3 c1_4 c1_5 f1 c2_0 c2_1 f2 c3_0 c3_1 c3_2 c3_3 c3_4 c3_5 f3
  go_wp2
  refine bodyPost_ret (v := .tuple #[.agg #[.int .i64 R.n, .int .i64 R.d], .agg #[.int .i64 (R.e).k, .int .i64 (R.e).n, .int .i64 (R.e).d, .string (R.e).t, .bool (R.e).b, .int .i64 (R.e).f]]) (by rw [HF.out]; simp [results, Tryz.results89, go_sem, c4_0, c4_1, c4_2, c4_3, c4_4, c4_5, c5_0, c5_1, c6_0, c6_1, c6_2, c6_3, c6_4, c6_5, blankV, noT]) rfl ⟨rfl, ?_⟩
  focus
    repeat with_reducible first | exact Below.refl _ _ | refine below_drewN ?_ _ | refine Below.drew ?_ | refine Below.setCell ?_ ?_ _ | refine Below.alloc ?_ ?_ _ | refine below_then ?_ ?_ (by with_reducible assumption)
    all_goals first | omega | (simp only [sA, sC, sD, sE]; omega) | (simp; done) | (simp; omega)
set_option maxRecDepth 100000 in
set_option maxHeartbeats 1000000 in
theorem rn_num (k n d : Int) (t : ByteArray) (b : Bool) (f : Int) (w : World) (v : Vl) (HT : Hid (∀ wx, Calls Tryz.prog 41 #[.agg #[.int .i64 k, .int .i64 n, .int .i64 d, .string t, .bool b, .int .i64 f]] wx fun e w' => e = .returned (.agg #[.int .i64 (v).k, .int .i64 (v).n, .int .i64 (v).d, .string (v).t, .bool (v).b, .int .i64 (v).f]) ∧ Below wx.heap.size wx w')) (hk : v.k = 1) :
    Calls Tryz.prog 89 #[.agg #[.int .i64 k, .int .i64 n, .int .i64 d, .string t, .bool b, .int .i64 f]] w fun e w' => e = .returned (.tuple #[.agg #[.int .i64 (asNumT v).n, .int .i64 (asNumT v).d], .agg #[.int .i64 ((asNumT v).e).k, .int .i64 ((asNumT v).e).n, .int .i64 ((asNumT v).e).d, .string ((asNumT v).e).t, .bool ((asNumT v).e).b, .int .i64 ((asNumT v).e).f]]) ∧ Below w.heap.size w w' := by
  have HF : Hid (asNumT v = ⟨v.n, v.d, blankV⟩) := by unfold Hid asNumT; rw [if_pos hk]
  have k1 : (v.k == 1) = true := by simp [hk]
  have k2 : (v.k == 2) = false := by simp [hk]
  have k3 : (v.k == 3) = false := by simp [hk]
  have k4 : (v.k == 4) = false := by simp [hk]
  clear hk
  generalize asNumT v = R at *
  go_enter Tryz.func89, Tryz.ntmps89
  go_wp2_with fail
  refine (HT.out _).mono ?_
  rintro e w1 ⟨rfl, hb⟩
  obtain ⟨s7, c7_0, c7_1, c7_2, c7_3, c7_4, c7_5, f7⟩ := L6 hb (w.heap.size) (by first | omega | (simp only [sA, sC, sD, sE]; omega) | (simp; done) | (simp; omega)) (by go_simp; exact ⟨rfl, rfl, rfl, rfl, rfl, rfl⟩) (by intro o; go_simp)
  obtain ⟨s8, c8_0, c8_1, f8⟩ := L2 hb (w.heap.size + 1) (by first | omega | (simp only [sA, sC, sD, sE]; omega) | (simp; done) | (simp; omega)) (by go_simp; exact ⟨rfl, rfl⟩) (by intro o; go_simp)
  obtain ⟨s9, c9_0, c9_1, c9_2, c9_3, c9_4, c9_5, f9⟩ := L6 hb (w.heap.size + 1 + 1) (by first | omega | (simp only [sA, sC, sD, sE]; omega) | (simp; done) | (simp; omega)) (by go_simp; exact ⟨rfl, rfl, rfl, rfl, rfl, rfl⟩) (by intro o; go_simp)
  go_upto_region 2 with (fail)
  first | with_reducible refine wp_rebase ?_ | with_reducible refine wpList_rebase ?_
  intro w1 hb'
  have hb := hb'.out
  clear hb'
  obtain ⟨s10, c10_0, c10_1, c10_2, c10_3, c10_4, c10_5, f10⟩ := L6 hb (w.heap.size) (by first | omega | (simp only [sA, sC, sD, sE]; omega) | (simp; done) | (simp; omega)) (by go_simp; exact ⟨rfl, rfl, rfl, rfl, rfl, rfl⟩) (by intro o; go_simp)
  obtain ⟨s11, c11_0, c11_1, f11⟩ := L2 hb (w.heap.size + 1) (by first | omega | (simp only [sA, sC, sD, sE]; omega) | (simp; done) | (simp; omega)) (by go_simp; exact ⟨rfl, rfl⟩) (by intro o; go_simp)
  obtain ⟨s12, c12_0, c12_1, c12_2, c12_3, c12_4, c12_5, f12⟩ := L6 hb (w.heap.size + 1 + 1) (by first | omega | (simp only [sA, sC, sD, sE]; omega) | (simp; done) | (simp; omega)) (by go_simp; exact ⟨rfl, rfl, rfl, rfl, rfl, rfl⟩) (by intro o; go_simp)
  clear c7_0 c7_1 c7_2 c7_3 c7_4 c7_5 f7 c8_0 c8_1 f8 c9_0 c9_1 c9_2 c9_3 c9_4 c9_5 f9
  go_wp2
  refine bodyPost_ret (v := .tuple #[.agg #[.int .i64 R.n, .int .i64 R.d], .agg #[.int .i64 (R.e).k, .int .i64 (R.e).n, .int .i64 (R.e).d, .string (R.e).t, .bool (R.e).b, .int .i64 (R.e).f]]) (by rw [HF.out]; simp [results, Tryz.results89, go_sem, c10_0, c10_1, c10_2, c10_3, c10_4, c10_5, c11_0, c11_1, c12_0, c12_1, c12_2, c12_3, c12_4, c12_5, blankV, noT]) rfl ⟨rfl, ?_⟩
  focus
    repeat with_reducible first | exact Below.refl _ _ | refine below_drewN ?_ _ | refine Below.drew ?_ | refine Below.setCell ?_ ?_ _ | refine Below.alloc ?_ ?_ _ | refine below_then ?_ ?_ (by with_reducible assumption)
    all_goals first | omega | (simp only [sA, sC, sD, sE]; omega) | (simp; done) | (simp; omega)
set_option maxRecDepth 100000 in
set_option maxHeartbeats 1000000 in
theorem rn_fault (k n d : Int) (t : ByteArray) (b : Bool) (f : Int) (w : World) (v : Vl) (HT : Hid (∀ wx, Calls Tryz.prog 41 #[.agg #[.int .i64 k, .int .i64 n, .int .i64 d, .string t, .bool b, .int .i64 f]] wx fun e w' => e = .returned (.agg #[.int .i64 (v).k, .int .i64 (v).n, .int .i64 (v).d, .string (v).t, .bool (v).b, .int .i64 (v).f]) ∧ Below wx.heap.size wx w')) (hk : v.k = 4) :
    Calls Tryz.prog 89 #[.agg #[.int .i64 k, .int .i64 n, .int .i64 d, .string t, .bool b, .int .i64 f]] w fun e w' => e = .returned (.tuple #[.agg #[.int .i64 (asNumT v).n, .int .i64 (asNumT v).d], .agg #[.int .i64 ((asNumT v).e).k, .int .i64 ((asNumT v).e).n, .int .i64 ((asNumT v).e).d, .string ((asNumT v).e).t, .bool ((asNumT v).e).b, .int .i64 ((asNumT v).e).f]]) ∧ Below w.heap.size w w' := by
  have HF : Hid (asNumT v = ⟨0, 0, v⟩) := by unfold Hid asNumT; rw [if_neg (by omega), if_neg (by omega), if_neg (by omega), if_neg (by omega)]
  have k1 : (v.k == 1) = false := by simp [hk]
  have k2 : (v.k == 2) = false := by simp [hk]
  have k3 : (v.k == 3) = false := by simp [hk]
  have k4 : (v.k == 4) = true := by simp [hk]
  clear hk
  generalize asNumT v = R at *
  go_enter Tryz.func89, Tryz.ntmps89
  go_wp2_with fail
  refine (HT.out _).mono ?_
  rintro e w1 ⟨rfl, hb⟩
  obtain ⟨s13, c13_0, c13_1, c13_2, c13_3, c13_4, c13_5, f13⟩ := L6 hb (w.heap.size) (by first | omega | (simp only [sA, sC, sD, sE]; omega) | (simp; done) | (simp; omega)) (by go_simp; exact ⟨rfl, rfl, rfl, rfl, rfl, rfl⟩) (by intro o; go_simp)
  obtain ⟨s14, c14_0, c14_1, f14⟩ := L2 hb (w.heap.size + 1) (by first | omega | (simp only [sA, sC, sD, sE]; omega) | (simp; done) | (simp; omega)) (by go_simp; exact ⟨rfl, rfl⟩) (by intro o; go_simp)
  obtain ⟨s15, c15_0, c15_1, c15_2, c15_3, c15_4, c15_5, f15⟩ := L6 hb (w.heap.size + 1 + 1) (by first | omega | (simp only [sA, sC, sD, sE]; omega) | (simp; done) | (simp; omega)) (by go_simp; exact ⟨rfl, rfl, rfl, rfl, rfl, rfl⟩) (by intro o; go_simp)
  go_upto_region 2 with (fail)
  first | with_reducible refine wp_rebase ?_ | with_reducible refine wpList_rebase ?_
  intro w1 hb'
  have hb := hb'.out
  clear hb'
  obtain ⟨s16, c16_0, c16_1, c16_2, c16_3, c16_4, c16_5, f16⟩ := L6 hb (w.heap.size) (by first | omega | (simp only [sA, sC, sD, sE]; omega) | (simp; done) | (simp; omega)) (by go_simp; exact ⟨rfl, rfl, rfl, rfl, rfl, rfl⟩) (by intro o; go_simp)
  obtain ⟨s17, c17_0, c17_1, f17⟩ := L2 hb (w.heap.size + 1) (by first | omega | (simp only [sA, sC, sD, sE]; omega) | (simp; done) | (simp; omega)) (by go_simp; exact ⟨rfl, rfl⟩) (by intro o; go_simp)
  obtain ⟨s18, c18_0, c18_1, c18_2, c18_3, c18_4, c18_5, f18⟩ := L6 hb (w.heap.size + 1 + 1) (by first | omega | (simp only [sA, sC, sD, sE]; omega) | (simp; done) | (simp; omega)) (by go_simp; exact ⟨rfl, rfl, rfl, rfl, rfl, rfl⟩) (by intro o; go_simp)
  clear c13_0 c13_1 c13_2 c13_3 c13_4 c13_5 f13 c14_0 c14_1 f14 c15_0 c15_1 c15_2 c15_3 c15_4 c15_5 f15
  go_upto_region 14 with (fail)
  go_region
  go_wp2
  refine bodyPost_ret (v := .tuple #[.agg #[.int .i64 R.n, .int .i64 R.d], .agg #[.int .i64 (R.e).k, .int .i64 (R.e).n, .int .i64 (R.e).d, .string (R.e).t, .bool (R.e).b, .int .i64 (R.e).f]]) (by rw [HF.out]; simp [results, Tryz.results89, go_sem, c16_0, c16_1, c16_2, c16_3, c16_4, c16_5, c17_0, c17_1, c18_0, c18_1, c18_2, c18_3, c18_4, c18_5]) rfl ⟨rfl, ?_⟩
  focus
    repeat with_reducible first | exact Below.refl _ _ | refine below_drewN ?_ _ | refine Below.drew ?_ | refine Below.setCell ?_ ?_ _ | refine Below.alloc ?_ ?_ _ | refine below_then ?_ ?_ (by with_reducible assumption)
    all_goals first | omega | (simp only [sA, sC, sD, sE]; omega) | (simp; done) | (simp; omega)
set_option maxRecDepth 100000 in
set_option maxHeartbeats 1000000 in
theorem rn_truth (k n d : Int) (t : ByteArray) (b : Bool) (f : Int) (w : World) (v : Vl) (HT : Hid (∀ wx, Calls Tryz.prog 41 #[.agg #[.int .i64 k, .int .i64 n, .int .i64 d, .string t, .bool b, .int .i64 f]] wx fun e w' => e = .returned (.agg #[.int .i64 (v).k, .int .i64 (v).n, .int .i64 (v).d, .string (v).t, .bool (v).b, .int .i64 (v).f]) ∧ Below wx.heap.size wx w')) (hk : v.k = 3) :
    Calls Tryz.prog 89 #[.agg #[.int .i64 k, .int .i64 n, .int .i64 d, .string t, .bool b, .int .i64 f]] w fun e w' => e = .returned (.tuple #[.agg #[.int .i64 (asNumT v).n, .int .i64 (asNumT v).d], .agg #[.int .i64 ((asNumT v).e).k, .int .i64 ((asNumT v).e).n, .int .i64 ((asNumT v).e).d, .string ((asNumT v).e).t, .bool ((asNumT v).e).b, .int .i64 ((asNumT v).e).f]]) ∧ Below w.heap.size w w' := by
  have HF1 : asNumT v = if v.b then ⟨1, 1, blankV⟩ else ⟨0, 1, blankV⟩ := by unfold asNumT; rw [if_neg (by omega), if_pos hk]
  have k1 : (v.k == 1) = false := by simp [hk]
  have k2 : (v.k == 2) = false := by simp [hk]
  have k3 : (v.k == 3) = true := by simp [hk]
  have k4 : (v.k == 4) = false := by simp [hk]
  clear hk
  cases hvb : v.b
  all_goals
    rw [hvb] at HF1
    have HF := Lib.hid HF1
    clear HF1
    generalize asNumT v = R at *
    go_enter Tryz.func89, Tryz.ntmps89
    go_wp2_with fail
    refine (HT.out _).mono ?_
    rintro e w1 ⟨rfl, hb⟩
    obtain ⟨s19, c19_0, c19_1, c19_2, c19_3, c19_4, c19_5, f19⟩ := L6 hb (w.heap.size) (by first | omega | (simp only [sA, sC, sD, sE]; omega) | (simp; done) | (simp; omega)) (by go_simp; exact ⟨rfl, rfl, rfl, rfl, rfl, rfl⟩) (by intro o; go_simp)
    obtain ⟨s20, c20_0, c20_1, f20⟩ := L2 hb (w.heap.size + 1) (by first | omega | (simp only [sA, sC, sD, sE]; omega) | (simp; done) | (simp; omega)) (by go_simp; exact ⟨rfl, rfl⟩) (by intro o; go_simp)
    obtain ⟨s21, c21_0, c21_1, c21_2, c21_3, c21_4, c21_5, f21⟩ := L6 hb (w.heap.size + 1 + 1) (by first | omega | (simp only [sA, sC, sD, sE]; omega) | (simp; done) | (simp; omega)) (by go_simp; exact ⟨rfl, rfl, rfl, rfl, rfl, rfl⟩) (by intro o; go_simp)
    go_upto_region 2 with (fail)
    first | with_reducible refine wp_rebase ?_ | with_reducible refine wpList_rebase ?_
    intro w1 hb'
    have hb := hb'.out
    clear hb'
    obtain ⟨s22, c22_0, c22_1, c22_2, c22_3, c22_4, c22_5, f22⟩ := L6 hb (w.heap.size) (by first | omega | (simp only [sA, sC, sD, sE]; omega) | (simp; done) | (simp; omega)) (by go_simp; exact ⟨rfl, rfl, rfl, rfl, rfl, rfl⟩) (by intro o; go_simp)
    obtain ⟨s23, c23_0, c23_1, f23⟩ := L2 hb (w.heap.size + 1) (by first | omega | (simp only [sA, sC, sD, sE]; omega) | (simp; done) | (simp; omega)) (by go_simp; exact ⟨rfl, rfl⟩) (by intro o; go_simp)
    obtain ⟨s24, c24_0, c24_1, c24_2, c24_3, c24_4, c24_5, f24⟩ := L6 hb (w.heap.size + 1 + 1) (by first | omega | (simp only [sA, sC, sD, sE]; omega) | (simp; done) | (simp; omega)) (by go_simp; exact ⟨rfl, rfl, rfl, rfl, rfl, rfl⟩) (by intro o; go_simp)
    clear c19_0 c19_1 c19_2 c19_3 c19_4 c19_5 f19 c20_0 c20_1 f20 c21_0 c21_1 c21_2 c21_3 c21_4 c21_5 f21
    go_wp2
    refine bodyPost_ret (v := .tuple #[.agg #[.int .i64 R.n, .int .i64 R.d], .agg #[.int .i64 (R.e).k, .int .i64 (R.e).n, .int .i64 (R.e).d, .string (R.e).t, .bool (R.e).b, .int .i64 (R.e).f]]) (by rw [HF.out]; simp [results, Tryz.results89, go_sem, c22_0, c22_1, c22_2, c22_3, c22_4, c22_5, c23_0, c23_1, c24_0, c24_1, c24_2, c24_3, c24_4, c24_5, blankV, noT]) rfl ⟨rfl, ?_⟩
    focus
      repeat with_reducible first | exact Below.refl _ _ | refine below_drewN ?_ _ | refine Below.drew ?_ | refine Below.setCell ?_ ?_ _ | refine Below.alloc ?_ ?_ _ | refine below_then ?_ ?_ (by with_reducible assumption)
      all_goals first | omega | (simp only [sA, sC, sD, sE]; omega) | (simp; done) | (simp; omega)
set_option maxRecDepth 100000 in
set_option maxHeartbeats 1000000 in
theorem rn_textno (k n d : Int) (t : ByteArray) (b : Bool) (f : Int) (w : World) (v : Vl) (HT : Hid (∀ wx, Calls Tryz.prog 41 #[.agg #[.int .i64 k, .int .i64 n, .int .i64 d, .string t, .bool b, .int .i64 f]] wx fun e w' => e = .returned (.agg #[.int .i64 (v).k, .int .i64 (v).n, .int .i64 (v).d, .string (v).t, .bool (v).b, .int .i64 (v).f]) ∧ Below wx.heap.size wx w')) (ht : v.t.size ≤ 140737488351232) (hk : v.k = 2) (hok : (readN v.t.data.toList).ok = false) :
    Calls Tryz.prog 89 #[.agg #[.int .i64 k, .int .i64 n, .int .i64 d, .string t, .bool b, .int .i64 f]] w fun e w' => e = .returned (.tuple #[.agg #[.int .i64 (asNumT v).n, .int .i64 (asNumT v).d], .agg #[.int .i64 ((asNumT v).e).k, .int .i64 ((asNumT v).e).n, .int .i64 ((asNumT v).e).d, .string ((asNumT v).e).t, .bool ((asNumT v).e).b, .int .i64 ((asNumT v).e).f]]) ∧ Below w.heap.size w w' := by
  have HR := Lib.hid fun wx => r1_Read v.t wx ht
  have HF : Hid (asNumT v = ⟨0, 0, faultF 2⟩) := by unfold Hid asNumT; rw [if_neg (by omega), if_neg (by omega), if_neg (by omega), if_pos hk, hok]; rfl
  rw [hok] at HR
  generalize readN v.t.data.toList = Q at *
  clear hok
  have k1 : (v.k == 1) = false := by simp [hk]
  have k2 : (v.k == 2) = true := by simp [hk]
  have k3 : (v.k == 3) = false := by simp [hk]
  have k4 : (v.k == 4) = false := by simp [hk]
  clear hk
  generalize asNumT v = R at *
  go_enter Tryz.func89, Tryz.ntmps89
  go_wp2_with fail
  refine (HT.out _).mono ?_
  rintro e w1 ⟨rfl, hb⟩
  obtain ⟨s25, c25_0, c25_1, c25_2, c25_3, c25_4, c25_5, f25⟩ := L6 hb (w.heap.size) (by first | omega | (simp only [sA, sC, sD, sE]; omega) | (simp; done) | (simp; omega)) (by go_simp; exact ⟨rfl, rfl, rfl, rfl, rfl, rfl⟩) (by intro o; go_simp)
  obtain ⟨s26, c26_0, c26_1, f26⟩ := L2 hb (w.heap.size + 1) (by first | omega | (simp only [sA, sC, sD, sE]; omega) | (simp; done) | (simp; omega)) (by go_simp; exact ⟨rfl, rfl⟩) (by intro o; go_simp)
  obtain ⟨s27, c27_0, c27_1, c27_2, c27_3, c27_4, c27_5, f27⟩ := L6 hb (w.heap.size + 1 + 1) (by first | omega | (simp only [sA, sC, sD, sE]; omega) | (simp; done) | (simp; omega)) (by go_simp; exact ⟨rfl, rfl, rfl, rfl, rfl, rfl⟩) (by intro o; go_simp)
  go_upto_region 2 with (fail)
  first | with_reducible refine wp_rebase ?_ | with_reducible refine wpList_rebase ?_
  intro w1 hb'
  have hb := hb'.out
  clear hb'
  obtain ⟨s28, c28_0, c28_1, c28_2, c28_3, c28_4, c28_5, f28⟩ := L6 hb (w.heap.size) (by first | omega | (simp only [sA, sC, sD, sE]; omega) | (simp; done) | (simp; omega)) (by go_simp; exact ⟨rfl, rfl, rfl, rfl, rfl, rfl⟩) (by intro o; go_simp)
  obtain ⟨s29, c29_0, c29_1, f29⟩ := L2 hb (w.heap.size + 1) (by first | omega | (simp only [sA, sC, sD, sE]; omega) | (simp; done) | (simp; omega)) (by go_simp; exact ⟨rfl, rfl⟩) (by intro o; go_simp)
  obtain ⟨s30, c30_0, c30_1, c30_2, c30_3, c30_4, c30_5, f30⟩ := L6 hb (w.heap.size + 1 + 1) (by first | omega | (simp only [sA, sC, sD, sE]; omega) | (simp; done) | (simp; omega)) (by go_simp; exact ⟨rfl, rfl, rfl, rfl, rfl, rfl⟩) (by intro o; go_simp)
  clear c25_0 c25_1 c25_2 c25_3 c25_4 c25_5 f25 c26_0 c26_1 f26 c27_0 c27_1 c27_2 c27_3 c27_4 c27_5 f27
  go_wp2_with fail
  refine (HR.out _).mono ?_
  rintro e w2 ⟨rfl, hb⟩
  obtain ⟨s31, c31_0, c31_1, c31_2, c31_3, c31_4, c31_5, f31⟩ := L6 hb (w.heap.size) (by first | omega | (simp only [sA, sC, sD, sE]; omega) | (simp; done) | (simp; omega)) (by go_simp; exact ⟨rfl, rfl, rfl, rfl, rfl, rfl⟩) (by intro o; go_simp)
  obtain ⟨s32, c32_0, c32_1, f32⟩ := L2 hb (w.heap.size + 1) (by first | omega | (simp only [sA, sC, sD, sE]; omega) | (simp; done) | (simp; omega)) (by go_simp; exact ⟨rfl, rfl⟩) (by intro o; go_simp)
  obtain ⟨s33, c33_0, c33_1, c33_2, c33_3, c33_4, c33_5, f33⟩ := L6 hb (w.heap.size + 1 + 1) (by first | omega | (simp only [sA, sC, sD, sE]; omega) | (simp; done) | (simp; omega)) (by go_simp; exact ⟨rfl, rfl, rfl, rfl, rfl, rfl⟩) (by intro o; go_simp)
  clear c28_0 c28_1 c28_2 c28_3 c28_4 c28_5 f28 c29_0 c29_1 f29 c30_0 c30_1 c30_2 c30_3 c30_4 c30_5 f30
  go_wp2_with fail
  refine (r2_Fault _ _).mono ?_
  rintro e w3 ⟨rfl, hb⟩
  obtain ⟨s34, c34_0, c34_1, f34⟩ := L2 hb (w.heap.size + 1) (by first | omega | (simp only [sA, sC, sD, sE]; omega) | (simp; done) | (simp; omega)) (by go_simp; exact ⟨rfl, rfl⟩) (by intro o; go_simp)
  obtain ⟨s35, c35_0, c35_1, c35_2, c35_3, c35_4, c35_5, f35⟩ := L6 hb (w.heap.size + 1 + 1) (by first | omega | (simp only [sA, sC, sD, sE]; omega) | (simp; done) | (simp; omega)) (by go_simp; exact ⟨rfl, rfl, rfl, rfl, rfl, rfl⟩) (by intro o; go_simp)
  clear c31_0 c31_1 c31_2 c31_3 c31_4 c31_5 f31 c32_0 c32_1 f32 c33_0 c33_1 c33_2 c33_3 c33_4 c33_5 f33
  go_wp2
  refine bodyPost_ret (v := .tuple #[.agg #[.int .i64 R.n, .int .i64 R.d], .agg #[.int .i64 (R.e).k, .int .i64 (R.e).n, .int .i64 (R.e).d, .string (R.e).t, .bool (R.e).b, .int .i64 (R.e).f]]) (by rw [HF.out]; simp [results, Tryz.results89, go_sem, c34_0, c34_1, c35_0, c35_1, c35_2, c35_3, c35_4, c35_5]) rfl ⟨rfl, ?_⟩
  focus
    repeat with_reducible first | exact Below.refl _ _ | refine below_drewN ?_ _ | refine Below.drew ?_ | refine Below.setCell ?_ ?_ _ | refine Below.alloc ?_ ?_ _ | refine below_then ?_ ?_ (by with_reducible assumption)
    all_goals first | omega | (simp only [sA, sC, sD, sE]; omega) | (simp; done) | (simp; omega)
set_option maxRecDepth 100000 in
set_option maxHeartbeats 1000000 in
theorem rn_text (k n d : Int) (t : ByteArray) (b : Bool) (f : Int) (w : World) (v : Vl) (HT : Hid (∀ wx, Calls Tryz.prog 41 #[.agg #[.int .i64 k, .int .i64 n, .int .i64 d, .string t, .bool b, .int .i64 f]] wx fun e w' => e = .returned (.agg #[.int .i64 (v).k, .int .i64 (v).n, .int .i64 (v).d, .string (v).t, .bool (v).b, .int .i64 (v).f]) ∧ Below wx.heap.size wx w')) (ht : v.t.size ≤ 140737488351232) (hk : v.k = 2) (hok : (readN v.t.data.toList).ok = true) :
    Calls Tryz.prog 89 #[.agg #[.int .i64 k, .int .i64 n, .int .i64 d, .string t, .bool b, .int .i64 f]] w fun e w' => e = .returned (.tuple #[.agg #[.int .i64 (asNumT v).n, .int .i64 (asNumT v).d], .agg #[.int .i64 ((asNumT v).e).k, .int .i64 ((asNumT v).e).n, .int .i64 ((asNumT v).e).d, .string ((asNumT v).e).t, .bool ((asNumT v).e).b, .int .i64 ((asNumT v).e).f]]) ∧ Below w.heap.size w w' := by
  have HR := Lib.hid fun wx => r1_Read v.t wx ht
  have HF : Hid (asNumT v = ⟨(readN v.t.data.toList).n, (readN v.t.data.toList).d, blankV⟩) := by unfold Hid asNumT; rw [if_neg (by omega), if_neg (by omega), if_neg (by omega), if_pos hk, if_pos hok]
  rw [hok] at HR
  generalize readN v.t.data.toList = Q at *
  clear hok
  have k1 : (v.k == 1) = false := by simp [hk]
  have k2 : (v.k == 2) = true := by simp [hk]
  have k3 : (v.k == 3) = false := by simp [hk]
  have k4 : (v.k == 4) = false := by simp [hk]
  clear hk
  generalize asNumT v = R at *
  go_enter Tryz.func89, Tryz.ntmps89
  go_wp2_with fail
  refine (HT.out _).mono ?_
  rintro e w1 ⟨rfl, hb⟩
  obtain ⟨s36, c36_0, c36_1, c36_2, c36_3, c36_4, c36_5, f36⟩ := L6 hb (w.heap.size) (by first | omega | (simp only [sA, sC, sD, sE]; omega) | (simp; done) | (simp; omega)) (by go_simp; exact ⟨rfl, rfl, rfl, rfl, rfl, rfl⟩) (by intro o; go_simp)
  obtain ⟨s37, c37_0, c37_1, f37⟩ := L2 hb (w.heap.size + 1) (by first | omega | (simp only [sA, sC, sD, sE]; omega) | (simp; done) | (simp; omega)) (by go_simp; exact ⟨rfl, rfl⟩) (by intro o; go_simp)
  obtain ⟨s38, c38_0, c38_1, c38_2, c38_3, c38_4, c38_5, f38⟩ := L6 hb (w.heap.size + 1 + 1) (by first | omega | (simp only [sA, sC, sD, sE]; omega) | (simp; done) | (simp; omega)) (by go_simp; exact ⟨rfl, rfl, rfl, rfl, rfl, rfl⟩) (by intro o; go_simp)
  go_upto_region 2 with (fail)
  first | with_reducible refine wp_rebase ?_ | with_reducible refine wpList_rebase ?_
  intro w1 hb'
  have hb := hb'.out
  clear hb'
  obtain ⟨s39, c39_0, c39_1, c39_2, c39_3, c39_4, c39_5, f39⟩ := L6 hb (w.heap.size) (by first | omega | (simp only [sA, sC, sD, sE]; omega) | (simp; done) | (simp; omega)) (by go_simp; exact ⟨rfl, rfl, rfl, rfl, rfl, rfl⟩) (by intro o; go_simp)
  obtain ⟨s40, c40_0, c40_1, f40⟩ := L2 hb (w.heap.size + 1) (by first | omega | (simp only [sA, sC, sD, sE]; omega) | (simp; done) | (simp; omega)) (by go_simp; exact ⟨rfl, rfl⟩) (by intro o; go_simp)
  obtain ⟨s41, c41_0, c41_1, c41_2, c41_3, c41_4, c41_5, f41⟩ := L6 hb (w.heap.size + 1 + 1) (by first | omega | (simp only [sA, sC, sD, sE]; omega) | (simp; done) | (simp; omega)) (by go_simp; exact ⟨rfl, rfl, rfl, rfl, rfl, rfl⟩) (by intro o; go_simp)
  clear c36_0 c36_1 c36_2 c36_3 c36_4 c36_5 f36 c37_0 c37_1 f37 c38_0 c38_1 c38_2 c38_3 c38_4 c38_5 f38
  go_wp2_with fail
  refine (HR.out _).mono ?_
  rintro e wB ⟨rfl, hb⟩
  obtain ⟨s42, c42_0, c42_1, c42_2, c42_3, c42_4, c42_5, f42⟩ := L6 hb (w.heap.size) (by first | omega | (simp only [sA, sC, sD, sE]; omega) | (simp; done) | (simp; omega)) (by go_simp; exact ⟨rfl, rfl, rfl, rfl, rfl, rfl⟩) (by intro o; go_simp)
  obtain ⟨s43, c43_0, c43_1, f43⟩ := L2 hb (w.heap.size + 1) (by first | omega | (simp only [sA, sC, sD, sE]; omega) | (simp; done) | (simp; omega)) (by go_simp; exact ⟨rfl, rfl⟩) (by intro o; go_simp)
  obtain ⟨s44, c44_0, c44_1, c44_2, c44_3, c44_4, c44_5, f44⟩ := L6 hb (w.heap.size + 1 + 1) (by first | omega | (simp only [sA, sC, sD, sE]; omega) | (simp; done) | (simp; omega)) (by go_simp; exact ⟨rfl, rfl, rfl, rfl, rfl, rfl⟩) (by intro o; go_simp)
  clear c39_0 c39_1 c39_2 c39_3 c39_4 c39_5 f39 c40_0 c40_1 f40 c41_0 c41_1 c41_2 c41_3 c41_4 c41_5 f41
  go_upto_region 7 with (fail)
  first | with_reducible refine wp_rebase ?_ | with_reducible refine wpList_rebase ?_
  intro w1 hb'
  have hb := hb'.out
  clear hb'
  obtain ⟨s45, c45_0, c45_1, f45⟩ := L2 hb (w.heap.size + 1) (by first | omega | (simp only [sA, sC, sD, sE]; omega) | (simp; done) | (simp; omega)) (by go_simp; exact ⟨rfl, rfl⟩) (by intro o; go_simp)
  obtain ⟨s46, c46_0, c46_1, c46_2, c46_3, c46_4, c46_5, f46⟩ := L6 hb (w.heap.size + 1 + 1) (by first | omega | (simp only [sA, sC, sD, sE]; omega) | (simp; done) | (simp; omega)) (by go_simp; exact ⟨rfl, rfl, rfl, rfl, rfl, rfl⟩) (by intro o; go_simp)
  obtain ⟨s47, c47_0, c47_1, f47⟩ := L2 hb (wB.heap.size) (by first | omega | (simp only [sA, sC, sD, sE]; omega) | (simp; done) | (simp; omega)) (by go_simp; exact ⟨rfl, rfl⟩) (by intro o; go_simp)
  clear c42_0 c42_1 c42_2 c42_3 c42_4 c42_5 f42 c43_0 c43_1 f43 c44_0 c44_1 c44_2 c44_3 c44_4 c44_5 f44
  go_wp2
  refine bodyPost_ret (v := .tuple #[.agg #[.int .i64 R.n, .int .i64 R.d], .agg #[.int .i64 (R.e).k, .int .i64 (R.e).n, .int .i64 (R.e).d, .string (R.e).t, .bool (R.e).b, .int .i64 (R.e).f]]) (by rw [HF.out]; simp [results, Tryz.results89, go_sem, c45_0, c45_1, c46_0, c46_1, c46_2, c46_3, c46_4, c46_5, c47_0, c47_1, blankV, noT]) rfl ⟨rfl, ?_⟩
  focus
    repeat with_reducible first | exact Below.refl _ _ | refine below_drewN ?_ _ | refine Below.drew ?_ | refine Below.setCell ?_ ?_ _ | refine Below.alloc ?_ ?_ _ | refine below_then ?_ ?_ (by with_reducible assumption)
    all_goals first | omega | (simp only [sA, sC, sD, sE]; omega) | (simp; done) | (simp; omega)
theorem r2_AsNumber (x : Vl) (w : World) (hx : x.In) :
    Calls Tryz.prog 89 #[.agg #[.int .i64 (x).k, .int .i64 (x).n, .int .i64 (x).d, .string (x).t, .bool (x).b, .int .i64 (x).f]] w fun e w' => e = .returned (.tuple #[.agg #[.int .i64 (asNum x).n, .int .i64 (asNum x).d], .agg #[.int .i64 ((asNum x).e).k, .int .i64 ((asNum x).e).n, .int .i64 ((asNum x).e).d, .string ((asNum x).e).t, .bool ((asNum x).e).b, .int .i64 ((asNum x).e).f]]) ∧ Below w.heap.size w w' := by
  obtain ⟨k, n, d, t, b, f⟩ := x
  have hv := tkV_right ⟨k, n, d, t, b, f⟩
  have HT := Lib.hid fun wx => r2_Of k n d t b f wx hx
  show Calls _ _ _ _ fun e w' => e = .returned (.tuple #[.agg #[.int .i64 (asNumT (tkV ⟨k, n, d, t, b, f⟩)).n, .int .i64 (asNumT (tkV ⟨k, n, d, t, b, f⟩)).d], .agg #[.int .i64 ((asNumT (tkV ⟨k, n, d, t, b, f⟩)).e).k, .int .i64 ((asNumT (tkV ⟨k, n, d, t, b, f⟩)).e).n, .int .i64 ((asNumT (tkV ⟨k, n, d, t, b, f⟩)).e).d, .string ((asNumT (tkV ⟨k, n, d, t, b, f⟩)).e).t, .bool ((asNumT (tkV ⟨k, n, d, t, b, f⟩)).e).b, .int .i64 ((asNumT (tkV ⟨k, n, d, t, b, f⟩)).e).f]]) ∧ _
  generalize tkV ⟨k, n, d, t, b, f⟩ = v at *
  have hin := right_in hv
  rcases rightV_k hv with hk | hk | hk | hk | hk
  · exact rn_blank _ _ _ _ _ _ _ _ HT hk
  · exact rn_num _ _ _ _ _ _ _ _ HT hk
  · cases hok : (readN v.t.data.toList).ok
    · exact rn_textno _ _ _ _ _ _ _ _ HT hin.t hk hok
    · exact rn_text _ _ _ _ _ _ _ _ HT hin.t hk hok
  · exact rn_truth _ _ _ _ _ _ _ _ HT hk
  · exact rn_fault _ _ _ _ _ _ _ _ HT hk
set_option maxRecDepth 100000 in
set_option maxHeartbeats 1000000 in
theorem rx_num (k n d : Int) (t : ByteArray) (b : Bool) (f : Int) (w : World) (v : Vl) (HT : Hid (∀ wx, Calls Tryz.prog 41 #[.agg #[.int .i64 k, .int .i64 n, .int .i64 d, .string t, .bool b, .int .i64 f]] wx fun e w' => e = .returned (.agg #[.int .i64 (v).k, .int .i64 (v).n, .int .i64 (v).d, .string (v).t, .bool (v).b, .int .i64 (v).f]) ∧ Below wx.heap.size wx w')) (hn : I64 v.n) (hd : I64 v.d) (hk : v.k = 1) :
    Calls Tryz.prog 86 #[.agg #[.int .i64 k, .int .i64 n, .int .i64 d, .string t, .bool b, .int .i64 f]] w fun e w' => e = .returned (.tuple #[.string (asTxtT v).t, .agg #[.int .i64 ((asTxtT v).e).k, .int .i64 ((asTxtT v).e).n, .int .i64 ((asTxtT v).e).d, .string ((asTxtT v).e).t, .bool ((asTxtT v).e).b, .int .i64 ((asTxtT v).e).f]]) ∧ Below w.heap.size w w' := by
  have HF : Hid (asTxtT v = ⟨textN v.n v.d, blankV⟩) := by unfold Hid asTxtT; rw [if_neg (by omega), if_pos hk]
  have k1 : (v.k == 1) = true := by simp [hk]
  have k2 : (v.k == 2) = false := by simp [hk]
  have k3 : (v.k == 3) = false := by simp [hk]
  have k4 : (v.k == 4) = false := by simp [hk]
  clear hk
  generalize asTxtT v = R at *
  go_enter Tryz.func86, Tryz.ntmps86
  go_wp2_with fail
  refine (HT.out _).mono ?_
  rintro e w1 ⟨rfl, hb⟩
  obtain ⟨s48, c48_0, c48_1, c48_2, c48_3, c48_4, c48_5, f48⟩ := L6 hb (w.heap.size) (by first | omega | (simp only [sA, sC, sD, sE]; omega) | (simp; done) | (simp; omega)) (by go_simp; exact ⟨rfl, rfl, rfl, rfl, rfl, rfl⟩) (by intro o; go_simp)
  obtain ⟨s49, c49_0, c49_1, c49_2, c49_3, c49_4, c49_5, f49⟩ := L6 hb (w.heap.size + 1) (by first | omega | (simp only [sA, sC, sD, sE]; omega) | (simp; done) | (simp; omega)) (by go_simp; exact ⟨rfl, rfl, rfl, rfl, rfl, rfl⟩) (by intro o; go_simp)
  go_upto_region 2 with (fail)
  first | with_reducible refine wp_rebase ?_ | with_reducible refine wpList_rebase ?_
  intro w1 hb'
  have hb := hb'.out
  clear hb'
  obtain ⟨s50, c50_0, c50_1, c50_2, c50_3, c50_4, c50_5, f50⟩ := L6 hb (w.heap.size) (by first | omega | (simp only [sA, sC, sD, sE]; omega) | (simp; done) | (simp; omega)) (by go_simp; exact ⟨rfl, rfl, rfl, rfl, rfl, rfl⟩) (by intro o; go_simp)
  obtain ⟨s51, c51_0, c51_1, c51_2, c51_3, c51_4, c51_5, f51⟩ := L6 hb (w.heap.size + 1) (by first | omega | (simp only [sA, sC, sD, sE]; omega) | (simp; done) | (simp; omega)) (by go_simp; exact ⟨rfl, rfl, rfl, rfl, rfl, rfl⟩) (by intro o; go_simp)
  clear c48_0 c48_1 c48_2 c48_3 c48_4 c48_5 f48 c49_0 c49_1 c49_2 c49_3 c49_4 c49_5 f49
  go_wp2_with fail
  refine (r1_Text v.n v.d _ hn hd).mono ?_
  rintro e w2 ⟨rfl, hb⟩
  obtain ⟨s52, c52_0, c52_1, c52_2, c52_3, c52_4, c52_5, f52⟩ := L6 hb (w.heap.size + 1) (by first | omega | (simp only [sA, sC, sD, sE]; omega) | (simp; done) | (simp; omega)) (by go_simp; exact ⟨rfl, rfl, rfl, rfl, rfl, rfl⟩) (by intro o; go_simp)
  clear c50_0 c50_1 c50_2 c50_3 c50_4 c50_5 f50 c51_0 c51_1 c51_2 c51_3 c51_4 c51_5 f51
  go_wp2
  refine bodyPost_ret (v := .tuple #[.string R.t, .agg #[.int .i64 (R.e).k, .int .i64 (R.e).n, .int .i64 (R.e).d, .string (R.e).t, .bool (R.e).b, .int .i64 (R.e).f]]) (by rw [HF.out]; simp [results, Tryz.results86, go_sem, c52_0, c52_1, c52_2, c52_3, c52_4, c52_5, blankV, noT]) rfl ⟨rfl, ?_⟩
  focus
    repeat with_reducible first | exact Below.refl _ _ | refine below_drewN ?_ _ | refine Below.drew ?_ | refine Below.setCell ?_ ?_ _ | refine Below.alloc ?_ ?_ _ | refine below_then ?_ ?_ (by with_reducible assumption)
    all_goals first | omega | (simp only [sA, sC, sD, sE]; omega) | (simp; done) | (simp; omega)
set_option maxRecDepth 100000 in
set_option maxHeartbeats 1000000 in
theorem rx_text (k n d : Int) (t : ByteArray) (b : Bool) (f : Int) (w : World) (v : Vl) (HT : Hid (∀ wx, Calls Tryz.prog 41 #[.agg #[.int .i64 k, .int .i64 n, .int .i64 d, .string t, .bool b, .int .i64 f]] wx fun e w' => e = .returned (.agg #[.int .i64 (v).k, .int .i64 (v).n, .int .i64 (v).d, .string (v).t, .bool (v).b, .int .i64 (v).f]) ∧ Below wx.heap.size wx w')) (hk : v.k = 2) :
    Calls Tryz.prog 86 #[.agg #[.int .i64 k, .int .i64 n, .int .i64 d, .string t, .bool b, .int .i64 f]] w fun e w' => e = .returned (.tuple #[.string (asTxtT v).t, .agg #[.int .i64 ((asTxtT v).e).k, .int .i64 ((asTxtT v).e).n, .int .i64 ((asTxtT v).e).d, .string ((asTxtT v).e).t, .bool ((asTxtT v).e).b, .int .i64 ((asTxtT v).e).f]]) ∧ Below w.heap.size w w' := by
  have HF : Hid (asTxtT v = ⟨v.t, blankV⟩) := by unfold Hid asTxtT; rw [if_neg (by omega), if_neg (by omega), if_neg (by omega)]
  have k1 : (v.k == 1) = false := by simp [hk]
  have k2 : (v.k == 2) = true := by simp [hk]
  have k3 : (v.k == 3) = false := by simp [hk]
  have k4 : (v.k == 4) = false := by simp [hk]
  clear hk
  generalize asTxtT v = R at *
  go_enter Tryz.func86, Tryz.ntmps86
  go_wp2_with fail
  refine (HT.out _).mono ?_
  rintro e w1 ⟨rfl, hb⟩
  obtain ⟨s53, c53_0, c53_1, c53_2, c53_3, c53_4, c53_5, f53⟩ := L6 hb (w.heap.size) (by first | omega | (simp only [sA, sC, sD, sE]; omega) | (simp; done) | (simp; omega)) (by go_simp; exact ⟨rfl, rfl, rfl, rfl, rfl, rfl⟩) (by intro o; go_simp)
  obtain ⟨s54, c54_0, c54_1, c54_2, c54_3, c54_4, c54_5, f54⟩ := L6 hb (w.heap.size + 1) (by first | omega | (simp only [sA, sC, sD, sE]; omega) | (simp; done) | (simp; omega)) (by go_simp; exact ⟨rfl, rfl, rfl, rfl, rfl, rfl⟩) (by intro o; go_simp)
  go_upto_region 2 with (fail)
  first | with_reducible refine wp_rebase ?_ | with_reducible refine wpList_rebase ?_
  intro w1 hb'
  have hb := hb'.out
  clear hb'
  obtain ⟨s55, c55_0, c55_1, c55_2, c55_3, c55_4, c55_5, f55⟩ := L6 hb (w.heap.size) (by first | omega | (simp only [sA, sC, sD, sE]; omega) | (simp; done) | (simp; omega)) (by go_simp; exact ⟨rfl, rfl, rfl, rfl, rfl, rfl⟩) (by intro o; go_simp)
  obtain ⟨s56, c56_0, c56_1, c56_2, c56_3, c56_4, c56_5, f56⟩ := L6 hb (w.heap.size + 1) (by first | omega | (simp only [sA, sC, sD, sE]; omega) | (simp; done) | (simp; omega)) (by go_simp; exact ⟨rfl, rfl, rfl, rfl, rfl, rfl⟩) (by intro o; go_simp)
  clear c53_0 c53_1 c53_2 c53_3 c53_4 c53_5 f53 c54_0 c54_1 c54_2 c54_3 c54_4 c54_5 f54
  go_wp2
  refine bodyPost_ret (v := .tuple #[.string R.t, .agg #[.int .i64 (R.e).k, .int .i64 (R.e).n, .int .i64 (R.e).d, .string (R.e).t, .bool (R.e).b, .int .i64 (R.e).f]]) (by rw [HF.out]; simp [results, Tryz.results86, go_sem, c55_0, c55_1, c55_2, c55_3, c55_4, c55_5, c56_0, c56_1, c56_2, c56_3, c56_4, c56_5, blankV, noT]) rfl ⟨rfl, ?_⟩
  focus
    repeat with_reducible first | exact Below.refl _ _ | refine below_drewN ?_ _ | refine Below.drew ?_ | refine Below.setCell ?_ ?_ _ | refine Below.alloc ?_ ?_ _ | refine below_then ?_ ?_ (by with_reducible assumption)
    all_goals first | omega | (simp only [sA, sC, sD, sE]; omega) | (simp; done) | (simp; omega)
set_option maxRecDepth 100000 in
set_option maxHeartbeats 1000000 in
theorem rx_truth (k n d : Int) (t : ByteArray) (b : Bool) (f : Int) (w : World) (v : Vl) (HT : Hid (∀ wx, Calls Tryz.prog 41 #[.agg #[.int .i64 k, .int .i64 n, .int .i64 d, .string t, .bool b, .int .i64 f]] wx fun e w' => e = .returned (.agg #[.int .i64 (v).k, .int .i64 (v).n, .int .i64 (v).d, .string (v).t, .bool (v).b, .int .i64 (v).f]) ∧ Below wx.heap.size wx w')) (hk : v.k = 3) :
    Calls Tryz.prog 86 #[.agg #[.int .i64 k, .int .i64 n, .int .i64 d, .string t, .bool b, .int .i64 f]] w fun e w' => e = .returned (.tuple #[.string (asTxtT v).t, .agg #[.int .i64 ((asTxtT v).e).k, .int .i64 ((asTxtT v).e).n, .int .i64 ((asTxtT v).e).d, .string ((asTxtT v).e).t, .bool ((asTxtT v).e).b, .int .i64 ((asTxtT v).e).f]]) ∧ Below w.heap.size w w' := by
  have HF : Hid (asTxtT v = ⟨wordT v.b, blankV⟩) := by unfold Hid asTxtT; rw [if_neg (by omega), if_neg (by omega), if_pos hk]
  have k1 : (v.k == 1) = false := by simp [hk]
  have k2 : (v.k == 2) = false := by simp [hk]
  have k3 : (v.k == 3) = true := by simp [hk]
  have k4 : (v.k == 4) = false := by simp [hk]
  clear hk
  generalize asTxtT v = R at *
  go_enter Tryz.func86, Tryz.ntmps86
  go_wp2_with fail
  refine (HT.out _).mono ?_
  rintro e w1 ⟨rfl, hb⟩
  obtain ⟨s57, c57_0, c57_1, c57_2, c57_3, c57_4, c57_5, f57⟩ := L6 hb (w.heap.size) (by first | omega | (simp only [sA, sC, sD, sE]; omega) | (simp; done) | (simp; omega)) (by go_simp; exact ⟨rfl, rfl, rfl, rfl, rfl, rfl⟩) (by intro o; go_simp)
  obtain ⟨s58, c58_0, c58_1, c58_2, c58_3, c58_4, c58_5, f58⟩ := L6 hb (w.heap.size + 1) (by first | omega | (simp only [sA, sC, sD, sE]; omega) | (simp; done) | (simp; omega)) (by go_simp; exact ⟨rfl, rfl, rfl, rfl, rfl, rfl⟩) (by intro o; go_simp)
  go_upto_region 2 with (fail)
  first | with_reducible refine wp_rebase ?_ | with_reducible refine wpList_rebase ?_
  intro w1 hb'
  have hb := hb'.out
  clear hb'
  obtain ⟨s59, c59_0, c59_1, c59_2, c59_3, c59_4, c59_5, f59⟩ := L6 hb (w.heap.size) (by first | omega | (simp only [sA, sC, sD, sE]; omega) | (simp; done) | (simp; omega)) (by go_simp; exact ⟨rfl, rfl, rfl, rfl, rfl, rfl⟩) (by intro o; go_simp)
  obtain ⟨s60, c60_0, c60_1, c60_2, c60_3, c60_4, c60_5, f60⟩ := L6 hb (w.heap.size + 1) (by first | omega | (simp only [sA, sC, sD, sE]; omega) | (simp; done) | (simp; omega)) (by go_simp; exact ⟨rfl, rfl, rfl, rfl, rfl, rfl⟩) (by intro o; go_simp)
  clear c57_0 c57_1 c57_2 c57_3 c57_4 c57_5 f57 c58_0 c58_1 c58_2 c58_3 c58_4 c58_5 f58
  go_wp2_with fail
  refine (r2_truth v.b _).mono ?_
  rintro e w2 ⟨rfl, rfl⟩
  go_wp2
  refine bodyPost_ret (v := .tuple #[.string R.t, .agg #[.int .i64 (R.e).k, .int .i64 (R.e).n, .int .i64 (R.e).d, .string (R.e).t, .bool (R.e).b, .int .i64 (R.e).f]]) (by rw [HF.out]; simp [results, Tryz.results86, go_sem, c59_0, c59_1, c59_2, c59_3, c59_4, c59_5, c60_0, c60_1, c60_2, c60_3, c60_4, c60_5, blankV, noT]) rfl ⟨rfl, ?_⟩
  focus
    repeat with_reducible first | exact Below.refl _ _ | refine below_drewN ?_ _ | refine Below.drew ?_ | refine Below.setCell ?_ ?_ _ | refine Below.alloc ?_ ?_ _ | refine below_then ?_ ?_ (by with_reducible assumption)
    all_goals first | omega | (simp only [sA, sC, sD, sE]; omega) | (simp; done) | (simp; omega)
set_option maxRecDepth 100000 in
set_option maxHeartbeats 1000000 in
theorem rx_fault (k n d : Int) (t : ByteArray) (b : Bool) (f : Int) (w : World) (v : Vl) (HT : Hid (∀ wx, Calls Tryz.prog 41 #[.agg #[.int .i64 k, .int .i64 n, .int .i64 d, .string t, .bool b, .int .i64 f]] wx fun e w' => e = .returned (.agg #[.int .i64 (v).k, .int .i64 (v).n, .int .i64 (v).d, .string (v).t, .bool (v).b, .int .i64 (v).f]) ∧ Below wx.heap.size wx w')) (hk : v.k = 4) :
    Calls Tryz.prog 86 #[.agg #[.int .i64 k, .int .i64 n, .int .i64 d, .string t, .bool b, .int .i64 f]] w fun e w' => e = .returned (.tuple #[.string (asTxtT v).t, .agg #[.int .i64 ((asTxtT v).e).k, .int .i64 ((asTxtT v).e).n, .int .i64 ((asTxtT v).e).d, .string ((asTxtT v).e).t, .bool ((asTxtT v).e).b, .int .i64 ((asTxtT v).e).f]]) ∧ Below w.heap.size w w' := by
  have HF : Hid (asTxtT v = ⟨⟨#[]⟩, v⟩) := by unfold Hid asTxtT; rw [if_pos hk]
  have k1 : (v.k == 1) = false := by simp [hk]
  have k2 : (v.k == 2) = false := by simp [hk]
  have k3 : (v.k == 3) = false := by simp [hk]
  have k4 : (v.k == 4) = true := by simp [hk]
  clear hk
  generalize asTxtT v = R at *
  go_enter Tryz.func86, Tryz.ntmps86
  go_wp2_with fail
  refine (HT.out _).mono ?_
  rintro e w1 ⟨rfl, hb⟩
  obtain ⟨s61, c61_0, c61_1, c61_2, c61_3, c61_4, c61_5, f61⟩ := L6 hb (w.heap.size) (by first | omega | (simp only [sA, sC, sD, sE]; omega) | (simp; done) | (simp; omega)) (by go_simp; exact ⟨rfl, rfl, rfl, rfl, rfl, rfl⟩) (by intro o; go_simp)
  obtain ⟨s62, c62_0, c62_1, c62_2, c62_3, c62_4, c62_5, f62⟩ := L6 hb (w.heap.size + 1) (by first | omega | (simp only [sA, sC, sD, sE]; omega) | (simp; done) | (simp; omega)) (by go_simp; exact ⟨rfl, rfl, rfl, rfl, rfl, rfl⟩) (by intro o; go_simp)
  go_upto_region 2 with (fail)
  first | with_reducible refine wp_rebase ?_ | with_reducible refine wpList_rebase ?_
  intro w1 hb'
  have hb := hb'.out
  clear hb'
  obtain ⟨s63, c63_0, c63_1, c63_2, c63_3, c63_4, c63_5, f63⟩ := L6 hb (w.heap.size) (by first | omega | (simp only [sA, sC, sD, sE]; omega) | (simp; done) | (simp; omega)) (by go_simp; exact ⟨rfl, rfl, rfl, rfl, rfl, rfl⟩) (by intro o; go_simp)
  obtain ⟨s64, c64_0, c64_1, c64_2, c64_3, c64_4, c64_5, f64⟩ := L6 hb (w.heap.size + 1) (by first | omega | (simp only [sA, sC, sD, sE]; omega) | (simp; done) | (simp; omega)) (by go_simp; exact ⟨rfl, rfl, rfl, rfl, rfl, rfl⟩) (by intro o; go_simp)
  clear c61_0 c61_1 c61_2 c61_3 c61_4 c61_5 f61 c62_0 c62_1 c62_2 c62_3 c62_4 c62_5 f62
  go_upto_region 10 with (fail)
  go_region
  go_wp2
  refine bodyPost_ret (v := .tuple #[.string R.t, .agg #[.int .i64 (R.e).k, .int .i64 (R.e).n, .int .i64 (R.e).d, .string (R.e).t, .bool (R.e).b, .int .i64 (R.e).f]]) (by rw [HF.out]; simp [results, Tryz.results86, go_sem, c63_0, c63_1, c63_2, c63_3, c63_4, c63_5, c64_0, c64_1, c64_2, c64_3, c64_4, c64_5]) rfl ⟨rfl, ?_⟩
  focus
    repeat with_reducible first | exact Below.refl _ _ | refine below_drewN ?_ _ | refine Below.drew ?_ | refine Below.setCell ?_ ?_ _ | refine Below.alloc ?_ ?_ _ | refine below_then ?_ ?_ (by with_reducible assumption)
    all_goals first | omega | (simp only [sA, sC, sD, sE]; omega) | (simp; done) | (simp; omega)
set_option maxRecDepth 100000 in
set_option maxHeartbeats 1000000 in
theorem rx_blank (k n d : Int) (t : ByteArray) (b : Bool) (f : Int) (w : World) (v : Vl) (HT : Hid (∀ wx, Calls Tryz.prog 41 #[.agg #[.int .i64 k, .int .i64 n, .int .i64 d, .string t, .bool b, .int .i64 f]] wx fun e w' => e = .returned (.agg #[.int .i64 (v).k, .int .i64 (v).n, .int .i64 (v).d, .string (v).t, .bool (v).b, .int .i64 (v).f]) ∧ Below wx.heap.size wx w')) (h0 : v.t = ⟨#[]⟩) (hk : v.k = 0) :
    Calls Tryz.prog 86 #[.agg #[.int .i64 k, .int .i64 n, .int .i64 d, .string t, .bool b, .int .i64 f]] w fun e w' => e = .returned (.tuple #[.string (asTxtT v).t, .agg #[.int .i64 ((asTxtT v).e).k, .int .i64 ((asTxtT v).e).n, .int .i64 ((asTxtT v).e).d, .string ((asTxtT v).e).t, .bool ((asTxtT v).e).b, .int .i64 ((asTxtT v).e).f]]) ∧ Below w.heap.size w w' := by
  have HF : Hid (asTxtT v = ⟨⟨#[]⟩, blankV⟩) := by unfold Hid asTxtT; rw [if_neg (by omega), if_neg (by omega), if_neg (by omega), h0]
  have k1 : (v.k == 1) = false := by simp [hk]
  have k2 : (v.k == 2) = false := by simp [hk]
  have k3 : (v.k == 3) = false := by simp [hk]
  have k4 : (v.k == 4) = false := by simp [hk]
  clear hk
  generalize asTxtT v = R at *
  go_enter Tryz.func86, Tryz.ntmps86
  go_wp2_with fail
  refine (HT.out _).mono ?_
  rintro e w1 ⟨rfl, hb⟩
  obtain ⟨s65, c65_0, c65_1, c65_2, c65_3, c65_4, c65_5, f65⟩ := L6 hb (w.heap.size) (by first | omega | (simp only [sA, sC, sD, sE]; omega) | (simp; done) | (simp; omega)) (by go_simp; exact ⟨rfl, rfl, rfl, rfl, rfl, rfl⟩) (by intro o; go_simp)
  obtain ⟨s66, c66_0, c66_1, c66_2, c66_3, c66_4, c66_5, f66⟩ := L6 hb (w.heap.size + 1) (by first | omega | (simp only [sA, sC, sD, sE]; omega) | (simp; done) | (simp; omega)) (by go_simp; exact ⟨rfl, rfl, rfl, rfl, rfl, rfl⟩) (by intro o; go_simp)
  go_upto_region 2 with (fail)
  first | with_reducible refine wp_rebase ?_ | with_reducible refine wpList_rebase ?_
  intro w1 hb'
  have hb := hb'.out
  clear hb'
  obtain ⟨s67, c67_0, c67_1, c67_2, c67_3, c67_4, c67_5, f67⟩ := L6 hb (w.heap.size) (by first | omega | (simp only [sA, sC, sD, sE]; omega) | (simp; done) | (simp; omega)) (by go_simp; exact ⟨rfl, rfl, rfl, rfl, rfl, rfl⟩) (by intro o; go_simp)
  obtain ⟨s68, c68_0, c68_1, c68_2, c68_3, c68_4, c68_5, f68⟩ := L6 hb (w.heap.size + 1) (by first | omega | (simp only [sA, sC, sD, sE]; omega) | (simp; done) | (simp; omega)) (by go_simp; exact ⟨rfl, rfl, rfl, rfl, rfl, rfl⟩) (by intro o; go_simp)
  clear c65_0 c65_1 c65_2 c65_3 c65_4 c65_5 f65 c66_0 c66_1 c66_2 c66_3 c66_4 c66_5 f66
  go_wp2
  refine bodyPost_ret (v := .tuple #[.string R.t, .agg #[.int .i64 (R.e).k, .int .i64 (R.e).n, .int .i64 (R.e).d, .string (R.e).t, .bool (R.e).b, .int .i64 (R.e).f]]) (by rw [HF.out]; simp [results, Tryz.results86, go_sem, c67_0, c67_1, c67_2, c67_3, c67_4, c67_5, c68_0, c68_1, c68_2, c68_3, c68_4, c68_5, blankV, noT]) rfl ⟨rfl, ?_⟩
  focus
    repeat with_reducible first | exact Below.refl _ _ | refine below_drewN ?_ _ | refine Below.drew ?_ | refine Below.setCell ?_ ?_ _ | refine Below.alloc ?_ ?_ _ | refine below_then ?_ ?_ (by with_reducible assumption)
    all_goals first | omega | (simp only [sA, sC, sD, sE]; omega) | (simp; done) | (simp; omega)
theorem r2_AsText (x : Vl) (w : World) (hx : x.In) :
    Calls Tryz.prog 86 #[.agg #[.int .i64 (x).k, .int .i64 (x).n, .int .i64 (x).d, .string (x).t, .bool (x).b, .int .i64 (x).f]] w fun e w' => e = .returned (.tuple #[.string (asTxt x).t, .agg #[.int .i64 ((asTxt x).e).k, .int .i64 ((asTxt x).e).n, .int .i64 ((asTxt x).e).d, .string ((asTxt x).e).t, .bool ((asTxt x).e).b, .int .i64 ((asTxt x).e).f]]) ∧ Below w.heap.size w w' := by
  obtain ⟨k, n, d, t, b, f⟩ := x
  have hv := tkV_right ⟨k, n, d, t, b, f⟩
  have HT := Lib.hid fun wx => r2_Of k n d t b f wx hx
  show Calls _ _ _ _ fun e w' => e = .returned (.tuple #[.string (asTxtT (tkV ⟨k, n, d, t, b, f⟩)).t, .agg #[.int .i64 ((asTxtT (tkV ⟨k, n, d, t, b, f⟩)).e).k, .int .i64 ((asTxtT (tkV ⟨k, n, d, t, b, f⟩)).e).n, .int .i64 ((asTxtT (tkV ⟨k, n, d, t, b, f⟩)).e).d, .string ((asTxtT (tkV ⟨k, n, d, t, b, f⟩)).e).t, .bool ((asTxtT (tkV ⟨k, n, d, t, b, f⟩)).e).b, .int .i64 ((asTxtT (tkV ⟨k, n, d, t, b, f⟩)).e).f]]) ∧ _
  generalize tkV ⟨k, n, d, t, b, f⟩ = v at *
  have hin := right_in hv
  rcases rightV_cases hv with e | ⟨_, e⟩ | ⟨_, _, e⟩ | e | ⟨_, _, e⟩
  · exact rx_blank _ _ _ _ _ _ _ _ HT (by rw [e]; rfl) (by rw [e]; rfl)
  · exact rx_num _ _ _ _ _ _ _ _ HT hin.n hin.d (by rw [e]; rfl)
  · exact rx_text _ _ _ _ _ _ _ _ HT (by rw [e]; rfl)
  · exact rx_truth _ _ _ _ _ _ _ _ HT (by rw [e]; rfl)
  · exact rx_fault _ _ _ _ _ _ _ _ HT (by rw [e]; rfl)
end Go.Proofs.YtglngfaagjgpjaaGreatDoor
