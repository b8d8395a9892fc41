/- Walks of package value, third part: AsNumber. -/
import Derived.Test.YtnimenpfojcehaaGreatDoorValB
import Derived.Test.YtnimenpfojcehaaGreatDoorBase
import Derived.Test.YtnimenpfojcehaaGreatDoorNumG
import Derived.RegionTactic
import Derived.Deep.RegionHeld3
import Derived.ChangeAlike
import Derived.Deep.Cut
namespace Go.Proofs.YtnimenpfojcehaaGreatDoor
open Go.RowKit
set_option linter.unusedSimpArgs false
set_option linter.unusedVariables false

set_option maxHeartbeats 1000000 in
theorem asn_blank (k n d : Int) (t : ByteArray) (b : Bool) (f : Int) (w : World) (v : Vl) (HT : Hid (∀ wx, Calls Tryz.prog 52 #[.agg #[.int .i64 k, .int .i64 n, .int .i64 d, .string t, .bool b, .int .i64 f]] wx fun e w' => e = .returned (.agg #[.int .i64 (v).k, .int .i64 (v).n, .int .i64 (v).d, .string (v).t, .bool (v).b, .int .i64 (v).f]) ∧ Below wx.heap.size wx w')) (hin : v.In) (hk : v.k = 0) :
    Calls Tryz.prog 56 #[.agg #[.int .i64 k, .int .i64 n, .int .i64 d, .string t, .bool b, .int .i64 f]] w fun e w' => e = .returned (.tuple #[.agg #[.int .i64 (asNumT v).n, .int .i64 (asNumT v).d], .agg #[.int .i64 ((asNumT v).e).k, .int .i64 ((asNumT v).e).n, .int .i64 ((asNumT v).e).d, .string ((asNumT v).e).t, .bool ((asNumT v).e).b, .int .i64 ((asNumT v).e).f]]) ∧ Below w.heap.size w w' := by
  have HF : Hid (asNumT v = ⟨0, 1, blankV⟩) := by unfold Hid asNumT; rw [if_neg (by omega), if_neg (by omega), if_pos hk]
  have k0 : (v.k == 0) = true := by simp [hk]
  have k1 : (v.k == 1) = false := by simp [hk]
  have k2 : (v.k == 2) = false := by simp [hk]
  have k3 : (v.k == 3) = false := by simp [hk]
  clear hk
  generalize asNumT v = R at *
  go_enter Tryz.func56, Tryz.ntmps56
  go_wp2_with fail
  refine (HT.out _).mono ?_
  rintro e w1 ⟨rfl, hb⟩
  obtain ⟨s1, c1_0, c1_1, c1_2, c1_3, c1_4, c1_5, f1⟩ := L6 hb (w.heap.size) (by first | omega | (simp only [sA, sC, sD, sE]; omega) | (simp; done) | (simp; omega)) (by go_simp; exact ⟨rfl, rfl, rfl, rfl, rfl, rfl⟩) (by intro o; go_simp)
  obtain ⟨s2, c2_0, c2_1, f2⟩ := L2 hb (w.heap.size + 1) (by first | omega | (simp only [sA, sC, sD, sE]; omega) | (simp; done) | (simp; omega)) (by go_simp; exact ⟨rfl, rfl⟩) (by intro o; go_simp)
  obtain ⟨s3, c3_0, c3_1, c3_2, c3_3, c3_4, c3_5, f3⟩ := L6 hb (w.heap.size + 1 + 1) (by first | omega | (simp only [sA, sC, sD, sE]; omega) | (simp; done) | (simp; omega)) (by go_simp; exact ⟨rfl, rfl, rfl, rfl, rfl, rfl⟩) (by intro o; go_simp)
  go_upto_region 2 with (fail)
  first | with_reducible refine wp_rebase ?_ | with_reducible refine wpList_rebase ?_
  intro w1 hb'
  have hb := hb'.out
  clear hb'
  obtain ⟨s4, c4_0, c4_1, c4_2, c4_3, c4_4, c4_5, f4⟩ := L6 hb (w.heap.size) (by first | omega | (simp only [sA, sC, sD, sE]; omega) | (simp; done) | (simp; omega)) (by go_simp; exact ⟨rfl, rfl, rfl, rfl, rfl, rfl⟩) (by intro o; go_simp)
  obtain ⟨s5, c5_0, c5_1, f5⟩ := L2 hb (w.heap.size + 1) (by first | omega | (simp only [sA, sC, sD, sE]; omega) | (simp; done) | (simp; omega)) (by go_simp; exact ⟨rfl, rfl⟩) (by intro o; go_simp)
  obtain ⟨s6, c6_0, c6_1, c6_2, c6_3, c6_4, c6_5, f6⟩ := L6 hb (w.heap.size + 1 + 1) (by first | omega | (simp only [sA, sC, sD, sE]; omega) | (simp; done) | (simp; omega)) (by go_simp; exact ⟨rfl, rfl, rfl, rfl, rfl, rfl⟩) (by intro o; go_simp)
  clear c1_0 c1_1 c1_2 c1_3 c1_4 c1_5 f1 c2_0 c2_1 f2 c3_0 c3_1 c3_2 c3_3 c3_4 c3_5 f3
  go_wp2_with fail
  refine (value_number _ _).mono ?_
  rintro e w2 ⟨rfl, hb2⟩
  obtain ⟨s7, c7_0, c7_1, c7_2, c7_3, c7_4, c7_5, f7⟩ := L6 hb2 (w.heap.size) (by first | omega | (simp only [sA, sC, sD, sE]; omega) | (simp; done) | (simp; omega)) (by go_simp; exact ⟨rfl, rfl, rfl, rfl, rfl, rfl⟩) (by intro o; go_simp)
  obtain ⟨s8, c8_0, c8_1, f8⟩ := L2 hb2 (w.heap.size + 1) (by first | omega | (simp only [sA, sC, sD, sE]; omega) | (simp; done) | (simp; omega)) (by go_simp; exact ⟨rfl, rfl⟩) (by intro o; go_simp)
  obtain ⟨s9, c9_0, c9_1, c9_2, c9_3, c9_4, c9_5, f9⟩ := L6 hb2 (w.heap.size + 1 + 1) (by first | omega | (simp only [sA, sC, sD, sE]; omega) | (simp; done) | (simp; omega)) (by go_simp; exact ⟨rfl, rfl, rfl, rfl, rfl, rfl⟩) (by intro o; go_simp)
  clear c4_0 c4_1 c4_2 c4_3 c4_4 c4_5 f4 c5_0 c5_1 f5 c6_0 c6_1 c6_2 c6_3 c6_4 c6_5 f6
  go_wp2_with fail
  refine (value_Blank _).mono ?_
  rintro e w3 ⟨rfl, hb3⟩
  obtain ⟨s10, c10_0, c10_1, f10⟩ := L2 hb3 (w.heap.size + 1) (by first | omega | (simp only [sA, sC, sD, sE]; omega) | (simp; done) | (simp; omega)) (by go_simp; exact ⟨rfl, rfl⟩) (by intro o; go_simp)
  obtain ⟨s11, c11_0, c11_1, c11_2, c11_3, c11_4, c11_5, f11⟩ := L6 hb3 (w.heap.size + 1 + 1) (by first | omega | (simp only [sA, sC, sD, sE]; omega) | (simp; done) | (simp; omega)) (by go_simp; exact ⟨rfl, rfl, rfl, rfl, rfl, rfl⟩) (by intro o; go_simp)
  clear c7_0 c7_1 c7_2 c7_3 c7_4 c7_5 f7 c8_0 c8_1 f8 c9_0 c9_1 c9_2 c9_3 c9_4 c9_5 f9
  go_wp2
  refine bodyPost_ret (v := .tuple #[.agg #[.int .i64 R.n, .int .i64 R.d], .agg #[.int .i64 (R.e).k, .int .i64 (R.e).n, .int .i64 (R.e).d, .string (R.e).t, .bool (R.e).b, .int .i64 (R.e).f]]) (by rw [HF.out]; simp [results, Tryz.results56, go_sem, c10_0, c10_1, c11_0, c11_1, c11_2, c11_3, c11_4, c11_5]) rfl ⟨rfl, ?_⟩
  focus
    repeat with_reducible first | exact Below.refl _ _ | refine below_drewN ?_ _ | refine Below.drew ?_ | refine Below.setCell ?_ ?_ _ | refine Below.alloc ?_ ?_ _ | refine below_then ?_ ?_ (by with_reducible assumption)
    all_goals first | omega | (simp only [sA, sC, sD, sE]; omega) | (simp; done) | (simp; omega)

set_option maxHeartbeats 1000000 in
theorem asn_num (k n d : Int) (t : ByteArray) (b : Bool) (f : Int) (w : World) (v : Vl) (HT : Hid (∀ wx, Calls Tryz.prog 52 #[.agg #[.int .i64 k, .int .i64 n, .int .i64 d, .string t, .bool b, .int .i64 f]] wx fun e w' => e = .returned (.agg #[.int .i64 (v).k, .int .i64 (v).n, .int .i64 (v).d, .string (v).t, .bool (v).b, .int .i64 (v).f]) ∧ Below wx.heap.size wx w')) (hin : v.In) (hk : v.k = 1) :
    Calls Tryz.prog 56 #[.agg #[.int .i64 k, .int .i64 n, .int .i64 d, .string t, .bool b, .int .i64 f]] w fun e w' => e = .returned (.tuple #[.agg #[.int .i64 (asNumT v).n, .int .i64 (asNumT v).d], .agg #[.int .i64 ((asNumT v).e).k, .int .i64 ((asNumT v).e).n, .int .i64 ((asNumT v).e).d, .string ((asNumT v).e).t, .bool ((asNumT v).e).b, .int .i64 ((asNumT v).e).f]]) ∧ Below w.heap.size w w' := by
  have HF : Hid (asNumT v = ⟨v.n, v.d, blankV⟩) := by unfold Hid asNumT; rw [if_pos hk]
  have k0 : (v.k == 0) = false := by simp [hk]
  have k1 : (v.k == 1) = true := by simp [hk]
  have k2 : (v.k == 2) = false := by simp [hk]
  have k3 : (v.k == 3) = false := by simp [hk]
  clear hk
  generalize asNumT v = R at *
  go_enter Tryz.func56, Tryz.ntmps56
  go_wp2_with fail
  refine (HT.out _).mono ?_
  rintro e w1 ⟨rfl, hb⟩
  obtain ⟨s12, c12_0, c12_1, c12_2, c12_3, c12_4, c12_5, f12⟩ := L6 hb (w.heap.size) (by first | omega | (simp only [sA, sC, sD, sE]; omega) | (simp; done) | (simp; omega)) (by go_simp; exact ⟨rfl, rfl, rfl, rfl, rfl, rfl⟩) (by intro o; go_simp)
  obtain ⟨s13, c13_0, c13_1, f13⟩ := L2 hb (w.heap.size + 1) (by first | omega | (simp only [sA, sC, sD, sE]; omega) | (simp; done) | (simp; omega)) (by go_simp; exact ⟨rfl, rfl⟩) (by intro o; go_simp)
  obtain ⟨s14, c14_0, c14_1, c14_2, c14_3, c14_4, c14_5, f14⟩ := L6 hb (w.heap.size + 1 + 1) (by first | omega | (simp only [sA, sC, sD, sE]; omega) | (simp; done) | (simp; omega)) (by go_simp; exact ⟨rfl, rfl, rfl, rfl, rfl, rfl⟩) (by intro o; go_simp)
  go_upto_region 2 with (fail)
  first | with_reducible refine wp_rebase ?_ | with_reducible refine wpList_rebase ?_
  intro w1 hb'
  have hb := hb'.out
  clear hb'
  obtain ⟨s15, c15_0, c15_1, c15_2, c15_3, c15_4, c15_5, f15⟩ := L6 hb (w.heap.size) (by first | omega | (simp only [sA, sC, sD, sE]; omega) | (simp; done) | (simp; omega)) (by go_simp; exact ⟨rfl, rfl, rfl, rfl, rfl, rfl⟩) (by intro o; go_simp)
  obtain ⟨s16, c16_0, c16_1, f16⟩ := L2 hb (w.heap.size + 1) (by first | omega | (simp only [sA, sC, sD, sE]; omega) | (simp; done) | (simp; omega)) (by go_simp; exact ⟨rfl, rfl⟩) (by intro o; go_simp)
  obtain ⟨s17, c17_0, c17_1, c17_2, c17_3, c17_4, c17_5, f17⟩ := L6 hb (w.heap.size + 1 + 1) (by first | omega | (simp only [sA, sC, sD, sE]; omega) | (simp; done) | (simp; omega)) (by go_simp; exact ⟨rfl, rfl, rfl, rfl, rfl, rfl⟩) (by intro o; go_simp)
  clear c12_0 c12_1 c12_2 c12_3 c12_4 c12_5 f12 c13_0 c13_1 f13 c14_0 c14_1 c14_2 c14_3 c14_4 c14_5 f14
  go_wp2_with fail
  refine region_below 3 (by kernel_rfl) (by kernel_rfl) ?_
  simp only [List.take_succ_cons, List.take_zero, List.drop_succ_cons, List.drop_zero]
  repeat
    first | (refine q_run ?_ ?_; focus (go_simp; done)) | (refine q_skip ?_ ?_; focus (go_simp; done))
    try (apply Exists.intro; refine ⟨fun w' hw' => ?_, ?_⟩; focus (have hc := (bcell hw'.out).1; unfold Oper.quietAt; go_simp; (try go_ints); (first | rfl | (go_at_call 77; refine (value_Blank _).mono ?_; rintro e w2 ⟨rfl, hb⟩; exact ⟨rfl, hw'.chain hb⟩))))
    intro K hK
    go_simp
    refine hK _ ?_
    clear hK K
  refine wpQuiet_nil ?_
  intro w1 hb'
  have hb := hb'.out
  clear hb'
  obtain ⟨s18, c18_0, c18_1, f18⟩ := L2 hb (w.heap.size + 1) (by first | omega | (simp only [sA, sC, sD, sE]; omega) | (simp; done) | (simp; omega)) (by go_simp; exact ⟨rfl, rfl⟩) (by intro o; go_simp)
  obtain ⟨s19, c19_0, c19_1, c19_2, c19_3, c19_4, c19_5, f19⟩ := L6 hb (w.heap.size + 1 + 1) (by first | omega | (simp only [sA, sC, sD, sE]; omega) | (simp; done) | (simp; omega)) (by go_simp; exact ⟨rfl, rfl, rfl, rfl, rfl, rfl⟩) (by intro o; go_simp)
  clear c15_0 c15_1 c15_2 c15_3 c15_4 c15_5 f15 c16_0 c16_1 f16 c17_0 c17_1 c17_2 c17_3 c17_4 c17_5 f17
  go_wp2
  refine bodyPost_ret (v := .tuple #[.agg #[.int .i64 R.n, .int .i64 R.d], .agg #[.int .i64 (R.e).k, .int .i64 (R.e).n, .int .i64 (R.e).d, .string (R.e).t, .bool (R.e).b, .int .i64 (R.e).f]]) (by rw [HF.out]; simp [results, Tryz.results56, go_sem, c18_0, c18_1, c19_0, c19_1, c19_2, c19_3, c19_4, c19_5]) rfl ⟨rfl, ?_⟩
  focus
    repeat with_reducible first | exact Below.refl _ _ | refine below_drewN ?_ _ | refine Below.drew ?_ | refine Below.setCell ?_ ?_ _ | refine Below.alloc ?_ ?_ _ | refine below_then ?_ ?_ (by with_reducible assumption)
    all_goals first | omega | (simp only [sA, sC, sD, sE]; omega) | (simp; done) | (simp; omega)

set_option maxHeartbeats 1000000 in
theorem asn_textno (k n d : Int) (t : ByteArray) (b : Bool) (f : Int) (w : World) (v : Vl) (HT : Hid (∀ wx, Calls Tryz.prog 52 #[.agg #[.int .i64 k, .int .i64 n, .int .i64 d, .string t, .bool b, .int .i64 f]] wx fun e w' => e = .returned (.agg #[.int .i64 (v).k, .int .i64 (v).n, .int .i64 (v).d, .string (v).t, .bool (v).b, .int .i64 (v).f]) ∧ Below wx.heap.size wx w')) (hin : v.In) (hk : v.k = 2) (hok : (readN v.t.data.toList).ok = false) :
    Calls Tryz.prog 56 #[.agg #[.int .i64 k, .int .i64 n, .int .i64 d, .string t, .bool b, .int .i64 f]] w fun e w' => e = .returned (.tuple #[.agg #[.int .i64 (asNumT v).n, .int .i64 (asNumT v).d], .agg #[.int .i64 ((asNumT v).e).k, .int .i64 ((asNumT v).e).n, .int .i64 ((asNumT v).e).d, .string ((asNumT v).e).t, .bool ((asNumT v).e).b, .int .i64 ((asNumT v).e).f]]) ∧ Below w.heap.size w w' := by
  have ht := hin.t
  have HR := Lib.hid fun wx => num_Read v.t wx ht
  have HF : Hid (asNumT v = ⟨0, 0, faultF 2⟩) := by unfold Hid asNumT; rw [if_neg (by omega), if_neg (by omega), if_neg (by omega), if_pos hk, hok]; rfl
  rw [hok] at HR
  generalize readN v.t.data.toList = Q at *
  clear hok
  have k0 : (v.k == 0) = false := by simp [hk]
  have k1 : (v.k == 1) = false := by simp [hk]
  have k2 : (v.k == 2) = true := by simp [hk]
  have k3 : (v.k == 3) = false := by simp [hk]
  clear hk
  generalize asNumT v = R at *
  go_enter Tryz.func56, Tryz.ntmps56
  go_wp2_with fail
  refine (HT.out _).mono ?_
  rintro e w1 ⟨rfl, hb⟩
  obtain ⟨s20, c20_0, c20_1, c20_2, c20_3, c20_4, c20_5, f20⟩ := L6 hb (w.heap.size) (by first | omega | (simp only [sA, sC, sD, sE]; omega) | (simp; done) | (simp; omega)) (by go_simp; exact ⟨rfl, rfl, rfl, rfl, rfl, rfl⟩) (by intro o; go_simp)
  obtain ⟨s21, c21_0, c21_1, f21⟩ := L2 hb (w.heap.size + 1) (by first | omega | (simp only [sA, sC, sD, sE]; omega) | (simp; done) | (simp; omega)) (by go_simp; exact ⟨rfl, rfl⟩) (by intro o; go_simp)
  obtain ⟨s22, c22_0, c22_1, c22_2, c22_3, c22_4, c22_5, f22⟩ := L6 hb (w.heap.size + 1 + 1) (by first | omega | (simp only [sA, sC, sD, sE]; omega) | (simp; done) | (simp; omega)) (by go_simp; exact ⟨rfl, rfl, rfl, rfl, rfl, rfl⟩) (by intro o; go_simp)
  go_upto_region 2 with (fail)
  first | with_reducible refine wp_rebase ?_ | with_reducible refine wpList_rebase ?_
  intro w1 hb'
  have hb := hb'.out
  clear hb'
  obtain ⟨s23, c23_0, c23_1, c23_2, c23_3, c23_4, c23_5, f23⟩ := L6 hb (w.heap.size) (by first | omega | (simp only [sA, sC, sD, sE]; omega) | (simp; done) | (simp; omega)) (by go_simp; exact ⟨rfl, rfl, rfl, rfl, rfl, rfl⟩) (by intro o; go_simp)
  obtain ⟨s24, c24_0, c24_1, f24⟩ := L2 hb (w.heap.size + 1) (by first | omega | (simp only [sA, sC, sD, sE]; omega) | (simp; done) | (simp; omega)) (by go_simp; exact ⟨rfl, rfl⟩) (by intro o; go_simp)
  obtain ⟨s25, c25_0, c25_1, c25_2, c25_3, c25_4, c25_5, f25⟩ := L6 hb (w.heap.size + 1 + 1) (by first | omega | (simp only [sA, sC, sD, sE]; omega) | (simp; done) | (simp; omega)) (by go_simp; exact ⟨rfl, rfl, rfl, rfl, rfl, rfl⟩) (by intro o; go_simp)
  clear c20_0 c20_1 c20_2 c20_3 c20_4 c20_5 f20 c21_0 c21_1 f21 c22_0 c22_1 c22_2 c22_3 c22_4 c22_5 f22
  go_wp2_with fail
  refine (HR.out _).mono ?_
  rintro e w2 ⟨rfl, hb2⟩
  obtain ⟨s26, c26_0, c26_1, c26_2, c26_3, c26_4, c26_5, f26⟩ := L6 hb2 (w.heap.size) (by first | omega | (simp only [sA, sC, sD, sE]; omega) | (simp; done) | (simp; omega)) (by go_simp; exact ⟨rfl, rfl, rfl, rfl, rfl, rfl⟩) (by intro o; go_simp)
  obtain ⟨s27, c27_0, c27_1, f27⟩ := L2 hb2 (w.heap.size + 1) (by first | omega | (simp only [sA, sC, sD, sE]; omega) | (simp; done) | (simp; omega)) (by go_simp; exact ⟨rfl, rfl⟩) (by intro o; go_simp)
  obtain ⟨s28, c28_0, c28_1, c28_2, c28_3, c28_4, c28_5, f28⟩ := L6 hb2 (w.heap.size + 1 + 1) (by first | omega | (simp only [sA, sC, sD, sE]; omega) | (simp; done) | (simp; omega)) (by go_simp; exact ⟨rfl, rfl, rfl, rfl, rfl, rfl⟩) (by intro o; go_simp)
  clear c23_0 c23_1 c23_2 c23_3 c23_4 c23_5 f23 c24_0 c24_1 f24 c25_0 c25_1 c25_2 c25_3 c25_4 c25_5 f25
  go_wp2_with fail
  refine (value_Fault _ _).mono ?_
  rintro e w3 ⟨rfl, hb3⟩
  obtain ⟨s29, c29_0, c29_1, c29_2, c29_3, c29_4, c29_5, f29⟩ := L6 hb3 (w.heap.size) (by first | omega | (simp only [sA, sC, sD, sE]; omega) | (simp; done) | (simp; omega)) (by go_simp; exact ⟨rfl, rfl, rfl, rfl, rfl, rfl⟩) (by intro o; go_simp)
  obtain ⟨s30, c30_0, c30_1, f30⟩ := L2 hb3 (w.heap.size + 1) (by first | omega | (simp only [sA, sC, sD, sE]; omega) | (simp; done) | (simp; omega)) (by go_simp; exact ⟨rfl, rfl⟩) (by intro o; go_simp)
  obtain ⟨s31, c31_0, c31_1, c31_2, c31_3, c31_4, c31_5, f31⟩ := L6 hb3 (w.heap.size + 1 + 1) (by first | omega | (simp only [sA, sC, sD, sE]; omega) | (simp; done) | (simp; omega)) (by go_simp; exact ⟨rfl, rfl, rfl, rfl, rfl, rfl⟩) (by intro o; go_simp)
  clear c26_0 c26_1 c26_2 c26_3 c26_4 c26_5 f26 c27_0 c27_1 f27 c28_0 c28_1 c28_2 c28_3 c28_4 c28_5 f28
  go_upto_region 15 with (fail)
  first | with_reducible refine wp_rebase ?_ | with_reducible refine wpList_rebase ?_
  intro w1 hb'
  have hb := hb'.out
  clear hb'
  obtain ⟨s32, c32_0, c32_1, c32_2, c32_3, c32_4, c32_5, f32⟩ := L6 hb (w.heap.size) (by first | omega | (simp only [sA, sC, sD, sE]; omega) | (simp; done) | (simp; omega)) (by go_simp; exact ⟨rfl, rfl, rfl, rfl, rfl, rfl⟩) (by intro o; go_simp)
  obtain ⟨s33, c33_0, c33_1, f33⟩ := L2 hb (w.heap.size + 1) (by first | omega | (simp only [sA, sC, sD, sE]; omega) | (simp; done) | (simp; omega)) (by go_simp; exact ⟨rfl, rfl⟩) (by intro o; go_simp)
  obtain ⟨s34, c34_0, c34_1, c34_2, c34_3, c34_4, c34_5, f34⟩ := L6 hb (w.heap.size + 1 + 1) (by first | omega | (simp only [sA, sC, sD, sE]; omega) | (simp; done) | (simp; omega)) (by go_simp; exact ⟨rfl, rfl, rfl, rfl, rfl, rfl⟩) (by intro o; go_simp)
  clear c29_0 c29_1 c29_2 c29_3 c29_4 c29_5 f29 c30_0 c30_1 f30 c31_0 c31_1 c31_2 c31_3 c31_4 c31_5 f31
  go_region_held3 (fun w' => w'.cell? ⟨w.heap.size, 0, none⟩ = some (.int .i64 (faultF 2).k) ∧ w'.cell? ⟨w.heap.size, 1, none⟩ = some (.int .i64 (faultF 2).n) ∧ w'.cell? ⟨w.heap.size, 2, none⟩ = some (.int .i64 (faultF 2).d) ∧ w'.cell? ⟨w.heap.size, 3, none⟩ = some (.string (faultF 2).t) ∧ w'.cell? ⟨w.heap.size, 4, none⟩ = some (.bool (faultF 2).b) ∧ w'.cell? ⟨w.heap.size, 5, none⟩ = some (.int .i64 (faultF 2).f)) ((first | (refine ⟨?_, ?_, ?_, ?_, ?_, ?_⟩ <;> (go_simp; done)) | go_keep)) (fail)
  rename_i kK kA hHeld
  clear hHeld
  go_wp2
  refine bodyPost_ret (v := .tuple #[.agg #[.int .i64 R.n, .int .i64 R.d], .agg #[.int .i64 (R.e).k, .int .i64 (R.e).n, .int .i64 (R.e).d, .string (R.e).t, .bool (R.e).b, .int .i64 (R.e).f]]) (by rw [HF.out]; simp [results, Tryz.results56, go_sem, c32_0, c32_1, c32_2, c32_3, c32_4, c32_5, c33_0, c33_1, c34_0, c34_1, c34_2, c34_3, c34_4, c34_5]) rfl ⟨rfl, ?_⟩
  focus
    repeat with_reducible first | exact Below.refl _ _ | refine below_drewN ?_ _ | refine Below.drew ?_ | refine Below.setCell ?_ ?_ _ | refine Below.alloc ?_ ?_ _ | refine below_then ?_ ?_ (by with_reducible assumption)
    all_goals first | omega | (simp only [sA, sC, sD, sE]; omega) | (simp; done) | (simp; omega)

set_option maxHeartbeats 1000000 in
theorem asn_text (k n d : Int) (t : ByteArray) (b : Bool) (f : Int) (w : World) (v : Vl) (HT : Hid (∀ wx, Calls Tryz.prog 52 #[.agg #[.int .i64 k, .int .i64 n, .int .i64 d, .string t, .bool b, .int .i64 f]] wx fun e w' => e = .returned (.agg #[.int .i64 (v).k, .int .i64 (v).n, .int .i64 (v).d, .string (v).t, .bool (v).b, .int .i64 (v).f]) ∧ Below wx.heap.size wx w')) (hin : v.In) (hk : v.k = 2) (hok : (readN v.t.data.toList).ok = true) :
    Calls Tryz.prog 56 #[.agg #[.int .i64 k, .int .i64 n, .int .i64 d, .string t, .bool b, .int .i64 f]] w fun e w' => e = .returned (.tuple #[.agg #[.int .i64 (asNumT v).n, .int .i64 (asNumT v).d], .agg #[.int .i64 ((asNumT v).e).k, .int .i64 ((asNumT v).e).n, .int .i64 ((asNumT v).e).d, .string ((asNumT v).e).t, .bool ((asNumT v).e).b, .int .i64 ((asNumT v).e).f]]) ∧ Below w.heap.size w w' := by
  have ht := hin.t
  have HR := Lib.hid fun wx => num_Read v.t wx ht
  have HF : Hid (asNumT v = ⟨(readN v.t.data.toList).n, (readN v.t.data.toList).d, blankV⟩) := by unfold Hid asNumT; rw [if_neg (by omega), if_neg (by omega), if_neg (by omega), if_pos hk, if_pos hok]
  rw [hok] at HR
  generalize readN v.t.data.toList = Q at *
  clear hok
  have k0 : (v.k == 0) = false := by simp [hk]
  have k1 : (v.k == 1) = false := by simp [hk]
  have k2 : (v.k == 2) = true := by simp [hk]
  have k3 : (v.k == 3) = false := by simp [hk]
  clear hk
  generalize asNumT v = R at *
  go_enter Tryz.func56, Tryz.ntmps56
  go_wp2_with fail
  refine (HT.out _).mono ?_
  rintro e w1 ⟨rfl, hb⟩
  obtain ⟨s35, c35_0, c35_1, c35_2, c35_3, c35_4, c35_5, f35⟩ := L6 hb (w.heap.size) (by first | omega | (simp only [sA, sC, sD, sE]; omega) | (simp; done) | (simp; omega)) (by go_simp; exact ⟨rfl, rfl, rfl, rfl, rfl, rfl⟩) (by intro o; go_simp)
  obtain ⟨s36, c36_0, c36_1, f36⟩ := L2 hb (w.heap.size + 1) (by first | omega | (simp only [sA, sC, sD, sE]; omega) | (simp; done) | (simp; omega)) (by go_simp; exact ⟨rfl, rfl⟩) (by intro o; go_simp)
  obtain ⟨s37, c37_0, c37_1, c37_2, c37_3, c37_4, c37_5, f37⟩ := L6 hb (w.heap.size + 1 + 1) (by first | omega | (simp only [sA, sC, sD, sE]; omega) | (simp; done) | (simp; omega)) (by go_simp; exact ⟨rfl, rfl, rfl, rfl, rfl, rfl⟩) (by intro o; go_simp)
  go_upto_region 2 with (fail)
  first | with_reducible refine wp_rebase ?_ | with_reducible refine wpList_rebase ?_
  intro w1 hb'
  have hb := hb'.out
  clear hb'
  obtain ⟨s38, c38_0, c38_1, c38_2, c38_3, c38_4, c38_5, f38⟩ := L6 hb (w.heap.size) (by first | omega | (simp only [sA, sC, sD, sE]; omega) | (simp; done) | (simp; omega)) (by go_simp; exact ⟨rfl, rfl, rfl, rfl, rfl, rfl⟩) (by intro o; go_simp)
  obtain ⟨s39, c39_0, c39_1, f39⟩ := L2 hb (w.heap.size + 1) (by first | omega | (simp only [sA, sC, sD, sE]; omega) | (simp; done) | (simp; omega)) (by go_simp; exact ⟨rfl, rfl⟩) (by intro o; go_simp)
  obtain ⟨s40, c40_0, c40_1, c40_2, c40_3, c40_4, c40_5, f40⟩ := L6 hb (w.heap.size + 1 + 1) (by first | omega | (simp only [sA, sC, sD, sE]; omega) | (simp; done) | (simp; omega)) (by go_simp; exact ⟨rfl, rfl, rfl, rfl, rfl, rfl⟩) (by intro o; go_simp)
  clear c35_0 c35_1 c35_2 c35_3 c35_4 c35_5 f35 c36_0 c36_1 f36 c37_0 c37_1 c37_2 c37_3 c37_4 c37_5 f37
  go_wp2_with fail
  refine (HR.out _).mono ?_
  rintro e w2 ⟨rfl, hb2⟩
  obtain ⟨s41, c41_0, c41_1, c41_2, c41_3, c41_4, c41_5, f41⟩ := L6 hb2 (w.heap.size) (by first | omega | (simp only [sA, sC, sD, sE]; omega) | (simp; done) | (simp; omega)) (by go_simp; exact ⟨rfl, rfl, rfl, rfl, rfl, rfl⟩) (by intro o; go_simp)
  obtain ⟨s42, c42_0, c42_1, f42⟩ := L2 hb2 (w.heap.size + 1) (by first | omega | (simp only [sA, sC, sD, sE]; omega) | (simp; done) | (simp; omega)) (by go_simp; exact ⟨rfl, rfl⟩) (by intro o; go_simp)
  obtain ⟨s43, c43_0, c43_1, c43_2, c43_3, c43_4, c43_5, f43⟩ := L6 hb2 (w.heap.size + 1 + 1) (by first | omega | (simp only [sA, sC, sD, sE]; omega) | (simp; done) | (simp; omega)) (by go_simp; exact ⟨rfl, rfl, rfl, rfl, rfl, rfl⟩) (by intro o; go_simp)
  clear c38_0 c38_1 c38_2 c38_3 c38_4 c38_5 f38 c39_0 c39_1 f39 c40_0 c40_1 c40_2 c40_3 c40_4 c40_5 f40
  go_wp2_with fail
  refine region_below 2 (by kernel_rfl) (by kernel_rfl) ?_
  simp only [List.take_succ_cons, List.take_zero, List.drop_succ_cons, List.drop_zero]
  repeat
    first | (refine q_run ?_ ?_; focus (go_simp; done)) | (refine q_skip ?_ ?_; focus (go_simp; done))
    try (apply Exists.intro; refine ⟨fun w' hw' => ?_, ?_⟩; focus (have hc := (bcell hw'.out).1; unfold Oper.quietAt; go_simp; (try go_ints); (first | rfl | (go_at_call 77; refine (value_Blank _).mono ?_; rintro e w2 ⟨rfl, hb⟩; exact ⟨rfl, hw'.chain hb⟩))))
    intro K hK
    go_simp
    refine hK _ ?_
    clear hK K
  refine wpQuiet_nil ?_
  intro w1 hb'
  have hb := hb'.out
  clear hb'
  obtain ⟨s44, c44_0, c44_1, f44⟩ := L2 hb (w.heap.size + 1) (by first | omega | (simp only [sA, sC, sD, sE]; omega) | (simp; done) | (simp; omega)) (by go_simp; exact ⟨rfl, rfl⟩) (by intro o; go_simp)
  obtain ⟨s45, c45_0, c45_1, c45_2, c45_3, c45_4, c45_5, f45⟩ := L6 hb (w.heap.size + 1 + 1) (by first | omega | (simp only [sA, sC, sD, sE]; omega) | (simp; done) | (simp; omega)) (by go_simp; exact ⟨rfl, rfl, rfl, rfl, rfl, rfl⟩) (by intro o; go_simp)
  clear c41_0 c41_1 c41_2 c41_3 c41_4 c41_5 f41 c42_0 c42_1 f42 c43_0 c43_1 c43_2 c43_3 c43_4 c43_5 f43
  go_wp2
  refine bodyPost_ret (v := .tuple #[.agg #[.int .i64 R.n, .int .i64 R.d], .agg #[.int .i64 (R.e).k, .int .i64 (R.e).n, .int .i64 (R.e).d, .string (R.e).t, .bool (R.e).b, .int .i64 (R.e).f]]) (by rw [HF.out]; simp [results, Tryz.results56, go_sem, c44_0, c44_1, c45_0, c45_1, c45_2, c45_3, c45_4, c45_5]) rfl ⟨rfl, ?_⟩
  focus
    repeat with_reducible first | exact Below.refl _ _ | refine below_drewN ?_ _ | refine Below.drew ?_ | refine Below.setCell ?_ ?_ _ | refine Below.alloc ?_ ?_ _ | refine below_then ?_ ?_ (by with_reducible assumption)
    all_goals first | omega | (simp only [sA, sC, sD, sE]; omega) | (simp; done) | (simp; omega)

set_option maxHeartbeats 1000000 in
theorem asn_truth (k n d : Int) (t : ByteArray) (b : Bool) (f : Int) (w : World) (v : Vl) (HT : Hid (∀ wx, Calls Tryz.prog 52 #[.agg #[.int .i64 k, .int .i64 n, .int .i64 d, .string t, .bool b, .int .i64 f]] wx fun e w' => e = .returned (.agg #[.int .i64 (v).k, .int .i64 (v).n, .int .i64 (v).d, .string (v).t, .bool (v).b, .int .i64 (v).f]) ∧ Below wx.heap.size wx w')) (hin : v.In) (hk : v.k = 3) :
    Calls Tryz.prog 56 #[.agg #[.int .i64 k, .int .i64 n, .int .i64 d, .string t, .bool b, .int .i64 f]] w fun e w' => e = .returned (.tuple #[.agg #[.int .i64 (asNumT v).n, .int .i64 (asNumT v).d], .agg #[.int .i64 ((asNumT v).e).k, .int .i64 ((asNumT v).e).n, .int .i64 ((asNumT v).e).d, .string ((asNumT v).e).t, .bool ((asNumT v).e).b, .int .i64 ((asNumT v).e).f]]) ∧ Below w.heap.size w w' := by
  have HF1 : asNumT v = if v.b then ⟨1, 1, blankV⟩ else ⟨0, 1, blankV⟩ := by unfold asNumT; rw [if_neg (by omega), if_pos hk]
  have k0 : (v.k == 0) = false := by simp [hk]
  have k1 : (v.k == 1) = false := by simp [hk]
  have k2 : (v.k == 2) = false := by simp [hk]
  have k3 : (v.k == 3) = true := by simp [hk]
  clear hk
  cases hvb : v.b
  all_goals
    rw [hvb] at HF1
    have HF := Lib.hid HF1
    clear HF1
    generalize asNumT v = R at *
    go_enter Tryz.func56, Tryz.ntmps56
    go_wp2_with fail
    refine (HT.out _).mono ?_
    rintro e w1 ⟨rfl, hb⟩
    obtain ⟨s46, c46_0, c46_1, c46_2, c46_3, c46_4, c46_5, f46⟩ := L6 hb (w.heap.size) (by first | omega | (simp only [sA, sC, sD, sE]; omega) | (simp; done) | (simp; omega)) (by go_simp; exact ⟨rfl, rfl, rfl, rfl, rfl, rfl⟩) (by intro o; go_simp)
    obtain ⟨s47, c47_0, c47_1, f47⟩ := L2 hb (w.heap.size + 1) (by first | omega | (simp only [sA, sC, sD, sE]; omega) | (simp; done) | (simp; omega)) (by go_simp; exact ⟨rfl, rfl⟩) (by intro o; go_simp)
    obtain ⟨s48, c48_0, c48_1, c48_2, c48_3, c48_4, c48_5, f48⟩ := L6 hb (w.heap.size + 1 + 1) (by first | omega | (simp only [sA, sC, sD, sE]; omega) | (simp; done) | (simp; omega)) (by go_simp; exact ⟨rfl, rfl, rfl, rfl, rfl, rfl⟩) (by intro o; go_simp)
    go_wp2_with fail
    refine (value_number _ _).mono ?_
    rintro e w2 ⟨rfl, hb2⟩
    obtain ⟨s49, c49_0, c49_1, c49_2, c49_3, c49_4, c49_5, f49⟩ := L6 hb2 (w.heap.size) (by first | omega | (simp only [sA, sC, sD, sE]; omega) | (simp; done) | (simp; omega)) (by go_simp; exact ⟨rfl, rfl, rfl, rfl, rfl, rfl⟩) (by intro o; go_simp)
    obtain ⟨s50, c50_0, c50_1, f50⟩ := L2 hb2 (w.heap.size + 1) (by first | omega | (simp only [sA, sC, sD, sE]; omega) | (simp; done) | (simp; omega)) (by go_simp; exact ⟨rfl, rfl⟩) (by intro o; go_simp)
    obtain ⟨s51, c51_0, c51_1, c51_2, c51_3, c51_4, c51_5, f51⟩ := L6 hb2 (w.heap.size + 1 + 1) (by first | omega | (simp only [sA, sC, sD, sE]; omega) | (simp; done) | (simp; omega)) (by go_simp; exact ⟨rfl, rfl, rfl, rfl, rfl, rfl⟩) (by intro o; go_simp)
    clear c46_0 c46_1 c46_2 c46_3 c46_4 c46_5 f46 c47_0 c47_1 f47 c48_0 c48_1 c48_2 c48_3 c48_4 c48_5 f48
    go_wp2_with fail
    refine (value_Blank _).mono ?_
    rintro e w3 ⟨rfl, hb3⟩
    obtain ⟨s52, c52_0, c52_1, f52⟩ := L2 hb3 (w.heap.size + 1) (by first | omega | (simp only [sA, sC, sD, sE]; omega) | (simp; done) | (simp; omega)) (by go_simp; exact ⟨rfl, rfl⟩) (by intro o; go_simp)
    obtain ⟨s53, c53_0, c53_1, c53_2, c53_3, c53_4, c53_5, f53⟩ := L6 hb3 (w.heap.size + 1 + 1) (by first | omega | (simp only [sA, sC, sD, sE]; omega) | (simp; done) | (simp; omega)) (by go_simp; exact ⟨rfl, rfl, rfl, rfl, rfl, rfl⟩) (by intro o; go_simp)
    clear c49_0 c49_1 c49_2 c49_3 c49_4 c49_5 f49 c50_0 c50_1 f50 c51_0 c51_1 c51_2 c51_3 c51_4 c51_5 f51
    go_wp2
    refine bodyPost_ret (v := .tuple #[.agg #[.int .i64 R.n, .int .i64 R.d], .agg #[.int .i64 (R.e).k, .int .i64 (R.e).n, .int .i64 (R.e).d, .string (R.e).t, .bool (R.e).b, .int .i64 (R.e).f]]) (by rw [HF.out]; simp [results, Tryz.results56, go_sem, c52_0, c52_1, c53_0, c53_1, c53_2, c53_3, c53_4, c53_5]) rfl ⟨rfl, ?_⟩
    focus
      repeat with_reducible first | exact Below.refl _ _ | refine below_drewN ?_ _ | refine Below.drew ?_ | refine Below.setCell ?_ ?_ _ | refine Below.alloc ?_ ?_ _ | refine below_then ?_ ?_ (by with_reducible assumption)
      all_goals first | omega | (simp only [sA, sC, sD, sE]; omega) | (simp; done) | (simp; omega)

set_option maxHeartbeats 1000000 in
theorem asn_fault (k n d : Int) (t : ByteArray) (b : Bool) (f : Int) (w : World) (v : Vl) (HT : Hid (∀ wx, Calls Tryz.prog 52 #[.agg #[.int .i64 k, .int .i64 n, .int .i64 d, .string t, .bool b, .int .i64 f]] wx fun e w' => e = .returned (.agg #[.int .i64 (v).k, .int .i64 (v).n, .int .i64 (v).d, .string (v).t, .bool (v).b, .int .i64 (v).f]) ∧ Below wx.heap.size wx w')) (hin : v.In) (hk : v.k = 4) :
    Calls Tryz.prog 56 #[.agg #[.int .i64 k, .int .i64 n, .int .i64 d, .string t, .bool b, .int .i64 f]] w fun e w' => e = .returned (.tuple #[.agg #[.int .i64 (asNumT v).n, .int .i64 (asNumT v).d], .agg #[.int .i64 ((asNumT v).e).k, .int .i64 ((asNumT v).e).n, .int .i64 ((asNumT v).e).d, .string ((asNumT v).e).t, .bool ((asNumT v).e).b, .int .i64 ((asNumT v).e).f]]) ∧ Below w.heap.size w w' := by
  have HF : Hid (asNumT v = ⟨0, 0, v⟩) := by unfold Hid asNumT; rw [if_neg (by omega), if_neg (by omega), if_neg (by omega), if_neg (by omega)]
  have k0 : (v.k == 0) = false := by simp [hk]
  have k1 : (v.k == 1) = false := by simp [hk]
  have k2 : (v.k == 2) = false := by simp [hk]
  have k3 : (v.k == 3) = false := by simp [hk]
  clear hk
  generalize asNumT v = R at *
  go_enter Tryz.func56, Tryz.ntmps56
  go_wp2_with fail
  refine (HT.out _).mono ?_
  rintro e w1 ⟨rfl, hb⟩
  obtain ⟨s54, c54_0, c54_1, c54_2, c54_3, c54_4, c54_5, f54⟩ := L6 hb (w.heap.size) (by first | omega | (simp only [sA, sC, sD, sE]; omega) | (simp; done) | (simp; omega)) (by go_simp; exact ⟨rfl, rfl, rfl, rfl, rfl, rfl⟩) (by intro o; go_simp)
  obtain ⟨s55, c55_0, c55_1, f55⟩ := L2 hb (w.heap.size + 1) (by first | omega | (simp only [sA, sC, sD, sE]; omega) | (simp; done) | (simp; omega)) (by go_simp; exact ⟨rfl, rfl⟩) (by intro o; go_simp)
  obtain ⟨s56, c56_0, c56_1, c56_2, c56_3, c56_4, c56_5, f56⟩ := L6 hb (w.heap.size + 1 + 1) (by first | omega | (simp only [sA, sC, sD, sE]; omega) | (simp; done) | (simp; omega)) (by go_simp; exact ⟨rfl, rfl, rfl, rfl, rfl, rfl⟩) (by intro o; go_simp)
  go_upto_region 15 with (fail)
  first | with_reducible refine wp_rebase ?_ | with_reducible refine wpList_rebase ?_
  intro w1 hb'
  have hb := hb'.out
  clear hb'
  obtain ⟨s57, c57_0, c57_1, c57_2, c57_3, c57_4, c57_5, f57⟩ := L6 hb (w.heap.size) (by first | omega | (simp only [sA, sC, sD, sE]; omega) | (simp; done) | (simp; omega)) (by go_simp; exact ⟨rfl, rfl, rfl, rfl, rfl, rfl⟩) (by intro o; go_simp)
  obtain ⟨s58, c58_0, c58_1, f58⟩ := L2 hb (w.heap.size + 1) (by first | omega | (simp only [sA, sC, sD, sE]; omega) | (simp; done) | (simp; omega)) (by go_simp; exact ⟨rfl, rfl⟩) (by intro o; go_simp)
  obtain ⟨s59, c59_0, c59_1, c59_2, c59_3, c59_4, c59_5, f59⟩ := L6 hb (w.heap.size + 1 + 1) (by first | omega | (simp only [sA, sC, sD, sE]; omega) | (simp; done) | (simp; omega)) (by go_simp; exact ⟨rfl, rfl, rfl, rfl, rfl, rfl⟩) (by intro o; go_simp)
  clear c54_0 c54_1 c54_2 c54_3 c54_4 c54_5 f54 c55_0 c55_1 f55 c56_0 c56_1 c56_2 c56_3 c56_4 c56_5 f56
  go_region_held3 (fun w' => w'.cell? ⟨w.heap.size, 0, none⟩ = some (.int .i64 v.k) ∧ w'.cell? ⟨w.heap.size, 1, none⟩ = some (.int .i64 v.n) ∧ w'.cell? ⟨w.heap.size, 2, none⟩ = some (.int .i64 v.d) ∧ w'.cell? ⟨w.heap.size, 3, none⟩ = some (.string v.t) ∧ w'.cell? ⟨w.heap.size, 4, none⟩ = some (.bool v.b) ∧ w'.cell? ⟨w.heap.size, 5, none⟩ = some (.int .i64 v.f)) ((first | (refine ⟨?_, ?_, ?_, ?_, ?_, ?_⟩ <;> (go_simp; done)) | go_keep)) (fail)
  rename_i kK kA hHeld
  clear hHeld
  go_wp2
  refine bodyPost_ret (v := .tuple #[.agg #[.int .i64 R.n, .int .i64 R.d], .agg #[.int .i64 (R.e).k, .int .i64 (R.e).n, .int .i64 (R.e).d, .string (R.e).t, .bool (R.e).b, .int .i64 (R.e).f]]) (by rw [HF.out]; simp [results, Tryz.results56, go_sem, c57_0, c57_1, c57_2, c57_3, c57_4, c57_5, c58_0, c58_1, c59_0, c59_1, c59_2, c59_3, c59_4, c59_5]) rfl ⟨rfl, ?_⟩
  focus
    repeat with_reducible first | exact Below.refl _ _ | refine below_drewN ?_ _ | refine Below.drew ?_ | refine Below.setCell ?_ ?_ _ | refine Below.alloc ?_ ?_ _ | refine below_then ?_ ?_ (by with_reducible assumption)
    all_goals first | omega | (simp only [sA, sC, sD, sE]; omega) | (simp; done) | (simp; omega)

theorem value_AsNumber (k n d : Int) (t : ByteArray) (b : Bool) (f : Int) (w : World) (hx : Vl.In ⟨k, n, d, t, b, f⟩) :
    Calls Tryz.prog 56 #[.agg #[.int .i64 k, .int .i64 n, .int .i64 d, .string t, .bool b, .int .i64 f]] w fun e w' => e = .returned (.tuple #[.agg #[.int .i64 (asNum ⟨k, n, d, t, b, f⟩).n, .int .i64 (asNum ⟨k, n, d, t, b, f⟩).d], .agg #[.int .i64 ((asNum ⟨k, n, d, t, b, f⟩).e).k, .int .i64 ((asNum ⟨k, n, d, t, b, f⟩).e).n, .int .i64 ((asNum ⟨k, n, d, t, b, f⟩).e).d, .string ((asNum ⟨k, n, d, t, b, f⟩).e).t, .bool ((asNum ⟨k, n, d, t, b, f⟩).e).b, .int .i64 ((asNum ⟨k, n, d, t, b, f⟩).e).f]]) ∧ Below w.heap.size w w' := by
  have hv := tkV_right ⟨k, n, d, t, b, f⟩
  have HT := Lib.hid fun wx => value_taken k n d t b f wx hx
  show Calls _ _ _ _ fun e w' => e = .returned (.tuple #[.agg #[.int .i64 (asNumT (tkV ⟨k, n, d, t, b, f⟩)).n, .int .i64 (asNumT (tkV ⟨k, n, d, t, b, f⟩)).d], .agg #[.int .i64 ((asNumT (tkV ⟨k, n, d, t, b, f⟩)).e).k, .int .i64 ((asNumT (tkV ⟨k, n, d, t, b, f⟩)).e).n, .int .i64 ((asNumT (tkV ⟨k, n, d, t, b, f⟩)).e).d, .string ((asNumT (tkV ⟨k, n, d, t, b, f⟩)).e).t, .bool ((asNumT (tkV ⟨k, n, d, t, b, f⟩)).e).b, .int .i64 ((asNumT (tkV ⟨k, n, d, t, b, f⟩)).e).f]]) ∧ _
  generalize tkV ⟨k, n, d, t, b, f⟩ = v at *
  have hin := right_in hv
  rcases rightV_k hv with hk | hk | hk | hk | hk
  · exact asn_blank _ _ _ _ _ _ _ _ HT hin hk
  · exact asn_num _ _ _ _ _ _ _ _ HT hin hk
  · cases hok : (readN v.t.data.toList).ok
    · exact asn_textno _ _ _ _ _ _ _ _ HT hin hk hok
    · exact asn_text _ _ _ _ _ _ _ _ HT hin hk hok
  · exact asn_truth _ _ _ _ _ _ _ _ HT hin hk
  · exact asn_fault _ _ _ _ _ _ _ _ HT hin hk
end Go.Proofs.YtnimenpfojcehaaGreatDoor
