/- Walks of the reference's package for values: reckoned and Bin at the power. -/
import Derived.Test.YtglngfaagjgpjaaGreatDoorRefZ
import Derived.Test.YtglngfaagjgpjaaGreatDoorRefQ
import Derived.Test.YtglngfaagjgpjaaGreatDoorBx13
namespace Go.Proofs.YtglngfaagjgpjaaGreatDoor
open Go Go.RowKit
set_option linter.unusedSimpArgs false
set_option linter.unusedVariables false
theorem lt_RefN {w w' : World} (h : Below w.heap.size w w') (k : Nat) (hk : k < w.heap.size) : k < w.heap.size := hk

set_option maxHeartbeats 1000000 in
theorem r2_reckoned15 (n d m e : Int) (w : World) (hn : I64 n) (hd : I64 d) (hm : I64 m) (he : I64 e) :
    Calls Tryz.prog 90 #[.int .i64 15, .agg #[.int .i64 n, .int .i64 d], .agg #[.int .i64 m, .int .i64 e]] w fun e' w' => e' = .returned (.agg #[.int .i64 (powV n d m e).k, .int .i64 (powV n d m e).n, .int .i64 (powV n d m e).d, .string (powV n d m e).t, .bool (powV n d m e).b, .int .i64 (powV n d m e).f]) ∧ Below w.heap.size w w' := by
  by_cases h0 : n = 0 ∧ m < 0
  · have HF : Hid (powV n d m e = faultF 1) := by unfold Hid powV; rw [if_pos h0]
    have k0 : (n == 0) = true := by simp [h0.1]
    have k1 := h0.2
    generalize powV n d m e = Q at *
    clear h0 hn hd hm he
    go_enter Tryz.func90, Tryz.ntmps90
    go_wp2_with fail
    refine (r2_Fault _ _).mono ?_
    rintro e' w1 ⟨rfl, hb⟩
    obtain ⟨s1, c1_0, c1_1, c1_2, c1_3, c1_4, c1_5, f1⟩ := L6 hb (w.heap.size + 1 + 1) (by first | omega | (simp only [sA, sC, sD, sE]; omega) | (simp; done) | (simp; omega)) (by go_simp; exact ⟨rfl, rfl, rfl, rfl, rfl, rfl⟩) (by intro o; go_simp)
    go_wp2
    refine bodyPost_ret (v := .agg #[.int .i64 (Q).k, .int .i64 (Q).n, .int .i64 (Q).d, .string (Q).t, .bool (Q).b, .int .i64 (Q).f]) (by rw [HF.out]; simp [results, Tryz.results90, go_sem, c1_0, c1_1, c1_2, c1_3, c1_4, c1_5]) rfl ⟨rfl, ?_⟩
    focus
      repeat with_reducible first | exact Below.refl _ _ | refine below_drewN ?_ _ | refine Below.drew ?_ | refine Below.setCell ?_ ?_ _ | refine Below.alloc ?_ ?_ _ | refine below_then ?_ ?_ (by with_reducible assumption)
      all_goals first | omega | (simp only [sA, sC, sD, sE]; omega) | (simp; done) | (simp; omega)
  have hc : (n == 0) = false ∨ ((n == 0) = true ∧ ¬ m < 0) := by
    by_cases h : n = 0
    · exact .inr ⟨by simp [h], fun h' => h0 ⟨h, h'⟩⟩
    · exact .inl (by simp [h])
  have HW := Lib.hid fun wx => r1_Whole m e wx hm he
  have hbd := powN_bd n d (wholeN m e)
  have HA := Lib.hid fun wx => r1_Pow n d (wholeN m e) wx hn hd (wholeN_i64 m e)
  have HT := Lib.hid fun wx => r2_fitting (powN n d (wholeN m e)).n (powN n d (wholeN m e)).d (powN n d (wholeN m e)).ok wx (I64.of hbd.1 hbd.2.1) (I64.of (by omega) (by omega))
  have HF : powV n d m e = if wholeB m e then toldF (powN n d (wholeN m e)).n (powN n d (wholeN m e)).d (powN n d (wholeN m e)).ok else faultF 4 := by unfold powV; rw [if_neg h0]; rfl
  generalize powN n d (wholeN m e) = R at *
  generalize wholeN m e = k at *
  generalize powV n d m e = Q at *
  clear hbd hn hd hm he h0
  cases hw : wholeB m e
  · rw [hw] at HW HF
    replace HF := Lib.hid HF
    clear hw
    rcases hc with c1 | ⟨c1, c2⟩
    all_goals
      go_enter Tryz.func90, Tryz.ntmps90
      go_wp2_with fail
      refine (HW.out _).mono ?_
      rintro e' w1 ⟨rfl, hb⟩
      obtain ⟨s2, c2_0, c2_1, f2⟩ := L2 hb (w.heap.size) (by first | omega | (simp only [sA, sC, sD, sE]; omega) | (simp; done) | (simp; omega)) (by go_simp; exact ⟨rfl, rfl⟩) (by intro o; go_simp)
      obtain ⟨s3, c3_0, c3_1, f3⟩ := L2 hb (w.heap.size + 1) (by first | omega | (simp only [sA, sC, sD, sE]; omega) | (simp; done) | (simp; omega)) (by go_simp; exact ⟨rfl, rfl⟩) (by intro o; go_simp)
      obtain ⟨s4, c4_0, c4_1, c4_2, c4_3, c4_4, c4_5, f4⟩ := L6 hb (w.heap.size + 1 + 1) (by first | omega | (simp only [sA, sC, sD, sE]; omega) | (simp; done) | (simp; omega)) (by go_simp; exact ⟨rfl, rfl, rfl, rfl, rfl, rfl⟩) (by intro o; go_simp)
      go_wp2_with fail
      refine (r2_Fault 4 _).mono ?_
      rintro e' w2 ⟨rfl, hb2⟩
      obtain ⟨s5, c5_0, c5_1, c5_2, c5_3, c5_4, c5_5, f5⟩ := L6 hb2 (w.heap.size + 1 + 1) (by first | omega | (simp only [sA, sC, sD, sE]; omega) | (simp; done) | (simp; omega)) (by go_simp; exact ⟨rfl, rfl, rfl, rfl, rfl, rfl⟩) (by intro o; go_simp)
      clear c2_0 c2_1 f2 c3_0 c3_1 f3 c4_0 c4_1 c4_2 c4_3 c4_4 c4_5 f4
      go_wp2
      refine bodyPost_ret (v := .agg #[.int .i64 (Q).k, .int .i64 (Q).n, .int .i64 (Q).d, .string (Q).t, .bool (Q).b, .int .i64 (Q).f]) (by rw [HF.out]; simp [results, Tryz.results90, go_sem, c5_0, c5_1, c5_2, c5_3, c5_4, c5_5]) rfl ⟨rfl, ?_⟩
      focus
        repeat with_reducible first | exact Below.refl _ _ | refine below_drewN ?_ _ | refine Below.drew ?_ | refine Below.setCell ?_ ?_ _ | refine Below.alloc ?_ ?_ _ | refine below_then ?_ ?_ (by with_reducible assumption)
        all_goals first | omega | (simp only [sA, sC, sD, sE]; omega) | (simp; done) | (simp; omega)
  · rw [hw] at HW HF
    replace HF := Lib.hid HF
    clear hw
    rcases hc with c1 | ⟨c1, c2⟩
    all_goals
      go_enter Tryz.func90, Tryz.ntmps90
      go_wp2_with fail
      refine (HW.out _).mono ?_
      rintro e' w1 ⟨rfl, hb⟩
      obtain ⟨s6, c6_0, c6_1, f6⟩ := L2 hb (w.heap.size) (by first | omega | (simp only [sA, sC, sD, sE]; omega) | (simp; done) | (simp; omega)) (by go_simp; exact ⟨rfl, rfl⟩) (by intro o; go_simp)
      obtain ⟨s7, c7_0, c7_1, f7⟩ := L2 hb (w.heap.size + 1) (by first | omega | (simp only [sA, sC, sD, sE]; omega) | (simp; done) | (simp; omega)) (by go_simp; exact ⟨rfl, rfl⟩) (by intro o; go_simp)
      obtain ⟨s8, c8_0, c8_1, c8_2, c8_3, c8_4, c8_5, f8⟩ := L6 hb (w.heap.size + 1 + 1) (by first | omega | (simp only [sA, sC, sD, sE]; omega) | (simp; done) | (simp; omega)) (by go_simp; exact ⟨rfl, rfl, rfl, rfl, rfl, rfl⟩) (by intro o; go_simp)
      obtain ⟨s9, c9_0, c9_1, f9⟩ := L2 hb (w.heap.size + 1 + 1 + 1) (by first | omega | (simp only [sA, sC, sD, sE]; omega) | (simp; done) | (simp; omega)) (by go_simp; exact ⟨rfl, rfl⟩) (by intro o; go_simp)
      go_wp2_with fail
      refine (HA.out _).mono ?_
      rintro e' w2 ⟨rfl, hb2⟩
      obtain ⟨s10, c10_0, c10_1, c10_2, c10_3, c10_4, c10_5, f10⟩ := L6 hb2 (w.heap.size + 1 + 1) (by first | omega | (simp only [sA, sC, sD, sE]; omega) | (simp; done) | (simp; omega)) (by go_simp; exact ⟨rfl, rfl, rfl, rfl, rfl, rfl⟩) (by intro o; go_simp)
      obtain ⟨s11, c11_0, c11_1, f11⟩ := L2 hb2 (w.heap.size + 1 + 1 + 1) (by first | omega | (simp only [sA, sC, sD, sE]; omega) | (simp; done) | (simp; omega)) (by go_simp; exact ⟨rfl, rfl⟩) (by intro o; go_simp)
      clear c6_0 c6_1 f6 c7_0 c7_1 f7 c8_0 c8_1 c8_2 c8_3 c8_4 c8_5 f8 c9_0 c9_1 f9
      go_wp2_with fail
      refine (HT.out _).mono ?_
      rintro e' w3 ⟨rfl, hb3⟩
      obtain ⟨s12, c12_0, c12_1, c12_2, c12_3, c12_4, c12_5, f12⟩ := L6 hb3 (w.heap.size + 1 + 1) (by first | omega | (simp only [sA, sC, sD, sE]; omega) | (simp; done) | (simp; omega)) (by go_simp; exact ⟨rfl, rfl, rfl, rfl, rfl, rfl⟩) (by intro o; go_simp)
      clear c10_0 c10_1 c10_2 c10_3 c10_4 c10_5 f10 c11_0 c11_1 f11
      go_wp2
      refine bodyPost_ret (v := .agg #[.int .i64 (Q).k, .int .i64 (Q).n, .int .i64 (Q).d, .string (Q).t, .bool (Q).b, .int .i64 (Q).f]) (by rw [HF.out]; simp [results, Tryz.results90, go_sem, c12_0, c12_1, c12_2, c12_3, c12_4, c12_5]) rfl ⟨rfl, ?_⟩
      focus
        repeat with_reducible first | exact Below.refl _ _ | refine below_drewN ?_ _ | refine Below.drew ?_ | refine Below.setCell ?_ ?_ _ | refine Below.alloc ?_ ?_ _ | refine below_then ?_ ?_ (by with_reducible assumption)
        all_goals first | omega | (simp only [sA, sC, sD, sE]; omega) | (simp; done) | (simp; omega)
set_option maxRecDepth 100000 in
set_option maxHeartbeats 2000000 in
theorem r2_Pow2 (a b : Vl) (w : World) (ha : a.In) (hb' : b.In) (h4 : ¬ (tkV a).k = 4) (h5 : ¬ (tkV b).k = 4) :
    Calls Tryz.prog 43 #[.int .i64 15, .agg #[.int .i64 (a).k, .int .i64 (a).n, .int .i64 (a).d, .string (a).t, .bool (a).b, .int .i64 (a).f], .agg #[.int .i64 (b).k, .int .i64 (b).n, .int .i64 (b).d, .string (b).t, .bool (b).b, .int .i64 (b).f]] w fun e' w' => e' = .returned (.agg #[.int .i64 (powVV a b).k, .int .i64 (powVV a b).n, .int .i64 (powVV a b).d, .string (powVV a b).t, .bool (powVV a b).b, .int .i64 (powVV a b).f]) ∧ Below w.heap.size w w' := by
  have HE : powVV a b = if (asNum a).e.k = 4 then (asNum a).e else if (asNum b).e.k = 4 then (asNum b).e else powV (asNum a).n (asNum a).d (asNum b).n (asNum b).d := by unfold powVV; rw [if_neg h4, if_neg h5]
  rw [HE]
  clear HE
  have HT1 : Hid (∀ wx, Calls Tryz.prog 41 #[.agg #[.int .i64 (a).k, .int .i64 (a).n, .int .i64 (a).d, .string (a).t, .bool (a).b, .int .i64 (a).f]] wx fun e w' => e = .returned (.agg #[.int .i64 (tkV a).k, .int .i64 (tkV a).n, .int .i64 (tkV a).d, .string (tkV a).t, .bool (tkV a).b, .int .i64 (tkV a).f]) ∧ Below wx.heap.size wx w') := fun wx => r2_Of a.k a.n a.d a.t a.b a.f wx ha
  have HT2 : Hid (∀ wx, Calls Tryz.prog 41 #[.agg #[.int .i64 (b).k, .int .i64 (b).n, .int .i64 (b).d, .string (b).t, .bool (b).b, .int .i64 (b).f]] wx fun e w' => e = .returned (.agg #[.int .i64 (tkV b).k, .int .i64 (tkV b).n, .int .i64 (tkV b).d, .string (tkV b).t, .bool (tkV b).b, .int .i64 (tkV b).f]) ∧ Below wx.heap.size wx w') := fun wx => r2_Of b.k b.n b.d b.t b.b b.f wx hb'
  have HN1 : Hid (∀ wx, Calls Tryz.prog 89 #[.agg #[.int .i64 (tkV a).k, .int .i64 (tkV a).n, .int .i64 (tkV a).d, .string (tkV a).t, .bool (tkV a).b, .int .i64 (tkV a).f]] wx fun e w' => e = .returned (.tuple #[.agg #[.int .i64 (asNum a).n, .int .i64 (asNum a).d], .agg #[.int .i64 ((asNum a).e).k, .int .i64 ((asNum a).e).n, .int .i64 ((asNum a).e).d, .string ((asNum a).e).t, .bool ((asNum a).e).b, .int .i64 ((asNum a).e).f]]) ∧ Below wx.heap.size wx w') := by
    intro wx
    rw [← asNum_tk a]
    exact r2_AsNumber (tkV a) wx (tkV_in ha)
  have HN2 : Hid (∀ wx, Calls Tryz.prog 89 #[.agg #[.int .i64 (tkV b).k, .int .i64 (tkV b).n, .int .i64 (tkV b).d, .string (tkV b).t, .bool (tkV b).b, .int .i64 (tkV b).f]] wx fun e w' => e = .returned (.tuple #[.agg #[.int .i64 (asNum b).n, .int .i64 (asNum b).d], .agg #[.int .i64 ((asNum b).e).k, .int .i64 ((asNum b).e).n, .int .i64 ((asNum b).e).d, .string ((asNum b).e).t, .bool ((asNum b).e).b, .int .i64 ((asNum b).e).f]]) ∧ Below wx.heap.size wx w') := by
    intro wx
    rw [← asNum_tk b]
    exact r2_AsNumber (tkV b) wx (tkV_in hb')
  have i1 := asNum_i64 a
  have i2 := asNum_i64 b
  have HR := Lib.hid fun wx => r2_reckoned15 (asNum a).n (asNum a).d (asNum b).n (asNum b).d wx i1.1 i1.2 i2.1 i2.2
  generalize asNum a = p at *
  generalize asNum b = q at *
  generalize tkV a = x at *
  generalize tkV b = y at *
  generalize powV p.n p.d q.n q.d = r at *
  have k4 : (x.k == 4) = false := by simp [h4]
  have k5 : (y.k == 4) = false := by simp [h5]
  clear h4 h5 ha hb' i1 i2
  by_cases h6 : p.e.k = 4
  · rw [if_pos h6]
    have k6 : (p.e.k == 4) = true := by simp [h6]
    clear h6
    go_enter Tryz.func43, Tryz.ntmps43
    go_wp2_with fail
    refine (HT1.out _).mono ?_
    rintro e' wA ⟨rfl, hb⟩
    obtain ⟨s13, c13_0, c13_1, c13_2, c13_3, c13_4, c13_5, f13⟩ := L6 hb (w.heap.size) (by first | omega | (simp only [sA, sC, sD, sE]; omega) | (simp; done) | (simp; omega)) (by go_simp; exact ⟨rfl, rfl, rfl, rfl, rfl, rfl⟩) (by intro o; go_simp)
    obtain ⟨s14, c14_0, c14_1, c14_2, c14_3, c14_4, c14_5, f14⟩ := L6 hb (w.heap.size + 1) (by first | omega | (simp only [sA, sC, sD, sE]; omega) | (simp; done) | (simp; omega)) (by go_simp; exact ⟨rfl, rfl, rfl, rfl, rfl, rfl⟩) (by intro o; go_simp)
    obtain ⟨s15, c15_0, c15_1, c15_2, c15_3, c15_4, c15_5, f15⟩ := L6 hb (w.heap.size + 1 + 1) (by first | omega | (simp only [sA, sC, sD, sE]; omega) | (simp; done) | (simp; omega)) (by go_simp; exact ⟨rfl, rfl, rfl, rfl, rfl, rfl⟩) (by intro o; go_simp)
    go_wp2_with fail
    refine (HT2.out _).mono ?_
    rintro e' wB ⟨rfl, hb⟩
    obtain ⟨s16, c16_0, c16_1, c16_2, c16_3, c16_4, c16_5, f16⟩ := L6 hb (w.heap.size) (by first | omega | (simp only [sA, sC, sD, sE]; omega) | (simp; done) | (simp; omega)) (by go_simp; exact ⟨rfl, rfl, rfl, rfl, rfl, rfl⟩) (by intro o; go_simp)
    obtain ⟨s17, c17_0, c17_1, c17_2, c17_3, c17_4, c17_5, f17⟩ := L6 hb (w.heap.size + 1) (by first | omega | (simp only [sA, sC, sD, sE]; omega) | (simp; done) | (simp; omega)) (by go_simp; exact ⟨rfl, rfl, rfl, rfl, rfl, rfl⟩) (by intro o; go_simp)
    obtain ⟨s18, c18_0, c18_1, c18_2, c18_3, c18_4, c18_5, f18⟩ := L6 hb (w.heap.size + 1 + 1) (by first | omega | (simp only [sA, sC, sD, sE]; omega) | (simp; done) | (simp; omega)) (by go_simp; exact ⟨rfl, rfl, rfl, rfl, rfl, rfl⟩) (by intro o; go_simp)
    clear c13_0 c13_1 c13_2 c13_3 c13_4 c13_5 f13 c14_0 c14_1 c14_2 c14_3 c14_4 c14_5 f14 c15_0 c15_1 c15_2 c15_3 c15_4 c15_5 f15
    go_upto_region 3 with (fail)
    first | with_reducible refine wp_rebase ?_ | with_reducible refine wpList_rebase ?_
    intro w1 hb'
    have hb := hb'.out
    clear hb'
    obtain ⟨s19, c19_0, c19_1, c19_2, c19_3, c19_4, c19_5, f19⟩ := L6 hb (w.heap.size) (by first | omega | (simp only [sA, sC, sD, sE]; omega) | (simp; done) | (simp; omega)) (by go_simp; exact ⟨rfl, rfl, rfl, rfl, rfl, rfl⟩) (by intro o; go_simp)
    obtain ⟨s20, c20_0, c20_1, c20_2, c20_3, c20_4, c20_5, f20⟩ := L6 hb (w.heap.size + 1) (by first | omega | (simp only [sA, sC, sD, sE]; omega) | (simp; done) | (simp; omega)) (by go_simp; exact ⟨rfl, rfl, rfl, rfl, rfl, rfl⟩) (by intro o; go_simp)
    obtain ⟨s21, c21_0, c21_1, c21_2, c21_3, c21_4, c21_5, f21⟩ := L6 hb (w.heap.size + 1 + 1) (by first | omega | (simp only [sA, sC, sD, sE]; omega) | (simp; done) | (simp; omega)) (by go_simp; exact ⟨rfl, rfl, rfl, rfl, rfl, rfl⟩) (by intro o; go_simp)
    clear c16_0 c16_1 c16_2 c16_3 c16_4 c16_5 f16 c17_0 c17_1 c17_2 c17_3 c17_4 c17_5 f17 c18_0 c18_1 c18_2 c18_3 c18_4 c18_5 f18
    go_wp2_with fail
    refine (HN1.out _).mono ?_
    rintro e' wC ⟨rfl, hb⟩
    obtain ⟨s22, c22_0, c22_1, c22_2, c22_3, c22_4, c22_5, f22⟩ := L6 hb (w.heap.size) (by first | omega | (simp only [sA, sC, sD, sE]; omega) | (simp; done) | (simp; omega)) (by go_simp; exact ⟨rfl, rfl, rfl, rfl, rfl, rfl⟩) (by intro o; go_simp)
    obtain ⟨s23, c23_0, c23_1, c23_2, c23_3, c23_4, c23_5, f23⟩ := L6 hb (w.heap.size + 1) (by first | omega | (simp only [sA, sC, sD, sE]; omega) | (simp; done) | (simp; omega)) (by go_simp; exact ⟨rfl, rfl, rfl, rfl, rfl, rfl⟩) (by intro o; go_simp)
    obtain ⟨s24, c24_0, c24_1, c24_2, c24_3, c24_4, c24_5, f24⟩ := L6 hb (w.heap.size + 1 + 1) (by first | omega | (simp only [sA, sC, sD, sE]; omega) | (simp; done) | (simp; omega)) (by go_simp; exact ⟨rfl, rfl, rfl, rfl, rfl, rfl⟩) (by intro o; go_simp)
    clear c19_0 c19_1 c19_2 c19_3 c19_4 c19_5 f19 c20_0 c20_1 c20_2 c20_3 c20_4 c20_5 f20 c21_0 c21_1 c21_2 c21_3 c21_4 c21_5 f21
    go_upto_region 18 with (fail)
    first | with_reducible refine wp_rebase ?_ | with_reducible refine wpList_rebase ?_
    intro w1 hb'
    have hb := hb'.out
    clear hb'
    obtain ⟨s25, c25_0, c25_1, c25_2, c25_3, c25_4, c25_5, f25⟩ := L6 hb (w.heap.size + 1 + 1) (by first | omega | (simp only [sA, sC, sD, sE]; omega) | (simp; done) | (simp; omega)) (by go_simp; exact ⟨rfl, rfl, rfl, rfl, rfl, rfl⟩) (by intro o; go_simp)
    obtain ⟨s26, c26_0, c26_1, c26_2, c26_3, c26_4, c26_5, f26⟩ := L6 hb (wC.heap.size + 1) (by first | omega | (simp only [sA, sC, sD, sE]; omega) | (simp; done) | (simp; omega)) (by go_simp; exact ⟨rfl, rfl, rfl, rfl, rfl, rfl⟩) (by intro o; go_simp)
    clear c22_0 c22_1 c22_2 c22_3 c22_4 c22_5 f22 c23_0 c23_1 c23_2 c23_3 c23_4 c23_5 f23 c24_0 c24_1 c24_2 c24_3 c24_4 c24_5 f24
    go_wp2
    refine bodyPost_ret (v := .agg #[.int .i64 (p.e).k, .int .i64 (p.e).n, .int .i64 (p.e).d, .string (p.e).t, .bool (p.e).b, .int .i64 (p.e).f]) (by simp [results, Tryz.results43, go_sem, c25_0, c25_1, c25_2, c25_3, c25_4, c25_5, c26_0, c26_1, c26_2, c26_3, c26_4, c26_5]) rfl ⟨rfl, ?_⟩
    focus
      repeat with_reducible first | exact Below.refl _ _ | refine below_drewN ?_ _ | refine Below.drew ?_ | refine Below.setCell ?_ ?_ _ | refine Below.alloc ?_ ?_ _ | refine below_then ?_ ?_ (by with_reducible assumption)
      all_goals first | omega | (simp only [sA, sC, sD, sE]; omega) | (simp; done) | (simp; omega)
  rw [if_neg h6]
  have k6 : (p.e.k == 4) = false := by simp [h6]
  clear h6
  by_cases h7 : q.e.k = 4
  · rw [if_pos h7]
    have k7 : (q.e.k == 4) = true := by simp [h7]
    clear h7
    go_enter Tryz.func43, Tryz.ntmps43
    go_wp2_with fail
    refine (HT1.out _).mono ?_
    rintro e' wA ⟨rfl, hb⟩
    obtain ⟨s27, c27_0, c27_1, c27_2, c27_3, c27_4, c27_5, f27⟩ := L6 hb (w.heap.size) (by first | omega | (simp only [sA, sC, sD, sE]; omega) | (simp; done) | (simp; omega)) (by go_simp; exact ⟨rfl, rfl, rfl, rfl, rfl, rfl⟩) (by intro o; go_simp)
    obtain ⟨s28, c28_0, c28_1, c28_2, c28_3, c28_4, c28_5, f28⟩ := L6 hb (w.heap.size + 1) (by first | omega | (simp only [sA, sC, sD, sE]; omega) | (simp; done) | (simp; omega)) (by go_simp; exact ⟨rfl, rfl, rfl, rfl, rfl, rfl⟩) (by intro o; go_simp)
    obtain ⟨s29, c29_0, c29_1, c29_2, c29_3, c29_4, c29_5, f29⟩ := L6 hb (w.heap.size + 1 + 1) (by first | omega | (simp only [sA, sC, sD, sE]; omega) | (simp; done) | (simp; omega)) (by go_simp; exact ⟨rfl, rfl, rfl, rfl, rfl, rfl⟩) (by intro o; go_simp)
    go_wp2_with fail
    refine (HT2.out _).mono ?_
    rintro e' wB ⟨rfl, hb⟩
    obtain ⟨s30, c30_0, c30_1, c30_2, c30_3, c30_4, c30_5, f30⟩ := L6 hb (w.heap.size) (by first | omega | (simp only [sA, sC, sD, sE]; omega) | (simp; done) | (simp; omega)) (by go_simp; exact ⟨rfl, rfl, rfl, rfl, rfl, rfl⟩) (by intro o; go_simp)
    obtain ⟨s31, c31_0, c31_1, c31_2, c31_3, c31_4, c31_5, f31⟩ := L6 hb (w.heap.size + 1) (by first | omega | (simp only [sA, sC, sD, sE]; omega) | (simp; done) | (simp; omega)) (by go_simp; exact ⟨rfl, rfl, rfl, rfl, rfl, rfl⟩) (by intro o; go_simp)
    obtain ⟨s32, c32_0, c32_1, c32_2, c32_3, c32_4, c32_5, f32⟩ := L6 hb (w.heap.size + 1 + 1) (by first | omega | (simp only [sA, sC, sD, sE]; omega) | (simp; done) | (simp; omega)) (by go_simp; exact ⟨rfl, rfl, rfl, rfl, rfl, rfl⟩) (by intro o; go_simp)
    clear c27_0 c27_1 c27_2 c27_3 c27_4 c27_5 f27 c28_0 c28_1 c28_2 c28_3 c28_4 c28_5 f28 c29_0 c29_1 c29_2 c29_3 c29_4 c29_5 f29
    go_upto_region 3 with (fail)
    first | with_reducible refine wp_rebase ?_ | with_reducible refine wpList_rebase ?_
    intro w1 hb'
    have hb := hb'.out
    clear hb'
    obtain ⟨s33, c33_0, c33_1, c33_2, c33_3, c33_4, c33_5, f33⟩ := L6 hb (w.heap.size) (by first | omega | (simp only [sA, sC, sD, sE]; omega) | (simp; done) | (simp; omega)) (by go_simp; exact ⟨rfl, rfl, rfl, rfl, rfl, rfl⟩) (by intro o; go_simp)
    obtain ⟨s34, c34_0, c34_1, c34_2, c34_3, c34_4, c34_5, f34⟩ := L6 hb (w.heap.size + 1) (by first | omega | (simp only [sA, sC, sD, sE]; omega) | (simp; done) | (simp; omega)) (by go_simp; exact ⟨rfl, rfl, rfl, rfl, rfl, rfl⟩) (by intro o; go_simp)
    obtain ⟨s35, c35_0, c35_1, c35_2, c35_3, c35_4, c35_5, f35⟩ := L6 hb (w.heap.size + 1 + 1) (by first | omega | (simp only [sA, sC, sD, sE]; omega) | (simp; done) | (simp; omega)) (by go_simp; exact ⟨rfl, rfl, rfl, rfl, rfl, rfl⟩) (by intro o; go_simp)
    clear c30_0 c30_1 c30_2 c30_3 c30_4 c30_5 f30 c31_0 c31_1 c31_2 c31_3 c31_4 c31_5 f31 c32_0 c32_1 c32_2 c32_3 c32_4 c32_5 f32
    go_wp2_with fail
    refine (HN1.out _).mono ?_
    rintro e' wC ⟨rfl, hb⟩
    obtain ⟨s36, c36_0, c36_1, c36_2, c36_3, c36_4, c36_5, f36⟩ := L6 hb (w.heap.size) (by first | omega | (simp only [sA, sC, sD, sE]; omega) | (simp; done) | (simp; omega)) (by go_simp; exact ⟨rfl, rfl, rfl, rfl, rfl, rfl⟩) (by intro o; go_simp)
    obtain ⟨s37, c37_0, c37_1, c37_2, c37_3, c37_4, c37_5, f37⟩ := L6 hb (w.heap.size + 1) (by first | omega | (simp only [sA, sC, sD, sE]; omega) | (simp; done) | (simp; omega)) (by go_simp; exact ⟨rfl, rfl, rfl, rfl, rfl, rfl⟩) (by intro o; go_simp)
    obtain ⟨s38, c38_0, c38_1, c38_2, c38_3, c38_4, c38_5, f38⟩ := L6 hb (w.heap.size + 1 + 1) (by first | omega | (simp only [sA, sC, sD, sE]; omega) | (simp; done) | (simp; omega)) (by go_simp; exact ⟨rfl, rfl, rfl, rfl, rfl, rfl⟩) (by intro o; go_simp)
    clear c33_0 c33_1 c33_2 c33_3 c33_4 c33_5 f33 c34_0 c34_1 c34_2 c34_3 c34_4 c34_5 f34 c35_0 c35_1 c35_2 c35_3 c35_4 c35_5 f35
    go_upto_region 20 with (fail)
    first | with_reducible refine wp_rebase ?_ | with_reducible refine wpList_rebase ?_
    intro w1 hb'
    have hb := hb'.out
    clear hb'
    obtain ⟨s39, c39_0, c39_1, c39_2, c39_3, c39_4, c39_5, f39⟩ := L6 hb (w.heap.size + 1) (by first | omega | (simp only [sA, sC, sD, sE]; omega) | (simp; done) | (simp; omega)) (by go_simp; exact ⟨rfl, rfl, rfl, rfl, rfl, rfl⟩) (by intro o; go_simp)
    obtain ⟨s40, c40_0, c40_1, c40_2, c40_3, c40_4, c40_5, f40⟩ := L6 hb (w.heap.size + 1 + 1) (by first | omega | (simp only [sA, sC, sD, sE]; omega) | (simp; done) | (simp; omega)) (by go_simp; exact ⟨rfl, rfl, rfl, rfl, rfl, rfl⟩) (by intro o; go_simp)
    clear c36_0 c36_1 c36_2 c36_3 c36_4 c36_5 f36 c37_0 c37_1 c37_2 c37_3 c37_4 c37_5 f37 c38_0 c38_1 c38_2 c38_3 c38_4 c38_5 f38
    go_wp2_with fail
    refine (HN2.out _).mono ?_
    rintro e' wD ⟨rfl, hb⟩
    obtain ⟨s41, c41_0, c41_1, c41_2, c41_3, c41_4, c41_5, f41⟩ := L6 hb (w.heap.size + 1 + 1) (by first | omega | (simp only [sA, sC, sD, sE]; omega) | (simp; done) | (simp; omega)) (by go_simp; exact ⟨rfl, rfl, rfl, rfl, rfl, rfl⟩) (by intro o; go_simp)
    clear c39_0 c39_1 c39_2 c39_3 c39_4 c39_5 f39 c40_0 c40_1 c40_2 c40_3 c40_4 c40_5 f40
    go_upto_region 21 with (fail)
    first | with_reducible refine wp_rebase ?_ | with_reducible refine wpList_rebase ?_
    intro w1 hb'
    have hb := hb'.out
    clear hb'
    have hbD : Below wD.heap.size wD w1 := by
      focus
        repeat with_reducible first | exact Below.refl _ _ | refine below_drewN ?_ _ | refine Below.drew ?_ | refine Below.setCell ?_ ?_ _ | refine Below.alloc ?_ ?_ _ | refine below_then ?_ ?_ (by with_reducible assumption)
        all_goals first | omega | (simp only [sA, sC, sD, sE]; omega) | (simp; done) | (simp; omega)
    obtain ⟨s42, c42_0, c42_1, c42_2, c42_3, c42_4, c42_5, f42⟩ := L6 hbD (w.heap.size + 1 + 1) (by first | omega | (simp only [sA, sC, sD, sE]; omega) | (simp; done) | (simp; omega)) (by go_simp; exact ⟨rfl, rfl, rfl, rfl, rfl, rfl⟩) (by intro o; go_simp)
    clear c41_0 c41_1 c41_2 c41_3 c41_4 c41_5 f41
    have qy := lt_RefN hb (wD.heap.size + 1) (by simp only [sz_alloc]; omega)
    have y0 := (lcc hb _ qy 0).trans (by go_simp; exact rfl)
    have y1 := (lcc hb _ qy 1).trans (by go_simp; exact rfl)
    have y2 := (lcc hb _ qy 2).trans (by go_simp; exact rfl)
    have y3 := (lcc hb _ qy 3).trans (by go_simp; exact rfl)
    have y4 := (lcc hb _ qy 4).trans (by go_simp; exact rfl)
    have y5 := (lcc hb _ qy 5).trans (by go_simp; exact rfl)
    go_wp2
    refine bodyPost_ret (v := .agg #[.int .i64 (q.e).k, .int .i64 (q.e).n, .int .i64 (q.e).d, .string (q.e).t, .bool (q.e).b, .int .i64 (q.e).f]) (by simp [results, Tryz.results43, go_sem, c42_0, c42_1, c42_2, c42_3, c42_4, c42_5]) rfl ⟨rfl, ?_⟩
    focus
      repeat with_reducible first | exact Below.refl _ _ | refine below_drewN ?_ _ | refine Below.drew ?_ | refine Below.setCell ?_ ?_ _ | refine Below.alloc ?_ ?_ _ | refine below_then ?_ ?_ (by with_reducible assumption)
      all_goals first | omega | (simp only [sA, sC, sD, sE]; omega) | (simp; done) | (simp; omega)
  rw [if_neg h7]
  have k7 : (q.e.k == 4) = false := by simp [h7]
  clear h7
  go_enter Tryz.func43, Tryz.ntmps43
  go_wp2_with fail
  refine (HT1.out _).mono ?_
  rintro e' wA ⟨rfl, hb⟩
  obtain ⟨s43, c43_0, c43_1, c43_2, c43_3, c43_4, c43_5, f43⟩ := L6 hb (w.heap.size) (by first | omega | (simp only [sA, sC, sD, sE]; omega) | (simp; done) | (simp; omega)) (by go_simp; exact ⟨rfl, rfl, rfl, rfl, rfl, rfl⟩) (by intro o; go_simp)
  obtain ⟨s44, c44_0, c44_1, c44_2, c44_3, c44_4, c44_5, f44⟩ := L6 hb (w.heap.size + 1) (by first | omega | (simp only [sA, sC, sD, sE]; omega) | (simp; done) | (simp; omega)) (by go_simp; exact ⟨rfl, rfl, rfl, rfl, rfl, rfl⟩) (by intro o; go_simp)
  obtain ⟨s45, c45_0, c45_1, c45_2, c45_3, c45_4, c45_5, f45⟩ := L6 hb (w.heap.size + 1 + 1) (by first | omega | (simp only [sA, sC, sD, sE]; omega) | (simp; done) | (simp; omega)) (by go_simp; exact ⟨rfl, rfl, rfl, rfl, rfl, rfl⟩) (by intro o; go_simp)
  go_wp2_with fail
  refine (HT2.out _).mono ?_
  rintro e' wB ⟨rfl, hb⟩
  obtain ⟨s46, c46_0, c46_1, c46_2, c46_3, c46_4, c46_5, f46⟩ := L6 hb (w.heap.size) (by first | omega | (simp only [sA, sC, sD, sE]; omega) | (simp; done) | (simp; omega)) (by go_simp; exact ⟨rfl, rfl, rfl, rfl, rfl, rfl⟩) (by intro o; go_simp)
  obtain ⟨s47, c47_0, c47_1, c47_2, c47_3, c47_4, c47_5, f47⟩ := L6 hb (w.heap.size + 1) (by first | omega | (simp only [sA, sC, sD, sE]; omega) | (simp; done) | (simp; omega)) (by go_simp; exact ⟨rfl, rfl, rfl, rfl, rfl, rfl⟩) (by intro o; go_simp)
  obtain ⟨s48, c48_0, c48_1, c48_2, c48_3, c48_4, c48_5, f48⟩ := L6 hb (w.heap.size + 1 + 1) (by first | omega | (simp only [sA, sC, sD, sE]; omega) | (simp; done) | (simp; omega)) (by go_simp; exact ⟨rfl, rfl, rfl, rfl, rfl, rfl⟩) (by intro o; go_simp)
  clear c43_0 c43_1 c43_2 c43_3 c43_4 c43_5 f43 c44_0 c44_1 c44_2 c44_3 c44_4 c44_5 f44 c45_0 c45_1 c45_2 c45_3 c45_4 c45_5 f45
  go_upto_region 3 with (fail)
  first | with_reducible refine wp_rebase ?_ | with_reducible refine wpList_rebase ?_
  intro w1 hb'
  have hb := hb'.out
  clear hb'
  obtain ⟨s49, c49_0, c49_1, c49_2, c49_3, c49_4, c49_5, f49⟩ := L6 hb (w.heap.size) (by first | omega | (simp only [sA, sC, sD, sE]; omega) | (simp; done) | (simp; omega)) (by go_simp; exact ⟨rfl, rfl, rfl, rfl, rfl, rfl⟩) (by intro o; go_simp)
  obtain ⟨s50, c50_0, c50_1, c50_2, c50_3, c50_4, c50_5, f50⟩ := L6 hb (w.heap.size + 1) (by first | omega | (simp only [sA, sC, sD, sE]; omega) | (simp; done) | (simp; omega)) (by go_simp; exact ⟨rfl, rfl, rfl, rfl, rfl, rfl⟩) (by intro o; go_simp)
  obtain ⟨s51, c51_0, c51_1, c51_2, c51_3, c51_4, c51_5, f51⟩ := L6 hb (w.heap.size + 1 + 1) (by first | omega | (simp only [sA, sC, sD, sE]; omega) | (simp; done) | (simp; omega)) (by go_simp; exact ⟨rfl, rfl, rfl, rfl, rfl, rfl⟩) (by intro o; go_simp)
  clear c46_0 c46_1 c46_2 c46_3 c46_4 c46_5 f46 c47_0 c47_1 c47_2 c47_3 c47_4 c47_5 f47 c48_0 c48_1 c48_2 c48_3 c48_4 c48_5 f48
  go_wp2_with fail
  refine (HN1.out _).mono ?_
  rintro e' wC ⟨rfl, hb⟩
  obtain ⟨s52, c52_0, c52_1, c52_2, c52_3, c52_4, c52_5, f52⟩ := L6 hb (w.heap.size) (by first | omega | (simp only [sA, sC, sD, sE]; omega) | (simp; done) | (simp; omega)) (by go_simp; exact ⟨rfl, rfl, rfl, rfl, rfl, rfl⟩) (by intro o; go_simp)
  obtain ⟨s53, c53_0, c53_1, c53_2, c53_3, c53_4, c53_5, f53⟩ := L6 hb (w.heap.size + 1) (by first | omega | (simp only [sA, sC, sD, sE]; omega) | (simp; done) | (simp; omega)) (by go_simp; exact ⟨rfl, rfl, rfl, rfl, rfl, rfl⟩) (by intro o; go_simp)
  obtain ⟨s54, c54_0, c54_1, c54_2, c54_3, c54_4, c54_5, f54⟩ := L6 hb (w.heap.size + 1 + 1) (by first | omega | (simp only [sA, sC, sD, sE]; omega) | (simp; done) | (simp; omega)) (by go_simp; exact ⟨rfl, rfl, rfl, rfl, rfl, rfl⟩) (by intro o; go_simp)
  clear c49_0 c49_1 c49_2 c49_3 c49_4 c49_5 f49 c50_0 c50_1 c50_2 c50_3 c50_4 c50_5 f50 c51_0 c51_1 c51_2 c51_3 c51_4 c51_5 f51
  go_upto_region 18 with (fail)
  first | with_reducible refine wp_rebase ?_ | with_reducible refine wpList_rebase ?_
  intro w1 hb'
  have hb := hb'.out
  clear hb'
  obtain ⟨s55, c55_0, c55_1, c55_2, c55_3, c55_4, c55_5, f55⟩ := L6 hb (w.heap.size + 1) (by first | omega | (simp only [sA, sC, sD, sE]; omega) | (simp; done) | (simp; omega)) (by go_simp; exact ⟨rfl, rfl, rfl, rfl, rfl, rfl⟩) (by intro o; go_simp)
  obtain ⟨s56, c56_0, c56_1, c56_2, c56_3, c56_4, c56_5, f56⟩ := L6 hb (w.heap.size + 1 + 1) (by first | omega | (simp only [sA, sC, sD, sE]; omega) | (simp; done) | (simp; omega)) (by go_simp; exact ⟨rfl, rfl, rfl, rfl, rfl, rfl⟩) (by intro o; go_simp)
  obtain ⟨s57, c57_0, c57_1, f57⟩ := L2 hb (wC.heap.size) (by first | omega | (simp only [sA, sC, sD, sE]; omega) | (simp; done) | (simp; omega)) (by go_simp; exact ⟨rfl, rfl⟩) (by intro o; go_simp)
  obtain ⟨s58, c58_0, c58_1, c58_2, c58_3, c58_4, c58_5, f58⟩ := L6 hb (wC.heap.size + 1) (by first | omega | (simp only [sA, sC, sD, sE]; omega) | (simp; done) | (simp; omega)) (by go_simp; exact ⟨rfl, rfl, rfl, rfl, rfl, rfl⟩) (by intro o; go_simp)
  clear c52_0 c52_1 c52_2 c52_3 c52_4 c52_5 f52 c53_0 c53_1 c53_2 c53_3 c53_4 c53_5 f53 c54_0 c54_1 c54_2 c54_3 c54_4 c54_5 f54
  go_wp2_with fail
  refine (HN2.out _).mono ?_
  rintro e' wD ⟨rfl, hb⟩
  obtain ⟨s59, c59_0, c59_1, c59_2, c59_3, c59_4, c59_5, f59⟩ := L6 hb (w.heap.size + 1 + 1) (by first | omega | (simp only [sA, sC, sD, sE]; omega) | (simp; done) | (simp; omega)) (by go_simp; exact ⟨rfl, rfl, rfl, rfl, rfl, rfl⟩) (by intro o; go_simp)
  obtain ⟨s60, c60_0, c60_1, f60⟩ := L2 hb (wC.heap.size) (by first | omega | (simp only [sA, sC, sD, sE]; omega) | (simp; done) | (simp; omega)) (by go_simp; exact ⟨rfl, rfl⟩) (by intro o; go_simp)
  obtain ⟨s61, c61_0, c61_1, c61_2, c61_3, c61_4, c61_5, f61⟩ := L6 hb (wC.heap.size + 1) (by first | omega | (simp only [sA, sC, sD, sE]; omega) | (simp; done) | (simp; omega)) (by go_simp; exact ⟨rfl, rfl, rfl, rfl, rfl, rfl⟩) (by intro o; go_simp)
  clear c55_0 c55_1 c55_2 c55_3 c55_4 c55_5 f55 c56_0 c56_1 c56_2 c56_3 c56_4 c56_5 f56 c57_0 c57_1 f57 c58_0 c58_1 c58_2 c58_3 c58_4 c58_5 f58
  go_upto_region 21 with (fail)
  first | with_reducible refine wp_rebase ?_ | with_reducible refine wpList_rebase ?_
  intro w1 hb'
  have hb := hb'.out
  clear hb'
  have hbD : Below wD.heap.size wD w1 := by
    focus
      repeat with_reducible first | exact Below.refl _ _ | refine below_drewN ?_ _ | refine Below.drew ?_ | refine Below.setCell ?_ ?_ _ | refine Below.alloc ?_ ?_ _ | refine below_then ?_ ?_ (by with_reducible assumption)
      all_goals first | omega | (simp only [sA, sC, sD, sE]; omega) | (simp; done) | (simp; omega)
  obtain ⟨s62, c62_0, c62_1, c62_2, c62_3, c62_4, c62_5, f62⟩ := L6 hbD (w.heap.size + 1 + 1) (by first | omega | (simp only [sA, sC, sD, sE]; omega) | (simp; done) | (simp; omega)) (by go_simp; exact ⟨rfl, rfl, rfl, rfl, rfl, rfl⟩) (by intro o; go_simp)
  obtain ⟨s63, c63_0, c63_1⟩ := L2r hbD (wC.heap.size) (by first | omega | (simp only [sA, sC, sD, sE]; omega) | (simp; done) | (simp; omega)) (by go_simp; exact ⟨rfl, rfl⟩)
  clear c59_0 c59_1 c59_2 c59_3 c59_4 c59_5 f59 c60_0 c60_1 f60 c61_0 c61_1 c61_2 c61_3 c61_4 c61_5 f61
  have qy := lt_RefN hb (wD.heap.size + 1) (by simp only [sz_alloc]; omega)
  have y0 := (lcc hb _ qy 0).trans (by go_simp; exact rfl)
  have y1 := (lcc hb _ qy 1).trans (by go_simp; exact rfl)
  have y2 := (lcc hb _ qy 2).trans (by go_simp; exact rfl)
  have y3 := (lcc hb _ qy 3).trans (by go_simp; exact rfl)
  have y4 := (lcc hb _ qy 4).trans (by go_simp; exact rfl)
  have y5 := (lcc hb _ qy 5).trans (by go_simp; exact rfl)
  have qx := lt_RefN hb wD.heap.size (by simp only [sz_alloc]; omega)
  have x0 := (lcc hb _ qx 0).trans (by go_simp; exact rfl)
  have x1 := (lcc hb _ qx 1).trans (by go_simp; exact rfl)
  go_wp2_with fail
  refine (HR.out _).mono ?_
  rintro e' wE ⟨rfl, hb⟩
  obtain ⟨s64, c64_0, c64_1, c64_2, c64_3, c64_4, c64_5, f64⟩ := L6 hb (w.heap.size + 1 + 1) (by first | omega | (simp only [sA, sC, sD, sE]; omega) | (simp; done) | (simp; omega)) (by go_simp; exact ⟨rfl, rfl, rfl, rfl, rfl, rfl⟩) (by intro o; go_simp)
  clear c62_0 c62_1 c62_2 c62_3 c62_4 c62_5 f62 c63_0 c63_1
  go_wp2
  refine bodyPost_ret (v := .agg #[.int .i64 (r).k, .int .i64 (r).n, .int .i64 (r).d, .string (r).t, .bool (r).b, .int .i64 (r).f]) (by simp [results, Tryz.results43, go_sem, c64_0, c64_1, c64_2, c64_3, c64_4, c64_5]) rfl ⟨rfl, ?_⟩
  focus
    repeat with_reducible first | exact Below.refl _ _ | refine below_drewN ?_ _ | refine Below.drew ?_ | refine Below.setCell ?_ ?_ _ | refine Below.alloc ?_ ?_ _ | refine below_then ?_ ?_ (by with_reducible assumption)
    all_goals first | omega | (simp only [sA, sC, sD, sE]; omega) | (simp; done) | (simp; omega)
end Go.Proofs.YtglngfaagjgpjaaGreatDoor
