/- Walks of the reference's package for functions: reckoned at MOD and QUOTIENT. -/
import Derived.Test.YtglngfaagjgpjaaGreatDoorRefG
import Derived.Deep.Cut
import Derived.Deep.CutBlock
namespace Go.Proofs.YtglngfaagjgpjaaGreatDoor
open Go Go.RowKit
set_option linter.unusedSimpArgs false
set_option linter.unusedVariables false
theorem quotI_pos {X Y : Int} (hY : 0 < Y) : quotI X Y = X / Y := by
  unfold quotI
  rw [decide_eq_false (show ¬ Y < 0 by omega)]
  by_cases hX : X < 0
  · obtain ⟨f1, f2⟩ := tdiv_floor hY hX
    rw [decide_eq_true hX]
    by_cases hr : X.tmod Y = 0
    · rw [if_pos hr]; exact (f2 hr).symm
    · rw [if_neg hr, if_pos (by rfl)]; exact (f1 hr).symm
  · have e := Int.tdiv_eq_ediv_of_nonneg (a := X) (b := Y) (by omega)
    rw [decide_eq_false hX, e]
    split <;> rfl
theorem quotI_neg {X Y : Int} (hY : Y < 0) : quotI X Y = (-X) / (-Y) := by
  rw [← quotI_pos (X := -X) (Y := -Y) (by omega)]
  have h1 : (-X).tdiv (-Y) = X.tdiv Y := by rw [Int.neg_tdiv, Int.tdiv_neg, Int.neg_neg]
  have h2 : (-X).tmod (-Y) = -(X.tmod Y) := by rw [Int.neg_tmod, Int.tmod_neg]
  unfold quotI
  rw [h1, h2]
  by_cases hr : X.tmod Y = 0
  · rw [if_pos hr, if_pos (by rw [hr]; rfl)]
  · have hX0 : X ≠ 0 := by rintro rfl; exact hr (Int.zero_tmod _)
    have e1 : decide (Y < 0) = true := decide_eq_true hY
    have e2 : decide (-Y < 0) = false := decide_eq_false (by omega)
    have hr2 : ¬ -(X.tmod Y) = 0 := by omega
    rw [if_neg hr, if_neg hr2, e1, e2]
    by_cases hX : X < 0
    · rw [decide_eq_true hX, decide_eq_false (show ¬ -X < 0 by omega)]; rfl
    · rw [decide_eq_false hX, decide_eq_true (show -X < 0 by omega)]; rfl
/-- One less where it is too much. -/
theorem floor_of {U D : Int} (hD : 0 < D) (hD1 : D ≤ 1000000000000000000) (h0 : -1000000000000000000 ≤ U) (h1 : U ≤ 1000000000000000000) :
    -2000000000000000000 ≤ U.tdiv D * D ∧ U.tdiv D * D ≤ 2000000000000000000 ∧ -1000000000000000001 ≤ U.tdiv D ∧ U.tdiv D ≤ 1000000000000000001 ∧ ((¬ U < U.tdiv D * D ∧ U.tdiv D = U / D) ∨ (U < U.tdiv D * D ∧ U.tdiv D - 1 = U / D)) := by
  have em := Int.emod_nonneg U (b := D) (by omega)
  have em2 := Int.emod_lt_of_pos U hD
  have ed : D * (U / D) + U % D = U := Int.mul_ediv_add_emod U D
  have tb : -1000000000000000000 ≤ U.tdiv D ∧ U.tdiv D ≤ 1000000000000000000 := by
    have h : (U.tdiv D).natAbs ≤ U.natAbs := by rw [Int.natAbs_tdiv]; exact Nat.div_le_self _ _
    omega
  by_cases hn : U < 0
  · obtain ⟨f1, f2⟩ := tdiv_floor hD hn
    by_cases hr : U.tmod D = 0
    · have hP : U.tdiv D * D = U := by
        have h := Int.mul_tdiv_add_tmod U D
        rw [hr] at h
        rw [Int.mul_comm]
        omega
      rw [hP]
      exact ⟨by omega, by omega, by omega, by omega, .inl ⟨by omega, (f2 hr).symm⟩⟩
    · have e : U.tdiv D = U / D + 1 := by have := f1 hr; omega
      have hP : U.tdiv D * D = U - U % D + D := by
        rw [e, Int.add_mul, Int.one_mul, Int.mul_comm]
        omega
      rw [hP]
      exact ⟨by omega, by omega, by omega, by omega, .inr ⟨by omega, by omega⟩⟩
  · have e := Int.tdiv_eq_ediv_of_nonneg (a := U) (b := D) (by omega)
    have hP : U.tdiv D * D = U - U % D := by rw [e, Int.mul_comm]; omega
    rw [hP]
    exact ⟨by omega, by omega, by omega, by omega, .inl ⟨by omega, e⟩⟩
set_option maxRecDepth 100000 in
set_option maxHeartbeats 2000000 in
theorem rk45 (la : Option Addr) (lc : Nat) (x y : Nm) (w : World) (HN : Hid (∀ wx, Below w.heap.size w wx → Calls Tryz.prog 91 #[.slice la 2 lc, .int .i64 0] wx fun e w' => ∃ g cap : Nat, e = .returned (.tuple #[.slice (some ⟨g, 0, none⟩) 2 cap, .agg #[.int .i64 0, .int .i64 0, .int .i64 0, .string ⟨#[]⟩, .bool false, .int .i64 0]]) ∧ Below wx.heap.size wx w' ∧ 2 ≤ cap ∧ g < w'.heap.size ∧ w'.cell? ⟨g, 0, none⟩ = some (.int .i64 x.n) ∧ w'.cell? ⟨g, 1, none⟩ = some (.int .i64 x.d) ∧ w'.cell? ⟨g, 2, none⟩ = some (.int .i64 y.n) ∧ w'.cell? ⟨g, 3, none⟩ = some (.int .i64 y.d))) (hx : rightN x.n x.d = true) (hy : rightN y.n y.d = true) (h0 : ¬ y.n = 0) :
    Calls Tryz.prog 45 #[.int .i64 45, .slice la 2 lc] w fun e w' => e = .returned (.agg #[.int .i64 (quotV x.n x.d y.n y.d).k, .int .i64 (quotV x.n x.d y.n y.d).n, .int .i64 (quotV x.n x.d y.n y.d).d, .string (quotV x.n x.d y.n y.d).t, .bool (quotV x.n x.d y.n y.d).b, .int .i64 (quotV x.n x.d y.n y.d).f]) ∧ Below w.heap.size w w' := by
  obtain ⟨a1, a2, a3, a4, _⟩ := rightN_iff.1 hx
  obtain ⟨b1, b2, b3, b4, _⟩ := rightN_iff.1 hy
  have p1 := cross_bd a1 a2 b3 b4
  have p2 := cross_bd b1 b2 a3 a4
  have hY0 : y.n * x.d ≠ 0 := Int.mul_ne_zero h0 (by omega)
  have hX : wrap64 (x.n * y.d) = x.n * y.d := IntWalk.wrap64_in _ ⟨by omega, by omega⟩
  have hY : wrap64 (y.n * x.d) = y.n * x.d := IntWalk.wrap64_in _ ⟨by omega, by omega⟩
  have hcase : ∃ U D : Int, ((y.n * x.d < 0 ∧ -(x.n * y.d) = U ∧ -(y.n * x.d) = D) ∨ (¬ y.n * x.d < 0 ∧ x.n * y.d = U ∧ y.n * x.d = D)) ∧ 0 < D ∧ D ≤ 1000000000000000000 ∧ -1000000000000000000 ≤ U ∧ U ≤ 1000000000000000000 ∧ quotV x.n x.d y.n y.d = wholeF (U / D) := by
    have hq : quotV x.n x.d y.n y.d = wholeF (quotI (x.n * y.d) (y.n * x.d)) := by unfold quotV; rw [Int.mul_comm x.d y.n]
    rw [hq]
    by_cases hs : y.n * x.d < 0
    · exact ⟨_, _, .inl ⟨hs, rfl, rfl⟩, by omega, by omega, by omega, by omega, by rw [quotI_neg hs]⟩
    · exact ⟨_, _, .inr ⟨hs, rfl, rfl⟩, by omega, by omega, by omega, by omega, by rw [quotI_pos (by omega)]⟩
  obtain ⟨U, D, hUD, hD0, hD1, hU0, hU1, hR⟩ := hcase
  rw [hR]
  obtain ⟨f1, f2, f3, f4, hfl⟩ := floor_of hD0 hD1 hU0 hU1
  have hz : (y.n == 0) = false := by simp [h0]
  have dz : (D == 0) = false := by rw [beq_eq_false_iff_ne]; omega
  have HM : Hid (∀ q, q = U / D → I64 q → ∀ wx, Calls Tryz.prog 102 #[.int .i64 q] wx fun e w' => e = .returned (.agg #[.int .i64 (wholeF (U / D)).k, .int .i64 (wholeF (U / D)).n, .int .i64 (wholeF (U / D)).d, .string (wholeF (U / D)).t, .bool (wholeF (U / D)).b, .int .i64 (wholeF (U / D)).f]) ∧ Below wx.heap.size wx w') := by
    rintro q rfl hq wx
    exact r7_fitting _ wx hq
  generalize wholeF (U / D) = R at *
  obtain ⟨Z, hZ⟩ : ∃ Z, Z = U / D := ⟨_, rfl⟩
  rw [← hZ] at hfl HM
  obtain ⟨U1, eU⟩ : ∃ U1, U1 = x.n * y.d := ⟨_, rfl⟩
  obtain ⟨D1, eD⟩ : ∃ D1, D1 = y.n * x.d := ⟨_, rfl⟩
  rw [← eU] at hUD p1
  rw [← eD] at hUD p2 hY0
  replace hX : wrap64 (x.n * y.d) = U1 := by rw [hX, eU]
  replace hY : wrap64 (y.n * x.d) = D1 := by rw [hY, eD]
  clear eU eD
  have hq : U.tdiv D = U.tdiv D := rfl
  obtain ⟨q0, hq0⟩ : ∃ q0, q0 = U.tdiv D := ⟨_, rfl⟩
  rw [← hq0] at f1 f2 f3 f4 hfl
  obtain ⟨P, hP⟩ : ∃ P, P = q0 * D := ⟨_, rfl⟩
  rw [← hP] at f1 f2 hfl
  have hw : IntKind.i64.wrap (q0 * D) = P := by rw [← hP]; exact w64 (by omega) (by omega)
  have hw2 : wrap64 (q0 * D) = P := by rw [← hP]; exact IntWalk.wrap64_in _ ⟨by omega, by omega⟩
  have hq1 : U.tdiv D = q0 := hq0.symm
  have hwq : IntKind.i64.wrap q0 = q0 := w64 (by omega) (by omega)
  clear hq0 hP hq hx hy hR h0 hZ a1 a2 a3 a4 b1 b2 b3 b4
  go_enter Tryz.func45, Tryz.ntmps45
  go_wp2_with fail
  refine (HN.out _ ?_).mono ?_
  · skip
    focus
      repeat with_reducible first | exact Below.refl _ _ | refine below_drewN ?_ _ | refine Below.drew ?_ | refine Below.setCell ?_ ?_ _ | refine Below.alloc ?_ ?_ _ | refine below_then ?_ ?_ (by with_reducible assumption)
      all_goals first | omega | (simp only [sA, sC, sD, sE]; omega) | (simp; done) | (simp; omega)
  rintro e wA ⟨g, cap, rfl, hb, hcap, hgl, c0, c1, c2, c3⟩
  obtain ⟨s1, c1_0, c1_1, c1_2, c1_3, c1_4, c1_5, f1⟩ := L6 hb (w.heap.size) (by first | omega | (simp only [sA, sC, sD, sE]; omega) | (simp; done) | (simp; omega)) (by go_simp; exact ⟨rfl, rfl, rfl, rfl, rfl, rfl⟩) (by intro o; go_simp)
  go_upto_region 4 with (fail)
  first | with_reducible refine wp_rebase ?_ | with_reducible refine wpList_rebase ?_
  intro w1 hb'
  have hb := hb'.out
  clear hb'
  obtain ⟨s2, c2_0, c2_1, c2_2, c2_3, c2_4, c2_5, f2⟩ := L6 hb (w.heap.size) (by first | omega | (simp only [sA, sC, sD, sE]; omega) | (simp; done) | (simp; omega)) (by go_simp; exact ⟨rfl, rfl, rfl, rfl, rfl, rfl⟩) (by intro o; go_simp)
  obtain ⟨s3, c3_0, c3_1, c3_2, c3_3⟩ := L4r hb (g) (by first | omega | (simp only [sA, sC, sD, sE]; omega) | (simp; done) | (simp; omega)) (by go_simp; exact ⟨rfl, rfl, rfl, rfl⟩)
  clear c1_0 c1_1 c1_2 c1_3 c1_4 c1_5 f1
  go_upto_region 27 with (fail)
  go_quiet (fail)
  go_wp2
  go_quiet (fail)
  simp only [hX, hY]
  go_upto_region 29 with (fail)
  first | with_reducible refine wp_rebase ?_ | with_reducible refine wpList_rebase ?_
  intro w1 hb'
  have hb := hb'.out
  clear hb'
  obtain ⟨s4, c4_0, c4_1, c4_2, c4_3, c4_4, c4_5, f4⟩ := L6 hb (w.heap.size) (by first | omega | (simp only [sA, sC, sD, sE]; omega) | (simp; done) | (simp; omega)) (by go_simp; exact ⟨rfl, rfl, rfl, rfl, rfl, rfl⟩) (by intro o; go_simp)
  clear c2_0 c2_1 c2_2 c2_3 c2_4 c2_5 f2 c3_0 c3_1 c3_2 c3_3
  go_upto_if 122 with (fail)
  go_cut [14, 15] from 123 (fun a b wx => a = .int .i64 U ∧ b = .int .i64 D ∧ wx = w1)
  case first =>
    rcases hUD with ⟨h, e1, e2⟩ | ⟨h, e1, e2⟩
    all_goals
      go_wp2
      go_meet
      exact ⟨by rw [← e1], by rw [← e2], rfl⟩
  case rest =>
    obtain ⟨rfl, rfl, rfl⟩ := hcut
    clear hUD hX hY
    rcases hfl with ⟨h, e1⟩ | ⟨h, e1⟩
    all_goals
      have HM2 := Lib.hid (HM.out _ e1 ⟨by omega, by omega⟩)
      clear e1 HM
      go_wp2_with fail
      refine (HM2.out _).mono ?_
      rintro e wB ⟨rfl, hb⟩
      obtain ⟨s5, c5_0, c5_1, c5_2, c5_3, c5_4, c5_5, f5⟩ := L6 hb (w.heap.size) (by first | omega | (simp only [sA, sC, sD, sE]; omega) | (simp; done) | (simp; omega)) (by go_simp; exact ⟨rfl, rfl, rfl, rfl, rfl, rfl⟩) (by intro o; go_simp)
      clear c4_0 c4_1 c4_2 c4_3 c4_4 c4_5 f4
      go_wp2
      refine bodyPost_ret (v := .agg #[.int .i64 (R).k, .int .i64 (R).n, .int .i64 (R).d, .string (R).t, .bool (R).b, .int .i64 (R).f]) (by simp [results, Tryz.results45, go_sem, c5_0, c5_1, c5_2, c5_3, c5_4, c5_5]) rfl ⟨rfl, ?_⟩
      focus
        repeat with_reducible first | exact Below.refl _ _ | refine below_drewN ?_ _ | refine Below.drew ?_ | refine Below.setCell ?_ ?_ _ | refine Below.alloc ?_ ?_ _ | refine below_then ?_ ?_ (by with_reducible assumption)
        all_goals first | omega | (simp only [sA, sC, sD, sE]; omega) | (simp; done) | (simp; omega)
set_option maxRecDepth 100000 in
set_option maxHeartbeats 2000000 in
theorem rk44 (la : Option Addr) (lc : Nat) (x y : Nm) (w : World) (HN : Hid (∀ wx, Below w.heap.size w wx → Calls Tryz.prog 91 #[.slice la 2 lc, .int .i64 0] wx fun e w' => ∃ g cap : Nat, e = .returned (.tuple #[.slice (some ⟨g, 0, none⟩) 2 cap, .agg #[.int .i64 0, .int .i64 0, .int .i64 0, .string ⟨#[]⟩, .bool false, .int .i64 0]]) ∧ Below wx.heap.size wx w' ∧ 2 ≤ cap ∧ g < w'.heap.size ∧ w'.cell? ⟨g, 0, none⟩ = some (.int .i64 x.n) ∧ w'.cell? ⟨g, 1, none⟩ = some (.int .i64 x.d) ∧ w'.cell? ⟨g, 2, none⟩ = some (.int .i64 y.n) ∧ w'.cell? ⟨g, 3, none⟩ = some (.int .i64 y.d))) (hx : I64 x.n ∧ I64 x.d) (hy : I64 y.n ∧ I64 y.d) (h0 : ¬ y.n = 0) :
    Calls Tryz.prog 45 #[.int .i64 44, .slice la 2 lc] w fun e w' => e = .returned (.agg #[.int .i64 (toldB (modN x.n x.d y.n y.d)).k, .int .i64 (toldB (modN x.n x.d y.n y.d)).n, .int .i64 (toldB (modN x.n x.d y.n y.d)).d, .string (toldB (modN x.n x.d y.n y.d)).t, .bool (toldB (modN x.n x.d y.n y.d)).b, .int .i64 (toldB (modN x.n x.d y.n y.d)).f]) ∧ Below w.heap.size w w' := by
  have hz : (y.n == 0) = false := by simp [h0]
  have HA := Lib.hid fun wx => r1_Mod x.n x.d y.n y.d wx hx.1 hx.2 hy.1 hy.2
  have i1 := mod_bds x.n x.d y.n y.d
  have HM := Lib.hid fun wx => r7_num (modN x.n x.d y.n y.d).n (modN x.n x.d y.n y.d).d (modN x.n x.d y.n y.d).ok wx (I64.of i1.1 i1.2.1) (I64.of (by omega) (by omega))
  show Calls _ _ _ _ fun e w' => e = .returned (.agg #[.int .i64 (toldF (modN x.n x.d y.n y.d).n (modN x.n x.d y.n y.d).d (modN x.n x.d y.n y.d).ok).k, .int .i64 (toldF (modN x.n x.d y.n y.d).n (modN x.n x.d y.n y.d).d (modN x.n x.d y.n y.d).ok).n, .int .i64 (toldF (modN x.n x.d y.n y.d).n (modN x.n x.d y.n y.d).d (modN x.n x.d y.n y.d).ok).d, .string (toldF (modN x.n x.d y.n y.d).n (modN x.n x.d y.n y.d).d (modN x.n x.d y.n y.d).ok).t, .bool (toldF (modN x.n x.d y.n y.d).n (modN x.n x.d y.n y.d).d (modN x.n x.d y.n y.d).ok).b, .int .i64 (toldF (modN x.n x.d y.n y.d).n (modN x.n x.d y.n y.d).d (modN x.n x.d y.n y.d).ok).f]) ∧ _
  generalize modN x.n x.d y.n y.d = a at *
  generalize toldF a.n a.d a.ok = R at *
  clear hx hy i1 h0
  go_enter Tryz.func45, Tryz.ntmps45
  go_wp2_with fail
  refine (HN.out _ ?_).mono ?_
  · skip
    focus
      repeat with_reducible first | exact Below.refl _ _ | refine below_drewN ?_ _ | refine Below.drew ?_ | refine Below.setCell ?_ ?_ _ | refine Below.alloc ?_ ?_ _ | refine below_then ?_ ?_ (by with_reducible assumption)
      all_goals first | omega | (simp only [sA, sC, sD, sE]; omega) | (simp; done) | (simp; omega)
  rintro e wA ⟨g, cap, rfl, hb, hcap, hgl, c0, c1, c2, c3⟩
  obtain ⟨s6, c6_0, c6_1, c6_2, c6_3, c6_4, c6_5, f6⟩ := L6 hb (w.heap.size) (by first | omega | (simp only [sA, sC, sD, sE]; omega) | (simp; done) | (simp; omega)) (by go_simp; exact ⟨rfl, rfl, rfl, rfl, rfl, rfl⟩) (by intro o; go_simp)
  go_upto_region 4 with (fail)
  first | with_reducible refine wp_rebase ?_ | with_reducible refine wpList_rebase ?_
  intro w1 hb'
  have hb := hb'.out
  clear hb'
  obtain ⟨s7, c7_0, c7_1, c7_2, c7_3, c7_4, c7_5, f7⟩ := L6 hb (w.heap.size) (by first | omega | (simp only [sA, sC, sD, sE]; omega) | (simp; done) | (simp; omega)) (by go_simp; exact ⟨rfl, rfl, rfl, rfl, rfl, rfl⟩) (by intro o; go_simp)
  obtain ⟨s8, c8_0, c8_1, c8_2, c8_3⟩ := L4r hb (g) (by first | omega | (simp only [sA, sC, sD, sE]; omega) | (simp; done) | (simp; omega)) (by go_simp; exact ⟨rfl, rfl, rfl, rfl⟩)
  clear c6_0 c6_1 c6_2 c6_3 c6_4 c6_5 f6
  go_upto_region 25 with (fail)
  go_cut [12, 13] from 90 to 99 (fun p q wx => ∃ b : Nat, p = .pointer (some ⟨b, 0, none⟩) ∧ q = .bool a.ok ∧ Blk wx b (cells2 ⟨a.n, a.d⟩).toArray 24 ∧ Below w1.heap.size w1 wx)
  case first =>
    go_region_with ((first | (go_at_call 101; refine (HA.out _).mono ?_; rintro e wB ⟨rfl, hb⟩; (try have z0 := (lcc hb w1.heap.size (by (first | omega | (simp only [sz_alloc, sz_setCell, sz_drew, sz_drewN]; omega) | (simp; done) | (simp; omega))) 0).trans (by go_simp; exact rfl)); (try have z1 := (lcc hb w1.heap.size (by (first | omega | (simp only [sz_alloc, sz_setCell, sz_drew, sz_drewN]; omega) | (simp; done) | (simp; omega))) 1).trans (by go_simp; exact rfl)); (try have zf := lcff hb w1.heap.size (by (first | omega | (simp only [sz_alloc, sz_setCell, sz_drew, sz_drewN]; omega) | (simp; done) | (simp; omega))) (by intro o; go_simp))) | fail))
    all_goals
      go_wp2
      go_meet
      refine ⟨_, rfl, rfl, ?_, ?_⟩
      · first
          | exact heap_alloc_new _ _
          | (have hz : Blk wB w1.heap.size #[.int .i64 0, .int .i64 0] 24 := by
               refine Blk.below ?_ hb
               exact heap_alloc_new w1 _
             exact ((hz.set 0 _).set 1 _).cast rfl)
      · have sB := hb.size
        try simp only [sz_alloc, sz_drew] at sB
        focus
          repeat with_reducible first | exact Below.refl _ _ | refine below_drewN ?_ _ | refine Below.drew ?_ | refine Below.setCell ?_ ?_ _ | refine Below.alloc ?_ ?_ _ | refine below_then ?_ ?_ (by with_reducible assumption)
          all_goals first | omega | (simp only [sA, sC, sD, sE]; omega) | (simp; done) | (simp; omega)
  case rest =>
    obtain ⟨b, rfl, rfl, hB, hb⟩ := hcut
    have n0 := hB.cell 0
    have n1 := hB.cell 1
    simp only [cells2, List.getElem?_toArray, List.getElem?_cons_zero, List.getElem?_cons_succ] at n0 n1
    have lB := hB.lt
    obtain ⟨s9, c9_0, c9_1, c9_2, c9_3, c9_4, c9_5, f9⟩ := L6 hb (w.heap.size) (by first | omega | (simp only [sA, sC, sD, sE]; omega) | (simp; done) | (simp; omega)) (by go_simp; exact ⟨rfl, rfl, rfl, rfl, rfl, rfl⟩) (by intro o; go_simp)
    clear c7_0 c7_1 c7_2 c7_3 c7_4 c7_5 f7 c8_0 c8_1 c8_2 c8_3
    go_wp2_with fail
    refine (HM.out _).mono ?_
    rintro e wC ⟨rfl, hb⟩
    obtain ⟨s10, c10_0, c10_1, c10_2, c10_3, c10_4, c10_5, f10⟩ := L6 hb (w.heap.size) (by first | omega | (simp only [sA, sC, sD, sE]; omega) | (simp; done) | (simp; omega)) (by go_simp; exact ⟨rfl, rfl, rfl, rfl, rfl, rfl⟩) (by intro o; go_simp)
    clear c9_0 c9_1 c9_2 c9_3 c9_4 c9_5 f9
    go_wp2
    refine bodyPost_ret (v := .agg #[.int .i64 (R).k, .int .i64 (R).n, .int .i64 (R).d, .string (R).t, .bool (R).b, .int .i64 (R).f]) (by simp [results, Tryz.results45, go_sem, c10_0, c10_1, c10_2, c10_3, c10_4, c10_5]) rfl ⟨rfl, ?_⟩
    focus
      repeat with_reducible first | exact Below.refl _ _ | refine below_drewN ?_ _ | refine Below.drew ?_ | refine Below.setCell ?_ ?_ _ | refine Below.alloc ?_ ?_ _ | refine below_then ?_ ?_ (by with_reducible assumption)
      all_goals first | omega | (simp only [sA, sC, sD, sE]; omega) | (simp; done) | (simp; omega)
end Go.Proofs.YtglngfaagjgpjaaGreatDoor
