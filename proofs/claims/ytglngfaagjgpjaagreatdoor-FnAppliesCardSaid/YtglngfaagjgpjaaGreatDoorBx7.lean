/- A number that something came to, as a value; no program in sight. Walks of package funcs: quotient; the functions of numbers. -/
import Derived.Test.YtglngfaagjgpjaaGreatDoorBx1
import Derived.Test.YtglngfaagjgpjaaGreatDoorNumI
import Derived.Test.YtglngfaagjgpjaaGreatDoorCutX
import Derived.Test.YtglngfaagjgpjaaGreatDoorBx5
namespace Go.Proofs.YtglngfaagjgpjaaGreatDoor
open Go.RowKit
def toldB (r : NmB) : Vl := toldF r.n r.d r.ok
end Go.Proofs.YtglngfaagjgpjaaGreatDoor
namespace Go.Proofs.YtglngfaagjgpjaaGreatDoor
open Go Go.RowKit
set_option linter.unusedSimpArgs false
set_option linter.unusedVariables false
/-- A quotient of whole numbers, rounded down. -/
def quotI (x y : Int) : Int := if x.tmod y = 0 then x.tdiv y else if (decide (x < 0) != decide (y < 0)) = true then x.tdiv y - 1 else x.tdiv y
def quotV (n d m e : Int) : Vl := wholeF (quotI (n * e) (d * m))
theorem cross_bd {n d : Int} (hn0 : -1000000000000 ≤ n) (hn1 : n ≤ 1000000000000) (hd0 : 1 ≤ d) (hd1 : d ≤ 1000000) : -1000000000000000000 ≤ n * d ∧ n * d ≤ 1000000000000000000 := by
  have := mul_bd hn0 hn1 (by omega) hd1
  omega
set_option maxHeartbeats 1000000 in
theorem funcs_quotient (n d m e : Int) (w : World) (hr1 : rightN n d = true) (hr2 : rightN m e = true) (hm0 : ¬ m = 0) :
    Calls Tryz.prog 82 #[.agg #[.int .i64 n, .int .i64 d], .agg #[.int .i64 m, .int .i64 e]] w fun e' w' => e' = .returned (.agg #[.int .i64 (quotV n d m e).k, .int .i64 (quotV n d m e).n, .int .i64 (quotV n d m e).d, .string (quotV n d m e).t, .bool (quotV n d m e).b, .int .i64 (quotV n d m e).f]) ∧ Below w.heap.size w w' := by
  obtain ⟨a1, a2, a3, a4, _⟩ := rightN_iff.1 hr1
  obtain ⟨b1, b2, b3, b4, _⟩ := rightN_iff.1 hr2
  have p1 := cross_bd a1 a2 b3 b4
  have p2 := cross_bd b1 b2 a3 a4
  rw [Int.mul_comm m d] at p2
  have hY0 : d * m ≠ 0 := Int.mul_ne_zero (by omega) hm0
  have HF : Hid (quotV n d m e = wholeF (quotI (n * e) (d * m))) := rfl
  have hX : IntKind.i64.wrap (n * e) = n * e := w64 (by omega) (by omega)
  have hY : IntKind.i64.wrap (d * m) = d * m := w64 (by omega) (by omega)
  obtain ⟨X, eX⟩ : ∃ X, X = n * e := ⟨_, rfl⟩
  obtain ⟨Y, eY⟩ : ∃ Y, Y = d * m := ⟨_, rfl⟩
  rw [← eX] at p1 HF
  rw [← eY] at p2 hY0 HF
  replace hX : IntKind.i64.wrap (n * e) = X := by rw [eX]; exact hX
  replace hY : IntKind.i64.wrap (d * m) = Y := by rw [eY]; exact hY
  have y0 : (Y == 0) = false := by simp [hY0]
  have tb : -1000000000000000000 ≤ X.tdiv Y ∧ X.tdiv Y ≤ 1000000000000000000 := by
    have h : (X.tdiv Y).natAbs ≤ X.natAbs := by rw [Int.natAbs_tdiv]; exact Nat.div_le_self _ _
    omega
  clear eX eY hm0 hr1 hr2
  have HM := Lib.hid fun (R : Int) (hR : I64 R) wx => funcs_whole R wx hR
  have wq : IntKind.i64.wrap (X.tdiv Y) = X.tdiv Y := w64 (by omega) (by omega)
  have ws : IntKind.i64.wrap (X.tdiv Y - 1) = X.tdiv Y - 1 := w64 (by omega) (by omega)
  by_cases hr : X.tmod Y = 0
  · have r0 : (X.tmod Y == 0) = true := by simp [hr]
    have r1 : (X.tmod Y != 0) = false := by simp [hr]
    have HV : Hid (quotI X Y = X.tdiv Y) := by unfold Hid quotI; rw [if_pos hr]
    have HM1 := Lib.hid (HM.out (X.tdiv Y) ⟨by omega, by omega⟩)
    rw [HV.out] at HF
    generalize quotV n d m e = Q at *
    clear hr HM HV
    go_enter Tryz.func82, Tryz.ntmps82
    go_wp2
    go_quiet (fail)
    go_wp2_with fail
    refine (HM1.out _).mono ?_
    rintro e' w2 ⟨rfl, hb2⟩
    obtain ⟨s1, c1_0, c1_1, c1_2, c1_3, c1_4, c1_5, f1⟩ := L6 hb2 (w.heap.size + 1 + 1) (by first | omega | (simp only [sA, sC, sD, sE]; omega) | (simp; done) | (simp; omega)) (by go_simp; exact ⟨rfl, rfl, rfl, rfl, rfl, rfl⟩) (by intro o; go_simp)
    go_wp2
    refine bodyPost_ret (v := .agg #[.int .i64 (Q).k, .int .i64 (Q).n, .int .i64 (Q).d, .string (Q).t, .bool (Q).b, .int .i64 (Q).f]) (by rw [HF.out]; simp [results, Tryz.results82, go_sem, c1_0, c1_1, c1_2, c1_3, c1_4, c1_5]) rfl ⟨rfl, ?_⟩
    focus
      repeat with_reducible first | exact Below.refl _ _ | refine below_drewN ?_ _ | refine Below.drew ?_ | refine Below.setCell ?_ ?_ _ | refine Below.alloc ?_ ?_ _ | refine below_then ?_ ?_ (by with_reducible assumption)
      all_goals first | omega | (simp only [sA, sC, sD, sE]; omega) | (simp; done) | (simp; omega)
  have r0 : (X.tmod Y == 0) = false := by simp [hr]
  have r1 : (X.tmod Y != 0) = true := by simp [hr]
  have HV0 : quotI X Y = if (decide (X < 0) != decide (Y < 0)) = true then X.tdiv Y - 1 else X.tdiv Y := by unfold quotI; rw [if_neg hr]
  have hI : I64 (quotI X Y) := by rw [HV0]; split <;> exact ⟨by omega, by omega⟩
  cases hs : decide (X < 0) <;> cases hy : decide (Y < 0)
  all_goals
    have HV := Lib.hid HV0
    rw [hs, hy] at HV
    simp only [bne_self_eq_false, Bool.false_eq_true, if_false, if_true, Bool.true_bne, Bool.not_false, Bool.false_bne] at HV
    rw [HV.out] at HF
    have HM1 := HM.out (quotI X Y) hI
    rw [HV.out] at HM1
    have HM1 := Lib.hid HM1
    generalize quotV n d m e = Q at *
    clear hr HM HV HV0 hI
    go_enter Tryz.func82, Tryz.ntmps82
    go_wp2
    go_quiet (fail)
    go_wp2_with fail
    refine (HM1.out _).mono ?_
    rintro e' w2 ⟨rfl, hb2⟩
    obtain ⟨s2, c2_0, c2_1, c2_2, c2_3, c2_4, c2_5, f2⟩ := L6 hb2 (w.heap.size + 1 + 1) (by first | omega | (simp only [sA, sC, sD, sE]; omega) | (simp; done) | (simp; omega)) (by go_simp; exact ⟨rfl, rfl, rfl, rfl, rfl, rfl⟩) (by intro o; go_simp)
    go_wp2
    refine bodyPost_ret (v := .agg #[.int .i64 (Q).k, .int .i64 (Q).n, .int .i64 (Q).d, .string (Q).t, .bool (Q).b, .int .i64 (Q).f]) (by rw [HF.out]; simp [results, Tryz.results82, go_sem, c2_0, c2_1, c2_2, c2_3, c2_4, c2_5]) rfl ⟨rfl, ?_⟩
    focus
      repeat with_reducible first | exact Below.refl _ _ | refine below_drewN ?_ _ | refine Below.drew ?_ | refine Below.setCell ?_ ?_ _ | refine Below.alloc ?_ ?_ _ | refine below_then ?_ ?_ (by with_reducible assumption)
      all_goals first | omega | (simp only [sA, sC, sD, sE]; omega) | (simp; done) | (simp; omega)

theorem abs_i64 (n d : Int) : I64 (absN n d).n ∧ I64 (absN n d).d := by
  have := tk_bd n d
  unfold absN
  refine ⟨?_, ⟨by simp only; omega, by simp only; omega⟩⟩
  split <;> exact ⟨by simp only; omega, by simp only; omega⟩
theorem floor_i64 (n d : Int) : I64 (floorN n d).n ∧ I64 (floorN n d).d := by
  have h := tk_bd n d
  have b := ediv_bd (n := (tk n d).n) (d := (tk n d).d) (a := 1000000000000) (by omega) (by omega) (by omega) (by omega)
  unfold floorN
  exact ⟨⟨by simp only; omega, by simp only; omega⟩, (⟨by decide, by decide⟩ : I64 1)⟩
theorem mod_bds (n d m e : Int) : -1000000000000 ≤ (modN n d m e).n ∧ (modN n d m e).n ≤ 1000000000000 ∧ 0 ≤ (modN n d m e).d ∧ (modN n d m e).d ≤ 1000000 := by
  unfold modN
  split
  · simp [badB]
  · exact mk_bd _ _
theorem round_bds (n d p : Int) : -1000000000000 ≤ (roundN n d p).n ∧ (roundN n d p).n ≤ 1000000000000 ∧ 0 ≤ (roundN n d p).d ∧ (roundN n d p).d ≤ 1000000 := by
  unfold roundN
  split
  · simp [badB]
  · exact mk_bd _ _
theorem cmp_i64 (n d m e : Int) : I64 (cmpN n d m e) := by
  unfold cmpN cmpI
  repeat' split
  all_goals exact ⟨by decide, by decide⟩

set_option maxHeartbeats 1000000 in
theorem ofNumbers40 (g n c : Nat) (x : Nm) (w : World) (hn : 1 ≤ n) (hc : n ≤ c) (hg : g < w.heap.size) (c0 : w.cell? ⟨g, 0, none⟩ = some (.int .i64 x.n)) (c1 : w.cell? ⟨g, 1, none⟩ = some (.int .i64 x.d)) (hx : I64 x.n ∧ I64 x.d) :
    Calls Tryz.prog 36 #[.int .i64 40, .slice (some ⟨g, 0, none⟩) n c] w fun e w' => e = .returned (.agg #[.int .i64 (numF (absN x.n x.d).n (absN x.n x.d).d).k, .int .i64 (numF (absN x.n x.d).n (absN x.n x.d).d).n, .int .i64 (numF (absN x.n x.d).n (absN x.n x.d).d).d, .string (numF (absN x.n x.d).n (absN x.n x.d).d).t, .bool (numF (absN x.n x.d).n (absN x.n x.d).d).b, .int .i64 (numF (absN x.n x.d).n (absN x.n x.d).d).f]) ∧ Below w.heap.size w w' := by
  have hne : ¬ g = w.heap.size := by omega
  have hne' : ¬ w.heap.size = g := by omega
  have HA := Lib.hid fun wx => num_Abs x.n x.d wx hx.1 hx.2
  have hi := abs_i64 x.n x.d
  have HN := Lib.hid fun wx => value_Number (absN x.n x.d).n (absN x.n x.d).d wx hi.1 hi.2
  generalize absN x.n x.d = y at *
  generalize numF y.n y.d = Q at *
  clear hi hx
  go_enter Tryz.func36, Tryz.ntmps36
  go_wp2_with fail
  refine (HA.out _).mono ?_
  rintro e w1 ⟨rfl, hb⟩
  obtain ⟨s3, c3_0, c3_1, c3_2, c3_3, c3_4, c3_5, f3⟩ := L6 hb (w.heap.size) (by first | omega | (simp only [sA, sC, sD, sE]; omega) | (simp; done) | (simp; omega)) (by go_simp; exact ⟨rfl, rfl, rfl, rfl, rfl, rfl⟩) (by intro o; go_simp)
  go_wp2_with fail
  refine (HN.out _).mono ?_
  rintro e w2 ⟨rfl, hb2⟩
  obtain ⟨s4, c4_0, c4_1, c4_2, c4_3, c4_4, c4_5, f4⟩ := L6 hb2 (w.heap.size) (by first | omega | (simp only [sA, sC, sD, sE]; omega) | (simp; done) | (simp; omega)) (by go_simp; exact ⟨rfl, rfl, rfl, rfl, rfl, rfl⟩) (by intro o; go_simp)
  clear c3_0 c3_1 c3_2 c3_3 c3_4 c3_5 f3
  go_wp2
  refine bodyPost_ret (v := .agg #[.int .i64 (Q).k, .int .i64 (Q).n, .int .i64 (Q).d, .string (Q).t, .bool (Q).b, .int .i64 (Q).f]) (by simp [results, Tryz.results36, go_sem, c4_0, c4_1, c4_2, c4_3, c4_4, c4_5]) rfl ⟨rfl, ?_⟩
  focus
    repeat with_reducible first | exact Below.refl _ _ | refine below_drewN ?_ _ | refine Below.drew ?_ | refine Below.setCell ?_ ?_ _ | refine Below.alloc ?_ ?_ _ | refine below_then ?_ ?_ (by with_reducible assumption)
    all_goals first | omega | (simp only [sA, sC, sD, sE]; omega) | (simp; done) | (simp; omega)
set_option maxHeartbeats 1000000 in
theorem ofNumbers42 (g n c : Nat) (x : Nm) (w : World) (hn : 1 ≤ n) (hc : n ≤ c) (hg : g < w.heap.size) (c0 : w.cell? ⟨g, 0, none⟩ = some (.int .i64 x.n)) (c1 : w.cell? ⟨g, 1, none⟩ = some (.int .i64 x.d)) (hx : I64 x.n ∧ I64 x.d) :
    Calls Tryz.prog 36 #[.int .i64 42, .slice (some ⟨g, 0, none⟩) n c] w fun e w' => e = .returned (.agg #[.int .i64 (numF (floorN x.n x.d).n (floorN x.n x.d).d).k, .int .i64 (numF (floorN x.n x.d).n (floorN x.n x.d).d).n, .int .i64 (numF (floorN x.n x.d).n (floorN x.n x.d).d).d, .string (numF (floorN x.n x.d).n (floorN x.n x.d).d).t, .bool (numF (floorN x.n x.d).n (floorN x.n x.d).d).b, .int .i64 (numF (floorN x.n x.d).n (floorN x.n x.d).d).f]) ∧ Below w.heap.size w w' := by
  have hne : ¬ g = w.heap.size := by omega
  have hne' : ¬ w.heap.size = g := by omega
  have HA := Lib.hid fun wx => num_Floor x.n x.d wx hx.1 hx.2
  have hi := floor_i64 x.n x.d
  have HN := Lib.hid fun wx => value_Number (floorN x.n x.d).n (floorN x.n x.d).d wx hi.1 hi.2
  generalize floorN x.n x.d = y at *
  generalize numF y.n y.d = Q at *
  clear hi hx
  go_enter Tryz.func36, Tryz.ntmps36
  go_wp2_with fail
  refine (HA.out _).mono ?_
  rintro e w1 ⟨rfl, hb⟩
  obtain ⟨s5, c5_0, c5_1, c5_2, c5_3, c5_4, c5_5, f5⟩ := L6 hb (w.heap.size) (by first | omega | (simp only [sA, sC, sD, sE]; omega) | (simp; done) | (simp; omega)) (by go_simp; exact ⟨rfl, rfl, rfl, rfl, rfl, rfl⟩) (by intro o; go_simp)
  go_wp2_with fail
  refine (HN.out _).mono ?_
  rintro e w2 ⟨rfl, hb2⟩
  obtain ⟨s6, c6_0, c6_1, c6_2, c6_3, c6_4, c6_5, f6⟩ := L6 hb2 (w.heap.size) (by first | omega | (simp only [sA, sC, sD, sE]; omega) | (simp; done) | (simp; omega)) (by go_simp; exact ⟨rfl, rfl, rfl, rfl, rfl, rfl⟩) (by intro o; go_simp)
  clear c5_0 c5_1 c5_2 c5_3 c5_4 c5_5 f5
  go_wp2
  refine bodyPost_ret (v := .agg #[.int .i64 (Q).k, .int .i64 (Q).n, .int .i64 (Q).d, .string (Q).t, .bool (Q).b, .int .i64 (Q).f]) (by simp [results, Tryz.results36, go_sem, c6_0, c6_1, c6_2, c6_3, c6_4, c6_5]) rfl ⟨rfl, ?_⟩
  focus
    repeat with_reducible first | exact Below.refl _ _ | refine below_drewN ?_ _ | refine Below.drew ?_ | refine Below.setCell ?_ ?_ _ | refine Below.alloc ?_ ?_ _ | refine below_then ?_ ?_ (by with_reducible assumption)
    all_goals first | omega | (simp only [sA, sC, sD, sE]; omega) | (simp; done) | (simp; omega)
set_option maxHeartbeats 1000000 in
theorem ofNumbers41 (g n c : Nat) (x : Nm) (w : World) (hn : 1 ≤ n) (hc : n ≤ c) (hg : g < w.heap.size) (c0 : w.cell? ⟨g, 0, none⟩ = some (.int .i64 x.n)) (c1 : w.cell? ⟨g, 1, none⟩ = some (.int .i64 x.d)) (hx : I64 x.n ∧ I64 x.d) :
    Calls Tryz.prog 36 #[.int .i64 41, .slice (some ⟨g, 0, none⟩) n c] w fun e w' => e = .returned (.agg #[.int .i64 (wholeF (cmpN x.n x.d 0 1)).k, .int .i64 (wholeF (cmpN x.n x.d 0 1)).n, .int .i64 (wholeF (cmpN x.n x.d 0 1)).d, .string (wholeF (cmpN x.n x.d 0 1)).t, .bool (wholeF (cmpN x.n x.d 0 1)).b, .int .i64 (wholeF (cmpN x.n x.d 0 1)).f]) ∧ Below w.heap.size w w' := by
  have hne : ¬ g = w.heap.size := by omega
  have hne' : ¬ w.heap.size = g := by omega
  have HA := Lib.hid fun wx => num_Cmp x.n x.d 0 1 wx hx.1 hx.2 ⟨by decide, by decide⟩ ⟨by decide, by decide⟩
  have hi := cmp_i64 x.n x.d 0 1
  have HN := Lib.hid fun wx => funcs_whole (cmpN x.n x.d 0 1) wx hi
  generalize cmpN x.n x.d 0 1 = y at *
  generalize wholeF y = Q at *
  clear hi hx
  go_enter Tryz.func36, Tryz.ntmps36
  go_wp2_with fail
  refine (HA.out _).mono ?_
  rintro e w1 ⟨rfl, hb⟩
  obtain ⟨s7, c7_0, c7_1, c7_2, c7_3, c7_4, c7_5, f7⟩ := L6 hb (w.heap.size) (by first | omega | (simp only [sA, sC, sD, sE]; omega) | (simp; done) | (simp; omega)) (by go_simp; exact ⟨rfl, rfl, rfl, rfl, rfl, rfl⟩) (by intro o; go_simp)
  go_wp2_with fail
  refine (HN.out _).mono ?_
  rintro e w2 ⟨rfl, hb2⟩
  obtain ⟨s8, c8_0, c8_1, c8_2, c8_3, c8_4, c8_5, f8⟩ := L6 hb2 (w.heap.size) (by first | omega | (simp only [sA, sC, sD, sE]; omega) | (simp; done) | (simp; omega)) (by go_simp; exact ⟨rfl, rfl, rfl, rfl, rfl, rfl⟩) (by intro o; go_simp)
  clear c7_0 c7_1 c7_2 c7_3 c7_4 c7_5 f7
  go_wp2
  refine bodyPost_ret (v := .agg #[.int .i64 (Q).k, .int .i64 (Q).n, .int .i64 (Q).d, .string (Q).t, .bool (Q).b, .int .i64 (Q).f]) (by simp [results, Tryz.results36, go_sem, c8_0, c8_1, c8_2, c8_3, c8_4, c8_5]) rfl ⟨rfl, ?_⟩
  focus
    repeat with_reducible first | exact Below.refl _ _ | refine below_drewN ?_ _ | refine Below.drew ?_ | refine Below.setCell ?_ ?_ _ | refine Below.alloc ?_ ?_ _ | refine below_then ?_ ?_ (by with_reducible assumption)
    all_goals first | omega | (simp only [sA, sC, sD, sE]; omega) | (simp; done) | (simp; omega)
set_option maxHeartbeats 1000000 in
theorem ofNumbers43 (g n c : Nat) (x y : Nm) (w : World) (hn : 2 ≤ n) (hc : n ≤ c) (hg : g < w.heap.size) (c0 : w.cell? ⟨g, 0, none⟩ = some (.int .i64 x.n)) (c1 : w.cell? ⟨g, 1, none⟩ = some (.int .i64 x.d)) (c2 : w.cell? ⟨g, 2, none⟩ = some (.int .i64 y.n)) (c3 : w.cell? ⟨g, 3, none⟩ = some (.int .i64 y.d)) (hx : I64 x.n ∧ I64 x.d) (hy : I64 y.n ∧ I64 y.d) :
    Calls Tryz.prog 36 #[.int .i64 43, .slice (some ⟨g, 0, none⟩) n c] w fun e w' => e = .returned (.agg #[.int .i64 (if wholeB y.n y.d then toldB (roundN x.n x.d (wholeN y.n y.d)) else faultF 8).k, .int .i64 (if wholeB y.n y.d then toldB (roundN x.n x.d (wholeN y.n y.d)) else faultF 8).n, .int .i64 (if wholeB y.n y.d then toldB (roundN x.n x.d (wholeN y.n y.d)) else faultF 8).d, .string (if wholeB y.n y.d then toldB (roundN x.n x.d (wholeN y.n y.d)) else faultF 8).t, .bool (if wholeB y.n y.d then toldB (roundN x.n x.d (wholeN y.n y.d)) else faultF 8).b, .int .i64 (if wholeB y.n y.d then toldB (roundN x.n x.d (wholeN y.n y.d)) else faultF 8).f]) ∧ Below w.heap.size w w' := by
  have hne : ¬ g = w.heap.size := by omega
  have hne' : ¬ w.heap.size = g := by omega
  have HW := Lib.hid fun wx => num_Whole' y.n y.d wx hy.1 hy.2
  have hk : I64 (wholeN y.n y.d) := by
    have := tk_bd y.n y.d
    unfold wholeN
    split
    · exact ⟨by omega, by omega⟩
    · exact ⟨by decide, by decide⟩
  have HA := Lib.hid fun wx => num_Round x.n x.d (wholeN y.n y.d) wx hx.1 hx.2 hk
  have hi := round_bds x.n x.d (wholeN y.n y.d)
  have HT := Lib.hid fun wx => funcs_told (roundN x.n x.d (wholeN y.n y.d)).n (roundN x.n x.d (wholeN y.n y.d)).d (roundN x.n x.d (wholeN y.n y.d)).ok wx (I64.of hi.1 hi.2.1) (I64.of (by omega) (by omega))
  have HF := Lib.hid fun wx => value_Fault 8 wx
  have HQ : Hid (toldB (roundN x.n x.d (wholeN y.n y.d)) = toldF (roundN x.n x.d (wholeN y.n y.d)).n (roundN x.n x.d (wholeN y.n y.d)).d (roundN x.n x.d (wholeN y.n y.d)).ok) := rfl
  generalize roundN x.n x.d (wholeN y.n y.d) = R at *
  generalize wholeN y.n y.d = k at *
  generalize faultF 8 = F at *
  clear hi hx hy hk
  cases hw : wholeB y.n y.d
  · rw [hw] at HW
    rw [if_neg (by simp)]
    clear hw
    go_enter Tryz.func36, Tryz.ntmps36
    go_wp2_with fail
    refine (HW.out _).mono ?_
    rintro e w1 ⟨rfl, hb⟩
    obtain ⟨s9, c9_0, c9_1, c9_2, c9_3, c9_4, c9_5, f9⟩ := L6 hb (w.heap.size) (by first | omega | (simp only [sA, sC, sD, sE]; omega) | (simp; done) | (simp; omega)) (by go_simp; exact ⟨rfl, rfl, rfl, rfl, rfl, rfl⟩) (by intro o; go_simp)
    go_wp2_with fail
    refine (HF.out _).mono ?_
    rintro e w2 ⟨rfl, hb2⟩
    obtain ⟨s10, c10_0, c10_1, c10_2, c10_3, c10_4, c10_5, f10⟩ := L6 hb2 (w.heap.size) (by first | omega | (simp only [sA, sC, sD, sE]; omega) | (simp; done) | (simp; omega)) (by go_simp; exact ⟨rfl, rfl, rfl, rfl, rfl, rfl⟩) (by intro o; go_simp)
    clear c9_0 c9_1 c9_2 c9_3 c9_4 c9_5 f9
    go_wp2
    refine bodyPost_ret (v := .agg #[.int .i64 (F).k, .int .i64 (F).n, .int .i64 (F).d, .string (F).t, .bool (F).b, .int .i64 (F).f]) (by simp [results, Tryz.results36, go_sem, c10_0, c10_1, c10_2, c10_3, c10_4, c10_5]) rfl ⟨rfl, ?_⟩
    focus
      repeat with_reducible first | exact Below.refl _ _ | refine below_drewN ?_ _ | refine Below.drew ?_ | refine Below.setCell ?_ ?_ _ | refine Below.alloc ?_ ?_ _ | refine below_then ?_ ?_ (by with_reducible assumption)
      all_goals first | omega | (simp only [sA, sC, sD, sE]; omega) | (simp; done) | (simp; omega)
  · rw [hw] at HW
    rw [if_pos rfl]
    clear hw
    go_enter Tryz.func36, Tryz.ntmps36
    go_wp2_with fail
    refine (HW.out _).mono ?_
    rintro e w1 ⟨rfl, hb⟩
    obtain ⟨s11, c11_0, c11_1, c11_2, c11_3, c11_4, c11_5, f11⟩ := L6 hb (w.heap.size) (by first | omega | (simp only [sA, sC, sD, sE]; omega) | (simp; done) | (simp; omega)) (by go_simp; exact ⟨rfl, rfl, rfl, rfl, rfl, rfl⟩) (by intro o; go_simp)
    obtain ⟨s12, c12_0, c12_1, f12⟩ := L2 hb (w.heap.size + 1) (by first | omega | (simp only [sA, sC, sD, sE]; omega) | (simp; done) | (simp; omega)) (by go_simp; exact ⟨rfl, rfl⟩) (by intro o; go_simp)
    go_wp2_with fail
    refine (HA.out _).mono ?_
    rintro e w2 ⟨rfl, hb2⟩
    obtain ⟨s13, c13_0, c13_1, c13_2, c13_3, c13_4, c13_5, f13⟩ := L6 hb2 (w.heap.size) (by first | omega | (simp only [sA, sC, sD, sE]; omega) | (simp; done) | (simp; omega)) (by go_simp; exact ⟨rfl, rfl, rfl, rfl, rfl, rfl⟩) (by intro o; go_simp)
    clear c11_0 c11_1 c11_2 c11_3 c11_4 c11_5 f11 c12_0 c12_1 f12
    go_wp2_with fail
    refine (HT.out _).mono ?_
    rintro e w3 ⟨rfl, hb3⟩
    obtain ⟨s14, c14_0, c14_1, c14_2, c14_3, c14_4, c14_5, f14⟩ := L6 hb3 (w.heap.size) (by first | omega | (simp only [sA, sC, sD, sE]; omega) | (simp; done) | (simp; omega)) (by go_simp; exact ⟨rfl, rfl, rfl, rfl, rfl, rfl⟩) (by intro o; go_simp)
    clear c13_0 c13_1 c13_2 c13_3 c13_4 c13_5 f13
    go_wp2
    refine bodyPost_ret (v := .agg #[.int .i64 (toldB R).k, .int .i64 (toldB R).n, .int .i64 (toldB R).d, .string (toldB R).t, .bool (toldB R).b, .int .i64 (toldB R).f]) (by rw [HQ.out]; simp [results, Tryz.results36, go_sem, c14_0, c14_1, c14_2, c14_3, c14_4, c14_5]) rfl ⟨rfl, ?_⟩
    focus
      repeat with_reducible first | exact Below.refl _ _ | refine below_drewN ?_ _ | refine Below.drew ?_ | refine Below.setCell ?_ ?_ _ | refine Below.alloc ?_ ?_ _ | refine below_then ?_ ?_ (by with_reducible assumption)
      all_goals first | omega | (simp only [sA, sC, sD, sE]; omega) | (simp; done) | (simp; omega)
set_option maxHeartbeats 1000000 in
theorem ofNumbers44_div (g n c : Nat) (x y : Nm) (w : World) (hn : 2 ≤ n) (hc : n ≤ c) (hg : g < w.heap.size) (c0 : w.cell? ⟨g, 0, none⟩ = some (.int .i64 x.n)) (c1 : w.cell? ⟨g, 1, none⟩ = some (.int .i64 x.d)) (c2 : w.cell? ⟨g, 2, none⟩ = some (.int .i64 y.n)) (c3 : w.cell? ⟨g, 3, none⟩ = some (.int .i64 y.d)) (h0 : y.n = 0) :
    Calls Tryz.prog 36 #[.int .i64 44, .slice (some ⟨g, 0, none⟩) n c] w fun e w' => e = .returned (.agg #[.int .i64 (faultF 1).k, .int .i64 (faultF 1).n, .int .i64 (faultF 1).d, .string (faultF 1).t, .bool (faultF 1).b, .int .i64 (faultF 1).f]) ∧ Below w.heap.size w w' := by
  have hne : ¬ g = w.heap.size := by omega
  have hne' : ¬ w.heap.size = g := by omega
  have HF := Lib.hid fun wx => value_Fault 1 wx
  generalize faultF 1 = F at *
  have k0 : (y.n == 0) = true := by simp [h0]
  clear h0
  go_enter Tryz.func36, Tryz.ntmps36
  go_wp2_with fail
  refine (HF.out _).mono ?_
  rintro e w2 ⟨rfl, hb2⟩
  obtain ⟨s15, c15_0, c15_1, c15_2, c15_3, c15_4, c15_5, f15⟩ := L6 hb2 (w.heap.size) (by first | omega | (simp only [sA, sC, sD, sE]; omega) | (simp; done) | (simp; omega)) (by go_simp; exact ⟨rfl, rfl, rfl, rfl, rfl, rfl⟩) (by intro o; go_simp)
  go_wp2
  refine bodyPost_ret (v := .agg #[.int .i64 (F).k, .int .i64 (F).n, .int .i64 (F).d, .string (F).t, .bool (F).b, .int .i64 (F).f]) (by simp [results, Tryz.results36, go_sem, c15_0, c15_1, c15_2, c15_3, c15_4, c15_5]) rfl ⟨rfl, ?_⟩
  focus
    repeat with_reducible first | exact Below.refl _ _ | refine below_drewN ?_ _ | refine Below.drew ?_ | refine Below.setCell ?_ ?_ _ | refine Below.alloc ?_ ?_ _ | refine below_then ?_ ?_ (by with_reducible assumption)
    all_goals first | omega | (simp only [sA, sC, sD, sE]; omega) | (simp; done) | (simp; omega)
set_option maxHeartbeats 1000000 in
theorem ofNumbers45_div (g n c : Nat) (x y : Nm) (w : World) (hn : 2 ≤ n) (hc : n ≤ c) (hg : g < w.heap.size) (c0 : w.cell? ⟨g, 0, none⟩ = some (.int .i64 x.n)) (c1 : w.cell? ⟨g, 1, none⟩ = some (.int .i64 x.d)) (c2 : w.cell? ⟨g, 2, none⟩ = some (.int .i64 y.n)) (c3 : w.cell? ⟨g, 3, none⟩ = some (.int .i64 y.d)) (h0 : y.n = 0) :
    Calls Tryz.prog 36 #[.int .i64 45, .slice (some ⟨g, 0, none⟩) n c] w fun e w' => e = .returned (.agg #[.int .i64 (faultF 1).k, .int .i64 (faultF 1).n, .int .i64 (faultF 1).d, .string (faultF 1).t, .bool (faultF 1).b, .int .i64 (faultF 1).f]) ∧ Below w.heap.size w w' := by
  have hne : ¬ g = w.heap.size := by omega
  have hne' : ¬ w.heap.size = g := by omega
  have HF := Lib.hid fun wx => value_Fault 1 wx
  generalize faultF 1 = F at *
  have k0 : (y.n == 0) = true := by simp [h0]
  clear h0
  go_enter Tryz.func36, Tryz.ntmps36
  go_wp2_with fail
  refine (HF.out _).mono ?_
  rintro e w2 ⟨rfl, hb2⟩
  obtain ⟨s16, c16_0, c16_1, c16_2, c16_3, c16_4, c16_5, f16⟩ := L6 hb2 (w.heap.size) (by first | omega | (simp only [sA, sC, sD, sE]; omega) | (simp; done) | (simp; omega)) (by go_simp; exact ⟨rfl, rfl, rfl, rfl, rfl, rfl⟩) (by intro o; go_simp)
  go_wp2
  refine bodyPost_ret (v := .agg #[.int .i64 (F).k, .int .i64 (F).n, .int .i64 (F).d, .string (F).t, .bool (F).b, .int .i64 (F).f]) (by simp [results, Tryz.results36, go_sem, c16_0, c16_1, c16_2, c16_3, c16_4, c16_5]) rfl ⟨rfl, ?_⟩
  focus
    repeat with_reducible first | exact Below.refl _ _ | refine below_drewN ?_ _ | refine Below.drew ?_ | refine Below.setCell ?_ ?_ _ | refine Below.alloc ?_ ?_ _ | refine below_then ?_ ?_ (by with_reducible assumption)
    all_goals first | omega | (simp only [sA, sC, sD, sE]; omega) | (simp; done) | (simp; omega)
set_option maxHeartbeats 1000000 in
theorem ofNumbers45 (g n c : Nat) (x y : Nm) (w : World) (hn : 2 ≤ n) (hc : n ≤ c) (hg : g < w.heap.size) (c0 : w.cell? ⟨g, 0, none⟩ = some (.int .i64 x.n)) (c1 : w.cell? ⟨g, 1, none⟩ = some (.int .i64 x.d)) (c2 : w.cell? ⟨g, 2, none⟩ = some (.int .i64 y.n)) (c3 : w.cell? ⟨g, 3, none⟩ = some (.int .i64 y.d)) (hx : rightN x.n x.d = true) (hy : rightN y.n y.d = true) (h0 : ¬ y.n = 0) :
    Calls Tryz.prog 36 #[.int .i64 45, .slice (some ⟨g, 0, none⟩) n c] w fun e w' => e = .returned (.agg #[.int .i64 (quotV x.n x.d y.n y.d).k, .int .i64 (quotV x.n x.d y.n y.d).n, .int .i64 (quotV x.n x.d y.n y.d).d, .string (quotV x.n x.d y.n y.d).t, .bool (quotV x.n x.d y.n y.d).b, .int .i64 (quotV x.n x.d y.n y.d).f]) ∧ Below w.heap.size w w' := by
  have h1n : (1 : Int) < (n : Int) := by omega
  have h1n' : 1 < n := by omega
  have hne : ¬ g = w.heap.size := by omega
  have hne' : ¬ w.heap.size = g := by omega
  have HA := Lib.hid fun wx => funcs_quotient x.n x.d y.n y.d wx hx hy h0
  generalize quotV x.n x.d y.n y.d = Q at *
  have k0 : (y.n == 0) = false := by simp [h0]
  clear hx hy
  go_enter Tryz.func36, Tryz.ntmps36
  go_upto_region 19 with (fail)
  first | with_reducible refine wp_rebase ?_ | with_reducible refine wpList_rebase ?_
  intro w1 hb'
  have hb := hb'.out
  clear hb'
  obtain ⟨s17, c17_0, c17_1, c17_2, c17_3, c17_4, c17_5, f17⟩ := L6 hb (w.heap.size) (by first | omega | (simp only [sA, sC, sD, sE]; omega) | (simp; done) | (simp; omega)) (by go_simp; exact ⟨rfl, rfl, rfl, rfl, rfl, rfl⟩) (by intro o; go_simp)
  obtain ⟨s18, c18_0, c18_1, f18⟩ := L2 hb (w.heap.size + 1) (by first | omega | (simp only [sA, sC, sD, sE]; omega) | (simp; done) | (simp; omega)) (by go_simp; exact ⟨rfl, rfl⟩) (by intro o; go_simp)
  obtain ⟨s19, c19_0, c19_1, c19_2, c19_3⟩ := L4r hb (g) (by first | omega | (simp only [sA, sC, sD, sE]; omega) | (simp; done) | (simp; omega)) (by go_simp; exact ⟨rfl, rfl, rfl, rfl⟩)
  go_wp2_with fail
  refine region_below 5 (by kernel_rfl) (by kernel_rfl) ?_
  simp only [List.take_succ_cons, List.take_zero, List.drop_succ_cons, List.drop_zero]
  repeat
    first | (refine q_run ?_ ?_; focus (go_simp; done)) | (refine q_skip ?_ ?_; focus (go_simp; done))
    try (apply Exists.intro; refine ⟨fun w' hw' => ?_, ?_⟩; focus (have hc := (bcell hw'.out).1; unfold Oper.quietAt; go_simp; (try go_ints); (first | rfl | (go_at_call 82; refine (HA.out _).mono ?_; rintro e w2 ⟨rfl, hb⟩; exact ⟨rfl, hw'.chain hb⟩))))
    intro K hK
    go_simp
    refine hK _ ?_
    clear hK K
  refine wpQuiet_nil ?_
  intro w1 hb'
  have hb := hb'.out
  clear hb'
  obtain ⟨s20, c20_0, c20_1, c20_2, c20_3, c20_4, c20_5, f20⟩ := L6 hb (w.heap.size) (by first | omega | (simp only [sA, sC, sD, sE]; omega) | (simp; done) | (simp; omega)) (by go_simp; exact ⟨rfl, rfl, rfl, rfl, rfl, rfl⟩) (by intro o; go_simp)
  clear c17_0 c17_1 c17_2 c17_3 c17_4 c17_5 f17 c18_0 c18_1 f18 c19_0 c19_1 c19_2 c19_3
  go_wp2
  refine bodyPost_ret (v := .agg #[.int .i64 (Q).k, .int .i64 (Q).n, .int .i64 (Q).d, .string (Q).t, .bool (Q).b, .int .i64 (Q).f]) (by simp [results, Tryz.results36, go_sem, c20_0, c20_1, c20_2, c20_3, c20_4, c20_5]) rfl ⟨rfl, ?_⟩
  focus
    repeat with_reducible first | exact Below.refl _ _ | refine below_drewN ?_ _ | refine Below.drew ?_ | refine Below.setCell ?_ ?_ _ | refine Below.alloc ?_ ?_ _ | refine below_then ?_ ?_ (by with_reducible assumption)
    all_goals first | omega | (simp only [sA, sC, sD, sE]; omega) | (simp; done) | (simp; omega)
set_option maxHeartbeats 1000000 in
theorem ofNumbers44 (g n c : Nat) (x y : Nm) (w : World) (hn : 2 ≤ n) (hc : n ≤ c) (hg : g < w.heap.size) (c0 : w.cell? ⟨g, 0, none⟩ = some (.int .i64 x.n)) (c1 : w.cell? ⟨g, 1, none⟩ = some (.int .i64 x.d)) (c2 : w.cell? ⟨g, 2, none⟩ = some (.int .i64 y.n)) (c3 : w.cell? ⟨g, 3, none⟩ = some (.int .i64 y.d)) (hx : I64 x.n ∧ I64 x.d) (hy : I64 y.n ∧ I64 y.d) (h0 : ¬ y.n = 0) :
    Calls Tryz.prog 36 #[.int .i64 44, .slice (some ⟨g, 0, none⟩) n c] w fun e w' => e = .returned (.agg #[.int .i64 (toldB (modN x.n x.d y.n y.d)).k, .int .i64 (toldB (modN x.n x.d y.n y.d)).n, .int .i64 (toldB (modN x.n x.d y.n y.d)).d, .string (toldB (modN x.n x.d y.n y.d)).t, .bool (toldB (modN x.n x.d y.n y.d)).b, .int .i64 (toldB (modN x.n x.d y.n y.d)).f]) ∧ Below w.heap.size w w' := by
  have h1n : (1 : Int) < (n : Int) := by omega
  have h1n' : 1 < n := by omega
  have hne : ¬ g = w.heap.size := by omega
  have hne' : ¬ w.heap.size = g := by omega
  have HA := Lib.hid fun wx => num_Mod x.n x.d y.n y.d wx hx.1 hx.2 hy.1 hy.2
  have hi := mod_bds x.n x.d y.n y.d
  have HT := Lib.hid fun wx => funcs_told (modN x.n x.d y.n y.d).n (modN x.n x.d y.n y.d).d (modN x.n x.d y.n y.d).ok wx (I64.of hi.1 hi.2.1) (I64.of (by omega) (by omega))
  have HQ : Hid (toldB (modN x.n x.d y.n y.d) = toldF (modN x.n x.d y.n y.d).n (modN x.n x.d y.n y.d).d (modN x.n x.d y.n y.d).ok) := rfl
  generalize modN x.n x.d y.n y.d = R at *
  have k0 : (y.n == 0) = false := by simp [h0]
  clear hx hy hi
  go_enter Tryz.func36, Tryz.ntmps36
  go_upto_region 20 with (fail)
  first | with_reducible refine wp_rebase ?_ | with_reducible refine wpList_rebase ?_
  intro w1 hb'
  have hb := hb'.out
  clear hb'
  obtain ⟨s21, c21_0, c21_1, c21_2, c21_3, c21_4, c21_5, f21⟩ := L6 hb (w.heap.size) (by first | omega | (simp only [sA, sC, sD, sE]; omega) | (simp; done) | (simp; omega)) (by go_simp; exact ⟨rfl, rfl, rfl, rfl, rfl, rfl⟩) (by intro o; go_simp)
  obtain ⟨s22, c22_0, c22_1, f22⟩ := L2 hb (w.heap.size + 1) (by first | omega | (simp only [sA, sC, sD, sE]; omega) | (simp; done) | (simp; omega)) (by go_simp; exact ⟨rfl, rfl⟩) (by intro o; go_simp)
  obtain ⟨s23, c23_0, c23_1, c23_2, c23_3⟩ := L4r hb (g) (by first | omega | (simp only [sA, sC, sD, sE]; omega) | (simp; done) | (simp; omega)) (by go_simp; exact ⟨rfl, rfl, rfl, rfl⟩)
  go_wp2_with fail
  refine region_below 8 (by kernel_rfl) (by kernel_rfl) ?_
  simp only [List.take_succ_cons, List.take_zero, List.drop_succ_cons, List.drop_zero]
  repeat
    first | (refine q_run ?_ ?_; focus (go_simp; done)) | (refine q_skip ?_ ?_; focus (go_simp; done))
    try (apply Exists.intro; refine ⟨fun w' hw' => ?_, ?_⟩; focus (have hc := (bcell hw'.out).1; unfold Oper.quietAt; go_simp; (try go_ints); (first | rfl | (go_at_call 83; refine (HA.out _).mono ?_; rintro e w2 ⟨rfl, hb⟩; exact ⟨rfl, hw'.chain hb⟩) | (go_at_call 52; refine (HT.out _).mono ?_; rintro e w2 ⟨rfl, hb⟩; exact ⟨rfl, hw'.chain hb⟩))))
    intro K hK
    go_simp
    refine hK _ ?_
    clear hK K
  refine wpQuiet_nil ?_
  intro w1 hb'
  have hb := hb'.out
  clear hb'
  obtain ⟨s24, c24_0, c24_1, c24_2, c24_3, c24_4, c24_5, f24⟩ := L6 hb (w.heap.size) (by first | omega | (simp only [sA, sC, sD, sE]; omega) | (simp; done) | (simp; omega)) (by go_simp; exact ⟨rfl, rfl, rfl, rfl, rfl, rfl⟩) (by intro o; go_simp)
  clear c21_0 c21_1 c21_2 c21_3 c21_4 c21_5 f21 c22_0 c22_1 f22 c23_0 c23_1 c23_2 c23_3
  go_wp2
  refine bodyPost_ret (v := .agg #[.int .i64 (toldB R).k, .int .i64 (toldB R).n, .int .i64 (toldB R).d, .string (toldB R).t, .bool (toldB R).b, .int .i64 (toldB R).f]) (by rw [HQ.out]; simp [results, Tryz.results36, go_sem, c24_0, c24_1, c24_2, c24_3, c24_4, c24_5]) rfl ⟨rfl, ?_⟩
  focus
    repeat with_reducible first | exact Below.refl _ _ | refine below_drewN ?_ _ | refine Below.drew ?_ | refine Below.setCell ?_ ?_ _ | refine Below.alloc ?_ ?_ _ | refine below_then ?_ ?_ (by with_reducible assumption)
    all_goals first | omega | (simp only [sA, sC, sD, sE]; omega) | (simp; done) | (simp; omega)
set_option maxHeartbeats 1000000 in
theorem ofNumbers_else (id : Int) (g n c : Nat) (x : Nm) (w : World) (i0 : ¬ id = 40) (i1 : ¬ id = 41) (i2 : ¬ id = 42) (i3 : ¬ id = 43) (i4 : ¬ id = 44) (i5 : ¬ id = 45) (hn : 1 ≤ n) (hc : n ≤ c) (hg : g < w.heap.size) (c0 : w.cell? ⟨g, 0, none⟩ = some (.int .i64 x.n)) (c1 : w.cell? ⟨g, 1, none⟩ = some (.int .i64 x.d)) (hx : I64 x.n ∧ I64 x.d) :
    Calls Tryz.prog 36 #[.int .i64 id, .slice (some ⟨g, 0, none⟩) n c] w fun e w' => e = .returned (.agg #[.int .i64 (numF x.n x.d).k, .int .i64 (numF x.n x.d).n, .int .i64 (numF x.n x.d).d, .string (numF x.n x.d).t, .bool (numF x.n x.d).b, .int .i64 (numF x.n x.d).f]) ∧ Below w.heap.size w w' := by
  have hne : ¬ g = w.heap.size := by omega
  have hne' : ¬ w.heap.size = g := by omega
  have HN := Lib.hid fun wx => value_Number x.n x.d wx hx.1 hx.2
  generalize numF x.n x.d = Q at *
  have k0 : (id == 40) = false := by simp [i0]
  have k1 : (id == 41) = false := by simp [i1]
  have k2 : (id == 42) = false := by simp [i2]
  have k3 : (id == 43) = false := by simp [i3]
  have k4 : (id == 44) = false := by simp [i4]
  have k5 : (id == 45) = false := by simp [i5]
  clear hx
  go_enter Tryz.func36, Tryz.ntmps36
  go_wp2_with fail
  refine (HN.out _).mono ?_
  rintro e w2 ⟨rfl, hb2⟩
  obtain ⟨s25, c25_0, c25_1, c25_2, c25_3, c25_4, c25_5, f25⟩ := L6 hb2 (w.heap.size) (by first | omega | (simp only [sA, sC, sD, sE]; omega) | (simp; done) | (simp; omega)) (by go_simp; exact ⟨rfl, rfl, rfl, rfl, rfl, rfl⟩) (by intro o; go_simp)
  go_wp2
  refine bodyPost_ret (v := .agg #[.int .i64 (Q).k, .int .i64 (Q).n, .int .i64 (Q).d, .string (Q).t, .bool (Q).b, .int .i64 (Q).f]) (by simp [results, Tryz.results36, go_sem, c25_0, c25_1, c25_2, c25_3, c25_4, c25_5]) rfl ⟨rfl, ?_⟩
  focus
    repeat with_reducible first | exact Below.refl _ _ | refine below_drewN ?_ _ | refine Below.drew ?_ | refine Below.setCell ?_ ?_ _ | refine Below.alloc ?_ ?_ _ | refine below_then ?_ ?_ (by with_reducible assumption)
    all_goals first | omega | (simp only [sA, sC, sD, sE]; omega) | (simp; done) | (simp; omega)
end Go.Proofs.YtglngfaagjgpjaaGreatDoor
