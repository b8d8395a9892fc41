/- Walks of the reference's package for functions: reckoned. -/
import Derived.Test.YtglngfaagjgpjaaGreatDoorBx14
import Derived.Test.YtglngfaagjgpjaaGreatDoorRefD
import Derived.Test.YtglngfaagjgpjaaGreatDoorRefE
import Derived.Test.YtglngfaagjgpjaaGreatDoorBx7
import Derived.BigQuiet
namespace Go.Proofs.YtglngfaagjgpjaaGreatDoor
open Go Go.RowKit
set_option linter.unusedSimpArgs false
set_option linter.unusedVariables false
theorem nums_ok (vs : List Vl) (p : Nat) (la : Option Addr) (n lc : Nat) (w : World) (hn : vs.length = n) (hle : n ≤ 1000) (hp : p < n) (hin : ∀ v ∈ vs, v.In) (hc : ValAt w la vs) (h : badNum (vs.drop p) = none) :
    Calls Tryz.prog 91 #[.slice la n lc, .int .i64 p] w fun e w' => ∃ g cap : Nat, e = .returned (.tuple #[.slice (some ⟨g, 0, none⟩) (n - p : Nat) cap, .agg #[.int .i64 0, .int .i64 0, .int .i64 0, .string ⟨#[]⟩, .bool false, .int .i64 0]]) ∧ Below w.heap.size w w' ∧ n - p ≤ cap ∧ g < w'.heap.size ∧ ∀ k x, ((vs.drop p).map nmOf)[k]? = some x → w'.cell? ⟨g, k * 2, none⟩ = some (.int .i64 x.n) ∧ w'.cell? ⟨g, k * 2 + 1, none⟩ = some (.int .i64 x.d) := by
  refine (r7_numbers vs p la n lc w hn hle (by omega) hin hc).mono ?_
  rintro e w' ⟨s, x, rfl, hb, hO⟩
  obtain ⟨rfl, ho⟩ := hO.ok h
  have hl : (vs.drop p).length = n - p := by rw [List.length_drop, hn]
  have hl2 : ((vs.drop p).map nmOf).length = n - p := by rw [List.length_map, hl]
  rw [hl] at ho
  obtain ⟨g, cap, rfl, _, hg, hcap⟩ := own_form ho (by omega)
  refine ⟨g, cap, rfl, hb, hcap, hg, ?_⟩
  have hA := nmAt_own (ns := (vs.drop p).map nmOf) (B := w.heap.size) (g := g) (cap := cap) (w := w') (by rw [hl2]; exact ho) hg
  obtain ⟨g', off, he, _, hrow⟩ := hA (by omega)
  cases he
  intro k x hx
  have := hrow k x hx
  simpa using this
theorem nums_bad (vs : List Vl) (p : Nat) (la : Option Addr) (n lc : Nat) (w : World) (x : Vl) (hn : vs.length = n) (hle : n ≤ 1000) (hp : p ≤ n) (hin : ∀ v ∈ vs, v.In) (hc : ValAt w la vs) (h : badNum (vs.drop p) = some x) :
    Calls Tryz.prog 91 #[.slice la n lc, .int .i64 p] w fun e w' => ∃ s, e = .returned (.tuple #[s, .agg #[.int .i64 (x).k, .int .i64 (x).n, .int .i64 (x).d, .string (x).t, .bool (x).b, .int .i64 (x).f]]) ∧ Below w.heap.size w w' := by
  refine (r7_numbers vs p la n lc w hn hle hp hin hc).mono ?_
  rintro e w' ⟨s, y, rfl, hb, hO⟩
  rw [hO.bad x h]
  exact ⟨s, rfl, hb⟩
set_option maxRecDepth 100000 in
set_option maxHeartbeats 1000000 in
theorem rk_bad (id : Int) (la : Option Addr) (n lc : Nat) (w : World) (x : Vl) (hx : x.k = 4)
    (HN : Hid (∀ wx, Below w.heap.size w wx → Calls Tryz.prog 91 #[.slice la n lc, .int .i64 0] wx fun e w' => ∃ s, e = .returned (.tuple #[s, .agg #[.int .i64 (x).k, .int .i64 (x).n, .int .i64 (x).d, .string (x).t, .bool (x).b, .int .i64 (x).f]]) ∧ Below wx.heap.size wx w')) :
    Calls Tryz.prog 45 #[.int .i64 id, .slice la n lc] w fun e w' => e = .returned (.agg #[.int .i64 (x).k, .int .i64 (x).n, .int .i64 (x).d, .string (x).t, .bool (x).b, .int .i64 (x).f]) ∧ Below w.heap.size w w' := by
  have k4 : (x.k == 4) = true := by simp [hx]
  clear hx
  go_enter Tryz.func45, Tryz.ntmps45
  go_wp2_with fail
  refine (HN.out _ ?_).mono ?_
  · skip
    focus
      repeat with_reducible first | exact Below.refl _ _ | refine below_drewN ?_ _ | refine Below.drew ?_ | refine Below.setCell ?_ ?_ _ | refine Below.alloc ?_ ?_ _ | refine below_then ?_ ?_ (by with_reducible assumption)
      all_goals first | omega | (simp only [sA, sC, sD, sE]; omega) | (simp; done) | (simp; omega)
  rintro e wA ⟨s, rfl, hb⟩
  obtain ⟨s1, c1_0, c1_1, c1_2, c1_3, c1_4, c1_5, f1⟩ := L6 hb (w.heap.size) (by first | omega | (simp only [sA, sC, sD, sE]; omega) | (simp; done) | (simp; omega)) (by go_simp; exact ⟨rfl, rfl, rfl, rfl, rfl, rfl⟩) (by intro o; go_simp)
  go_upto_region 2 with (fail)
  first | with_reducible refine wp_rebase ?_ | with_reducible refine wpList_rebase ?_
  intro w1 hb'
  have hb := hb'.out
  clear hb'
  obtain ⟨s2, c2_0, c2_1, c2_2, c2_3, c2_4, c2_5, f2⟩ := L6 hb (w.heap.size) (by first | omega | (simp only [sA, sC, sD, sE]; omega) | (simp; done) | (simp; omega)) (by go_simp; exact ⟨rfl, rfl, rfl, rfl, rfl, rfl⟩) (by intro o; go_simp)
  obtain ⟨s3, c3_0, c3_1, c3_2, c3_3, c3_4, c3_5, f3⟩ := L6 hb (wA.heap.size) (by first | omega | (simp only [sA, sC, sD, sE]; omega) | (simp; done) | (simp; omega)) (by go_simp; exact ⟨rfl, rfl, rfl, rfl, rfl, rfl⟩) (by intro o; go_simp)
  clear c1_0 c1_1 c1_2 c1_3 c1_4 c1_5 f1
  go_wp2
  refine bodyPost_ret (v := .agg #[.int .i64 (x).k, .int .i64 (x).n, .int .i64 (x).d, .string (x).t, .bool (x).b, .int .i64 (x).f]) (by simp [results, Tryz.results45, go_sem, c2_0, c2_1, c2_2, c2_3, c2_4, c2_5, c3_0, c3_1, c3_2, c3_3, c3_4, c3_5]) rfl ⟨rfl, ?_⟩
  focus
    repeat with_reducible first | exact Below.refl _ _ | refine below_drewN ?_ _ | refine Below.drew ?_ | refine Below.setCell ?_ ?_ _ | refine Below.alloc ?_ ?_ _ | refine below_then ?_ ?_ (by with_reducible assumption)
    all_goals first | omega | (simp only [sA, sC, sD, sE]; omega) | (simp; done) | (simp; omega)
set_option maxRecDepth 100000 in
set_option maxHeartbeats 1000000 in
theorem rk40 (la : Option Addr) (lc : Nat) (x : Nm) (w : World) (HN : Hid (∀ wx, Below w.heap.size w wx → Calls Tryz.prog 91 #[.slice la 1 lc, .int .i64 0] wx fun e w' => ∃ g cap : Nat, e = .returned (.tuple #[.slice (some ⟨g, 0, none⟩) 1 cap, .agg #[.int .i64 0, .int .i64 0, .int .i64 0, .string ⟨#[]⟩, .bool false, .int .i64 0]]) ∧ Below wx.heap.size wx w' ∧ 1 ≤ cap ∧ g < w'.heap.size ∧ w'.cell? ⟨g, 0, none⟩ = some (.int .i64 x.n) ∧ w'.cell? ⟨g, 1, none⟩ = some (.int .i64 x.d))) (hx : I64 x.n ∧ I64 x.d) :
    Calls Tryz.prog 45 #[.int .i64 40, .slice la 1 lc] w fun e w' => e = .returned (.agg #[.int .i64 (numF (absN x.n x.d).n (absN x.n x.d).d).k, .int .i64 (numF (absN x.n x.d).n (absN x.n x.d).d).n, .int .i64 (numF (absN x.n x.d).n (absN x.n x.d).d).d, .string (numF (absN x.n x.d).n (absN x.n x.d).d).t, .bool (numF (absN x.n x.d).n (absN x.n x.d).d).b, .int .i64 (numF (absN x.n x.d).n (absN x.n x.d).d).f]) ∧ Below w.heap.size w w' := by
  have HA := Lib.hid fun wx => r1_Abs x.n x.d wx hx.1 hx.2
  have i1 := abs_i64 x.n x.d
  have HM := Lib.hid fun wx => r2_Number (absN x.n x.d).n (absN x.n x.d).d wx i1.1 i1.2
  generalize absN x.n x.d = a at *
  generalize numF a.n a.d = R at *
  clear hx i1

  go_enter Tryz.func45, Tryz.ntmps45
  go_wp2_with fail
  refine (HN.out _ ?_).mono ?_
  · skip
    focus
      repeat with_reducible first | exact Below.refl _ _ | refine below_drewN ?_ _ | refine Below.drew ?_ | refine Below.setCell ?_ ?_ _ | refine Below.alloc ?_ ?_ _ | refine below_then ?_ ?_ (by with_reducible assumption)
      all_goals first | omega | (simp only [sA, sC, sD, sE]; omega) | (simp; done) | (simp; omega)
  rintro e wA ⟨g, cap, rfl, hb, hcap, hgl, c0, c1⟩
  obtain ⟨s4, c4_0, c4_1, c4_2, c4_3, c4_4, c4_5, f4⟩ := L6 hb (w.heap.size) (by first | omega | (simp only [sA, sC, sD, sE]; omega) | (simp; done) | (simp; omega)) (by go_simp; exact ⟨rfl, rfl, rfl, rfl, rfl, rfl⟩) (by intro o; go_simp)
  go_upto_region 4 with (fail)
  first | with_reducible refine wp_rebase ?_ | with_reducible refine wpList_rebase ?_
  intro w1 hb'
  have hb := hb'.out
  clear hb'
  obtain ⟨s5, c5_0, c5_1, c5_2, c5_3, c5_4, c5_5, f5⟩ := L6 hb (w.heap.size) (by first | omega | (simp only [sA, sC, sD, sE]; omega) | (simp; done) | (simp; omega)) (by go_simp; exact ⟨rfl, rfl, rfl, rfl, rfl, rfl⟩) (by intro o; go_simp)
  obtain ⟨s6, c6_0, c6_1⟩ := L2r hb (g) (by first | omega | (simp only [sA, sC, sD, sE]; omega) | (simp; done) | (simp; omega)) (by go_simp; exact ⟨rfl, rfl⟩)
  clear c4_0 c4_1 c4_2 c4_3 c4_4 c4_5 f4
  go_wp2_with fail
  refine (HA.out _).mono ?_
  rintro e wB ⟨rfl, hb⟩
  obtain ⟨s7, c7_0, c7_1, c7_2, c7_3, c7_4, c7_5, f7⟩ := L6 hb (w.heap.size) (by first | omega | (simp only [sA, sC, sD, sE]; omega) | (simp; done) | (simp; omega)) (by go_simp; exact ⟨rfl, rfl, rfl, rfl, rfl, rfl⟩) (by intro o; go_simp)
  clear c5_0 c5_1 c5_2 c5_3 c5_4 c5_5 f5 c6_0 c6_1
  go_wp2_with fail
  refine (HM.out _).mono ?_
  rintro e wC ⟨rfl, hb⟩
  obtain ⟨s8, c8_0, c8_1, c8_2, c8_3, c8_4, c8_5, f8⟩ := L6 hb (w.heap.size) (by first | omega | (simp only [sA, sC, sD, sE]; omega) | (simp; done) | (simp; omega)) (by go_simp; exact ⟨rfl, rfl, rfl, rfl, rfl, rfl⟩) (by intro o; go_simp)
  clear c7_0 c7_1 c7_2 c7_3 c7_4 c7_5 f7
  go_wp2
  refine bodyPost_ret (v := .agg #[.int .i64 (R).k, .int .i64 (R).n, .int .i64 (R).d, .string (R).t, .bool (R).b, .int .i64 (R).f]) (by simp [results, Tryz.results45, go_sem, c8_0, c8_1, c8_2, c8_3, c8_4, c8_5]) rfl ⟨rfl, ?_⟩
  focus
    repeat with_reducible first | exact Below.refl _ _ | refine below_drewN ?_ _ | refine Below.drew ?_ | refine Below.setCell ?_ ?_ _ | refine Below.alloc ?_ ?_ _ | refine below_then ?_ ?_ (by with_reducible assumption)
    all_goals first | omega | (simp only [sA, sC, sD, sE]; omega) | (simp; done) | (simp; omega)
set_option maxRecDepth 100000 in
set_option maxHeartbeats 1000000 in
theorem rk41 (la : Option Addr) (lc : Nat) (x : Nm) (w : World) (HN : Hid (∀ wx, Below w.heap.size w wx → Calls Tryz.prog 91 #[.slice la 1 lc, .int .i64 0] wx fun e w' => ∃ g cap : Nat, e = .returned (.tuple #[.slice (some ⟨g, 0, none⟩) 1 cap, .agg #[.int .i64 0, .int .i64 0, .int .i64 0, .string ⟨#[]⟩, .bool false, .int .i64 0]]) ∧ Below wx.heap.size wx w' ∧ 1 ≤ cap ∧ g < w'.heap.size ∧ w'.cell? ⟨g, 0, none⟩ = some (.int .i64 x.n) ∧ w'.cell? ⟨g, 1, none⟩ = some (.int .i64 x.d))) (hx : I64 x.n ∧ I64 x.d) :
    Calls Tryz.prog 45 #[.int .i64 41, .slice la 1 lc] w fun e w' => e = .returned (.agg #[.int .i64 (wholeF (cmpN x.n x.d 0 1)).k, .int .i64 (wholeF (cmpN x.n x.d 0 1)).n, .int .i64 (wholeF (cmpN x.n x.d 0 1)).d, .string (wholeF (cmpN x.n x.d 0 1)).t, .bool (wholeF (cmpN x.n x.d 0 1)).b, .int .i64 (wholeF (cmpN x.n x.d 0 1)).f]) ∧ Below w.heap.size w w' := by
  have HA := Lib.hid fun wx => r1_Cmp x.n x.d 0 1 wx hx.1 hx.2 ⟨by decide, by decide⟩ ⟨by decide, by decide⟩
  have hE : wholeF (cmpN x.n x.d 0 1) = numF (cmpN x.n x.d 0 1) 1 := by
    have h : -1 ≤ cmpN x.n x.d 0 1 ∧ cmpN x.n x.d 0 1 ≤ 1 := by unfold cmpN cmpI; repeat' split <;> omega
    unfold wholeF
    rw [mk_one (by omega) (by omega)]; rfl
  have i1 := cmp_i64 x.n x.d 0 1
  rw [hE]
  have HM := Lib.hid fun wx => r7_whole (cmpN x.n x.d 0 1) wx i1
  generalize cmpN x.n x.d 0 1 = a at *
  generalize numF a 1 = R at *
  clear hx hE i1

  go_enter Tryz.func45, Tryz.ntmps45
  go_wp2_with fail
  refine (HN.out _ ?_).mono ?_
  · skip
    focus
      repeat with_reducible first | exact Below.refl _ _ | refine below_drewN ?_ _ | refine Below.drew ?_ | refine Below.setCell ?_ ?_ _ | refine Below.alloc ?_ ?_ _ | refine below_then ?_ ?_ (by with_reducible assumption)
      all_goals first | omega | (simp only [sA, sC, sD, sE]; omega) | (simp; done) | (simp; omega)
  rintro e wA ⟨g, cap, rfl, hb, hcap, hgl, c0, c1⟩
  obtain ⟨s9, c9_0, c9_1, c9_2, c9_3, c9_4, c9_5, f9⟩ := L6 hb (w.heap.size) (by first | omega | (simp only [sA, sC, sD, sE]; omega) | (simp; done) | (simp; omega)) (by go_simp; exact ⟨rfl, rfl, rfl, rfl, rfl, rfl⟩) (by intro o; go_simp)
  go_upto_region 4 with (fail)
  first | with_reducible refine wp_rebase ?_ | with_reducible refine wpList_rebase ?_
  intro w1 hb'
  have hb := hb'.out
  clear hb'
  obtain ⟨s10, c10_0, c10_1, c10_2, c10_3, c10_4, c10_5, f10⟩ := L6 hb (w.heap.size) (by first | omega | (simp only [sA, sC, sD, sE]; omega) | (simp; done) | (simp; omega)) (by go_simp; exact ⟨rfl, rfl, rfl, rfl, rfl, rfl⟩) (by intro o; go_simp)
  obtain ⟨s11, c11_0, c11_1⟩ := L2r hb (g) (by first | omega | (simp only [sA, sC, sD, sE]; omega) | (simp; done) | (simp; omega)) (by go_simp; exact ⟨rfl, rfl⟩)
  clear c9_0 c9_1 c9_2 c9_3 c9_4 c9_5 f9
  go_wp2_with fail
  refine (HA.out _).mono ?_
  rintro e wB ⟨rfl, hb⟩
  obtain ⟨s12, c12_0, c12_1, c12_2, c12_3, c12_4, c12_5, f12⟩ := L6 hb (w.heap.size) (by first | omega | (simp only [sA, sC, sD, sE]; omega) | (simp; done) | (simp; omega)) (by go_simp; exact ⟨rfl, rfl, rfl, rfl, rfl, rfl⟩) (by intro o; go_simp)
  clear c10_0 c10_1 c10_2 c10_3 c10_4 c10_5 f10 c11_0 c11_1
  go_wp2_with fail
  refine (HM.out _).mono ?_
  rintro e wC ⟨rfl, hb⟩
  obtain ⟨s13, c13_0, c13_1, c13_2, c13_3, c13_4, c13_5, f13⟩ := L6 hb (w.heap.size) (by first | omega | (simp only [sA, sC, sD, sE]; omega) | (simp; done) | (simp; omega)) (by go_simp; exact ⟨rfl, rfl, rfl, rfl, rfl, rfl⟩) (by intro o; go_simp)
  clear c12_0 c12_1 c12_2 c12_3 c12_4 c12_5 f12
  go_wp2
  refine bodyPost_ret (v := .agg #[.int .i64 (R).k, .int .i64 (R).n, .int .i64 (R).d, .string (R).t, .bool (R).b, .int .i64 (R).f]) (by simp [results, Tryz.results45, go_sem, c13_0, c13_1, c13_2, c13_3, c13_4, c13_5]) rfl ⟨rfl, ?_⟩
  focus
    repeat with_reducible first | exact Below.refl _ _ | refine below_drewN ?_ _ | refine Below.drew ?_ | refine Below.setCell ?_ ?_ _ | refine Below.alloc ?_ ?_ _ | refine below_then ?_ ?_ (by with_reducible assumption)
    all_goals first | omega | (simp only [sA, sC, sD, sE]; omega) | (simp; done) | (simp; omega)
set_option maxRecDepth 100000 in
set_option maxHeartbeats 1000000 in
theorem rk42 (la : Option Addr) (lc : Nat) (x : Nm) (w : World) (HN : Hid (∀ wx, Below w.heap.size w wx → Calls Tryz.prog 91 #[.slice la 1 lc, .int .i64 0] wx fun e w' => ∃ g cap : Nat, e = .returned (.tuple #[.slice (some ⟨g, 0, none⟩) 1 cap, .agg #[.int .i64 0, .int .i64 0, .int .i64 0, .string ⟨#[]⟩, .bool false, .int .i64 0]]) ∧ Below wx.heap.size wx w' ∧ 1 ≤ cap ∧ g < w'.heap.size ∧ w'.cell? ⟨g, 0, none⟩ = some (.int .i64 x.n) ∧ w'.cell? ⟨g, 1, none⟩ = some (.int .i64 x.d))) (hx : I64 x.n ∧ I64 x.d) :
    Calls Tryz.prog 45 #[.int .i64 42, .slice la 1 lc] w fun e w' => e = .returned (.agg #[.int .i64 (numF (floorN x.n x.d).n (floorN x.n x.d).d).k, .int .i64 (numF (floorN x.n x.d).n (floorN x.n x.d).d).n, .int .i64 (numF (floorN x.n x.d).n (floorN x.n x.d).d).d, .string (numF (floorN x.n x.d).n (floorN x.n x.d).d).t, .bool (numF (floorN x.n x.d).n (floorN x.n x.d).d).b, .int .i64 (numF (floorN x.n x.d).n (floorN x.n x.d).d).f]) ∧ Below w.heap.size w w' := by
  have HA := Lib.hid fun wx => r1_Floor x.n x.d wx hx.1 hx.2
  have i1 := floor_i64 x.n x.d
  have HM := Lib.hid fun wx => r2_Number (floorN x.n x.d).n (floorN x.n x.d).d wx i1.1 i1.2
  generalize floorN x.n x.d = a at *
  generalize numF a.n a.d = R at *
  clear hx i1

  go_enter Tryz.func45, Tryz.ntmps45
  go_wp2_with fail
  refine (HN.out _ ?_).mono ?_
  · skip
    focus
      repeat with_reducible first | exact Below.refl _ _ | refine below_drewN ?_ _ | refine Below.drew ?_ | refine Below.setCell ?_ ?_ _ | refine Below.alloc ?_ ?_ _ | refine below_then ?_ ?_ (by with_reducible assumption)
      all_goals first | omega | (simp only [sA, sC, sD, sE]; omega) | (simp; done) | (simp; omega)
  rintro e wA ⟨g, cap, rfl, hb, hcap, hgl, c0, c1⟩
  obtain ⟨s14, c14_0, c14_1, c14_2, c14_3, c14_4, c14_5, f14⟩ := L6 hb (w.heap.size) (by first | omega | (simp only [sA, sC, sD, sE]; omega) | (simp; done) | (simp; omega)) (by go_simp; exact ⟨rfl, rfl, rfl, rfl, rfl, rfl⟩) (by intro o; go_simp)
  go_upto_region 4 with (fail)
  first | with_reducible refine wp_rebase ?_ | with_reducible refine wpList_rebase ?_
  intro w1 hb'
  have hb := hb'.out
  clear hb'
  obtain ⟨s15, c15_0, c15_1, c15_2, c15_3, c15_4, c15_5, f15⟩ := L6 hb (w.heap.size) (by first | omega | (simp only [sA, sC, sD, sE]; omega) | (simp; done) | (simp; omega)) (by go_simp; exact ⟨rfl, rfl, rfl, rfl, rfl, rfl⟩) (by intro o; go_simp)
  obtain ⟨s16, c16_0, c16_1⟩ := L2r hb (g) (by first | omega | (simp only [sA, sC, sD, sE]; omega) | (simp; done) | (simp; omega)) (by go_simp; exact ⟨rfl, rfl⟩)
  clear c14_0 c14_1 c14_2 c14_3 c14_4 c14_5 f14
  go_wp2_with fail
  refine (HA.out _).mono ?_
  rintro e wB ⟨rfl, hb⟩
  obtain ⟨s17, c17_0, c17_1, c17_2, c17_3, c17_4, c17_5, f17⟩ := L6 hb (w.heap.size) (by first | omega | (simp only [sA, sC, sD, sE]; omega) | (simp; done) | (simp; omega)) (by go_simp; exact ⟨rfl, rfl, rfl, rfl, rfl, rfl⟩) (by intro o; go_simp)
  clear c15_0 c15_1 c15_2 c15_3 c15_4 c15_5 f15 c16_0 c16_1
  go_wp2_with fail
  refine (HM.out _).mono ?_
  rintro e wC ⟨rfl, hb⟩
  obtain ⟨s18, c18_0, c18_1, c18_2, c18_3, c18_4, c18_5, f18⟩ := L6 hb (w.heap.size) (by first | omega | (simp only [sA, sC, sD, sE]; omega) | (simp; done) | (simp; omega)) (by go_simp; exact ⟨rfl, rfl, rfl, rfl, rfl, rfl⟩) (by intro o; go_simp)
  clear c17_0 c17_1 c17_2 c17_3 c17_4 c17_5 f17
  go_wp2
  refine bodyPost_ret (v := .agg #[.int .i64 (R).k, .int .i64 (R).n, .int .i64 (R).d, .string (R).t, .bool (R).b, .int .i64 (R).f]) (by simp [results, Tryz.results45, go_sem, c18_0, c18_1, c18_2, c18_3, c18_4, c18_5]) rfl ⟨rfl, ?_⟩
  focus
    repeat with_reducible first | exact Below.refl _ _ | refine below_drewN ?_ _ | refine Below.drew ?_ | refine Below.setCell ?_ ?_ _ | refine Below.alloc ?_ ?_ _ | refine below_then ?_ ?_ (by with_reducible assumption)
    all_goals first | omega | (simp only [sA, sC, sD, sE]; omega) | (simp; done) | (simp; omega)
set_option maxRecDepth 100000 in
set_option maxHeartbeats 1000000 in
theorem rk57 (la : Option Addr) (lc : Nat) (x : Nm) (w : World) (HN : Hid (∀ wx, Below w.heap.size w wx → Calls Tryz.prog 91 #[.slice la 1 lc, .int .i64 0] wx fun e w' => ∃ g cap : Nat, e = .returned (.tuple #[.slice (some ⟨g, 0, none⟩) 1 cap, .agg #[.int .i64 0, .int .i64 0, .int .i64 0, .string ⟨#[]⟩, .bool false, .int .i64 0]]) ∧ Below wx.heap.size wx w' ∧ 1 ≤ cap ∧ g < w'.heap.size ∧ w'.cell? ⟨g, 0, none⟩ = some (.int .i64 x.n) ∧ w'.cell? ⟨g, 1, none⟩ = some (.int .i64 x.d))) (hx : I64 x.n ∧ I64 x.d) :
    Calls Tryz.prog 45 #[.int .i64 57, .slice la 1 lc] w fun e w' => e = .returned (.agg #[.int .i64 (numF x.n x.d).k, .int .i64 (numF x.n x.d).n, .int .i64 (numF x.n x.d).d, .string (numF x.n x.d).t, .bool (numF x.n x.d).b, .int .i64 (numF x.n x.d).f]) ∧ Below w.heap.size w w' := by
  have HM := Lib.hid fun wx => r2_Number x.n x.d wx hx.1 hx.2
  generalize numF x.n x.d = R at *
  clear hx

  go_enter Tryz.func45, Tryz.ntmps45
  go_wp2_with fail
  refine (HN.out _ ?_).mono ?_
  · skip
    focus
      repeat with_reducible first | exact Below.refl _ _ | refine below_drewN ?_ _ | refine Below.drew ?_ | refine Below.setCell ?_ ?_ _ | refine Below.alloc ?_ ?_ _ | refine below_then ?_ ?_ (by with_reducible assumption)
      all_goals first | omega | (simp only [sA, sC, sD, sE]; omega) | (simp; done) | (simp; omega)
  rintro e wA ⟨g, cap, rfl, hb, hcap, hgl, c0, c1⟩
  obtain ⟨s19, c19_0, c19_1, c19_2, c19_3, c19_4, c19_5, f19⟩ := L6 hb (w.heap.size) (by first | omega | (simp only [sA, sC, sD, sE]; omega) | (simp; done) | (simp; omega)) (by go_simp; exact ⟨rfl, rfl, rfl, rfl, rfl, rfl⟩) (by intro o; go_simp)
  go_upto_region 4 with (fail)
  first | with_reducible refine wp_rebase ?_ | with_reducible refine wpList_rebase ?_
  intro w1 hb'
  have hb := hb'.out
  clear hb'
  obtain ⟨s20, c20_0, c20_1, c20_2, c20_3, c20_4, c20_5, f20⟩ := L6 hb (w.heap.size) (by first | omega | (simp only [sA, sC, sD, sE]; omega) | (simp; done) | (simp; omega)) (by go_simp; exact ⟨rfl, rfl, rfl, rfl, rfl, rfl⟩) (by intro o; go_simp)
  obtain ⟨s21, c21_0, c21_1⟩ := L2r hb (g) (by first | omega | (simp only [sA, sC, sD, sE]; omega) | (simp; done) | (simp; omega)) (by go_simp; exact ⟨rfl, rfl⟩)
  clear c19_0 c19_1 c19_2 c19_3 c19_4 c19_5 f19
  go_wp2_with fail
  refine (HM.out _).mono ?_
  rintro e wC ⟨rfl, hb⟩
  obtain ⟨s22, c22_0, c22_1, c22_2, c22_3, c22_4, c22_5, f22⟩ := L6 hb (w.heap.size) (by first | omega | (simp only [sA, sC, sD, sE]; omega) | (simp; done) | (simp; omega)) (by go_simp; exact ⟨rfl, rfl, rfl, rfl, rfl, rfl⟩) (by intro o; go_simp)
  clear c20_0 c20_1 c20_2 c20_3 c20_4 c20_5 f20 c21_0 c21_1
  go_wp2
  refine bodyPost_ret (v := .agg #[.int .i64 (R).k, .int .i64 (R).n, .int .i64 (R).d, .string (R).t, .bool (R).b, .int .i64 (R).f]) (by simp [results, Tryz.results45, go_sem, c22_0, c22_1, c22_2, c22_3, c22_4, c22_5]) rfl ⟨rfl, ?_⟩
  focus
    repeat with_reducible first | exact Below.refl _ _ | refine below_drewN ?_ _ | refine Below.drew ?_ | refine Below.setCell ?_ ?_ _ | refine Below.alloc ?_ ?_ _ | refine below_then ?_ ?_ (by with_reducible assumption)
    all_goals first | omega | (simp only [sA, sC, sD, sE]; omega) | (simp; done) | (simp; omega)
set_option maxRecDepth 100000 in
set_option maxHeartbeats 1000000 in
theorem rk43 (la : Option Addr) (lc : Nat) (x : Nm) (w : World) (HN : Hid (∀ wx, Below w.heap.size w wx → Calls Tryz.prog 91 #[.slice la 1 lc, .int .i64 0] wx fun e w' => ∃ g cap : Nat, e = .returned (.tuple #[.slice (some ⟨g, 0, none⟩) 1 cap, .agg #[.int .i64 0, .int .i64 0, .int .i64 0, .string ⟨#[]⟩, .bool false, .int .i64 0]]) ∧ Below wx.heap.size wx w' ∧ 1 ≤ cap ∧ g < w'.heap.size ∧ w'.cell? ⟨g, 0, none⟩ = some (.int .i64 x.n) ∧ w'.cell? ⟨g, 1, none⟩ = some (.int .i64 x.d))) (hx : I64 x.n ∧ I64 x.d) :
    Calls Tryz.prog 45 #[.int .i64 43, .slice la 1 lc] w fun e w' => e = .returned (.agg #[.int .i64 (toldB (roundN x.n x.d 0)).k, .int .i64 (toldB (roundN x.n x.d 0)).n, .int .i64 (toldB (roundN x.n x.d 0)).d, .string (toldB (roundN x.n x.d 0)).t, .bool (toldB (roundN x.n x.d 0)).b, .int .i64 (toldB (roundN x.n x.d 0)).f]) ∧ Below w.heap.size w w' := by
  have HA := Lib.hid fun wx => r1_Round x.n x.d 0 wx hx.1 hx.2 ⟨by decide, by decide⟩
  have i1 := round_bds x.n x.d 0
  have HM := Lib.hid fun wx => r7_num (roundN x.n x.d 0).n (roundN x.n x.d 0).d (roundN x.n x.d 0).ok wx (I64.of i1.1 i1.2.1) (I64.of (by omega) (by omega))
  show Calls _ _ _ _ fun e w' => e = .returned (.agg #[.int .i64 (toldF (roundN x.n x.d 0).n (roundN x.n x.d 0).d (roundN x.n x.d 0).ok).k, .int .i64 (toldF (roundN x.n x.d 0).n (roundN x.n x.d 0).d (roundN x.n x.d 0).ok).n, .int .i64 (toldF (roundN x.n x.d 0).n (roundN x.n x.d 0).d (roundN x.n x.d 0).ok).d, .string (toldF (roundN x.n x.d 0).n (roundN x.n x.d 0).d (roundN x.n x.d 0).ok).t, .bool (toldF (roundN x.n x.d 0).n (roundN x.n x.d 0).d (roundN x.n x.d 0).ok).b, .int .i64 (toldF (roundN x.n x.d 0).n (roundN x.n x.d 0).d (roundN x.n x.d 0).ok).f]) ∧ _
  generalize roundN x.n x.d 0 = a at *
  generalize toldF a.n a.d a.ok = R at *
  clear hx i1

  go_enter Tryz.func45, Tryz.ntmps45
  go_wp2_with fail
  refine (HN.out _ ?_).mono ?_
  · skip
    focus
      repeat with_reducible first | exact Below.refl _ _ | refine below_drewN ?_ _ | refine Below.drew ?_ | refine Below.setCell ?_ ?_ _ | refine Below.alloc ?_ ?_ _ | refine below_then ?_ ?_ (by with_reducible assumption)
      all_goals first | omega | (simp only [sA, sC, sD, sE]; omega) | (simp; done) | (simp; omega)
  rintro e wA ⟨g, cap, rfl, hb, hcap, hgl, c0, c1⟩
  obtain ⟨s23, c23_0, c23_1, c23_2, c23_3, c23_4, c23_5, f23⟩ := L6 hb (w.heap.size) (by first | omega | (simp only [sA, sC, sD, sE]; omega) | (simp; done) | (simp; omega)) (by go_simp; exact ⟨rfl, rfl, rfl, rfl, rfl, rfl⟩) (by intro o; go_simp)
  go_upto_region 4 with (fail)
  first | with_reducible refine wp_rebase ?_ | with_reducible refine wpList_rebase ?_
  intro w1 hb'
  have hb := hb'.out
  clear hb'
  obtain ⟨s24, c24_0, c24_1, c24_2, c24_3, c24_4, c24_5, f24⟩ := L6 hb (w.heap.size) (by first | omega | (simp only [sA, sC, sD, sE]; omega) | (simp; done) | (simp; omega)) (by go_simp; exact ⟨rfl, rfl, rfl, rfl, rfl, rfl⟩) (by intro o; go_simp)
  obtain ⟨s25, c25_0, c25_1⟩ := L2r hb (g) (by first | omega | (simp only [sA, sC, sD, sE]; omega) | (simp; done) | (simp; omega)) (by go_simp; exact ⟨rfl, rfl⟩)
  clear c23_0 c23_1 c23_2 c23_3 c23_4 c23_5 f23
  go_wp2_with fail
  refine (HA.out _).mono ?_
  rintro e wB ⟨rfl, hb⟩
  obtain ⟨s26, c26_0, c26_1, c26_2, c26_3, c26_4, c26_5, f26⟩ := L6 hb (w.heap.size) (by first | omega | (simp only [sA, sC, sD, sE]; omega) | (simp; done) | (simp; omega)) (by go_simp; exact ⟨rfl, rfl, rfl, rfl, rfl, rfl⟩) (by intro o; go_simp)
  clear c24_0 c24_1 c24_2 c24_3 c24_4 c24_5 f24 c25_0 c25_1
  go_upto_region 21 with (fail)
  first | with_reducible refine wp_rebase ?_ | with_reducible refine wpList_rebase ?_
  intro w1 hb'
  have hb := hb'.out
  clear hb'
  obtain ⟨s27, c27_0, c27_1, c27_2, c27_3, c27_4, c27_5, f27⟩ := L6 hb (w.heap.size) (by first | omega | (simp only [sA, sC, sD, sE]; omega) | (simp; done) | (simp; omega)) (by go_simp; exact ⟨rfl, rfl, rfl, rfl, rfl, rfl⟩) (by intro o; go_simp)
  obtain ⟨s28, c28_0, c28_1, f28⟩ := L2 hb (wB.heap.size) (by first | omega | (simp only [sA, sC, sD, sE]; omega) | (simp; done) | (simp; omega)) (by go_simp; exact ⟨rfl, rfl⟩) (by intro o; go_simp)
  clear c26_0 c26_1 c26_2 c26_3 c26_4 c26_5 f26
  go_wp2_with fail
  refine (HM.out _).mono ?_
  rintro e wC ⟨rfl, hb⟩
  obtain ⟨s29, c29_0, c29_1, c29_2, c29_3, c29_4, c29_5, f29⟩ := L6 hb (w.heap.size) (by first | omega | (simp only [sA, sC, sD, sE]; omega) | (simp; done) | (simp; omega)) (by go_simp; exact ⟨rfl, rfl, rfl, rfl, rfl, rfl⟩) (by intro o; go_simp)
  clear c27_0 c27_1 c27_2 c27_3 c27_4 c27_5 f27 c28_0 c28_1 f28
  go_wp2
  refine bodyPost_ret (v := .agg #[.int .i64 (R).k, .int .i64 (R).n, .int .i64 (R).d, .string (R).t, .bool (R).b, .int .i64 (R).f]) (by simp [results, Tryz.results45, go_sem, c29_0, c29_1, c29_2, c29_3, c29_4, c29_5]) rfl ⟨rfl, ?_⟩
  focus
    repeat with_reducible first | exact Below.refl _ _ | refine below_drewN ?_ _ | refine Below.drew ?_ | refine Below.setCell ?_ ?_ _ | refine Below.alloc ?_ ?_ _ | refine below_then ?_ ?_ (by with_reducible assumption)
    all_goals first | omega | (simp only [sA, sC, sD, sE]; omega) | (simp; done) | (simp; omega)
set_option maxRecDepth 100000 in
set_option maxHeartbeats 1000000 in
theorem rk43_no (la : Option Addr) (lc : Nat) (x y : Nm) (w : World) (HN : Hid (∀ wx, Below w.heap.size w wx → Calls Tryz.prog 91 #[.slice la 2 lc, .int .i64 0] wx fun e w' => ∃ g cap : Nat, e = .returned (.tuple #[.slice (some ⟨g, 0, none⟩) 2 cap, .agg #[.int .i64 0, .int .i64 0, .int .i64 0, .string ⟨#[]⟩, .bool false, .int .i64 0]]) ∧ Below wx.heap.size wx w' ∧ 2 ≤ cap ∧ g < w'.heap.size ∧ w'.cell? ⟨g, 0, none⟩ = some (.int .i64 x.n) ∧ w'.cell? ⟨g, 1, none⟩ = some (.int .i64 x.d) ∧ w'.cell? ⟨g, 2, none⟩ = some (.int .i64 y.n) ∧ w'.cell? ⟨g, 3, none⟩ = some (.int .i64 y.d))) (hx : I64 x.n ∧ I64 x.d) (hy : I64 y.n ∧ I64 y.d) (hw : wholeB y.n y.d = false) :
    Calls Tryz.prog 45 #[.int .i64 43, .slice la 2 lc] w fun e w' => e = .returned (.agg #[.int .i64 (faultF 8).k, .int .i64 (faultF 8).n, .int .i64 (faultF 8).d, .string (faultF 8).t, .bool (faultF 8).b, .int .i64 (faultF 8).f]) ∧ Below w.heap.size w w' := by
  have HW := Lib.hid fun wx => r1_Whole y.n y.d wx hy.1 hy.2
  rw [hw] at HW
  have HM := Lib.hid fun wx => r7_arg wx
  generalize faultF 8 = R at *
  generalize wholeN y.n y.d = a at *
  clear hx hy hw

  go_enter Tryz.func45, Tryz.ntmps45
  go_wp2_with fail
  refine (HN.out _ ?_).mono ?_
  · skip
    focus
      repeat with_reducible first | exact Below.refl _ _ | refine below_drewN ?_ _ | refine Below.drew ?_ | refine Below.setCell ?_ ?_ _ | refine Below.alloc ?_ ?_ _ | refine below_then ?_ ?_ (by with_reducible assumption)
      all_goals first | omega | (simp only [sA, sC, sD, sE]; omega) | (simp; done) | (simp; omega)
  rintro e wA ⟨g, cap, rfl, hb, hcap, hgl, c0, c1, c2, c3⟩
  obtain ⟨s30, c30_0, c30_1, c30_2, c30_3, c30_4, c30_5, f30⟩ := L6 hb (w.heap.size) (by first | omega | (simp only [sA, sC, sD, sE]; omega) | (simp; done) | (simp; omega)) (by go_simp; exact ⟨rfl, rfl, rfl, rfl, rfl, rfl⟩) (by intro o; go_simp)
  go_upto_region 4 with (fail)
  first | with_reducible refine wp_rebase ?_ | with_reducible refine wpList_rebase ?_
  intro w1 hb'
  have hb := hb'.out
  clear hb'
  obtain ⟨s31, c31_0, c31_1, c31_2, c31_3, c31_4, c31_5, f31⟩ := L6 hb (w.heap.size) (by first | omega | (simp only [sA, sC, sD, sE]; omega) | (simp; done) | (simp; omega)) (by go_simp; exact ⟨rfl, rfl, rfl, rfl, rfl, rfl⟩) (by intro o; go_simp)
  obtain ⟨s32, c32_0, c32_1, c32_2, c32_3⟩ := L4r hb (g) (by first | omega | (simp only [sA, sC, sD, sE]; omega) | (simp; done) | (simp; omega)) (by go_simp; exact ⟨rfl, rfl, rfl, rfl⟩)
  clear c30_0 c30_1 c30_2 c30_3 c30_4 c30_5 f30
  go_wp2_with fail
  refine (HW.out _).mono ?_
  rintro e wB ⟨rfl, hb⟩
  obtain ⟨s33, c33_0, c33_1, c33_2, c33_3, c33_4, c33_5, f33⟩ := L6 hb (w.heap.size) (by first | omega | (simp only [sA, sC, sD, sE]; omega) | (simp; done) | (simp; omega)) (by go_simp; exact ⟨rfl, rfl, rfl, rfl, rfl, rfl⟩) (by intro o; go_simp)
  clear c31_0 c31_1 c31_2 c31_3 c31_4 c31_5 f31 c32_0 c32_1 c32_2 c32_3
  go_wp2_with fail
  refine (HM.out _).mono ?_
  rintro e wC ⟨rfl, hb⟩
  obtain ⟨s34, c34_0, c34_1, c34_2, c34_3, c34_4, c34_5, f34⟩ := L6 hb (w.heap.size) (by first | omega | (simp only [sA, sC, sD, sE]; omega) | (simp; done) | (simp; omega)) (by go_simp; exact ⟨rfl, rfl, rfl, rfl, rfl, rfl⟩) (by intro o; go_simp)
  clear c33_0 c33_1 c33_2 c33_3 c33_4 c33_5 f33
  go_wp2
  refine bodyPost_ret (v := .agg #[.int .i64 (R).k, .int .i64 (R).n, .int .i64 (R).d, .string (R).t, .bool (R).b, .int .i64 (R).f]) (by simp [results, Tryz.results45, go_sem, c34_0, c34_1, c34_2, c34_3, c34_4, c34_5]) rfl ⟨rfl, ?_⟩
  focus
    repeat with_reducible first | exact Below.refl _ _ | refine below_drewN ?_ _ | refine Below.drew ?_ | refine Below.setCell ?_ ?_ _ | refine Below.alloc ?_ ?_ _ | refine below_then ?_ ?_ (by with_reducible assumption)
    all_goals first | omega | (simp only [sA, sC, sD, sE]; omega) | (simp; done) | (simp; omega)
set_option maxRecDepth 100000 in
set_option maxHeartbeats 1000000 in
theorem rk43_ok (la : Option Addr) (lc : Nat) (x y : Nm) (w : World) (HN : Hid (∀ wx, Below w.heap.size w wx → Calls Tryz.prog 91 #[.slice la 2 lc, .int .i64 0] wx fun e w' => ∃ g cap : Nat, e = .returned (.tuple #[.slice (some ⟨g, 0, none⟩) 2 cap, .agg #[.int .i64 0, .int .i64 0, .int .i64 0, .string ⟨#[]⟩, .bool false, .int .i64 0]]) ∧ Below wx.heap.size wx w' ∧ 2 ≤ cap ∧ g < w'.heap.size ∧ w'.cell? ⟨g, 0, none⟩ = some (.int .i64 x.n) ∧ w'.cell? ⟨g, 1, none⟩ = some (.int .i64 x.d) ∧ w'.cell? ⟨g, 2, none⟩ = some (.int .i64 y.n) ∧ w'.cell? ⟨g, 3, none⟩ = some (.int .i64 y.d))) (hx : I64 x.n ∧ I64 x.d) (hy : I64 y.n ∧ I64 y.d) (hw : wholeB y.n y.d = true) :
    Calls Tryz.prog 45 #[.int .i64 43, .slice la 2 lc] w fun e w' => e = .returned (.agg #[.int .i64 (toldB (roundN x.n x.d (wholeN y.n y.d))).k, .int .i64 (toldB (roundN x.n x.d (wholeN y.n y.d))).n, .int .i64 (toldB (roundN x.n x.d (wholeN y.n y.d))).d, .string (toldB (roundN x.n x.d (wholeN y.n y.d))).t, .bool (toldB (roundN x.n x.d (wholeN y.n y.d))).b, .int .i64 (toldB (roundN x.n x.d (wholeN y.n y.d))).f]) ∧ Below w.heap.size w w' := by
  have HW := Lib.hid fun wx => r1_Whole y.n y.d wx hy.1 hy.2
  rw [hw] at HW
  have iw := wholeN_i64 y.n y.d
  generalize wholeN y.n y.d = K at *
  have HA := Lib.hid fun wx => r1_Round x.n x.d K wx hx.1 hx.2 iw
  have i1 := round_bds x.n x.d K
  have HM := Lib.hid fun wx => r7_num (roundN x.n x.d K).n (roundN x.n x.d K).d (roundN x.n x.d K).ok wx (I64.of i1.1 i1.2.1) (I64.of (by omega) (by omega))
  show Calls _ _ _ _ fun e w' => e = .returned (.agg #[.int .i64 (toldF (roundN x.n x.d K).n (roundN x.n x.d K).d (roundN x.n x.d K).ok).k, .int .i64 (toldF (roundN x.n x.d K).n (roundN x.n x.d K).d (roundN x.n x.d K).ok).n, .int .i64 (toldF (roundN x.n x.d K).n (roundN x.n x.d K).d (roundN x.n x.d K).ok).d, .string (toldF (roundN x.n x.d K).n (roundN x.n x.d K).d (roundN x.n x.d K).ok).t, .bool (toldF (roundN x.n x.d K).n (roundN x.n x.d K).d (roundN x.n x.d K).ok).b, .int .i64 (toldF (roundN x.n x.d K).n (roundN x.n x.d K).d (roundN x.n x.d K).ok).f]) ∧ _
  generalize roundN x.n x.d K = a at *
  generalize toldF a.n a.d a.ok = R at *
  clear hx i1
  clear hy hw iw

  go_enter Tryz.func45, Tryz.ntmps45
  go_wp2_with fail
  refine (HN.out _ ?_).mono ?_
  · skip
    focus
      repeat with_reducible first | exact Below.refl _ _ | refine below_drewN ?_ _ | refine Below.drew ?_ | refine Below.setCell ?_ ?_ _ | refine Below.alloc ?_ ?_ _ | refine below_then ?_ ?_ (by with_reducible assumption)
      all_goals first | omega | (simp only [sA, sC, sD, sE]; omega) | (simp; done) | (simp; omega)
  rintro e wA ⟨g, cap, rfl, hb, hcap, hgl, c0, c1, c2, c3⟩
  obtain ⟨s35, c35_0, c35_1, c35_2, c35_3, c35_4, c35_5, f35⟩ := L6 hb (w.heap.size) (by first | omega | (simp only [sA, sC, sD, sE]; omega) | (simp; done) | (simp; omega)) (by go_simp; exact ⟨rfl, rfl, rfl, rfl, rfl, rfl⟩) (by intro o; go_simp)
  go_upto_region 4 with (fail)
  first | with_reducible refine wp_rebase ?_ | with_reducible refine wpList_rebase ?_
  intro w1 hb'
  have hb := hb'.out
  clear hb'
  obtain ⟨s36, c36_0, c36_1, c36_2, c36_3, c36_4, c36_5, f36⟩ := L6 hb (w.heap.size) (by first | omega | (simp only [sA, sC, sD, sE]; omega) | (simp; done) | (simp; omega)) (by go_simp; exact ⟨rfl, rfl, rfl, rfl, rfl, rfl⟩) (by intro o; go_simp)
  obtain ⟨s37, c37_0, c37_1, c37_2, c37_3⟩ := L4r hb (g) (by first | omega | (simp only [sA, sC, sD, sE]; omega) | (simp; done) | (simp; omega)) (by go_simp; exact ⟨rfl, rfl, rfl, rfl⟩)
  clear c35_0 c35_1 c35_2 c35_3 c35_4 c35_5 f35
  go_wp2_with fail
  refine (HW.out _).mono ?_
  rintro e wB ⟨rfl, hb⟩
  obtain ⟨s38, c38_0, c38_1, c38_2, c38_3, c38_4, c38_5, f38⟩ := L6 hb (w.heap.size) (by first | omega | (simp only [sA, sC, sD, sE]; omega) | (simp; done) | (simp; omega)) (by go_simp; exact ⟨rfl, rfl, rfl, rfl, rfl, rfl⟩) (by intro o; go_simp)
  obtain ⟨s39, c39_0, c39_1⟩ := L2r hb (g) (by first | omega | (simp only [sA, sC, sD, sE]; omega) | (simp; done) | (simp; omega)) (by go_simp; exact ⟨rfl, rfl⟩)
  clear c36_0 c36_1 c36_2 c36_3 c36_4 c36_5 f36 c37_0 c37_1 c37_2 c37_3
  go_wp2_with fail
  refine (HA.out _).mono ?_
  rintro e wC ⟨rfl, hb⟩
  obtain ⟨s40, c40_0, c40_1, c40_2, c40_3, c40_4, c40_5, f40⟩ := L6 hb (w.heap.size) (by first | omega | (simp only [sA, sC, sD, sE]; omega) | (simp; done) | (simp; omega)) (by go_simp; exact ⟨rfl, rfl, rfl, rfl, rfl, rfl⟩) (by intro o; go_simp)
  clear c38_0 c38_1 c38_2 c38_3 c38_4 c38_5 f38 c39_0 c39_1
  go_upto_region 21 with (fail)
  first | with_reducible refine wp_rebase ?_ | with_reducible refine wpList_rebase ?_
  intro w1 hb'
  have hb := hb'.out
  clear hb'
  obtain ⟨s41, c41_0, c41_1, c41_2, c41_3, c41_4, c41_5, f41⟩ := L6 hb (w.heap.size) (by first | omega | (simp only [sA, sC, sD, sE]; omega) | (simp; done) | (simp; omega)) (by go_simp; exact ⟨rfl, rfl, rfl, rfl, rfl, rfl⟩) (by intro o; go_simp)
  obtain ⟨s42, c42_0, c42_1, f42⟩ := L2 hb (wC.heap.size) (by first | omega | (simp only [sA, sC, sD, sE]; omega) | (simp; done) | (simp; omega)) (by go_simp; exact ⟨rfl, rfl⟩) (by intro o; go_simp)
  clear c40_0 c40_1 c40_2 c40_3 c40_4 c40_5 f40
  go_wp2_with fail
  refine (HM.out _).mono ?_
  rintro e wD ⟨rfl, hb⟩
  obtain ⟨s43, c43_0, c43_1, c43_2, c43_3, c43_4, c43_5, f43⟩ := L6 hb (w.heap.size) (by first | omega | (simp only [sA, sC, sD, sE]; omega) | (simp; done) | (simp; omega)) (by go_simp; exact ⟨rfl, rfl, rfl, rfl, rfl, rfl⟩) (by intro o; go_simp)
  clear c41_0 c41_1 c41_2 c41_3 c41_4 c41_5 f41 c42_0 c42_1 f42
  go_wp2
  refine bodyPost_ret (v := .agg #[.int .i64 (R).k, .int .i64 (R).n, .int .i64 (R).d, .string (R).t, .bool (R).b, .int .i64 (R).f]) (by simp [results, Tryz.results45, go_sem, c43_0, c43_1, c43_2, c43_3, c43_4, c43_5]) rfl ⟨rfl, ?_⟩
  focus
    repeat with_reducible first | exact Below.refl _ _ | refine below_drewN ?_ _ | refine Below.drew ?_ | refine Below.setCell ?_ ?_ _ | refine Below.alloc ?_ ?_ _ | refine below_then ?_ ?_ (by with_reducible assumption)
    all_goals first | omega | (simp only [sA, sC, sD, sE]; omega) | (simp; done) | (simp; omega)
set_option maxRecDepth 100000 in
set_option maxHeartbeats 1000000 in
theorem rk44_div (la : Option Addr) (lc : Nat) (x y : Nm) (w : World) (HN : Hid (∀ wx, Below w.heap.size w wx → Calls Tryz.prog 91 #[.slice la 2 lc, .int .i64 0] wx fun e w' => ∃ g cap : Nat, e = .returned (.tuple #[.slice (some ⟨g, 0, none⟩) 2 cap, .agg #[.int .i64 0, .int .i64 0, .int .i64 0, .string ⟨#[]⟩, .bool false, .int .i64 0]]) ∧ Below wx.heap.size wx w' ∧ 2 ≤ cap ∧ g < w'.heap.size ∧ w'.cell? ⟨g, 0, none⟩ = some (.int .i64 x.n) ∧ w'.cell? ⟨g, 1, none⟩ = some (.int .i64 x.d) ∧ w'.cell? ⟨g, 2, none⟩ = some (.int .i64 y.n) ∧ w'.cell? ⟨g, 3, none⟩ = some (.int .i64 y.d))) (h0 : y.n = 0) :
    Calls Tryz.prog 45 #[.int .i64 44, .slice la 2 lc] w fun e w' => e = .returned (.agg #[.int .i64 (faultF 1).k, .int .i64 (faultF 1).n, .int .i64 (faultF 1).d, .string (faultF 1).t, .bool (faultF 1).b, .int .i64 (faultF 1).f]) ∧ Below w.heap.size w w' := by
  have hz : (y.n == 0) = true := by simp [h0]
  have HM := Lib.hid fun wx => r2_Fault 1 wx
  generalize faultF 1 = R at *
  clear h0

  go_enter Tryz.func45, Tryz.ntmps45
  go_wp2_with fail
  refine (HN.out _ ?_).mono ?_
  · skip
    focus
      repeat with_reducible first | exact Below.refl _ _ | refine below_drewN ?_ _ | refine Below.drew ?_ | refine Below.setCell ?_ ?_ _ | refine Below.alloc ?_ ?_ _ | refine below_then ?_ ?_ (by with_reducible assumption)
      all_goals first | omega | (simp only [sA, sC, sD, sE]; omega) | (simp; done) | (simp; omega)
  rintro e wA ⟨g, cap, rfl, hb, hcap, hgl, c0, c1, c2, c3⟩
  obtain ⟨s44, c44_0, c44_1, c44_2, c44_3, c44_4, c44_5, f44⟩ := L6 hb (w.heap.size) (by first | omega | (simp only [sA, sC, sD, sE]; omega) | (simp; done) | (simp; omega)) (by go_simp; exact ⟨rfl, rfl, rfl, rfl, rfl, rfl⟩) (by intro o; go_simp)
  go_upto_region 4 with (fail)
  first | with_reducible refine wp_rebase ?_ | with_reducible refine wpList_rebase ?_
  intro w1 hb'
  have hb := hb'.out
  clear hb'
  obtain ⟨s45, c45_0, c45_1, c45_2, c45_3, c45_4, c45_5, f45⟩ := L6 hb (w.heap.size) (by first | omega | (simp only [sA, sC, sD, sE]; omega) | (simp; done) | (simp; omega)) (by go_simp; exact ⟨rfl, rfl, rfl, rfl, rfl, rfl⟩) (by intro o; go_simp)
  obtain ⟨s46, c46_0, c46_1, c46_2, c46_3⟩ := L4r hb (g) (by first | omega | (simp only [sA, sC, sD, sE]; omega) | (simp; done) | (simp; omega)) (by go_simp; exact ⟨rfl, rfl, rfl, rfl⟩)
  clear c44_0 c44_1 c44_2 c44_3 c44_4 c44_5 f44
  go_wp2_with fail
  refine (HM.out _).mono ?_
  rintro e wC ⟨rfl, hb⟩
  obtain ⟨s47, c47_0, c47_1, c47_2, c47_3, c47_4, c47_5, f47⟩ := L6 hb (w.heap.size) (by first | omega | (simp only [sA, sC, sD, sE]; omega) | (simp; done) | (simp; omega)) (by go_simp; exact ⟨rfl, rfl, rfl, rfl, rfl, rfl⟩) (by intro o; go_simp)
  clear c45_0 c45_1 c45_2 c45_3 c45_4 c45_5 f45 c46_0 c46_1 c46_2 c46_3
  go_wp2
  refine bodyPost_ret (v := .agg #[.int .i64 (R).k, .int .i64 (R).n, .int .i64 (R).d, .string (R).t, .bool (R).b, .int .i64 (R).f]) (by simp [results, Tryz.results45, go_sem, c47_0, c47_1, c47_2, c47_3, c47_4, c47_5]) rfl ⟨rfl, ?_⟩
  focus
    repeat with_reducible first | exact Below.refl _ _ | refine below_drewN ?_ _ | refine Below.drew ?_ | refine Below.setCell ?_ ?_ _ | refine Below.alloc ?_ ?_ _ | refine below_then ?_ ?_ (by with_reducible assumption)
    all_goals first | omega | (simp only [sA, sC, sD, sE]; omega) | (simp; done) | (simp; omega)
set_option maxRecDepth 100000 in
set_option maxHeartbeats 1000000 in
theorem rk45_div (la : Option Addr) (lc : Nat) (x y : Nm) (w : World) (HN : Hid (∀ wx, Below w.heap.size w wx → Calls Tryz.prog 91 #[.slice la 2 lc, .int .i64 0] wx fun e w' => ∃ g cap : Nat, e = .returned (.tuple #[.slice (some ⟨g, 0, none⟩) 2 cap, .agg #[.int .i64 0, .int .i64 0, .int .i64 0, .string ⟨#[]⟩, .bool false, .int .i64 0]]) ∧ Below wx.heap.size wx w' ∧ 2 ≤ cap ∧ g < w'.heap.size ∧ w'.cell? ⟨g, 0, none⟩ = some (.int .i64 x.n) ∧ w'.cell? ⟨g, 1, none⟩ = some (.int .i64 x.d) ∧ w'.cell? ⟨g, 2, none⟩ = some (.int .i64 y.n) ∧ w'.cell? ⟨g, 3, none⟩ = some (.int .i64 y.d))) (h0 : y.n = 0) :
    Calls Tryz.prog 45 #[.int .i64 45, .slice la 2 lc] w fun e w' => e = .returned (.agg #[.int .i64 (faultF 1).k, .int .i64 (faultF 1).n, .int .i64 (faultF 1).d, .string (faultF 1).t, .bool (faultF 1).b, .int .i64 (faultF 1).f]) ∧ Below w.heap.size w w' := by
  have hz : (y.n == 0) = true := by simp [h0]
  have HM := Lib.hid fun wx => r2_Fault 1 wx
  generalize faultF 1 = R at *
  clear h0

  go_enter Tryz.func45, Tryz.ntmps45
  go_wp2_with fail
  refine (HN.out _ ?_).mono ?_
  · skip
    focus
      repeat with_reducible first | exact Below.refl _ _ | refine below_drewN ?_ _ | refine Below.drew ?_ | refine Below.setCell ?_ ?_ _ | refine Below.alloc ?_ ?_ _ | refine below_then ?_ ?_ (by with_reducible assumption)
      all_goals first | omega | (simp only [sA, sC, sD, sE]; omega) | (simp; done) | (simp; omega)
  rintro e wA ⟨g, cap, rfl, hb, hcap, hgl, c0, c1, c2, c3⟩
  obtain ⟨s48, c48_0, c48_1, c48_2, c48_3, c48_4, c48_5, f48⟩ := L6 hb (w.heap.size) (by first | omega | (simp only [sA, sC, sD, sE]; omega) | (simp; done) | (simp; omega)) (by go_simp; exact ⟨rfl, rfl, rfl, rfl, rfl, rfl⟩) (by intro o; go_simp)
  go_upto_region 4 with (fail)
  first | with_reducible refine wp_rebase ?_ | with_reducible refine wpList_rebase ?_
  intro w1 hb'
  have hb := hb'.out
  clear hb'
  obtain ⟨s49, c49_0, c49_1, c49_2, c49_3, c49_4, c49_5, f49⟩ := L6 hb (w.heap.size) (by first | omega | (simp only [sA, sC, sD, sE]; omega) | (simp; done) | (simp; omega)) (by go_simp; exact ⟨rfl, rfl, rfl, rfl, rfl, rfl⟩) (by intro o; go_simp)
  obtain ⟨s50, c50_0, c50_1, c50_2, c50_3⟩ := L4r hb (g) (by first | omega | (simp only [sA, sC, sD, sE]; omega) | (simp; done) | (simp; omega)) (by go_simp; exact ⟨rfl, rfl, rfl, rfl⟩)
  clear c48_0 c48_1 c48_2 c48_3 c48_4 c48_5 f48
  go_wp2_with fail
  refine (HM.out _).mono ?_
  rintro e wC ⟨rfl, hb⟩
  obtain ⟨s51, c51_0, c51_1, c51_2, c51_3, c51_4, c51_5, f51⟩ := L6 hb (w.heap.size) (by first | omega | (simp only [sA, sC, sD, sE]; omega) | (simp; done) | (simp; omega)) (by go_simp; exact ⟨rfl, rfl, rfl, rfl, rfl, rfl⟩) (by intro o; go_simp)
  clear c49_0 c49_1 c49_2 c49_3 c49_4 c49_5 f49 c50_0 c50_1 c50_2 c50_3
  go_wp2
  refine bodyPost_ret (v := .agg #[.int .i64 (R).k, .int .i64 (R).n, .int .i64 (R).d, .string (R).t, .bool (R).b, .int .i64 (R).f]) (by simp [results, Tryz.results45, go_sem, c51_0, c51_1, c51_2, c51_3, c51_4, c51_5]) rfl ⟨rfl, ?_⟩
  focus
    repeat with_reducible first | exact Below.refl _ _ | refine below_drewN ?_ _ | refine Below.drew ?_ | refine Below.setCell ?_ ?_ _ | refine Below.alloc ?_ ?_ _ | refine below_then ?_ ?_ (by with_reducible assumption)
    all_goals first | omega | (simp only [sA, sC, sD, sE]; omega) | (simp; done) | (simp; omega)
end Go.Proofs.YtglngfaagjgpjaaGreatDoor
