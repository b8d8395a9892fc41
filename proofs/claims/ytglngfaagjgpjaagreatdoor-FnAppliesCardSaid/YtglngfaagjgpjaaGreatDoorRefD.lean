/- The reference's Mod. -/
import Derived.Test.YtglngfaagjgpjaaGreatDoorRefC
namespace Go.Proofs.YtglngfaagjgpjaaGreatDoor
open Go Go.RowKit
set_option linter.unusedSimpArgs false
set_option linter.unusedVariables false
set_option maxHeartbeats 2000000 in
theorem r1_Mod (n d m e : Int) (w : World) (hn : I64 n) (hd : I64 d) (hm : I64 m) (he : I64 e) :
    Calls Tryz.prog 101 #[.agg #[.int .i64 n, .int .i64 d], .agg #[.int .i64 m, .int .i64 e]] w fun e' w' => e' = .returned (.tuple #[.agg #[.int .i64 (modN n d m e).n, .int .i64 (modN n d m e).d], .bool (modN n d m e).ok]) ∧ Below w.heap.size w w' := by
  by_cases h0 : (tk m e).n = 0
  · have HF : Hid (modN n d m e = badB) := by unfold Hid modN; rw [if_pos h0]
    have k0 : ((tk m e).n == 0) = true := by simp [h0]
    clear h0
    go_enter Tryz.func101, Tryz.ntmps101
    go_wp2_with fail
    refine (r1_Of _ _ _ hn hd).mono ?_
    rintro e' w1 ⟨rfl, hb⟩
    obtain ⟨s1, c1_0, c1_1, f1⟩ := L2 hb (w.heap.size) (by first | omega | (simp only [sA, sC, sD, sE]; omega) | (simp; done) | (simp; omega)) (by go_simp; exact ⟨rfl, rfl⟩) (by intro o; go_simp)
    obtain ⟨s2, c2_0, c2_1, f2⟩ := L2 hb (w.heap.size + 1) (by first | omega | (simp only [sA, sC, sD, sE]; omega) | (simp; done) | (simp; omega)) (by go_simp; exact ⟨rfl, rfl⟩) (by intro o; go_simp)
    obtain ⟨s3, c3_0, c3_1, f3⟩ := L2 hb (w.heap.size + 1 + 1) (by first | omega | (simp only [sA, sC, sD, sE]; omega) | (simp; done) | (simp; omega)) (by go_simp; exact ⟨rfl, rfl⟩) (by intro o; go_simp)
    go_wp2_with fail
    refine (r1_Of _ _ _ hm he).mono ?_
    rintro e' w2 ⟨rfl, hb2⟩
    obtain ⟨s4, c4_0, c4_1, f4⟩ := L2 hb2 (w.heap.size) (by first | omega | (simp only [sA, sC, sD, sE]; omega) | (simp; done) | (simp; omega)) (by go_simp; exact ⟨rfl, rfl⟩) (by intro o; go_simp)
    obtain ⟨s5, c5_0, c5_1, f5⟩ := L2 hb2 (w.heap.size + 1) (by first | omega | (simp only [sA, sC, sD, sE]; omega) | (simp; done) | (simp; omega)) (by go_simp; exact ⟨rfl, rfl⟩) (by intro o; go_simp)
    obtain ⟨s6, c6_0, c6_1, f6⟩ := L2 hb2 (w.heap.size + 1 + 1) (by first | omega | (simp only [sA, sC, sD, sE]; omega) | (simp; done) | (simp; omega)) (by go_simp; exact ⟨rfl, rfl⟩) (by intro o; go_simp)
    clear c1_0 c1_1 f1 c2_0 c2_1 f2 c3_0 c3_1 f3
    go_wp2
    refine bodyPost_ret (v := .tuple #[.agg #[.int .i64 (modN n d m e).n, .int .i64 (modN n d m e).d], .bool (modN n d m e).ok]) (by rw [HF.out]; simp [results, Tryz.results101, go_sem, c4_0, c4_1, c5_0, c5_1, c6_0, c6_1, badB]) rfl ⟨rfl, ?_⟩
    focus
      repeat with_reducible first | exact Below.refl _ _ | refine below_drewN ?_ _ | refine Below.drew ?_ | refine Below.setCell ?_ ?_ _ | refine Below.alloc ?_ ?_ _ | refine below_then ?_ ?_ (by with_reducible assumption)
      all_goals first | omega | (simp only [sA, sC, sD, sE]; omega) | (simp; done) | (simp; omega)
  have k0 : ((tk m e).n == 0) = false := by simp [h0]
  have p1 := tk_mul n d m e
  have p2 := tk_mul m e n d
  have p3 := tk_muld n d m e
  have HF : Hid (modN n d m e = mk (modI ((tk n d).n * (tk m e).d) ((tk m e).n * (tk n d).d)) ((tk n d).d * (tk m e).d)) := by unfold Hid modN; rw [if_neg h0]
  have hX := tk_wrap n d m e
  have hY := tk_wrap m e n d
  have hD := tk_wrapd n d m e
  have bd := tk_bd n d
  have sg1 : 0 < (tk m e).n → 0 < (tk m e).n * (tk n d).d := fun h => Int.mul_pos h (by omega)
  have sg2 : (tk m e).n < 0 → (tk m e).n * (tk n d).d < 0 := fun h => Int.mul_neg_of_neg_of_pos h (by omega)
  obtain ⟨X, eX⟩ : ∃ X, X = (tk n d).n * (tk m e).d := ⟨_, rfl⟩
  obtain ⟨Y, eY⟩ : ∃ Y, Y = (tk m e).n * (tk n d).d := ⟨_, rfl⟩
  obtain ⟨D, eD⟩ : ∃ D, D = (tk n d).d * (tk m e).d := ⟨_, rfl⟩
  rw [← eX] at p1
  rw [← eY] at p2 sg1 sg2
  rw [← eD] at p3
  rw [← eX, ← eY, ← eD] at HF
  replace hX : IntKind.i64.wrap ((tk n d).n * (tk m e).d) = X := by rw [eX]; exact hX
  replace hY : IntKind.i64.wrap ((tk m e).n * (tk n d).d) = Y := by rw [eY]; exact hY
  replace hD : IntKind.i64.wrap ((tk n d).d * (tk m e).d) = D := by rw [eD]; exact hD
  have HM := Lib.hid fun (R : Int) (hR : I64 R) wx => r1_Make R D wx hR ⟨by omega, by omega⟩
  clear eX eY eD bd
  rcases Int.lt_trichotomy (tk m e).n 0 with hs | hs | hs
  · have hy := sg2 hs
    have ed := Int.mul_ediv_add_emod (-X) (-Y)
    have em := Int.emod_nonneg (-X) (b := -Y) (by omega)
    have em2 := Int.emod_lt_of_pos (-X) (b := -Y) (by omega)
    have eV := modI_neg (x := X) hy
    have HL := fun wx => r1_floored (-X) (-Y) wx (by omega) (by omega) (by omega) (by omega)
    generalize (-X) / (-Y) = q at *
    obtain ⟨P, eP⟩ : ∃ P, P = -Y * q := ⟨_, rfl⟩
    rw [← eP] at ed
    have hw1 : IntKind.i64.wrap (-Y * q) = P := by rw [← eP]; exact w64 (by omega) (by omega)
    have hw2 : IntKind.i64.wrap (-(Y * q)) = P := by rw [← Int.neg_mul]; exact hw1
    have eR : modI X Y = -(-X - P) := by rw [eV]; omega
    have b1 : -1000000000000000000 ≤ -X - P := by omega
    have b2 : -X - P ≤ 1000000000000000000 := by omega
    rw [eR] at HF
    have HM1 := HM.out (-(-X - P)) ⟨by omega, by omega⟩
    rw [← HF.out] at HM1
    have HM2 := Lib.hid HM1
    have HL2 := Lib.hid HL
    have w1 : IntKind.i64.wrap (-X - P) = -X - P := w64 (by omega) (by omega)
    have w2 : IntKind.i64.wrap (-(-X - P)) = -(-X - P) := w64 (by omega) (by omega)
    clear eP ed em em2 eV eR HM1 HL HF HM sg1 sg2 h0
    generalize modN n d m e = Q at *
    go_enter Tryz.func101, Tryz.ntmps101
    go_wp2_with fail
    refine (r1_Of _ _ _ hn hd).mono ?_
    rintro e' w1 ⟨rfl, hb⟩
    obtain ⟨s7, c7_0, c7_1, f7⟩ := L2 hb (w.heap.size) (by first | omega | (simp only [sA, sC, sD, sE]; omega) | (simp; done) | (simp; omega)) (by go_simp; exact ⟨rfl, rfl⟩) (by intro o; go_simp)
    obtain ⟨s8, c8_0, c8_1, f8⟩ := L2 hb (w.heap.size + 1) (by first | omega | (simp only [sA, sC, sD, sE]; omega) | (simp; done) | (simp; omega)) (by go_simp; exact ⟨rfl, rfl⟩) (by intro o; go_simp)
    obtain ⟨s9, c9_0, c9_1, f9⟩ := L2 hb (w.heap.size + 1 + 1) (by first | omega | (simp only [sA, sC, sD, sE]; omega) | (simp; done) | (simp; omega)) (by go_simp; exact ⟨rfl, rfl⟩) (by intro o; go_simp)
    go_wp2_with fail
    refine (r1_Of _ _ _ hm he).mono ?_
    rintro e' w2 ⟨rfl, hb2⟩
    obtain ⟨s10, c10_0, c10_1, f10⟩ := L2 hb2 (w.heap.size) (by first | omega | (simp only [sA, sC, sD, sE]; omega) | (simp; done) | (simp; omega)) (by go_simp; exact ⟨rfl, rfl⟩) (by intro o; go_simp)
    obtain ⟨s11, c11_0, c11_1, f11⟩ := L2 hb2 (w.heap.size + 1) (by first | omega | (simp only [sA, sC, sD, sE]; omega) | (simp; done) | (simp; omega)) (by go_simp; exact ⟨rfl, rfl⟩) (by intro o; go_simp)
    obtain ⟨s12, c12_0, c12_1, f12⟩ := L2 hb2 (w.heap.size + 1 + 1) (by first | omega | (simp only [sA, sC, sD, sE]; omega) | (simp; done) | (simp; omega)) (by go_simp; exact ⟨rfl, rfl⟩) (by intro o; go_simp)
    clear c7_0 c7_1 f7 c8_0 c8_1 f8 c9_0 c9_1 f9
    go_wp2_with fail
    refine (HL2.out _).mono ?_
    rintro e' w3 ⟨rfl, rfl⟩
    go_wp2_with fail
    refine (HM2.out _).mono ?_
    rintro e' w4 ⟨rfl, hb4⟩
    obtain ⟨s13, c13_0, c13_1, f13⟩ := L2 hb4 (w.heap.size + 1 + 1) (by first | omega | (simp only [sA, sC, sD, sE]; omega) | (simp; done) | (simp; omega)) (by go_simp; exact ⟨rfl, rfl⟩) (by intro o; go_simp)
    clear c10_0 c10_1 f10 c11_0 c11_1 f11 c12_0 c12_1 f12
    go_wp2
    refine bodyPost_ret (v := .tuple #[.agg #[.int .i64 (Q).n, .int .i64 (Q).d], .bool (Q).ok]) (by simp [results, Tryz.results101, go_sem, c13_0, c13_1]) rfl ⟨rfl, ?_⟩
    focus
      repeat with_reducible first | exact Below.refl _ _ | refine below_drewN ?_ _ | refine Below.drew ?_ | refine Below.setCell ?_ ?_ _ | refine Below.alloc ?_ ?_ _ | refine below_then ?_ ?_ (by with_reducible assumption)
      all_goals first | omega | (simp only [sA, sC, sD, sE]; omega) | (simp; done) | (simp; omega)
  · exact absurd hs h0
  · have hy := sg1 hs
    have hs' : ¬ (tk m e).n < 0 := by omega
    have hy' : ¬ Y < 0 := by omega
    have ed := Int.mul_ediv_add_emod X Y
    have em := Int.emod_nonneg X (b := Y) (by omega)
    have em2 := Int.emod_lt_of_pos X (b := Y) (by omega)
    have eV := modI_pos (x := X) hy
    have HL := fun wx => r1_floored X Y wx (by omega) (by omega) (by omega) (by omega)
    generalize X / Y = q at *
    obtain ⟨P, eP⟩ : ∃ P, P = Y * q := ⟨_, rfl⟩
    rw [← eP] at ed
    have hw1 : IntKind.i64.wrap (Y * q) = P := by rw [← eP]; exact w64 (by omega) (by omega)
    have eR : modI X Y = X - P := by rw [eV]; omega
    have b1 : -1000000000000000000 ≤ X - P := by omega
    have b2 : X - P ≤ 1000000000000000000 := by omega
    rw [eR] at HF
    have HM1 := HM.out (X - P) ⟨by omega, by omega⟩
    rw [← HF.out] at HM1
    have HM2 := Lib.hid HM1
    have HL2 := Lib.hid HL
    have w1 : IntKind.i64.wrap (X - P) = X - P := w64 (by omega) (by omega)
    clear eP ed em em2 eV eR HM1 HL HF HM sg1 sg2 h0 hs
    generalize modN n d m e = Q at *
    go_enter Tryz.func101, Tryz.ntmps101
    go_wp2_with fail
    refine (r1_Of _ _ _ hn hd).mono ?_
    rintro e' w1 ⟨rfl, hb⟩
    obtain ⟨s14, c14_0, c14_1, f14⟩ := L2 hb (w.heap.size) (by first | omega | (simp only [sA, sC, sD, sE]; omega) | (simp; done) | (simp; omega)) (by go_simp; exact ⟨rfl, rfl⟩) (by intro o; go_simp)
    obtain ⟨s15, c15_0, c15_1, f15⟩ := L2 hb (w.heap.size + 1) (by first | omega | (simp only [sA, sC, sD, sE]; omega) | (simp; done) | (simp; omega)) (by go_simp; exact ⟨rfl, rfl⟩) (by intro o; go_simp)
    obtain ⟨s16, c16_0, c16_1, f16⟩ := L2 hb (w.heap.size + 1 + 1) (by first | omega | (simp only [sA, sC, sD, sE]; omega) | (simp; done) | (simp; omega)) (by go_simp; exact ⟨rfl, rfl⟩) (by intro o; go_simp)
    go_wp2_with fail
    refine (r1_Of _ _ _ hm he).mono ?_
    rintro e' w2 ⟨rfl, hb2⟩
    obtain ⟨s17, c17_0, c17_1, f17⟩ := L2 hb2 (w.heap.size) (by first | omega | (simp only [sA, sC, sD, sE]; omega) | (simp; done) | (simp; omega)) (by go_simp; exact ⟨rfl, rfl⟩) (by intro o; go_simp)
    obtain ⟨s18, c18_0, c18_1, f18⟩ := L2 hb2 (w.heap.size + 1) (by first | omega | (simp only [sA, sC, sD, sE]; omega) | (simp; done) | (simp; omega)) (by go_simp; exact ⟨rfl, rfl⟩) (by intro o; go_simp)
    obtain ⟨s19, c19_0, c19_1, f19⟩ := L2 hb2 (w.heap.size + 1 + 1) (by first | omega | (simp only [sA, sC, sD, sE]; omega) | (simp; done) | (simp; omega)) (by go_simp; exact ⟨rfl, rfl⟩) (by intro o; go_simp)
    clear c14_0 c14_1 f14 c15_0 c15_1 f15 c16_0 c16_1 f16
    go_wp2_with fail
    refine (HL2.out _).mono ?_
    rintro e' w3 ⟨rfl, rfl⟩
    go_wp2_with fail
    refine (HM2.out _).mono ?_
    rintro e' w4 ⟨rfl, hb4⟩
    obtain ⟨s20, c20_0, c20_1, f20⟩ := L2 hb4 (w.heap.size + 1 + 1) (by first | omega | (simp only [sA, sC, sD, sE]; omega) | (simp; done) | (simp; omega)) (by go_simp; exact ⟨rfl, rfl⟩) (by intro o; go_simp)
    clear c17_0 c17_1 f17 c18_0 c18_1 f18 c19_0 c19_1 f19
    go_wp2
    refine bodyPost_ret (v := .tuple #[.agg #[.int .i64 (Q).n, .int .i64 (Q).d], .bool (Q).ok]) (by simp [results, Tryz.results101, go_sem, c20_0, c20_1]) rfl ⟨rfl, ?_⟩
    focus
      repeat with_reducible first | exact Below.refl _ _ | refine below_drewN ?_ _ | refine Below.drew ?_ | refine Below.setCell ?_ ?_ _ | refine Below.alloc ?_ ?_ _ | refine below_then ?_ ?_ (by with_reducible assumption)
      all_goals first | omega | (simp only [sA, sC, sD, sE]; omega) | (simp; done) | (simp; omega)
end Go.Proofs.YtglngfaagjgpjaaGreatDoor
