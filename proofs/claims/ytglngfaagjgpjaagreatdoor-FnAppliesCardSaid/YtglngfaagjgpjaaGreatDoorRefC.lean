/- Walks of the reference's package for numbers, third part: made, Make, powers of ten, Mod. -/
import Derived.Test.YtglngfaagjgpjaaGreatDoorBx2
import Derived.Test.YtglngfaagjgpjaaGreatDoorNumI
namespace Go.Proofs.YtglngfaagjgpjaaGreatDoor
open Go Go.RowKit
set_option linter.unusedSimpArgs false
set_option linter.unusedVariables false
set_option maxHeartbeats 1000000 in
theorem r1_made (b : Bool) (x y : Nat) (w : World) (hx : x ≤ 9223372036854775808) (hy : y ≤ 9223372036854775808) (h0 : 0 < Nat.gcd x y) :
    Calls Tryz.prog 168 #[.bool b, .int .u64 x, .int .u64 y] w fun e w' => e = .returned (.tuple #[.agg #[.int .i64 (signed b (x / Nat.gcd x y) (y / Nat.gcd x y)).n, .int .i64 (signed b (x / Nat.gcd x y) (y / Nat.gcd x y)).d], .bool (signed b (x / Nat.gcd x y) (y / Nat.gcd x y)).ok]) ∧ Below w.heap.size w w' := by
  have hX0 : (x : Int) / ((Nat.gcd x y : Nat) : Int) = ((x / Nat.gcd x y : Nat) : Int) := rfl
  have hY0 : (y : Int) / ((Nat.gcd x y : Nat) : Int) = ((y / Nat.gcd x y : Nat) : Int) := rfl
  have hXl : x / Nat.gcd x y ≤ x := Nat.div_le_self _ _
  have hYl : y / Nat.gcd x y ≤ y := Nat.div_le_self _ _
  have HG := Lib.hid fun wx => r1_gcd x y wx hx hy
  have hgA : Nat.gcd x y ≤ 9223372036854775808 := by
    rcases Nat.eq_zero_or_pos y with h | h
    · subst h; simp; exact hx
    · exact Nat.le_trans (Nat.gcd_le_right _ h) hy
  have hgz : (((Nat.gcd x y : Nat) : Int) == 0) = false := by rw [beq_eq_false_iff_ne]; omega
  generalize x / Nat.gcd x y = X at *
  generalize y / Nat.gcd x y = Y at *
  generalize Nat.gcd x y = G at *
  by_cases hov : 1000000000000 < X ∨ 1000000 < Y
  · have HV : Hid (signed b X Y = badB) := by unfold Hid signed; rw [if_pos hov]
    have hcase : 1000000000000 < X ∨ (¬ 1000000000000 < X ∧ 1000000 < Y) := by omega
    clear hov
    rcases hcase with h | ⟨h, h2⟩
    all_goals
      go_enter Tryz.func168, Tryz.ntmps168
      go_wp2_with fail
      refine (HG.out _).mono ?_
      rintro e w1 ⟨rfl, nq, rfl⟩
      go_wp2
      refine bodyPost_ret (v := .tuple #[.agg #[.int .i64 (signed b X Y).n, .int .i64 (signed b X Y).d], .bool (signed b X Y).ok]) (by rw [HV.out]; simp [results, Tryz.results168, go_sem, badB]) rfl ⟨rfl, ?_⟩
      focus
        repeat with_reducible first | exact Below.refl _ _ | refine below_drewN ?_ _ | refine Below.drew ?_ | refine Below.setCell ?_ ?_ _ | refine Below.alloc ?_ ?_ _ | refine below_then ?_ ?_ (by with_reducible assumption)
        all_goals first | omega | (simp only [sA, sC, sD, sE]; omega) | (simp; done) | (simp; omega)
  · have hX : ¬ 1000000000000 < X := by omega
    have hY : ¬ 1000000 < Y := by omega
    clear hov
    cases b
    all_goals
      have HV : Hid (∀ bb, signed bb X Y = ⟨if bb then -(X : Int) else X, Y, true⟩) := by intro bb; unfold signed; rw [if_neg (by omega)]
      go_enter Tryz.func168, Tryz.ntmps168
      go_wp2_with fail
      refine (HG.out _).mono ?_
      rintro e w1 ⟨rfl, nq, rfl⟩
      go_wp2
      refine bodyPost_ret (by rw [HV.out]; simp [results, Tryz.results168, go_sem]) rfl ⟨rfl, ?_⟩
      focus
        repeat with_reducible first | exact Below.refl _ _ | refine below_drewN ?_ _ | refine Below.drew ?_ | refine Below.setCell ?_ ?_ _ | refine Below.alloc ?_ ?_ _ | refine below_then ?_ ?_ (by with_reducible assumption)
        all_goals first | omega | (simp only [sA, sC, sD, sE]; omega) | (simp; done) | (simp; omega)

set_option maxHeartbeats 1000000 in
theorem r1_Make (n d : Int) (w : World) (hn : I64 n) (hd : I64 d) :
    Calls Tryz.prog 169 #[.int .i64 n, .int .i64 d] w fun e w' => e = .returned (.tuple #[.agg #[.int .i64 (mk n d).n, .int .i64 (mk n d).d], .bool (mk n d).ok]) ∧ Below w.heap.size w w' := by
  by_cases h0 : d = 0
  · have HF : Hid (mk n d = badB) := by unfold Hid mk; rw [if_pos h0]
    subst h0
    go_enter Tryz.func169, Tryz.ntmps169
    go_wp2
    refine bodyPost_ret (v := .tuple #[.agg #[.int .i64 (mk n 0).n, .int .i64 (mk n 0).d], .bool (mk n 0).ok]) (by rw [HF.out]; simp [results, Tryz.results169, go_sem, badB]) rfl ⟨rfl, ?_⟩
    focus
      repeat with_reducible first | exact Below.refl _ _ | refine below_drewN ?_ _ | refine Below.drew ?_ | refine Below.setCell ?_ ?_ _ | refine Below.alloc ?_ ?_ _ | refine below_then ?_ ?_ (by with_reducible assumption)
      all_goals first | omega | (simp only [sA, sC, sD, sE]; omega) | (simp; done) | (simp; omega)
  · have hg : 0 < Nat.gcd n.natAbs d.natAbs := Nat.gcd_pos_of_pos_right _ (by omega)
    have HF : Hid (mk n d = signed (decide (n < 0) != decide (d < 0)) (n.natAbs / Nat.gcd n.natAbs d.natAbs) (d.natAbs / Nat.gcd n.natAbs d.natAbs)) := by unfold Hid mk; rw [if_neg h0]
    have HM : Hid (∀ wx : World, Calls Tryz.prog 168 #[.bool (decide (n < 0) != decide (d < 0)), .int .u64 (n.natAbs : Nat), .int .u64 (d.natAbs : Nat)] wx fun e w' => e = .returned (.tuple #[.agg #[.int .i64 (mk n d).n, .int .i64 (mk n d).d], .bool (mk n d).ok]) ∧ Below wx.heap.size wx w') := by
      intro wx
      rw [HF.out]
      exact r1_made _ _ _ wx (by have := hn.lo; have := hn.hi; omega) (by have := hd.lo; have := hd.hi; omega) hg
    have HS1 := Lib.hid fun wx => r1_far n wx hn
    have HS2 := Lib.hid fun wx => r1_far d wx hd
    have h0b : (d == 0) = false := by simp [h0]
    clear HF hg
    generalize mk n d = R at *
    cases hns : decide (n < 0) <;> cases hds : decide (d < 0)
    all_goals
      rw [hns, hds] at HM
      go_enter Tryz.func169, Tryz.ntmps169
      go_wp2_with fail
      refine (HS1.out _).mono ?_
      rintro e w1 ⟨rfl, rfl⟩
      go_wp2_with fail
      refine (HS2.out _).mono ?_
      rintro e w1 ⟨rfl, rfl⟩
      go_wp2_with fail
      refine (HM.out _).mono ?_
      rintro e w1 ⟨rfl, hb⟩
      obtain ⟨s1, c1_0, c1_1, f1⟩ := L2 hb (w.heap.size) (by first | omega | (simp only [sA, sC, sD, sE]; omega) | (simp; done) | (simp; omega)) (by go_simp; exact ⟨rfl, rfl⟩) (by intro o; go_simp)
      go_wp2
      refine bodyPost_ret (v := .tuple #[.agg #[.int .i64 (R).n, .int .i64 (R).d], .bool R.ok]) (by simp [results, Tryz.results169, go_sem, c1_0, c1_1]) rfl ⟨rfl, ?_⟩
      focus
        repeat with_reducible first | exact Below.refl _ _ | refine below_drewN ?_ _ | refine Below.drew ?_ | refine Below.setCell ?_ ?_ _ | refine Below.alloc ?_ ?_ _ | refine below_then ?_ ?_ (by with_reducible assumption)
        all_goals first | omega | (simp only [sA, sC, sD, sE]; omega) | (simp; done) | (simp; omega)

set_option maxHeartbeats 400000 in
theorem r1_ten (m : Nat) (w : World) (hk1 : m ≤ 12) :
    Calls Tryz.prog 167 #[.int .i64 m] w fun e w' => e = .returned (.int .u64 (pow10 m)) ∧ w = w' := by
  go_enter Tryz.func167, Tryz.ntmps167
  go_wp2
  go_loop [3, 4] (fun x i => ∃ j : Nat, j ≤ m ∧ i = .int .i64 j ∧ x = .int .u64 (pow10 j)) (fun _ i => m - (intOf i).toNat)
  case atStart => exact ⟨0, Nat.zero_le _, rfl, rfl⟩
  case round =>
    obtain ⟨j, hj, rfl, rfl⟩ := hrel
    obtain ⟨b1, b2⟩ := pow10_bd j (by omega)
    have hs := Lib.hid (pow10_succ j)
    by_cases hlt : j < m
    · go_wp2
      go_round
      case rel => exact ⟨j + 1, by omega, by go_num, by rw [hs.out]⟩
      case measure => simp [intOf]; omega
    · obtain rfl : j = m := by omega
      go_wp2
      go_ret
      exact ⟨rfl, rfl⟩

theorem modI_pos {x y : Int} (hy : 0 < y) : modI x y = x % y := by
  have h1 := Int.mul_tdiv_add_tmod x y
  have h2 := Int.mul_ediv_add_emod x y
  have hd : decide (y < 0) = false := decide_eq_false (by omega)
  unfold modI
  rw [hd]
  by_cases hx : x < 0
  · obtain ⟨f1, f2⟩ := tdiv_floor hy hx
    by_cases hr : x.tmod y = 0
    · rw [if_pos hr]
      have e := f2 hr
      rw [e] at h2
      omega
    · have e := f1 hr
      rw [e, Int.mul_sub, Int.mul_one] at h2
      have hp := Int.emod_nonneg x (b := y) (by omega)
      have hq := Int.emod_lt_of_pos x hy
      have hneg : x.tmod y < 0 := by omega
      rw [if_neg hr, if_pos (by simp [hneg])]
      omega
  · have e := Int.tmod_eq_emod_of_nonneg (a := x) (b := y) (by omega)
    have hp := Int.emod_nonneg x (b := y) (by omega)
    rw [e]
    split
    · rfl
    · rw [if_neg (by simp; omega)]
theorem modI_neg {x y : Int} (hy : y < 0) : modI x y = -((-x) % (-y)) := by
  rw [← modI_pos (x := -x) (y := -y) (by omega)]
  have h : (-x).tmod (-y) = -(x.tmod y) := by rw [Int.neg_tmod, Int.tmod_neg]
  unfold modI
  rw [h]
  by_cases hr : x.tmod y = 0
  · simp [hr]
  · have hr' : ¬ -(x.tmod y) = 0 := by omega
    rw [if_neg hr, if_neg hr']
    have h1 : decide (y < 0) = true := decide_eq_true hy
    have h2 : decide (-y < 0) = false := decide_eq_false (by omega)
    rw [h1, h2]
    by_cases hn : x.tmod y < 0
    · have h3 : decide (-(x.tmod y) < 0) = false := decide_eq_false (by omega)
      rw [h3, decide_eq_true hn]
      simp
    · have h3 : decide (-(x.tmod y) < 0) = true := decide_eq_true (by omega)
      rw [h3, decide_eq_false hn]
      simp
      omega
end Go.Proofs.YtglngfaagjgpjaaGreatDoor
