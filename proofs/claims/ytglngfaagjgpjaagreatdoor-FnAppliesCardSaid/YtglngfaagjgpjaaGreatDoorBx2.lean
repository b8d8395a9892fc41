/- Walks of the reference's package for numbers, second part. Walks of package num, sixth part: power, digits, Read. -/
import Derived.Test.YtglngfaagjgpjaaGreatDoorRefA
import Derived.Test.YtglngfaagjgpjaaGreatDoorNumX
import Derived.Test.YtglngfaagjgpjaaGreatDoorBx1
namespace Go.Proofs.YtglngfaagjgpjaaGreatDoor
open Go Go.RowKit
set_option linter.unusedSimpArgs false
set_option linter.unusedVariables false

set_option maxHeartbeats 400000 in
theorem r1_Abs (n d : Int) (w : World) (hn : I64 n) (hd : I64 d) :
    Calls Tryz.prog 93 #[.agg #[.int .i64 n, .int .i64 d]] w fun e w' => e = .returned (.agg #[.int .i64 (absN n d).n, .int .i64 (absN n d).d]) ∧ Below w.heap.size w w' := by
  obtain ⟨b1, b2, b3, b4⟩ := tk_bd n d
  by_cases hneg : (tk n d).n < 0
  · have HF : Hid (absN n d = ⟨-(tk n d).n, (tk n d).d⟩) := by unfold Hid absN; rw [if_pos hneg]
    go_enter Tryz.func93, Tryz.ntmps93
    go_wp2_with fail
    refine (r1_Of _ _ _ hn hd).mono ?_
    rintro e w1 ⟨rfl, hb⟩
    have c3 := lcc hb (w.heap.size) (by (first | omega | (simp only [sz_alloc, sz_setCell, sz_drew, sz_drewN]; omega) | (simp; done) | (simp; omega)))
    have f3 := lcf hb (w.heap.size) (by (first | omega | (simp only [sz_alloc, sz_setCell, sz_drew, sz_drewN]; omega) | (simp; done) | (simp; omega)))
    have s3 := lcs hb (w.heap.size) (by (first | omega | (simp only [sz_alloc, sz_setCell, sz_drew, sz_drewN]; omega) | (simp; done) | (simp; omega)))
    have c4 := lcc hb (w.heap.size + 1) (by (first | omega | (simp only [sz_alloc, sz_setCell, sz_drew, sz_drewN]; omega) | (simp; done) | (simp; omega)))
    have f4 := lcf hb (w.heap.size + 1) (by (first | omega | (simp only [sz_alloc, sz_setCell, sz_drew, sz_drewN]; omega) | (simp; done) | (simp; omega)))
    have s4 := lcs hb (w.heap.size + 1) (by (first | omega | (simp only [sz_alloc, sz_setCell, sz_drew, sz_drewN]; omega) | (simp; done) | (simp; omega)))
    go_wp2
    refine bodyPost_ret (v := .agg #[.int .i64 (absN n d).n, .int .i64 (absN n d).d]) (by rw [HF.out]; simp [results, Tryz.results93, go_sem, c3, c4]) rfl ⟨rfl, ?_⟩
    focus
      repeat with_reducible first | exact Below.refl _ _ | refine below_drewN ?_ _ | refine Below.drew ?_ | refine Below.setCell ?_ ?_ _ | refine Below.alloc ?_ ?_ _ | refine below_then ?_ ?_ (by with_reducible assumption)
      all_goals first | omega | (simp only [sA, sC, sD, sE]; omega) | (simp; done) | (simp; omega)
  · have HF : Hid (absN n d = ⟨(tk n d).n, (tk n d).d⟩) := by unfold Hid absN; rw [if_neg hneg]
    go_enter Tryz.func93, Tryz.ntmps93
    go_wp2_with fail
    refine (r1_Of _ _ _ hn hd).mono ?_
    rintro e w1 ⟨rfl, hb⟩
    have c5 := lcc hb (w.heap.size) (by (first | omega | (simp only [sz_alloc, sz_setCell, sz_drew, sz_drewN]; omega) | (simp; done) | (simp; omega)))
    have f5 := lcf hb (w.heap.size) (by (first | omega | (simp only [sz_alloc, sz_setCell, sz_drew, sz_drewN]; omega) | (simp; done) | (simp; omega)))
    have s5 := lcs hb (w.heap.size) (by (first | omega | (simp only [sz_alloc, sz_setCell, sz_drew, sz_drewN]; omega) | (simp; done) | (simp; omega)))
    have c6 := lcc hb (w.heap.size + 1) (by (first | omega | (simp only [sz_alloc, sz_setCell, sz_drew, sz_drewN]; omega) | (simp; done) | (simp; omega)))
    have f6 := lcf hb (w.heap.size + 1) (by (first | omega | (simp only [sz_alloc, sz_setCell, sz_drew, sz_drewN]; omega) | (simp; done) | (simp; omega)))
    have s6 := lcs hb (w.heap.size + 1) (by (first | omega | (simp only [sz_alloc, sz_setCell, sz_drew, sz_drewN]; omega) | (simp; done) | (simp; omega)))
    go_wp2
    refine bodyPost_ret (v := .agg #[.int .i64 (absN n d).n, .int .i64 (absN n d).d]) (by rw [HF.out]; simp [results, Tryz.results93, go_sem, c5, c6]) rfl ⟨rfl, ?_⟩
    focus
      repeat with_reducible first | exact Below.refl _ _ | refine below_drewN ?_ _ | refine Below.drew ?_ | refine Below.setCell ?_ ?_ _ | refine Below.alloc ?_ ?_ _ | refine below_then ?_ ?_ (by with_reducible assumption)
      all_goals first | omega | (simp only [sA, sC, sD, sE]; omega) | (simp; done) | (simp; omega)

set_option maxHeartbeats 400000 in
theorem r1_Whole (n d : Int) (w : World) (hn : I64 n) (hd : I64 d) :
    Calls Tryz.prog 97 #[.agg #[.int .i64 n, .int .i64 d]] w fun e w' => e = .returned (.tuple #[.int .i64 (wholeN n d), .bool (wholeB n d)]) ∧ Below w.heap.size w w' := by
  obtain ⟨b1, b2, b3, b4⟩ := tk_bd n d
  by_cases h1 : (tk n d).d = 1
  · have HN : Hid (wholeN n d = (tk n d).n) := by unfold Hid wholeN; rw [if_pos h1]
    have HB : Hid (wholeB n d = true) := by unfold Hid wholeB; simp [h1]
    have h1' : ((tk n d).d == 1) = true := by simp [h1]
    have h1'' : ((tk n d).d != 1) = false := by simp [h1]
    clear h1
    go_enter Tryz.func97, Tryz.ntmps97
    go_wp2_with fail
    refine (r1_Of _ _ _ hn hd).mono ?_
    rintro e w1 ⟨rfl, hb⟩
    have c7 := lcc hb (w.heap.size) (by (first | omega | (simp only [sz_alloc, sz_setCell, sz_drew, sz_drewN]; omega) | (simp; done) | (simp; omega)))
    have f7 := lcf hb (w.heap.size) (by (first | omega | (simp only [sz_alloc, sz_setCell, sz_drew, sz_drewN]; omega) | (simp; done) | (simp; omega)))
    have s7 := lcs hb (w.heap.size) (by (first | omega | (simp only [sz_alloc, sz_setCell, sz_drew, sz_drewN]; omega) | (simp; done) | (simp; omega)))
    go_wp2
    go_ret2
    refine ⟨by rw [HN.out, HB.out]; rfl, ?_⟩
    focus
      repeat with_reducible first | exact Below.refl _ _ | refine below_drewN ?_ _ | refine Below.drew ?_ | refine Below.setCell ?_ ?_ _ | refine Below.alloc ?_ ?_ _ | refine below_then ?_ ?_ (by with_reducible assumption)
      all_goals first | omega | (simp only [sA, sC, sD, sE]; omega) | (simp; done) | (simp; omega)
  · have HN : Hid (wholeN n d = 0) := by unfold Hid wholeN; rw [if_neg h1]
    have HB : Hid (wholeB n d = false) := by unfold Hid wholeB; simp [h1]
    have h1' : ((tk n d).d == 1) = false := by simp [h1]
    have h1'' : ((tk n d).d != 1) = true := by simp [h1]
    clear h1
    go_enter Tryz.func97, Tryz.ntmps97
    go_wp2_with fail
    refine (r1_Of _ _ _ hn hd).mono ?_
    rintro e w1 ⟨rfl, hb⟩
    have c8 := lcc hb (w.heap.size) (by (first | omega | (simp only [sz_alloc, sz_setCell, sz_drew, sz_drewN]; omega) | (simp; done) | (simp; omega)))
    have f8 := lcf hb (w.heap.size) (by (first | omega | (simp only [sz_alloc, sz_setCell, sz_drew, sz_drewN]; omega) | (simp; done) | (simp; omega)))
    have s8 := lcs hb (w.heap.size) (by (first | omega | (simp only [sz_alloc, sz_setCell, sz_drew, sz_drewN]; omega) | (simp; done) | (simp; omega)))
    go_wp2
    go_ret2
    refine ⟨by rw [HN.out, HB.out]; rfl, ?_⟩
    focus
      repeat with_reducible first | exact Below.refl _ _ | refine below_drewN ?_ _ | refine Below.drew ?_ | refine Below.setCell ?_ ?_ _ | refine Below.alloc ?_ ?_ _ | refine below_then ?_ ?_ (by with_reducible assumption)
      all_goals first | omega | (simp only [sA, sC, sD, sE]; omega) | (simp; done) | (simp; omega)

set_option maxHeartbeats 400000 in
theorem r1_Cmp (n d m e : Int) (w : World) (hn : I64 n) (hd : I64 d) (hm : I64 m) (he : I64 e) :
    Calls Tryz.prog 95 #[.agg #[.int .i64 n, .int .i64 d], .agg #[.int .i64 m, .int .i64 e]] w fun e' w' => e' = .returned (.int .i64 (cmpN n d m e)) ∧ Below w.heap.size w w' := by
  have HF : Hid (cmpN n d m e = cmpI ((tk n d).n * (tk m e).d) ((tk m e).n * (tk n d).d)) := rfl
  have hw1 := tk_wrap n d m e
  have hw2 := tk_wrap m e n d
  rcases Int.lt_trichotomy ((tk n d).n * (tk m e).d) ((tk m e).n * (tk n d).d) with h | h | h
  all_goals
    have HC : Hid (cmpI ((tk n d).n * (tk m e).d) ((tk m e).n * (tk n d).d) = cmpN n d m e) := rfl
    have g1 : ¬ (tk m e).n * (tk n d).d < (tk n d).n * (tk m e).d ∨ (tk m e).n * (tk n d).d < (tk n d).n * (tk m e).d := Classical.em _ |>.symm
    have HH := Lib.hid h
    have k1 : ((tk n d).n * (tk m e).d < (tk m e).n * (tk n d).d) ∨ ¬ ((tk n d).n * (tk m e).d < (tk m e).n * (tk n d).d) := Classical.em _
    clear h
    have hx := HH.out
    rcases k1 with k1 | k1 <;> rcases g1 with g1 | g1 <;> try (exfalso; omega)
    clear hx
    go_enter Tryz.func95, Tryz.ntmps95
    go_wp2_with fail
    refine (r1_Of _ _ _ hn hd).mono ?_
    rintro e' w1 ⟨rfl, hb⟩
    obtain ⟨s9, c9_0, c9_1, f9⟩ := L2 hb (w.heap.size) (by first | omega | (simp only [sA, sC, sD, sE]; omega) | (simp; done) | (simp; omega)) (by go_simp; exact ⟨rfl, rfl⟩) (by intro o; go_simp)
    obtain ⟨s10, c10_0, c10_1, f10⟩ := L2 hb (w.heap.size + 1) (by first | omega | (simp only [sA, sC, sD, sE]; omega) | (simp; done) | (simp; omega)) (by go_simp; exact ⟨rfl, rfl⟩) (by intro o; go_simp)
    go_wp2_with fail
    refine (r1_Of _ _ _ hm he).mono ?_
    rintro e' w2 ⟨rfl, hb2⟩
    obtain ⟨s11, c11_0, c11_1, f11⟩ := L2 hb2 (w.heap.size) (by first | omega | (simp only [sA, sC, sD, sE]; omega) | (simp; done) | (simp; omega)) (by go_simp; exact ⟨rfl, rfl⟩) (by intro o; go_simp)
    obtain ⟨s12, c12_0, c12_1, f12⟩ := L2 hb2 (w.heap.size + 1) (by first | omega | (simp only [sA, sC, sD, sE]; omega) | (simp; done) | (simp; omega)) (by go_simp; exact ⟨rfl, rfl⟩) (by intro o; go_simp)
    clear c9_0 c9_1 f9 c10_0 c10_1 f10
    go_wp2
    go_ret
    refine ⟨by rw [HF.out]; unfold cmpI; (repeat' split) <;> first | rfl | omega, ?_⟩
    focus
      repeat with_reducible first | exact Below.refl _ _ | refine below_drewN ?_ _ | refine Below.drew ?_ | refine Below.setCell ?_ ?_ _ | refine Below.alloc ?_ ?_ _ | refine below_then ?_ ?_ (by with_reducible assumption)
      all_goals first | omega | (simp only [sA, sC, sD, sE]; omega) | (simp; done) | (simp; omega)

set_option maxHeartbeats 400000 in
theorem r1_floored (n d : Int) (w : World) (hn0 : -1000000000000000000 ≤ n) (hn1 : n ≤ 1000000000000000000) (hd0 : 0 < d) (hd1 : d ≤ 1000000000000000000) :
    Calls Tryz.prog 165 #[.int .i64 n, .int .i64 d] w fun e w' => e = .returned (.int .i64 (n / d)) ∧ w = w' := by
  have hdz : (d == 0) = false := by rw [beq_eq_false_iff_ne]; omega
  have hdb : decide (d < 0) = false := decide_eq_false (by omega)
  have em := Int.emod_nonneg n (b := d) (by omega)
  have em2 := Int.emod_lt_of_pos n hd0
  have ed : d * (n / d) + n % d = n := Int.mul_ediv_add_emod n d
  by_cases hn : n < 0
  · obtain ⟨f1, f2⟩ := tdiv_floor hd0 hn
    obtain ⟨q1, q2⟩ := ediv_bd hd0 hn0 hn1 (by omega)
    by_cases hr : n.tmod d = 0
    · have HQ := Lib.hid (f2 hr)
      have hP : n.tdiv d * d = n := by
        have h := Int.mul_tdiv_add_tmod n d
        rw [hr] at h
        rw [Int.mul_comm]
        omega
      have hw : wrap64 (n.tdiv d * d) = n.tdiv d * d := by rw [hP]; exact IntWalk.wrap64_in _ ⟨by omega, by omega⟩
      have hlt : ¬ n < n.tdiv d * d := by rw [hP]; omega
      rw [f2 hr] at q1 q2
      clear f1 f2 hr hP em em2 ed
      go_enter Tryz.func165, Tryz.ntmps165
      go_wp2
      go_ret
      exact ⟨by rw [HQ.out]; rfl, rfl⟩
    · have HQ := Lib.hid (f1 hr)
      have hP : n.tdiv d * d = n - n % d + d := by
        have e : n.tdiv d = n / d + 1 := by have := f1 hr; omega
        rw [e, Int.add_mul, Int.one_mul, Int.mul_comm]
        omega
      have hw : wrap64 (n.tdiv d * d) = n.tdiv d * d := by rw [hP]; exact IntWalk.wrap64_in _ ⟨by omega, by omega⟩
      have hlt : n < n.tdiv d * d := by rw [hP]; omega
      rw [f1 hr] at q1 q2
      clear f1 f2 hr hP em em2 ed
      go_enter Tryz.func165, Tryz.ntmps165
      go_wp2
      go_ret
      exact ⟨by rw [HQ.out]; rfl, rfl⟩
  · have hn' : 0 ≤ n := by omega
    have hP : n / d * d = n - n % d := by rw [Int.mul_comm]; omega
    have hw : wrap64 (n / d * d) = n / d * d := by rw [hP]; exact IntWalk.wrap64_in _ ⟨by omega, by omega⟩
    have hlt : ¬ n < n / d * d := by rw [hP]; omega
    clear hn hP em em2 ed
    go_enter Tryz.func165, Tryz.ntmps165
    go_wp2
    all_goals
      go_ret
      exact ⟨rfl, rfl⟩

set_option maxHeartbeats 400000 in
theorem r1_Floor (n d : Int) (w : World) (hn : I64 n) (hd : I64 d) :
    Calls Tryz.prog 96 #[.agg #[.int .i64 n, .int .i64 d]] w fun e w' => e = .returned (.agg #[.int .i64 (floorN n d).n, .int .i64 (floorN n d).d]) ∧ Below w.heap.size w w' := by
  have HF : Hid (floorN n d = ⟨(tk n d).n / (tk n d).d, 1⟩) := rfl
  obtain ⟨b1, b2, b3, b4⟩ := tk_bd n d
  have HL := Lib.hid fun wx => r1_floored (tk n d).n (tk n d).d wx (by omega) (by omega) (by omega) (by omega)
  go_enter Tryz.func96, Tryz.ntmps96
  go_wp2_with fail
  refine (r1_Of _ _ _ hn hd).mono ?_
  rintro e w1 ⟨rfl, hb⟩
  have c13 := lcc hb (w.heap.size) (by (first | omega | (simp only [sz_alloc, sz_setCell, sz_drew, sz_drewN]; omega) | (simp; done) | (simp; omega)))
  have f13 := lcf hb (w.heap.size) (by (first | omega | (simp only [sz_alloc, sz_setCell, sz_drew, sz_drewN]; omega) | (simp; done) | (simp; omega)))
  have s13 := lcs hb (w.heap.size) (by (first | omega | (simp only [sz_alloc, sz_setCell, sz_drew, sz_drewN]; omega) | (simp; done) | (simp; omega)))
  have c14 := lcc hb (w.heap.size + 1) (by (first | omega | (simp only [sz_alloc, sz_setCell, sz_drew, sz_drewN]; omega) | (simp; done) | (simp; omega)))
  have f14 := lcf hb (w.heap.size + 1) (by (first | omega | (simp only [sz_alloc, sz_setCell, sz_drew, sz_drewN]; omega) | (simp; done) | (simp; omega)))
  have s14 := lcs hb (w.heap.size + 1) (by (first | omega | (simp only [sz_alloc, sz_setCell, sz_drew, sz_drewN]; omega) | (simp; done) | (simp; omega)))
  go_wp2_with fail
  refine (HL.out _).mono ?_
  rintro e w2 ⟨rfl, rfl⟩
  go_wp2
  refine bodyPost_ret (v := .agg #[.int .i64 (floorN n d).n, .int .i64 (floorN n d).d]) (by rw [HF.out]; simp [results, Tryz.results96, go_sem, c13, c14]) rfl ⟨rfl, ?_⟩
  focus
    repeat with_reducible first | exact Below.refl _ _ | refine below_drewN ?_ _ | refine Below.drew ?_ | refine Below.setCell ?_ ?_ _ | refine Below.alloc ?_ ?_ _ | refine below_then ?_ ?_ (by with_reducible assumption)
    all_goals first | omega | (simp only [sA, sC, sD, sE]; omega) | (simp; done) | (simp; omega)
end Go.Proofs.YtglngfaagjgpjaaGreatDoor
namespace Go.Proofs.YtglngfaagjgpjaaGreatDoor
open Go.RowKit
set_option linter.unusedSimpArgs false
set_option linter.unusedVariables false

theorem pow10_bd (k : Nat) (h : k ≤ 12) : 1 ≤ pow10 k ∧ pow10 k ≤ 1000000000000 := by
  unfold pow10
  have h1 : 10 ^ k ≤ 10 ^ 12 := Nat.pow_le_pow_right (by omega) h
  have h2 : 0 < 10 ^ k := Nat.pow_pos (by omega)
  have h3 : (10 : Nat) ^ 12 = 1000000000000 := by decide
  omega
theorem pow10_succ (k : Nat) : pow10 (k + 1) = pow10 k * 10 := by
  unfold pow10
  rw [Nat.pow_succ]
  omega
set_option maxHeartbeats 400000 in
theorem num_power (m : Nat) (w : World) (hk1 : m ≤ 12) :
    Calls Tryz.prog 150 #[.int .i64 m] w fun e w' => e = .returned (.int .i64 (pow10 m)) ∧ w = w' := by
  go_enter Tryz.func150, Tryz.ntmps150
  go_wp2
  go_loop [3, 5] (fun x i => ∃ j : Nat, j ≤ m ∧ i = .int .i64 j ∧ x = .int .i64 (pow10 j)) (fun _ i => m - (intOf i).toNat)
  case atStart => exact ⟨0, Nat.zero_le _, rfl, rfl⟩
  case round =>
    obtain ⟨j, hj, rfl, rfl⟩ := hrel
    obtain ⟨b1, b2⟩ := pow10_bd j (by omega)
    have hs := Lib.hid (pow10_succ j)
    by_cases hlt : j < m
    · go_wp2
      go_round
      case rel => exact ⟨j + 1, by omega, by go_num, by rw [hs.out]⟩
      case measure => simp [intOf]; omega
    · obtain rfl : j = m := by omega
      go_wp2
      go_ret
      exact ⟨rfl, rfl⟩

set_option maxHeartbeats 800000 in
theorem num_digits (s : ByteArray) (w : World) (hs : s.size ≤ 140737488351232) :
    Calls Tryz.prog 180 #[.string s] w fun e w' => e = .returned (.tuple #[.int .i64 (digits s.data.toList).n, .string (txt (digits s.data.toList).rest), .bool (digits s.data.toList).ok]) ∧ ∃ n, w' = w.drewN n := by
  go_enter Tryz.func180, Tryz.ntmps180
  go_wp2
  go_loop [2, 5] (fun x i => ∃ (k : Nat) (n : Int), k ≤ s.size ∧ 0 ≤ n ∧ n ≤ 1000000000000000000 ∧ i = .int .i64 k ∧ x = .int .i64 n ∧ Hid (digits s.data.toList = dg n (decide (0 < k)) (s.data.toList.drop k))) (fun _ i => s.size - (intOf i).toNat)
  case atStart => exact ⟨0, 0, Nat.zero_le _, by omega, by omega, rfl, rfl, rfl⟩
  case round =>
    obtain ⟨k, n, hk, hn0, hn1, rfl, rfl, HD⟩ := hrel
    by_cases hlt : k < s.size
    · have hc := drop_cons s k hlt
      have HE : Hid (digits s.data.toList = dg n (decide (0 < k)) (s[k] :: s.data.toList.drop (k + 1))) := by have := HD.out; rwa [hc] at this
      clear HD hc
      by_cases h1 : 48 ≤ (s[k].toNat : Int)
      · by_cases h2 : (s[k].toNat : Int) ≤ 57
        · by_cases h3 : (1000000000000000000 - ((s[k].toNat : Int) - 48)) / 10 < n
          · have HV : Hid (digits s.data.toList = ⟨0, [], false⟩) := by unfold Hid; rw [HE.out]; unfold dg; rw [if_pos ⟨h1, h2⟩, if_pos h3]
            go_wp2
            go_ret3
            rw [HV.out]
            exact ⟨rfl, 0, rfl⟩
          · have HV : Hid (digits s.data.toList = dg (10 * n + ((s[k].toNat : Int) - 48)) true (s.data.toList.drop (k + 1))) := by unfold Hid; rw [HE.out]; conv => lhs; unfold dg; rw [if_pos ⟨h1, h2⟩, if_neg h3]
            have e1 : 10 * n + ((s[k].toNat : Int) - 48) ≤ 1000000000000000000 := by omega
            go_wp2
            go_round
            case rel => exact ⟨k + 1, _, by omega, by omega, e1, by go_num, rfl, by unfold Hid; rw [HV.out]; simp⟩
            case measure => simp [intOf]; omega
        · have HV : Hid (digits s.data.toList = ⟨n, s.data.toList.drop k, decide (0 < k)⟩) := by unfold Hid; rw [HE.out]; unfold dg; rw [if_neg (fun h => h2 h.2), ← drop_cons s k hlt]
          go_wp2
          go_quiet (fail)
          go_wp2
          go_ret3
          rw [HV.out, ← txt_drop]
          exact ⟨rfl, nq, rfl⟩
      · have HV : Hid (digits s.data.toList = ⟨n, s.data.toList.drop k, decide (0 < k)⟩) := by unfold Hid; rw [HE.out]; unfold dg; rw [if_neg (fun h => h1 h.1), ← drop_cons s k hlt]
        go_wp2
        go_quiet (fail)
        go_wp2
        go_ret3
        rw [HV.out, ← txt_drop]
        exact ⟨rfl, nq, rfl⟩
    · obtain rfl : k = s.size := by omega
      have HV : Hid (digits s.data.toList = ⟨n, [], decide (0 < s.size)⟩) := by
        unfold Hid; rw [HD.out, List.drop_of_length_le (by simp)]; rfl
      go_wp2
      go_quiet (fail)
      go_wp2
      go_ret3
      rw [HV.out]
      exact ⟨rfl, nq, rfl⟩
end Go.Proofs.YtglngfaagjgpjaaGreatDoor
