/- Walks of the reference's package for numbers: piece, Read. -/
import Derived.Test.YtglngfaagjgpjaaGreatDoorRefE
import Derived.Test.YtglngfaagjgpjaaGreatDoorNumG
import Derived.Deep.Cut
import Derived.Deep.CutBlock
namespace Go.Proofs.YtglngfaagjgpjaaGreatDoor
open Go Go.RowKit
set_option linter.unusedSimpArgs false
set_option linter.unusedVariables false
theorem dg_suffix : ∀ (l : List UInt8) (n : Int) (any : Bool), (dg n any l).ok = true → ∃ p, l = p ++ (dg n any l).rest
  | [], n, any, _ => ⟨[], rfl⟩
  | c :: l, n, any, h => by
    unfold dg at h ⊢
    split
    · rename_i h1
      rw [if_pos h1] at h
      split
      · rename_i h2
        rw [if_pos h2] at h; cases h
      · rename_i h2
        rw [if_neg h2] at h
        obtain ⟨p, hp⟩ := dg_suffix l _ _ h
        exact ⟨c :: p, by rw [List.cons_append, ← hp]⟩
    · exact ⟨[], rfl⟩
theorem digits_drop {l : List UInt8} (h : (digits l).ok = true) : l.drop (l.length - (digits l).rest.length) = (digits l).rest := by
  obtain ⟨p, hp⟩ := dg_suffix l 0 false h
  change l = p ++ (digits l).rest at hp
  generalize (digits l).rest = r at *
  subst hp
  simp
theorem mk_sgn (m : Bool) (n d : Int) (h : 0 ≤ n) : mk (if (m && decide (0 < n)) = true then -n else n) d = mk (sgn m n) d := by
  unfold sgn
  cases m
  · simp
  · by_cases h0 : 0 < n
    · simp [h0]
    · have : n = 0 := by omega
      subst this; simp
theorem r1_madeI (b : Bool) (x y : Int) (w : World) (hx0 : 0 ≤ x) (hx : x ≤ 9223372036854775807) (hy0 : 0 < y) (hy : y ≤ 9223372036854775807) :
    Calls Tryz.prog 168 #[.bool b, .int .u64 x, .int .u64 y] w fun e w' => e = .returned (.tuple #[.agg #[.int .i64 (mk (if b then -x else x) y).n, .int .i64 (mk (if b then -x else x) y).d], .bool (mk (if b then -x else x) y).ok]) ∧ Below w.heap.size w w' := by
  obtain ⟨X, rfl⟩ : ∃ X : Nat, x = X := ⟨x.toNat, by omega⟩
  obtain ⟨Y, rfl⟩ : ∃ Y : Nat, y = Y := ⟨y.toNat, by omega⟩
  have hY : 0 < Y := by omega
  rw [mk_signed b X Y hY]
  exact r1_made b X Y w (by omega) (by omega) (Nat.gcd_pos_of_pos_right _ hY)
/-- made, of a sign that counts with numbers above 0 alone. -/
theorem r1_madeS (m : Bool) (x y : Int) (w : World) (hx0 : 0 ≤ x) (hx : x ≤ 9223372036854775807) (hy0 : 0 < y) (hy : y ≤ 9223372036854775807) :
    Calls Tryz.prog 168 #[.bool (m && decide (0 < x)), .int .u64 x, .int .u64 y] w fun e w' => e = .returned (.tuple #[.agg #[.int .i64 (mk (sgn m x) y).n, .int .i64 (mk (sgn m x) y).d], .bool (mk (sgn m x) y).ok]) ∧ Below w.heap.size w w' := by
  rw [← mk_sgn m x y hx0]
  exact r1_madeI _ x y w hx0 hx hy0 hy
structure PcOk (s : ByteArray) (l : List UInt8) (n i : Int) : Prop where
  hn : (digits l).ok = true → n = (digits l).n
  hi : (digits l).ok = true → i = (s.size : Int) - ((digits l).rest.length : Int)
  n0 : 0 ≤ n
  n1 : n ≤ 1000000000000000000
set_option maxRecDepth 100000 in
set_option maxHeartbeats 1000000 in
theorem r1_piece (s : ByteArray) (p : Nat) (w : World) (hs : s.size ≤ 140737488351232) (hp : p ≤ s.size) :
    Calls Tryz.prog 198 #[.string s, .int .i64 p] w fun e w' => (∃ n i : Int, e = .returned (.tuple #[.int .u64 n, .int .i64 i, .bool (digits (s.data.toList.drop p)).ok]) ∧ PcOk s (s.data.toList.drop p) n i) ∧ w = w' := by
  have HL : Hid (∀ k, k ≤ s.size → (s.data.toList.drop k).length = s.size - k) := fun k hk => by rw [List.length_drop]; simp
  obtain ⟨T, hT⟩ : ∃ T, T = s.data.toList.drop p := ⟨_, rfl⟩
  rw [← hT]
  have H0 : Hid (digits T = dg 0 (decide (p < p)) (s.data.toList.drop p)) := by unfold Hid; rw [hT]; simp [digits]
  clear hT
  go_enter Tryz.func198, Tryz.ntmps198
  go_wp2
  go_loop [7, 8] (fun x i => ∃ (k : Nat) (n : Int), p ≤ k ∧ k ≤ s.size ∧ 0 ≤ n ∧ n ≤ 1000000000000000000 ∧ i = .int .i64 k ∧ x = .int .u64 n ∧ Hid (digits T = dg n (decide (p < k)) (s.data.toList.drop k))) (fun _ i => s.size - (intOf i).toNat)
  case atStart => exact ⟨p, 0, Nat.le_refl _, hp, by omega, by omega, rfl, rfl, H0⟩
  case round =>
    clear H0
    obtain ⟨k, n, hpk, hk, hn0, hn1, rfl, rfl, HD⟩ := hrel
    by_cases hlt : k < s.size
    · have hc := drop_cons s k hlt
      have HE : Hid (digits T = dg n (decide (p < k)) (s[k] :: s.data.toList.drop (k + 1))) := by have := HD.out; rwa [hc] at this
      clear HD hc
      by_cases h1 : 48 ≤ (s[k].toNat : Int)
      · by_cases h2 : (s[k].toNat : Int) ≤ 57
        · by_cases h3 : (1000000000000000000 - ((s[k].toNat : Int) - 48)) / 10 < n
          · have HV : Hid (digits T = ⟨0, [], false⟩) := by unfold Hid; rw [HE.out]; unfold dg; rw [if_pos ⟨h1, h2⟩, if_pos h3]
            have HP : Hid (PcOk s T 0 0) := ⟨(fun h => by rw [HV.out] at h; exact Bool.noConfusion h), (fun h => by rw [HV.out] at h; exact Bool.noConfusion h), by omega, by omega⟩
            have wu : IntKind.u64.wrap (n * 10) = n * 10 := by rw [IntKind.wrap_u64]; omega
            have wu2 : IntKind.u64.wrap (n * 10 + ((s[k].toNat : Int) - 48)) = n * 10 + ((s[k].toNat : Int) - 48) := by rw [IntKind.wrap_u64]; omega
            by_cases h4 : 100000000000000000 < n
            · go_wp2
              go_ret3
              exact ⟨⟨0, 0, by rw [HV.out]; rfl, HP.out⟩, rfl⟩
            · have h5 : 1000000000000000000 < n * 10 + ((s[k].toNat : Int) - 48) := by omega
              clear h3
              go_wp2
              go_ret3
              exact ⟨⟨0, 0, by rw [HV.out]; rfl, HP.out⟩, rfl⟩
          · have HV : Hid (digits T = dg (n * 10 + ((s[k].toNat : Int) - 48)) true (s.data.toList.drop (k + 1))) := by unfold Hid; rw [HE.out]; conv => lhs; unfold dg; rw [if_pos ⟨h1, h2⟩, if_neg h3, Int.mul_comm]
            have e1 : n * 10 + ((s[k].toNat : Int) - 48) ≤ 1000000000000000000 := by omega
            have h4 : ¬ 100000000000000000 < n := by omega
            have h5 : ¬ 1000000000000000000 < n * 10 + ((s[k].toNat : Int) - 48) := by omega
            clear h3
            go_wp2
            go_round
            case rel => exact ⟨k + 1, _, by omega, by omega, by omega, e1, by go_num, rfl, by unfold Hid; rw [HV.out, decide_eq_true (show p < k + 1 by omega)]⟩
            case measure => simp [intOf]; omega
        · have HV : Hid (digits T = ⟨n, s.data.toList.drop k, decide (p < k)⟩) := by unfold Hid; rw [HE.out]; unfold dg; rw [if_neg (fun h => h2 h.2), ← drop_cons s k hlt]
          have HP : Hid (PcOk s T n k) := ⟨fun _ => by rw [HV.out], fun _ => by rw [HV.out]; simp only [HL.out k hk]; omega, hn0, hn1⟩
          go_wp2
          go_ret3
          exact ⟨⟨n, k, by rw [HV.out]; rfl, HP.out⟩, rfl⟩
      · have HV : Hid (digits T = ⟨n, s.data.toList.drop k, decide (p < k)⟩) := by unfold Hid; rw [HE.out]; unfold dg; rw [if_neg (fun h => h1 h.1), ← drop_cons s k hlt]
        have HP : Hid (PcOk s T n k) := ⟨fun _ => by rw [HV.out], fun _ => by rw [HV.out]; simp only [HL.out k hk]; omega, hn0, hn1⟩
        go_wp2
        go_ret3
        exact ⟨⟨n, k, by rw [HV.out]; rfl, HP.out⟩, rfl⟩
    · obtain rfl : k = s.size := by omega
      have HV : Hid (digits T = ⟨n, [], decide (p < s.size)⟩) := by
        unfold Hid; rw [HD.out, List.drop_of_length_le (by simp)]; rfl
      have HP : Hid (PcOk s T n s.size) := ⟨fun _ => by rw [HV.out], fun _ => by rw [HV.out]; simp, hn0, hn1⟩
      go_wp2
      go_ret3
      exact ⟨⟨n, _, by rw [HV.out]; rfl, HP.out⟩, rfl⟩
theorem piece_no (s : ByteArray) (p : Nat) (w : World) (hs : s.size ≤ 140737488351232) (hp : p ≤ s.size) (h : (digits (s.data.toList.drop p)).ok = false) :
    Calls Tryz.prog 198 #[.string s, .int .i64 p] w fun e w' => (∃ n i : Int, e = .returned (.tuple #[.int .u64 n, .int .i64 i, .bool false])) ∧ w = w' := by
  refine (r1_piece s p w hs hp).mono ?_
  rintro e w' ⟨⟨n, i, rfl, _⟩, hw⟩
  exact ⟨⟨n, i, by rw [h]⟩, hw⟩
theorem piece_ok (s : ByteArray) (p k : Nat) (w : World) (hs : s.size ≤ 140737488351232) (hp : p ≤ s.size) (h : (digits (s.data.toList.drop p)).ok = true) (hk : (k : Int) = (s.size : Int) - ((digits (s.data.toList.drop p)).rest.length : Int)) :
    Calls Tryz.prog 198 #[.string s, .int .i64 p] w fun e w' => e = .returned (.tuple #[.int .u64 (digits (s.data.toList.drop p)).n, .int .i64 k, .bool true]) ∧ w = w' := by
  refine (r1_piece s p w hs hp).mono ?_
  rintro e w' ⟨⟨n, i, rfl, hP⟩, hw⟩
  refine ⟨?_, hw⟩
  rw [h, hP.hn h, hP.hi h, hk]
theorem sign_of (s : ByteArray) : ∃ (m : Bool) (p : Nat), Lib.hasPrefix s.data.toList [45] = m ∧ (p : Int) = (bif m then 1 else 0) ∧ p ≤ s.size ∧ Lib.trimPrefix s.data.toList [45] = s.data.toList.drop p ∧ ((s.size = 0 ∧ m = false) ∨ ∃ h : 0 < s.size, m = ((s[0].toNat : Int) == 45)) := by
  have hl : s.data.toList.length = s.size := by simp
  by_cases h : 0 < s.size
  · have hc := drop_cons s 0 h
    rw [List.drop_zero] at hc
    have e : Lib.hasPrefix s.data.toList [45] = (s[0] == 45) := by
      rw [hc]
      show ((45 : UInt8) == s[0] && true) = _
      rw [Bool.and_true, BEq.comm]
    have e2 : (s[0] == 45) = ((s[0].toNat : Int) == 45) := by
      rw [Bool.eq_iff_iff]
      simp only [beq_iff_eq]
      constructor
      · intro h; rw [h]; rfl
      · intro h; exact UInt8.toNat_inj.1 (by have : s[0].toNat = 45 := by omega
                                             rw [this]; rfl)
    cases hm : (s[0] == 45)
    · refine ⟨false, 0, by rw [e, hm], rfl, by omega, ?_, .inr ⟨h, by rw [← e2, hm]⟩⟩
      unfold Lib.trimPrefix
      rw [e, hm]; rfl
    · refine ⟨true, 1, by rw [e, hm], rfl, by omega, ?_, .inr ⟨h, by rw [← e2, hm]⟩⟩
      unfold Lib.trimPrefix
      rw [e, hm]; rfl
  · have h0 : s.data.toList = [] := List.length_eq_zero_iff.1 (by omega)
    refine ⟨false, 0, by rw [h0]; rfl, rfl, by omega, by rw [h0]; rfl, .inl ⟨by omega, rfl⟩⟩
set_option maxRecDepth 100000 in
set_option maxHeartbeats 1000000 in
theorem read_no (s : ByteArray) (m : Bool) (p : Nat) (Res : NmB) (w : World) (hs : s.size ≤ 140737488351232) (hm3 : (s.size = 0 ∧ m = false) ∨ ∃ h : 0 < s.size, m = ((s[0].toNat : Int) == 45)) (HP : Hid (∀ wx : World, Calls Tryz.prog 198 #[.string s, .int .i64 (bif m then 1 else 0)] wx fun e w' => (∃ n i : Int, e = .returned (.tuple #[.int .u64 n, .int .i64 i, .bool false])) ∧ wx = w')) (HF : Hid (Res = badB)) :
    Calls Tryz.prog 157 #[.string s] w fun e w' => e = .returned (.tuple #[.agg #[.int .i64 (Res).n, .int .i64 (Res).d], .bool Res.ok]) ∧ Below w.heap.size w w' := by
  go_enter Tryz.func157, Tryz.ntmps157
  go_upto_region 2 with (fail)
  go_cut [5] from 13 to 20 (fun y wx => y = .bool m ∧ wx = w.alloc (.cells #[.int .i64 0, .int .i64 0] 24))
  case first =>
    rcases hm3 with ⟨h, rfl⟩ | ⟨h, rfl⟩
    all_goals
      go_wp2
      go_meet
      exact ⟨rfl, rfl⟩
  case rest =>
    obtain ⟨rfl, rfl⟩ := hcut
    clear hm3
    cases m
    all_goals
      go_wp2_with fail
      refine (HP.out _).mono ?_
      rintro e wB ⟨⟨n', i', rfl⟩, rfl⟩
      go_wp2
      refine bodyPost_ret (v := .tuple #[.agg #[.int .i64 (Res).n, .int .i64 (Res).d], .bool Res.ok]) (by rw [HF.out]; simp [results, Tryz.results157, go_sem, badB]) rfl ⟨rfl, ?_⟩
      focus
        repeat with_reducible first | exact Below.refl _ _ | refine below_drewN ?_ _ | refine Below.drew ?_ | refine Below.setCell ?_ ?_ _ | refine Below.alloc ?_ ?_ _ | refine below_then ?_ ?_ (by with_reducible assumption)
        all_goals first | omega | (simp only [sA, sC, sD, sE]; omega) | (simp; done) | (simp; omega)
set_option maxRecDepth 100000 in
set_option maxHeartbeats 1000000 in
theorem read_whole (s : ByteArray) (m : Bool) (p : Nat) (Res : NmB) (w : World) (hs : s.size ≤ 140737488351232) (hm3 : (s.size = 0 ∧ m = false) ∨ ∃ h : 0 < s.size, m = ((s[0].toNat : Int) == 45)) (n : Int) (k : Nat) (n0 : 0 ≤ n) (n1 : n ≤ 1000000000000000000) (HP : Hid (∀ wx : World, Calls Tryz.prog 198 #[.string s, .int .i64 (bif m then 1 else 0)] wx fun e w' => e = .returned (.tuple #[.int .u64 n, .int .i64 k, .bool true]) ∧ wx = w')) (hk : k = s.size) (R : NmB) (HM : Hid (∀ wx : World, Calls Tryz.prog 168 #[.bool (m && decide (0 < n)), .int .u64 (n), .int .u64 (1)] wx fun e w' => e = .returned (.tuple #[.agg #[.int .i64 (R).n, .int .i64 (R).d], .bool R.ok]) ∧ Below wx.heap.size wx w')) (HF : Hid (Res = R)) :
    Calls Tryz.prog 157 #[.string s] w fun e w' => e = .returned (.tuple #[.agg #[.int .i64 (Res).n, .int .i64 (Res).d], .bool Res.ok]) ∧ Below w.heap.size w w' := by
  subst hk
  go_enter Tryz.func157, Tryz.ntmps157
  go_upto_region 2 with (fail)
  go_cut [5] from 13 to 20 (fun y wx => y = .bool m ∧ wx = w.alloc (.cells #[.int .i64 0, .int .i64 0] 24))
  case first =>
    rcases hm3 with ⟨h, rfl⟩ | ⟨h, rfl⟩
    all_goals
      go_wp2
      go_meet
      exact ⟨rfl, rfl⟩
  case rest =>
    obtain ⟨rfl, rfl⟩ := hcut
    clear hm3
    cases m
    all_goals
      simp only [Bool.false_and, Bool.true_and] at HM
      go_wp2_with fail
      refine (HP.out _).mono ?_
      rintro e wB ⟨rfl, rfl⟩
      go_wp2_with fail
      refine (HM.out _).mono ?_
      rintro e wE ⟨rfl, hb⟩
      obtain ⟨s1, c1_0, c1_1, f1⟩ := L2 hb (w.heap.size) (by first | omega | (simp only [sA, sC, sD, sE]; omega) | (simp; done) | (simp; omega)) (by go_simp; exact ⟨rfl, rfl⟩) (by intro o; go_simp)
      go_wp2
      refine bodyPost_ret (v := .tuple #[.agg #[.int .i64 (Res).n, .int .i64 (Res).d], .bool Res.ok]) (by rw [HF.out]; simp [results, Tryz.results157, go_sem, c1_0, c1_1]) rfl ⟨rfl, ?_⟩
      focus
        repeat with_reducible first | exact Below.refl _ _ | refine below_drewN ?_ _ | refine Below.drew ?_ | refine Below.setCell ?_ ?_ _ | refine Below.alloc ?_ ?_ _ | refine below_then ?_ ?_ (by with_reducible assumption)
        all_goals first | omega | (simp only [sA, sC, sD, sE]; omega) | (simp; done) | (simp; omega)
set_option maxRecDepth 100000 in
set_option maxHeartbeats 1000000 in
theorem read_no2 (s : ByteArray) (m : Bool) (p : Nat) (Res : NmB) (w : World) (hs : s.size ≤ 140737488351232) (hm3 : (s.size = 0 ∧ m = false) ∨ ∃ h : 0 < s.size, m = ((s[0].toNat : Int) == 45)) (n : Int) (k : Nat) (n0 : 0 ≤ n) (n1 : n ≤ 1000000000000000000) (HP : Hid (∀ wx : World, Calls Tryz.prog 198 #[.string s, .int .i64 (bif m then 1 else 0)] wx fun e w' => e = .returned (.tuple #[.int .u64 n, .int .i64 k, .bool true]) ∧ wx = w')) (hk : k < s.size) (HP2 : Hid (∀ wx : World, Calls Tryz.prog 198 #[.string s, .int .i64 ((k : Int) + 1)] wx fun e w' => (∃ n i : Int, e = .returned (.tuple #[.int .u64 n, .int .i64 i, .bool false])) ∧ wx = w')) (HF : Hid (Res = badB)) :
    Calls Tryz.prog 157 #[.string s] w fun e w' => e = .returned (.tuple #[.agg #[.int .i64 (Res).n, .int .i64 (Res).d], .bool Res.ok]) ∧ Below w.heap.size w w' := by
  go_enter Tryz.func157, Tryz.ntmps157
  go_upto_region 2 with (fail)
  go_cut [5] from 13 to 20 (fun y wx => y = .bool m ∧ wx = w.alloc (.cells #[.int .i64 0, .int .i64 0] 24))
  case first =>
    rcases hm3 with ⟨h, rfl⟩ | ⟨h, rfl⟩
    all_goals
      go_wp2
      go_meet
      exact ⟨rfl, rfl⟩
  case rest =>
    obtain ⟨rfl, rfl⟩ := hcut
    clear hm3
    cases m
    all_goals
      go_wp2_with fail
      refine (HP.out _).mono ?_
      rintro e wB ⟨rfl, rfl⟩
      go_wp2_with fail
      refine (HP2.out _).mono ?_
      rintro e wC ⟨⟨n', i', rfl⟩, rfl⟩
      go_wp2
      refine bodyPost_ret (v := .tuple #[.agg #[.int .i64 (Res).n, .int .i64 (Res).d], .bool Res.ok]) (by rw [HF.out]; simp [results, Tryz.results157, go_sem, badB]) rfl ⟨rfl, ?_⟩
      focus
        repeat with_reducible first | exact Below.refl _ _ | refine below_drewN ?_ _ | refine Below.drew ?_ | refine Below.setCell ?_ ?_ _ | refine Below.alloc ?_ ?_ _ | refine below_then ?_ ?_ (by with_reducible assumption)
        all_goals first | omega | (simp only [sA, sC, sD, sE]; omega) | (simp; done) | (simp; omega)
set_option maxRecDepth 100000 in
set_option maxHeartbeats 1000000 in
theorem read_more (s : ByteArray) (m : Bool) (p : Nat) (Res : NmB) (w : World) (hs : s.size ≤ 140737488351232) (hm3 : (s.size = 0 ∧ m = false) ∨ ∃ h : 0 < s.size, m = ((s[0].toNat : Int) == 45)) (n : Int) (k : Nat) (n0 : 0 ≤ n) (n1 : n ≤ 1000000000000000000) (HP : Hid (∀ wx : World, Calls Tryz.prog 198 #[.string s, .int .i64 (bif m then 1 else 0)] wx fun e w' => e = .returned (.tuple #[.int .u64 n, .int .i64 k, .bool true]) ∧ wx = w')) (hk : k < s.size) (n2 : Int) (j : Nat) (m0 : 0 ≤ n2) (m1 : n2 ≤ 1000000000000000000) (HP2 : Hid (∀ wx : World, Calls Tryz.prog 198 #[.string s, .int .i64 ((k : Int) + 1)] wx fun e w' => e = .returned (.tuple #[.int .u64 n2, .int .i64 j, .bool true]) ∧ wx = w')) (hj : j < s.size) (HF : Hid (Res = badB)) :
    Calls Tryz.prog 157 #[.string s] w fun e w' => e = .returned (.tuple #[.agg #[.int .i64 (Res).n, .int .i64 (Res).d], .bool Res.ok]) ∧ Below w.heap.size w w' := by
  go_enter Tryz.func157, Tryz.ntmps157
  go_upto_region 2 with (fail)
  go_cut [5] from 13 to 20 (fun y wx => y = .bool m ∧ wx = w.alloc (.cells #[.int .i64 0, .int .i64 0] 24))
  case first =>
    rcases hm3 with ⟨h, rfl⟩ | ⟨h, rfl⟩
    all_goals
      go_wp2
      go_meet
      exact ⟨rfl, rfl⟩
  case rest =>
    obtain ⟨rfl, rfl⟩ := hcut
    clear hm3
    cases m
    all_goals
      go_wp2_with fail
      refine (HP.out _).mono ?_
      rintro e wB ⟨rfl, rfl⟩
      go_wp2_with fail
      refine (HP2.out _).mono ?_
      rintro e wC ⟨rfl, rfl⟩
      go_wp2
      refine bodyPost_ret (v := .tuple #[.agg #[.int .i64 (Res).n, .int .i64 (Res).d], .bool Res.ok]) (by rw [HF.out]; simp [results, Tryz.results157, go_sem, badB]) rfl ⟨rfl, ?_⟩
      focus
        repeat with_reducible first | exact Below.refl _ _ | refine below_drewN ?_ _ | refine Below.drew ?_ | refine Below.setCell ?_ ?_ _ | refine Below.alloc ?_ ?_ _ | refine below_then ?_ ?_ (by with_reducible assumption)
        all_goals first | omega | (simp only [sA, sC, sD, sE]; omega) | (simp; done) | (simp; omega)
set_option maxRecDepth 100000 in
set_option maxHeartbeats 1000000 in
theorem read_zero (s : ByteArray) (m : Bool) (p : Nat) (Res : NmB) (w : World) (hs : s.size ≤ 140737488351232) (hm3 : (s.size = 0 ∧ m = false) ∨ ∃ h : 0 < s.size, m = ((s[0].toNat : Int) == 45)) (n : Int) (k : Nat) (n0 : 0 ≤ n) (n1 : n ≤ 1000000000000000000) (HP : Hid (∀ wx : World, Calls Tryz.prog 198 #[.string s, .int .i64 (bif m then 1 else 0)] wx fun e w' => e = .returned (.tuple #[.int .u64 n, .int .i64 k, .bool true]) ∧ wx = w')) (hk : k < s.size) (n2 : Int) (j : Nat) (m0 : 0 ≤ n2) (m1 : n2 ≤ 1000000000000000000) (HP2 : Hid (∀ wx : World, Calls Tryz.prog 198 #[.string s, .int .i64 ((k : Int) + 1)] wx fun e w' => e = .returned (.tuple #[.int .u64 n2, .int .i64 j, .bool true]) ∧ wx = w')) (hj : j = s.size) (hc : s[k].toNat = 47) (hz : n2 = 0) (HF : Hid (Res = badB)) :
    Calls Tryz.prog 157 #[.string s] w fun e w' => e = .returned (.tuple #[.agg #[.int .i64 (Res).n, .int .i64 (Res).d], .bool Res.ok]) ∧ Below w.heap.size w w' := by
  subst hj
  have hc1 : ((s[k].toNat : Int) == 47) = true := by simp [hc]
  have hz1 : (n2 == 0) = true := by simp [hz]
  clear hc hz
  go_enter Tryz.func157, Tryz.ntmps157
  go_upto_region 2 with (fail)
  go_cut [5] from 13 to 20 (fun y wx => y = .bool m ∧ wx = w.alloc (.cells #[.int .i64 0, .int .i64 0] 24))
  case first =>
    rcases hm3 with ⟨h, rfl⟩ | ⟨h, rfl⟩
    all_goals
      go_wp2
      go_meet
      exact ⟨rfl, rfl⟩
  case rest =>
    obtain ⟨rfl, rfl⟩ := hcut
    clear hm3
    cases m
    all_goals
      go_wp2_with fail
      refine (HP.out _).mono ?_
      rintro e wB ⟨rfl, rfl⟩
      go_wp2_with fail
      refine (HP2.out _).mono ?_
      rintro e wC ⟨rfl, rfl⟩
      go_wp2
      refine bodyPost_ret (v := .tuple #[.agg #[.int .i64 (Res).n, .int .i64 (Res).d], .bool Res.ok]) (by rw [HF.out]; simp [results, Tryz.results157, go_sem, badB]) rfl ⟨rfl, ?_⟩
      focus
        repeat with_reducible first | exact Below.refl _ _ | refine below_drewN ?_ _ | refine Below.drew ?_ | refine Below.setCell ?_ ?_ _ | refine Below.alloc ?_ ?_ _ | refine below_then ?_ ?_ (by with_reducible assumption)
        all_goals first | omega | (simp only [sA, sC, sD, sE]; omega) | (simp; done) | (simp; omega)
set_option maxRecDepth 100000 in
set_option maxHeartbeats 1000000 in
theorem read_by (s : ByteArray) (m : Bool) (p : Nat) (Res : NmB) (w : World) (hs : s.size ≤ 140737488351232) (hm3 : (s.size = 0 ∧ m = false) ∨ ∃ h : 0 < s.size, m = ((s[0].toNat : Int) == 45)) (n : Int) (k : Nat) (n0 : 0 ≤ n) (n1 : n ≤ 1000000000000000000) (HP : Hid (∀ wx : World, Calls Tryz.prog 198 #[.string s, .int .i64 (bif m then 1 else 0)] wx fun e w' => e = .returned (.tuple #[.int .u64 n, .int .i64 k, .bool true]) ∧ wx = w')) (hk : k < s.size) (n2 : Int) (j : Nat) (m0 : 0 ≤ n2) (m1 : n2 ≤ 1000000000000000000) (HP2 : Hid (∀ wx : World, Calls Tryz.prog 198 #[.string s, .int .i64 ((k : Int) + 1)] wx fun e w' => e = .returned (.tuple #[.int .u64 n2, .int .i64 j, .bool true]) ∧ wx = w')) (hj : j = s.size) (hc : s[k].toNat = 47) (hz : ¬ n2 = 0) (R : NmB) (HM : Hid (∀ wx : World, Calls Tryz.prog 168 #[.bool (m && decide (0 < n)), .int .u64 (n), .int .u64 (n2)] wx fun e w' => e = .returned (.tuple #[.agg #[.int .i64 (R).n, .int .i64 (R).d], .bool R.ok]) ∧ Below wx.heap.size wx w')) (HF : Hid (Res = R)) :
    Calls Tryz.prog 157 #[.string s] w fun e w' => e = .returned (.tuple #[.agg #[.int .i64 (Res).n, .int .i64 (Res).d], .bool Res.ok]) ∧ Below w.heap.size w w' := by
  subst hj
  have hc1 : ((s[k].toNat : Int) == 47) = true := by simp [hc]
  have hz1 : (n2 == 0) = false := by simp [hz]
  clear hc hz
  go_enter Tryz.func157, Tryz.ntmps157
  go_upto_region 2 with (fail)
  go_cut [5] from 13 to 20 (fun y wx => y = .bool m ∧ wx = w.alloc (.cells #[.int .i64 0, .int .i64 0] 24))
  case first =>
    rcases hm3 with ⟨h, rfl⟩ | ⟨h, rfl⟩
    all_goals
      go_wp2
      go_meet
      exact ⟨rfl, rfl⟩
  case rest =>
    obtain ⟨rfl, rfl⟩ := hcut
    clear hm3
    cases m
    all_goals
      simp only [Bool.false_and, Bool.true_and] at HM
      go_wp2_with fail
      refine (HP.out _).mono ?_
      rintro e wB ⟨rfl, rfl⟩
      go_wp2_with fail
      refine (HP2.out _).mono ?_
      rintro e wC ⟨rfl, rfl⟩
      go_wp2_with fail
      refine (HM.out _).mono ?_
      rintro e wE ⟨rfl, hb⟩
      obtain ⟨s2, c2_0, c2_1, f2⟩ := L2 hb (w.heap.size) (by first | omega | (simp only [sA, sC, sD, sE]; omega) | (simp; done) | (simp; omega)) (by go_simp; exact ⟨rfl, rfl⟩) (by intro o; go_simp)
      go_wp2
      refine bodyPost_ret (v := .tuple #[.agg #[.int .i64 (Res).n, .int .i64 (Res).d], .bool Res.ok]) (by rw [HF.out]; simp [results, Tryz.results157, go_sem, c2_0, c2_1]) rfl ⟨rfl, ?_⟩
      focus
        repeat with_reducible first | exact Below.refl _ _ | refine below_drewN ?_ _ | refine Below.drew ?_ | refine Below.setCell ?_ ?_ _ | refine Below.alloc ?_ ?_ _ | refine below_then ?_ ?_ (by with_reducible assumption)
        all_goals first | omega | (simp only [sA, sC, sD, sE]; omega) | (simp; done) | (simp; omega)
set_option maxRecDepth 100000 in
set_option maxHeartbeats 1000000 in
theorem read_odd (s : ByteArray) (m : Bool) (p : Nat) (Res : NmB) (w : World) (hs : s.size ≤ 140737488351232) (hm3 : (s.size = 0 ∧ m = false) ∨ ∃ h : 0 < s.size, m = ((s[0].toNat : Int) == 45)) (n : Int) (k : Nat) (n0 : 0 ≤ n) (n1 : n ≤ 1000000000000000000) (HP : Hid (∀ wx : World, Calls Tryz.prog 198 #[.string s, .int .i64 (bif m then 1 else 0)] wx fun e w' => e = .returned (.tuple #[.int .u64 n, .int .i64 k, .bool true]) ∧ wx = w')) (hk : k < s.size) (n2 : Int) (j : Nat) (m0 : 0 ≤ n2) (m1 : n2 ≤ 1000000000000000000) (HP2 : Hid (∀ wx : World, Calls Tryz.prog 198 #[.string s, .int .i64 ((k : Int) + 1)] wx fun e w' => e = .returned (.tuple #[.int .u64 n2, .int .i64 j, .bool true]) ∧ wx = w')) (hj : j = s.size) (hc : ¬ s[k].toNat = 47) (hz : ¬ s[k].toNat = 46 ∨ (s[k].toNat = 46 ∧ 6 < (s.size : Int) - k - 1) ∨ (s[k].toNat = 46 ∧ ¬ 6 < (s.size : Int) - k - 1 ∧ 1000000000000 < n)) (HF : Hid (Res = badB)) :
    Calls Tryz.prog 157 #[.string s] w fun e w' => e = .returned (.tuple #[.agg #[.int .i64 (Res).n, .int .i64 (Res).d], .bool Res.ok]) ∧ Below w.heap.size w w' := by
  subst hj
  have hc1 : ((s[k].toNat : Int) == 47) = false := by rw [beq_eq_false_iff_ne]; omega
  have hz2 : ((s[k].toNat : Int) != 46) = true ∨ (((s[k].toNat : Int) != 46) = false ∧ 6 < (s.size : Int) - k - 1) ∨ (((s[k].toNat : Int) != 46) = false ∧ ¬ 6 < (s.size : Int) - k - 1 ∧ 1000000000000 < n) := by
    rcases hz with h | ⟨h, h'⟩ | ⟨h, h', h''⟩
    · left; rw [bne_iff_ne]; omega
    · right; left; exact ⟨by simp [h], h'⟩
    · right; right; exact ⟨by simp [h], h', h''⟩
  clear hc hz
  go_enter Tryz.func157, Tryz.ntmps157
  go_upto_region 2 with (fail)
  go_cut [5] from 13 to 20 (fun y wx => y = .bool m ∧ wx = w.alloc (.cells #[.int .i64 0, .int .i64 0] 24))
  case first =>
    rcases hm3 with ⟨h, rfl⟩ | ⟨h, rfl⟩
    all_goals
      go_wp2
      go_meet
      exact ⟨rfl, rfl⟩
  case rest =>
    obtain ⟨rfl, rfl⟩ := hcut
    clear hm3
    rcases hz2 with h | ⟨h, h'⟩ | ⟨h, h', h''⟩ <;> cases m
    all_goals
      go_wp2_with fail
      refine (HP.out _).mono ?_
      rintro e wB ⟨rfl, rfl⟩
      go_wp2_with fail
      refine (HP2.out _).mono ?_
      rintro e wC ⟨rfl, rfl⟩
      go_wp2
      refine bodyPost_ret (v := .tuple #[.agg #[.int .i64 (Res).n, .int .i64 (Res).d], .bool Res.ok]) (by rw [HF.out]; simp [results, Tryz.results157, go_sem, badB]) rfl ⟨rfl, ?_⟩
      focus
        repeat with_reducible first | exact Below.refl _ _ | refine below_drewN ?_ _ | refine Below.drew ?_ | refine Below.setCell ?_ ?_ _ | refine Below.alloc ?_ ?_ _ | refine below_then ?_ ?_ (by with_reducible assumption)
        all_goals first | omega | (simp only [sA, sC, sD, sE]; omega) | (simp; done) | (simp; omega)
set_option maxRecDepth 100000 in
set_option maxHeartbeats 1000000 in
theorem read_frac (s : ByteArray) (m : Bool) (p : Nat) (Res : NmB) (w : World) (hs : s.size ≤ 140737488351232) (hm3 : (s.size = 0 ∧ m = false) ∨ ∃ h : 0 < s.size, m = ((s[0].toNat : Int) == 45)) (n : Int) (k : Nat) (n0 : 0 ≤ n) (n1 : n ≤ 1000000000000000000) (HP : Hid (∀ wx : World, Calls Tryz.prog 198 #[.string s, .int .i64 (bif m then 1 else 0)] wx fun e w' => e = .returned (.tuple #[.int .u64 n, .int .i64 k, .bool true]) ∧ wx = w')) (hk : k < s.size) (n2 : Int) (j : Nat) (m0 : 0 ≤ n2) (m1 : n2 ≤ 1000000000000000000) (HP2 : Hid (∀ wx : World, Calls Tryz.prog 198 #[.string s, .int .i64 ((k : Int) + 1)] wx fun e w' => e = .returned (.tuple #[.int .u64 n2, .int .i64 j, .bool true]) ∧ wx = w')) (hj : j = s.size) (hc : s[k].toNat = 46) (hz : ¬ 6 < (s.size : Int) - k - 1) (hn : ¬ 1000000000000 < n) (t : Int) (t0 : 1 ≤ t) (t1 : t ≤ 1000000) (HT : Hid (∀ wx : World, Calls Tryz.prog 167 #[.int .i64 ((s.size : Int) - k - 1)] wx fun e w' => e = .returned (.int .u64 t) ∧ wx = w')) (R : NmB) (HM : Hid (∀ wx : World, Calls Tryz.prog 168 #[.bool (m && decide (0 < n * t + n2)), .int .u64 (n * t + n2), .int .u64 t] wx fun e w' => e = .returned (.tuple #[.agg #[.int .i64 (R).n, .int .i64 (R).d], .bool R.ok]) ∧ Below wx.heap.size wx w')) (HF : Hid (Res = R)) :
    Calls Tryz.prog 157 #[.string s] w fun e w' => e = .returned (.tuple #[.agg #[.int .i64 (Res).n, .int .i64 (Res).d], .bool Res.ok]) ∧ Below w.heap.size w w' := by
  subst hj
  have hc1 : ((s[k].toNat : Int) == 47) = false := by simp [hc]
  have hc2 : ((s[k].toNat : Int) != 46) = false := by simp [hc]
  have hmul := mul_bd (x := n) (y := t) (a := 1000000000000) (b := 1000000) (by omega) (by omega) (by omega) t1
  have hnn : 0 ≤ n * t := Int.mul_nonneg n0 (by omega)
  have hw1 : IntKind.u64.wrap (n * t) = n * t := by rw [IntKind.wrap_u64]; omega
  have hw2 : IntKind.u64.wrap (n * t + n2) = n * t + n2 := by rw [IntKind.wrap_u64]; omega
  clear hmul hc
  go_enter Tryz.func157, Tryz.ntmps157
  go_upto_region 2 with (fail)
  go_cut [5] from 13 to 20 (fun y wx => y = .bool m ∧ wx = w.alloc (.cells #[.int .i64 0, .int .i64 0] 24))
  case first =>
    rcases hm3 with ⟨h, rfl⟩ | ⟨h, rfl⟩
    all_goals
      go_wp2
      go_meet
      exact ⟨rfl, rfl⟩
  case rest =>
    obtain ⟨rfl, rfl⟩ := hcut
    clear hm3
    cases m
    all_goals
      simp only [Bool.false_and, Bool.true_and] at HM
      go_wp2_with fail
      refine (HP.out _).mono ?_
      rintro e wB ⟨rfl, rfl⟩
      go_wp2_with fail
      refine (HP2.out _).mono ?_
      rintro e wC ⟨rfl, rfl⟩
      go_wp2_with fail
      refine (HT.out _).mono ?_
      rintro e wD ⟨rfl, rfl⟩
      go_wp2_with fail
      refine (HM.out _).mono ?_
      rintro e wE ⟨rfl, hb⟩
      obtain ⟨s3, c3_0, c3_1, f3⟩ := L2 hb (w.heap.size) (by first | omega | (simp only [sA, sC, sD, sE]; omega) | (simp; done) | (simp; omega)) (by go_simp; exact ⟨rfl, rfl⟩) (by intro o; go_simp)
      go_wp2
      refine bodyPost_ret (v := .tuple #[.agg #[.int .i64 (Res).n, .int .i64 (Res).d], .bool Res.ok]) (by rw [HF.out]; simp [results, Tryz.results157, go_sem, c3_0, c3_1]) rfl ⟨rfl, ?_⟩
      focus
        repeat with_reducible first | exact Below.refl _ _ | refine below_drewN ?_ _ | refine Below.drew ?_ | refine Below.setCell ?_ ?_ _ | refine Below.alloc ?_ ?_ _ | refine below_then ?_ ?_ (by with_reducible assumption)
        all_goals first | omega | (simp only [sA, sC, sD, sE]; omega) | (simp; done) | (simp; omega)
theorem r1_Read (s : ByteArray) (w : World) (hs : s.size ≤ 140737488351232) :
    Calls Tryz.prog 157 #[.string s] w fun e w' => e = .returned (.tuple #[.agg #[.int .i64 (readN s.data.toList).n, .int .i64 (readN s.data.toList).d], .bool (readN s.data.toList).ok]) ∧ Below w.heap.size w w' := by
  obtain ⟨m, p, h1, h2, h3, h4, hm3⟩ := sign_of s
  have hF : readN s.data.toList = readP m (digits (s.data.toList.drop p)).n (digits (s.data.toList.drop p)).ok (digits (s.data.toList.drop p)).rest := by
    unfold readN readS
    rw [h1, h4]
  have hl : s.data.toList.length = s.size := by simp
  have hb := digits_bd (s.data.toList.drop p)
  have hr := dg_rest (s.data.toList.drop p) 0 false
  change (digits (s.data.toList.drop p)).rest.length ≤ _ at hr
  rw [List.length_drop, hl] at hr
  generalize readN s.data.toList = Res at *
  cases ok : (digits (s.data.toList.drop p)).ok
  · exact read_no s m p Res w hs hm3 (fun wx => by rw [← h2]; exact piece_no s p wx hs h3 ok) (by unfold Hid; rw [hF, ok, readP_ok0])
  have hk : (((s.size - (digits (s.data.toList.drop p)).rest.length : Nat)) : Int) = (s.size : Int) - ((digits (s.data.toList.drop p)).rest.length : Int) := by omega
  have HP : Hid (∀ wx : World, Calls Tryz.prog 198 #[.string s, .int .i64 (bif m then 1 else 0)] wx fun e w' => e = .returned (.tuple #[.int .u64 (digits (s.data.toList.drop p)).n, .int .i64 ((s.size - (digits (s.data.toList.drop p)).rest.length : Nat) : Int), .bool true]) ∧ wx = w') := fun wx => by rw [← h2]; exact piece_ok s p _ wx hs h3 ok hk
  have hd : s.data.toList.drop (s.size - (digits (s.data.toList.drop p)).rest.length) = (digits (s.data.toList.drop p)).rest := by
    have h := digits_drop ok
    rw [List.length_drop, List.drop_drop, hl] at h
    rw [← h]
    congr 1
    rw [h]
    omega
  rw [ok] at hF
  generalize (digits (s.data.toList.drop p)).n = n at *
  generalize hR : (digits (s.data.toList.drop p)).rest = R at *
  clear hR ok h4
  cases R with
  | nil =>
    simp only [List.length_nil, Nat.sub_zero] at HP
    exact read_whole s m p Res w hs hm3 n s.size hb.1 hb.2 HP rfl (mk (sgn m n) 1) (fun wx => r1_madeS m n 1 wx hb.1 (by omega) (by omega) (by omega)) hF
  | cons c r =>
    simp only [List.length_cons] at HP hd hr
    obtain ⟨k, hk⟩ : ∃ k, k = s.size - (r.length + 1) := ⟨_, rfl⟩
    rw [← hk] at HP hd
    have hks : k < s.size := by omega
    have hc : s[k] = c ∧ s.data.toList.drop (k + 1) = r := by
      have h := drop_cons s k hks
      rw [hd] at h
      injection h with a b
      exact ⟨a.symm, b.symm⟩
    obtain ⟨hc, hdr⟩ := hc
    have hlen : (s.size : Int) - k - 1 = (r.length : Int) := by omega
    have hb2 := digits_bd r
    have hr2 := dg_rest r 0 false
    change (digits r).rest.length ≤ _ at hr2
    have ek : (k : Int) + 1 = ((k + 1 : Nat) : Int) := by omega
    rw [readP] at hF
    cases ok2 : (digits r).ok
    · refine read_no2 s m p Res w hs hm3 n k hb.1 hb.2 HP hks (fun wx => ?_) (by unfold Hid; rw [hF, if_pos (Or.inr (Or.inl ok2))])
      rw [ek]
      exact piece_no s (k + 1) wx hs (by omega) (by rw [hdr]; exact ok2)
    have HP2 : ∀ j : Nat, (j : Int) = (s.size : Int) - ((digits r).rest.length : Int) → Hid (∀ wx : World, Calls Tryz.prog 198 #[.string s, .int .i64 ((k : Int) + 1)] wx fun e w' => e = .returned (.tuple #[.int .u64 (digits r).n, .int .i64 j, .bool true]) ∧ wx = w') := by
      intro j hj wx
      rw [ek, ← hdr]
      rw [← hdr] at hj ok2
      exact piece_ok s (k + 1) j wx hs (by omega) ok2 hj
    by_cases hrest : (digits r).rest = []
    · have HPE := HP2 s.size (by rw [hrest]; simp)
      rw [if_neg (by rw [ok2, hrest]; simp)] at hF
      by_cases c47 : c.toNat = 47
      · rw [if_pos c47] at hF
        by_cases hz : (digits r).n = 0
        · exact read_zero s m p Res w hs hm3 n k hb.1 hb.2 HP hks _ _ hb2.1 hb2.2 HPE rfl (by rw [hc]; exact c47) hz (by unfold Hid; rw [hF, hz]; unfold mk; rw [if_pos rfl])
        · exact read_by s m p Res w hs hm3 n k hb.1 hb.2 HP hks _ _ hb2.1 hb2.2 HPE rfl (by rw [hc]; exact c47) hz _ (fun wx => r1_madeS m n _ wx hb.1 (by omega) (by omega) (by omega)) hF
      · rw [if_neg c47] at hF
        by_cases ho : c.toNat ≠ 46 ∨ 6 < r.length ∨ 1000000000000 < n
        · rw [if_pos ho] at hF
          refine read_odd s m p Res w hs hm3 n k hb.1 hb.2 HP hks _ _ hb2.1 hb2.2 HPE rfl (by rw [hc]; exact c47) ?_ hF
          rw [hc, hlen]
          omega
        · rw [if_neg ho] at hF
          have c46 : c.toNat = 46 := by omega
          have hp := pow10_bd6 r.length (by omega)
          have hmul := mul_bd (x := n) (y := pow10 r.length) (a := 1000000000000) (b := 1000000) (by omega) (by omega) (by omega) hp.2
          have hnn : 0 ≤ n * pow10 r.length := Int.mul_nonneg hb.1 (by omega)
          refine read_frac s m p Res w hs hm3 n k hb.1 hb.2 HP hks _ _ hb2.1 hb2.2 HPE rfl (by rw [hc]; exact c46) (by rw [hlen]; omega) (by omega) (pow10 r.length) hp.1 hp.2 (fun wx => ?_) _ (fun wx => r1_madeS m _ _ wx (by omega) (by omega) (by omega) (by omega)) hF
          rw [hlen]
          exact r1_ten r.length wx (by omega)
    · rw [if_pos (Or.inr (Or.inr hrest))] at hF
      have h0 : 0 < (digits r).rest.length := List.length_pos_iff.2 hrest
      exact read_more s m p Res w hs hm3 n k hb.1 hb.2 HP hks _ (s.size - (digits r).rest.length) hb2.1 hb2.2 (HP2 _ (by omega)) (by omega) hF
end Go.Proofs.YtglngfaagjgpjaaGreatDoor
