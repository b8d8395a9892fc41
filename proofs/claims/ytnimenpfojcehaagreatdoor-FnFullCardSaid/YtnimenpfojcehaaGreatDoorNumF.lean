/- Walks of package num, sixth part: power, digits, Read. -/
import Derived.Test.YtnimenpfojcehaaGreatDoorNumX
import Derived.Test.YtnimenpfojcehaaGreatDoorBase
namespace Go.Proofs.YtnimenpfojcehaaGreatDoor
open Go.RowKit
set_option linter.unusedSimpArgs false
set_option linter.unusedVariables false

theorem pow10_bd (k : Nat) (h : k ≤ 12) : 1 ≤ pow10 k ∧ pow10 k ≤ 1000000000000 := by
  unfold pow10
  have h1 : 10 ^ k ≤ 10 ^ 12 := Nat.pow_le_pow_right (by omega) h
  have h2 : 0 < 10 ^ k := Nat.pow_pos (by omega)
  have h3 : (10 : Nat) ^ 12 = 1000000000000 := by decide
  omega
theorem pow10_succ (k : Nat) : pow10 (k + 1) = pow10 k * 10 := by
  unfold pow10
  rw [Nat.pow_succ]
  omega
set_option maxHeartbeats 400000 in
theorem num_power (m : Nat) (w : World) (hk1 : m ≤ 12) :
    Calls Tryz.prog 99 #[.int .i64 m] w fun e w' => e = .returned (.int .i64 (pow10 m)) ∧ w = w' := by
  go_enter Tryz.func99, Tryz.ntmps99
  go_wp2
  go_loop [3, 5] (fun x i => ∃ j : Nat, j ≤ m ∧ i = .int .i64 j ∧ x = .int .i64 (pow10 j)) (fun _ i => m - (intOf i).toNat)
  case atStart => exact ⟨0, Nat.zero_le _, rfl, rfl⟩
  case round =>
    obtain ⟨j, hj, rfl, rfl⟩ := hrel
    obtain ⟨b1, b2⟩ := pow10_bd j (by omega)
    have hs := Lib.hid (pow10_succ j)
    by_cases hlt : j < m
    · go_wp2
      go_round
      case rel => exact ⟨j + 1, by omega, by go_num, by rw [hs.out]⟩
      case measure => simp [intOf]; omega
    · obtain rfl : j = m := by omega
      go_wp2
      go_ret
      exact ⟨rfl, rfl⟩

set_option maxHeartbeats 800000 in
theorem num_digits (s : ByteArray) (w : World) (hs : s.size ≤ 140737488351232) :
    Calls Tryz.prog 104 #[.string s] w fun e w' => e = .returned (.tuple #[.int .i64 (digits s.data.toList).n, .string (txt (digits s.data.toList).rest), .bool (digits s.data.toList).ok]) ∧ ∃ n, w' = w.drewN n := by
  go_enter Tryz.func104, Tryz.ntmps104
  go_wp2
  go_loop [2, 5] (fun x i => ∃ (k : Nat) (n : Int), k ≤ s.size ∧ 0 ≤ n ∧ n ≤ 1000000000000000000 ∧ i = .int .i64 k ∧ x = .int .i64 n ∧ Hid (digits s.data.toList = dg n (decide (0 < k)) (s.data.toList.drop k))) (fun _ i => s.size - (intOf i).toNat)
  case atStart => exact ⟨0, 0, Nat.zero_le _, by omega, by omega, rfl, rfl, rfl⟩
  case round =>
    obtain ⟨k, n, hk, hn0, hn1, rfl, rfl, HD⟩ := hrel
    by_cases hlt : k < s.size
    · have hc := drop_cons s k hlt
      have HE : Hid (digits s.data.toList = dg n (decide (0 < k)) (s[k] :: s.data.toList.drop (k + 1))) := by have := HD.out; rwa [hc] at this
      clear HD hc
      by_cases h1 : 48 ≤ (s[k].toNat : Int)
      · by_cases h2 : (s[k].toNat : Int) ≤ 57
        · by_cases h3 : (1000000000000000000 - ((s[k].toNat : Int) - 48)) / 10 < n
          · have HV : Hid (digits s.data.toList = ⟨0, [], false⟩) := by unfold Hid; rw [HE.out]; unfold dg; rw [if_pos ⟨h1, h2⟩, if_pos h3]
            go_wp2
            go_ret3
            rw [HV.out]
            exact ⟨rfl, 0, rfl⟩
          · have HV : Hid (digits s.data.toList = dg (10 * n + ((s[k].toNat : Int) - 48)) true (s.data.toList.drop (k + 1))) := by unfold Hid; rw [HE.out]; conv => lhs; unfold dg; rw [if_pos ⟨h1, h2⟩, if_neg h3]
            have e1 : 10 * n + ((s[k].toNat : Int) - 48) ≤ 1000000000000000000 := by omega
            go_wp2
            go_round
            case rel => exact ⟨k + 1, _, by omega, by omega, e1, by go_num, rfl, by unfold Hid; rw [HV.out]; simp⟩
            case measure => simp [intOf]; omega
        · have HV : Hid (digits s.data.toList = ⟨n, s.data.toList.drop k, decide (0 < k)⟩) := by unfold Hid; rw [HE.out]; unfold dg; rw [if_neg (fun h => h2 h.2), ← drop_cons s k hlt]
          go_wp2
          go_quiet (fail)
          go_wp2
          go_ret3
          rw [HV.out, ← txt_drop]
          exact ⟨rfl, nq, rfl⟩
      · have HV : Hid (digits s.data.toList = ⟨n, s.data.toList.drop k, decide (0 < k)⟩) := by unfold Hid; rw [HE.out]; unfold dg; rw [if_neg (fun h => h1 h.1), ← drop_cons s k hlt]
        go_wp2
        go_quiet (fail)
        go_wp2
        go_ret3
        rw [HV.out, ← txt_drop]
        exact ⟨rfl, nq, rfl⟩
    · obtain rfl : k = s.size := by omega
      have HV : Hid (digits s.data.toList = ⟨n, [], decide (0 < s.size)⟩) := by
        unfold Hid; rw [HD.out, List.drop_of_length_le (by simp)]; rfl
      go_wp2
      go_quiet (fail)
      go_wp2
      go_ret3
      rw [HV.out]
      exact ⟨rfl, nq, rfl⟩
end Go.Proofs.YtnimenpfojcehaaGreatDoor
