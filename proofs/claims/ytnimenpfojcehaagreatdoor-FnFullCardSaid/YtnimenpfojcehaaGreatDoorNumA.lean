/- Walks of package num, first part: each function answers what the plain function of Num says; below its first new block the world is as it was. -/
import Derived.Test.YtnimenpfojcehaaGreatDoorProg
import Derived.Test.YtnimenpfojcehaaGreatDoorBase
import Derived.WalkKit
import Derived.WalkSpells
import Derived.WalkLawsBesides
import Derived.Handy
import Derived.Deep.QuietTactic
import Derived.BigQuiet
import Derived.Lib.Hide
namespace Go.Proofs.YtnimenpfojcehaaGreatDoor
open Go.RowKit
set_option linter.unusedSimpArgs false
set_option linter.unusedVariables false

set_option maxHeartbeats 400000 in
theorem num_size (n : Int) (w : World) (hn : I64 n) :
    Calls Tryz.prog 44 #[.int .i64 n] w fun e w' => e = .returned (.int .u64 n.natAbs) ∧ w = w' := by
  obtain ⟨h0, h1⟩ := hn
  by_cases hn : n < 0
  · go_enter Tryz.func44, Tryz.ntmps44
    go_wp2
    go_ret
    refine ⟨?_, rfl⟩
    show Ending.returned (.int .u64 (IntKind.u64.wrap (-IntKind.u64.wrap n))) = _
    congr 2
    rw [IntKind.wrap_u64, IntKind.wrap_u64]
    omega
  · go_enter Tryz.func44, Tryz.ntmps44
    go_wp2
    go_ret
    refine ⟨?_, rfl⟩
    show Ending.returned (.int .u64 n) = _
    congr 2
    omega

def Drawn (w w' : World) : Prop := ∃ n, w' = w.drewN n
theorem Drawn.below {w w' : World} (h : Drawn w w') : Below w.heap.size w w' := by
  obtain ⟨n, rfl⟩ := h
  exact below_drewN (Below.refl _ _) n
set_option maxHeartbeats 400000 in
theorem num_gcd (a b : Nat) (w : World) (h0 : a ≤ 9223372036854775808) (h1 : b ≤ 9223372036854775808) :
    Calls Tryz.prog 43 #[.int .u64 a, .int .u64 b] w fun e w' => e = .returned (.int .u64 (Nat.gcd a b : Nat)) ∧ Drawn w w' := by
  go_enter Tryz.func43, Tryz.ntmps43
  go_wp2
  go_loopw [0, 1] (fun x y wr => ∃ p q : Nat, p ≤ 9223372036854775808 ∧ q ≤ 9223372036854775808 ∧ x = .int .u64 p ∧ y = .int .u64 q ∧ Nat.gcd p q = Nat.gcd a b ∧ ∃ n, wr = w.drewN n) (fun _ y _ => (intOf y).toNat)
  case atStart => exact ⟨a, b, h0, h1, rfl, rfl, rfl, 0, rfl⟩
  case round =>
    obtain ⟨p, q, hp, hq, rfl, rfl, hg, m, rfl⟩ := hrel
    have HG := Lib.hid hg
    clear hg
    by_cases h : 0 < q
    · have hlt : p % q < q := Nat.mod_lt _ h
      go_wp2
      go_quiet (fail)
      go_roundw
      case rel =>
        repeat apply Exists.intro
        exact ⟨⟨q, p % q, by omega, by omega, rfl, by simp, by rw [← HG.out, Nat.gcd_comm p q, Nat.gcd_rec q p, Nat.gcd_comm], m + nq, by rw [World.drewN_drewN]⟩, rfl⟩
      case measure => simp [intOf]; omega
    · go_wp2
      go_ret
      obtain rfl : q = 0 := by omega
      refine ⟨?_, m, rfl⟩
      show Ending.returned (.int .u64 p) = _
      rw [← HG.out, Nat.gcd_zero_right]

set_option maxHeartbeats 400000 in
theorem num_Right (n d : Int) (w : World) (hn : I64 n) (hd : I64 d) :
    Calls Tryz.prog 25 #[.agg #[.int .i64 n, .int .i64 d]] w fun e w' => e = .returned (.bool (rightN n d)) ∧ Below w.heap.size w w' := by
  obtain ⟨h0, h1⟩ := hn
  obtain ⟨h2, h3⟩ := hd
  by_cases hn : n < -1000000000000 ∨ 1000000000000 < n ∨ d < 1 ∨ 1000000 < d
  · have HF : Hid (rightN n d = false) := rightN_out hn
    by_cases hn : n < -1000000000000
    · go_enter Tryz.func25, Tryz.ntmps25
      go_wp2
      go_ret
      exact ⟨by rw [HF.out]; rfl, by go_grown⟩
    by_cases hn2 : 1000000000000 < n
    · go_enter Tryz.func25, Tryz.ntmps25
      go_wp2
      go_ret
      exact ⟨by rw [HF.out]; rfl, by go_grown⟩
    by_cases hd : d < 1
    · go_enter Tryz.func25, Tryz.ntmps25
      go_wp2
      go_ret
      exact ⟨by rw [HF.out]; rfl, by go_grown⟩
    · have hd2 : 1000000 < d := by omega
      go_enter Tryz.func25, Tryz.ntmps25
      go_wp2
      go_ret
      exact ⟨by rw [HF.out]; rfl, by go_grown⟩
  have hn1 : ¬ n < -1000000000000 := by omega
  have hn2 : ¬ 1000000000000 < n := by omega
  have hn3 : ¬ d < 1 := by omega
  have hn4 : ¬ 1000000 < d := by omega
  clear hn
  have hp0 : 0 ≤ d := by omega
  have hp1 : d ≤ 1000000 := by omega
  have HF : Hid (rightN n d = (((Nat.gcd n.natAbs d.natAbs : Nat) : Int) == 1)) := rightN_in (by omega) (by omega) (by omega) (by omega)
  have HD : Hid (d = (d.natAbs : Int)) := by unfold Hid; omega
  have hq := fun wx => num_gcd n.natAbs d.natAbs wx (by omega) (by omega)
  rw [← HD.out] at hq
  have HQ := Lib.hid hq
  clear hq
  go_enter Tryz.func25, Tryz.ntmps25
  go_wp2_with fail
  refine region_below_all (by kernel_rfl) (by kernel_rfl) ?_
  repeat
    first | (refine q_run ?_ ?_; focus (go_simp; done)) | (refine q_skip ?_ ?_; focus (go_simp; done))
    try (apply Exists.intro; refine ⟨fun w' hw' => ?_, ?_⟩; focus (have hc := (bcell hw'.out).1; unfold Oper.quietAt; go_simp; (try go_ints); (first | rfl | (go_at_call 44; refine (num_size _ _ ⟨by omega, by omega⟩).mono ?_; rintro e w2 ⟨rfl, hb⟩; exact ⟨rfl, hw'.same hb⟩) | (go_at_call 43; refine (HQ.out _).mono ?_; rintro e w2 ⟨rfl, hb⟩; exact ⟨rfl, hw'.drewN hb⟩))))
    intro K hK
    go_simp
    refine hK _ ?_
    clear hK K
  refine wpQuiet_nil ?_
  intro w1 hb'
  have hb := hb'.out
  clear hb'
  go_wp2
  go_ret
  exact ⟨by rw [HF.out]; rfl, by
    focus
      repeat with_reducible first | exact Below.refl _ _ | refine below_drewN ?_ _ | refine Below.drew ?_ | refine Below.setCell ?_ ?_ _ | refine Below.alloc ?_ ?_ _ | refine below_then ?_ ?_ (by with_reducible assumption)
      all_goals first | omega | (simp only [sA, sC, sD, sE]; omega) | (simp; done) | (simp; omega)
    ⟩
set_option maxHeartbeats 400000 in
theorem num_taken (n d : Int) (w : World) (hn : I64 n) (hd : I64 d) :
    Calls Tryz.prog 45 #[.agg #[.int .i64 n, .int .i64 d]] w fun e w' => e = .returned (.agg #[.int .i64 (tk n d).n, .int .i64 (tk n d).d]) ∧ Below w.heap.size w w' := by
  by_cases hr : rightN n d = true
  all_goals
    have HT : Hid (tk n d = if rightN n d then ⟨n, d⟩ else ⟨0, 1⟩) := rfl
    have HR := Lib.hid hr
    clear hr
    go_enter Tryz.func45, Tryz.ntmps45
    go_wp2_with fail
    refine (num_Right _ _ _ hn hd).mono ?_
    rintro e w1 ⟨rfl, hb⟩
    have hr := HR.out
    have c1 := lcc hb (w.heap.size) (by (first | omega | (simp only [sz_alloc, sz_setCell, sz_drew, sz_drewN]; omega) | (simp; done) | (simp; omega)))
    have f1 := lcf hb (w.heap.size) (by (first | omega | (simp only [sz_alloc, sz_setCell, sz_drew, sz_drewN]; omega) | (simp; done) | (simp; omega)))
    have s1 := lcs hb (w.heap.size) (by (first | omega | (simp only [sz_alloc, sz_setCell, sz_drew, sz_drewN]; omega) | (simp; done) | (simp; omega)))
    have c2 := lcc hb (w.heap.size + 1) (by (first | omega | (simp only [sz_alloc, sz_setCell, sz_drew, sz_drewN]; omega) | (simp; done) | (simp; omega)))
    have f2 := lcf hb (w.heap.size + 1) (by (first | omega | (simp only [sz_alloc, sz_setCell, sz_drew, sz_drewN]; omega) | (simp; done) | (simp; omega)))
    have s2 := lcs hb (w.heap.size + 1) (by (first | omega | (simp only [sz_alloc, sz_setCell, sz_drew, sz_drewN]; omega) | (simp; done) | (simp; omega)))
    go_wp2
    refine bodyPost_ret (v := .agg #[.int .i64 (tk n d).n, .int .i64 (tk n d).d]) (by rw [HT.out]; simp [results, Tryz.results45, go_sem, hr, c1, c2]) rfl ⟨rfl, ?_⟩
    focus
      repeat with_reducible first | exact Below.refl _ _ | refine below_drewN ?_ _ | refine Below.drew ?_ | refine Below.setCell ?_ ?_ _ | refine Below.alloc ?_ ?_ _ | refine below_then ?_ ?_ (by with_reducible assumption)
      all_goals first | omega | (simp only [sA, sC, sD, sE]; omega) | (simp; done) | (simp; omega)
end Go.Proofs.YtnimenpfojcehaaGreatDoor
