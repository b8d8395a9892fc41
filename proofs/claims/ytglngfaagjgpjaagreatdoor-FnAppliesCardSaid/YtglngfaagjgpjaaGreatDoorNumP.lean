/- Walks of package num: Pow. Walks of package num: Pow of any number and any power. -/
import Derived.Test.YtglngfaagjgpjaaGreatDoorNumI
import Derived.Deep.Cut
import Derived.Deep.CutBlock
namespace Go.Proofs.YtglngfaagjgpjaaGreatDoor
open Go.RowKit
set_option linter.unusedSimpArgs false
set_option linter.unusedVariables false

/-! Pow -/
def powN (n d k : Int) : NmB :=
  if k = 0 ∨ ((tk n d).n = 1 ∧ (tk n d).d = 1) then ⟨1, 1, true⟩
  else if (tk n d).n = 0 then (if k < 0 then badB else ⟨(tk n d).n, (tk n d).d, true⟩)
  else if (if k < 0 then (tk n d).d.natAbs else (tk n d).n.natAbs) ^ k.natAbs ≤ 1000000000000 ∧ (if k < 0 then (tk n d).n.natAbs else (tk n d).d.natAbs) ^ k.natAbs ≤ 1000000 then
    ⟨if (tk n d).n < 0 ∧ k.tmod 2 ≠ 0 then -(((if k < 0 then (tk n d).d.natAbs else (tk n d).n.natAbs) ^ k.natAbs : Nat) : Int) else (((if k < 0 then (tk n d).d.natAbs else (tk n d).n.natAbs) ^ k.natAbs : Nat) : Int),
      (((if k < 0 then (tk n d).n.natAbs else (tk n d).d.natAbs) ^ k.natAbs : Nat) : Int), true⟩
  else badB
theorem pow_step (X i : Nat) : X ^ (i + 1) = X ^ i * X := Nat.pow_succ ..
theorem pow_ge {X i t : Nat} (hX : 0 < X) (h : i ≤ t) : X ^ i ≤ X ^ t := Nat.pow_le_pow_right hX h
theorem pow_ones {X Y t : Nat} (hX : 0 < X) (hY : 0 < Y) (h : X * Y ≤ 1) (i : Nat) : X ^ t = X ^ i ∧ Y ^ t = Y ^ i := by
  have h1 : X = 1 := by
    have := Nat.mul_le_mul_left X (show 1 ≤ Y from hY)
    omega
  have h2 : Y = 1 := by
    subst h1; omega
  subst h1; subst h2
  simp

theorem nat_over {P X m : Nat} (hX : 0 < X) (h : m / X < P) : m < P * X := (Nat.div_lt_iff_lt_mul hX).1 h
theorem nat_in {P X m : Nat} (hX : 0 < X) (h : ¬ m / X < P) : P * X ≤ m := (Nat.le_div_iff_mul_le hX).1 (by omega)
theorem num_Pow_one (n d k : Int) (w : World) (hn : I64 n) (hd : I64 d) (h1 : k = 0 ∨ ((tk n d).n = 1 ∧ (tk n d).d = 1)) :
    Calls Tryz.prog 136 #[.agg #[.int .i64 n, .int .i64 d], .int .i64 k] w fun e' w' => e' = .returned (.tuple #[.agg #[.int .i64 (powN n d k).n, .int .i64 (powN n d k).d], .bool (powN n d k).ok]) ∧ Below w.heap.size w w' := by
  have HF : Hid (powN n d k = ⟨1, 1, true⟩) := by unfold Hid powN; rw [if_pos h1]
  generalize powN n d k = Q at *
  by_cases h0 : k = 0
  · have b0 : (k == 0) = true := by simp [h0]
    clear h0 h1
    go_enter Tryz.func136, Tryz.ntmps136
    go_wp2_with fail
    refine (num_taken _ _ _ hn hd).mono ?_
    rintro e w1 ⟨rfl, hb⟩
    have c1 := lcc hb (w.heap.size) (by (first | omega | (simp only [sz_alloc, sz_setCell, sz_drew, sz_drewN]; omega) | (simp; done) | (simp; omega)))
    have f1 := lcf hb (w.heap.size) (by (first | omega | (simp only [sz_alloc, sz_setCell, sz_drew, sz_drewN]; omega) | (simp; done) | (simp; omega)))
    have s1 := lcs hb (w.heap.size) (by (first | omega | (simp only [sz_alloc, sz_setCell, sz_drew, sz_drewN]; omega) | (simp; done) | (simp; omega)))
    have c2 := lcc hb (w.heap.size + 1) (by (first | omega | (simp only [sz_alloc, sz_setCell, sz_drew, sz_drewN]; omega) | (simp; done) | (simp; omega)))
    have f2 := lcf hb (w.heap.size + 1) (by (first | omega | (simp only [sz_alloc, sz_setCell, sz_drew, sz_drewN]; omega) | (simp; done) | (simp; omega)))
    have s2 := lcs hb (w.heap.size + 1) (by (first | omega | (simp only [sz_alloc, sz_setCell, sz_drew, sz_drewN]; omega) | (simp; done) | (simp; omega)))
    go_wp2
    refine bodyPost_ret (v := .tuple #[.agg #[.int .i64 Q.n, .int .i64 Q.d], .bool Q.ok]) (by rw [HF.out]; simp [results, Tryz.results136, go_sem, c1, c2]) rfl ⟨rfl, ?_⟩
    focus
      repeat with_reducible first | exact Below.refl _ _ | refine below_drewN ?_ _ | refine Below.drew ?_ | refine Below.setCell ?_ ?_ _ | refine Below.alloc ?_ ?_ _ | refine below_then ?_ ?_ (by with_reducible assumption)
      all_goals first | omega | (simp only [sA, sC, sD, sE]; omega) | (simp; done) | (simp; omega)
  · have h2 := h1.resolve_left h0
    have b0 : (k == 0) = false := by simp [h0]
    have b1 : ((tk n d).n == 1) = true := by simp [h2.1]
    have b2 : ((tk n d).d == 1) = true := by simp [h2.2]
    clear h0 h1 h2
    go_enter Tryz.func136, Tryz.ntmps136
    go_wp2_with fail
    refine (num_taken _ _ _ hn hd).mono ?_
    rintro e w1 ⟨rfl, hb⟩
    have c3 := lcc hb (w.heap.size) (by (first | omega | (simp only [sz_alloc, sz_setCell, sz_drew, sz_drewN]; omega) | (simp; done) | (simp; omega)))
    have f3 := lcf hb (w.heap.size) (by (first | omega | (simp only [sz_alloc, sz_setCell, sz_drew, sz_drewN]; omega) | (simp; done) | (simp; omega)))
    have s3 := lcs hb (w.heap.size) (by (first | omega | (simp only [sz_alloc, sz_setCell, sz_drew, sz_drewN]; omega) | (simp; done) | (simp; omega)))
    have c4 := lcc hb (w.heap.size + 1) (by (first | omega | (simp only [sz_alloc, sz_setCell, sz_drew, sz_drewN]; omega) | (simp; done) | (simp; omega)))
    have f4 := lcf hb (w.heap.size + 1) (by (first | omega | (simp only [sz_alloc, sz_setCell, sz_drew, sz_drewN]; omega) | (simp; done) | (simp; omega)))
    have s4 := lcs hb (w.heap.size + 1) (by (first | omega | (simp only [sz_alloc, sz_setCell, sz_drew, sz_drewN]; omega) | (simp; done) | (simp; omega)))
    go_wp2
    refine bodyPost_ret (v := .tuple #[.agg #[.int .i64 Q.n, .int .i64 Q.d], .bool Q.ok]) (by rw [HF.out]; simp [results, Tryz.results136, go_sem, c3, c4]) rfl ⟨rfl, ?_⟩
    focus
      repeat with_reducible first | exact Below.refl _ _ | refine below_drewN ?_ _ | refine Below.drew ?_ | refine Below.setCell ?_ ?_ _ | refine Below.alloc ?_ ?_ _ | refine below_then ?_ ?_ (by with_reducible assumption)
      all_goals first | omega | (simp only [sA, sC, sD, sE]; omega) | (simp; done) | (simp; omega)
set_option maxHeartbeats 4000000 in
theorem num_Pow_main (n d k : Int) (w : World) (hn : I64 n) (hd : I64 d) (hk : I64 k) (h0 : ¬ k = 0) (h1 : ¬ ((tk n d).n = 1 ∧ (tk n d).d = 1)) (hz : ¬ (tk n d).n = 0) :
    Calls Tryz.prog 136 #[.agg #[.int .i64 n, .int .i64 d], .int .i64 k] w fun e' w' => e' = .returned (.tuple #[.agg #[.int .i64 (powN n d k).n, .int .i64 (powN n d k).d], .bool (powN n d k).ok]) ∧ Below w.heap.size w w' := by
  obtain ⟨a1, a2, a3, a4⟩ := tk_bd n d
  obtain ⟨k1, k2⟩ := hk
  have b0 : (k == 0) = false := by simp [h0]
  have bz : ((tk n d).n == 0) = false := by simp [hz]
  have HS1 := Lib.hid fun wx => num_size (tk n d).n wx (I64.tkn n d)
  have HT := Lib.hid fun wx => num_taken n d wx hn hd
  have HS2 := Lib.hid fun wx => num_size k wx ⟨k1, k2⟩
  have hd2 : ((tk n d).d.natAbs : Int) = (tk n d).d := by omega
  have wd : IntKind.u64.wrap (tk n d).d = ((tk n d).d.natAbs : Int) := by rw [IntKind.wrap_u64]; omega
  have ht := Int.natAbs_pos.2 h0
  obtain ⟨T, eT⟩ : ∃ T, T = k.natAbs := ⟨_, rfl⟩
  obtain ⟨X, Y, hXY, hX0, hX1, hY0, hY1, hpr, HF⟩ : ∃ X Y : Nat, ((k < 0 ∧ X = (tk n d).d.natAbs ∧ Y = (tk n d).n.natAbs) ∨ (¬ k < 0 ∧ X = (tk n d).n.natAbs ∧ Y = (tk n d).d.natAbs)) ∧ 0 < X ∧ X ≤ 1000000000000 ∧ 0 < Y ∧ Y ≤ 1000000000000 ∧ X * Y ≤ 1000000000000000000 ∧
      powN n d k = if X ^ T ≤ 1000000000000 ∧ Y ^ T ≤ 1000000 then ⟨if (tk n d).n < 0 ∧ k.tmod 2 ≠ 0 then -((X ^ T : Nat) : Int) else ((X ^ T : Nat) : Int), ((Y ^ T : Nat) : Int), true⟩ else badB := by
    by_cases hs : k < 0
    · refine ⟨_, _, .inl ⟨hs, rfl, rfl⟩, by omega, by omega, by omega, by omega, ?_, ?_⟩
      · exact Nat.le_trans (Nat.mul_le_mul (show _ ≤ 1000000 by omega) (show _ ≤ 1000000000000 by omega)) (by decide)
      · unfold powN
        rw [if_neg (by rintro (h | h); exact h0 h; exact h1 h), if_neg hz, if_pos hs, if_pos hs, eT]
    · refine ⟨_, _, .inr ⟨hs, rfl, rfl⟩, by omega, by omega, by omega, by omega, ?_, ?_⟩
      · exact Nat.le_trans (Nat.mul_le_mul (show _ ≤ 1000000000000 by omega) (show _ ≤ 1000000 by omega)) (by decide)
      · unfold powN
        rw [if_neg (by rintro (h | h); exact h0 h; exact h1 h), if_neg hz, if_neg hs, if_neg hs, eT]
  generalize powN n d k = Q at *
  generalize tk n d = t at *
  replace HF := Lib.hid HF
  have wXY : IntKind.u64.wrap ((X : Int) * (Y : Int)) = ((X * Y : Nat) : Int) := by rw [IntKind.wrap_u64]; push_cast; omega
  have q1 : (1000000000000 : Int) / (X : Int) = ((1000000000000 / X : Nat) : Int) := rfl
  have q2 : (1000000 : Int) / (Y : Int) = ((1000000 / Y : Nat) : Int) := rfl
  have x0 : ((X : Int) == 0) = false := by rw [beq_eq_false_iff_ne]; omega
  have y0 : ((Y : Int) == 0) = false := by rw [beq_eq_false_iff_ne]; omega
  have ov1 := Lib.hid fun (P : Nat) (h : 1000000000000 / X < P) => nat_over hX0 h
  have ov2 := Lib.hid fun (P : Nat) (h : 1000000 / Y < P) => nat_over hY0 h
  have in1 := Lib.hid fun (P : Nat) (h : ¬ 1000000000000 / X < P) => nat_in hX0 h
  have in2 := Lib.hid fun (P : Nat) (h : ¬ 1000000 / Y < P) => nat_in hY0 h
  have stX := Lib.hid fun i => pow_step X i
  have stY := Lib.hid fun i => pow_step Y i
  have geX := Lib.hid fun (i : Nat) (h : i ≤ T) => pow_ge hX0 h
  have geY := Lib.hid fun (i : Nat) (h : i ≤ T) => pow_ge hY0 h
  have one := Lib.hid fun (h : X * Y ≤ 1) (i : Nat) => pow_ones (t := T) hX0 hY0 h i
  generalize 1000000000000 / X = D1 at *
  generalize 1000000 / Y = D2 at *
  have hT : T ≤ 9223372036854775808 := by omega
  obtain ⟨Z, eZ⟩ : ∃ Z, Z = X * Y := ⟨_, rfl⟩
  rw [← eZ] at wXY hpr one
  rw [← eT] at HS2
  have hone : (t.n == 1) = false ∨ ((t.n == 1) = true ∧ (t.d == 1) = false) := by
    cases c1 : (t.n == 1)
    · exact .inl rfl
    · refine .inr ⟨rfl, ?_⟩
      cases c2 : (t.d == 1)
      · rfl
      · exact absurd ⟨eq_of_beq c1, eq_of_beq c2⟩ h1
  · skip
    have HQ2 : Hid (∀ wx : World, Calls Tryz.prog 107 #[.int .i64 k] wx fun e w' => e = .returned (.int .u64 T) ∧ w' = wx) := fun wx => (HS2.out wx).mono fun e w' h => ⟨h.1, h.2.symm⟩
    have HQ1 : Hid (∀ wx : World, Calls Tryz.prog 107 #[.int .i64 t.n] wx fun e w' => e = .returned (.int .u64 t.n.natAbs) ∧ w' = wx) := fun wx => (HS1.out wx).mono fun e w' h => ⟨h.1, h.2.symm⟩
    clear HS1 HS2 h0 h1 hz eT ht hd2
    go_enter Tryz.func136, Tryz.ntmps136
    go_wp2_with fail
    refine (HT.out _).mono ?_
    rintro e wA ⟨rfl, hb⟩
    obtain ⟨s5, c5_0, c5_1, f5⟩ := L2 hb (w.heap.size) (by first | omega | (simp only [sA, sC, sD, sE]; omega) | (simp; done) | (simp; omega)) (by go_simp; exact ⟨rfl, rfl⟩) (by intro o; go_simp)
    obtain ⟨s6, c6_0, c6_1, f6⟩ := L2 hb (w.heap.size + 1) (by first | omega | (simp only [sA, sC, sD, sE]; omega) | (simp; done) | (simp; omega)) (by go_simp; exact ⟨rfl, rfl⟩) (by intro o; go_simp)
    go_upto_region 3 with (fail)
    go_cut [19] from 20 to 31 (fun c wx => c = .bool false ∧ wx = ((wA.setCell ⟨w.heap.size, 0, none⟩ (.int .i64 t.n)).setCell ⟨w.heap.size, 1, none⟩ (.int .i64 t.d)))
    case first =>
      rcases hone with c1 | ⟨c1, c2⟩
      · go_wp2
        go_meet
        exact ⟨rfl, rfl⟩
      · go_wp2
        go_meet
        exact ⟨rfl, rfl⟩
    case rest =>
     obtain ⟨rfl, rfl⟩ := hcut
     clear hone
     go_wp2
     go_quiet ((first | (go_at_call 107; with_reducible exact Calls.quiet_of_same (HQ1.out _)) | (go_at_call 107; with_reducible exact quiet_add_same (HQ1.out _)) | (go_at_call 107; with_reducible exact Calls.quiet_of_same (HQ2.out _)) | (go_at_call 107; with_reducible exact quiet_add_same (HQ2.out _))))
     go_upto_if 56 with (fail)
     go_cut [7, 8] from 57 (fun x y wx => x = .int .u64 X ∧ y = .int .u64 Y ∧ wx = ((wA.setCell ⟨w.heap.size, 0, none⟩ (.int .i64 t.n)).setCell ⟨w.heap.size, 1, none⟩ (.int .i64 t.d)).drewN nq)
     case first =>
       rcases hXY with ⟨hs, rfl, rfl⟩ | ⟨hs, rfl, rfl⟩
       · go_wp2
         go_meet
         exact ⟨rfl, rfl, rfl⟩
       · go_wp2
         go_meet
         exact ⟨rfl, rfl, rfl⟩
     case rest =>
      obtain ⟨rfl, rfl, rfl⟩ := hcut
      clear hXY HQ1 HQ2 HT wd
      go_wp2
      go_loop [10, 11, 12] (fun x y i => ∃ j : Nat, j ≤ T ∧ x = .int .u64 ((X ^ j : Nat) : Int) ∧ y = .int .u64 ((Y ^ j : Nat) : Int) ∧ i = .int .u64 j ∧ X ^ j ≤ 1000000000000 ∧ Y ^ j ≤ 1000000) (fun _ _ i => T - (intOf i).toNat)
      case atStart => exact ⟨0, Nat.zero_le _, rfl, rfl, rfl, by simp, by simp⟩
      case round =>
        obtain ⟨j, hj, rfl, rfl, rfl, l1, l2⟩ := hrel
        have sX := stX.out j
        have sY := stY.out j
        have gX := geX.out (j + 1)
        have gY := geY.out (j + 1)
        have o1 := ov1.out (X ^ j)
        have o2 := ov2.out (Y ^ j)
        have n1 := in1.out (X ^ j)
        have n2 := in2.out (Y ^ j)
        have HO := one.out
        obtain ⟨P, eP⟩ : ∃ P, P = X ^ j := ⟨_, rfl⟩
        obtain ⟨R, eR⟩ : ∃ R, R = Y ^ j := ⟨_, rfl⟩
        rw [← eP] at l1 sX o1 n1
        rw [← eR] at l2 sY o2 n2
        have fin : X ^ T = P ∧ Y ^ T = R → Hid (Q = ⟨if t.n < 0 ∧ k.tmod 2 ≠ 0 then -(P : Int) else (P : Int), (R : Int), true⟩) := by
          rintro ⟨e1, e2⟩
          unfold Hid
          rw [HF.out, e1, e2, if_pos ⟨l1, l2⟩]
        have fin1 : Z ≤ 1 → Hid (Q = ⟨if t.n < 0 ∧ k.tmod 2 ≠ 0 then -(P : Int) else (P : Int), (R : Int), true⟩) := fun h => fin ⟨by rw [eP]; exact (HO h j).1, by rw [eR]; exact (HO h j).2⟩
        have fin2 : j = T → Hid (Q = ⟨if t.n < 0 ∧ k.tmod 2 ≠ 0 then -(P : Int) else (P : Int), (R : Int), true⟩) := fun h => fin ⟨by rw [eP, h], by rw [eR, h]⟩
        have bad1 : j < T → D1 < P → Hid (Q = badB) := by
          intro h h'
          unfold Hid
          rw [HF.out, if_neg]
          rintro ⟨g, _⟩
          have := gX h
          have := o1 h'
          omega
        have bad2 : j < T → D2 < R → Hid (Q = badB) := by
          intro h h'
          unfold Hid
          rw [HF.out, if_neg]
          rintro ⟨_, g⟩
          have := gY h
          have := o2 h'
          omega
        rw [← eP, ← eR]
        have HB := Lib.hid hb
        have EP := Lib.hid (And.intro eP eR)
        have SS := Lib.hid (And.intro sX sY)
        clear fin gX gY o1 o2 HO hb eP eR sX sY
        have fin0 : ¬ (j < T ∧ 1 < Z) → Hid (Q = ⟨if t.n < 0 ∧ k.tmod 2 ≠ 0 then -(P : Int) else (P : Int), (R : Int), true⟩) := by
          intro h
          by_cases hlt : j < T
          · exact fin1 (Nat.le_of_not_lt fun hz => h ⟨hlt, hz⟩)
          · exact fin2 (by omega)
        clear fin1 fin2
        go_upto_region 14 with (fail)
        go_cut [67] from 59 to 86 (fun c wx => c = .bool (decide (j < T ∧ 1 < Z)) ∧ wx = ((wA.setCell ⟨w.heap.size, 0, none⟩ (.int .i64 t.n)).setCell ⟨w.heap.size, 1, none⟩ (.int .i64 t.d)).drewN nq)
        case first =>
          by_cases hlt : j < T
          · by_cases hz1 : 1 < Z
            · go_wp2
              go_meet
              refine ⟨by
                rw [decide_eq_true (show j < T ∧ 1 < Z from ⟨hlt, hz1⟩)]
                first | done | (have h := hz1; rw [eZ] at h; simp; exact_mod_cast h) | (have h := hz1; rw [eZ] at h; exact_mod_cast h), rfl⟩
            · go_wp2
              go_meet
              refine ⟨by
                rw [decide_eq_false (show ¬ (j < T ∧ 1 < Z) from fun h => hz1 h.2)]
                have h : X * Y ≤ 1 := by rw [← eZ]; omega
                first | (simp; exact_mod_cast h) | exact_mod_cast h, rfl⟩
          · go_wp2
            go_meet
            exact ⟨by simp [hlt], rfl⟩
        case rest =>
          obtain ⟨rfl, rfl⟩ := hcut
          by_cases hgo : j < T ∧ 1 < Z
          · rw [decide_eq_true hgo]
            obtain ⟨hlt, hz1⟩ := hgo
            by_cases d1 : D1 < P
            · have HV := bad1 hlt d1
              clear bad1 bad2 fin0 n1 n2
              go_wp2
              have hb := HB.out
              refine bodyPost_ret (v := .tuple #[.agg #[.int .i64 Q.n, .int .i64 Q.d], .bool Q.ok]) (by rw [HV.out]; simp [results, Tryz.results136, go_sem, c5_0, c5_1, c6_0, c6_1, badB]) rfl ⟨rfl, ?_⟩
              focus
                repeat with_reducible first | exact Below.refl _ _ | refine below_drewN ?_ _ | refine Below.drew ?_ | refine Below.setCell ?_ ?_ _ | refine Below.alloc ?_ ?_ _ | refine below_then ?_ ?_ (by with_reducible assumption)
                all_goals first | omega | (simp only [sA, sC, sD, sE]; omega) | (simp; done) | (simp; omega)
            by_cases d2 : D2 < R
            · have HV := bad2 hlt d2
              clear bad1 bad2 fin0 n1 n2
              go_wp2
              have hb := HB.out
              refine bodyPost_ret (v := .tuple #[.agg #[.int .i64 Q.n, .int .i64 Q.d], .bool Q.ok]) (by rw [HV.out]; simp [results, Tryz.results136, go_sem, c5_0, c5_1, c6_0, c6_1, badB]) rfl ⟨rfl, ?_⟩
              focus
                repeat with_reducible first | exact Below.refl _ _ | refine below_drewN ?_ _ | refine Below.drew ?_ | refine Below.setCell ?_ ?_ _ | refine Below.alloc ?_ ?_ _ | refine below_then ?_ ?_ (by with_reducible assumption)
                all_goals first | omega | (simp only [sA, sC, sD, sE]; omega) | (simp; done) | (simp; omega)
            have m1 := n1 d1
            have m2 := n2 d2
            have u1 : IntKind.u64.wrap ((P : Int) * (X : Int)) = ((P * X : Nat) : Int) := by rw [IntKind.wrap_u64]; push_cast; omega
            have u2 : IntKind.u64.wrap ((R : Int) * (Y : Int)) = ((R * Y : Nat) : Int) := by rw [IntKind.wrap_u64]; push_cast; omega
            clear bad1 bad2 fin0 n1 n2
            go_wp2
            go_round
            case rel =>
              refine ⟨j + 1, by omega, ?_, ?_, by go_num, ?_, ?_⟩
              · rw [SS.out.1]; first | rfl | (push_cast; rfl) | simp
              · rw [SS.out.2]; first | rfl | (push_cast; rfl) | simp
              · rw [SS.out.1]; exact m1
              · rw [SS.out.2]; exact m2
            case measure => simp [intOf]; omega
          · rw [decide_eq_false hgo]
            have HW := fin0 hgo
            clear bad1 bad2 fin0 n1 n2 in1 in2 ov1 ov2 one stX stY geX geY SS EP HF q1 q2 hT
            have hbx := HB.out
            have hW2 : Hid (∀ q : Bool, (k.tmod 2 != 0) = q → Q = ⟨if t.n < 0 ∧ q = true then -(P : Int) else (P : Int), (R : Int), true⟩) := by
              rintro q rfl
              rw [HW.out]
              simp only [bne_iff_ne]
            clear HW
            go_upto_region 19 with (fail)
            obtain ⟨od, ho⟩ : ∃ od : Bool, (k.tmod 2 != 0) = od := ⟨_, rfl⟩
            have HV := hW2.out od ho
            rw [ho]
            clear hW2 ho
            by_cases hneg : t.n < 0 <;> cases od
            all_goals
              simp only [hneg, Bool.false_eq_true, true_and, and_true, and_false, false_and, if_true, if_false] at HV
              replace HV := Lib.hid HV
              go_upto_region 22 with (fail)
              first | with_reducible refine wp_rebase ?_ | with_reducible refine wpList_rebase ?_
              intro w1 hb'
              have hb := hb'.out
              clear hb'
              obtain ⟨s7, c7_0, c7_1, f7⟩ := L2 hb (w.heap.size + 1) (by first | omega | (simp only [sA, sC, sD, sE]; omega) | (simp; done) | (simp; omega)) (by go_simp; exact ⟨rfl, rfl⟩) (by intro o; go_simp)
              obtain ⟨s8, c8_0, c8_1, f8⟩ := L2 hb (wA.heap.size) (by first | omega | (simp only [sA, sC, sD, sE]; omega) | (simp; done) | (simp; omega)) (by go_simp; exact ⟨rfl, rfl⟩) (by intro o; go_simp)
              clear c5_0 c5_1 f5 c6_0 c6_1 f6
              go_wp2
              refine bodyPost_ret (v := .tuple #[.agg #[.int .i64 Q.n, .int .i64 Q.d], .bool Q.ok]) (by rw [HV.out]; simp [results, Tryz.results136, go_sem, c7_0, c7_1, c8_0, c8_1]) rfl ⟨rfl, ?_⟩
              focus
                repeat with_reducible first | exact Below.refl _ _ | refine below_drewN ?_ _ | refine Below.drew ?_ | refine Below.setCell ?_ ?_ _ | refine Below.alloc ?_ ?_ _ | refine below_then ?_ ?_ (by with_reducible assumption)
                all_goals first | omega | (simp only [sA, sC, sD, sE]; omega) | (simp; done) | (simp; omega)
end Go.Proofs.YtglngfaagjgpjaaGreatDoor
namespace Go.Proofs.YtglngfaagjgpjaaGreatDoor
open Go.RowKit
set_option linter.unusedSimpArgs false
set_option linter.unusedVariables false

set_option maxHeartbeats 1000000 in
theorem num_Pow_zero (n d k : Int) (w : World) (hn : I64 n) (hd : I64 d) (hk : I64 k) (h0 : ¬ k = 0) (hz : (tk n d).n = 0) :
    Calls Tryz.prog 136 #[.agg #[.int .i64 n, .int .i64 d], .int .i64 k] w fun e' w' => e' = .returned (.tuple #[.agg #[.int .i64 (powN n d k).n, .int .i64 (powN n d k).d], .bool (powN n d k).ok]) ∧ Below w.heap.size w w' := by
  have HF : powN n d k = if k < 0 then badB else ⟨(tk n d).n, (tk n d).d, true⟩ := by
    unfold powN
    rw [if_neg (by rintro (h | ⟨h, _⟩); exact h0 h; omega), if_pos hz]
  have HT := Lib.hid fun wx => num_taken n d wx hn hd
  have b0 : (k == 0) = false := by simp [h0]
  have b1 : ((tk n d).n == 0) = true := by simp [hz]
  have b2 : ((tk n d).n == 1) = false := by simp [hz]
  obtain ⟨k1, k2⟩ := hk
  generalize powN n d k = Q at *
  generalize tk n d = t at *
  clear hz h0
  by_cases hs : k < 0
  · rw [if_pos hs] at HF
    replace HF := Lib.hid HF
    go_enter Tryz.func136, Tryz.ntmps136
    go_wp2_with fail
    refine (HT.out _).mono ?_
    rintro e w1 ⟨rfl, hb⟩
    obtain ⟨s9, c9_0, c9_1, f9⟩ := L2 hb (w.heap.size) (by first | omega | (simp only [sA, sC, sD, sE]; omega) | (simp; done) | (simp; omega)) (by go_simp; exact ⟨rfl, rfl⟩) (by intro o; go_simp)
    obtain ⟨s10, c10_0, c10_1, f10⟩ := L2 hb (w.heap.size + 1) (by first | omega | (simp only [sA, sC, sD, sE]; omega) | (simp; done) | (simp; omega)) (by go_simp; exact ⟨rfl, rfl⟩) (by intro o; go_simp)
    go_wp2
    refine bodyPost_ret (v := .tuple #[.agg #[.int .i64 Q.n, .int .i64 Q.d], .bool Q.ok]) (by rw [HF.out]; simp [results, Tryz.results136, go_sem, c9_0, c9_1, c10_0, c10_1, badB]) rfl ⟨rfl, ?_⟩
    focus
      repeat with_reducible first | exact Below.refl _ _ | refine below_drewN ?_ _ | refine Below.drew ?_ | refine Below.setCell ?_ ?_ _ | refine Below.alloc ?_ ?_ _ | refine below_then ?_ ?_ (by with_reducible assumption)
      all_goals first | omega | (simp only [sA, sC, sD, sE]; omega) | (simp; done) | (simp; omega)
  · rw [if_neg hs] at HF
    replace HF := Lib.hid HF
    go_enter Tryz.func136, Tryz.ntmps136
    go_wp2_with fail
    refine (HT.out _).mono ?_
    rintro e w1 ⟨rfl, hb⟩
    obtain ⟨s11, c11_0, c11_1, f11⟩ := L2 hb (w.heap.size) (by first | omega | (simp only [sA, sC, sD, sE]; omega) | (simp; done) | (simp; omega)) (by go_simp; exact ⟨rfl, rfl⟩) (by intro o; go_simp)
    obtain ⟨s12, c12_0, c12_1, f12⟩ := L2 hb (w.heap.size + 1) (by first | omega | (simp only [sA, sC, sD, sE]; omega) | (simp; done) | (simp; omega)) (by go_simp; exact ⟨rfl, rfl⟩) (by intro o; go_simp)
    go_wp2
    refine bodyPost_ret (v := .tuple #[.agg #[.int .i64 Q.n, .int .i64 Q.d], .bool Q.ok]) (by rw [HF.out]; simp [results, Tryz.results136, go_sem, c11_0, c11_1, c12_0, c12_1]) rfl ⟨rfl, ?_⟩
    focus
      repeat with_reducible first | exact Below.refl _ _ | refine below_drewN ?_ _ | refine Below.drew ?_ | refine Below.setCell ?_ ?_ _ | refine Below.alloc ?_ ?_ _ | refine below_then ?_ ?_ (by with_reducible assumption)
      all_goals first | omega | (simp only [sA, sC, sD, sE]; omega) | (simp; done) | (simp; omega)
theorem num_Pow (n d k : Int) (w : World) (hn : I64 n) (hd : I64 d) (hk : I64 k) :
    Calls Tryz.prog 136 #[.agg #[.int .i64 n, .int .i64 d], .int .i64 k] w fun e' w' => e' = .returned (.tuple #[.agg #[.int .i64 (powN n d k).n, .int .i64 (powN n d k).d], .bool (powN n d k).ok]) ∧ Below w.heap.size w w' := by
  by_cases h1 : k = 0 ∨ ((tk n d).n = 1 ∧ (tk n d).d = 1)
  · exact num_Pow_one n d k w hn hd h1
  by_cases hz : (tk n d).n = 0
  · exact num_Pow_zero n d k w hn hd hk (fun h => h1 (.inl h)) hz
  · exact num_Pow_main n d k w hn hd hk (fun h => h1 (.inl h)) (fun h => h1 (.inr h)) hz
end Go.Proofs.YtglngfaagjgpjaaGreatDoor
