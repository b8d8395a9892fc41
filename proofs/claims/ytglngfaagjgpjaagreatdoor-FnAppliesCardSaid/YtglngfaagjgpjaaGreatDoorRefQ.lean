/- The walk of the reference's power of a number, where it multiplies. -/
import Derived.Test.YtglngfaagjgpjaaGreatDoorRefP
import Derived.Deep.Cut
import Derived.Deep.CutBlock
namespace Go.Proofs.YtglngfaagjgpjaaGreatDoor
open Go Go.RowKit
set_option linter.unusedSimpArgs false
set_option linter.unusedVariables false
theorem made_cop (b : Bool) (P R : Nat) (w : World) (hP : P ≤ 1000000000000) (hR : R ≤ 1000000) (hg : Nat.gcd P R = 1) :
    Calls Tryz.prog 168 #[.bool b, .int .u64 P, .int .u64 R] w fun e w' => e = .returned (.tuple #[.agg #[.int .i64 (if b then -(P : Int) else P), .int .i64 R], .bool true]) ∧ Below w.heap.size w w' := by
  have h := r1_made b P R w (by omega) (by omega) (by omega)
  rw [hg, Nat.div_one, Nat.div_one] at h
  have e : signed b P R = ⟨if b then -(P : Int) else P, R, true⟩ := by unfold signed; rw [if_neg (by omega)]
  rw [e] at h
  exact h
set_option maxHeartbeats 4000000 in
theorem r1_Pow_main (n d k : Int) (w : World) (hn : I64 n) (hd : I64 d) (hk : I64 k) (h0 : ¬ k = 0) (hz : ¬ (tk n d).n = 0) (h1 : ¬ ((tk n d).d = 1 ∧ ((tk n d).n = 1 ∨ (tk n d).n = -1))) :
    Calls Tryz.prog 162 #[.agg #[.int .i64 n, .int .i64 d], .int .i64 k] w fun e' w' => e' = .returned (.tuple #[.agg #[.int .i64 (powN n d k).n, .int .i64 (powN n d k).d], .bool (powN n d k).ok]) ∧ Below w.heap.size w w' := by
  obtain ⟨a1, a2, a3, a4⟩ := tk_bd n d
  obtain ⟨k1, k2⟩ := hk
  have b0 : (k == 0) = false := by simp [h0]
  have bz : ((tk n d).n == 0) = false := by simp [hz]
  have HS1 := Lib.hid fun wx => r1_far (tk n d).n wx (I64.tkn n d)
  have HT := Lib.hid fun wx => r1_Of n d wx hn hd
  have HS2 := Lib.hid fun wx => r1_far k wx ⟨k1, k2⟩
  have wd : IntKind.u64.wrap (tk n d).d = ((tk n d).d.natAbs : Int) := by rw [IntKind.wrap_u64]; omega
  have hcop : Nat.gcd (tk n d).n.natAbs (tk n d).d.natAbs = 1 := (rightN_iff.1 (tk_right n d)).2.2.2.2
  obtain ⟨T, eT⟩ : ∃ T, k.natAbs = T := ⟨_, rfl⟩
  obtain ⟨X, Y, hXY, hX0, hX1, hY0, hY1, hg, HF⟩ : ∃ X Y : Nat, ((k < 0 ∧ (tk n d).d.natAbs = X ∧ (tk n d).n.natAbs = Y) ∨ (¬ k < 0 ∧ (tk n d).n.natAbs = X ∧ (tk n d).d.natAbs = Y)) ∧ 0 < X ∧ X ≤ 1000000000000 ∧ 0 < Y ∧ Y ≤ 1000000000000 ∧ Nat.gcd (X ^ T) (Y ^ T) = 1 ∧
      powN n d k = if X ^ T ≤ 1000000000000 ∧ Y ^ T ≤ 1000000 then ⟨if (tk n d).n < 0 ∧ k.tmod 2 ≠ 0 then -((X ^ T : Nat) : Int) else ((X ^ T : Nat) : Int), ((Y ^ T : Nat) : Int), true⟩ else badB := by
    by_cases hs : k < 0
    · refine ⟨_, _, .inl ⟨hs, rfl, rfl⟩, by omega, by omega, by omega, by omega, ?_, ?_⟩
      · exact Nat.Coprime.pow _ _ (Nat.coprime_comm.1 hcop)
      · unfold powN
        rw [if_neg (by rintro (h | h); exact h0 h; exact h1 ⟨h.2, .inl h.1⟩), if_neg hz, if_pos hs, if_pos hs, eT]
    · refine ⟨_, _, .inr ⟨hs, rfl, rfl⟩, by omega, by omega, by omega, by omega, ?_, ?_⟩
      · exact Nat.Coprime.pow _ _ hcop
      · unfold powN
        rw [if_neg (by rintro (h | h); exact h0 h; exact h1 ⟨h.2, .inl h.1⟩), if_neg hz, if_neg hs, if_neg hs, eT]
  rw [eT] at HS2
  have hT : T ≤ 9223372036854775808 := by omega
  have hone : ((tk n d).d == 1) = false ∨ (((tk n d).d == 1) = true ∧ ((tk n d).n == 1) = false ∧ ((tk n d).n == -1) = false) := by
    cases c1 : ((tk n d).d == 1)
    · exact .inl rfl
    · have e1 := eq_of_beq c1
      refine .inr ⟨rfl, ?_, ?_⟩
      · rw [beq_eq_false_iff_ne]; exact fun h => h1 ⟨e1, .inl h⟩
      · rw [beq_eq_false_iff_ne]; exact fun h => h1 ⟨e1, .inr h⟩
  generalize powN n d k = Q at *
  generalize tk n d = t at *
  replace HF := Lib.hid HF
  have q1 : (1000000000000 : Int) / (X : Int) = ((1000000000000 / X : Nat) : Int) := rfl
  have q2 : (1000000 : Int) / (Y : Int) = ((1000000 / Y : Nat) : Int) := rfl
  have x0 : ((X : Int) == 0) = false := by rw [beq_eq_false_iff_ne]; omega
  have y0 : ((Y : Int) == 0) = false := by rw [beq_eq_false_iff_ne]; omega
  have ov1 := Lib.hid fun (P : Nat) (h : 1000000000000 / X < P) => nat_over hX0 h
  have ov2 := Lib.hid fun (P : Nat) (h : 1000000 / Y < P) => nat_over hY0 h
  have in1 := Lib.hid fun (P : Nat) (h : ¬ 1000000000000 / X < P) => nat_in hX0 h
  have in2 := Lib.hid fun (P : Nat) (h : ¬ 1000000 / Y < P) => nat_in hY0 h
  have stX := Lib.hid fun i => pow_step X i
  have stY := Lib.hid fun i => pow_step Y i
  have geX := Lib.hid fun (i : Nat) (h : i ≤ T) => pow_ge hX0 h
  have geY := Lib.hid fun (i : Nat) (h : i ≤ T) => pow_ge hY0 h
  have HM : Hid (∀ (b : Bool) (P R : Nat) (wx : World), P = X ^ T → R = Y ^ T → P ≤ 1000000000000 → R ≤ 1000000 → Calls Tryz.prog 168 #[.bool b, .int .u64 P, .int .u64 R] wx fun e w' => e = .returned (.tuple #[.agg #[.int .i64 (if b then -(P : Int) else P), .int .i64 R], .bool true]) ∧ Below wx.heap.size wx w') := by
    rintro b P R wx rfl rfl h1 h2
    exact made_cop b _ _ wx h1 h2 hg
  generalize 1000000000000 / X = D1 at *
  generalize 1000000 / Y = D2 at *
  clear h0 h1 hz hcop eT hg
  clear a1 a2 a3 a4
  go_enter Tryz.func162, Tryz.ntmps162
  go_wp2_with fail
  refine (HT.out _).mono ?_
  rintro e wA ⟨rfl, hb⟩
  obtain ⟨s1, c1_0, c1_1, f1⟩ := L2 hb (w.heap.size) (by first | omega | (simp only [sA, sC, sD, sE]; omega) | (simp; done) | (simp; omega)) (by go_simp; exact ⟨rfl, rfl⟩) (by intro o; go_simp)
  obtain ⟨s2, c2_0, c2_1, f2⟩ := L2 hb (w.heap.size + 1) (by first | omega | (simp only [sA, sC, sD, sE]; omega) | (simp; done) | (simp; omega)) (by go_simp; exact ⟨rfl, rfl⟩) (by intro o; go_simp)
  go_upto_region 9 with (fail)
  first | with_reducible refine wp_rebase ?_ | with_reducible refine wpList_rebase ?_
  intro w1 hb'
  have hb := hb'.out
  clear hb'
  obtain ⟨s3, c3_0, c3_1, f3⟩ := L2 hb (w.heap.size) (by first | omega | (simp only [sA, sC, sD, sE]; omega) | (simp; done) | (simp; omega)) (by go_simp; exact ⟨rfl, rfl⟩) (by intro o; go_simp)
  obtain ⟨s4, c4_0, c4_1, f4⟩ := L2 hb (w.heap.size + 1) (by first | omega | (simp only [sA, sC, sD, sE]; omega) | (simp; done) | (simp; omega)) (by go_simp; exact ⟨rfl, rfl⟩) (by intro o; go_simp)
  clear c1_0 c1_1 f1 c2_0 c2_1 f2
  go_cut [37] from 25 to 37 (fun c wx => c = .bool false ∧ wx = w1)
  case first =>
    rcases hone with c1 | ⟨c1, c2, c3⟩
    all_goals
      go_wp2
      go_meet
      exact ⟨rfl, rfl⟩
  case rest =>
    obtain ⟨rfl, rfl⟩ := hcut
    clear hone
    go_wp2_with fail
    refine (HS1.out _).mono ?_
    rintro e wB ⟨rfl, rfl⟩
    go_upto_if 55 with (fail)
    go_cut [9, 10] from 55 to 63 (fun x y wx => x = .int .u64 X ∧ y = .int .u64 Y ∧ wx = wc)
    case first =>
      rcases hXY with ⟨hs, e1, e2⟩ | ⟨hs, e1, e2⟩
      · replace e1 := Lib.hid e1
        replace e2 := Lib.hid e2
        go_wp2_with fail
        refine (HS1.out _).mono ?_
        rintro e wC ⟨rfl, rfl⟩
        go_wp2
        go_meet
        exact ⟨by rw [e1.out], by rw [e2.out], rfl⟩
      · replace e1 := Lib.hid e1
        replace e2 := Lib.hid e2
        go_wp2
        go_meet
        exact ⟨by rw [e1.out], by rw [e2.out], rfl⟩
    case rest =>
      obtain ⟨rfl, rfl, rfl⟩ := hcut
      go_wp2
      clear bz b0 HS1 HT wd hXY
      go_loop [7, 8, 11] (fun x y i => ∃ j : Nat, j ≤ T ∧ x = .int .u64 ((X ^ j : Nat) : Int) ∧ y = .int .u64 ((Y ^ j : Nat) : Int) ∧ i = .int .u64 j ∧ X ^ j ≤ 1000000000000 ∧ Y ^ j ≤ 1000000) (fun _ _ i => T - (intOf i).toNat)
      case atStart => exact ⟨0, Nat.zero_le _, rfl, rfl, rfl, by simp, by simp⟩
      case round =>
        obtain ⟨j, hj, rfl, rfl, rfl, l1, l2⟩ := hrel
        have sX := stX.out j
        have sY := stY.out j
        have gX := geX.out (j + 1)
        have gY := geY.out (j + 1)
        have o1 := ov1.out (X ^ j)
        have o2 := ov2.out (Y ^ j)
        have n1 := in1.out (X ^ j)
        have n2 := in2.out (Y ^ j)
        obtain ⟨P, eP⟩ : ∃ P, P = X ^ j := ⟨_, rfl⟩
        obtain ⟨R, eR⟩ : ∃ R, R = Y ^ j := ⟨_, rfl⟩
        rw [← eP] at l1 sX o1 n1
        rw [← eR] at l2 sY o2 n2
        have bad1 : j < T → D1 < P → Hid (Q = badB) := by
          intro h h'
          unfold Hid
          rw [HF.out, if_neg]
          rintro ⟨g, _⟩
          have := gX h
          have := o1 h'
          omega
        have bad2 : j < T → D2 < R → Hid (Q = badB) := by
          intro h h'
          unfold Hid
          rw [HF.out, if_neg]
          rintro ⟨_, g⟩
          have := gY h
          have := o2 h'
          omega
        have fin : j = T → Hid ((Q = ⟨if t.n < 0 ∧ k.tmod 2 ≠ 0 then -(P : Int) else (P : Int), (R : Int), true⟩) ∧ P = X ^ T ∧ R = Y ^ T) := by
          rintro rfl
          unfold Hid
          refine ⟨?_, eP, eR⟩
          rw [HF.out, ← eP, ← eR, if_pos ⟨l1, l2⟩]
        rw [← eP, ← eR]
        have HB := Lib.hid hb
        have SS := Lib.hid (And.intro sX sY)
        clear gX gY o1 o2 hb sX sY
        have EP := Lib.hid (And.intro eP eR)
        clear eP eR
        by_cases hlt : j < T
        · clear fin
          by_cases d1 : D1 < P
          · have HV := bad1 hlt d1
            clear bad1 bad2 n1 n2
            go_wp2_with fail
            refine (HS2.out _).mono ?_
            rintro e wD ⟨rfl, rfl⟩
            go_wp2
            have hb := HB.out
            refine bodyPost_ret (v := .tuple #[.agg #[.int .i64 (Q).n, .int .i64 (Q).d], .bool Q.ok]) (by rw [HV.out]; simp [results, Tryz.results162, go_sem, c3_0, c3_1, c4_0, c4_1, badB]) rfl ⟨rfl, ?_⟩
            focus
              repeat with_reducible first | exact Below.refl _ _ | refine below_drewN ?_ _ | refine Below.drew ?_ | refine Below.setCell ?_ ?_ _ | refine Below.alloc ?_ ?_ _ | refine below_then ?_ ?_ (by with_reducible assumption)
              all_goals first | omega | (simp only [sA, sC, sD, sE]; omega) | (simp; done) | (simp; omega)
          by_cases d2 : D2 < R
          · have HV := bad2 hlt d2
            clear bad1 bad2 n1 n2
            go_wp2_with fail
            refine (HS2.out _).mono ?_
            rintro e wD ⟨rfl, rfl⟩
            go_wp2
            have hb := HB.out
            refine bodyPost_ret (v := .tuple #[.agg #[.int .i64 (Q).n, .int .i64 (Q).d], .bool Q.ok]) (by rw [HV.out]; simp [results, Tryz.results162, go_sem, c3_0, c3_1, c4_0, c4_1, badB]) rfl ⟨rfl, ?_⟩
            focus
              repeat with_reducible first | exact Below.refl _ _ | refine below_drewN ?_ _ | refine Below.drew ?_ | refine Below.setCell ?_ ?_ _ | refine Below.alloc ?_ ?_ _ | refine below_then ?_ ?_ (by with_reducible assumption)
              all_goals first | omega | (simp only [sA, sC, sD, sE]; omega) | (simp; done) | (simp; omega)
          have m1 := n1 d1
          have m2 := n2 d2
          have u1 : IntKind.u64.wrap ((P : Int) * (X : Int)) = ((P * X : Nat) : Int) := by rw [IntKind.wrap_u64]; push_cast; omega
          have u2 : IntKind.u64.wrap ((R : Int) * (Y : Int)) = ((R * Y : Nat) : Int) := by rw [IntKind.wrap_u64]; push_cast; omega
          have M12 := Lib.hid (And.intro m1 m2)
          clear bad1 bad2 n1 n2 m1 m2
          go_wp2_with fail
          refine (HS2.out _).mono ?_
          rintro e wD ⟨rfl, rfl⟩
          go_wp2
          go_round
          case rel =>
            refine ⟨j + 1, by omega, ?_, ?_, by go_num, ?_, ?_⟩
            · rw [SS.out.1]; first | rfl | (push_cast; rfl) | simp
            · rw [SS.out.2]; first | rfl | (push_cast; rfl) | simp
            · rw [SS.out.1]; exact M12.out.1
            · rw [SS.out.2]; exact M12.out.2
          case measure => simp [intOf]; omega
        · have HW := fin (by omega)
          have HMP := Lib.hid fun b wx => HM.out b P R wx HW.out.2.1 HW.out.2.2 l1 l2
          have hW2 : Hid (∀ q : Bool, (k.tmod 2 != 0) = q → Q = ⟨if t.n < 0 ∧ q = true then -(P : Int) else (P : Int), (R : Int), true⟩) := by
            rintro q rfl
            rw [HW.out.1]
            simp only [bne_iff_ne]
          clear fin bad1 bad2 n1 n2 in1 in2 ov1 ov2 stX stY geX geY SS EP HF q1 q2 hT HM HW
          cases ho : (k.tmod 2 != 0) <;> by_cases hneg : t.n < 0
          all_goals
            have HV := hW2.out _ ho
            simp only [hneg, Bool.false_eq_true, true_and, and_true, and_false, false_and, if_true, if_false] at HV
            replace HV := Lib.hid HV
            clear hW2
            go_wp2_with fail
            refine (HS2.out _).mono ?_
            rintro e wD ⟨rfl, rfl⟩
            go_wp2_with fail
            refine (HMP.out _ _).mono ?_
            rintro e wE ⟨rfl, hb9⟩
            have hb := HB.out
            obtain ⟨s5, c5_0, c5_1, f5⟩ := L2 hb9 (w.heap.size + 1) (by first | omega | (simp only [sA, sC, sD, sE]; omega) | (simp; done) | (simp; omega)) (by go_simp; exact ⟨rfl, rfl⟩) (by intro o; go_simp)
            clear c3_0 c3_1 f3 c4_0 c4_1 f4
            go_wp2
            refine bodyPost_ret (v := .tuple #[.agg #[.int .i64 (Q).n, .int .i64 (Q).d], .bool Q.ok]) (by rw [HV.out]; simp [results, Tryz.results162, go_sem, c5_0, c5_1]) rfl ⟨rfl, ?_⟩
            focus
              repeat with_reducible first | exact Below.refl _ _ | refine below_drewN ?_ _ | refine Below.drew ?_ | refine Below.setCell ?_ ?_ _ | refine Below.alloc ?_ ?_ _ | refine below_then ?_ ?_ (by with_reducible assumption)
              all_goals first | omega | (simp only [sA, sC, sD, sE]; omega) | (simp; done) | (simp; omega)
theorem r1_Pow (n d k : Int) (w : World) (hn : I64 n) (hd : I64 d) (hk : I64 k) :
    Calls Tryz.prog 162 #[.agg #[.int .i64 n, .int .i64 d], .int .i64 k] w fun e' w' => e' = .returned (.tuple #[.agg #[.int .i64 (powN n d k).n, .int .i64 (powN n d k).d], .bool (powN n d k).ok]) ∧ Below w.heap.size w w' := by
  by_cases h0 : k = 0
  · exact r1_Pow_zero n d k w hn hd h0
  by_cases hz : (tk n d).n = 0
  · exact r1_Pow_null n d k w hn hd h0 hz
  by_cases h1 : (tk n d).d = 1 ∧ ((tk n d).n = 1 ∨ (tk n d).n = -1)
  · exact r1_Pow_unit n d k w hn hd h0 h1.1 h1.2
  · exact r1_Pow_main n d k w hn hd hk h0 hz h1
end Go.Proofs.YtglngfaagjgpjaaGreatDoor
