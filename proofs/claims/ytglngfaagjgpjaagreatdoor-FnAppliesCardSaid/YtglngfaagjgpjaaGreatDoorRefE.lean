/- The reference's Round. -/
import Derived.Test.YtglngfaagjgpjaaGreatDoorRefC
namespace Go.Proofs.YtglngfaagjgpjaaGreatDoor
open Go Go.RowKit
set_option linter.unusedSimpArgs false
set_option linter.unusedVariables false
theorem mk_signed (b : Bool) (x y : Nat) (hy : 0 < y) : mk (if b then -(x : Int) else x) y = signed b (x / Nat.gcd x y) (y / Nat.gcd x y) := by
  unfold mk
  rw [if_neg (by omega)]
  have h1 : decide ((y : Int) < 0) = false := decide_eq_false (by omega)
  rw [h1]
  cases b
  · have h2 : decide ((x : Int) < 0) = false := decide_eq_false (by omega)
    simp [h2]
  · by_cases hx : x = 0
    · subst hx
      simp [signed]
    · have h2 : decide (-(x : Int) < 0) = true := decide_eq_true (by omega)
      rw [if_pos rfl, h2, Int.natAbs_neg, Int.natAbs_natCast, Int.natAbs_natCast]
      rfl
theorem wu {x : Int} (h0 : 0 ≤ x) (h1 : x ≤ 18446744073709551615) : IntKind.u64.wrap x = x := by rw [IntKind.wrap_u64]; omega
theorem ten_at (p : Int) (h0 : 0 ≤ p) (h1 : p ≤ 12) (wx : World) : Calls Tryz.prog 167 #[.int .i64 p] wx fun e w' => e = .returned (.int .u64 (pow10 p.toNat)) ∧ wx = w' := by
  have h := r1_ten p.toNat wx (by omega)
  rw [show ((p.toNat : Nat) : Int) = p by omega] at h
  exact h
theorem half_up {A D q : Int} (hD : 1 ≤ D) (hq : q = A / D) : (2 * A + D) / (2 * D) = if D ≤ 2 * (A - q * D) then q + 1 else q := by
  have h1 := Int.mul_ediv_add_emod A D
  have h2 := Int.emod_nonneg A (b := D) (by omega)
  have h3 := Int.emod_lt_of_pos A (b := D) (by omega)
  have hc : D * (A / D) = q * D := by rw [hq, Int.mul_comm]
  rw [hc] at h1
  split
  · rename_i h
    apply (Int.ediv_eq_iff_of_pos (by omega)).2
    constructor <;> grind
  · rename_i h
    apply (Int.ediv_eq_iff_of_pos (by omega)).2
    constructor <;> grind

set_option maxRecDepth 100000 in
set_option maxHeartbeats 2000000 in
theorem r1_Round (n d p : Int) (w : World) (hn : I64 n) (hd : I64 d) (hp : I64 p) :
    Calls Tryz.prog 99 #[.agg #[.int .i64 n, .int .i64 d], .int .i64 p] w fun e' w' => e' = .returned (.tuple #[.agg #[.int .i64 (roundN n d p).n, .int .i64 (roundN n d p).d], .bool (roundN n d p).ok]) ∧ Below w.heap.size w w' := by
  obtain ⟨hp0, hp1⟩ := hp
  by_cases h1 : p < -12
  · have HF : Hid (roundN n d p = badB) := by unfold Hid roundN; rw [if_pos (Or.inl h1)]
    generalize roundN n d p = Q at *
    go_enter Tryz.func99, Tryz.ntmps99
    go_wp2_with fail
    refine (r1_Of _ _ _ hn hd).mono ?_
    rintro e' w1 ⟨rfl, hb⟩
    obtain ⟨s1, c1_0, c1_1, f1⟩ := L2 hb (w.heap.size) (by first | omega | (simp only [sA, sC, sD, sE]; omega) | (simp; done) | (simp; omega)) (by go_simp; exact ⟨rfl, rfl⟩) (by intro o; go_simp)
    obtain ⟨s2, c2_0, c2_1, f2⟩ := L2 hb (w.heap.size + 1) (by first | omega | (simp only [sA, sC, sD, sE]; omega) | (simp; done) | (simp; omega)) (by go_simp; exact ⟨rfl, rfl⟩) (by intro o; go_simp)
    go_wp2
    refine bodyPost_ret (v := .tuple #[.agg #[.int .i64 (Q).n, .int .i64 (Q).d], .bool (Q).ok]) (by rw [HF.out]; simp [results, Tryz.results99, go_sem, c1_0, c1_1, c2_0, c2_1, badB]) rfl ⟨rfl, ?_⟩
    focus
      repeat with_reducible first | exact Below.refl _ _ | refine below_drewN ?_ _ | refine Below.drew ?_ | refine Below.setCell ?_ ?_ _ | refine Below.alloc ?_ ?_ _ | refine below_then ?_ ?_ (by with_reducible assumption)
      all_goals first | omega | (simp only [sA, sC, sD, sE]; omega) | (simp; done) | (simp; omega)
  by_cases h2 : 6 < p
  · have HF : Hid (roundN n d p = badB) := by unfold Hid roundN; rw [if_pos (Or.inr h2)]
    generalize roundN n d p = Q at *
    go_enter Tryz.func99, Tryz.ntmps99
    go_wp2_with fail
    refine (r1_Of _ _ _ hn hd).mono ?_
    rintro e' w1 ⟨rfl, hb⟩
    obtain ⟨s3, c3_0, c3_1, f3⟩ := L2 hb (w.heap.size) (by first | omega | (simp only [sA, sC, sD, sE]; omega) | (simp; done) | (simp; omega)) (by go_simp; exact ⟨rfl, rfl⟩) (by intro o; go_simp)
    obtain ⟨s4, c4_0, c4_1, f4⟩ := L2 hb (w.heap.size + 1) (by first | omega | (simp only [sA, sC, sD, sE]; omega) | (simp; done) | (simp; omega)) (by go_simp; exact ⟨rfl, rfl⟩) (by intro o; go_simp)
    go_wp2
    refine bodyPost_ret (v := .tuple #[.agg #[.int .i64 (Q).n, .int .i64 (Q).d], .bool (Q).ok]) (by rw [HF.out]; simp [results, Tryz.results99, go_sem, c3_0, c3_1, c4_0, c4_1, badB]) rfl ⟨rfl, ?_⟩
    focus
      repeat with_reducible first | exact Below.refl _ _ | refine below_drewN ?_ _ | refine Below.drew ?_ | refine Below.setCell ?_ ?_ _ | refine Below.alloc ?_ ?_ _ | refine below_then ?_ ?_ (by with_reducible assumption)
      all_goals first | omega | (simp only [sA, sC, sD, sE]; omega) | (simp; done) | (simp; omega)
  have hU : 1 ≤ upR p ∧ upR p ≤ 1000000 := pow10_bd6 _ (by omega)
  have hV : 1 ≤ dnR p ∧ dnR p ≤ 1000000000000 := pow10_bd _ (by omega)
  have HF : Hid (roundN n d p = mk (if (tk n d).n < 0 then -roundQ n d p else roundQ n d p) (upR p)) := by unfold Hid roundN; rw [if_neg (by omega)]
  obtain ⟨a1, a2, a3, a4⟩ := tk_bd n d
  obtain ⟨B1, B2, B3, B4, B5, B6, B7, B8⟩ := round_bd (a := ((tk n d).n.natAbs : Int)) (d := (tk n d).d) (u := upR p) (v := dnR p) (by omega) (by omega) a3 a4 hU.1 hU.2 hV.1 hV.2
  have HQ : roundQ n d p = (2 * (((tk n d).n.natAbs : Int) * upR p) + (tk n d).d * dnR p) / (2 * ((tk n d).d * dnR p)) * dnR p := rfl
  have key : ∀ (K : Int), 0 ≤ K → K ≤ 3000000000000000000 → roundQ n d p = K → Hid (∀ wx, Calls Tryz.prog 168 #[.bool (decide ((tk n d).n < 0)), .int .u64 K, .int .u64 (upR p)] wx fun e w' => e = .returned (.tuple #[.agg #[.int .i64 (roundN n d p).n, .int .i64 (roundN n d p).d], .bool (roundN n d p).ok]) ∧ Below wx.heap.size wx w') := by
    intro K hK0 hK1 hK wx
    have e : roundN n d p = signed (decide ((tk n d).n < 0)) (K.toNat / Nat.gcd K.toNat (upR p).toNat) ((upR p).toNat / Nat.gcd K.toNat (upR p).toNat) := by
      rw [HF.out, ← mk_signed _ _ _ (by omega), hK, show ((K.toNat : Nat) : Int) = K by omega, show (((upR p).toNat : Nat) : Int) = upR p by omega]
      by_cases h : (tk n d).n < 0 <;> simp [h]
    rw [e]
    have h := r1_made (decide ((tk n d).n < 0)) K.toNat (upR p).toNat wx (by omega) (by omega) (Nat.gcd_pos_of_pos_right _ (by omega))
    rw [show ((K.toNat : Nat) : Int) = K by omega, show (((upR p).toNat : Nat) : Int) = upR p by omega] at h
    exact h
  have HS := Lib.hid fun wx => r1_far (tk n d).n wx (I64.tkn n d)
  rw [HQ] at key
  clear HF HQ
  generalize roundN n d p = Q at *
  generalize ((tk n d).n.natAbs : Int) = a at *
  by_cases hpp : 0 < p
  · have eV : dnR p = 1 := by unfold dnR; rw [show (-p).toNat = 0 by omega]; rfl
    have HT : Hid (∀ wx, Calls Tryz.prog 167 #[.int .i64 p] wx fun e w' => e = .returned (.int .u64 (upR p)) ∧ wx = w') := fun wx => ten_at p (by omega) (by omega) wx
    rw [eV] at B3 B4 B5 B6 B7 B8 key
    simp only [Int.mul_one] at B3 B4 B5 B6 B7 B8 key
    clear hV eV
    generalize upR p = U at *
    obtain ⟨A, eA⟩ : ∃ A, A = a * U := ⟨_, rfl⟩
    rw [← eA] at B1 B2 B5 B6 B7 B8 key
    have wA : IntKind.u64.wrap (a * U) = A := by rw [← eA]; exact wu (by omega) (by omega)
    have hh := half_up (A := A) (D := (tk n d).d) (q := A / (tk n d).d) a3 rfl
    have c1 := Int.ediv_mul_le A (b := (tk n d).d) (by omega)
    have c2 : 0 ≤ A / (tk n d).d := Int.ediv_nonneg (by omega) (by omega)
    have c3 := Int.lt_ediv_add_one_mul_self A (b := (tk n d).d) (by omega)
    have c4 : 0 ≤ A / (tk n d).d * (tk n d).d := Int.mul_nonneg c2 (by omega)
    rw [hh] at key B5 B6 B7 B8
    generalize hq : A / (tk n d).d = q at hh key c1 c2 c3 c4 B5 B6 B7 B8
    rw [Int.add_mul, Int.one_mul] at c3
    obtain ⟨E, eE⟩ : ∃ E, E = q * (tk n d).d := ⟨_, rfl⟩
    rw [← eE] at c1 c3 c4 key B5 B6 B7 B8
    have wE : IntKind.u64.wrap (q * (tk n d).d) = E := by rw [← eE]; exact wu (by omega) (by omega)
    clear eA eE hh
    by_cases hup : (tk n d).d ≤ 2 * (A - E)
    · rw [if_pos hup] at key B5 B6 B7 B8
      have HM := key (q + 1) (by omega) (by omega) rfl
      clear key
      cases hneg : decide ((tk n d).n < 0)
      all_goals
        rw [hneg] at HM
        replace HM := Lib.hid HM.out
        go_enter Tryz.func99, Tryz.ntmps99
        go_wp2_with fail
        refine (r1_Of _ _ _ hn hd).mono ?_
        rintro e' w1 ⟨rfl, hb⟩
        obtain ⟨s5, c5_0, c5_1, f5⟩ := L2 hb (w.heap.size) (by first | omega | (simp only [sA, sC, sD, sE]; omega) | (simp; done) | (simp; omega)) (by go_simp; exact ⟨rfl, rfl⟩) (by intro o; go_simp)
        obtain ⟨s6, c6_0, c6_1, f6⟩ := L2 hb (w.heap.size + 1) (by first | omega | (simp only [sA, sC, sD, sE]; omega) | (simp; done) | (simp; omega)) (by go_simp; exact ⟨rfl, rfl⟩) (by intro o; go_simp)
        go_wp2_with fail
        refine (HS.out _).mono ?_
        rintro e' w2 ⟨rfl, rfl⟩
        go_wp2_with fail
        refine (HT.out _).mono ?_
        rintro e' w2 ⟨rfl, rfl⟩
        go_wp2_with fail
        with_reducible refine (HM.out _).mono ?_
        rintro e' w3 ⟨rfl, hb3⟩
        obtain ⟨s7, c7_0, c7_1, f7⟩ := L2 hb3 (w.heap.size + 1) (by first | omega | (simp only [sA, sC, sD, sE]; omega) | (simp; done) | (simp; omega)) (by go_simp; exact ⟨rfl, rfl⟩) (by intro o; go_simp)
        clear c5_0 c5_1 f5 c6_0 c6_1 f6
        go_wp2
        refine bodyPost_ret (v := .tuple #[.agg #[.int .i64 (Q).n, .int .i64 (Q).d], .bool Q.ok]) (by simp [results, Tryz.results99, go_sem, c7_0, c7_1]) rfl ⟨rfl, ?_⟩
        focus
          repeat with_reducible first | exact Below.refl _ _ | refine below_drewN ?_ _ | refine Below.drew ?_ | refine Below.setCell ?_ ?_ _ | refine Below.alloc ?_ ?_ _ | refine below_then ?_ ?_ (by with_reducible assumption)
          all_goals first | omega | (simp only [sA, sC, sD, sE]; omega) | (simp; done) | (simp; omega)
    · rw [if_neg hup] at key B5 B6 B7 B8
      have HM := key q (by omega) (by omega) rfl
      clear key
      cases hneg : decide ((tk n d).n < 0)
      all_goals
        rw [hneg] at HM
        replace HM := Lib.hid HM.out
        go_enter Tryz.func99, Tryz.ntmps99
        go_wp2_with fail
        refine (r1_Of _ _ _ hn hd).mono ?_
        rintro e' w1 ⟨rfl, hb⟩
        obtain ⟨s8, c8_0, c8_1, f8⟩ := L2 hb (w.heap.size) (by first | omega | (simp only [sA, sC, sD, sE]; omega) | (simp; done) | (simp; omega)) (by go_simp; exact ⟨rfl, rfl⟩) (by intro o; go_simp)
        obtain ⟨s9, c9_0, c9_1, f9⟩ := L2 hb (w.heap.size + 1) (by first | omega | (simp only [sA, sC, sD, sE]; omega) | (simp; done) | (simp; omega)) (by go_simp; exact ⟨rfl, rfl⟩) (by intro o; go_simp)
        go_wp2_with fail
        refine (HS.out _).mono ?_
        rintro e' w2 ⟨rfl, rfl⟩
        go_wp2_with fail
        refine (HT.out _).mono ?_
        rintro e' w2 ⟨rfl, rfl⟩
        go_wp2_with fail
        with_reducible refine (HM.out _).mono ?_
        rintro e' w3 ⟨rfl, hb3⟩
        obtain ⟨s10, c10_0, c10_1, f10⟩ := L2 hb3 (w.heap.size + 1) (by first | omega | (simp only [sA, sC, sD, sE]; omega) | (simp; done) | (simp; omega)) (by go_simp; exact ⟨rfl, rfl⟩) (by intro o; go_simp)
        clear c8_0 c8_1 f8 c9_0 c9_1 f9
        go_wp2
        refine bodyPost_ret (v := .tuple #[.agg #[.int .i64 (Q).n, .int .i64 (Q).d], .bool Q.ok]) (by simp [results, Tryz.results99, go_sem, c10_0, c10_1]) rfl ⟨rfl, ?_⟩
        focus
          repeat with_reducible first | exact Below.refl _ _ | refine below_drewN ?_ _ | refine Below.drew ?_ | refine Below.setCell ?_ ?_ _ | refine Below.alloc ?_ ?_ _ | refine below_then ?_ ?_ (by with_reducible assumption)
          all_goals first | omega | (simp only [sA, sC, sD, sE]; omega) | (simp; done) | (simp; omega)
  · have eU : upR p = 1 := by unfold upR; rw [show p.toNat = 0 by omega]; rfl
    have HT : Hid (∀ wx, Calls Tryz.prog 167 #[.int .i64 (-p)] wx fun e w' => e = .returned (.int .u64 (dnR p)) ∧ wx = w') := fun wx => ten_at (-p) (by omega) (by omega) wx
    rw [eU] at B1 B2 B5 B6 B7 B8 key
    simp only [Int.mul_one] at B1 B2 B5 B6 B7 B8 key
    clear hU eU
    generalize dnR p = V at *
    have hdD : (tk n d).d ≤ (tk n d).d * V := by
      have h := Int.mul_le_mul_of_nonneg_left hV.1 (show 0 ≤ (tk n d).d by omega)
      rw [Int.mul_one] at h
      exact h
    obtain ⟨D, eD⟩ : ∃ D, D = (tk n d).d * V := ⟨_, rfl⟩
    rw [← eD] at B3 B4 B5 B6 B7 B8 key hdD
    have wD : IntKind.u64.wrap ((tk n d).d * V) = D := by rw [← eD]; exact wu (by omega) (by omega)
    have hh := half_up (A := a) (D := D) (q := a / D) B3 rfl
    have c1 := Int.ediv_mul_le a (b := D) (by omega)
    have c2 : 0 ≤ a / D := Int.ediv_nonneg (by omega) (by omega)
    have c3 := Int.lt_ediv_add_one_mul_self a (b := D) (by omega)
    have c4 : 0 ≤ a / D * D := Int.mul_nonneg c2 (by omega)
    rw [hh] at key B5 B6 B7 B8
    generalize hq : a / D = q at hh key c1 c2 c3 c4 B5 B6 B7 B8
    rw [Int.add_mul, Int.one_mul] at c3
    have f1 : q * (tk n d).d ≤ q * D := Int.mul_le_mul_of_nonneg_left hdD c2
    have f0 : 0 ≤ q * (tk n d).d := Int.mul_nonneg c2 (by omega)
    have f2 : q * (tk n d).d * V = q * D := by rw [Int.mul_assoc, ← eD]
    obtain ⟨E, eE⟩ : ∃ E, E = q * D := ⟨_, rfl⟩
    rw [← eE] at c1 c3 c4 key B5 B6 B7 B8 f1 f2
    obtain ⟨F, eF⟩ : ∃ F, F = q * (tk n d).d := ⟨_, rfl⟩
    rw [← eF] at f0 f1 f2
    have wF : IntKind.u64.wrap (q * (tk n d).d) = F := by rw [← eF]; exact wu (by omega) (by omega)
    have wE : IntKind.u64.wrap (F * V) = E := by rw [f2]; exact wu (by omega) (by omega)
    clear eD eE eF hh f2
    have hDz : (D == 0) = false := by rw [beq_eq_false_iff_ne]; omega
    by_cases hup : D ≤ 2 * (a - E)
    · rw [if_pos hup] at key B5 B6 B7 B8
      obtain ⟨K, eK⟩ : ∃ K, K = (q + 1) * V := ⟨_, rfl⟩
      rw [← eK] at key B7 B8
      have HM := key K (by omega) (by omega) rfl
      have wK : IntKind.u64.wrap ((q + 1) * V) = K := by rw [← eK]; exact wu (by omega) (by omega)
      clear key eK
      cases hneg : decide ((tk n d).n < 0)
      all_goals
        rw [hneg] at HM
        replace HM := Lib.hid HM.out
        go_enter Tryz.func99, Tryz.ntmps99
        go_wp2_with fail
        refine (r1_Of _ _ _ hn hd).mono ?_
        rintro e' w1 ⟨rfl, hb⟩
        obtain ⟨s11, c11_0, c11_1, f11⟩ := L2 hb (w.heap.size) (by first | omega | (simp only [sA, sC, sD, sE]; omega) | (simp; done) | (simp; omega)) (by go_simp; exact ⟨rfl, rfl⟩) (by intro o; go_simp)
        obtain ⟨s12, c12_0, c12_1, f12⟩ := L2 hb (w.heap.size + 1) (by first | omega | (simp only [sA, sC, sD, sE]; omega) | (simp; done) | (simp; omega)) (by go_simp; exact ⟨rfl, rfl⟩) (by intro o; go_simp)
        go_wp2_with fail
        refine (HS.out _).mono ?_
        rintro e' w2 ⟨rfl, rfl⟩
        go_wp2_with fail
        refine (HT.out _).mono ?_
        rintro e' w2 ⟨rfl, rfl⟩
        go_wp2_with fail
        with_reducible refine (HM.out _).mono ?_
        rintro e' w3 ⟨rfl, hb3⟩
        obtain ⟨s13, c13_0, c13_1, f13⟩ := L2 hb3 (w.heap.size + 1) (by first | omega | (simp only [sA, sC, sD, sE]; omega) | (simp; done) | (simp; omega)) (by go_simp; exact ⟨rfl, rfl⟩) (by intro o; go_simp)
        clear c11_0 c11_1 f11 c12_0 c12_1 f12
        go_wp2
        refine bodyPost_ret (v := .tuple #[.agg #[.int .i64 (Q).n, .int .i64 (Q).d], .bool Q.ok]) (by simp [results, Tryz.results99, go_sem, c13_0, c13_1]) rfl ⟨rfl, ?_⟩
        focus
          repeat with_reducible first | exact Below.refl _ _ | refine below_drewN ?_ _ | refine Below.drew ?_ | refine Below.setCell ?_ ?_ _ | refine Below.alloc ?_ ?_ _ | refine below_then ?_ ?_ (by with_reducible assumption)
          all_goals first | omega | (simp only [sA, sC, sD, sE]; omega) | (simp; done) | (simp; omega)
    · rw [if_neg hup] at key B5 B6 B7 B8
      obtain ⟨K, eK⟩ : ∃ K, K = q * V := ⟨_, rfl⟩
      rw [← eK] at key B7 B8
      have HM := key K (by omega) (by omega) rfl
      have wK : IntKind.u64.wrap (q * V) = K := by rw [← eK]; exact wu (by omega) (by omega)
      clear key eK
      cases hneg : decide ((tk n d).n < 0)
      all_goals
        rw [hneg] at HM
        replace HM := Lib.hid HM.out
        go_enter Tryz.func99, Tryz.ntmps99
        go_wp2_with fail
        refine (r1_Of _ _ _ hn hd).mono ?_
        rintro e' w1 ⟨rfl, hb⟩
        obtain ⟨s14, c14_0, c14_1, f14⟩ := L2 hb (w.heap.size) (by first | omega | (simp only [sA, sC, sD, sE]; omega) | (simp; done) | (simp; omega)) (by go_simp; exact ⟨rfl, rfl⟩) (by intro o; go_simp)
        obtain ⟨s15, c15_0, c15_1, f15⟩ := L2 hb (w.heap.size + 1) (by first | omega | (simp only [sA, sC, sD, sE]; omega) | (simp; done) | (simp; omega)) (by go_simp; exact ⟨rfl, rfl⟩) (by intro o; go_simp)
        go_wp2_with fail
        refine (HS.out _).mono ?_
        rintro e' w2 ⟨rfl, rfl⟩
        go_wp2_with fail
        refine (HT.out _).mono ?_
        rintro e' w2 ⟨rfl, rfl⟩
        go_wp2_with fail
        with_reducible refine (HM.out _).mono ?_
        rintro e' w3 ⟨rfl, hb3⟩
        obtain ⟨s16, c16_0, c16_1, f16⟩ := L2 hb3 (w.heap.size + 1) (by first | omega | (simp only [sA, sC, sD, sE]; omega) | (simp; done) | (simp; omega)) (by go_simp; exact ⟨rfl, rfl⟩) (by intro o; go_simp)
        clear c14_0 c14_1 f14 c15_0 c15_1 f15
        go_wp2
        refine bodyPost_ret (v := .tuple #[.agg #[.int .i64 (Q).n, .int .i64 (Q).d], .bool Q.ok]) (by simp [results, Tryz.results99, go_sem, c16_0, c16_1]) rfl ⟨rfl, ?_⟩
        focus
          repeat with_reducible first | exact Below.refl _ _ | refine below_drewN ?_ _ | refine Below.drew ?_ | refine Below.setCell ?_ ?_ _ | refine Below.alloc ?_ ?_ _ | refine below_then ?_ ?_ (by with_reducible assumption)
          all_goals first | omega | (simp only [sA, sC, sD, sE]; omega) | (simp; done) | (simp; omega)
end Go.Proofs.YtglngfaagjgpjaaGreatDoor
