/- Walks of package num: Mod, Round. -/
import Derived.Test.YtglngfaagjgpjaaGreatDoorBx2
namespace Go.Proofs.YtglngfaagjgpjaaGreatDoor
open Go.RowKit
set_option linter.unusedSimpArgs false
set_option linter.unusedVariables false

/-- What a division leaves, with the divisor's sign. -/
def modI (x y : Int) : Int := if x.tmod y = 0 then x.tmod y else if (decide (x.tmod y < 0) != decide (y < 0)) = true then x.tmod y + y else x.tmod y
def modN (n d m e : Int) : NmB := if (tk m e).n = 0 then badB else mk (modI ((tk n d).n * (tk m e).d) ((tk m e).n * (tk n d).d)) ((tk n d).d * (tk m e).d)

theorem tmod_bd (x y : Int) (h0 : -1000000000000000000 ≤ x) (h1 : x ≤ 1000000000000000000) : -1000000000000000000 ≤ x.tmod y ∧ x.tmod y ≤ 1000000000000000000 := by
  have h : (x.tmod y).natAbs ≤ x.natAbs := by rw [Int.natAbs_tmod]; exact Nat.mod_le _ _
  omega

set_option maxHeartbeats 1000000 in
theorem num_Mod (n d m e : Int) (w : World) (hn : I64 n) (hd : I64 d) (hm : I64 m) (he : I64 e) :
    Calls Tryz.prog 83 #[.agg #[.int .i64 n, .int .i64 d], .agg #[.int .i64 m, .int .i64 e]] w fun e' w' => e' = .returned (.tuple #[.agg #[.int .i64 (modN n d m e).n, .int .i64 (modN n d m e).d], .bool (modN n d m e).ok]) ∧ Below w.heap.size w w' := by
  by_cases h0 : (tk m e).n = 0
  · have HF : Hid (modN n d m e = badB) := by unfold Hid modN; rw [if_pos h0]
    have k0 : ((tk m e).n == 0) = true := by simp [h0]
    clear h0
    go_enter Tryz.func83, Tryz.ntmps83
    go_wp2_with fail
    refine region_below 4 (by kernel_rfl) (by kernel_rfl) ?_
    simp only [List.take_succ_cons, List.take_zero, List.drop_succ_cons, List.drop_zero]
    repeat
      first | (refine q_run ?_ ?_; focus (go_simp; done)) | (refine q_skip ?_ ?_; focus (go_simp; done))
      try (apply Exists.intro; refine ⟨fun w' hw' => ?_, ?_⟩; focus (have hc := (bcell hw'.out).1; unfold Oper.quietAt; go_simp; (try go_ints); (first | rfl | (go_at_call 108; refine (num_taken _ _ _ (by assumption) (by assumption)).mono ?_; rintro e w2 ⟨rfl, hb⟩; exact ⟨rfl, hw'.chain hb⟩))))
      intro K hK
      go_simp
      refine hK _ ?_
      clear hK K
    refine wpQuiet_nil ?_
    intro w1 hb'
    have hb := hb'.out
    clear hb'
    have c1 := lcc hb (w.heap.size) (by (first | omega | (simp only [sz_alloc, sz_setCell, sz_drew, sz_drewN]; omega) | (simp; done) | (simp; omega)))
    have f1 := lcf hb (w.heap.size) (by (first | omega | (simp only [sz_alloc, sz_setCell, sz_drew, sz_drewN]; omega) | (simp; done) | (simp; omega)))
    have s1 := lcs hb (w.heap.size) (by (first | omega | (simp only [sz_alloc, sz_setCell, sz_drew, sz_drewN]; omega) | (simp; done) | (simp; omega)))
    have c2 := lcc hb (w.heap.size + 1) (by (first | omega | (simp only [sz_alloc, sz_setCell, sz_drew, sz_drewN]; omega) | (simp; done) | (simp; omega)))
    have f2 := lcf hb (w.heap.size + 1) (by (first | omega | (simp only [sz_alloc, sz_setCell, sz_drew, sz_drewN]; omega) | (simp; done) | (simp; omega)))
    have s2 := lcs hb (w.heap.size + 1) (by (first | omega | (simp only [sz_alloc, sz_setCell, sz_drew, sz_drewN]; omega) | (simp; done) | (simp; omega)))
    have c3 := lcc hb (w.heap.size + 1 + 1) (by (first | omega | (simp only [sz_alloc, sz_setCell, sz_drew, sz_drewN]; omega) | (simp; done) | (simp; omega)))
    have f3 := lcf hb (w.heap.size + 1 + 1) (by (first | omega | (simp only [sz_alloc, sz_setCell, sz_drew, sz_drewN]; omega) | (simp; done) | (simp; omega)))
    have s3 := lcs hb (w.heap.size + 1 + 1) (by (first | omega | (simp only [sz_alloc, sz_setCell, sz_drew, sz_drewN]; omega) | (simp; done) | (simp; omega)))
    go_wp2
    refine bodyPost_ret (v := .tuple #[.agg #[.int .i64 (modN n d m e).n, .int .i64 (modN n d m e).d], .bool (modN n d m e).ok]) (by rw [HF.out]; simp [results, Tryz.results83, go_sem, c1, c2, c3, badB]) rfl ⟨rfl, ?_⟩
    focus
      repeat with_reducible first | exact Below.refl _ _ | refine below_drewN ?_ _ | refine Below.drew ?_ | refine Below.setCell ?_ ?_ _ | refine Below.alloc ?_ ?_ _ | refine below_then ?_ ?_ (by with_reducible assumption)
      all_goals first | omega | (simp only [sA, sC, sD, sE]; omega) | (simp; done) | (simp; omega)
  have k0 : ((tk m e).n == 0) = false := by simp [h0]
  have hY0 : (tk m e).n * (tk n d).d ≠ 0 := Int.mul_ne_zero h0 (by have := tk_bd n d; omega)
  have p1 := tk_mul n d m e
  have p2 := tk_mul m e n d
  have p3 := tk_muld n d m e
  have HF : Hid (modN n d m e = mk (modI ((tk n d).n * (tk m e).d) ((tk m e).n * (tk n d).d)) ((tk n d).d * (tk m e).d)) := by unfold Hid modN; rw [if_neg h0]
  have hX := tk_wrap n d m e
  have hY := tk_wrap m e n d
  have hD := tk_wrapd n d m e
  obtain ⟨X, eX⟩ : ∃ X, X = (tk n d).n * (tk m e).d := ⟨_, rfl⟩
  obtain ⟨Y, eY⟩ : ∃ Y, Y = (tk m e).n * (tk n d).d := ⟨_, rfl⟩
  obtain ⟨D, eD⟩ : ∃ D, D = (tk n d).d * (tk m e).d := ⟨_, rfl⟩
  rw [← eX] at p1
  rw [← eY] at p2 hY0
  rw [← eD] at p3
  rw [← eX, ← eY, ← eD] at HF
  replace hX : IntKind.i64.wrap ((tk n d).n * (tk m e).d) = X := by rw [eX]; exact hX
  replace hY : IntKind.i64.wrap ((tk m e).n * (tk n d).d) = Y := by rw [eY]; exact hY
  replace hD : IntKind.i64.wrap ((tk n d).d * (tk m e).d) = D := by rw [eD]; exact hD
  have y0 : (Y == 0) = false := by simp [hY0]
  have tb := tmod_bd X Y p1.1 p1.2
  clear h0 eX eY eD
  have HM := Lib.hid fun (R : Int) (hR : I64 R) wx => num_Make R D wx hR ⟨by omega, by omega⟩
  by_cases hr : X.tmod Y = 0
  · have r0 : (X.tmod Y == 0) = true := by simp [hr]
    have r1 : (X.tmod Y != 0) = false := by simp [hr]
    have HV : Hid (modI X Y = X.tmod Y) := by unfold Hid modI; rw [if_pos hr]
    have HM1 := Lib.hid (HM.out (X.tmod Y) ⟨by omega, by omega⟩)
    rw [HV.out] at HF
    generalize modN n d m e = Q at *
    clear hr HM HV
    go_enter Tryz.func83, Tryz.ntmps83
    go_wp2_with fail
    refine region_below 4 (by kernel_rfl) (by kernel_rfl) ?_
    simp only [List.take_succ_cons, List.take_zero, List.drop_succ_cons, List.drop_zero]
    repeat
      first | (refine q_run ?_ ?_; focus (go_simp; done)) | (refine q_skip ?_ ?_; focus (go_simp; done))
      try (apply Exists.intro; refine ⟨fun w' hw' => ?_, ?_⟩; focus (have hc := (bcell hw'.out).1; unfold Oper.quietAt; go_simp; (try go_ints); (first | rfl | (go_at_call 108; refine (num_taken _ _ _ (by assumption) (by assumption)).mono ?_; rintro e w2 ⟨rfl, hb⟩; exact ⟨rfl, hw'.chain hb⟩))))
      intro K hK
      go_simp
      refine hK _ ?_
      clear hK K
    refine wpQuiet_nil ?_
    intro w1 hb'
    have hb := hb'.out
    clear hb'
    have c4 := lcc hb (w.heap.size) (by (first | omega | (simp only [sz_alloc, sz_setCell, sz_drew, sz_drewN]; omega) | (simp; done) | (simp; omega)))
    have f4 := lcf hb (w.heap.size) (by (first | omega | (simp only [sz_alloc, sz_setCell, sz_drew, sz_drewN]; omega) | (simp; done) | (simp; omega)))
    have s4 := lcs hb (w.heap.size) (by (first | omega | (simp only [sz_alloc, sz_setCell, sz_drew, sz_drewN]; omega) | (simp; done) | (simp; omega)))
    have c5 := lcc hb (w.heap.size + 1) (by (first | omega | (simp only [sz_alloc, sz_setCell, sz_drew, sz_drewN]; omega) | (simp; done) | (simp; omega)))
    have f5 := lcf hb (w.heap.size + 1) (by (first | omega | (simp only [sz_alloc, sz_setCell, sz_drew, sz_drewN]; omega) | (simp; done) | (simp; omega)))
    have s5 := lcs hb (w.heap.size + 1) (by (first | omega | (simp only [sz_alloc, sz_setCell, sz_drew, sz_drewN]; omega) | (simp; done) | (simp; omega)))
    have c6 := lcc hb (w.heap.size + 1 + 1) (by (first | omega | (simp only [sz_alloc, sz_setCell, sz_drew, sz_drewN]; omega) | (simp; done) | (simp; omega)))
    have f6 := lcf hb (w.heap.size + 1 + 1) (by (first | omega | (simp only [sz_alloc, sz_setCell, sz_drew, sz_drewN]; omega) | (simp; done) | (simp; omega)))
    have s6 := lcs hb (w.heap.size + 1 + 1) (by (first | omega | (simp only [sz_alloc, sz_setCell, sz_drew, sz_drewN]; omega) | (simp; done) | (simp; omega)))
    go_wp2
    go_quiet (fail)
    go_wp2_with fail
    refine (HM1.out _).mono ?_
    rintro e' w2 ⟨rfl, hb2⟩
    have c7 := lcc hb2 (w.heap.size + 1 + 1) (by (first | omega | (simp only [sz_alloc, sz_setCell, sz_drew, sz_drewN]; omega) | (simp; done) | (simp; omega)))
    have f7 := lcf hb2 (w.heap.size + 1 + 1) (by (first | omega | (simp only [sz_alloc, sz_setCell, sz_drew, sz_drewN]; omega) | (simp; done) | (simp; omega)))
    have s7 := lcs hb2 (w.heap.size + 1 + 1) (by (first | omega | (simp only [sz_alloc, sz_setCell, sz_drew, sz_drewN]; omega) | (simp; done) | (simp; omega)))
    go_wp2
    refine bodyPost_ret (v := .tuple #[.agg #[.int .i64 Q.n, .int .i64 Q.d], .bool Q.ok]) (by rw [HF.out]; simp [results, Tryz.results83, go_sem, c4, c5, c6, c7]) rfl ⟨rfl, ?_⟩
    focus
      repeat with_reducible first | exact Below.refl _ _ | refine below_drewN ?_ _ | refine Below.drew ?_ | refine Below.setCell ?_ ?_ _ | refine Below.alloc ?_ ?_ _ | refine below_then ?_ ?_ (by with_reducible assumption)
      all_goals first | omega | (simp only [sA, sC, sD, sE]; omega) | (simp; done) | (simp; omega)
  have r0 : (X.tmod Y == 0) = false := by simp [hr]
  have r1 : (X.tmod Y != 0) = true := by simp [hr]
  have hws := w64 (x := X.tmod Y + Y) (by omega) (by omega)
  have HV0 : modI X Y = if (decide (X.tmod Y < 0) != decide (Y < 0)) = true then X.tmod Y + Y else X.tmod Y := by unfold modI; rw [if_neg hr]
  have hI : I64 (modI X Y) := by rw [HV0]; split <;> exact ⟨by omega, by omega⟩
  cases hs : decide (X.tmod Y < 0) <;> cases hy : decide (Y < 0)
  all_goals
    have HV := Lib.hid HV0
    rw [hs, hy] at HV
    simp only [bne_self_eq_false, Bool.false_eq_true, if_false, if_true, Bool.true_bne, Bool.not_false, Bool.false_bne] at HV
    rw [HV.out] at HF
    have HM1 := HM.out (modI X Y) hI
    rw [HV.out] at HM1
    have HM1 := Lib.hid HM1
    generalize modN n d m e = Q at *
    clear hr HM HV HV0 hI
    go_enter Tryz.func83, Tryz.ntmps83
    go_wp2_with fail
    refine region_below 4 (by kernel_rfl) (by kernel_rfl) ?_
    simp only [List.take_succ_cons, List.take_zero, List.drop_succ_cons, List.drop_zero]
    repeat
      first | (refine q_run ?_ ?_; focus (go_simp; done)) | (refine q_skip ?_ ?_; focus (go_simp; done))
      try (apply Exists.intro; refine ⟨fun w' hw' => ?_, ?_⟩; focus (have hc := (bcell hw'.out).1; unfold Oper.quietAt; go_simp; (try go_ints); (first | rfl | (go_at_call 108; refine (num_taken _ _ _ (by assumption) (by assumption)).mono ?_; rintro e w2 ⟨rfl, hb⟩; exact ⟨rfl, hw'.chain hb⟩))))
      intro K hK
      go_simp
      refine hK _ ?_
      clear hK K
    refine wpQuiet_nil ?_
    intro w1 hb'
    have hb := hb'.out
    clear hb'
    have c8 := lcc hb (w.heap.size) (by (first | omega | (simp only [sz_alloc, sz_setCell, sz_drew, sz_drewN]; omega) | (simp; done) | (simp; omega)))
    have f8 := lcf hb (w.heap.size) (by (first | omega | (simp only [sz_alloc, sz_setCell, sz_drew, sz_drewN]; omega) | (simp; done) | (simp; omega)))
    have s8 := lcs hb (w.heap.size) (by (first | omega | (simp only [sz_alloc, sz_setCell, sz_drew, sz_drewN]; omega) | (simp; done) | (simp; omega)))
    have c9 := lcc hb (w.heap.size + 1) (by (first | omega | (simp only [sz_alloc, sz_setCell, sz_drew, sz_drewN]; omega) | (simp; done) | (simp; omega)))
    have f9 := lcf hb (w.heap.size + 1) (by (first | omega | (simp only [sz_alloc, sz_setCell, sz_drew, sz_drewN]; omega) | (simp; done) | (simp; omega)))
    have s9 := lcs hb (w.heap.size + 1) (by (first | omega | (simp only [sz_alloc, sz_setCell, sz_drew, sz_drewN]; omega) | (simp; done) | (simp; omega)))
    have c10 := lcc hb (w.heap.size + 1 + 1) (by (first | omega | (simp only [sz_alloc, sz_setCell, sz_drew, sz_drewN]; omega) | (simp; done) | (simp; omega)))
    have f10 := lcf hb (w.heap.size + 1 + 1) (by (first | omega | (simp only [sz_alloc, sz_setCell, sz_drew, sz_drewN]; omega) | (simp; done) | (simp; omega)))
    have s10 := lcs hb (w.heap.size + 1 + 1) (by (first | omega | (simp only [sz_alloc, sz_setCell, sz_drew, sz_drewN]; omega) | (simp; done) | (simp; omega)))
    go_wp2
    go_quiet (fail)
    go_wp2_with fail
    refine (HM1.out _).mono ?_
    rintro e' w2 ⟨rfl, hb2⟩
    have c11 := lcc hb2 (w.heap.size + 1 + 1) (by (first | omega | (simp only [sz_alloc, sz_setCell, sz_drew, sz_drewN]; omega) | (simp; done) | (simp; omega)))
    have f11 := lcf hb2 (w.heap.size + 1 + 1) (by (first | omega | (simp only [sz_alloc, sz_setCell, sz_drew, sz_drewN]; omega) | (simp; done) | (simp; omega)))
    have s11 := lcs hb2 (w.heap.size + 1 + 1) (by (first | omega | (simp only [sz_alloc, sz_setCell, sz_drew, sz_drewN]; omega) | (simp; done) | (simp; omega)))
    go_wp2
    refine bodyPost_ret (v := .tuple #[.agg #[.int .i64 Q.n, .int .i64 Q.d], .bool Q.ok]) (by rw [HF.out]; simp [results, Tryz.results83, go_sem, c8, c9, c10, c11]) rfl ⟨rfl, ?_⟩
    focus
      repeat with_reducible first | exact Below.refl _ _ | refine below_drewN ?_ _ | refine Below.drew ?_ | refine Below.setCell ?_ ?_ _ | refine Below.alloc ?_ ?_ _ | refine below_then ?_ ?_ (by with_reducible assumption)
      all_goals first | omega | (simp only [sA, sC, sD, sE]; omega) | (simp; done) | (simp; omega)

/-! Round -/
def upR (p : Int) : Int := pow10 p.toNat
def dnR (p : Int) : Int := pow10 (-p).toNat
def roundQ (n d p : Int) : Int := (2 * (((tk n d).n.natAbs : Int) * upR p) + (tk n d).d * dnR p) / (2 * ((tk n d).d * dnR p)) * dnR p
def roundN (n d p : Int) : NmB := if p < -12 ∨ 6 < p then badB else mk (if (tk n d).n < 0 then -roundQ n d p else roundQ n d p) (upR p)

theorem round_bd {a d u v : Int} (ha0 : 0 ≤ a) (ha1 : a ≤ 1000000000000) (hd0 : 1 ≤ d) (hd1 : d ≤ 1000000) (hu0 : 1 ≤ u) (hu1 : u ≤ 1000000) (hv0 : 1 ≤ v) (hv1 : v ≤ 1000000000000) :
    0 ≤ a * u ∧ a * u ≤ 1000000000000000000 ∧ 1 ≤ d * v ∧ d * v ≤ 1000000000000000000 ∧ 0 ≤ (2 * (a * u) + d * v) / (2 * (d * v)) ∧ (2 * (a * u) + d * v) / (2 * (d * v)) ≤ 3000000000000000000 ∧
    0 ≤ (2 * (a * u) + d * v) / (2 * (d * v)) * v ∧ (2 * (a * u) + d * v) / (2 * (d * v)) * v ≤ 3000000000000000000 := by
  have m1 := mul_bd (x := a) (y := u) (a := 1000000000000) (b := 1000000) (by omega) ha1 (by omega) hu1
  have m2 := mul_bd (x := d) (y := v) (a := 1000000) (b := 1000000000000) (by omega) hd1 (by omega) hv1
  have m3 : 0 ≤ a * u := Int.mul_nonneg ha0 (by omega)
  have m4 : v ≤ d * v := by
    have := Int.mul_le_mul_of_nonneg_right hd0 (show 0 ≤ v by omega)
    omega
  generalize a * u = A at *
  generalize d * v = D at *
  have hq0 : 0 ≤ (2 * A + D) / (2 * D) := Int.ediv_nonneg (by omega) (by omega)
  have hqm : (2 * A + D) / (2 * D) * (2 * D) ≤ 2 * A + D := Int.ediv_mul_le _ (by omega)
  generalize (2 * A + D) / (2 * D) = q at *
  have hle : q * v ≤ q * (2 * D) := Int.mul_le_mul_of_nonneg_left (by omega) hq0
  have hq1 : q * 1 ≤ q * (2 * D) := Int.mul_le_mul_of_nonneg_left (by omega) hq0
  have hv : 0 ≤ q * v := Int.mul_nonneg hq0 (by omega)
  refine ⟨by omega, by omega, by omega, by omega, hq0, by omega, hv, by omega⟩

theorem pow10_bd6 (k : Nat) (h : k ≤ 6) : 1 ≤ pow10 k ∧ pow10 k ≤ 1000000 := by
  unfold pow10
  have h1 : 10 ^ k ≤ 10 ^ 6 := Nat.pow_le_pow_right (by omega) h
  have h2 : 0 < 10 ^ k := Nat.pow_pos (by omega)
  have h3 : (10 : Nat) ^ 6 = 1000000 := by decide
  omega
theorem power0 (wx : World) : Calls Tryz.prog 150 #[.int .i64 0] wx fun e w' => e = .returned (.int .i64 1) ∧ wx = w' := num_power 0 wx (by omega)
theorem power_at (p : Int) (h0 : 0 ≤ p) (h1 : p ≤ 12) (wx : World) : Calls Tryz.prog 150 #[.int .i64 p] wx fun e w' => e = .returned (.int .i64 (pow10 p.toNat)) ∧ wx = w' := by
  have h := num_power p.toNat wx (by omega)
  rw [Int.toNat_of_nonneg h0] at h
  exact h
set_option maxHeartbeats 2000000 in
theorem num_Round (n d p : Int) (w : World) (hn : I64 n) (hd : I64 d) (hp : I64 p) :
    Calls Tryz.prog 81 #[.agg #[.int .i64 n, .int .i64 d], .int .i64 p] w fun e' w' => e' = .returned (.tuple #[.agg #[.int .i64 (roundN n d p).n, .int .i64 (roundN n d p).d], .bool (roundN n d p).ok]) ∧ Below w.heap.size w w' := by
  obtain ⟨hp0, hp1⟩ := hp
  by_cases h1 : p < -12
  · have HF : Hid (roundN n d p = badB) := by unfold Hid roundN; rw [if_pos (Or.inl h1)]
    generalize roundN n d p = Q at *
    go_enter Tryz.func81, Tryz.ntmps81
    go_wp2
    refine bodyPost_ret (v := .tuple #[.agg #[.int .i64 Q.n, .int .i64 Q.d], .bool Q.ok]) (by rw [HF.out]; simp [results, Tryz.results81, go_sem, badB]) rfl ⟨rfl, ?_⟩
    focus
      repeat with_reducible first | exact Below.refl _ _ | refine below_drewN ?_ _ | refine Below.drew ?_ | refine Below.setCell ?_ ?_ _ | refine Below.alloc ?_ ?_ _ | refine below_then ?_ ?_ (by with_reducible assumption)
      all_goals first | omega | (simp only [sA, sC, sD, sE]; omega) | (simp; done) | (simp; omega)
  by_cases h2 : 6 < p
  · have HF : Hid (roundN n d p = badB) := by unfold Hid roundN; rw [if_pos (Or.inr h2)]
    generalize roundN n d p = Q at *
    go_enter Tryz.func81, Tryz.ntmps81
    go_wp2
    refine bodyPost_ret (v := .tuple #[.agg #[.int .i64 Q.n, .int .i64 Q.d], .bool Q.ok]) (by rw [HF.out]; simp [results, Tryz.results81, go_sem, badB]) rfl ⟨rfl, ?_⟩
    focus
      repeat with_reducible first | exact Below.refl _ _ | refine below_drewN ?_ _ | refine Below.drew ?_ | refine Below.setCell ?_ ?_ _ | refine Below.alloc ?_ ?_ _ | refine below_then ?_ ?_ (by with_reducible assumption)
      all_goals first | omega | (simp only [sA, sC, sD, sE]; omega) | (simp; done) | (simp; omega)
  have hU : 1 ≤ upR p ∧ upR p ≤ 1000000 := pow10_bd6 _ (by omega)
  have hV : 1 ≤ dnR p ∧ dnR p ≤ 1000000000000 := pow10_bd _ (by omega)
  have HP : ∃ x y : Int, ((p < 0 ∧ x = 0 ∧ y = -p) ∨ (p = 0 ∧ x = 0 ∧ y = 0) ∨ (0 < p ∧ x = p ∧ y = 0)) ∧ (∀ wx, Calls Tryz.prog 150 #[.int .i64 x] wx fun e w' => e = .returned (.int .i64 (upR p)) ∧ wx = w') ∧ (∀ wx, Calls Tryz.prog 150 #[.int .i64 y] wx fun e w' => e = .returned (.int .i64 (dnR p)) ∧ wx = w') := by
    by_cases h : p < 0
    · have e : upR p = 1 := by unfold upR; rw [show p.toNat = 0 by omega]; rfl
      exact ⟨0, -p, .inl ⟨h, rfl, rfl⟩, by rw [e]; exact power0, power_at (-p) (by omega) (by omega)⟩
    by_cases h' : p = 0
    · subst h'
      exact ⟨0, 0, .inr (.inl ⟨rfl, rfl, rfl⟩), power0, power0⟩
    · have e : dnR p = 1 := by unfold dnR; rw [show (-p).toNat = 0 by omega]; rfl
      exact ⟨p, 0, .inr (.inr ⟨by omega, rfl, rfl⟩), power_at p (by omega) (by omega), by rw [e]; exact power0⟩
  obtain ⟨x, y, HC, hpu, hpv⟩ := HP
  have HPU := Lib.hid hpu
  have HPV := Lib.hid hpv
  clear hpu hpv
  have HF : Hid (roundN n d p = mk (if (tk n d).n < 0 then -roundQ n d p else roundQ n d p) (upR p)) := by unfold Hid roundN; rw [if_neg (by omega)]
  have HQ : roundQ n d p = (2 * (((tk n d).n.natAbs : Int) * upR p) + (tk n d).d * dnR p) / (2 * ((tk n d).d * dnR p)) * dnR p := rfl
  rw [HQ] at HF
  clear HQ
  obtain ⟨a1, a2, a3, a4⟩ := tk_bd n d
  obtain ⟨B1, B2, B3, B4, B5, B6, B7, B8⟩ := round_bd (a := ((tk n d).n.natAbs : Int)) (d := (tk n d).d) (u := upR p) (v := dnR p) (by omega) (by omega) a3 a4 hU.1 hU.2 hV.1 hV.2
  generalize roundN n d p = Q at *
  generalize upR p = U at *
  generalize dnR p = V at *
  obtain ⟨A, eA⟩ : ∃ A, A = ((tk n d).n.natAbs : Int) * U := ⟨_, rfl⟩
  obtain ⟨D, eD⟩ : ∃ D, D = (tk n d).d * V := ⟨_, rfl⟩
  rw [← eA] at B1 B2 B5 B6 B7 B8 HF
  rw [← eD] at B3 B4 B5 B6 B7 B8 HF
  have wA : IntKind.i64.wrap (((tk n d).n.natAbs : Int) * U) = A := by rw [← eA]; exact w64 (by omega) (by omega)
  have wD : IntKind.i64.wrap ((tk n d).d * V) = D := by rw [← eD]; exact w64 (by omega) (by omega)
  obtain ⟨q, eq⟩ : ∃ q, q = (2 * A + D) / (2 * D) := ⟨_, rfl⟩
  rw [← eq] at B5 B6 B7 B8 HF
  have wq : (2 * A + D).tdiv (2 * D) = q := by rw [eq]; exact Int.tdiv_eq_ediv_of_nonneg (by omega)
  have hz : (2 * D == 0) = false := by rw [beq_eq_false_iff_ne]; omega
  have wV : IntKind.i64.wrap (q * V) = q * V := w64 (by omega) (by omega)
  have HS := Lib.hid fun wx => num_size (tk n d).n wx (I64.tkn n d)
  clear eA eD eq
  obtain ⟨K, eK⟩ : ∃ K, K = q * V := ⟨_, rfl⟩
  rw [← eK] at B7 B8 HF
  replace wV : IntKind.i64.wrap (q * V) = K := by rw [eK]; exact wV
  clear eK
  have HM := Lib.hid fun (R : Int) (hR : I64 R) wx => num_Make R U wx hR ⟨by omega, by omega⟩
  rcases HC with ⟨hs, rfl, rfl⟩ | ⟨hs, rfl, rfl⟩ | ⟨hs, rfl, rfl⟩ <;> by_cases hneg : (tk n d).n < 0
  all_goals
    try subst hs
    have HM1 := HM.out (if (tk n d).n < 0 then -K else K) (by split <;> exact ⟨by omega, by omega⟩)
    simp only [hneg, if_true, if_false] at HF HM1
    have HM1 := Lib.hid HM1
    clear HM
    go_enter Tryz.func81, Tryz.ntmps81
    go_wp2_with fail
    refine (num_taken _ _ _ hn hd).mono ?_
    rintro e w1 ⟨rfl, hb⟩
    have c12 := lcc hb (w.heap.size) (by (first | omega | (simp only [sz_alloc, sz_setCell, sz_drew, sz_drewN]; omega) | (simp; done) | (simp; omega)))
    have f12 := lcf hb (w.heap.size) (by (first | omega | (simp only [sz_alloc, sz_setCell, sz_drew, sz_drewN]; omega) | (simp; done) | (simp; omega)))
    have s12 := lcs hb (w.heap.size) (by (first | omega | (simp only [sz_alloc, sz_setCell, sz_drew, sz_drewN]; omega) | (simp; done) | (simp; omega)))
    have c13 := lcc hb (w.heap.size + 1) (by (first | omega | (simp only [sz_alloc, sz_setCell, sz_drew, sz_drewN]; omega) | (simp; done) | (simp; omega)))
    have f13 := lcf hb (w.heap.size + 1) (by (first | omega | (simp only [sz_alloc, sz_setCell, sz_drew, sz_drewN]; omega) | (simp; done) | (simp; omega)))
    have s13 := lcs hb (w.heap.size + 1) (by (first | omega | (simp only [sz_alloc, sz_setCell, sz_drew, sz_drewN]; omega) | (simp; done) | (simp; omega)))
    go_wp2_with fail
    refine (HPU.out _).mono ?_
    rintro e w2 ⟨rfl, rfl⟩
    go_wp2_with fail
    refine (HPV.out _).mono ?_
    rintro e w2 ⟨rfl, rfl⟩
    go_wp2_with fail
    go_quiet ((first | (go_at_call 107; exact Calls.quiet_of_same ((HS.out _).mono fun e w' h => ⟨h.1, h.2.symm⟩)) | (go_at_call 107; exact quiet_add_same ((HS.out _).mono fun e w' h => ⟨h.1, h.2.symm⟩))))
    go_wp2_with fail
    refine (HM1.out _).mono ?_
    rintro e' w3 ⟨rfl, hb3⟩
    have c14 := lcc hb3 (w.heap.size + 1) (by (first | omega | (simp only [sz_alloc, sz_setCell, sz_drew, sz_drewN]; omega) | (simp; done) | (simp; omega)))
    have f14 := lcf hb3 (w.heap.size + 1) (by (first | omega | (simp only [sz_alloc, sz_setCell, sz_drew, sz_drewN]; omega) | (simp; done) | (simp; omega)))
    have s14 := lcs hb3 (w.heap.size + 1) (by (first | omega | (simp only [sz_alloc, sz_setCell, sz_drew, sz_drewN]; omega) | (simp; done) | (simp; omega)))
    go_wp2
    refine bodyPost_ret (v := .tuple #[.agg #[.int .i64 Q.n, .int .i64 Q.d], .bool Q.ok]) (by rw [HF.out]; simp [results, Tryz.results81, go_sem, c12, c13, c14]) rfl ⟨rfl, ?_⟩
    focus
      repeat with_reducible first | exact Below.refl _ _ | refine below_drewN ?_ _ | refine Below.drew ?_ | refine Below.setCell ?_ ?_ _ | refine Below.alloc ?_ ?_ _ | refine below_then ?_ ?_ (by with_reducible assumption)
      all_goals first | omega | (simp only [sA, sC, sD, sE]; omega) | (simp; done) | (simp; omega)

end Go.Proofs.YtglngfaagjgpjaaGreatDoor
