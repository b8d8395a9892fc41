/- Walks of package value: Bin at the join of any two values. Walks of package value: Bin at the power of any two values. -/
import Derived.Test.YtglngfaagjgpjaaGreatDoorBx7
import Derived.Test.YtglngfaagjgpjaaGreatDoorBx5
import Derived.Test.YtglngfaagjgpjaaGreatDoorVX
import Derived.Test.YtglngfaagjgpjaaGreatDoorBx8
import Derived.Test.YtglngfaagjgpjaaGreatDoorBx1
import Derived.Test.YtglngfaagjgpjaaGreatDoorBx12
namespace Go.Proofs.YtglngfaagjgpjaaGreatDoor
open Go Go.RowKit
set_option linter.unusedSimpArgs false
set_option linter.unusedVariables false
theorem size_append (a b : ByteArray) : (a ++ b).size = a.size + b.size := ByteArray.size_append
theorem sgB_size (n : Int) : (sgB n).size ≤ 1 := by unfold sgB; split <;> decide
theorem textN_size (n d : Int) : (textN n d).size ≤ 60 := by
  obtain ⟨h1, h2, h3, h4⟩ := tk_bd n d
  unfold textN
  generalize (tk n d).n = p at *
  generalize (tk n d).d = q at *
  have a1 := sgB_size p
  have a2 := (itoaB_size (p.natAbs : Int) ⟨by omega, by omega⟩).2
  have a3 := (itoaB_size q ⟨by omega, by omega⟩).2
  have b := ediv_bd (n := (p.natAbs : Int)) (d := q) (a := 1000000000000) (by omega) (by omega) (by omega) (by omega)
  have a4 := (itoaB_size ((p.natAbs : Int) / q) ⟨by omega, by omega⟩).2
  have hm0 : 0 ≤ (p.natAbs : Int) % q := Int.emod_nonneg _ (by omega)
  have hm1 : (p.natAbs : Int) % q < q := Int.emod_lt_of_pos _ (by omega)
  have hq := ediv_bd (n := 1000000) (d := q) (a := 1000000) (by omega) (by omega) (by omega) (by omega)
  have hp := mul_bd (x := (p.natAbs : Int) % q) (y := 1000000 / q) (a := 1000000) (b := 1000000) (by omega) (by omega) (Int.ediv_nonneg (by omega) (by omega)) hq.2
  have a5 := (itoaB_size (1000000 + (p.natAbs : Int) % q * (1000000 / q)) ⟨by omega, by omega⟩).2
  have a6 := trimZ_size ((itoaB (1000000 + (p.natAbs : Int) % q * (1000000 / q))).extract 1 (itoaB (1000000 + (p.natAbs : Int) % q * (1000000 / q))).size)
  have a7 : ((itoaB (1000000 + (p.natAbs : Int) % q * (1000000 / q))).extract 1 (itoaB (1000000 + (p.natAbs : Int) % q * (1000000 / q))).size).size ≤ (itoaB (1000000 + (p.natAbs : Int) % q * (1000000 / q))).size := by
    rw [ByteArray.size_extract]; omega
  have e1 : (⟨#[47]⟩ : ByteArray).size = 1 := rfl
  have e2 : (⟨#[46]⟩ : ByteArray).size = 1 := rfl
  unfold textX
  split
  · simp only [size_append]; omega
  · split
    · simp only [size_append]; omega
    · simp only [size_append]; omega
theorem asTxt_size (x : Vl) : (asTxt x).t.size ≤ 256 := by
  unfold asTxt asTxtT
  have h := tkV_right x
  generalize tkV x = v at *
  split
  · show (⟨#[]⟩ : ByteArray).size ≤ 256; decide
  · split
    · exact Nat.le_trans (textN_size _ _) (by decide)
    · split
      · show (wordT v.b).size ≤ 256
        unfold wordT
        split <;> decide
      · rcases rightV_cases h with h | ⟨_, h⟩ | ⟨h1, _, h⟩ | h | ⟨_, _, h⟩
        · rw [h]; decide
        · rw [h]; show noT.size ≤ 256; decide
        · exact h1
        · rw [h]; show noT.size ≤ 256; decide
        · rw [h]; show noT.size ≤ 256; decide
theorem asNum_tk (x : Vl) : asNum (tkV x) = asNum x := by unfold asNum; rw [tkV_tkV]

set_option maxRecDepth 100000 in
set_option maxHeartbeats 1000000 in
theorem bin15_first (a b : Vl) (w : World) (ha : a.In) (hb' : b.In) (h4 : (tkV a).k = 4) :
    Calls Tryz.prog 31 #[.int .i64 15, .agg #[.int .i64 (a).k, .int .i64 (a).n, .int .i64 (a).d, .string (a).t, .bool (a).b, .int .i64 (a).f], .agg #[.int .i64 (b).k, .int .i64 (b).n, .int .i64 (b).d, .string (b).t, .bool (b).b, .int .i64 (b).f]] w fun e' w' => e' = .returned (.agg #[.int .i64 (tkV a).k, .int .i64 (tkV a).n, .int .i64 (tkV a).d, .string (tkV a).t, .bool (tkV a).b, .int .i64 (tkV a).f]) ∧ Below w.heap.size w w' := by
  have HT1 := Lib.hid fun wx => value_taken a.k a.n a.d a.t a.b a.f wx ha
  have HT2 := Lib.hid fun wx => value_taken b.k b.n b.d b.t b.b b.f wx hb'
  have e1 : tkV ⟨a.k, a.n, a.d, a.t, a.b, a.f⟩ = tkV a := rfl
  have e2 : tkV ⟨b.k, b.n, b.d, b.t, b.b, b.f⟩ = tkV b := rfl
  rw [e1] at HT1
  rw [e2] at HT2
  generalize tkV a = x at *
  generalize tkV b = y at *
  have k4 : (x.k == 4) = true := by simp [h4]
  clear e1 e2 h4 ha hb'
  go_enter Tryz.func31, Tryz.ntmps31
  go_wp2_with fail
  refine region_below 4 (by kernel_rfl) (by kernel_rfl) ?_
  simp only [List.take_succ_cons, List.take_zero, List.drop_succ_cons, List.drop_zero]
  repeat
    first | (refine q_run ?_ ?_; focus (go_simp; done)) | (refine q_skip ?_ ?_; focus (go_simp; done))
    try (apply Exists.intro; refine ⟨fun w' hw' => ?_, ?_⟩; focus (have hc := (bcell hw'.out).1; unfold Oper.quietAt; go_simp; (try go_ints); (first | rfl | (go_at_call 62; refine (HT1.out _).mono ?_; rintro e w2 ⟨rfl, hb⟩; exact ⟨rfl, hw'.chain hb⟩) | (go_at_call 62; refine (HT2.out _).mono ?_; rintro e w2 ⟨rfl, hb⟩; exact ⟨rfl, hw'.chain hb⟩))))
    intro K hK
    go_simp
    refine hK _ ?_
    clear hK K
  refine wpQuiet_nil ?_
  intro w1 hb'
  have hb := hb'.out
  clear hb'
  obtain ⟨s1, c1_0, c1_1, c1_2, c1_3, c1_4, c1_5, f1⟩ := L6 hb (w.heap.size) (by first | omega | (simp only [sA, sC, sD, sE]; omega) | (simp; done) | (simp; omega)) (by go_simp; exact ⟨rfl, rfl, rfl, rfl, rfl, rfl⟩) (by intro o; go_simp)
  obtain ⟨s2, c2_0, c2_1, c2_2, c2_3, c2_4, c2_5, f2⟩ := L6 hb (w.heap.size + 1) (by first | omega | (simp only [sA, sC, sD, sE]; omega) | (simp; done) | (simp; omega)) (by go_simp; exact ⟨rfl, rfl, rfl, rfl, rfl, rfl⟩) (by intro o; go_simp)
  obtain ⟨s3, c3_0, c3_1, c3_2, c3_3, c3_4, c3_5, f3⟩ := L6 hb (w.heap.size + 1 + 1) (by first | omega | (simp only [sA, sC, sD, sE]; omega) | (simp; done) | (simp; omega)) (by go_simp; exact ⟨rfl, rfl, rfl, rfl, rfl, rfl⟩) (by intro o; go_simp)
  go_upto_region 4 with (fail)
  first | with_reducible refine wp_rebase ?_ | with_reducible refine wpList_rebase ?_
  intro w1 hb'
  have hb := hb'.out
  clear hb'
  obtain ⟨s4, c4_0, c4_1, c4_2, c4_3, c4_4, c4_5, f4⟩ := L6 hb (w.heap.size) (by first | omega | (simp only [sA, sC, sD, sE]; omega) | (simp; done) | (simp; omega)) (by go_simp; exact ⟨rfl, rfl, rfl, rfl, rfl, rfl⟩) (by intro o; go_simp)
  obtain ⟨s5, c5_0, c5_1, c5_2, c5_3, c5_4, c5_5, f5⟩ := L6 hb (w.heap.size + 1) (by first | omega | (simp only [sA, sC, sD, sE]; omega) | (simp; done) | (simp; omega)) (by go_simp; exact ⟨rfl, rfl, rfl, rfl, rfl, rfl⟩) (by intro o; go_simp)
  obtain ⟨s6, c6_0, c6_1, c6_2, c6_3, c6_4, c6_5, f6⟩ := L6 hb (w.heap.size + 1 + 1) (by first | omega | (simp only [sA, sC, sD, sE]; omega) | (simp; done) | (simp; omega)) (by go_simp; exact ⟨rfl, rfl, rfl, rfl, rfl, rfl⟩) (by intro o; go_simp)
  clear c1_0 c1_1 c1_2 c1_3 c1_4 c1_5 f1 c2_0 c2_1 c2_2 c2_3 c2_4 c2_5 f2 c3_0 c3_1 c3_2 c3_3 c3_4 c3_5 f3
  go_wp2
  refine bodyPost_ret (v := .agg #[.int .i64 (x).k, .int .i64 (x).n, .int .i64 (x).d, .string (x).t, .bool (x).b, .int .i64 (x).f]) (by simp [results, Tryz.results31, go_sem, c4_0, c4_1, c4_2, c4_3, c4_4, c4_5, c5_0, c5_1, c5_2, c5_3, c5_4, c5_5, c6_0, c6_1, c6_2, c6_3, c6_4, c6_5]) rfl ⟨rfl, ?_⟩
  focus
    repeat with_reducible first | exact Below.refl _ _ | refine below_drewN ?_ _ | refine Below.drew ?_ | refine Below.setCell ?_ ?_ _ | refine Below.alloc ?_ ?_ _ | refine below_then ?_ ?_ (by with_reducible assumption)
    all_goals first | omega | (simp only [sA, sC, sD, sE]; omega) | (simp; done) | (simp; omega)
set_option maxRecDepth 100000 in
set_option maxHeartbeats 1000000 in
theorem bin15_second (a b : Vl) (w : World) (ha : a.In) (hb' : b.In) (h4 : ¬ (tkV a).k = 4) (h5 : (tkV b).k = 4) :
    Calls Tryz.prog 31 #[.int .i64 15, .agg #[.int .i64 (a).k, .int .i64 (a).n, .int .i64 (a).d, .string (a).t, .bool (a).b, .int .i64 (a).f], .agg #[.int .i64 (b).k, .int .i64 (b).n, .int .i64 (b).d, .string (b).t, .bool (b).b, .int .i64 (b).f]] w fun e' w' => e' = .returned (.agg #[.int .i64 (tkV b).k, .int .i64 (tkV b).n, .int .i64 (tkV b).d, .string (tkV b).t, .bool (tkV b).b, .int .i64 (tkV b).f]) ∧ Below w.heap.size w w' := by
  have HT1 := Lib.hid fun wx => value_taken a.k a.n a.d a.t a.b a.f wx ha
  have HT2 := Lib.hid fun wx => value_taken b.k b.n b.d b.t b.b b.f wx hb'
  have e1 : tkV ⟨a.k, a.n, a.d, a.t, a.b, a.f⟩ = tkV a := rfl
  have e2 : tkV ⟨b.k, b.n, b.d, b.t, b.b, b.f⟩ = tkV b := rfl
  rw [e1] at HT1
  rw [e2] at HT2
  generalize tkV a = x at *
  generalize tkV b = y at *
  have k4 : (x.k == 4) = false := by simp [h4]
  have k5 : (y.k == 4) = true := by simp [h5]
  clear e1 e2 h4 h5 ha hb'
  go_enter Tryz.func31, Tryz.ntmps31
  go_wp2_with fail
  refine region_below 4 (by kernel_rfl) (by kernel_rfl) ?_
  simp only [List.take_succ_cons, List.take_zero, List.drop_succ_cons, List.drop_zero]
  repeat
    first | (refine q_run ?_ ?_; focus (go_simp; done)) | (refine q_skip ?_ ?_; focus (go_simp; done))
    try (apply Exists.intro; refine ⟨fun w' hw' => ?_, ?_⟩; focus (have hc := (bcell hw'.out).1; unfold Oper.quietAt; go_simp; (try go_ints); (first | rfl | (go_at_call 62; refine (HT1.out _).mono ?_; rintro e w2 ⟨rfl, hb⟩; exact ⟨rfl, hw'.chain hb⟩) | (go_at_call 62; refine (HT2.out _).mono ?_; rintro e w2 ⟨rfl, hb⟩; exact ⟨rfl, hw'.chain hb⟩))))
    intro K hK
    go_simp
    refine hK _ ?_
    clear hK K
  refine wpQuiet_nil ?_
  intro w1 hb'
  have hb := hb'.out
  clear hb'
  obtain ⟨s7, c7_0, c7_1, c7_2, c7_3, c7_4, c7_5, f7⟩ := L6 hb (w.heap.size) (by first | omega | (simp only [sA, sC, sD, sE]; omega) | (simp; done) | (simp; omega)) (by go_simp; exact ⟨rfl, rfl, rfl, rfl, rfl, rfl⟩) (by intro o; go_simp)
  obtain ⟨s8, c8_0, c8_1, c8_2, c8_3, c8_4, c8_5, f8⟩ := L6 hb (w.heap.size + 1) (by first | omega | (simp only [sA, sC, sD, sE]; omega) | (simp; done) | (simp; omega)) (by go_simp; exact ⟨rfl, rfl, rfl, rfl, rfl, rfl⟩) (by intro o; go_simp)
  obtain ⟨s9, c9_0, c9_1, c9_2, c9_3, c9_4, c9_5, f9⟩ := L6 hb (w.heap.size + 1 + 1) (by first | omega | (simp only [sA, sC, sD, sE]; omega) | (simp; done) | (simp; omega)) (by go_simp; exact ⟨rfl, rfl, rfl, rfl, rfl, rfl⟩) (by intro o; go_simp)
  go_upto_region 4 with (fail)
  first | with_reducible refine wp_rebase ?_ | with_reducible refine wpList_rebase ?_
  intro w1 hb'
  have hb := hb'.out
  clear hb'
  obtain ⟨s10, c10_0, c10_1, c10_2, c10_3, c10_4, c10_5, f10⟩ := L6 hb (w.heap.size) (by first | omega | (simp only [sA, sC, sD, sE]; omega) | (simp; done) | (simp; omega)) (by go_simp; exact ⟨rfl, rfl, rfl, rfl, rfl, rfl⟩) (by intro o; go_simp)
  obtain ⟨s11, c11_0, c11_1, c11_2, c11_3, c11_4, c11_5, f11⟩ := L6 hb (w.heap.size + 1) (by first | omega | (simp only [sA, sC, sD, sE]; omega) | (simp; done) | (simp; omega)) (by go_simp; exact ⟨rfl, rfl, rfl, rfl, rfl, rfl⟩) (by intro o; go_simp)
  obtain ⟨s12, c12_0, c12_1, c12_2, c12_3, c12_4, c12_5, f12⟩ := L6 hb (w.heap.size + 1 + 1) (by first | omega | (simp only [sA, sC, sD, sE]; omega) | (simp; done) | (simp; omega)) (by go_simp; exact ⟨rfl, rfl, rfl, rfl, rfl, rfl⟩) (by intro o; go_simp)
  clear c7_0 c7_1 c7_2 c7_3 c7_4 c7_5 f7 c8_0 c8_1 c8_2 c8_3 c8_4 c8_5 f8 c9_0 c9_1 c9_2 c9_3 c9_4 c9_5 f9
  go_wp2
  refine bodyPost_ret (v := .agg #[.int .i64 (y).k, .int .i64 (y).n, .int .i64 (y).d, .string (y).t, .bool (y).b, .int .i64 (y).f]) (by simp [results, Tryz.results31, go_sem, c10_0, c10_1, c10_2, c10_3, c10_4, c10_5, c11_0, c11_1, c11_2, c11_3, c11_4, c11_5, c12_0, c12_1, c12_2, c12_3, c12_4, c12_5]) rfl ⟨rfl, ?_⟩
  focus
    repeat with_reducible first | exact Below.refl _ _ | refine below_drewN ?_ _ | refine Below.drew ?_ | refine Below.setCell ?_ ?_ _ | refine Below.alloc ?_ ?_ _ | refine below_then ?_ ?_ (by with_reducible assumption)
    all_goals first | omega | (simp only [sA, sC, sD, sE]; omega) | (simp; done) | (simp; omega)
end Go.Proofs.YtglngfaagjgpjaaGreatDoor
namespace Go.Proofs.YtglngfaagjgpjaaGreatDoor
open Go Go.RowKit
set_option linter.unusedSimpArgs false
set_option linter.unusedVariables false
/-- '^' of two values. -/
def powVV (a b : Vl) : Vl := if (tkV a).k = 4 then tkV a else if (tkV b).k = 4 then tkV b else if (asNum a).e.k = 4 then (asNum a).e else if (asNum b).e.k = 4 then (asNum b).e else powV (asNum a).n (asNum a).d (asNum b).n (asNum b).d

theorem mk_i64 (n d : Int) : I64 (mk n d).n ∧ I64 (mk n d).d := by
  have h := mk_bd n d
  exact ⟨I64.of h.1 h.2.1, I64.of (by omega) (by omega)⟩
theorem asNum_i64 (x : Vl) : I64 (asNum x).n ∧ I64 (asNum x).d := by
  have z : I64 0 := ⟨by decide, by decide⟩
  have o : I64 1 := ⟨by decide, by decide⟩
  have h := right_in (tkV_right x)
  unfold asNum asNumT
  generalize tkV x = v at *
  repeat' split
  all_goals first | exact ⟨h.n, h.d⟩ | exact ⟨o, o⟩ | exact ⟨z, o⟩ | exact ⟨z, z⟩ | skip
  all_goals
    have hb : ∀ m l, I64 (readS m l).n ∧ I64 (readS m l).d := by
      intro m l
      unfold readS readP
      repeat' split
      all_goals first | exact ⟨z, z⟩ | exact mk_i64 _ _
    exact hb _ _


set_option maxRecDepth 100000 in
set_option maxHeartbeats 2000000 in
theorem bin15_pow (a b : Vl) (w : World) (ha : a.In) (hb' : b.In) (h4 : ¬ (tkV a).k = 4) (h5 : ¬ (tkV b).k = 4) :
    Calls Tryz.prog 31 #[.int .i64 15, .agg #[.int .i64 (a).k, .int .i64 (a).n, .int .i64 (a).d, .string (a).t, .bool (a).b, .int .i64 (a).f], .agg #[.int .i64 (b).k, .int .i64 (b).n, .int .i64 (b).d, .string (b).t, .bool (b).b, .int .i64 (b).f]] w fun e' w' => e' = .returned (.agg #[.int .i64 (if (asNum a).e.k = 4 then (asNum a).e else if (asNum b).e.k = 4 then (asNum b).e else powV (asNum a).n (asNum a).d (asNum b).n (asNum b).d).k, .int .i64 (if (asNum a).e.k = 4 then (asNum a).e else if (asNum b).e.k = 4 then (asNum b).e else powV (asNum a).n (asNum a).d (asNum b).n (asNum b).d).n, .int .i64 (if (asNum a).e.k = 4 then (asNum a).e else if (asNum b).e.k = 4 then (asNum b).e else powV (asNum a).n (asNum a).d (asNum b).n (asNum b).d).d, .string (if (asNum a).e.k = 4 then (asNum a).e else if (asNum b).e.k = 4 then (asNum b).e else powV (asNum a).n (asNum a).d (asNum b).n (asNum b).d).t, .bool (if (asNum a).e.k = 4 then (asNum a).e else if (asNum b).e.k = 4 then (asNum b).e else powV (asNum a).n (asNum a).d (asNum b).n (asNum b).d).b, .int .i64 (if (asNum a).e.k = 4 then (asNum a).e else if (asNum b).e.k = 4 then (asNum b).e else powV (asNum a).n (asNum a).d (asNum b).n (asNum b).d).f]) ∧ Below w.heap.size w w' := by
  have HT1 := Lib.hid fun wx => value_taken a.k a.n a.d a.t a.b a.f wx ha
  have HT2 := Lib.hid fun wx => value_taken b.k b.n b.d b.t b.b b.f wx hb'
  have e1 : tkV ⟨a.k, a.n, a.d, a.t, a.b, a.f⟩ = tkV a := rfl
  have e2 : tkV ⟨b.k, b.n, b.d, b.t, b.b, b.f⟩ = tkV b := rfl
  rw [e1] at HT1
  rw [e2] at HT2
  have HN1 : Hid (∀ wx, Calls Tryz.prog 66 #[.agg #[.int .i64 (tkV a).k, .int .i64 (tkV a).n, .int .i64 (tkV a).d, .string (tkV a).t, .bool (tkV a).b, .int .i64 (tkV a).f]] wx fun e w' => e = .returned (.tuple #[.agg #[.int .i64 (asNum a).n, .int .i64 (asNum a).d], .agg #[.int .i64 ((asNum a).e).k, .int .i64 ((asNum a).e).n, .int .i64 ((asNum a).e).d, .string ((asNum a).e).t, .bool ((asNum a).e).b, .int .i64 ((asNum a).e).f]]) ∧ Below wx.heap.size wx w') := by
    intro wx
    rw [← asNum_tk a]
    exact value_AsNumber _ _ _ _ _ _ wx (tkV_in ha)
  have HN2 : Hid (∀ wx, Calls Tryz.prog 66 #[.agg #[.int .i64 (tkV b).k, .int .i64 (tkV b).n, .int .i64 (tkV b).d, .string (tkV b).t, .bool (tkV b).b, .int .i64 (tkV b).f]] wx fun e w' => e = .returned (.tuple #[.agg #[.int .i64 (asNum b).n, .int .i64 (asNum b).d], .agg #[.int .i64 ((asNum b).e).k, .int .i64 ((asNum b).e).n, .int .i64 ((asNum b).e).d, .string ((asNum b).e).t, .bool ((asNum b).e).b, .int .i64 ((asNum b).e).f]]) ∧ Below wx.heap.size wx w') := by
    intro wx
    rw [← asNum_tk b]
    exact value_AsNumber _ _ _ _ _ _ wx (tkV_in hb')
  have i1 := asNum_i64 a
  have i2 := asNum_i64 b
  have HR := Lib.hid fun wx => value_reckon15 (asNum a).n (asNum a).d (asNum b).n (asNum b).d wx i1.1 i1.2 i2.1 i2.2
  generalize asNum a = p at *
  generalize asNum b = q at *
  generalize tkV a = x at *
  generalize tkV b = y at *
  generalize powV p.n p.d q.n q.d = r at *
  have k4 : (x.k == 4) = false := by simp [h4]
  have k5 : (y.k == 4) = false := by simp [h5]
  clear e1 e2 h4 h5 ha hb' i1 i2
  by_cases h6 : p.e.k = 4
  · rw [if_pos h6]
    have k6 : (p.e.k == 4) = true := by simp [h6]
    clear h6
    go_enter Tryz.func31, Tryz.ntmps31
    go_wp2_with fail
    refine region_below 4 (by kernel_rfl) (by kernel_rfl) ?_
    simp only [List.take_succ_cons, List.take_zero, List.drop_succ_cons, List.drop_zero]
    repeat
      first | (refine q_run ?_ ?_; focus (go_simp; done)) | (refine q_skip ?_ ?_; focus (go_simp; done))
      try (apply Exists.intro; refine ⟨fun w' hw' => ?_, ?_⟩; focus (have hc := (bcell hw'.out).1; unfold Oper.quietAt; go_simp; (try go_ints); (first | rfl | (go_at_call 62; refine (HT1.out _).mono ?_; rintro e w2 ⟨rfl, hb⟩; exact ⟨rfl, hw'.chain hb⟩) | (go_at_call 62; refine (HT2.out _).mono ?_; rintro e w2 ⟨rfl, hb⟩; exact ⟨rfl, hw'.chain hb⟩))))
      intro K hK
      go_simp
      refine hK _ ?_
      clear hK K
    refine wpQuiet_nil ?_
    intro w1 hb'
    have hb := hb'.out
    clear hb'
    obtain ⟨s1, c1_0, c1_1, c1_2, c1_3, c1_4, c1_5, f1⟩ := L6 hb (w.heap.size) (by first | omega | (simp only [sA, sC, sD, sE]; omega) | (simp; done) | (simp; omega)) (by go_simp; exact ⟨rfl, rfl, rfl, rfl, rfl, rfl⟩) (by intro o; go_simp)
    obtain ⟨s2, c2_0, c2_1, c2_2, c2_3, c2_4, c2_5, f2⟩ := L6 hb (w.heap.size + 1) (by first | omega | (simp only [sA, sC, sD, sE]; omega) | (simp; done) | (simp; omega)) (by go_simp; exact ⟨rfl, rfl, rfl, rfl, rfl, rfl⟩) (by intro o; go_simp)
    obtain ⟨s3, c3_0, c3_1, c3_2, c3_3, c3_4, c3_5, f3⟩ := L6 hb (w.heap.size + 1 + 1) (by first | omega | (simp only [sA, sC, sD, sE]; omega) | (simp; done) | (simp; omega)) (by go_simp; exact ⟨rfl, rfl, rfl, rfl, rfl, rfl⟩) (by intro o; go_simp)
    go_upto_region 4 with (fail)
    first | with_reducible refine wp_rebase ?_ | with_reducible refine wpList_rebase ?_
    intro w1 hb'
    have hb := hb'.out
    clear hb'
    obtain ⟨s4, c4_0, c4_1, c4_2, c4_3, c4_4, c4_5, f4⟩ := L6 hb (w.heap.size) (by first | omega | (simp only [sA, sC, sD, sE]; omega) | (simp; done) | (simp; omega)) (by go_simp; exact ⟨rfl, rfl, rfl, rfl, rfl, rfl⟩) (by intro o; go_simp)
    obtain ⟨s5, c5_0, c5_1, c5_2, c5_3, c5_4, c5_5, f5⟩ := L6 hb (w.heap.size + 1) (by first | omega | (simp only [sA, sC, sD, sE]; omega) | (simp; done) | (simp; omega)) (by go_simp; exact ⟨rfl, rfl, rfl, rfl, rfl, rfl⟩) (by intro o; go_simp)
    obtain ⟨s6, c6_0, c6_1, c6_2, c6_3, c6_4, c6_5, f6⟩ := L6 hb (w.heap.size + 1 + 1) (by first | omega | (simp only [sA, sC, sD, sE]; omega) | (simp; done) | (simp; omega)) (by go_simp; exact ⟨rfl, rfl, rfl, rfl, rfl, rfl⟩) (by intro o; go_simp)
    clear c1_0 c1_1 c1_2 c1_3 c1_4 c1_5 f1 c2_0 c2_1 c2_2 c2_3 c2_4 c2_5 f2 c3_0 c3_1 c3_2 c3_3 c3_4 c3_5 f3
    go_wp2_with fail
    refine (HN1.out _).mono ?_
    rintro e' w2 ⟨rfl, hb2⟩
    obtain ⟨s7, c7_0, c7_1, c7_2, c7_3, c7_4, c7_5, f7⟩ := L6 hb2 (w.heap.size) (by first | omega | (simp only [sA, sC, sD, sE]; omega) | (simp; done) | (simp; omega)) (by go_simp; exact ⟨rfl, rfl, rfl, rfl, rfl, rfl⟩) (by intro o; go_simp)
    obtain ⟨s8, c8_0, c8_1, c8_2, c8_3, c8_4, c8_5, f8⟩ := L6 hb2 (w.heap.size + 1) (by first | omega | (simp only [sA, sC, sD, sE]; omega) | (simp; done) | (simp; omega)) (by go_simp; exact ⟨rfl, rfl, rfl, rfl, rfl, rfl⟩) (by intro o; go_simp)
    obtain ⟨s9, c9_0, c9_1, c9_2, c9_3, c9_4, c9_5, f9⟩ := L6 hb2 (w.heap.size + 1 + 1) (by first | omega | (simp only [sA, sC, sD, sE]; omega) | (simp; done) | (simp; omega)) (by go_simp; exact ⟨rfl, rfl, rfl, rfl, rfl, rfl⟩) (by intro o; go_simp)
    clear c4_0 c4_1 c4_2 c4_3 c4_4 c4_5 f4 c5_0 c5_1 c5_2 c5_3 c5_4 c5_5 f5 c6_0 c6_1 c6_2 c6_3 c6_4 c6_5 f6
    go_upto_region 15 with (fail)
    first | with_reducible refine wp_rebase ?_ | with_reducible refine wpList_rebase ?_
    intro w1 hb'
    have hb := hb'.out
    clear hb'
    obtain ⟨s10, c10_0, c10_1, c10_2, c10_3, c10_4, c10_5, f10⟩ := L6 hb (w.heap.size + 1 + 1) (by first | omega | (simp only [sA, sC, sD, sE]; omega) | (simp; done) | (simp; omega)) (by go_simp; exact ⟨rfl, rfl, rfl, rfl, rfl, rfl⟩) (by intro o; go_simp)
    obtain ⟨s11, c11_0, c11_1, c11_2, c11_3, c11_4, c11_5, f11⟩ := L6 hb (w2.heap.size + 1) (by first | omega | (simp only [sA, sC, sD, sE]; omega) | (simp; done) | (simp; omega)) (by go_simp; exact ⟨rfl, rfl, rfl, rfl, rfl, rfl⟩) (by intro o; go_simp)
    clear c7_0 c7_1 c7_2 c7_3 c7_4 c7_5 f7 c8_0 c8_1 c8_2 c8_3 c8_4 c8_5 f8 c9_0 c9_1 c9_2 c9_3 c9_4 c9_5 f9
    go_wp2
    refine bodyPost_ret (v := .agg #[.int .i64 (p.e).k, .int .i64 (p.e).n, .int .i64 (p.e).d, .string (p.e).t, .bool (p.e).b, .int .i64 (p.e).f]) (by simp [results, Tryz.results31, go_sem, c10_0, c10_1, c10_2, c10_3, c10_4, c10_5, c11_0, c11_1, c11_2, c11_3, c11_4, c11_5]) rfl ⟨rfl, ?_⟩
    focus
      repeat with_reducible first | exact Below.refl _ _ | refine below_drewN ?_ _ | refine Below.drew ?_ | refine Below.setCell ?_ ?_ _ | refine Below.alloc ?_ ?_ _ | refine below_then ?_ ?_ (by with_reducible assumption)
      all_goals first | omega | (simp only [sA, sC, sD, sE]; omega) | (simp; done) | (simp; omega)
  rw [if_neg h6]
  have k6 : (p.e.k == 4) = false := by simp [h6]
  clear h6
  by_cases h7 : q.e.k = 4
  · rw [if_pos h7]
    have k7 : (q.e.k == 4) = true := by simp [h7]
    clear h7
    go_enter Tryz.func31, Tryz.ntmps31
    go_wp2_with fail
    refine region_below 4 (by kernel_rfl) (by kernel_rfl) ?_
    simp only [List.take_succ_cons, List.take_zero, List.drop_succ_cons, List.drop_zero]
    repeat
      first | (refine q_run ?_ ?_; focus (go_simp; done)) | (refine q_skip ?_ ?_; focus (go_simp; done))
      try (apply Exists.intro; refine ⟨fun w' hw' => ?_, ?_⟩; focus (have hc := (bcell hw'.out).1; unfold Oper.quietAt; go_simp; (try go_ints); (first | rfl | (go_at_call 62; refine (HT1.out _).mono ?_; rintro e w2 ⟨rfl, hb⟩; exact ⟨rfl, hw'.chain hb⟩) | (go_at_call 62; refine (HT2.out _).mono ?_; rintro e w2 ⟨rfl, hb⟩; exact ⟨rfl, hw'.chain hb⟩))))
      intro K hK
      go_simp
      refine hK _ ?_
      clear hK K
    refine wpQuiet_nil ?_
    intro w1 hb'
    have hb := hb'.out
    clear hb'
    obtain ⟨s12, c12_0, c12_1, c12_2, c12_3, c12_4, c12_5, f12⟩ := L6 hb (w.heap.size) (by first | omega | (simp only [sA, sC, sD, sE]; omega) | (simp; done) | (simp; omega)) (by go_simp; exact ⟨rfl, rfl, rfl, rfl, rfl, rfl⟩) (by intro o; go_simp)
    obtain ⟨s13, c13_0, c13_1, c13_2, c13_3, c13_4, c13_5, f13⟩ := L6 hb (w.heap.size + 1) (by first | omega | (simp only [sA, sC, sD, sE]; omega) | (simp; done) | (simp; omega)) (by go_simp; exact ⟨rfl, rfl, rfl, rfl, rfl, rfl⟩) (by intro o; go_simp)
    obtain ⟨s14, c14_0, c14_1, c14_2, c14_3, c14_4, c14_5, f14⟩ := L6 hb (w.heap.size + 1 + 1) (by first | omega | (simp only [sA, sC, sD, sE]; omega) | (simp; done) | (simp; omega)) (by go_simp; exact ⟨rfl, rfl, rfl, rfl, rfl, rfl⟩) (by intro o; go_simp)
    go_upto_region 4 with (fail)
    first | with_reducible refine wp_rebase ?_ | with_reducible refine wpList_rebase ?_
    intro w1 hb'
    have hb := hb'.out
    clear hb'
    obtain ⟨s15, c15_0, c15_1, c15_2, c15_3, c15_4, c15_5, f15⟩ := L6 hb (w.heap.size) (by first | omega | (simp only [sA, sC, sD, sE]; omega) | (simp; done) | (simp; omega)) (by go_simp; exact ⟨rfl, rfl, rfl, rfl, rfl, rfl⟩) (by intro o; go_simp)
    obtain ⟨s16, c16_0, c16_1, c16_2, c16_3, c16_4, c16_5, f16⟩ := L6 hb (w.heap.size + 1) (by first | omega | (simp only [sA, sC, sD, sE]; omega) | (simp; done) | (simp; omega)) (by go_simp; exact ⟨rfl, rfl, rfl, rfl, rfl, rfl⟩) (by intro o; go_simp)
    obtain ⟨s17, c17_0, c17_1, c17_2, c17_3, c17_4, c17_5, f17⟩ := L6 hb (w.heap.size + 1 + 1) (by first | omega | (simp only [sA, sC, sD, sE]; omega) | (simp; done) | (simp; omega)) (by go_simp; exact ⟨rfl, rfl, rfl, rfl, rfl, rfl⟩) (by intro o; go_simp)
    clear c12_0 c12_1 c12_2 c12_3 c12_4 c12_5 f12 c13_0 c13_1 c13_2 c13_3 c13_4 c13_5 f13 c14_0 c14_1 c14_2 c14_3 c14_4 c14_5 f14
    go_wp2_with fail
    refine (HN1.out _).mono ?_
    rintro e' w2 ⟨rfl, hb2⟩
    obtain ⟨s18, c18_0, c18_1, c18_2, c18_3, c18_4, c18_5, f18⟩ := L6 hb2 (w.heap.size) (by first | omega | (simp only [sA, sC, sD, sE]; omega) | (simp; done) | (simp; omega)) (by go_simp; exact ⟨rfl, rfl, rfl, rfl, rfl, rfl⟩) (by intro o; go_simp)
    obtain ⟨s19, c19_0, c19_1, c19_2, c19_3, c19_4, c19_5, f19⟩ := L6 hb2 (w.heap.size + 1) (by first | omega | (simp only [sA, sC, sD, sE]; omega) | (simp; done) | (simp; omega)) (by go_simp; exact ⟨rfl, rfl, rfl, rfl, rfl, rfl⟩) (by intro o; go_simp)
    obtain ⟨s20, c20_0, c20_1, c20_2, c20_3, c20_4, c20_5, f20⟩ := L6 hb2 (w.heap.size + 1 + 1) (by first | omega | (simp only [sA, sC, sD, sE]; omega) | (simp; done) | (simp; omega)) (by go_simp; exact ⟨rfl, rfl, rfl, rfl, rfl, rfl⟩) (by intro o; go_simp)
    clear c15_0 c15_1 c15_2 c15_3 c15_4 c15_5 f15 c16_0 c16_1 c16_2 c16_3 c16_4 c16_5 f16 c17_0 c17_1 c17_2 c17_3 c17_4 c17_5 f17
    go_upto_region 15 with (fail)
    first | with_reducible refine wp_rebase ?_ | with_reducible refine wpList_rebase ?_
    intro w1 hb'
    have hb := hb'.out
    clear hb'
    obtain ⟨s21, c21_0, c21_1, c21_2, c21_3, c21_4, c21_5, f21⟩ := L6 hb (w.heap.size + 1) (by first | omega | (simp only [sA, sC, sD, sE]; omega) | (simp; done) | (simp; omega)) (by go_simp; exact ⟨rfl, rfl, rfl, rfl, rfl, rfl⟩) (by intro o; go_simp)
    obtain ⟨s22, c22_0, c22_1, c22_2, c22_3, c22_4, c22_5, f22⟩ := L6 hb (w.heap.size + 1 + 1) (by first | omega | (simp only [sA, sC, sD, sE]; omega) | (simp; done) | (simp; omega)) (by go_simp; exact ⟨rfl, rfl, rfl, rfl, rfl, rfl⟩) (by intro o; go_simp)
    obtain ⟨s23, c23_0, c23_1, f23⟩ := L2 hb (w2.heap.size) (by first | omega | (simp only [sA, sC, sD, sE]; omega) | (simp; done) | (simp; omega)) (by go_simp; exact ⟨rfl, rfl⟩) (by intro o; go_simp)
    obtain ⟨s24, c24_0, c24_1, c24_2, c24_3, c24_4, c24_5, f24⟩ := L6 hb (w2.heap.size + 1) (by first | omega | (simp only [sA, sC, sD, sE]; omega) | (simp; done) | (simp; omega)) (by go_simp; exact ⟨rfl, rfl, rfl, rfl, rfl, rfl⟩) (by intro o; go_simp)
    clear c18_0 c18_1 c18_2 c18_3 c18_4 c18_5 f18 c19_0 c19_1 c19_2 c19_3 c19_4 c19_5 f19 c20_0 c20_1 c20_2 c20_3 c20_4 c20_5 f20
    go_wp2_with fail
    refine (HN2.out _).mono ?_
    rintro e' w3 ⟨rfl, hb3⟩
    obtain ⟨s25, c25_0, c25_1, c25_2, c25_3, c25_4, c25_5, f25⟩ := L6 hb3 (w.heap.size + 1 + 1) (by first | omega | (simp only [sA, sC, sD, sE]; omega) | (simp; done) | (simp; omega)) (by go_simp; exact ⟨rfl, rfl, rfl, rfl, rfl, rfl⟩) (by intro o; go_simp)
    obtain ⟨s26, c26_0, c26_1, f26⟩ := L2 hb3 (w2.heap.size) (by first | omega | (simp only [sA, sC, sD, sE]; omega) | (simp; done) | (simp; omega)) (by go_simp; exact ⟨rfl, rfl⟩) (by intro o; go_simp)
    obtain ⟨s27, c27_0, c27_1, c27_2, c27_3, c27_4, c27_5, f27⟩ := L6 hb3 (w2.heap.size + 1) (by first | omega | (simp only [sA, sC, sD, sE]; omega) | (simp; done) | (simp; omega)) (by go_simp; exact ⟨rfl, rfl, rfl, rfl, rfl, rfl⟩) (by intro o; go_simp)
    clear c21_0 c21_1 c21_2 c21_3 c21_4 c21_5 f21 c22_0 c22_1 c22_2 c22_3 c22_4 c22_5 f22 c23_0 c23_1 f23 c24_0 c24_1 c24_2 c24_3 c24_4 c24_5 f24
    go_upto_region 18 with (fail)
    first | with_reducible refine wp_rebase ?_ | with_reducible refine wpList_rebase ?_
    intro w1 hb'
    have hb := hb'.out
    clear hb'
    obtain ⟨s28, c28_0, c28_1, c28_2, c28_3, c28_4, c28_5, f28⟩ := L6 hb (w.heap.size + 1 + 1) (by first | omega | (simp only [sA, sC, sD, sE]; omega) | (simp; done) | (simp; omega)) (by go_simp; exact ⟨rfl, rfl, rfl, rfl, rfl, rfl⟩) (by intro o; go_simp)
    obtain ⟨s29, c29_0, c29_1, c29_2, c29_3, c29_4, c29_5, f29⟩ := L6 hb (w2.heap.size + 1) (by first | omega | (simp only [sA, sC, sD, sE]; omega) | (simp; done) | (simp; omega)) (by go_simp; exact ⟨rfl, rfl, rfl, rfl, rfl, rfl⟩) (by intro o; go_simp)
    clear c25_0 c25_1 c25_2 c25_3 c25_4 c25_5 f25 c26_0 c26_1 f26 c27_0 c27_1 c27_2 c27_3 c27_4 c27_5 f27
    go_wp2
    refine bodyPost_ret (v := .agg #[.int .i64 (q.e).k, .int .i64 (q.e).n, .int .i64 (q.e).d, .string (q.e).t, .bool (q.e).b, .int .i64 (q.e).f]) (by simp [results, Tryz.results31, go_sem, c28_0, c28_1, c28_2, c28_3, c28_4, c28_5, c29_0, c29_1, c29_2, c29_3, c29_4, c29_5]) rfl ⟨rfl, ?_⟩
    focus
      repeat with_reducible first | exact Below.refl _ _ | refine below_drewN ?_ _ | refine Below.drew ?_ | refine Below.setCell ?_ ?_ _ | refine Below.alloc ?_ ?_ _ | refine below_then ?_ ?_ (by with_reducible assumption)
      all_goals first | omega | (simp only [sA, sC, sD, sE]; omega) | (simp; done) | (simp; omega)
  rw [if_neg h7]
  have k7 : (q.e.k == 4) = false := by simp [h7]
  clear h7
  go_enter Tryz.func31, Tryz.ntmps31
  go_wp2_with fail
  refine region_below 4 (by kernel_rfl) (by kernel_rfl) ?_
  simp only [List.take_succ_cons, List.take_zero, List.drop_succ_cons, List.drop_zero]
  repeat
    first | (refine q_run ?_ ?_; focus (go_simp; done)) | (refine q_skip ?_ ?_; focus (go_simp; done))
    try (apply Exists.intro; refine ⟨fun w' hw' => ?_, ?_⟩; focus (have hc := (bcell hw'.out).1; unfold Oper.quietAt; go_simp; (try go_ints); (first | rfl | (go_at_call 62; refine (HT1.out _).mono ?_; rintro e w2 ⟨rfl, hb⟩; exact ⟨rfl, hw'.chain hb⟩) | (go_at_call 62; refine (HT2.out _).mono ?_; rintro e w2 ⟨rfl, hb⟩; exact ⟨rfl, hw'.chain hb⟩))))
    intro K hK
    go_simp
    refine hK _ ?_
    clear hK K
  refine wpQuiet_nil ?_
  intro w1 hb'
  have hb := hb'.out
  clear hb'
  obtain ⟨s30, c30_0, c30_1, c30_2, c30_3, c30_4, c30_5, f30⟩ := L6 hb (w.heap.size) (by first | omega | (simp only [sA, sC, sD, sE]; omega) | (simp; done) | (simp; omega)) (by go_simp; exact ⟨rfl, rfl, rfl, rfl, rfl, rfl⟩) (by intro o; go_simp)
  obtain ⟨s31, c31_0, c31_1, c31_2, c31_3, c31_4, c31_5, f31⟩ := L6 hb (w.heap.size + 1) (by first | omega | (simp only [sA, sC, sD, sE]; omega) | (simp; done) | (simp; omega)) (by go_simp; exact ⟨rfl, rfl, rfl, rfl, rfl, rfl⟩) (by intro o; go_simp)
  obtain ⟨s32, c32_0, c32_1, c32_2, c32_3, c32_4, c32_5, f32⟩ := L6 hb (w.heap.size + 1 + 1) (by first | omega | (simp only [sA, sC, sD, sE]; omega) | (simp; done) | (simp; omega)) (by go_simp; exact ⟨rfl, rfl, rfl, rfl, rfl, rfl⟩) (by intro o; go_simp)
  go_upto_region 4 with (fail)
  first | with_reducible refine wp_rebase ?_ | with_reducible refine wpList_rebase ?_
  intro w1 hb'
  have hb := hb'.out
  clear hb'
  obtain ⟨s33, c33_0, c33_1, c33_2, c33_3, c33_4, c33_5, f33⟩ := L6 hb (w.heap.size) (by first | omega | (simp only [sA, sC, sD, sE]; omega) | (simp; done) | (simp; omega)) (by go_simp; exact ⟨rfl, rfl, rfl, rfl, rfl, rfl⟩) (by intro o; go_simp)
  obtain ⟨s34, c34_0, c34_1, c34_2, c34_3, c34_4, c34_5, f34⟩ := L6 hb (w.heap.size + 1) (by first | omega | (simp only [sA, sC, sD, sE]; omega) | (simp; done) | (simp; omega)) (by go_simp; exact ⟨rfl, rfl, rfl, rfl, rfl, rfl⟩) (by intro o; go_simp)
  obtain ⟨s35, c35_0, c35_1, c35_2, c35_3, c35_4, c35_5, f35⟩ := L6 hb (w.heap.size + 1 + 1) (by first | omega | (simp only [sA, sC, sD, sE]; omega) | (simp; done) | (simp; omega)) (by go_simp; exact ⟨rfl, rfl, rfl, rfl, rfl, rfl⟩) (by intro o; go_simp)
  clear c30_0 c30_1 c30_2 c30_3 c30_4 c30_5 f30 c31_0 c31_1 c31_2 c31_3 c31_4 c31_5 f31 c32_0 c32_1 c32_2 c32_3 c32_4 c32_5 f32
  go_wp2_with fail
  refine (HN1.out _).mono ?_
  rintro e' w2 ⟨rfl, hb2⟩
  obtain ⟨s36, c36_0, c36_1, c36_2, c36_3, c36_4, c36_5, f36⟩ := L6 hb2 (w.heap.size) (by first | omega | (simp only [sA, sC, sD, sE]; omega) | (simp; done) | (simp; omega)) (by go_simp; exact ⟨rfl, rfl, rfl, rfl, rfl, rfl⟩) (by intro o; go_simp)
  obtain ⟨s37, c37_0, c37_1, c37_2, c37_3, c37_4, c37_5, f37⟩ := L6 hb2 (w.heap.size + 1) (by first | omega | (simp only [sA, sC, sD, sE]; omega) | (simp; done) | (simp; omega)) (by go_simp; exact ⟨rfl, rfl, rfl, rfl, rfl, rfl⟩) (by intro o; go_simp)
  obtain ⟨s38, c38_0, c38_1, c38_2, c38_3, c38_4, c38_5, f38⟩ := L6 hb2 (w.heap.size + 1 + 1) (by first | omega | (simp only [sA, sC, sD, sE]; omega) | (simp; done) | (simp; omega)) (by go_simp; exact ⟨rfl, rfl, rfl, rfl, rfl, rfl⟩) (by intro o; go_simp)
  clear c33_0 c33_1 c33_2 c33_3 c33_4 c33_5 f33 c34_0 c34_1 c34_2 c34_3 c34_4 c34_5 f34 c35_0 c35_1 c35_2 c35_3 c35_4 c35_5 f35
  go_upto_region 15 with (fail)
  first | with_reducible refine wp_rebase ?_ | with_reducible refine wpList_rebase ?_
  intro w1 hb'
  have hb := hb'.out
  clear hb'
  obtain ⟨s39, c39_0, c39_1, c39_2, c39_3, c39_4, c39_5, f39⟩ := L6 hb (w.heap.size + 1) (by first | omega | (simp only [sA, sC, sD, sE]; omega) | (simp; done) | (simp; omega)) (by go_simp; exact ⟨rfl, rfl, rfl, rfl, rfl, rfl⟩) (by intro o; go_simp)
  obtain ⟨s40, c40_0, c40_1, c40_2, c40_3, c40_4, c40_5, f40⟩ := L6 hb (w.heap.size + 1 + 1) (by first | omega | (simp only [sA, sC, sD, sE]; omega) | (simp; done) | (simp; omega)) (by go_simp; exact ⟨rfl, rfl, rfl, rfl, rfl, rfl⟩) (by intro o; go_simp)
  obtain ⟨s41, c41_0, c41_1, f41⟩ := L2 hb (w2.heap.size) (by first | omega | (simp only [sA, sC, sD, sE]; omega) | (simp; done) | (simp; omega)) (by go_simp; exact ⟨rfl, rfl⟩) (by intro o; go_simp)
  obtain ⟨s42, c42_0, c42_1, c42_2, c42_3, c42_4, c42_5, f42⟩ := L6 hb (w2.heap.size + 1) (by first | omega | (simp only [sA, sC, sD, sE]; omega) | (simp; done) | (simp; omega)) (by go_simp; exact ⟨rfl, rfl, rfl, rfl, rfl, rfl⟩) (by intro o; go_simp)
  clear c36_0 c36_1 c36_2 c36_3 c36_4 c36_5 f36 c37_0 c37_1 c37_2 c37_3 c37_4 c37_5 f37 c38_0 c38_1 c38_2 c38_3 c38_4 c38_5 f38
  go_wp2_with fail
  refine (HN2.out _).mono ?_
  rintro e' w3 ⟨rfl, hb3⟩
  obtain ⟨s43, c43_0, c43_1, c43_2, c43_3, c43_4, c43_5, f43⟩ := L6 hb3 (w.heap.size + 1 + 1) (by first | omega | (simp only [sA, sC, sD, sE]; omega) | (simp; done) | (simp; omega)) (by go_simp; exact ⟨rfl, rfl, rfl, rfl, rfl, rfl⟩) (by intro o; go_simp)
  obtain ⟨s44, c44_0, c44_1, f44⟩ := L2 hb3 (w2.heap.size) (by first | omega | (simp only [sA, sC, sD, sE]; omega) | (simp; done) | (simp; omega)) (by go_simp; exact ⟨rfl, rfl⟩) (by intro o; go_simp)
  obtain ⟨s45, c45_0, c45_1, c45_2, c45_3, c45_4, c45_5, f45⟩ := L6 hb3 (w2.heap.size + 1) (by first | omega | (simp only [sA, sC, sD, sE]; omega) | (simp; done) | (simp; omega)) (by go_simp; exact ⟨rfl, rfl, rfl, rfl, rfl, rfl⟩) (by intro o; go_simp)
  clear c39_0 c39_1 c39_2 c39_3 c39_4 c39_5 f39 c40_0 c40_1 c40_2 c40_3 c40_4 c40_5 f40 c41_0 c41_1 f41 c42_0 c42_1 c42_2 c42_3 c42_4 c42_5 f42
  go_upto_region 18 with (fail)
  first | with_reducible refine wp_rebase ?_ | with_reducible refine wpList_rebase ?_
  intro w1 hb'
  have hb := hb'.out
  clear hb'
  obtain ⟨s46, c46_0, c46_1, c46_2, c46_3, c46_4, c46_5, f46⟩ := L6 hb (w.heap.size + 1 + 1) (by first | omega | (simp only [sA, sC, sD, sE]; omega) | (simp; done) | (simp; omega)) (by go_simp; exact ⟨rfl, rfl, rfl, rfl, rfl, rfl⟩) (by intro o; go_simp)
  obtain ⟨s47, c47_0, c47_1, f47⟩ := L2 hb (w2.heap.size) (by first | omega | (simp only [sA, sC, sD, sE]; omega) | (simp; done) | (simp; omega)) (by go_simp; exact ⟨rfl, rfl⟩) (by intro o; go_simp)
  obtain ⟨s48, c48_0, c48_1, c48_2, c48_3, c48_4, c48_5, f48⟩ := L6 hb (w2.heap.size + 1) (by first | omega | (simp only [sA, sC, sD, sE]; omega) | (simp; done) | (simp; omega)) (by go_simp; exact ⟨rfl, rfl, rfl, rfl, rfl, rfl⟩) (by intro o; go_simp)
  obtain ⟨s49, c49_0, c49_1, f49⟩ := L2 hb (w3.heap.size) (by first | omega | (simp only [sA, sC, sD, sE]; omega) | (simp; done) | (simp; omega)) (by go_simp; exact ⟨rfl, rfl⟩) (by intro o; go_simp)
  clear c43_0 c43_1 c43_2 c43_3 c43_4 c43_5 f43 c44_0 c44_1 f44 c45_0 c45_1 c45_2 c45_3 c45_4 c45_5 f45
  go_wp2_with fail
  refine (HR.out _).mono ?_
  rintro e' w4 ⟨rfl, hb4⟩
  obtain ⟨s50, c50_0, c50_1, c50_2, c50_3, c50_4, c50_5, f50⟩ := L6 hb4 (w.heap.size + 1 + 1) (by first | omega | (simp only [sA, sC, sD, sE]; omega) | (simp; done) | (simp; omega)) (by go_simp; exact ⟨rfl, rfl, rfl, rfl, rfl, rfl⟩) (by intro o; go_simp)
  clear c46_0 c46_1 c46_2 c46_3 c46_4 c46_5 f46 c47_0 c47_1 f47 c48_0 c48_1 c48_2 c48_3 c48_4 c48_5 f48 c49_0 c49_1 f49
  go_wp2
  refine bodyPost_ret (v := .agg #[.int .i64 (r).k, .int .i64 (r).n, .int .i64 (r).d, .string (r).t, .bool (r).b, .int .i64 (r).f]) (by simp [results, Tryz.results31, go_sem, c50_0, c50_1, c50_2, c50_3, c50_4, c50_5]) rfl ⟨rfl, ?_⟩
  focus
    repeat with_reducible first | exact Below.refl _ _ | refine below_drewN ?_ _ | refine Below.drew ?_ | refine Below.setCell ?_ ?_ _ | refine Below.alloc ?_ ?_ _ | refine below_then ?_ ?_ (by with_reducible assumption)
    all_goals first | omega | (simp only [sA, sC, sD, sE]; omega) | (simp; done) | (simp; omega)
theorem value_Pow2 (a b : Vl) (w : World) (ha : a.In) (hb : b.In) :
    Calls Tryz.prog 31 #[.int .i64 15, .agg #[.int .i64 (a).k, .int .i64 (a).n, .int .i64 (a).d, .string (a).t, .bool (a).b, .int .i64 (a).f], .agg #[.int .i64 (b).k, .int .i64 (b).n, .int .i64 (b).d, .string (b).t, .bool (b).b, .int .i64 (b).f]] w fun e' w' => e' = .returned (.agg #[.int .i64 (powVV a b).k, .int .i64 (powVV a b).n, .int .i64 (powVV a b).d, .string (powVV a b).t, .bool (powVV a b).b, .int .i64 (powVV a b).f]) ∧ Below w.heap.size w w' := by
  unfold powVV
  by_cases h4 : (tkV a).k = 4
  · rw [if_pos h4]; exact bin15_first a b w ha hb h4
  · by_cases h5 : (tkV b).k = 4
    · rw [if_neg h4, if_pos h5]; exact bin15_second a b w ha hb h4 h5
    · rw [if_neg h4, if_neg h5]; exact bin15_pow a b w ha hb h4 h5
end Go.Proofs.YtglngfaagjgpjaaGreatDoor
