/- Walks of package value: Bin at the join of any two values. -/
import Derived.Test.YtnimenpfojcehaaGreatDoorBx1
import Derived.Test.YtnimenpfojcehaaGreatDoorVTA
import Derived.Test.YtnimenpfojcehaaGreatDoorVX
import Derived.Test.YtnimenpfojcehaaGreatDoorBase
namespace Go.Proofs.YtnimenpfojcehaaGreatDoor
open Go Go.RowKit
set_option linter.unusedSimpArgs false
set_option linter.unusedVariables false
theorem size_append (a b : ByteArray) : (a ++ b).size = a.size + b.size := ByteArray.size_append
theorem sgB_size (n : Int) : (sgB n).size ≤ 1 := by unfold sgB; split <;> decide
theorem textN_size (n d : Int) : (textN n d).size ≤ 60 := by
  obtain ⟨h1, h2, h3, h4⟩ := tk_bd n d
  unfold textN
  generalize (tk n d).n = p at *
  generalize (tk n d).d = q at *
  have a1 := sgB_size p
  have a2 := (itoaB_size (p.natAbs : Int) ⟨by omega, by omega⟩).2
  have a3 := (itoaB_size q ⟨by omega, by omega⟩).2
  have b := ediv_bd (n := (p.natAbs : Int)) (d := q) (a := 1000000000000) (by omega) (by omega) (by omega) (by omega)
  have a4 := (itoaB_size ((p.natAbs : Int) / q) ⟨by omega, by omega⟩).2
  have hm0 : 0 ≤ (p.natAbs : Int) % q := Int.emod_nonneg _ (by omega)
  have hm1 : (p.natAbs : Int) % q < q := Int.emod_lt_of_pos _ (by omega)
  have hq := ediv_bd (n := 1000000) (d := q) (a := 1000000) (by omega) (by omega) (by omega) (by omega)
  have hp := mul_bd (x := (p.natAbs : Int) % q) (y := 1000000 / q) (a := 1000000) (b := 1000000) (by omega) (by omega) (Int.ediv_nonneg (by omega) (by omega)) hq.2
  have a5 := (itoaB_size (1000000 + (p.natAbs : Int) % q * (1000000 / q)) ⟨by omega, by omega⟩).2
  have a6 := trimZ_size ((itoaB (1000000 + (p.natAbs : Int) % q * (1000000 / q))).extract 1 (itoaB (1000000 + (p.natAbs : Int) % q * (1000000 / q))).size)
  have a7 : ((itoaB (1000000 + (p.natAbs : Int) % q * (1000000 / q))).extract 1 (itoaB (1000000 + (p.natAbs : Int) % q * (1000000 / q))).size).size ≤ (itoaB (1000000 + (p.natAbs : Int) % q * (1000000 / q))).size := by
    rw [ByteArray.size_extract]; omega
  have e1 : (⟨#[47]⟩ : ByteArray).size = 1 := rfl
  have e2 : (⟨#[46]⟩ : ByteArray).size = 1 := rfl
  unfold textX
  split
  · simp only [size_append]; omega
  · split
    · simp only [size_append]; omega
    · simp only [size_append]; omega
theorem asTxt_size (x : Vl) : (asTxt x).t.size ≤ 256 := by
  unfold asTxt asTxtT
  have h := tkV_right x
  generalize tkV x = v at *
  split
  · show (⟨#[]⟩ : ByteArray).size ≤ 256; decide
  · split
    · exact Nat.le_trans (textN_size _ _) (by decide)
    · split
      · show (wordT v.b).size ≤ 256
        unfold wordT
        split <;> decide
      · rcases rightV_cases h with h | ⟨_, h⟩ | ⟨h1, _, h⟩ | h | ⟨_, _, h⟩
        · rw [h]; decide
        · rw [h]; show noT.size ≤ 256; decide
        · exact h1
        · rw [h]; show noT.size ≤ 256; decide
        · rw [h]; show noT.size ≤ 256; decide
theorem asTxt_tk (x : Vl) : asTxt (tkV x) = asTxt x := by unfold asTxt; rw [tkV_tkV]
/-- '&' of two values. -/
def joinV (a b : Vl) : Vl := if (tkV a).k = 4 then tkV a else if (tkV b).k = 4 then tkV b else textF ((asTxt a).t ++ (asTxt b).t)
set_option maxRecDepth 100000 in
set_option maxHeartbeats 1000000 in
theorem bin16_first (a b : Vl) (w : World) (ha : a.In) (hb' : b.In) (h4 : (tkV a).k = 4) :
    Calls Tryz.prog 37 #[.int .i64 16, .agg #[.int .i64 (a).k, .int .i64 (a).n, .int .i64 (a).d, .string (a).t, .bool (a).b, .int .i64 (a).f], .agg #[.int .i64 (b).k, .int .i64 (b).n, .int .i64 (b).d, .string (b).t, .bool (b).b, .int .i64 (b).f]] w fun e' w' => e' = .returned (.agg #[.int .i64 (tkV a).k, .int .i64 (tkV a).n, .int .i64 (tkV a).d, .string (tkV a).t, .bool (tkV a).b, .int .i64 (tkV a).f]) ∧ Below w.heap.size w w' := by
  have HT1 := Lib.hid fun wx => value_taken a.k a.n a.d a.t a.b a.f wx ha
  have HT2 := Lib.hid fun wx => value_taken b.k b.n b.d b.t b.b b.f wx hb'
  have e1 : tkV ⟨a.k, a.n, a.d, a.t, a.b, a.f⟩ = tkV a := rfl
  have e2 : tkV ⟨b.k, b.n, b.d, b.t, b.b, b.f⟩ = tkV b := rfl
  rw [e1] at HT1
  rw [e2] at HT2
  generalize tkV a = x at *
  generalize tkV b = y at *
  have k4 : (x.k == 4) = true := by simp [h4]
  clear e1 e2 h4 ha hb'
  go_enter Tryz.func37, Tryz.ntmps37
  go_wp2_with fail
  refine region_below 4 (by kernel_rfl) (by kernel_rfl) ?_
  simp only [List.take_succ_cons, List.take_zero, List.drop_succ_cons, List.drop_zero]
  repeat
    first | (refine q_run ?_ ?_; focus (go_simp; done)) | (refine q_skip ?_ ?_; focus (go_simp; done))
    try (apply Exists.intro; refine ⟨fun w' hw' => ?_, ?_⟩; focus (have hc := (bcell hw'.out).1; unfold Oper.quietAt; go_simp; (try go_ints); (first | rfl | (go_at_call 52; refine (HT1.out _).mono ?_; rintro e w2 ⟨rfl, hb⟩; exact ⟨rfl, hw'.chain hb⟩) | (go_at_call 52; refine (HT2.out _).mono ?_; rintro e w2 ⟨rfl, hb⟩; exact ⟨rfl, hw'.chain hb⟩))))
    intro K hK
    go_simp
    refine hK _ ?_
    clear hK K
  refine wpQuiet_nil ?_
  intro w1 hb'
  have hb := hb'.out
  clear hb'
  obtain ⟨s13, c13_0, c13_1, c13_2, c13_3, c13_4, c13_5, f13⟩ := L6 hb (w.heap.size) (by first | omega | (simp only [sA, sC, sD, sE]; omega) | (simp; done) | (simp; omega)) (by go_simp; exact ⟨rfl, rfl, rfl, rfl, rfl, rfl⟩) (by intro o; go_simp)
  obtain ⟨s14, c14_0, c14_1, c14_2, c14_3, c14_4, c14_5, f14⟩ := L6 hb (w.heap.size + 1) (by first | omega | (simp only [sA, sC, sD, sE]; omega) | (simp; done) | (simp; omega)) (by go_simp; exact ⟨rfl, rfl, rfl, rfl, rfl, rfl⟩) (by intro o; go_simp)
  obtain ⟨s15, c15_0, c15_1, c15_2, c15_3, c15_4, c15_5, f15⟩ := L6 hb (w.heap.size + 1 + 1) (by first | omega | (simp only [sA, sC, sD, sE]; omega) | (simp; done) | (simp; omega)) (by go_simp; exact ⟨rfl, rfl, rfl, rfl, rfl, rfl⟩) (by intro o; go_simp)
  go_upto_region 4 with (fail)
  first | with_reducible refine wp_rebase ?_ | with_reducible refine wpList_rebase ?_
  intro w1 hb'
  have hb := hb'.out
  clear hb'
  obtain ⟨s16, c16_0, c16_1, c16_2, c16_3, c16_4, c16_5, f16⟩ := L6 hb (w.heap.size) (by first | omega | (simp only [sA, sC, sD, sE]; omega) | (simp; done) | (simp; omega)) (by go_simp; exact ⟨rfl, rfl, rfl, rfl, rfl, rfl⟩) (by intro o; go_simp)
  obtain ⟨s17, c17_0, c17_1, c17_2, c17_3, c17_4, c17_5, f17⟩ := L6 hb (w.heap.size + 1) (by first | omega | (simp only [sA, sC, sD, sE]; omega) | (simp; done) | (simp; omega)) (by go_simp; exact ⟨rfl, rfl, rfl, rfl, rfl, rfl⟩) (by intro o; go_simp)
  obtain ⟨s18, c18_0, c18_1, c18_2, c18_3, c18_4, c18_5, f18⟩ := L6 hb (w.heap.size + 1 + 1) (by first | omega | (simp only [sA, sC, sD, sE]; omega) | (simp; done) | (simp; omega)) (by go_simp; exact ⟨rfl, rfl, rfl, rfl, rfl, rfl⟩) (by intro o; go_simp)
  clear c13_0 c13_1 c13_2 c13_3 c13_4 c13_5 f13 c14_0 c14_1 c14_2 c14_3 c14_4 c14_5 f14 c15_0 c15_1 c15_2 c15_3 c15_4 c15_5 f15
  go_wp2
  refine bodyPost_ret (v := .agg #[.int .i64 (x).k, .int .i64 (x).n, .int .i64 (x).d, .string (x).t, .bool (x).b, .int .i64 (x).f]) (by simp [results, Tryz.results37, go_sem, c16_0, c16_1, c16_2, c16_3, c16_4, c16_5, c17_0, c17_1, c17_2, c17_3, c17_4, c17_5, c18_0, c18_1, c18_2, c18_3, c18_4, c18_5]) rfl ⟨rfl, ?_⟩
  focus
    repeat with_reducible first | exact Below.refl _ _ | refine below_drewN ?_ _ | refine Below.drew ?_ | refine Below.setCell ?_ ?_ _ | refine Below.alloc ?_ ?_ _ | refine below_then ?_ ?_ (by with_reducible assumption)
    all_goals first | omega | (simp only [sA, sC, sD, sE]; omega) | (simp; done) | (simp; omega)
set_option maxRecDepth 100000 in
set_option maxHeartbeats 1000000 in
theorem bin16_second (a b : Vl) (w : World) (ha : a.In) (hb' : b.In) (h4 : ¬ (tkV a).k = 4) (h5 : (tkV b).k = 4) :
    Calls Tryz.prog 37 #[.int .i64 16, .agg #[.int .i64 (a).k, .int .i64 (a).n, .int .i64 (a).d, .string (a).t, .bool (a).b, .int .i64 (a).f], .agg #[.int .i64 (b).k, .int .i64 (b).n, .int .i64 (b).d, .string (b).t, .bool (b).b, .int .i64 (b).f]] w fun e' w' => e' = .returned (.agg #[.int .i64 (tkV b).k, .int .i64 (tkV b).n, .int .i64 (tkV b).d, .string (tkV b).t, .bool (tkV b).b, .int .i64 (tkV b).f]) ∧ Below w.heap.size w w' := by
  have HT1 := Lib.hid fun wx => value_taken a.k a.n a.d a.t a.b a.f wx ha
  have HT2 := Lib.hid fun wx => value_taken b.k b.n b.d b.t b.b b.f wx hb'
  have e1 : tkV ⟨a.k, a.n, a.d, a.t, a.b, a.f⟩ = tkV a := rfl
  have e2 : tkV ⟨b.k, b.n, b.d, b.t, b.b, b.f⟩ = tkV b := rfl
  rw [e1] at HT1
  rw [e2] at HT2
  generalize tkV a = x at *
  generalize tkV b = y at *
  have k4 : (x.k == 4) = false := by simp [h4]
  have k5 : (y.k == 4) = true := by simp [h5]
  clear e1 e2 h4 h5 ha hb'
  go_enter Tryz.func37, Tryz.ntmps37
  go_wp2_with fail
  refine region_below 4 (by kernel_rfl) (by kernel_rfl) ?_
  simp only [List.take_succ_cons, List.take_zero, List.drop_succ_cons, List.drop_zero]
  repeat
    first | (refine q_run ?_ ?_; focus (go_simp; done)) | (refine q_skip ?_ ?_; focus (go_simp; done))
    try (apply Exists.intro; refine ⟨fun w' hw' => ?_, ?_⟩; focus (have hc := (bcell hw'.out).1; unfold Oper.quietAt; go_simp; (try go_ints); (first | rfl | (go_at_call 52; refine (HT1.out _).mono ?_; rintro e w2 ⟨rfl, hb⟩; exact ⟨rfl, hw'.chain hb⟩) | (go_at_call 52; refine (HT2.out _).mono ?_; rintro e w2 ⟨rfl, hb⟩; exact ⟨rfl, hw'.chain hb⟩))))
    intro K hK
    go_simp
    refine hK _ ?_
    clear hK K
  refine wpQuiet_nil ?_
  intro w1 hb'
  have hb := hb'.out
  clear hb'
  obtain ⟨s19, c19_0, c19_1, c19_2, c19_3, c19_4, c19_5, f19⟩ := L6 hb (w.heap.size) (by first | omega | (simp only [sA, sC, sD, sE]; omega) | (simp; done) | (simp; omega)) (by go_simp; exact ⟨rfl, rfl, rfl, rfl, rfl, rfl⟩) (by intro o; go_simp)
  obtain ⟨s20, c20_0, c20_1, c20_2, c20_3, c20_4, c20_5, f20⟩ := L6 hb (w.heap.size + 1) (by first | omega | (simp only [sA, sC, sD, sE]; omega) | (simp; done) | (simp; omega)) (by go_simp; exact ⟨rfl, rfl, rfl, rfl, rfl, rfl⟩) (by intro o; go_simp)
  obtain ⟨s21, c21_0, c21_1, c21_2, c21_3, c21_4, c21_5, f21⟩ := L6 hb (w.heap.size + 1 + 1) (by first | omega | (simp only [sA, sC, sD, sE]; omega) | (simp; done) | (simp; omega)) (by go_simp; exact ⟨rfl, rfl, rfl, rfl, rfl, rfl⟩) (by intro o; go_simp)
  go_upto_region 4 with (fail)
  first | with_reducible refine wp_rebase ?_ | with_reducible refine wpList_rebase ?_
  intro w1 hb'
  have hb := hb'.out
  clear hb'
  obtain ⟨s22, c22_0, c22_1, c22_2, c22_3, c22_4, c22_5, f22⟩ := L6 hb (w.heap.size) (by first | omega | (simp only [sA, sC, sD, sE]; omega) | (simp; done) | (simp; omega)) (by go_simp; exact ⟨rfl, rfl, rfl, rfl, rfl, rfl⟩) (by intro o; go_simp)
  obtain ⟨s23, c23_0, c23_1, c23_2, c23_3, c23_4, c23_5, f23⟩ := L6 hb (w.heap.size + 1) (by first | omega | (simp only [sA, sC, sD, sE]; omega) | (simp; done) | (simp; omega)) (by go_simp; exact ⟨rfl, rfl, rfl, rfl, rfl, rfl⟩) (by intro o; go_simp)
  obtain ⟨s24, c24_0, c24_1, c24_2, c24_3, c24_4, c24_5, f24⟩ := L6 hb (w.heap.size + 1 + 1) (by first | omega | (simp only [sA, sC, sD, sE]; omega) | (simp; done) | (simp; omega)) (by go_simp; exact ⟨rfl, rfl, rfl, rfl, rfl, rfl⟩) (by intro o; go_simp)
  clear c19_0 c19_1 c19_2 c19_3 c19_4 c19_5 f19 c20_0 c20_1 c20_2 c20_3 c20_4 c20_5 f20 c21_0 c21_1 c21_2 c21_3 c21_4 c21_5 f21
  go_wp2
  refine bodyPost_ret (v := .agg #[.int .i64 (y).k, .int .i64 (y).n, .int .i64 (y).d, .string (y).t, .bool (y).b, .int .i64 (y).f]) (by simp [results, Tryz.results37, go_sem, c22_0, c22_1, c22_2, c22_3, c22_4, c22_5, c23_0, c23_1, c23_2, c23_3, c23_4, c23_5, c24_0, c24_1, c24_2, c24_3, c24_4, c24_5]) rfl ⟨rfl, ?_⟩
  focus
    repeat with_reducible first | exact Below.refl _ _ | refine below_drewN ?_ _ | refine Below.drew ?_ | refine Below.setCell ?_ ?_ _ | refine Below.alloc ?_ ?_ _ | refine below_then ?_ ?_ (by with_reducible assumption)
    all_goals first | omega | (simp only [sA, sC, sD, sE]; omega) | (simp; done) | (simp; omega)

set_option maxRecDepth 100000 in
set_option maxHeartbeats 2000000 in
theorem bin16_join (a b : Vl) (w : World) (ha : a.In) (hb' : b.In) (h4 : ¬ (tkV a).k = 4) (h5 : ¬ (tkV b).k = 4) (hp : Pow10 w) :
    Calls Tryz.prog 37 #[.int .i64 16, .agg #[.int .i64 (a).k, .int .i64 (a).n, .int .i64 (a).d, .string (a).t, .bool (a).b, .int .i64 (a).f], .agg #[.int .i64 (b).k, .int .i64 (b).n, .int .i64 (b).d, .string (b).t, .bool (b).b, .int .i64 (b).f]] w fun e' w' => e' = .returned (.agg #[.int .i64 (textF ((asTxt a).t ++ (asTxt b).t)).k, .int .i64 (textF ((asTxt a).t ++ (asTxt b).t)).n, .int .i64 (textF ((asTxt a).t ++ (asTxt b).t)).d, .string (textF ((asTxt a).t ++ (asTxt b).t)).t, .bool (textF ((asTxt a).t ++ (asTxt b).t)).b, .int .i64 (textF ((asTxt a).t ++ (asTxt b).t)).f]) ∧ Below w.heap.size w w' := by
  have HT1 := Lib.hid fun wx => value_taken a.k a.n a.d a.t a.b a.f wx ha
  have HT2 := Lib.hid fun wx => value_taken b.k b.n b.d b.t b.b b.f wx hb'
  have e1 : tkV ⟨a.k, a.n, a.d, a.t, a.b, a.f⟩ = tkV a := rfl
  have e2 : tkV ⟨b.k, b.n, b.d, b.t, b.b, b.f⟩ = tkV b := rfl
  rw [e1] at HT1
  rw [e2] at HT2
  have HA1 : Hid (∀ wx, Below w.heap.size w wx → Calls Tryz.prog 55 #[.agg #[.int .i64 (tkV a).k, .int .i64 (tkV a).n, .int .i64 (tkV a).d, .string (tkV a).t, .bool (tkV a).b, .int .i64 (tkV a).f]] wx fun e w' => e = .returned (.tuple #[.string (asTxt a).t, .agg #[.int .i64 ((asTxt a).e).k, .int .i64 ((asTxt a).e).n, .int .i64 ((asTxt a).e).d, .string ((asTxt a).e).t, .bool ((asTxt a).e).b, .int .i64 ((asTxt a).e).f]]) ∧ Below wx.heap.size wx w') := by
    intro wx h
    rw [← asTxt_tk a]
    exact value_AsText _ _ _ _ _ _ wx (tkV_in ha) (hp.below h)
  have HA2 : Hid (∀ wx, Below w.heap.size w wx → Calls Tryz.prog 55 #[.agg #[.int .i64 (tkV b).k, .int .i64 (tkV b).n, .int .i64 (tkV b).d, .string (tkV b).t, .bool (tkV b).b, .int .i64 (tkV b).f]] wx fun e w' => e = .returned (.tuple #[.string (asTxt b).t, .agg #[.int .i64 ((asTxt b).e).k, .int .i64 ((asTxt b).e).n, .int .i64 ((asTxt b).e).d, .string ((asTxt b).e).t, .bool ((asTxt b).e).b, .int .i64 ((asTxt b).e).f]]) ∧ Below wx.heap.size wx w') := by
    intro wx h
    rw [← asTxt_tk b]
    exact value_AsText _ _ _ _ _ _ wx (tkV_in hb') (hp.below h)
  have z1 := asTxt_size a
  have z2 := asTxt_size b
  have hadd := add_run (asTxt a).t (asTxt b).t (by omega)
  have HX := Lib.hid fun wx => value_Text ((asTxt a).t ++ (asTxt b).t) wx (by rw [size_append]; omega)
  generalize asTxt a = p at *
  generalize asTxt b = q at *
  generalize tkV a = x at *
  generalize tkV b = y at *
  generalize p.t ++ q.t = r at *
  have k4 : (x.k == 4) = false := by simp [h4]
  have k5 : (y.k == 4) = false := by simp [h5]
  clear e1 e2 h4 h5 ha hb' hp z1 z2
  go_enter Tryz.func37, Tryz.ntmps37
  go_wp2_with fail
  refine region_below 4 (by kernel_rfl) (by kernel_rfl) ?_
  simp only [List.take_succ_cons, List.take_zero, List.drop_succ_cons, List.drop_zero]
  repeat
    first | (refine q_run ?_ ?_; focus (go_simp; done)) | (refine q_skip ?_ ?_; focus (go_simp; done))
    try (apply Exists.intro; refine ⟨fun w' hw' => ?_, ?_⟩; focus (have hc := (bcell hw'.out).1; unfold Oper.quietAt; go_simp; (try go_ints); (first | rfl | (go_at_call 52; refine (HT1.out _).mono ?_; rintro e w2 ⟨rfl, hb⟩; exact ⟨rfl, hw'.chain hb⟩) | (go_at_call 52; refine (HT2.out _).mono ?_; rintro e w2 ⟨rfl, hb⟩; exact ⟨rfl, hw'.chain hb⟩))))
    intro K hK
    go_simp
    refine hK _ ?_
    clear hK K
  refine wpQuiet_nil ?_
  intro w1 hb'
  have hb := hb'.out
  clear hb'
  obtain ⟨s25, c25_0, c25_1, c25_2, c25_3, c25_4, c25_5, f25⟩ := L6 hb (w.heap.size) (by first | omega | (simp only [sA, sC, sD, sE]; omega) | (simp; done) | (simp; omega)) (by go_simp; exact ⟨rfl, rfl, rfl, rfl, rfl, rfl⟩) (by intro o; go_simp)
  obtain ⟨s26, c26_0, c26_1, c26_2, c26_3, c26_4, c26_5, f26⟩ := L6 hb (w.heap.size + 1) (by first | omega | (simp only [sA, sC, sD, sE]; omega) | (simp; done) | (simp; omega)) (by go_simp; exact ⟨rfl, rfl, rfl, rfl, rfl, rfl⟩) (by intro o; go_simp)
  obtain ⟨s27, c27_0, c27_1, c27_2, c27_3, c27_4, c27_5, f27⟩ := L6 hb (w.heap.size + 1 + 1) (by first | omega | (simp only [sA, sC, sD, sE]; omega) | (simp; done) | (simp; omega)) (by go_simp; exact ⟨rfl, rfl, rfl, rfl, rfl, rfl⟩) (by intro o; go_simp)
  go_upto_region 4 with (fail)
  first | with_reducible refine wp_rebase ?_ | with_reducible refine wpList_rebase ?_
  intro w1 hb'
  have hb := hb'.out
  clear hb'
  obtain ⟨s28, c28_0, c28_1, c28_2, c28_3, c28_4, c28_5, f28⟩ := L6 hb (w.heap.size) (by first | omega | (simp only [sA, sC, sD, sE]; omega) | (simp; done) | (simp; omega)) (by go_simp; exact ⟨rfl, rfl, rfl, rfl, rfl, rfl⟩) (by intro o; go_simp)
  obtain ⟨s29, c29_0, c29_1, c29_2, c29_3, c29_4, c29_5, f29⟩ := L6 hb (w.heap.size + 1) (by first | omega | (simp only [sA, sC, sD, sE]; omega) | (simp; done) | (simp; omega)) (by go_simp; exact ⟨rfl, rfl, rfl, rfl, rfl, rfl⟩) (by intro o; go_simp)
  obtain ⟨s30, c30_0, c30_1, c30_2, c30_3, c30_4, c30_5, f30⟩ := L6 hb (w.heap.size + 1 + 1) (by first | omega | (simp only [sA, sC, sD, sE]; omega) | (simp; done) | (simp; omega)) (by go_simp; exact ⟨rfl, rfl, rfl, rfl, rfl, rfl⟩) (by intro o; go_simp)
  clear c25_0 c25_1 c25_2 c25_3 c25_4 c25_5 f25 c26_0 c26_1 c26_2 c26_3 c26_4 c26_5 f26 c27_0 c27_1 c27_2 c27_3 c27_4 c27_5 f27
  have HB0 : Hid (Below w.heap.size w w1) := by
    unfold Hid
    focus
      repeat with_reducible first | exact Below.refl _ _ | refine below_drewN ?_ _ | refine Below.drew ?_ | refine Below.setCell ?_ ?_ _ | refine Below.alloc ?_ ?_ _ | refine below_then ?_ ?_ (by with_reducible assumption)
      all_goals first | omega | (simp only [sA, sC, sD, sE]; omega) | (simp; done) | (simp; omega)
  go_wp2_with fail
  refine (HA1.out _ ?_).mono ?_
  · exact HB0.out
  rintro e' w2 ⟨rfl, hb2⟩
  have HB1 := Lib.hid (HB0.out.trans (hb2.mono HB0.out.size))
  obtain ⟨s31, c31_0, c31_1, c31_2, c31_3, c31_4, c31_5, f31⟩ := L6 hb2 (w.heap.size + 1) (by first | omega | (simp only [sA, sC, sD, sE]; omega) | (simp; done) | (simp; omega)) (by go_simp; exact ⟨rfl, rfl, rfl, rfl, rfl, rfl⟩) (by intro o; go_simp)
  obtain ⟨s32, c32_0, c32_1, c32_2, c32_3, c32_4, c32_5, f32⟩ := L6 hb2 (w.heap.size + 1 + 1) (by first | omega | (simp only [sA, sC, sD, sE]; omega) | (simp; done) | (simp; omega)) (by go_simp; exact ⟨rfl, rfl, rfl, rfl, rfl, rfl⟩) (by intro o; go_simp)
  clear c28_0 c28_1 c28_2 c28_3 c28_4 c28_5 f28 c29_0 c29_1 c29_2 c29_3 c29_4 c29_5 f29 c30_0 c30_1 c30_2 c30_3 c30_4 c30_5 f30
  go_wp2_with fail
  refine (HA2.out _ ?_).mono ?_
  · exact HB1.out.alloc HB1.out.size _
  rintro e' w3 ⟨rfl, hb3⟩
  obtain ⟨s33, c33_0, c33_1, c33_2, c33_3, c33_4, c33_5, f33⟩ := L6 hb3 (w.heap.size + 1 + 1) (by first | omega | (simp only [sA, sC, sD, sE]; omega) | (simp; done) | (simp; omega)) (by go_simp; exact ⟨rfl, rfl, rfl, rfl, rfl, rfl⟩) (by intro o; go_simp)
  clear c31_0 c31_1 c31_2 c31_3 c31_4 c31_5 f31 c32_0 c32_1 c32_2 c32_3 c32_4 c32_5 f32
  go_wp2_with fail
  refine (HX.out _).mono ?_
  rintro e' w4 ⟨rfl, hb4⟩
  obtain ⟨s34, c34_0, c34_1, c34_2, c34_3, c34_4, c34_5, f34⟩ := L6 hb4 (w.heap.size + 1 + 1) (by first | omega | (simp only [sA, sC, sD, sE]; omega) | (simp; done) | (simp; omega)) (by go_simp; exact ⟨rfl, rfl, rfl, rfl, rfl, rfl⟩) (by intro o; go_simp)
  clear c33_0 c33_1 c33_2 c33_3 c33_4 c33_5 f33
  go_wp2
  refine bodyPost_ret (v := .agg #[.int .i64 (textF r).k, .int .i64 (textF r).n, .int .i64 (textF r).d, .string (textF r).t, .bool (textF r).b, .int .i64 (textF r).f]) (by simp [results, Tryz.results37, go_sem, c34_0, c34_1, c34_2, c34_3, c34_4, c34_5]) rfl ⟨rfl, ?_⟩
  focus
    repeat with_reducible first | exact Below.refl _ _ | refine below_drewN ?_ _ | refine Below.drew ?_ | refine Below.setCell ?_ ?_ _ | refine Below.alloc ?_ ?_ _ | refine below_then ?_ ?_ (by with_reducible assumption)
    all_goals first | omega | (simp only [sA, sC, sD, sE]; omega) | (simp; done) | (simp; omega)
theorem value_Join2 (a b : Vl) (w : World) (ha : a.In) (hb : b.In) (hp : Pow10 w) :
    Calls Tryz.prog 37 #[.int .i64 16, .agg #[.int .i64 (a).k, .int .i64 (a).n, .int .i64 (a).d, .string (a).t, .bool (a).b, .int .i64 (a).f], .agg #[.int .i64 (b).k, .int .i64 (b).n, .int .i64 (b).d, .string (b).t, .bool (b).b, .int .i64 (b).f]] w fun e' w' => e' = .returned (.agg #[.int .i64 (joinV a b).k, .int .i64 (joinV a b).n, .int .i64 (joinV a b).d, .string (joinV a b).t, .bool (joinV a b).b, .int .i64 (joinV a b).f]) ∧ Below w.heap.size w w' := by
  unfold joinV
  by_cases h4 : (tkV a).k = 4
  · rw [if_pos h4]; exact bin16_first a b w ha hb h4
  · by_cases h5 : (tkV b).k = 4
    · rw [if_neg h4, if_pos h5]; exact bin16_second a b w ha hb h4 h5
    · rw [if_neg h4, if_neg h5]; exact bin16_join a b w ha hb h4 h5 hp
end Go.Proofs.YtnimenpfojcehaaGreatDoor
