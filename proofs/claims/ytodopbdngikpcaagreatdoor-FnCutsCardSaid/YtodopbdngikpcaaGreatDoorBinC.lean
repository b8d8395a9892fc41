/- Walks of package value: Bin at the join of any two values. -/
import Derived.Test.YtodopbdngikpcaaGreatDoorTold
import Derived.Test.YtodopbdngikpcaaGreatDoorVTA
import Derived.Test.YtodopbdngikpcaaGreatDoorVX
import Derived.Test.YtodopbdngikpcaaGreatDoorValsA
import Derived.Test.YtodopbdngikpcaaGreatDoorBase
namespace Go.Proofs.YtodopbdngikpcaaGreatDoor
open Go Go.RowKit
set_option linter.unusedSimpArgs false
set_option linter.unusedVariables false
theorem lt_BinC {w w' : World} (h : Below w.heap.size w w') (k : Nat) (hk : k < w.heap.size) : k < w.heap.size := hk

theorem size_append (a b : ByteArray) : (a ++ b).size = a.size + b.size := ByteArray.size_append
theorem sgB_size (n : Int) : (sgB n).size ≤ 1 := by unfold sgB; split <;> decide
theorem textN_size (n d : Int) : (textN n d).size ≤ 60 := by
  obtain ⟨h1, h2, h3, h4⟩ := tk_bd n d
  unfold textN
  generalize (tk n d).n = p at *
  generalize (tk n d).d = q at *
  have a1 := sgB_size p
  have a2 := (itoaB_size (p.natAbs : Int) ⟨by omega, by omega⟩).2
  have a3 := (itoaB_size q ⟨by omega, by omega⟩).2
  have b := ediv_bd (n := (p.natAbs : Int)) (d := q) (a := 1000000000000) (by omega) (by omega) (by omega) (by omega)
  have a4 := (itoaB_size ((p.natAbs : Int) / q) ⟨by omega, by omega⟩).2
  have hm0 : 0 ≤ (p.natAbs : Int) % q := Int.emod_nonneg _ (by omega)
  have hm1 : (p.natAbs : Int) % q < q := Int.emod_lt_of_pos _ (by omega)
  have hq := ediv_bd (n := 1000000) (d := q) (a := 1000000) (by omega) (by omega) (by omega) (by omega)
  have hp := mul_bd (x := (p.natAbs : Int) % q) (y := 1000000 / q) (a := 1000000) (b := 1000000) (by omega) (by omega) (Int.ediv_nonneg (by omega) (by omega)) hq.2
  have a5 := (itoaB_size (1000000 + (p.natAbs : Int) % q * (1000000 / q)) ⟨by omega, by omega⟩).2
  have a6 := trimZ_size ((itoaB (1000000 + (p.natAbs : Int) % q * (1000000 / q))).extract 1 (itoaB (1000000 + (p.natAbs : Int) % q * (1000000 / q))).size)
  have a7 : ((itoaB (1000000 + (p.natAbs : Int) % q * (1000000 / q))).extract 1 (itoaB (1000000 + (p.natAbs : Int) % q * (1000000 / q))).size).size ≤ (itoaB (1000000 + (p.natAbs : Int) % q * (1000000 / q))).size := by
    rw [ByteArray.size_extract]; omega
  have e1 : (⟨#[47]⟩ : ByteArray).size = 1 := rfl
  have e2 : (⟨#[46]⟩ : ByteArray).size = 1 := rfl
  unfold textX
  split
  · simp only [size_append]; omega
  · split
    · simp only [size_append]; omega
    · simp only [size_append]; omega
theorem asTxt_size (x : Vl) : (asTxt x).t.size ≤ 256 := by
  unfold asTxt asTxtT
  have h := tkV_right x
  generalize tkV x = v at *
  split
  · show (⟨#[]⟩ : ByteArray).size ≤ 256; decide
  · split
    · exact Nat.le_trans (textN_size _ _) (by decide)
    · split
      · show (wordT v.b).size ≤ 256
        unfold wordT
        split <;> decide
      · rcases rightV_cases h with h | ⟨_, h⟩ | ⟨h1, _, h⟩ | h | ⟨_, _, h⟩
        · rw [h]; decide
        · rw [h]; show noT.size ≤ 256; decide
        · exact h1
        · rw [h]; show noT.size ≤ 256; decide
        · rw [h]; show noT.size ≤ 256; decide
theorem asTxt_tk (x : Vl) : asTxt (tkV x) = asTxt x := by unfold asTxt; rw [tkV_tkV]
theorem asNum_tk (x : Vl) : asNum (tkV x) = asNum x := by unfold asNum; rw [tkV_tkV]

/-- '&' of two values. -/
def joinV (a b : Vl) : Vl := if (tkV a).k = 4 then tkV a else if (tkV b).k = 4 then tkV b else textF ((asTxt a).t ++ (asTxt b).t)
set_option maxRecDepth 100000 in
set_option maxHeartbeats 1000000 in
theorem bin15_first (a b : Vl) (w : World) (ha : a.In) (hb' : b.In) (h4 : (tkV a).k = 4) :
    Calls Tryz.prog 36 #[.int .i64 15, .agg #[.int .i64 (a).k, .int .i64 (a).n, .int .i64 (a).d, .string (a).t, .bool (a).b, .int .i64 (a).f], .agg #[.int .i64 (b).k, .int .i64 (b).n, .int .i64 (b).d, .string (b).t, .bool (b).b, .int .i64 (b).f]] w fun e' w' => e' = .returned (.agg #[.int .i64 (tkV a).k, .int .i64 (tkV a).n, .int .i64 (tkV a).d, .string (tkV a).t, .bool (tkV a).b, .int .i64 (tkV a).f]) ∧ Below w.heap.size w w' := by
  have HT1 := Lib.hid fun wx => value_taken a.k a.n a.d a.t a.b a.f wx ha
  have HT2 := Lib.hid fun wx => value_taken b.k b.n b.d b.t b.b b.f wx hb'
  have e1 : tkV ⟨a.k, a.n, a.d, a.t, a.b, a.f⟩ = tkV a := rfl
  have e2 : tkV ⟨b.k, b.n, b.d, b.t, b.b, b.f⟩ = tkV b := rfl
  rw [e1] at HT1
  rw [e2] at HT2
  generalize tkV a = x at *
  generalize tkV b = y at *
  have k4 : (x.k == 4) = true := by simp [h4]
  clear e1 e2 h4 ha hb'
  go_enter Tryz.func36, Tryz.ntmps36
  go_wp2_with fail
  refine region_below 4 (by kernel_rfl) (by kernel_rfl) ?_
  simp only [List.take_succ_cons, List.take_zero, List.drop_succ_cons, List.drop_zero]
  repeat
    first | (refine q_run ?_ ?_; focus (go_simp; done)) | (refine q_skip ?_ ?_; focus (go_simp; done))
    try (apply Exists.intro; refine ⟨fun w' hw' => ?_, ?_⟩; focus (have hc := (bcell hw'.out).1; unfold Oper.quietAt; go_simp; (try go_ints); (first | rfl | (go_at_call 66; refine (HT1.out _).mono ?_; rintro e w2 ⟨rfl, hb⟩; exact ⟨rfl, hw'.chain hb⟩) | (go_at_call 66; refine (HT2.out _).mono ?_; rintro e w2 ⟨rfl, hb⟩; exact ⟨rfl, hw'.chain hb⟩))))
    intro K hK
    go_simp
    refine hK _ ?_
    clear hK K
  refine wpQuiet_nil ?_
  intro w1 hb'
  have hb := hb'.out
  clear hb'
  have qz := lt_BinC hb (w.heap.size) (by (first | omega | (simp only [sz_alloc, sz_setCell, sz_drew, sz_drewN]; omega) | (simp; done) | (simp; omega)))
  have s1 := lcs hb _ qz
  have c1_0 := (lcc hb _ qz 0).trans (by go_simp; exact rfl)
  have c1_1 := (lcc hb _ qz 1).trans (by go_simp; exact rfl)
  have c1_2 := (lcc hb _ qz 2).trans (by go_simp; exact rfl)
  have c1_3 := (lcc hb _ qz 3).trans (by go_simp; exact rfl)
  have c1_4 := (lcc hb _ qz 4).trans (by go_simp; exact rfl)
  have c1_5 := (lcc hb _ qz 5).trans (by go_simp; exact rfl)
  have f1 := lcff hb _ qz (by intro o; go_simp)
  clear qz
  have qz := lt_BinC hb (w.heap.size + 1) (by (first | omega | (simp only [sz_alloc, sz_setCell, sz_drew, sz_drewN]; omega) | (simp; done) | (simp; omega)))
  have s2 := lcs hb _ qz
  have c2_0 := (lcc hb _ qz 0).trans (by go_simp; exact rfl)
  have c2_1 := (lcc hb _ qz 1).trans (by go_simp; exact rfl)
  have c2_2 := (lcc hb _ qz 2).trans (by go_simp; exact rfl)
  have c2_3 := (lcc hb _ qz 3).trans (by go_simp; exact rfl)
  have c2_4 := (lcc hb _ qz 4).trans (by go_simp; exact rfl)
  have c2_5 := (lcc hb _ qz 5).trans (by go_simp; exact rfl)
  have f2 := lcff hb _ qz (by intro o; go_simp)
  clear qz
  have qz := lt_BinC hb (w.heap.size + 1 + 1) (by (first | omega | (simp only [sz_alloc, sz_setCell, sz_drew, sz_drewN]; omega) | (simp; done) | (simp; omega)))
  have s3 := lcs hb _ qz
  have c3_0 := (lcc hb _ qz 0).trans (by go_simp; exact rfl)
  have c3_1 := (lcc hb _ qz 1).trans (by go_simp; exact rfl)
  have c3_2 := (lcc hb _ qz 2).trans (by go_simp; exact rfl)
  have c3_3 := (lcc hb _ qz 3).trans (by go_simp; exact rfl)
  have c3_4 := (lcc hb _ qz 4).trans (by go_simp; exact rfl)
  have c3_5 := (lcc hb _ qz 5).trans (by go_simp; exact rfl)
  have f3 := lcff hb _ qz (by intro o; go_simp)
  clear qz
  go_upto_region 4 with (fail)
  first | with_reducible refine wp_rebase ?_ | with_reducible refine wpList_rebase ?_
  intro w1 hb'
  have hb := hb'.out
  clear hb'
  have qz := lt_BinC hb (w.heap.size) (by (first | omega | (simp only [sz_alloc, sz_setCell, sz_drew, sz_drewN]; omega) | (simp; done) | (simp; omega)))
  have s4 := lcs hb _ qz
  have c4_0 := (lcc hb _ qz 0).trans (by go_simp; exact rfl)
  have c4_1 := (lcc hb _ qz 1).trans (by go_simp; exact rfl)
  have c4_2 := (lcc hb _ qz 2).trans (by go_simp; exact rfl)
  have c4_3 := (lcc hb _ qz 3).trans (by go_simp; exact rfl)
  have c4_4 := (lcc hb _ qz 4).trans (by go_simp; exact rfl)
  have c4_5 := (lcc hb _ qz 5).trans (by go_simp; exact rfl)
  have f4 := lcff hb _ qz (by intro o; go_simp)
  clear qz
  have qz := lt_BinC hb (w.heap.size + 1) (by (first | omega | (simp only [sz_alloc, sz_setCell, sz_drew, sz_drewN]; omega) | (simp; done) | (simp; omega)))
  have s5 := lcs hb _ qz
  have c5_0 := (lcc hb _ qz 0).trans (by go_simp; exact rfl)
  have c5_1 := (lcc hb _ qz 1).trans (by go_simp; exact rfl)
  have c5_2 := (lcc hb _ qz 2).trans (by go_simp; exact rfl)
  have c5_3 := (lcc hb _ qz 3).trans (by go_simp; exact rfl)
  have c5_4 := (lcc hb _ qz 4).trans (by go_simp; exact rfl)
  have c5_5 := (lcc hb _ qz 5).trans (by go_simp; exact rfl)
  have f5 := lcff hb _ qz (by intro o; go_simp)
  clear qz
  have qz := lt_BinC hb (w.heap.size + 1 + 1) (by (first | omega | (simp only [sz_alloc, sz_setCell, sz_drew, sz_drewN]; omega) | (simp; done) | (simp; omega)))
  have s6 := lcs hb _ qz
  have c6_0 := (lcc hb _ qz 0).trans (by go_simp; exact rfl)
  have c6_1 := (lcc hb _ qz 1).trans (by go_simp; exact rfl)
  have c6_2 := (lcc hb _ qz 2).trans (by go_simp; exact rfl)
  have c6_3 := (lcc hb _ qz 3).trans (by go_simp; exact rfl)
  have c6_4 := (lcc hb _ qz 4).trans (by go_simp; exact rfl)
  have c6_5 := (lcc hb _ qz 5).trans (by go_simp; exact rfl)
  have f6 := lcff hb _ qz (by intro o; go_simp)
  clear qz
  clear c1_0 c1_1 c1_2 c1_3 c1_4 c1_5 f1 c2_0 c2_1 c2_2 c2_3 c2_4 c2_5 f2 c3_0 c3_1 c3_2 c3_3 c3_4 c3_5 f3
  go_wp2
  refine bodyPost_ret (v := .agg #[.int .i64 (x).k, .int .i64 (x).n, .int .i64 (x).d, .string (x).t, .bool (x).b, .int .i64 (x).f]) (by simp [results, Tryz.results36, go_sem, c4_0, c4_1, c4_2, c4_3, c4_4, c4_5, c5_0, c5_1, c5_2, c5_3, c5_4, c5_5, c6_0, c6_1, c6_2, c6_3, c6_4, c6_5]) rfl ⟨rfl, ?_⟩
  repeat (first | with_reducible exact Below.refl _ _ | with_reducible refine below_drewN ?_ _ | with_reducible refine Below.drew ?_ | with_reducible refine Below.setCell ?_ (by (first | omega | (simp only [sz_alloc, sz_setCell, sz_drew, sz_drewN]; omega) | (simp; done) | (simp; omega))) _ | with_reducible refine Below.alloc ?_ (by (first | omega | (simp only [sz_alloc, sz_setCell, sz_drew, sz_drewN]; omega) | (simp; done) | (simp; omega))) _ | with_reducible refine below_then ?_ ?_ (by with_reducible assumption) | (first | omega | (simp only [sz_alloc, sz_setCell, sz_drew, sz_drewN]; omega) | (simp; done) | (simp; omega)))
set_option maxRecDepth 100000 in
set_option maxHeartbeats 1000000 in
theorem bin15_second (a b : Vl) (w : World) (ha : a.In) (hb' : b.In) (h4 : ¬ (tkV a).k = 4) (h5 : (tkV b).k = 4) :
    Calls Tryz.prog 36 #[.int .i64 15, .agg #[.int .i64 (a).k, .int .i64 (a).n, .int .i64 (a).d, .string (a).t, .bool (a).b, .int .i64 (a).f], .agg #[.int .i64 (b).k, .int .i64 (b).n, .int .i64 (b).d, .string (b).t, .bool (b).b, .int .i64 (b).f]] w fun e' w' => e' = .returned (.agg #[.int .i64 (tkV b).k, .int .i64 (tkV b).n, .int .i64 (tkV b).d, .string (tkV b).t, .bool (tkV b).b, .int .i64 (tkV b).f]) ∧ Below w.heap.size w w' := by
  have HT1 := Lib.hid fun wx => value_taken a.k a.n a.d a.t a.b a.f wx ha
  have HT2 := Lib.hid fun wx => value_taken b.k b.n b.d b.t b.b b.f wx hb'
  have e1 : tkV ⟨a.k, a.n, a.d, a.t, a.b, a.f⟩ = tkV a := rfl
  have e2 : tkV ⟨b.k, b.n, b.d, b.t, b.b, b.f⟩ = tkV b := rfl
  rw [e1] at HT1
  rw [e2] at HT2
  generalize tkV a = x at *
  generalize tkV b = y at *
  have k4 : (x.k == 4) = false := by simp [h4]
  have k5 : (y.k == 4) = true := by simp [h5]
  clear e1 e2 h4 h5 ha hb'
  go_enter Tryz.func36, Tryz.ntmps36
  go_wp2_with fail
  refine region_below 4 (by kernel_rfl) (by kernel_rfl) ?_
  simp only [List.take_succ_cons, List.take_zero, List.drop_succ_cons, List.drop_zero]
  repeat
    first | (refine q_run ?_ ?_; focus (go_simp; done)) | (refine q_skip ?_ ?_; focus (go_simp; done))
    try (apply Exists.intro; refine ⟨fun w' hw' => ?_, ?_⟩; focus (have hc := (bcell hw'.out).1; unfold Oper.quietAt; go_simp; (try go_ints); (first | rfl | (go_at_call 66; refine (HT1.out _).mono ?_; rintro e w2 ⟨rfl, hb⟩; exact ⟨rfl, hw'.chain hb⟩) | (go_at_call 66; refine (HT2.out _).mono ?_; rintro e w2 ⟨rfl, hb⟩; exact ⟨rfl, hw'.chain hb⟩))))
    intro K hK
    go_simp
    refine hK _ ?_
    clear hK K
  refine wpQuiet_nil ?_
  intro w1 hb'
  have hb := hb'.out
  clear hb'
  have qz := lt_BinC hb (w.heap.size) (by (first | omega | (simp only [sz_alloc, sz_setCell, sz_drew, sz_drewN]; omega) | (simp; done) | (simp; omega)))
  have s7 := lcs hb _ qz
  have c7_0 := (lcc hb _ qz 0).trans (by go_simp; exact rfl)
  have c7_1 := (lcc hb _ qz 1).trans (by go_simp; exact rfl)
  have c7_2 := (lcc hb _ qz 2).trans (by go_simp; exact rfl)
  have c7_3 := (lcc hb _ qz 3).trans (by go_simp; exact rfl)
  have c7_4 := (lcc hb _ qz 4).trans (by go_simp; exact rfl)
  have c7_5 := (lcc hb _ qz 5).trans (by go_simp; exact rfl)
  have f7 := lcff hb _ qz (by intro o; go_simp)
  clear qz
  have qz := lt_BinC hb (w.heap.size + 1) (by (first | omega | (simp only [sz_alloc, sz_setCell, sz_drew, sz_drewN]; omega) | (simp; done) | (simp; omega)))
  have s8 := lcs hb _ qz
  have c8_0 := (lcc hb _ qz 0).trans (by go_simp; exact rfl)
  have c8_1 := (lcc hb _ qz 1).trans (by go_simp; exact rfl)
  have c8_2 := (lcc hb _ qz 2).trans (by go_simp; exact rfl)
  have c8_3 := (lcc hb _ qz 3).trans (by go_simp; exact rfl)
  have c8_4 := (lcc hb _ qz 4).trans (by go_simp; exact rfl)
  have c8_5 := (lcc hb _ qz 5).trans (by go_simp; exact rfl)
  have f8 := lcff hb _ qz (by intro o; go_simp)
  clear qz
  have qz := lt_BinC hb (w.heap.size + 1 + 1) (by (first | omega | (simp only [sz_alloc, sz_setCell, sz_drew, sz_drewN]; omega) | (simp; done) | (simp; omega)))
  have s9 := lcs hb _ qz
  have c9_0 := (lcc hb _ qz 0).trans (by go_simp; exact rfl)
  have c9_1 := (lcc hb _ qz 1).trans (by go_simp; exact rfl)
  have c9_2 := (lcc hb _ qz 2).trans (by go_simp; exact rfl)
  have c9_3 := (lcc hb _ qz 3).trans (by go_simp; exact rfl)
  have c9_4 := (lcc hb _ qz 4).trans (by go_simp; exact rfl)
  have c9_5 := (lcc hb _ qz 5).trans (by go_simp; exact rfl)
  have f9 := lcff hb _ qz (by intro o; go_simp)
  clear qz
  go_upto_region 4 with (fail)
  first | with_reducible refine wp_rebase ?_ | with_reducible refine wpList_rebase ?_
  intro w1 hb'
  have hb := hb'.out
  clear hb'
  have qz := lt_BinC hb (w.heap.size) (by (first | omega | (simp only [sz_alloc, sz_setCell, sz_drew, sz_drewN]; omega) | (simp; done) | (simp; omega)))
  have s10 := lcs hb _ qz
  have c10_0 := (lcc hb _ qz 0).trans (by go_simp; exact rfl)
  have c10_1 := (lcc hb _ qz 1).trans (by go_simp; exact rfl)
  have c10_2 := (lcc hb _ qz 2).trans (by go_simp; exact rfl)
  have c10_3 := (lcc hb _ qz 3).trans (by go_simp; exact rfl)
  have c10_4 := (lcc hb _ qz 4).trans (by go_simp; exact rfl)
  have c10_5 := (lcc hb _ qz 5).trans (by go_simp; exact rfl)
  have f10 := lcff hb _ qz (by intro o; go_simp)
  clear qz
  have qz := lt_BinC hb (w.heap.size + 1) (by (first | omega | (simp only [sz_alloc, sz_setCell, sz_drew, sz_drewN]; omega) | (simp; done) | (simp; omega)))
  have s11 := lcs hb _ qz
  have c11_0 := (lcc hb _ qz 0).trans (by go_simp; exact rfl)
  have c11_1 := (lcc hb _ qz 1).trans (by go_simp; exact rfl)
  have c11_2 := (lcc hb _ qz 2).trans (by go_simp; exact rfl)
  have c11_3 := (lcc hb _ qz 3).trans (by go_simp; exact rfl)
  have c11_4 := (lcc hb _ qz 4).trans (by go_simp; exact rfl)
  have c11_5 := (lcc hb _ qz 5).trans (by go_simp; exact rfl)
  have f11 := lcff hb _ qz (by intro o; go_simp)
  clear qz
  have qz := lt_BinC hb (w.heap.size + 1 + 1) (by (first | omega | (simp only [sz_alloc, sz_setCell, sz_drew, sz_drewN]; omega) | (simp; done) | (simp; omega)))
  have s12 := lcs hb _ qz
  have c12_0 := (lcc hb _ qz 0).trans (by go_simp; exact rfl)
  have c12_1 := (lcc hb _ qz 1).trans (by go_simp; exact rfl)
  have c12_2 := (lcc hb _ qz 2).trans (by go_simp; exact rfl)
  have c12_3 := (lcc hb _ qz 3).trans (by go_simp; exact rfl)
  have c12_4 := (lcc hb _ qz 4).trans (by go_simp; exact rfl)
  have c12_5 := (lcc hb _ qz 5).trans (by go_simp; exact rfl)
  have f12 := lcff hb _ qz (by intro o; go_simp)
  clear qz
  clear c7_0 c7_1 c7_2 c7_3 c7_4 c7_5 f7 c8_0 c8_1 c8_2 c8_3 c8_4 c8_5 f8 c9_0 c9_1 c9_2 c9_3 c9_4 c9_5 f9
  go_wp2
  refine bodyPost_ret (v := .agg #[.int .i64 (y).k, .int .i64 (y).n, .int .i64 (y).d, .string (y).t, .bool (y).b, .int .i64 (y).f]) (by simp [results, Tryz.results36, go_sem, c10_0, c10_1, c10_2, c10_3, c10_4, c10_5, c11_0, c11_1, c11_2, c11_3, c11_4, c11_5, c12_0, c12_1, c12_2, c12_3, c12_4, c12_5]) rfl ⟨rfl, ?_⟩
  repeat (first | with_reducible exact Below.refl _ _ | with_reducible refine below_drewN ?_ _ | with_reducible refine Below.drew ?_ | with_reducible refine Below.setCell ?_ (by (first | omega | (simp only [sz_alloc, sz_setCell, sz_drew, sz_drewN]; omega) | (simp; done) | (simp; omega))) _ | with_reducible refine Below.alloc ?_ (by (first | omega | (simp only [sz_alloc, sz_setCell, sz_drew, sz_drewN]; omega) | (simp; done) | (simp; omega))) _ | with_reducible refine below_then ?_ ?_ (by with_reducible assumption) | (first | omega | (simp only [sz_alloc, sz_setCell, sz_drew, sz_drewN]; omega) | (simp; done) | (simp; omega)))
set_option maxRecDepth 100000 in
set_option maxHeartbeats 1000000 in
theorem bin16_first (a b : Vl) (w : World) (ha : a.In) (hb' : b.In) (h4 : (tkV a).k = 4) :
    Calls Tryz.prog 36 #[.int .i64 16, .agg #[.int .i64 (a).k, .int .i64 (a).n, .int .i64 (a).d, .string (a).t, .bool (a).b, .int .i64 (a).f], .agg #[.int .i64 (b).k, .int .i64 (b).n, .int .i64 (b).d, .string (b).t, .bool (b).b, .int .i64 (b).f]] w fun e' w' => e' = .returned (.agg #[.int .i64 (tkV a).k, .int .i64 (tkV a).n, .int .i64 (tkV a).d, .string (tkV a).t, .bool (tkV a).b, .int .i64 (tkV a).f]) ∧ Below w.heap.size w w' := by
  have HT1 := Lib.hid fun wx => value_taken a.k a.n a.d a.t a.b a.f wx ha
  have HT2 := Lib.hid fun wx => value_taken b.k b.n b.d b.t b.b b.f wx hb'
  have e1 : tkV ⟨a.k, a.n, a.d, a.t, a.b, a.f⟩ = tkV a := rfl
  have e2 : tkV ⟨b.k, b.n, b.d, b.t, b.b, b.f⟩ = tkV b := rfl
  rw [e1] at HT1
  rw [e2] at HT2
  generalize tkV a = x at *
  generalize tkV b = y at *
  have k4 : (x.k == 4) = true := by simp [h4]
  clear e1 e2 h4 ha hb'
  go_enter Tryz.func36, Tryz.ntmps36
  go_wp2_with fail
  refine region_below 4 (by kernel_rfl) (by kernel_rfl) ?_
  simp only [List.take_succ_cons, List.take_zero, List.drop_succ_cons, List.drop_zero]
  repeat
    first | (refine q_run ?_ ?_; focus (go_simp; done)) | (refine q_skip ?_ ?_; focus (go_simp; done))
    try (apply Exists.intro; refine ⟨fun w' hw' => ?_, ?_⟩; focus (have hc := (bcell hw'.out).1; unfold Oper.quietAt; go_simp; (try go_ints); (first | rfl | (go_at_call 66; refine (HT1.out _).mono ?_; rintro e w2 ⟨rfl, hb⟩; exact ⟨rfl, hw'.chain hb⟩) | (go_at_call 66; refine (HT2.out _).mono ?_; rintro e w2 ⟨rfl, hb⟩; exact ⟨rfl, hw'.chain hb⟩))))
    intro K hK
    go_simp
    refine hK _ ?_
    clear hK K
  refine wpQuiet_nil ?_
  intro w1 hb'
  have hb := hb'.out
  clear hb'
  have qz := lt_BinC hb (w.heap.size) (by (first | omega | (simp only [sz_alloc, sz_setCell, sz_drew, sz_drewN]; omega) | (simp; done) | (simp; omega)))
  have s13 := lcs hb _ qz
  have c13_0 := (lcc hb _ qz 0).trans (by go_simp; exact rfl)
  have c13_1 := (lcc hb _ qz 1).trans (by go_simp; exact rfl)
  have c13_2 := (lcc hb _ qz 2).trans (by go_simp; exact rfl)
  have c13_3 := (lcc hb _ qz 3).trans (by go_simp; exact rfl)
  have c13_4 := (lcc hb _ qz 4).trans (by go_simp; exact rfl)
  have c13_5 := (lcc hb _ qz 5).trans (by go_simp; exact rfl)
  have f13 := lcff hb _ qz (by intro o; go_simp)
  clear qz
  have qz := lt_BinC hb (w.heap.size + 1) (by (first | omega | (simp only [sz_alloc, sz_setCell, sz_drew, sz_drewN]; omega) | (simp; done) | (simp; omega)))
  have s14 := lcs hb _ qz
  have c14_0 := (lcc hb _ qz 0).trans (by go_simp; exact rfl)
  have c14_1 := (lcc hb _ qz 1).trans (by go_simp; exact rfl)
  have c14_2 := (lcc hb _ qz 2).trans (by go_simp; exact rfl)
  have c14_3 := (lcc hb _ qz 3).trans (by go_simp; exact rfl)
  have c14_4 := (lcc hb _ qz 4).trans (by go_simp; exact rfl)
  have c14_5 := (lcc hb _ qz 5).trans (by go_simp; exact rfl)
  have f14 := lcff hb _ qz (by intro o; go_simp)
  clear qz
  have qz := lt_BinC hb (w.heap.size + 1 + 1) (by (first | omega | (simp only [sz_alloc, sz_setCell, sz_drew, sz_drewN]; omega) | (simp; done) | (simp; omega)))
  have s15 := lcs hb _ qz
  have c15_0 := (lcc hb _ qz 0).trans (by go_simp; exact rfl)
  have c15_1 := (lcc hb _ qz 1).trans (by go_simp; exact rfl)
  have c15_2 := (lcc hb _ qz 2).trans (by go_simp; exact rfl)
  have c15_3 := (lcc hb _ qz 3).trans (by go_simp; exact rfl)
  have c15_4 := (lcc hb _ qz 4).trans (by go_simp; exact rfl)
  have c15_5 := (lcc hb _ qz 5).trans (by go_simp; exact rfl)
  have f15 := lcff hb _ qz (by intro o; go_simp)
  clear qz
  go_upto_region 4 with (fail)
  first | with_reducible refine wp_rebase ?_ | with_reducible refine wpList_rebase ?_
  intro w1 hb'
  have hb := hb'.out
  clear hb'
  have qz := lt_BinC hb (w.heap.size) (by (first | omega | (simp only [sz_alloc, sz_setCell, sz_drew, sz_drewN]; omega) | (simp; done) | (simp; omega)))
  have s16 := lcs hb _ qz
  have c16_0 := (lcc hb _ qz 0).trans (by go_simp; exact rfl)
  have c16_1 := (lcc hb _ qz 1).trans (by go_simp; exact rfl)
  have c16_2 := (lcc hb _ qz 2).trans (by go_simp; exact rfl)
  have c16_3 := (lcc hb _ qz 3).trans (by go_simp; exact rfl)
  have c16_4 := (lcc hb _ qz 4).trans (by go_simp; exact rfl)
  have c16_5 := (lcc hb _ qz 5).trans (by go_simp; exact rfl)
  have f16 := lcff hb _ qz (by intro o; go_simp)
  clear qz
  have qz := lt_BinC hb (w.heap.size + 1) (by (first | omega | (simp only [sz_alloc, sz_setCell, sz_drew, sz_drewN]; omega) | (simp; done) | (simp; omega)))
  have s17 := lcs hb _ qz
  have c17_0 := (lcc hb _ qz 0).trans (by go_simp; exact rfl)
  have c17_1 := (lcc hb _ qz 1).trans (by go_simp; exact rfl)
  have c17_2 := (lcc hb _ qz 2).trans (by go_simp; exact rfl)
  have c17_3 := (lcc hb _ qz 3).trans (by go_simp; exact rfl)
  have c17_4 := (lcc hb _ qz 4).trans (by go_simp; exact rfl)
  have c17_5 := (lcc hb _ qz 5).trans (by go_simp; exact rfl)
  have f17 := lcff hb _ qz (by intro o; go_simp)
  clear qz
  have qz := lt_BinC hb (w.heap.size + 1 + 1) (by (first | omega | (simp only [sz_alloc, sz_setCell, sz_drew, sz_drewN]; omega) | (simp; done) | (simp; omega)))
  have s18 := lcs hb _ qz
  have c18_0 := (lcc hb _ qz 0).trans (by go_simp; exact rfl)
  have c18_1 := (lcc hb _ qz 1).trans (by go_simp; exact rfl)
  have c18_2 := (lcc hb _ qz 2).trans (by go_simp; exact rfl)
  have c18_3 := (lcc hb _ qz 3).trans (by go_simp; exact rfl)
  have c18_4 := (lcc hb _ qz 4).trans (by go_simp; exact rfl)
  have c18_5 := (lcc hb _ qz 5).trans (by go_simp; exact rfl)
  have f18 := lcff hb _ qz (by intro o; go_simp)
  clear qz
  clear c13_0 c13_1 c13_2 c13_3 c13_4 c13_5 f13 c14_0 c14_1 c14_2 c14_3 c14_4 c14_5 f14 c15_0 c15_1 c15_2 c15_3 c15_4 c15_5 f15
  go_wp2
  refine bodyPost_ret (v := .agg #[.int .i64 (x).k, .int .i64 (x).n, .int .i64 (x).d, .string (x).t, .bool (x).b, .int .i64 (x).f]) (by simp [results, Tryz.results36, go_sem, c16_0, c16_1, c16_2, c16_3, c16_4, c16_5, c17_0, c17_1, c17_2, c17_3, c17_4, c17_5, c18_0, c18_1, c18_2, c18_3, c18_4, c18_5]) rfl ⟨rfl, ?_⟩
  repeat (first | with_reducible exact Below.refl _ _ | with_reducible refine below_drewN ?_ _ | with_reducible refine Below.drew ?_ | with_reducible refine Below.setCell ?_ (by (first | omega | (simp only [sz_alloc, sz_setCell, sz_drew, sz_drewN]; omega) | (simp; done) | (simp; omega))) _ | with_reducible refine Below.alloc ?_ (by (first | omega | (simp only [sz_alloc, sz_setCell, sz_drew, sz_drewN]; omega) | (simp; done) | (simp; omega))) _ | with_reducible refine below_then ?_ ?_ (by with_reducible assumption) | (first | omega | (simp only [sz_alloc, sz_setCell, sz_drew, sz_drewN]; omega) | (simp; done) | (simp; omega)))
set_option maxRecDepth 100000 in
set_option maxHeartbeats 1000000 in
theorem bin16_second (a b : Vl) (w : World) (ha : a.In) (hb' : b.In) (h4 : ¬ (tkV a).k = 4) (h5 : (tkV b).k = 4) :
    Calls Tryz.prog 36 #[.int .i64 16, .agg #[.int .i64 (a).k, .int .i64 (a).n, .int .i64 (a).d, .string (a).t, .bool (a).b, .int .i64 (a).f], .agg #[.int .i64 (b).k, .int .i64 (b).n, .int .i64 (b).d, .string (b).t, .bool (b).b, .int .i64 (b).f]] w fun e' w' => e' = .returned (.agg #[.int .i64 (tkV b).k, .int .i64 (tkV b).n, .int .i64 (tkV b).d, .string (tkV b).t, .bool (tkV b).b, .int .i64 (tkV b).f]) ∧ Below w.heap.size w w' := by
  have HT1 := Lib.hid fun wx => value_taken a.k a.n a.d a.t a.b a.f wx ha
  have HT2 := Lib.hid fun wx => value_taken b.k b.n b.d b.t b.b b.f wx hb'
  have e1 : tkV ⟨a.k, a.n, a.d, a.t, a.b, a.f⟩ = tkV a := rfl
  have e2 : tkV ⟨b.k, b.n, b.d, b.t, b.b, b.f⟩ = tkV b := rfl
  rw [e1] at HT1
  rw [e2] at HT2
  generalize tkV a = x at *
  generalize tkV b = y at *
  have k4 : (x.k == 4) = false := by simp [h4]
  have k5 : (y.k == 4) = true := by simp [h5]
  clear e1 e2 h4 h5 ha hb'
  go_enter Tryz.func36, Tryz.ntmps36
  go_wp2_with fail
  refine region_below 4 (by kernel_rfl) (by kernel_rfl) ?_
  simp only [List.take_succ_cons, List.take_zero, List.drop_succ_cons, List.drop_zero]
  repeat
    first | (refine q_run ?_ ?_; focus (go_simp; done)) | (refine q_skip ?_ ?_; focus (go_simp; done))
    try (apply Exists.intro; refine ⟨fun w' hw' => ?_, ?_⟩; focus (have hc := (bcell hw'.out).1; unfold Oper.quietAt; go_simp; (try go_ints); (first | rfl | (go_at_call 66; refine (HT1.out _).mono ?_; rintro e w2 ⟨rfl, hb⟩; exact ⟨rfl, hw'.chain hb⟩) | (go_at_call 66; refine (HT2.out _).mono ?_; rintro e w2 ⟨rfl, hb⟩; exact ⟨rfl, hw'.chain hb⟩))))
    intro K hK
    go_simp
    refine hK _ ?_
    clear hK K
  refine wpQuiet_nil ?_
  intro w1 hb'
  have hb := hb'.out
  clear hb'
  have qz := lt_BinC hb (w.heap.size) (by (first | omega | (simp only [sz_alloc, sz_setCell, sz_drew, sz_drewN]; omega) | (simp; done) | (simp; omega)))
  have s19 := lcs hb _ qz
  have c19_0 := (lcc hb _ qz 0).trans (by go_simp; exact rfl)
  have c19_1 := (lcc hb _ qz 1).trans (by go_simp; exact rfl)
  have c19_2 := (lcc hb _ qz 2).trans (by go_simp; exact rfl)
  have c19_3 := (lcc hb _ qz 3).trans (by go_simp; exact rfl)
  have c19_4 := (lcc hb _ qz 4).trans (by go_simp; exact rfl)
  have c19_5 := (lcc hb _ qz 5).trans (by go_simp; exact rfl)
  have f19 := lcff hb _ qz (by intro o; go_simp)
  clear qz
  have qz := lt_BinC hb (w.heap.size + 1) (by (first | omega | (simp only [sz_alloc, sz_setCell, sz_drew, sz_drewN]; omega) | (simp; done) | (simp; omega)))
  have s20 := lcs hb _ qz
  have c20_0 := (lcc hb _ qz 0).trans (by go_simp; exact rfl)
  have c20_1 := (lcc hb _ qz 1).trans (by go_simp; exact rfl)
  have c20_2 := (lcc hb _ qz 2).trans (by go_simp; exact rfl)
  have c20_3 := (lcc hb _ qz 3).trans (by go_simp; exact rfl)
  have c20_4 := (lcc hb _ qz 4).trans (by go_simp; exact rfl)
  have c20_5 := (lcc hb _ qz 5).trans (by go_simp; exact rfl)
  have f20 := lcff hb _ qz (by intro o; go_simp)
  clear qz
  have qz := lt_BinC hb (w.heap.size + 1 + 1) (by (first | omega | (simp only [sz_alloc, sz_setCell, sz_drew, sz_drewN]; omega) | (simp; done) | (simp; omega)))
  have s21 := lcs hb _ qz
  have c21_0 := (lcc hb _ qz 0).trans (by go_simp; exact rfl)
  have c21_1 := (lcc hb _ qz 1).trans (by go_simp; exact rfl)
  have c21_2 := (lcc hb _ qz 2).trans (by go_simp; exact rfl)
  have c21_3 := (lcc hb _ qz 3).trans (by go_simp; exact rfl)
  have c21_4 := (lcc hb _ qz 4).trans (by go_simp; exact rfl)
  have c21_5 := (lcc hb _ qz 5).trans (by go_simp; exact rfl)
  have f21 := lcff hb _ qz (by intro o; go_simp)
  clear qz
  go_upto_region 4 with (fail)
  first | with_reducible refine wp_rebase ?_ | with_reducible refine wpList_rebase ?_
  intro w1 hb'
  have hb := hb'.out
  clear hb'
  have qz := lt_BinC hb (w.heap.size) (by (first | omega | (simp only [sz_alloc, sz_setCell, sz_drew, sz_drewN]; omega) | (simp; done) | (simp; omega)))
  have s22 := lcs hb _ qz
  have c22_0 := (lcc hb _ qz 0).trans (by go_simp; exact rfl)
  have c22_1 := (lcc hb _ qz 1).trans (by go_simp; exact rfl)
  have c22_2 := (lcc hb _ qz 2).trans (by go_simp; exact rfl)
  have c22_3 := (lcc hb _ qz 3).trans (by go_simp; exact rfl)
  have c22_4 := (lcc hb _ qz 4).trans (by go_simp; exact rfl)
  have c22_5 := (lcc hb _ qz 5).trans (by go_simp; exact rfl)
  have f22 := lcff hb _ qz (by intro o; go_simp)
  clear qz
  have qz := lt_BinC hb (w.heap.size + 1) (by (first | omega | (simp only [sz_alloc, sz_setCell, sz_drew, sz_drewN]; omega) | (simp; done) | (simp; omega)))
  have s23 := lcs hb _ qz
  have c23_0 := (lcc hb _ qz 0).trans (by go_simp; exact rfl)
  have c23_1 := (lcc hb _ qz 1).trans (by go_simp; exact rfl)
  have c23_2 := (lcc hb _ qz 2).trans (by go_simp; exact rfl)
  have c23_3 := (lcc hb _ qz 3).trans (by go_simp; exact rfl)
  have c23_4 := (lcc hb _ qz 4).trans (by go_simp; exact rfl)
  have c23_5 := (lcc hb _ qz 5).trans (by go_simp; exact rfl)
  have f23 := lcff hb _ qz (by intro o; go_simp)
  clear qz
  have qz := lt_BinC hb (w.heap.size + 1 + 1) (by (first | omega | (simp only [sz_alloc, sz_setCell, sz_drew, sz_drewN]; omega) | (simp; done) | (simp; omega)))
  have s24 := lcs hb _ qz
  have c24_0 := (lcc hb _ qz 0).trans (by go_simp; exact rfl)
  have c24_1 := (lcc hb _ qz 1).trans (by go_simp; exact rfl)
  have c24_2 := (lcc hb _ qz 2).trans (by go_simp; exact rfl)
  have c24_3 := (lcc hb _ qz 3).trans (by go_simp; exact rfl)
  have c24_4 := (lcc hb _ qz 4).trans (by go_simp; exact rfl)
  have c24_5 := (lcc hb _ qz 5).trans (by go_simp; exact rfl)
  have f24 := lcff hb _ qz (by intro o; go_simp)
  clear qz
  clear c19_0 c19_1 c19_2 c19_3 c19_4 c19_5 f19 c20_0 c20_1 c20_2 c20_3 c20_4 c20_5 f20 c21_0 c21_1 c21_2 c21_3 c21_4 c21_5 f21
  go_wp2
  refine bodyPost_ret (v := .agg #[.int .i64 (y).k, .int .i64 (y).n, .int .i64 (y).d, .string (y).t, .bool (y).b, .int .i64 (y).f]) (by simp [results, Tryz.results36, go_sem, c22_0, c22_1, c22_2, c22_3, c22_4, c22_5, c23_0, c23_1, c23_2, c23_3, c23_4, c23_5, c24_0, c24_1, c24_2, c24_3, c24_4, c24_5]) rfl ⟨rfl, ?_⟩
  repeat (first | with_reducible exact Below.refl _ _ | with_reducible refine below_drewN ?_ _ | with_reducible refine Below.drew ?_ | with_reducible refine Below.setCell ?_ (by (first | omega | (simp only [sz_alloc, sz_setCell, sz_drew, sz_drewN]; omega) | (simp; done) | (simp; omega))) _ | with_reducible refine Below.alloc ?_ (by (first | omega | (simp only [sz_alloc, sz_setCell, sz_drew, sz_drewN]; omega) | (simp; done) | (simp; omega))) _ | with_reducible refine below_then ?_ ?_ (by with_reducible assumption) | (first | omega | (simp only [sz_alloc, sz_setCell, sz_drew, sz_drewN]; omega) | (simp; done) | (simp; omega)))

set_option maxRecDepth 100000 in
set_option maxHeartbeats 2000000 in
theorem bin16_join (a b : Vl) (w : World) (ha : a.In) (hb' : b.In) (h4 : ¬ (tkV a).k = 4) (h5 : ¬ (tkV b).k = 4) (hp : Pow10 w) :
    Calls Tryz.prog 36 #[.int .i64 16, .agg #[.int .i64 (a).k, .int .i64 (a).n, .int .i64 (a).d, .string (a).t, .bool (a).b, .int .i64 (a).f], .agg #[.int .i64 (b).k, .int .i64 (b).n, .int .i64 (b).d, .string (b).t, .bool (b).b, .int .i64 (b).f]] w fun e' w' => e' = .returned (.agg #[.int .i64 (textF ((asTxt a).t ++ (asTxt b).t)).k, .int .i64 (textF ((asTxt a).t ++ (asTxt b).t)).n, .int .i64 (textF ((asTxt a).t ++ (asTxt b).t)).d, .string (textF ((asTxt a).t ++ (asTxt b).t)).t, .bool (textF ((asTxt a).t ++ (asTxt b).t)).b, .int .i64 (textF ((asTxt a).t ++ (asTxt b).t)).f]) ∧ Below w.heap.size w w' := by
  have HT1 := Lib.hid fun wx => value_taken a.k a.n a.d a.t a.b a.f wx ha
  have HT2 := Lib.hid fun wx => value_taken b.k b.n b.d b.t b.b b.f wx hb'
  have e1 : tkV ⟨a.k, a.n, a.d, a.t, a.b, a.f⟩ = tkV a := rfl
  have e2 : tkV ⟨b.k, b.n, b.d, b.t, b.b, b.f⟩ = tkV b := rfl
  rw [e1] at HT1
  rw [e2] at HT2
  have HA1 : Hid (∀ wx, Below w.heap.size w wx → Calls Tryz.prog 69 #[.agg #[.int .i64 (tkV a).k, .int .i64 (tkV a).n, .int .i64 (tkV a).d, .string (tkV a).t, .bool (tkV a).b, .int .i64 (tkV a).f]] wx fun e w' => e = .returned (.tuple #[.string (asTxt a).t, .agg #[.int .i64 ((asTxt a).e).k, .int .i64 ((asTxt a).e).n, .int .i64 ((asTxt a).e).d, .string ((asTxt a).e).t, .bool ((asTxt a).e).b, .int .i64 ((asTxt a).e).f]]) ∧ Below wx.heap.size wx w') := by
    intro wx h
    rw [← asTxt_tk a]
    exact value_AsText _ _ _ _ _ _ wx (tkV_in ha) (hp.below h)
  have HA2 : Hid (∀ wx, Below w.heap.size w wx → Calls Tryz.prog 69 #[.agg #[.int .i64 (tkV b).k, .int .i64 (tkV b).n, .int .i64 (tkV b).d, .string (tkV b).t, .bool (tkV b).b, .int .i64 (tkV b).f]] wx fun e w' => e = .returned (.tuple #[.string (asTxt b).t, .agg #[.int .i64 ((asTxt b).e).k, .int .i64 ((asTxt b).e).n, .int .i64 ((asTxt b).e).d, .string ((asTxt b).e).t, .bool ((asTxt b).e).b, .int .i64 ((asTxt b).e).f]]) ∧ Below wx.heap.size wx w') := by
    intro wx h
    rw [← asTxt_tk b]
    exact value_AsText _ _ _ _ _ _ wx (tkV_in hb') (hp.below h)
  have z1 := asTxt_size a
  have z2 := asTxt_size b
  have hadd := add_run (asTxt a).t (asTxt b).t (by omega)
  have HX := Lib.hid fun wx => value_Text ((asTxt a).t ++ (asTxt b).t) wx (by rw [size_append]; omega)
  generalize asTxt a = p at *
  generalize asTxt b = q at *
  generalize tkV a = x at *
  generalize tkV b = y at *
  generalize p.t ++ q.t = r at *
  have k4 : (x.k == 4) = false := by simp [h4]
  have k5 : (y.k == 4) = false := by simp [h5]
  clear e1 e2 h4 h5 ha hb' hp z1 z2
  go_enter Tryz.func36, Tryz.ntmps36
  go_wp2_with fail
  refine region_below 4 (by kernel_rfl) (by kernel_rfl) ?_
  simp only [List.take_succ_cons, List.take_zero, List.drop_succ_cons, List.drop_zero]
  repeat
    first | (refine q_run ?_ ?_; focus (go_simp; done)) | (refine q_skip ?_ ?_; focus (go_simp; done))
    try (apply Exists.intro; refine ⟨fun w' hw' => ?_, ?_⟩; focus (have hc := (bcell hw'.out).1; unfold Oper.quietAt; go_simp; (try go_ints); (first | rfl | (go_at_call 66; refine (HT1.out _).mono ?_; rintro e w2 ⟨rfl, hb⟩; exact ⟨rfl, hw'.chain hb⟩) | (go_at_call 66; refine (HT2.out _).mono ?_; rintro e w2 ⟨rfl, hb⟩; exact ⟨rfl, hw'.chain hb⟩))))
    intro K hK
    go_simp
    refine hK _ ?_
    clear hK K
  refine wpQuiet_nil ?_
  intro w1 hb'
  have hb := hb'.out
  clear hb'
  have qz := lt_BinC hb (w.heap.size) (by (first | omega | (simp only [sz_alloc, sz_setCell, sz_drew, sz_drewN]; omega) | (simp; done) | (simp; omega)))
  have s25 := lcs hb _ qz
  have c25_0 := (lcc hb _ qz 0).trans (by go_simp; exact rfl)
  have c25_1 := (lcc hb _ qz 1).trans (by go_simp; exact rfl)
  have c25_2 := (lcc hb _ qz 2).trans (by go_simp; exact rfl)
  have c25_3 := (lcc hb _ qz 3).trans (by go_simp; exact rfl)
  have c25_4 := (lcc hb _ qz 4).trans (by go_simp; exact rfl)
  have c25_5 := (lcc hb _ qz 5).trans (by go_simp; exact rfl)
  have f25 := lcff hb _ qz (by intro o; go_simp)
  clear qz
  have qz := lt_BinC hb (w.heap.size + 1) (by (first | omega | (simp only [sz_alloc, sz_setCell, sz_drew, sz_drewN]; omega) | (simp; done) | (simp; omega)))
  have s26 := lcs hb _ qz
  have c26_0 := (lcc hb _ qz 0).trans (by go_simp; exact rfl)
  have c26_1 := (lcc hb _ qz 1).trans (by go_simp; exact rfl)
  have c26_2 := (lcc hb _ qz 2).trans (by go_simp; exact rfl)
  have c26_3 := (lcc hb _ qz 3).trans (by go_simp; exact rfl)
  have c26_4 := (lcc hb _ qz 4).trans (by go_simp; exact rfl)
  have c26_5 := (lcc hb _ qz 5).trans (by go_simp; exact rfl)
  have f26 := lcff hb _ qz (by intro o; go_simp)
  clear qz
  have qz := lt_BinC hb (w.heap.size + 1 + 1) (by (first | omega | (simp only [sz_alloc, sz_setCell, sz_drew, sz_drewN]; omega) | (simp; done) | (simp; omega)))
  have s27 := lcs hb _ qz
  have c27_0 := (lcc hb _ qz 0).trans (by go_simp; exact rfl)
  have c27_1 := (lcc hb _ qz 1).trans (by go_simp; exact rfl)
  have c27_2 := (lcc hb _ qz 2).trans (by go_simp; exact rfl)
  have c27_3 := (lcc hb _ qz 3).trans (by go_simp; exact rfl)
  have c27_4 := (lcc hb _ qz 4).trans (by go_simp; exact rfl)
  have c27_5 := (lcc hb _ qz 5).trans (by go_simp; exact rfl)
  have f27 := lcff hb _ qz (by intro o; go_simp)
  clear qz
  go_upto_region 4 with (fail)
  first | with_reducible refine wp_rebase ?_ | with_reducible refine wpList_rebase ?_
  intro w1 hb'
  have hb := hb'.out
  clear hb'
  have qz := lt_BinC hb (w.heap.size) (by (first | omega | (simp only [sz_alloc, sz_setCell, sz_drew, sz_drewN]; omega) | (simp; done) | (simp; omega)))
  have s28 := lcs hb _ qz
  have c28_0 := (lcc hb _ qz 0).trans (by go_simp; exact rfl)
  have c28_1 := (lcc hb _ qz 1).trans (by go_simp; exact rfl)
  have c28_2 := (lcc hb _ qz 2).trans (by go_simp; exact rfl)
  have c28_3 := (lcc hb _ qz 3).trans (by go_simp; exact rfl)
  have c28_4 := (lcc hb _ qz 4).trans (by go_simp; exact rfl)
  have c28_5 := (lcc hb _ qz 5).trans (by go_simp; exact rfl)
  have f28 := lcff hb _ qz (by intro o; go_simp)
  clear qz
  have qz := lt_BinC hb (w.heap.size + 1) (by (first | omega | (simp only [sz_alloc, sz_setCell, sz_drew, sz_drewN]; omega) | (simp; done) | (simp; omega)))
  have s29 := lcs hb _ qz
  have c29_0 := (lcc hb _ qz 0).trans (by go_simp; exact rfl)
  have c29_1 := (lcc hb _ qz 1).trans (by go_simp; exact rfl)
  have c29_2 := (lcc hb _ qz 2).trans (by go_simp; exact rfl)
  have c29_3 := (lcc hb _ qz 3).trans (by go_simp; exact rfl)
  have c29_4 := (lcc hb _ qz 4).trans (by go_simp; exact rfl)
  have c29_5 := (lcc hb _ qz 5).trans (by go_simp; exact rfl)
  have f29 := lcff hb _ qz (by intro o; go_simp)
  clear qz
  have qz := lt_BinC hb (w.heap.size + 1 + 1) (by (first | omega | (simp only [sz_alloc, sz_setCell, sz_drew, sz_drewN]; omega) | (simp; done) | (simp; omega)))
  have s30 := lcs hb _ qz
  have c30_0 := (lcc hb _ qz 0).trans (by go_simp; exact rfl)
  have c30_1 := (lcc hb _ qz 1).trans (by go_simp; exact rfl)
  have c30_2 := (lcc hb _ qz 2).trans (by go_simp; exact rfl)
  have c30_3 := (lcc hb _ qz 3).trans (by go_simp; exact rfl)
  have c30_4 := (lcc hb _ qz 4).trans (by go_simp; exact rfl)
  have c30_5 := (lcc hb _ qz 5).trans (by go_simp; exact rfl)
  have f30 := lcff hb _ qz (by intro o; go_simp)
  clear qz
  clear c25_0 c25_1 c25_2 c25_3 c25_4 c25_5 f25 c26_0 c26_1 c26_2 c26_3 c26_4 c26_5 f26 c27_0 c27_1 c27_2 c27_3 c27_4 c27_5 f27
  have HB0 : Hid (Below w.heap.size w w1) := by
    unfold Hid
    repeat (first | with_reducible exact Below.refl _ _ | with_reducible refine below_drewN ?_ _ | with_reducible refine Below.drew ?_ | with_reducible refine Below.setCell ?_ (by (first | omega | (simp only [sz_alloc, sz_setCell, sz_drew, sz_drewN]; omega) | (simp; done) | (simp; omega))) _ | with_reducible refine Below.alloc ?_ (by (first | omega | (simp only [sz_alloc, sz_setCell, sz_drew, sz_drewN]; omega) | (simp; done) | (simp; omega))) _ | with_reducible refine below_then ?_ ?_ (by with_reducible assumption) | (first | omega | (simp only [sz_alloc, sz_setCell, sz_drew, sz_drewN]; omega) | (simp; done) | (simp; omega)))
  go_wp2_with fail
  refine (HA1.out _ ?_).mono ?_
  · exact HB0.out
  rintro e' w2 ⟨rfl, hb2⟩
  have HB1 := Lib.hid (HB0.out.trans (hb2.mono HB0.out.size))
  have qz := lt_BinC hb2 (w.heap.size + 1) (by (first | omega | (simp only [sz_alloc, sz_setCell, sz_drew, sz_drewN]; omega) | (simp; done) | (simp; omega)))
  have s31 := lcs hb2 _ qz
  have c31_0 := (lcc hb2 _ qz 0).trans (by go_simp; exact rfl)
  have c31_1 := (lcc hb2 _ qz 1).trans (by go_simp; exact rfl)
  have c31_2 := (lcc hb2 _ qz 2).trans (by go_simp; exact rfl)
  have c31_3 := (lcc hb2 _ qz 3).trans (by go_simp; exact rfl)
  have c31_4 := (lcc hb2 _ qz 4).trans (by go_simp; exact rfl)
  have c31_5 := (lcc hb2 _ qz 5).trans (by go_simp; exact rfl)
  have f31 := lcff hb2 _ qz (by intro o; go_simp)
  clear qz
  have qz := lt_BinC hb2 (w.heap.size + 1 + 1) (by (first | omega | (simp only [sz_alloc, sz_setCell, sz_drew, sz_drewN]; omega) | (simp; done) | (simp; omega)))
  have s32 := lcs hb2 _ qz
  have c32_0 := (lcc hb2 _ qz 0).trans (by go_simp; exact rfl)
  have c32_1 := (lcc hb2 _ qz 1).trans (by go_simp; exact rfl)
  have c32_2 := (lcc hb2 _ qz 2).trans (by go_simp; exact rfl)
  have c32_3 := (lcc hb2 _ qz 3).trans (by go_simp; exact rfl)
  have c32_4 := (lcc hb2 _ qz 4).trans (by go_simp; exact rfl)
  have c32_5 := (lcc hb2 _ qz 5).trans (by go_simp; exact rfl)
  have f32 := lcff hb2 _ qz (by intro o; go_simp)
  clear qz
  clear c28_0 c28_1 c28_2 c28_3 c28_4 c28_5 f28 c29_0 c29_1 c29_2 c29_3 c29_4 c29_5 f29 c30_0 c30_1 c30_2 c30_3 c30_4 c30_5 f30
  go_wp2_with fail
  refine (HA2.out _ ?_).mono ?_
  · exact HB1.out.alloc HB1.out.size _
  rintro e' w3 ⟨rfl, hb3⟩
  have qz := lt_BinC hb3 (w.heap.size + 1 + 1) (by (first | omega | (simp only [sz_alloc, sz_setCell, sz_drew, sz_drewN]; omega) | (simp; done) | (simp; omega)))
  have s33 := lcs hb3 _ qz
  have c33_0 := (lcc hb3 _ qz 0).trans (by go_simp; exact rfl)
  have c33_1 := (lcc hb3 _ qz 1).trans (by go_simp; exact rfl)
  have c33_2 := (lcc hb3 _ qz 2).trans (by go_simp; exact rfl)
  have c33_3 := (lcc hb3 _ qz 3).trans (by go_simp; exact rfl)
  have c33_4 := (lcc hb3 _ qz 4).trans (by go_simp; exact rfl)
  have c33_5 := (lcc hb3 _ qz 5).trans (by go_simp; exact rfl)
  have f33 := lcff hb3 _ qz (by intro o; go_simp)
  clear qz
  clear c31_0 c31_1 c31_2 c31_3 c31_4 c31_5 f31 c32_0 c32_1 c32_2 c32_3 c32_4 c32_5 f32
  go_wp2_with fail
  refine (HX.out _).mono ?_
  rintro e' w4 ⟨rfl, hb4⟩
  have qz := lt_BinC hb4 (w.heap.size + 1 + 1) (by (first | omega | (simp only [sz_alloc, sz_setCell, sz_drew, sz_drewN]; omega) | (simp; done) | (simp; omega)))
  have s34 := lcs hb4 _ qz
  have c34_0 := (lcc hb4 _ qz 0).trans (by go_simp; exact rfl)
  have c34_1 := (lcc hb4 _ qz 1).trans (by go_simp; exact rfl)
  have c34_2 := (lcc hb4 _ qz 2).trans (by go_simp; exact rfl)
  have c34_3 := (lcc hb4 _ qz 3).trans (by go_simp; exact rfl)
  have c34_4 := (lcc hb4 _ qz 4).trans (by go_simp; exact rfl)
  have c34_5 := (lcc hb4 _ qz 5).trans (by go_simp; exact rfl)
  have f34 := lcff hb4 _ qz (by intro o; go_simp)
  clear qz
  clear c33_0 c33_1 c33_2 c33_3 c33_4 c33_5 f33
  go_wp2
  refine bodyPost_ret (v := .agg #[.int .i64 (textF r).k, .int .i64 (textF r).n, .int .i64 (textF r).d, .string (textF r).t, .bool (textF r).b, .int .i64 (textF r).f]) (by simp [results, Tryz.results36, go_sem, c34_0, c34_1, c34_2, c34_3, c34_4, c34_5]) rfl ⟨rfl, ?_⟩
  repeat (first | with_reducible exact Below.refl _ _ | with_reducible refine below_drewN ?_ _ | with_reducible refine Below.drew ?_ | with_reducible refine Below.setCell ?_ (by (first | omega | (simp only [sz_alloc, sz_setCell, sz_drew, sz_drewN]; omega) | (simp; done) | (simp; omega))) _ | with_reducible refine Below.alloc ?_ (by (first | omega | (simp only [sz_alloc, sz_setCell, sz_drew, sz_drewN]; omega) | (simp; done) | (simp; omega))) _ | with_reducible refine below_then ?_ ?_ (by with_reducible assumption) | (first | omega | (simp only [sz_alloc, sz_setCell, sz_drew, sz_drewN]; omega) | (simp; done) | (simp; omega)))
theorem value_Join2 (a b : Vl) (w : World) (ha : a.In) (hb : b.In) (hp : Pow10 w) :
    Calls Tryz.prog 36 #[.int .i64 16, .agg #[.int .i64 (a).k, .int .i64 (a).n, .int .i64 (a).d, .string (a).t, .bool (a).b, .int .i64 (a).f], .agg #[.int .i64 (b).k, .int .i64 (b).n, .int .i64 (b).d, .string (b).t, .bool (b).b, .int .i64 (b).f]] w fun e' w' => e' = .returned (.agg #[.int .i64 (joinV a b).k, .int .i64 (joinV a b).n, .int .i64 (joinV a b).d, .string (joinV a b).t, .bool (joinV a b).b, .int .i64 (joinV a b).f]) ∧ Below w.heap.size w w' := by
  unfold joinV
  by_cases h4 : (tkV a).k = 4
  · rw [if_pos h4]; exact bin16_first a b w ha hb h4
  · by_cases h5 : (tkV b).k = 4
    · rw [if_neg h4, if_pos h5]; exact bin16_second a b w ha hb h4 h5
    · rw [if_neg h4, if_neg h5]; exact bin16_join a b w ha hb h4 h5 hp
end Go.Proofs.YtodopbdngikpcaaGreatDoor
