/- Walks of package value: Bin at the power of any two values. -/
import Derived.Test.YtodopbdngikpcaaGreatDoorBinB
import Derived.Test.YtodopbdngikpcaaGreatDoorBinC
namespace Go.Proofs.YtodopbdngikpcaaGreatDoor
open Go Go.RowKit
set_option linter.unusedSimpArgs false
set_option linter.unusedVariables false
theorem lt_BinD {w w' : World} (h : Below w.heap.size w w') (k : Nat) (hk : k < w.heap.size) : k < w.heap.size := hk

/-- '^' of two values. -/
def powVV (a b : Vl) : Vl := if (tkV a).k = 4 then tkV a else if (tkV b).k = 4 then tkV b else if (asNum a).e.k = 4 then (asNum a).e else if (asNum b).e.k = 4 then (asNum b).e else powV (asNum a).n (asNum a).d (asNum b).n (asNum b).d

theorem mk_i64 (n d : Int) : I64 (mk n d).n ∧ I64 (mk n d).d := by
  have h := mk_bd n d
  exact ⟨I64.of h.1 h.2.1, I64.of (by omega) (by omega)⟩
theorem asNum_i64 (x : Vl) : I64 (asNum x).n ∧ I64 (asNum x).d := by
  have z : I64 0 := ⟨by decide, by decide⟩
  have o : I64 1 := ⟨by decide, by decide⟩
  have h := right_in (tkV_right x)
  unfold asNum asNumT
  generalize tkV x = v at *
  repeat' split
  all_goals first | exact ⟨h.n, h.d⟩ | exact ⟨o, o⟩ | exact ⟨z, o⟩ | exact ⟨z, z⟩ | skip
  all_goals
    have hb : ∀ m l, I64 (readS m l).n ∧ I64 (readS m l).d := by
      intro m l
      unfold readS readP
      repeat' split
      all_goals first | exact ⟨z, z⟩ | exact mk_i64 _ _
    exact hb _ _


set_option maxRecDepth 100000 in
set_option maxHeartbeats 2000000 in
theorem bin15_pow (a b : Vl) (w : World) (ha : a.In) (hb' : b.In) (h4 : ¬ (tkV a).k = 4) (h5 : ¬ (tkV b).k = 4) :
    Calls Tryz.prog 36 #[.int .i64 15, .agg #[.int .i64 (a).k, .int .i64 (a).n, .int .i64 (a).d, .string (a).t, .bool (a).b, .int .i64 (a).f], .agg #[.int .i64 (b).k, .int .i64 (b).n, .int .i64 (b).d, .string (b).t, .bool (b).b, .int .i64 (b).f]] w fun e' w' => e' = .returned (.agg #[.int .i64 (if (asNum a).e.k = 4 then (asNum a).e else if (asNum b).e.k = 4 then (asNum b).e else powV (asNum a).n (asNum a).d (asNum b).n (asNum b).d).k, .int .i64 (if (asNum a).e.k = 4 then (asNum a).e else if (asNum b).e.k = 4 then (asNum b).e else powV (asNum a).n (asNum a).d (asNum b).n (asNum b).d).n, .int .i64 (if (asNum a).e.k = 4 then (asNum a).e else if (asNum b).e.k = 4 then (asNum b).e else powV (asNum a).n (asNum a).d (asNum b).n (asNum b).d).d, .string (if (asNum a).e.k = 4 then (asNum a).e else if (asNum b).e.k = 4 then (asNum b).e else powV (asNum a).n (asNum a).d (asNum b).n (asNum b).d).t, .bool (if (asNum a).e.k = 4 then (asNum a).e else if (asNum b).e.k = 4 then (asNum b).e else powV (asNum a).n (asNum a).d (asNum b).n (asNum b).d).b, .int .i64 (if (asNum a).e.k = 4 then (asNum a).e else if (asNum b).e.k = 4 then (asNum b).e else powV (asNum a).n (asNum a).d (asNum b).n (asNum b).d).f]) ∧ Below w.heap.size w w' := by
  have HT1 := Lib.hid fun wx => value_taken a.k a.n a.d a.t a.b a.f wx ha
  have HT2 := Lib.hid fun wx => value_taken b.k b.n b.d b.t b.b b.f wx hb'
  have e1 : tkV ⟨a.k, a.n, a.d, a.t, a.b, a.f⟩ = tkV a := rfl
  have e2 : tkV ⟨b.k, b.n, b.d, b.t, b.b, b.f⟩ = tkV b := rfl
  rw [e1] at HT1
  rw [e2] at HT2
  have HN1 : Hid (∀ wx, Calls Tryz.prog 70 #[.agg #[.int .i64 (tkV a).k, .int .i64 (tkV a).n, .int .i64 (tkV a).d, .string (tkV a).t, .bool (tkV a).b, .int .i64 (tkV a).f]] wx fun e w' => e = .returned (.tuple #[.agg #[.int .i64 (asNum a).n, .int .i64 (asNum a).d], .agg #[.int .i64 ((asNum a).e).k, .int .i64 ((asNum a).e).n, .int .i64 ((asNum a).e).d, .string ((asNum a).e).t, .bool ((asNum a).e).b, .int .i64 ((asNum a).e).f]]) ∧ Below wx.heap.size wx w') := by
    intro wx
    rw [← asNum_tk a]
    exact value_AsNumber _ _ _ _ _ _ wx (tkV_in ha)
  have HN2 : Hid (∀ wx, Calls Tryz.prog 70 #[.agg #[.int .i64 (tkV b).k, .int .i64 (tkV b).n, .int .i64 (tkV b).d, .string (tkV b).t, .bool (tkV b).b, .int .i64 (tkV b).f]] wx fun e w' => e = .returned (.tuple #[.agg #[.int .i64 (asNum b).n, .int .i64 (asNum b).d], .agg #[.int .i64 ((asNum b).e).k, .int .i64 ((asNum b).e).n, .int .i64 ((asNum b).e).d, .string ((asNum b).e).t, .bool ((asNum b).e).b, .int .i64 ((asNum b).e).f]]) ∧ Below wx.heap.size wx w') := by
    intro wx
    rw [← asNum_tk b]
    exact value_AsNumber _ _ _ _ _ _ wx (tkV_in hb')
  have i1 := asNum_i64 a
  have i2 := asNum_i64 b
  have HR := Lib.hid fun wx => value_reckon15 (asNum a).n (asNum a).d (asNum b).n (asNum b).d wx i1.1 i1.2 i2.1 i2.2
  generalize asNum a = p at *
  generalize asNum b = q at *
  generalize tkV a = x at *
  generalize tkV b = y at *
  generalize powV p.n p.d q.n q.d = r at *
  have k4 : (x.k == 4) = false := by simp [h4]
  have k5 : (y.k == 4) = false := by simp [h5]
  clear e1 e2 h4 h5 ha hb' i1 i2
  by_cases h6 : p.e.k = 4
  · rw [if_pos h6]
    have k6 : (p.e.k == 4) = true := by simp [h6]
    clear h6
    go_enter Tryz.func36, Tryz.ntmps36
    go_wp2_with fail
    refine region_below 4 (by kernel_rfl) (by kernel_rfl) ?_
    simp only [List.take_succ_cons, List.take_zero, List.drop_succ_cons, List.drop_zero]
    repeat
      first | (refine q_run ?_ ?_; focus (go_simp; done)) | (refine q_skip ?_ ?_; focus (go_simp; done))
      try (apply Exists.intro; refine ⟨fun w' hw' => ?_, ?_⟩; focus (have hc := (bcell hw'.out).1; unfold Oper.quietAt; go_simp; (try go_ints); (first | rfl | (go_at_call 66; refine (HT1.out _).mono ?_; rintro e w2 ⟨rfl, hb⟩; exact ⟨rfl, hw'.chain hb⟩) | (go_at_call 66; refine (HT2.out _).mono ?_; rintro e w2 ⟨rfl, hb⟩; exact ⟨rfl, hw'.chain hb⟩))))
      intro K hK
      go_simp
      refine hK _ ?_
      clear hK K
    refine wpQuiet_nil ?_
    intro w1 hb'
    have hb := hb'.out
    clear hb'
    have qz := lt_BinD hb (w.heap.size) (by (first | omega | (simp only [sz_alloc, sz_setCell, sz_drew, sz_drewN]; omega) | (simp; done) | (simp; omega)))
    have s1 := lcs hb _ qz
    have c1_0 := (lcc hb _ qz 0).trans (by go_simp; exact rfl)
    have c1_1 := (lcc hb _ qz 1).trans (by go_simp; exact rfl)
    have c1_2 := (lcc hb _ qz 2).trans (by go_simp; exact rfl)
    have c1_3 := (lcc hb _ qz 3).trans (by go_simp; exact rfl)
    have c1_4 := (lcc hb _ qz 4).trans (by go_simp; exact rfl)
    have c1_5 := (lcc hb _ qz 5).trans (by go_simp; exact rfl)
    have f1 := lcff hb _ qz (by intro o; go_simp)
    clear qz
    have qz := lt_BinD hb (w.heap.size + 1) (by (first | omega | (simp only [sz_alloc, sz_setCell, sz_drew, sz_drewN]; omega) | (simp; done) | (simp; omega)))
    have s2 := lcs hb _ qz
    have c2_0 := (lcc hb _ qz 0).trans (by go_simp; exact rfl)
    have c2_1 := (lcc hb _ qz 1).trans (by go_simp; exact rfl)
    have c2_2 := (lcc hb _ qz 2).trans (by go_simp; exact rfl)
    have c2_3 := (lcc hb _ qz 3).trans (by go_simp; exact rfl)
    have c2_4 := (lcc hb _ qz 4).trans (by go_simp; exact rfl)
    have c2_5 := (lcc hb _ qz 5).trans (by go_simp; exact rfl)
    have f2 := lcff hb _ qz (by intro o; go_simp)
    clear qz
    have qz := lt_BinD hb (w.heap.size + 1 + 1) (by (first | omega | (simp only [sz_alloc, sz_setCell, sz_drew, sz_drewN]; omega) | (simp; done) | (simp; omega)))
    have s3 := lcs hb _ qz
    have c3_0 := (lcc hb _ qz 0).trans (by go_simp; exact rfl)
    have c3_1 := (lcc hb _ qz 1).trans (by go_simp; exact rfl)
    have c3_2 := (lcc hb _ qz 2).trans (by go_simp; exact rfl)
    have c3_3 := (lcc hb _ qz 3).trans (by go_simp; exact rfl)
    have c3_4 := (lcc hb _ qz 4).trans (by go_simp; exact rfl)
    have c3_5 := (lcc hb _ qz 5).trans (by go_simp; exact rfl)
    have f3 := lcff hb _ qz (by intro o; go_simp)
    clear qz
    go_upto_region 4 with (fail)
    first | with_reducible refine wp_rebase ?_ | with_reducible refine wpList_rebase ?_
    intro w1 hb'
    have hb := hb'.out
    clear hb'
    have qz := lt_BinD hb (w.heap.size) (by (first | omega | (simp only [sz_alloc, sz_setCell, sz_drew, sz_drewN]; omega) | (simp; done) | (simp; omega)))
    have s4 := lcs hb _ qz
    have c4_0 := (lcc hb _ qz 0).trans (by go_simp; exact rfl)
    have c4_1 := (lcc hb _ qz 1).trans (by go_simp; exact rfl)
    have c4_2 := (lcc hb _ qz 2).trans (by go_simp; exact rfl)
    have c4_3 := (lcc hb _ qz 3).trans (by go_simp; exact rfl)
    have c4_4 := (lcc hb _ qz 4).trans (by go_simp; exact rfl)
    have c4_5 := (lcc hb _ qz 5).trans (by go_simp; exact rfl)
    have f4 := lcff hb _ qz (by intro o; go_simp)
    clear qz
    have qz := lt_BinD hb (w.heap.size + 1) (by (first | omega | (simp only [sz_alloc, sz_setCell, sz_drew, sz_drewN]; omega) | (simp; done) | (simp; omega)))
    have s5 := lcs hb _ qz
    have c5_0 := (lcc hb _ qz 0).trans (by go_simp; exact rfl)
    have c5_1 := (lcc hb _ qz 1).trans (by go_simp; exact rfl)
    have c5_2 := (lcc hb _ qz 2).trans (by go_simp; exact rfl)
    have c5_3 := (lcc hb _ qz 3).trans (by go_simp; exact rfl)
    have c5_4 := (lcc hb _ qz 4).trans (by go_simp; exact rfl)
    have c5_5 := (lcc hb _ qz 5).trans (by go_simp; exact rfl)
    have f5 := lcff hb _ qz (by intro o; go_simp)
    clear qz
    have qz := lt_BinD hb (w.heap.size + 1 + 1) (by (first | omega | (simp only [sz_alloc, sz_setCell, sz_drew, sz_drewN]; omega) | (simp; done) | (simp; omega)))
    have s6 := lcs hb _ qz
    have c6_0 := (lcc hb _ qz 0).trans (by go_simp; exact rfl)
    have c6_1 := (lcc hb _ qz 1).trans (by go_simp; exact rfl)
    have c6_2 := (lcc hb _ qz 2).trans (by go_simp; exact rfl)
    have c6_3 := (lcc hb _ qz 3).trans (by go_simp; exact rfl)
    have c6_4 := (lcc hb _ qz 4).trans (by go_simp; exact rfl)
    have c6_5 := (lcc hb _ qz 5).trans (by go_simp; exact rfl)
    have f6 := lcff hb _ qz (by intro o; go_simp)
    clear qz
    clear c1_0 c1_1 c1_2 c1_3 c1_4 c1_5 f1 c2_0 c2_1 c2_2 c2_3 c2_4 c2_5 f2 c3_0 c3_1 c3_2 c3_3 c3_4 c3_5 f3
    go_wp2_with fail
    refine (HN1.out _).mono ?_
    rintro e' w2 ⟨rfl, hb2⟩
    have qz := lt_BinD hb2 (w.heap.size) (by (first | omega | (simp only [sz_alloc, sz_setCell, sz_drew, sz_drewN]; omega) | (simp; done) | (simp; omega)))
    have s7 := lcs hb2 _ qz
    have c7_0 := (lcc hb2 _ qz 0).trans (by go_simp; exact rfl)
    have c7_1 := (lcc hb2 _ qz 1).trans (by go_simp; exact rfl)
    have c7_2 := (lcc hb2 _ qz 2).trans (by go_simp; exact rfl)
    have c7_3 := (lcc hb2 _ qz 3).trans (by go_simp; exact rfl)
    have c7_4 := (lcc hb2 _ qz 4).trans (by go_simp; exact rfl)
    have c7_5 := (lcc hb2 _ qz 5).trans (by go_simp; exact rfl)
    have f7 := lcff hb2 _ qz (by intro o; go_simp)
    clear qz
    have qz := lt_BinD hb2 (w.heap.size + 1) (by (first | omega | (simp only [sz_alloc, sz_setCell, sz_drew, sz_drewN]; omega) | (simp; done) | (simp; omega)))
    have s8 := lcs hb2 _ qz
    have c8_0 := (lcc hb2 _ qz 0).trans (by go_simp; exact rfl)
    have c8_1 := (lcc hb2 _ qz 1).trans (by go_simp; exact rfl)
    have c8_2 := (lcc hb2 _ qz 2).trans (by go_simp; exact rfl)
    have c8_3 := (lcc hb2 _ qz 3).trans (by go_simp; exact rfl)
    have c8_4 := (lcc hb2 _ qz 4).trans (by go_simp; exact rfl)
    have c8_5 := (lcc hb2 _ qz 5).trans (by go_simp; exact rfl)
    have f8 := lcff hb2 _ qz (by intro o; go_simp)
    clear qz
    have qz := lt_BinD hb2 (w.heap.size + 1 + 1) (by (first | omega | (simp only [sz_alloc, sz_setCell, sz_drew, sz_drewN]; omega) | (simp; done) | (simp; omega)))
    have s9 := lcs hb2 _ qz
    have c9_0 := (lcc hb2 _ qz 0).trans (by go_simp; exact rfl)
    have c9_1 := (lcc hb2 _ qz 1).trans (by go_simp; exact rfl)
    have c9_2 := (lcc hb2 _ qz 2).trans (by go_simp; exact rfl)
    have c9_3 := (lcc hb2 _ qz 3).trans (by go_simp; exact rfl)
    have c9_4 := (lcc hb2 _ qz 4).trans (by go_simp; exact rfl)
    have c9_5 := (lcc hb2 _ qz 5).trans (by go_simp; exact rfl)
    have f9 := lcff hb2 _ qz (by intro o; go_simp)
    clear qz
    clear c4_0 c4_1 c4_2 c4_3 c4_4 c4_5 f4 c5_0 c5_1 c5_2 c5_3 c5_4 c5_5 f5 c6_0 c6_1 c6_2 c6_3 c6_4 c6_5 f6
    go_upto_region 15 with (fail)
    first | with_reducible refine wp_rebase ?_ | with_reducible refine wpList_rebase ?_
    intro w1 hb'
    have hb := hb'.out
    clear hb'
    have qz := lt_BinD hb (w.heap.size + 1 + 1) (by (first | omega | (simp only [sz_alloc, sz_setCell, sz_drew, sz_drewN]; omega) | (simp; done) | (simp; omega)))
    have s10 := lcs hb _ qz
    have c10_0 := (lcc hb _ qz 0).trans (by go_simp; exact rfl)
    have c10_1 := (lcc hb _ qz 1).trans (by go_simp; exact rfl)
    have c10_2 := (lcc hb _ qz 2).trans (by go_simp; exact rfl)
    have c10_3 := (lcc hb _ qz 3).trans (by go_simp; exact rfl)
    have c10_4 := (lcc hb _ qz 4).trans (by go_simp; exact rfl)
    have c10_5 := (lcc hb _ qz 5).trans (by go_simp; exact rfl)
    have f10 := lcff hb _ qz (by intro o; go_simp)
    clear qz
    have qz := lt_BinD hb (w2.heap.size + 1) (by (first | omega | (simp only [sz_alloc, sz_setCell, sz_drew, sz_drewN]; omega) | (simp; done) | (simp; omega)))
    have s11 := lcs hb _ qz
    have c11_0 := (lcc hb _ qz 0).trans (by go_simp; exact rfl)
    have c11_1 := (lcc hb _ qz 1).trans (by go_simp; exact rfl)
    have c11_2 := (lcc hb _ qz 2).trans (by go_simp; exact rfl)
    have c11_3 := (lcc hb _ qz 3).trans (by go_simp; exact rfl)
    have c11_4 := (lcc hb _ qz 4).trans (by go_simp; exact rfl)
    have c11_5 := (lcc hb _ qz 5).trans (by go_simp; exact rfl)
    have f11 := lcff hb _ qz (by intro o; go_simp)
    clear qz
    clear c7_0 c7_1 c7_2 c7_3 c7_4 c7_5 f7 c8_0 c8_1 c8_2 c8_3 c8_4 c8_5 f8 c9_0 c9_1 c9_2 c9_3 c9_4 c9_5 f9
    go_wp2
    refine bodyPost_ret (v := .agg #[.int .i64 (p.e).k, .int .i64 (p.e).n, .int .i64 (p.e).d, .string (p.e).t, .bool (p.e).b, .int .i64 (p.e).f]) (by simp [results, Tryz.results36, go_sem, c10_0, c10_1, c10_2, c10_3, c10_4, c10_5, c11_0, c11_1, c11_2, c11_3, c11_4, c11_5]) rfl ⟨rfl, ?_⟩
    repeat (first | with_reducible exact Below.refl _ _ | with_reducible refine below_drewN ?_ _ | with_reducible refine Below.drew ?_ | with_reducible refine Below.setCell ?_ (by (first | omega | (simp only [sz_alloc, sz_setCell, sz_drew, sz_drewN]; omega) | (simp; done) | (simp; omega))) _ | with_reducible refine Below.alloc ?_ (by (first | omega | (simp only [sz_alloc, sz_setCell, sz_drew, sz_drewN]; omega) | (simp; done) | (simp; omega))) _ | with_reducible refine below_then ?_ ?_ (by with_reducible assumption) | (first | omega | (simp only [sz_alloc, sz_setCell, sz_drew, sz_drewN]; omega) | (simp; done) | (simp; omega)))
  rw [if_neg h6]
  have k6 : (p.e.k == 4) = false := by simp [h6]
  clear h6
  by_cases h7 : q.e.k = 4
  · rw [if_pos h7]
    have k7 : (q.e.k == 4) = true := by simp [h7]
    clear h7
    go_enter Tryz.func36, Tryz.ntmps36
    go_wp2_with fail
    refine region_below 4 (by kernel_rfl) (by kernel_rfl) ?_
    simp only [List.take_succ_cons, List.take_zero, List.drop_succ_cons, List.drop_zero]
    repeat
      first | (refine q_run ?_ ?_; focus (go_simp; done)) | (refine q_skip ?_ ?_; focus (go_simp; done))
      try (apply Exists.intro; refine ⟨fun w' hw' => ?_, ?_⟩; focus (have hc := (bcell hw'.out).1; unfold Oper.quietAt; go_simp; (try go_ints); (first | rfl | (go_at_call 66; refine (HT1.out _).mono ?_; rintro e w2 ⟨rfl, hb⟩; exact ⟨rfl, hw'.chain hb⟩) | (go_at_call 66; refine (HT2.out _).mono ?_; rintro e w2 ⟨rfl, hb⟩; exact ⟨rfl, hw'.chain hb⟩))))
      intro K hK
      go_simp
      refine hK _ ?_
      clear hK K
    refine wpQuiet_nil ?_
    intro w1 hb'
    have hb := hb'.out
    clear hb'
    have qz := lt_BinD hb (w.heap.size) (by (first | omega | (simp only [sz_alloc, sz_setCell, sz_drew, sz_drewN]; omega) | (simp; done) | (simp; omega)))
    have s12 := lcs hb _ qz
    have c12_0 := (lcc hb _ qz 0).trans (by go_simp; exact rfl)
    have c12_1 := (lcc hb _ qz 1).trans (by go_simp; exact rfl)
    have c12_2 := (lcc hb _ qz 2).trans (by go_simp; exact rfl)
    have c12_3 := (lcc hb _ qz 3).trans (by go_simp; exact rfl)
    have c12_4 := (lcc hb _ qz 4).trans (by go_simp; exact rfl)
    have c12_5 := (lcc hb _ qz 5).trans (by go_simp; exact rfl)
    have f12 := lcff hb _ qz (by intro o; go_simp)
    clear qz
    have qz := lt_BinD hb (w.heap.size + 1) (by (first | omega | (simp only [sz_alloc, sz_setCell, sz_drew, sz_drewN]; omega) | (simp; done) | (simp; omega)))
    have s13 := lcs hb _ qz
    have c13_0 := (lcc hb _ qz 0).trans (by go_simp; exact rfl)
    have c13_1 := (lcc hb _ qz 1).trans (by go_simp; exact rfl)
    have c13_2 := (lcc hb _ qz 2).trans (by go_simp; exact rfl)
    have c13_3 := (lcc hb _ qz 3).trans (by go_simp; exact rfl)
    have c13_4 := (lcc hb _ qz 4).trans (by go_simp; exact rfl)
    have c13_5 := (lcc hb _ qz 5).trans (by go_simp; exact rfl)
    have f13 := lcff hb _ qz (by intro o; go_simp)
    clear qz
    have qz := lt_BinD hb (w.heap.size + 1 + 1) (by (first | omega | (simp only [sz_alloc, sz_setCell, sz_drew, sz_drewN]; omega) | (simp; done) | (simp; omega)))
    have s14 := lcs hb _ qz
    have c14_0 := (lcc hb _ qz 0).trans (by go_simp; exact rfl)
    have c14_1 := (lcc hb _ qz 1).trans (by go_simp; exact rfl)
    have c14_2 := (lcc hb _ qz 2).trans (by go_simp; exact rfl)
    have c14_3 := (lcc hb _ qz 3).trans (by go_simp; exact rfl)
    have c14_4 := (lcc hb _ qz 4).trans (by go_simp; exact rfl)
    have c14_5 := (lcc hb _ qz 5).trans (by go_simp; exact rfl)
    have f14 := lcff hb _ qz (by intro o; go_simp)
    clear qz
    go_upto_region 4 with (fail)
    first | with_reducible refine wp_rebase ?_ | with_reducible refine wpList_rebase ?_
    intro w1 hb'
    have hb := hb'.out
    clear hb'
    have qz := lt_BinD hb (w.heap.size) (by (first | omega | (simp only [sz_alloc, sz_setCell, sz_drew, sz_drewN]; omega) | (simp; done) | (simp; omega)))
    have s15 := lcs hb _ qz
    have c15_0 := (lcc hb _ qz 0).trans (by go_simp; exact rfl)
    have c15_1 := (lcc hb _ qz 1).trans (by go_simp; exact rfl)
    have c15_2 := (lcc hb _ qz 2).trans (by go_simp; exact rfl)
    have c15_3 := (lcc hb _ qz 3).trans (by go_simp; exact rfl)
    have c15_4 := (lcc hb _ qz 4).trans (by go_simp; exact rfl)
    have c15_5 := (lcc hb _ qz 5).trans (by go_simp; exact rfl)
    have f15 := lcff hb _ qz (by intro o; go_simp)
    clear qz
    have qz := lt_BinD hb (w.heap.size + 1) (by (first | omega | (simp only [sz_alloc, sz_setCell, sz_drew, sz_drewN]; omega) | (simp; done) | (simp; omega)))
    have s16 := lcs hb _ qz
    have c16_0 := (lcc hb _ qz 0).trans (by go_simp; exact rfl)
    have c16_1 := (lcc hb _ qz 1).trans (by go_simp; exact rfl)
    have c16_2 := (lcc hb _ qz 2).trans (by go_simp; exact rfl)
    have c16_3 := (lcc hb _ qz 3).trans (by go_simp; exact rfl)
    have c16_4 := (lcc hb _ qz 4).trans (by go_simp; exact rfl)
    have c16_5 := (lcc hb _ qz 5).trans (by go_simp; exact rfl)
    have f16 := lcff hb _ qz (by intro o; go_simp)
    clear qz
    have qz := lt_BinD hb (w.heap.size + 1 + 1) (by (first | omega | (simp only [sz_alloc, sz_setCell, sz_drew, sz_drewN]; omega) | (simp; done) | (simp; omega)))
    have s17 := lcs hb _ qz
    have c17_0 := (lcc hb _ qz 0).trans (by go_simp; exact rfl)
    have c17_1 := (lcc hb _ qz 1).trans (by go_simp; exact rfl)
    have c17_2 := (lcc hb _ qz 2).trans (by go_simp; exact rfl)
    have c17_3 := (lcc hb _ qz 3).trans (by go_simp; exact rfl)
    have c17_4 := (lcc hb _ qz 4).trans (by go_simp; exact rfl)
    have c17_5 := (lcc hb _ qz 5).trans (by go_simp; exact rfl)
    have f17 := lcff hb _ qz (by intro o; go_simp)
    clear qz
    clear c12_0 c12_1 c12_2 c12_3 c12_4 c12_5 f12 c13_0 c13_1 c13_2 c13_3 c13_4 c13_5 f13 c14_0 c14_1 c14_2 c14_3 c14_4 c14_5 f14
    go_wp2_with fail
    refine (HN1.out _).mono ?_
    rintro e' w2 ⟨rfl, hb2⟩
    have qz := lt_BinD hb2 (w.heap.size) (by (first | omega | (simp only [sz_alloc, sz_setCell, sz_drew, sz_drewN]; omega) | (simp; done) | (simp; omega)))
    have s18 := lcs hb2 _ qz
    have c18_0 := (lcc hb2 _ qz 0).trans (by go_simp; exact rfl)
    have c18_1 := (lcc hb2 _ qz 1).trans (by go_simp; exact rfl)
    have c18_2 := (lcc hb2 _ qz 2).trans (by go_simp; exact rfl)
    have c18_3 := (lcc hb2 _ qz 3).trans (by go_simp; exact rfl)
    have c18_4 := (lcc hb2 _ qz 4).trans (by go_simp; exact rfl)
    have c18_5 := (lcc hb2 _ qz 5).trans (by go_simp; exact rfl)
    have f18 := lcff hb2 _ qz (by intro o; go_simp)
    clear qz
    have qz := lt_BinD hb2 (w.heap.size + 1) (by (first | omega | (simp only [sz_alloc, sz_setCell, sz_drew, sz_drewN]; omega) | (simp; done) | (simp; omega)))
    have s19 := lcs hb2 _ qz
    have c19_0 := (lcc hb2 _ qz 0).trans (by go_simp; exact rfl)
    have c19_1 := (lcc hb2 _ qz 1).trans (by go_simp; exact rfl)
    have c19_2 := (lcc hb2 _ qz 2).trans (by go_simp; exact rfl)
    have c19_3 := (lcc hb2 _ qz 3).trans (by go_simp; exact rfl)
    have c19_4 := (lcc hb2 _ qz 4).trans (by go_simp; exact rfl)
    have c19_5 := (lcc hb2 _ qz 5).trans (by go_simp; exact rfl)
    have f19 := lcff hb2 _ qz (by intro o; go_simp)
    clear qz
    have qz := lt_BinD hb2 (w.heap.size + 1 + 1) (by (first | omega | (simp only [sz_alloc, sz_setCell, sz_drew, sz_drewN]; omega) | (simp; done) | (simp; omega)))
    have s20 := lcs hb2 _ qz
    have c20_0 := (lcc hb2 _ qz 0).trans (by go_simp; exact rfl)
    have c20_1 := (lcc hb2 _ qz 1).trans (by go_simp; exact rfl)
    have c20_2 := (lcc hb2 _ qz 2).trans (by go_simp; exact rfl)
    have c20_3 := (lcc hb2 _ qz 3).trans (by go_simp; exact rfl)
    have c20_4 := (lcc hb2 _ qz 4).trans (by go_simp; exact rfl)
    have c20_5 := (lcc hb2 _ qz 5).trans (by go_simp; exact rfl)
    have f20 := lcff hb2 _ qz (by intro o; go_simp)
    clear qz
    clear c15_0 c15_1 c15_2 c15_3 c15_4 c15_5 f15 c16_0 c16_1 c16_2 c16_3 c16_4 c16_5 f16 c17_0 c17_1 c17_2 c17_3 c17_4 c17_5 f17
    go_upto_region 15 with (fail)
    first | with_reducible refine wp_rebase ?_ | with_reducible refine wpList_rebase ?_
    intro w1 hb'
    have hb := hb'.out
    clear hb'
    have qz := lt_BinD hb (w.heap.size + 1) (by (first | omega | (simp only [sz_alloc, sz_setCell, sz_drew, sz_drewN]; omega) | (simp; done) | (simp; omega)))
    have s21 := lcs hb _ qz
    have c21_0 := (lcc hb _ qz 0).trans (by go_simp; exact rfl)
    have c21_1 := (lcc hb _ qz 1).trans (by go_simp; exact rfl)
    have c21_2 := (lcc hb _ qz 2).trans (by go_simp; exact rfl)
    have c21_3 := (lcc hb _ qz 3).trans (by go_simp; exact rfl)
    have c21_4 := (lcc hb _ qz 4).trans (by go_simp; exact rfl)
    have c21_5 := (lcc hb _ qz 5).trans (by go_simp; exact rfl)
    have f21 := lcff hb _ qz (by intro o; go_simp)
    clear qz
    have qz := lt_BinD hb (w.heap.size + 1 + 1) (by (first | omega | (simp only [sz_alloc, sz_setCell, sz_drew, sz_drewN]; omega) | (simp; done) | (simp; omega)))
    have s22 := lcs hb _ qz
    have c22_0 := (lcc hb _ qz 0).trans (by go_simp; exact rfl)
    have c22_1 := (lcc hb _ qz 1).trans (by go_simp; exact rfl)
    have c22_2 := (lcc hb _ qz 2).trans (by go_simp; exact rfl)
    have c22_3 := (lcc hb _ qz 3).trans (by go_simp; exact rfl)
    have c22_4 := (lcc hb _ qz 4).trans (by go_simp; exact rfl)
    have c22_5 := (lcc hb _ qz 5).trans (by go_simp; exact rfl)
    have f22 := lcff hb _ qz (by intro o; go_simp)
    clear qz
    have qz := lt_BinD hb (w2.heap.size) (by (first | omega | (simp only [sz_alloc, sz_setCell, sz_drew, sz_drewN]; omega) | (simp; done) | (simp; omega)))
    have s23 := lcs hb _ qz
    have c23_0 := (lcc hb _ qz 0).trans (by go_simp; exact rfl)
    have c23_1 := (lcc hb _ qz 1).trans (by go_simp; exact rfl)
    have f23 := lcff hb _ qz (by intro o; go_simp)
    clear qz
    have qz := lt_BinD hb (w2.heap.size + 1) (by (first | omega | (simp only [sz_alloc, sz_setCell, sz_drew, sz_drewN]; omega) | (simp; done) | (simp; omega)))
    have s24 := lcs hb _ qz
    have c24_0 := (lcc hb _ qz 0).trans (by go_simp; exact rfl)
    have c24_1 := (lcc hb _ qz 1).trans (by go_simp; exact rfl)
    have c24_2 := (lcc hb _ qz 2).trans (by go_simp; exact rfl)
    have c24_3 := (lcc hb _ qz 3).trans (by go_simp; exact rfl)
    have c24_4 := (lcc hb _ qz 4).trans (by go_simp; exact rfl)
    have c24_5 := (lcc hb _ qz 5).trans (by go_simp; exact rfl)
    have f24 := lcff hb _ qz (by intro o; go_simp)
    clear qz
    clear c18_0 c18_1 c18_2 c18_3 c18_4 c18_5 f18 c19_0 c19_1 c19_2 c19_3 c19_4 c19_5 f19 c20_0 c20_1 c20_2 c20_3 c20_4 c20_5 f20
    go_wp2_with fail
    refine (HN2.out _).mono ?_
    rintro e' w3 ⟨rfl, hb3⟩
    have qz := lt_BinD hb3 (w.heap.size + 1 + 1) (by (first | omega | (simp only [sz_alloc, sz_setCell, sz_drew, sz_drewN]; omega) | (simp; done) | (simp; omega)))
    have s25 := lcs hb3 _ qz
    have c25_0 := (lcc hb3 _ qz 0).trans (by go_simp; exact rfl)
    have c25_1 := (lcc hb3 _ qz 1).trans (by go_simp; exact rfl)
    have c25_2 := (lcc hb3 _ qz 2).trans (by go_simp; exact rfl)
    have c25_3 := (lcc hb3 _ qz 3).trans (by go_simp; exact rfl)
    have c25_4 := (lcc hb3 _ qz 4).trans (by go_simp; exact rfl)
    have c25_5 := (lcc hb3 _ qz 5).trans (by go_simp; exact rfl)
    have f25 := lcff hb3 _ qz (by intro o; go_simp)
    clear qz
    have qz := lt_BinD hb3 (w2.heap.size) (by (first | omega | (simp only [sz_alloc, sz_setCell, sz_drew, sz_drewN]; omega) | (simp; done) | (simp; omega)))
    have s26 := lcs hb3 _ qz
    have c26_0 := (lcc hb3 _ qz 0).trans (by go_simp; exact rfl)
    have c26_1 := (lcc hb3 _ qz 1).trans (by go_simp; exact rfl)
    have f26 := lcff hb3 _ qz (by intro o; go_simp)
    clear qz
    have qz := lt_BinD hb3 (w2.heap.size + 1) (by (first | omega | (simp only [sz_alloc, sz_setCell, sz_drew, sz_drewN]; omega) | (simp; done) | (simp; omega)))
    have s27 := lcs hb3 _ qz
    have c27_0 := (lcc hb3 _ qz 0).trans (by go_simp; exact rfl)
    have c27_1 := (lcc hb3 _ qz 1).trans (by go_simp; exact rfl)
    have c27_2 := (lcc hb3 _ qz 2).trans (by go_simp; exact rfl)
    have c27_3 := (lcc hb3 _ qz 3).trans (by go_simp; exact rfl)
    have c27_4 := (lcc hb3 _ qz 4).trans (by go_simp; exact rfl)
    have c27_5 := (lcc hb3 _ qz 5).trans (by go_simp; exact rfl)
    have f27 := lcff hb3 _ qz (by intro o; go_simp)
    clear qz
    clear c21_0 c21_1 c21_2 c21_3 c21_4 c21_5 f21 c22_0 c22_1 c22_2 c22_3 c22_4 c22_5 f22 c23_0 c23_1 f23 c24_0 c24_1 c24_2 c24_3 c24_4 c24_5 f24
    go_upto_region 18 with (fail)
    first | with_reducible refine wp_rebase ?_ | with_reducible refine wpList_rebase ?_
    intro w1 hb'
    have hb := hb'.out
    clear hb'
    have qz := lt_BinD hb (w.heap.size + 1 + 1) (by (first | omega | (simp only [sz_alloc, sz_setCell, sz_drew, sz_drewN]; omega) | (simp; done) | (simp; omega)))
    have s28 := lcs hb _ qz
    have c28_0 := (lcc hb _ qz 0).trans (by go_simp; exact rfl)
    have c28_1 := (lcc hb _ qz 1).trans (by go_simp; exact rfl)
    have c28_2 := (lcc hb _ qz 2).trans (by go_simp; exact rfl)
    have c28_3 := (lcc hb _ qz 3).trans (by go_simp; exact rfl)
    have c28_4 := (lcc hb _ qz 4).trans (by go_simp; exact rfl)
    have c28_5 := (lcc hb _ qz 5).trans (by go_simp; exact rfl)
    have f28 := lcff hb _ qz (by intro o; go_simp)
    clear qz
    have qz := lt_BinD hb (w2.heap.size + 1) (by (first | omega | (simp only [sz_alloc, sz_setCell, sz_drew, sz_drewN]; omega) | (simp; done) | (simp; omega)))
    have s29 := lcs hb _ qz
    have c29_0 := (lcc hb _ qz 0).trans (by go_simp; exact rfl)
    have c29_1 := (lcc hb _ qz 1).trans (by go_simp; exact rfl)
    have c29_2 := (lcc hb _ qz 2).trans (by go_simp; exact rfl)
    have c29_3 := (lcc hb _ qz 3).trans (by go_simp; exact rfl)
    have c29_4 := (lcc hb _ qz 4).trans (by go_simp; exact rfl)
    have c29_5 := (lcc hb _ qz 5).trans (by go_simp; exact rfl)
    have f29 := lcff hb _ qz (by intro o; go_simp)
    clear qz
    clear c25_0 c25_1 c25_2 c25_3 c25_4 c25_5 f25 c26_0 c26_1 f26 c27_0 c27_1 c27_2 c27_3 c27_4 c27_5 f27
    go_wp2
    refine bodyPost_ret (v := .agg #[.int .i64 (q.e).k, .int .i64 (q.e).n, .int .i64 (q.e).d, .string (q.e).t, .bool (q.e).b, .int .i64 (q.e).f]) (by simp [results, Tryz.results36, go_sem, c28_0, c28_1, c28_2, c28_3, c28_4, c28_5, c29_0, c29_1, c29_2, c29_3, c29_4, c29_5]) rfl ⟨rfl, ?_⟩
    repeat (first | with_reducible exact Below.refl _ _ | with_reducible refine below_drewN ?_ _ | with_reducible refine Below.drew ?_ | with_reducible refine Below.setCell ?_ (by (first | omega | (simp only [sz_alloc, sz_setCell, sz_drew, sz_drewN]; omega) | (simp; done) | (simp; omega))) _ | with_reducible refine Below.alloc ?_ (by (first | omega | (simp only [sz_alloc, sz_setCell, sz_drew, sz_drewN]; omega) | (simp; done) | (simp; omega))) _ | with_reducible refine below_then ?_ ?_ (by with_reducible assumption) | (first | omega | (simp only [sz_alloc, sz_setCell, sz_drew, sz_drewN]; omega) | (simp; done) | (simp; omega)))
  rw [if_neg h7]
  have k7 : (q.e.k == 4) = false := by simp [h7]
  clear h7
  go_enter Tryz.func36, Tryz.ntmps36
  go_wp2_with fail
  refine region_below 4 (by kernel_rfl) (by kernel_rfl) ?_
  simp only [List.take_succ_cons, List.take_zero, List.drop_succ_cons, List.drop_zero]
  repeat
    first | (refine q_run ?_ ?_; focus (go_simp; done)) | (refine q_skip ?_ ?_; focus (go_simp; done))
    try (apply Exists.intro; refine ⟨fun w' hw' => ?_, ?_⟩; focus (have hc := (bcell hw'.out).1; unfold Oper.quietAt; go_simp; (try go_ints); (first | rfl | (go_at_call 66; refine (HT1.out _).mono ?_; rintro e w2 ⟨rfl, hb⟩; exact ⟨rfl, hw'.chain hb⟩) | (go_at_call 66; refine (HT2.out _).mono ?_; rintro e w2 ⟨rfl, hb⟩; exact ⟨rfl, hw'.chain hb⟩))))
    intro K hK
    go_simp
    refine hK _ ?_
    clear hK K
  refine wpQuiet_nil ?_
  intro w1 hb'
  have hb := hb'.out
  clear hb'
  have qz := lt_BinD hb (w.heap.size) (by (first | omega | (simp only [sz_alloc, sz_setCell, sz_drew, sz_drewN]; omega) | (simp; done) | (simp; omega)))
  have s30 := lcs hb _ qz
  have c30_0 := (lcc hb _ qz 0).trans (by go_simp; exact rfl)
  have c30_1 := (lcc hb _ qz 1).trans (by go_simp; exact rfl)
  have c30_2 := (lcc hb _ qz 2).trans (by go_simp; exact rfl)
  have c30_3 := (lcc hb _ qz 3).trans (by go_simp; exact rfl)
  have c30_4 := (lcc hb _ qz 4).trans (by go_simp; exact rfl)
  have c30_5 := (lcc hb _ qz 5).trans (by go_simp; exact rfl)
  have f30 := lcff hb _ qz (by intro o; go_simp)
  clear qz
  have qz := lt_BinD hb (w.heap.size + 1) (by (first | omega | (simp only [sz_alloc, sz_setCell, sz_drew, sz_drewN]; omega) | (simp; done) | (simp; omega)))
  have s31 := lcs hb _ qz
  have c31_0 := (lcc hb _ qz 0).trans (by go_simp; exact rfl)
  have c31_1 := (lcc hb _ qz 1).trans (by go_simp; exact rfl)
  have c31_2 := (lcc hb _ qz 2).trans (by go_simp; exact rfl)
  have c31_3 := (lcc hb _ qz 3).trans (by go_simp; exact rfl)
  have c31_4 := (lcc hb _ qz 4).trans (by go_simp; exact rfl)
  have c31_5 := (lcc hb _ qz 5).trans (by go_simp; exact rfl)
  have f31 := lcff hb _ qz (by intro o; go_simp)
  clear qz
  have qz := lt_BinD hb (w.heap.size + 1 + 1) (by (first | omega | (simp only [sz_alloc, sz_setCell, sz_drew, sz_drewN]; omega) | (simp; done) | (simp; omega)))
  have s32 := lcs hb _ qz
  have c32_0 := (lcc hb _ qz 0).trans (by go_simp; exact rfl)
  have c32_1 := (lcc hb _ qz 1).trans (by go_simp; exact rfl)
  have c32_2 := (lcc hb _ qz 2).trans (by go_simp; exact rfl)
  have c32_3 := (lcc hb _ qz 3).trans (by go_simp; exact rfl)
  have c32_4 := (lcc hb _ qz 4).trans (by go_simp; exact rfl)
  have c32_5 := (lcc hb _ qz 5).trans (by go_simp; exact rfl)
  have f32 := lcff hb _ qz (by intro o; go_simp)
  clear qz
  go_upto_region 4 with (fail)
  first | with_reducible refine wp_rebase ?_ | with_reducible refine wpList_rebase ?_
  intro w1 hb'
  have hb := hb'.out
  clear hb'
  have qz := lt_BinD hb (w.heap.size) (by (first | omega | (simp only [sz_alloc, sz_setCell, sz_drew, sz_drewN]; omega) | (simp; done) | (simp; omega)))
  have s33 := lcs hb _ qz
  have c33_0 := (lcc hb _ qz 0).trans (by go_simp; exact rfl)
  have c33_1 := (lcc hb _ qz 1).trans (by go_simp; exact rfl)
  have c33_2 := (lcc hb _ qz 2).trans (by go_simp; exact rfl)
  have c33_3 := (lcc hb _ qz 3).trans (by go_simp; exact rfl)
  have c33_4 := (lcc hb _ qz 4).trans (by go_simp; exact rfl)
  have c33_5 := (lcc hb _ qz 5).trans (by go_simp; exact rfl)
  have f33 := lcff hb _ qz (by intro o; go_simp)
  clear qz
  have qz := lt_BinD hb (w.heap.size + 1) (by (first | omega | (simp only [sz_alloc, sz_setCell, sz_drew, sz_drewN]; omega) | (simp; done) | (simp; omega)))
  have s34 := lcs hb _ qz
  have c34_0 := (lcc hb _ qz 0).trans (by go_simp; exact rfl)
  have c34_1 := (lcc hb _ qz 1).trans (by go_simp; exact rfl)
  have c34_2 := (lcc hb _ qz 2).trans (by go_simp; exact rfl)
  have c34_3 := (lcc hb _ qz 3).trans (by go_simp; exact rfl)
  have c34_4 := (lcc hb _ qz 4).trans (by go_simp; exact rfl)
  have c34_5 := (lcc hb _ qz 5).trans (by go_simp; exact rfl)
  have f34 := lcff hb _ qz (by intro o; go_simp)
  clear qz
  have qz := lt_BinD hb (w.heap.size + 1 + 1) (by (first | omega | (simp only [sz_alloc, sz_setCell, sz_drew, sz_drewN]; omega) | (simp; done) | (simp; omega)))
  have s35 := lcs hb _ qz
  have c35_0 := (lcc hb _ qz 0).trans (by go_simp; exact rfl)
  have c35_1 := (lcc hb _ qz 1).trans (by go_simp; exact rfl)
  have c35_2 := (lcc hb _ qz 2).trans (by go_simp; exact rfl)
  have c35_3 := (lcc hb _ qz 3).trans (by go_simp; exact rfl)
  have c35_4 := (lcc hb _ qz 4).trans (by go_simp; exact rfl)
  have c35_5 := (lcc hb _ qz 5).trans (by go_simp; exact rfl)
  have f35 := lcff hb _ qz (by intro o; go_simp)
  clear qz
  clear c30_0 c30_1 c30_2 c30_3 c30_4 c30_5 f30 c31_0 c31_1 c31_2 c31_3 c31_4 c31_5 f31 c32_0 c32_1 c32_2 c32_3 c32_4 c32_5 f32
  go_wp2_with fail
  refine (HN1.out _).mono ?_
  rintro e' w2 ⟨rfl, hb2⟩
  have qz := lt_BinD hb2 (w.heap.size) (by (first | omega | (simp only [sz_alloc, sz_setCell, sz_drew, sz_drewN]; omega) | (simp; done) | (simp; omega)))
  have s36 := lcs hb2 _ qz
  have c36_0 := (lcc hb2 _ qz 0).trans (by go_simp; exact rfl)
  have c36_1 := (lcc hb2 _ qz 1).trans (by go_simp; exact rfl)
  have c36_2 := (lcc hb2 _ qz 2).trans (by go_simp; exact rfl)
  have c36_3 := (lcc hb2 _ qz 3).trans (by go_simp; exact rfl)
  have c36_4 := (lcc hb2 _ qz 4).trans (by go_simp; exact rfl)
  have c36_5 := (lcc hb2 _ qz 5).trans (by go_simp; exact rfl)
  have f36 := lcff hb2 _ qz (by intro o; go_simp)
  clear qz
  have qz := lt_BinD hb2 (w.heap.size + 1) (by (first | omega | (simp only [sz_alloc, sz_setCell, sz_drew, sz_drewN]; omega) | (simp; done) | (simp; omega)))
  have s37 := lcs hb2 _ qz
  have c37_0 := (lcc hb2 _ qz 0).trans (by go_simp; exact rfl)
  have c37_1 := (lcc hb2 _ qz 1).trans (by go_simp; exact rfl)
  have c37_2 := (lcc hb2 _ qz 2).trans (by go_simp; exact rfl)
  have c37_3 := (lcc hb2 _ qz 3).trans (by go_simp; exact rfl)
  have c37_4 := (lcc hb2 _ qz 4).trans (by go_simp; exact rfl)
  have c37_5 := (lcc hb2 _ qz 5).trans (by go_simp; exact rfl)
  have f37 := lcff hb2 _ qz (by intro o; go_simp)
  clear qz
  have qz := lt_BinD hb2 (w.heap.size + 1 + 1) (by (first | omega | (simp only [sz_alloc, sz_setCell, sz_drew, sz_drewN]; omega) | (simp; done) | (simp; omega)))
  have s38 := lcs hb2 _ qz
  have c38_0 := (lcc hb2 _ qz 0).trans (by go_simp; exact rfl)
  have c38_1 := (lcc hb2 _ qz 1).trans (by go_simp; exact rfl)
  have c38_2 := (lcc hb2 _ qz 2).trans (by go_simp; exact rfl)
  have c38_3 := (lcc hb2 _ qz 3).trans (by go_simp; exact rfl)
  have c38_4 := (lcc hb2 _ qz 4).trans (by go_simp; exact rfl)
  have c38_5 := (lcc hb2 _ qz 5).trans (by go_simp; exact rfl)
  have f38 := lcff hb2 _ qz (by intro o; go_simp)
  clear qz
  clear c33_0 c33_1 c33_2 c33_3 c33_4 c33_5 f33 c34_0 c34_1 c34_2 c34_3 c34_4 c34_5 f34 c35_0 c35_1 c35_2 c35_3 c35_4 c35_5 f35
  go_upto_region 15 with (fail)
  first | with_reducible refine wp_rebase ?_ | with_reducible refine wpList_rebase ?_
  intro w1 hb'
  have hb := hb'.out
  clear hb'
  have qz := lt_BinD hb (w.heap.size + 1) (by (first | omega | (simp only [sz_alloc, sz_setCell, sz_drew, sz_drewN]; omega) | (simp; done) | (simp; omega)))
  have s39 := lcs hb _ qz
  have c39_0 := (lcc hb _ qz 0).trans (by go_simp; exact rfl)
  have c39_1 := (lcc hb _ qz 1).trans (by go_simp; exact rfl)
  have c39_2 := (lcc hb _ qz 2).trans (by go_simp; exact rfl)
  have c39_3 := (lcc hb _ qz 3).trans (by go_simp; exact rfl)
  have c39_4 := (lcc hb _ qz 4).trans (by go_simp; exact rfl)
  have c39_5 := (lcc hb _ qz 5).trans (by go_simp; exact rfl)
  have f39 := lcff hb _ qz (by intro o; go_simp)
  clear qz
  have qz := lt_BinD hb (w.heap.size + 1 + 1) (by (first | omega | (simp only [sz_alloc, sz_setCell, sz_drew, sz_drewN]; omega) | (simp; done) | (simp; omega)))
  have s40 := lcs hb _ qz
  have c40_0 := (lcc hb _ qz 0).trans (by go_simp; exact rfl)
  have c40_1 := (lcc hb _ qz 1).trans (by go_simp; exact rfl)
  have c40_2 := (lcc hb _ qz 2).trans (by go_simp; exact rfl)
  have c40_3 := (lcc hb _ qz 3).trans (by go_simp; exact rfl)
  have c40_4 := (lcc hb _ qz 4).trans (by go_simp; exact rfl)
  have c40_5 := (lcc hb _ qz 5).trans (by go_simp; exact rfl)
  have f40 := lcff hb _ qz (by intro o; go_simp)
  clear qz
  have qz := lt_BinD hb (w2.heap.size) (by (first | omega | (simp only [sz_alloc, sz_setCell, sz_drew, sz_drewN]; omega) | (simp; done) | (simp; omega)))
  have s41 := lcs hb _ qz
  have c41_0 := (lcc hb _ qz 0).trans (by go_simp; exact rfl)
  have c41_1 := (lcc hb _ qz 1).trans (by go_simp; exact rfl)
  have f41 := lcff hb _ qz (by intro o; go_simp)
  clear qz
  have qz := lt_BinD hb (w2.heap.size + 1) (by (first | omega | (simp only [sz_alloc, sz_setCell, sz_drew, sz_drewN]; omega) | (simp; done) | (simp; omega)))
  have s42 := lcs hb _ qz
  have c42_0 := (lcc hb _ qz 0).trans (by go_simp; exact rfl)
  have c42_1 := (lcc hb _ qz 1).trans (by go_simp; exact rfl)
  have c42_2 := (lcc hb _ qz 2).trans (by go_simp; exact rfl)
  have c42_3 := (lcc hb _ qz 3).trans (by go_simp; exact rfl)
  have c42_4 := (lcc hb _ qz 4).trans (by go_simp; exact rfl)
  have c42_5 := (lcc hb _ qz 5).trans (by go_simp; exact rfl)
  have f42 := lcff hb _ qz (by intro o; go_simp)
  clear qz
  clear c36_0 c36_1 c36_2 c36_3 c36_4 c36_5 f36 c37_0 c37_1 c37_2 c37_3 c37_4 c37_5 f37 c38_0 c38_1 c38_2 c38_3 c38_4 c38_5 f38
  go_wp2_with fail
  refine (HN2.out _).mono ?_
  rintro e' w3 ⟨rfl, hb3⟩
  have qz := lt_BinD hb3 (w.heap.size + 1 + 1) (by (first | omega | (simp only [sz_alloc, sz_setCell, sz_drew, sz_drewN]; omega) | (simp; done) | (simp; omega)))
  have s43 := lcs hb3 _ qz
  have c43_0 := (lcc hb3 _ qz 0).trans (by go_simp; exact rfl)
  have c43_1 := (lcc hb3 _ qz 1).trans (by go_simp; exact rfl)
  have c43_2 := (lcc hb3 _ qz 2).trans (by go_simp; exact rfl)
  have c43_3 := (lcc hb3 _ qz 3).trans (by go_simp; exact rfl)
  have c43_4 := (lcc hb3 _ qz 4).trans (by go_simp; exact rfl)
  have c43_5 := (lcc hb3 _ qz 5).trans (by go_simp; exact rfl)
  have f43 := lcff hb3 _ qz (by intro o; go_simp)
  clear qz
  have qz := lt_BinD hb3 (w2.heap.size) (by (first | omega | (simp only [sz_alloc, sz_setCell, sz_drew, sz_drewN]; omega) | (simp; done) | (simp; omega)))
  have s44 := lcs hb3 _ qz
  have c44_0 := (lcc hb3 _ qz 0).trans (by go_simp; exact rfl)
  have c44_1 := (lcc hb3 _ qz 1).trans (by go_simp; exact rfl)
  have f44 := lcff hb3 _ qz (by intro o; go_simp)
  clear qz
  have qz := lt_BinD hb3 (w2.heap.size + 1) (by (first | omega | (simp only [sz_alloc, sz_setCell, sz_drew, sz_drewN]; omega) | (simp; done) | (simp; omega)))
  have s45 := lcs hb3 _ qz
  have c45_0 := (lcc hb3 _ qz 0).trans (by go_simp; exact rfl)
  have c45_1 := (lcc hb3 _ qz 1).trans (by go_simp; exact rfl)
  have c45_2 := (lcc hb3 _ qz 2).trans (by go_simp; exact rfl)
  have c45_3 := (lcc hb3 _ qz 3).trans (by go_simp; exact rfl)
  have c45_4 := (lcc hb3 _ qz 4).trans (by go_simp; exact rfl)
  have c45_5 := (lcc hb3 _ qz 5).trans (by go_simp; exact rfl)
  have f45 := lcff hb3 _ qz (by intro o; go_simp)
  clear qz
  clear c39_0 c39_1 c39_2 c39_3 c39_4 c39_5 f39 c40_0 c40_1 c40_2 c40_3 c40_4 c40_5 f40 c41_0 c41_1 f41 c42_0 c42_1 c42_2 c42_3 c42_4 c42_5 f42
  go_upto_region 18 with (fail)
  first | with_reducible refine wp_rebase ?_ | with_reducible refine wpList_rebase ?_
  intro w1 hb'
  have hb := hb'.out
  clear hb'
  have qz := lt_BinD hb (w.heap.size + 1 + 1) (by (first | omega | (simp only [sz_alloc, sz_setCell, sz_drew, sz_drewN]; omega) | (simp; done) | (simp; omega)))
  have s46 := lcs hb _ qz
  have c46_0 := (lcc hb _ qz 0).trans (by go_simp; exact rfl)
  have c46_1 := (lcc hb _ qz 1).trans (by go_simp; exact rfl)
  have c46_2 := (lcc hb _ qz 2).trans (by go_simp; exact rfl)
  have c46_3 := (lcc hb _ qz 3).trans (by go_simp; exact rfl)
  have c46_4 := (lcc hb _ qz 4).trans (by go_simp; exact rfl)
  have c46_5 := (lcc hb _ qz 5).trans (by go_simp; exact rfl)
  have f46 := lcff hb _ qz (by intro o; go_simp)
  clear qz
  have qz := lt_BinD hb (w2.heap.size) (by (first | omega | (simp only [sz_alloc, sz_setCell, sz_drew, sz_drewN]; omega) | (simp; done) | (simp; omega)))
  have s47 := lcs hb _ qz
  have c47_0 := (lcc hb _ qz 0).trans (by go_simp; exact rfl)
  have c47_1 := (lcc hb _ qz 1).trans (by go_simp; exact rfl)
  have f47 := lcff hb _ qz (by intro o; go_simp)
  clear qz
  have qz := lt_BinD hb (w2.heap.size + 1) (by (first | omega | (simp only [sz_alloc, sz_setCell, sz_drew, sz_drewN]; omega) | (simp; done) | (simp; omega)))
  have s48 := lcs hb _ qz
  have c48_0 := (lcc hb _ qz 0).trans (by go_simp; exact rfl)
  have c48_1 := (lcc hb _ qz 1).trans (by go_simp; exact rfl)
  have c48_2 := (lcc hb _ qz 2).trans (by go_simp; exact rfl)
  have c48_3 := (lcc hb _ qz 3).trans (by go_simp; exact rfl)
  have c48_4 := (lcc hb _ qz 4).trans (by go_simp; exact rfl)
  have c48_5 := (lcc hb _ qz 5).trans (by go_simp; exact rfl)
  have f48 := lcff hb _ qz (by intro o; go_simp)
  clear qz
  have qz := lt_BinD hb (w3.heap.size) (by (first | omega | (simp only [sz_alloc, sz_setCell, sz_drew, sz_drewN]; omega) | (simp; done) | (simp; omega)))
  have s49 := lcs hb _ qz
  have c49_0 := (lcc hb _ qz 0).trans (by go_simp; exact rfl)
  have c49_1 := (lcc hb _ qz 1).trans (by go_simp; exact rfl)
  have f49 := lcff hb _ qz (by intro o; go_simp)
  clear qz
  clear c43_0 c43_1 c43_2 c43_3 c43_4 c43_5 f43 c44_0 c44_1 f44 c45_0 c45_1 c45_2 c45_3 c45_4 c45_5 f45
  go_wp2_with fail
  refine (HR.out _).mono ?_
  rintro e' w4 ⟨rfl, hb4⟩
  have qz := lt_BinD hb4 (w.heap.size + 1 + 1) (by (first | omega | (simp only [sz_alloc, sz_setCell, sz_drew, sz_drewN]; omega) | (simp; done) | (simp; omega)))
  have s50 := lcs hb4 _ qz
  have c50_0 := (lcc hb4 _ qz 0).trans (by go_simp; exact rfl)
  have c50_1 := (lcc hb4 _ qz 1).trans (by go_simp; exact rfl)
  have c50_2 := (lcc hb4 _ qz 2).trans (by go_simp; exact rfl)
  have c50_3 := (lcc hb4 _ qz 3).trans (by go_simp; exact rfl)
  have c50_4 := (lcc hb4 _ qz 4).trans (by go_simp; exact rfl)
  have c50_5 := (lcc hb4 _ qz 5).trans (by go_simp; exact rfl)
  have f50 := lcff hb4 _ qz (by intro o; go_simp)
  clear qz
  clear c46_0 c46_1 c46_2 c46_3 c46_4 c46_5 f46 c47_0 c47_1 f47 c48_0 c48_1 c48_2 c48_3 c48_4 c48_5 f48 c49_0 c49_1 f49
  go_wp2
  refine bodyPost_ret (v := .agg #[.int .i64 (r).k, .int .i64 (r).n, .int .i64 (r).d, .string (r).t, .bool (r).b, .int .i64 (r).f]) (by simp [results, Tryz.results36, go_sem, c50_0, c50_1, c50_2, c50_3, c50_4, c50_5]) rfl ⟨rfl, ?_⟩
  repeat (first | with_reducible exact Below.refl _ _ | with_reducible refine below_drewN ?_ _ | with_reducible refine Below.drew ?_ | with_reducible refine Below.setCell ?_ (by (first | omega | (simp only [sz_alloc, sz_setCell, sz_drew, sz_drewN]; omega) | (simp; done) | (simp; omega))) _ | with_reducible refine Below.alloc ?_ (by (first | omega | (simp only [sz_alloc, sz_setCell, sz_drew, sz_drewN]; omega) | (simp; done) | (simp; omega))) _ | with_reducible refine below_then ?_ ?_ (by with_reducible assumption) | (first | omega | (simp only [sz_alloc, sz_setCell, sz_drew, sz_drewN]; omega) | (simp; done) | (simp; omega)))
theorem value_Pow2 (a b : Vl) (w : World) (ha : a.In) (hb : b.In) :
    Calls Tryz.prog 36 #[.int .i64 15, .agg #[.int .i64 (a).k, .int .i64 (a).n, .int .i64 (a).d, .string (a).t, .bool (a).b, .int .i64 (a).f], .agg #[.int .i64 (b).k, .int .i64 (b).n, .int .i64 (b).d, .string (b).t, .bool (b).b, .int .i64 (b).f]] w fun e' w' => e' = .returned (.agg #[.int .i64 (powVV a b).k, .int .i64 (powVV a b).n, .int .i64 (powVV a b).d, .string (powVV a b).t, .bool (powVV a b).b, .int .i64 (powVV a b).f]) ∧ Below w.heap.size w w' := by
  unfold powVV
  by_cases h4 : (tkV a).k = 4
  · rw [if_pos h4]; exact bin15_first a b w ha hb h4
  · by_cases h5 : (tkV b).k = 4
    · rw [if_neg h4, if_pos h5]; exact bin15_second a b w ha hb h4 h5
    · rw [if_neg h4, if_neg h5]; exact bin15_pow a b w ha hb h4 h5
end Go.Proofs.YtodopbdngikpcaaGreatDoor
