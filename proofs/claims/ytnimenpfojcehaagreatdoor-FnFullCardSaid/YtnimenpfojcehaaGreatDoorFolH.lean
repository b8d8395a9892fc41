/- Walks of package funcs: SUMPRODUCT takes a partner that is a number. -/
import Derived.Test.YtnimenpfojcehaaGreatDoorFolG
namespace Go.Proofs.YtnimenpfojcehaaGreatDoor
open Go Go.RowKit
set_option linter.unusedSimpArgs false
set_option linter.unusedVariables false

set_option maxHeartbeats 4000000 in
theorem acc_Pair_mul1 (b : Nat) (S S' : AccS) (v : Vl) (hx : v.In) (hu : S.full = false) (hw : S.wants = true) (hf : S.fn = 24) (hk1 : (tkV v).k = 1) (h1 : I64 S.hn) (h2 : I64 S.hd) (hok : (mul S.hn S.hd (tkV v).n (tkV v).d).ok = true) (T : Vl) (hT : T = toldF (mul S.hn S.hd (tkV v).n (tkV v).d).n (mul S.hn S.hd (tkV v).n (tkV v).d).d true)
    (HM : Hid (Turns 215 #[.agg #[], .pointer (some ⟨b, 0, none⟩), .agg #[.int .i64 (T).k, .int .i64 (T).n, .int .i64 (T).d, .string (T).t, .bool (T).b, .int .i64 (T).f]] b S.served S' kdP)) :
    Turns 16 #[.pointer (some ⟨b, 0, none⟩), .agg #[.int .i64 (v).k, .int .i64 (v).n, .int .i64 (v).d, .string (v).t, .bool (v).b, .int .i64 (v).f]] b S S' kdP := by
  constructor
  intro w hA
  have hlt := hA.lt
  have hne : ¬ b = w.heap.size := by omega
  have hne' : ¬ w.heap.size = b := by omega
  have hne1 : ¬ b = w.heap.size + 1 := by omega
  have hne1' : ¬ w.heap.size + 1 = b := by omega
  have HT := Lib.hid fun wx => funcs_taken v.k v.n v.d v.t v.b v.f wx hx
  have et : tkV ⟨v.k, v.n, v.d, v.t, v.b, v.f⟩ = tkV v := rfl
  rw [et] at HT
  clear et
  have hxi := tkV_in hx
  generalize tkV v = x at *
  have HMul := Lib.hid fun wx => num_Mul S.hn S.hd x.n x.d wx h1 h2 hxi.n hxi.d
  have hbd := mul_bds S.hn S.hd x.n x.d
  rw [hok] at HMul
  have HTo := Lib.hid fun wx => funcs_told (mul S.hn S.hd x.n x.d).n (mul S.hn S.hd x.n x.d).d true wx (I64.of hbd.1 hbd.2.1) (I64.of (by omega) (by omega))
  generalize (mul S.hn S.hd x.n x.d).n = rn at *
  generalize (mul S.hn S.hd x.n x.d).d = rd at *
  rw [← hT] at HTo
  clear hT
  have a17 : w.cell? ⟨b, 17, none⟩ = some (.bool false) := (hA.cell 17).trans (by rw [← hu]; rfl)
  have a18 : w.cell? ⟨b, 18, none⟩ = some (.bool true) := (hA.cell 18).trans (by rw [← hw]; rfl)
  have a19 : w.cell? ⟨b, 19, none⟩ = some (.int .i64 S.hn) := hA.cell 19
  have a20 : w.cell? ⟨b, 20, none⟩ = some (.int .i64 S.hd) := hA.cell 20
  have fz := hA.free
  have hk : (x.k == 1) = true := by simp [hk1]
  have HFN := Lib.hid hf
  have HA := Lib.hid (((((hA.set 18 (.bool false)).set 19 (.int .i64 0)).set 20 (.int .i64 0) |>.cast (arr' := accArr S.served kdP) (by simp only [AccS.served, accArr, List.setIfInBounds_toArray, List.set_cons_zero, List.set_cons_succ])).alloc (.cells #[.int .i64 v.k, .int .i64 v.n, .int .i64 v.d, .string v.t, .bool v.b, .int .i64 v.f] 33)).alloc (.cells #[.int .i64 S.hn, .int .i64 S.hd] 31))
  clear hA hu hw hx hf hk1 hxi hok hbd h1 h2
  go_enter Tryz.func16, Tryz.ntmps16
  go_wp2_with fail
  refine (HT.out _).mono ?_
  rintro e w1 ⟨rfl, hb⟩
  have A1 := Lib.hid (HA.out.below hb)
  have r0 : w1.cell? ⟨b, 0, none⟩ = some (.int .i64 24) := (A1.out.cell 0).trans (by rw [← HFN.out]; rfl)
  have l1 := A1.out.lt
  have hz1 := hb.size
  simp only [sz_alloc, sz_setCell] at hz1
  obtain ⟨s1, c1_0, c1_1, c1_2, c1_3, c1_4, c1_5, f1⟩ := L6 hb (w.heap.size) (by first | omega | (simp only [sA, sC, sD, sE]; omega) | (simp; done) | (simp; omega)) (by go_simp; exact ⟨rfl, rfl, rfl, rfl, rfl, rfl⟩) (by intro o; go_simp)
  obtain ⟨s2, c2_0, c2_1, f2⟩ := L2 hb (w.heap.size + 1) (by first | omega | (simp only [sA, sC, sD, sE]; omega) | (simp; done) | (simp; omega)) (by go_simp; exact ⟨rfl, rfl⟩) (by intro o; go_simp)
  go_upto_region 5 with (fail)
  first | with_reducible refine wp_rebase ?_ | with_reducible refine wpList_rebase ?_
  intro w1 hb'
  have hb := hb'.out
  clear hb'
  obtain ⟨s3, c3_0, c3_1, c3_2, c3_3, c3_4, c3_5, f3⟩ := L6 hb (w.heap.size) (by first | omega | (simp only [sA, sC, sD, sE]; omega) | (simp; done) | (simp; omega)) (by go_simp; exact ⟨rfl, rfl, rfl, rfl, rfl, rfl⟩) (by intro o; go_simp)
  obtain ⟨s4, c4_0, c4_1, f4⟩ := L2 hb (w.heap.size + 1) (by first | omega | (simp only [sA, sC, sD, sE]; omega) | (simp; done) | (simp; omega)) (by go_simp; exact ⟨rfl, rfl⟩) (by intro o; go_simp)
  clear c1_0 c1_1 c1_2 c1_3 c1_4 c1_5 f1 c2_0 c2_1 f2
  have A2 := Lib.hid (((((((A1.out.set_ne hne (.int .i64 x.k) (o := 0)).set_ne hne (.int .i64 x.n) (o := 1)).set_ne hne (.int .i64 x.d) (o := 2)).set_ne hne (.string x.t) (o := 3)).set_ne hne (.bool x.b) (o := 4)).set_ne hne (.int .i64 x.f) (o := 5)).below hb)
  have r1 : w1.cell? ⟨b, 0, none⟩ = some (.int .i64 24) := (A2.out.cell 0).trans (by rw [← HFN.out]; rfl)
  have l2 := A2.out.lt
  have z5 := Below.size hb
  try simp only [sz_alloc, sz_setCell, sz_drew, sz_drewN] at z5
  go_wp2_with fail
  refine (HMul.out _).mono ?_
  rintro e w2 ⟨rfl, hb⟩
  obtain ⟨s6, c6_0, c6_1, c6_2, c6_3, c6_4, c6_5, f6⟩ := L6 hb (w.heap.size) (by first | omega | (simp only [sA, sC, sD, sE]; omega) | (simp; done) | (simp; omega)) (by go_simp; exact ⟨rfl, rfl, rfl, rfl, rfl, rfl⟩) (by intro o; go_simp)
  clear c3_0 c3_1 c3_2 c3_3 c3_4 c3_5 f3 c4_0 c4_1 f4
  have z7 := Below.size hb
  try simp only [sz_alloc, sz_setCell, sz_drew, sz_drewN] at z7
  have A3 := Lib.hid (A2.out.below hb)
  have l3 := A3.out.lt
  have q1 : ¬ w.heap.size = w2.heap.size := by omega
  have q2 : ¬ w2.heap.size = w.heap.size := by omega
  have q3 : ¬ b = w2.heap.size := by omega
  have q4 : ¬ w2.heap.size = b := by omega
  go_wp2_with fail
  refine (HTo.out _).mono ?_
  rintro e w3 ⟨rfl, hb⟩
  obtain ⟨s8, c8_0, c8_1, c8_2, c8_3, c8_4, c8_5, f8⟩ := L6 hb (w.heap.size) (by first | omega | (simp only [sA, sC, sD, sE]; omega) | (simp; done) | (simp; omega)) (by go_simp; exact ⟨rfl, rfl, rfl, rfl, rfl, rfl⟩) (by intro o; go_simp)
  clear c6_0 c6_1 c6_2 c6_3 c6_4 c6_5 f6
  have z9 := Below.size hb
  try simp only [sz_alloc, sz_setCell, sz_drew, sz_drewN] at z9
  have A4 := Lib.hid ((A3.out.alloc _).below hb)
  have l4 := A4.out.lt
  have r21 : w3.cell? ⟨b, 21, none⟩ = some (.iface 98 (.agg #[])) := A4.out.cell 21
  go_upto_region 10 with (fail)
  have A5 := Lib.hid ((((((A4.out.set_ne hne (.int .i64 T.k) (o := 0)).set_ne hne (.int .i64 T.n) (o := 1)).set_ne hne (.int .i64 T.d) (o := 2)).set_ne hne (.string T.t) (o := 3)).set_ne hne (.bool T.b) (o := 4)).set_ne hne (.int .i64 T.f) (o := 5))
  refine region_below 6 (by kernel_rfl) (by kernel_rfl) ?_
  simp only [List.take_succ_cons, List.take_zero, List.drop_succ_cons, List.drop_zero]
  repeat
    first | (refine q_run ?_ ?_; focus (go_simp; done)) | (refine q_skip ?_ ?_; focus (go_simp; done))
    try (apply Exists.intro; refine ⟨fun w' hw' => ?_, ?_⟩; focus (have hc := (bcell hw'.out).1; unfold Oper.quietAt; go_simp; (try go_ints); (first | rfl)))
    intro K hK
    go_simp
    refine hK _ ?_
    clear hK K
  refine wpQuiet_nil ?_
  intro w1 hb'
  have hb := hb'.out
  clear hb'
  have A6 := A5.out.below hb
  have z10 := Below.size hb
  try simp only [sz_alloc, sz_setCell, sz_drew, sz_drewN] at z10
  go_wp2_with fail
  refine (HM.out.out _ A6).mono ?_
  rintro e w4 ⟨rfl, A7, hb2⟩
  have z11 := But.size hb2
  try simp only [sz_alloc, sz_setCell, sz_drew, sz_drewN] at z11
  go_wp2
  go_end0
  refine ⟨rfl, A7, ?_⟩
  repeat (first | with_reducible exact But.refl _ _ _ | with_reducible refine But.drewN ?_ _ | with_reducible refine But.drew ?_ | with_reducible refine But.setCell ?_ _ _ | with_reducible refine But.setNew ?_ (by (first | omega | (simp only [sz_alloc, sz_setCell, sz_drew, sz_drewN]; omega) | (simp; done) | (simp; omega))) _ | with_reducible refine But.alloc ?_ (by (first | omega | (simp only [sz_alloc, sz_setCell, sz_drew, sz_drewN]; omega) | (simp; done) | (simp; omega))) _ | with_reducible refine But.thenBelow ?_ ?_ (by with_reducible assumption) | with_reducible refine But.then ?_ ?_ (by with_reducible assumption) | (first | omega | (simp only [sz_alloc, sz_setCell, sz_drew, sz_drewN]; omega) | (simp; done) | (simp; omega)))
set_option maxHeartbeats 4000000 in
theorem acc_Pair_mul0 (b : Nat) (S S' : AccS) (v : Vl) (hx : v.In) (hu : S.full = false) (hw : S.wants = true) (hf : S.fn = 24) (hk1 : (tkV v).k = 1) (h1 : I64 S.hn) (h2 : I64 S.hd) (hok : (mul S.hn S.hd (tkV v).n (tkV v).d).ok = false) (T : Vl) (hT : T = toldF (mul S.hn S.hd (tkV v).n (tkV v).d).n (mul S.hn S.hd (tkV v).n (tkV v).d).d false)
    (HE : Hid (S' = S.served.ends T)) :
    Turns 16 #[.pointer (some ⟨b, 0, none⟩), .agg #[.int .i64 (v).k, .int .i64 (v).n, .int .i64 (v).d, .string (v).t, .bool (v).b, .int .i64 (v).f]] b S S' kdP := by
  constructor
  intro w hA
  have hlt := hA.lt
  have hne : ¬ b = w.heap.size := by omega
  have hne' : ¬ w.heap.size = b := by omega
  have hne1 : ¬ b = w.heap.size + 1 := by omega
  have hne1' : ¬ w.heap.size + 1 = b := by omega
  have HT := Lib.hid fun wx => funcs_taken v.k v.n v.d v.t v.b v.f wx hx
  have et : tkV ⟨v.k, v.n, v.d, v.t, v.b, v.f⟩ = tkV v := rfl
  rw [et] at HT
  clear et
  have hxi := tkV_in hx
  generalize tkV v = x at *
  have HMul := Lib.hid fun wx => num_Mul S.hn S.hd x.n x.d wx h1 h2 hxi.n hxi.d
  have hbd := mul_bds S.hn S.hd x.n x.d
  rw [hok] at HMul
  have HTo := Lib.hid fun wx => funcs_told (mul S.hn S.hd x.n x.d).n (mul S.hn S.hd x.n x.d).d false wx (I64.of hbd.1 hbd.2.1) (I64.of (by omega) (by omega))
  generalize (mul S.hn S.hd x.n x.d).n = rn at *
  generalize (mul S.hn S.hd x.n x.d).d = rd at *
  rw [← hT] at HTo
  clear hT
  have a17 : w.cell? ⟨b, 17, none⟩ = some (.bool false) := (hA.cell 17).trans (by rw [← hu]; rfl)
  have a18 : w.cell? ⟨b, 18, none⟩ = some (.bool true) := (hA.cell 18).trans (by rw [← hw]; rfl)
  have a19 : w.cell? ⟨b, 19, none⟩ = some (.int .i64 S.hn) := hA.cell 19
  have a20 : w.cell? ⟨b, 20, none⟩ = some (.int .i64 S.hd) := hA.cell 20
  have fz := hA.free
  have hk : (x.k == 1) = true := by simp [hk1]
  have HFN := Lib.hid hf
  have HA := Lib.hid (((((hA.set 18 (.bool false)).set 19 (.int .i64 0)).set 20 (.int .i64 0) |>.cast (arr' := accArr S.served kdP) (by simp only [AccS.served, accArr, List.setIfInBounds_toArray, List.set_cons_zero, List.set_cons_succ])).alloc (.cells #[.int .i64 v.k, .int .i64 v.n, .int .i64 v.d, .string v.t, .bool v.b, .int .i64 v.f] 33)).alloc (.cells #[.int .i64 S.hn, .int .i64 S.hd] 31))
  clear hA hu hw hx hf hk1 hxi hok hbd h1 h2
  go_enter Tryz.func16, Tryz.ntmps16
  go_wp2_with fail
  refine (HT.out _).mono ?_
  rintro e w1 ⟨rfl, hb⟩
  have A1 := Lib.hid (HA.out.below hb)
  have r0 : w1.cell? ⟨b, 0, none⟩ = some (.int .i64 24) := (A1.out.cell 0).trans (by rw [← HFN.out]; rfl)
  have l1 := A1.out.lt
  have hz1 := hb.size
  simp only [sz_alloc, sz_setCell] at hz1
  obtain ⟨s12, c12_0, c12_1, c12_2, c12_3, c12_4, c12_5, f12⟩ := L6 hb (w.heap.size) (by first | omega | (simp only [sA, sC, sD, sE]; omega) | (simp; done) | (simp; omega)) (by go_simp; exact ⟨rfl, rfl, rfl, rfl, rfl, rfl⟩) (by intro o; go_simp)
  obtain ⟨s13, c13_0, c13_1, f13⟩ := L2 hb (w.heap.size + 1) (by first | omega | (simp only [sA, sC, sD, sE]; omega) | (simp; done) | (simp; omega)) (by go_simp; exact ⟨rfl, rfl⟩) (by intro o; go_simp)
  go_upto_region 5 with (fail)
  first | with_reducible refine wp_rebase ?_ | with_reducible refine wpList_rebase ?_
  intro w1 hb'
  have hb := hb'.out
  clear hb'
  obtain ⟨s14, c14_0, c14_1, c14_2, c14_3, c14_4, c14_5, f14⟩ := L6 hb (w.heap.size) (by first | omega | (simp only [sA, sC, sD, sE]; omega) | (simp; done) | (simp; omega)) (by go_simp; exact ⟨rfl, rfl, rfl, rfl, rfl, rfl⟩) (by intro o; go_simp)
  obtain ⟨s15, c15_0, c15_1, f15⟩ := L2 hb (w.heap.size + 1) (by first | omega | (simp only [sA, sC, sD, sE]; omega) | (simp; done) | (simp; omega)) (by go_simp; exact ⟨rfl, rfl⟩) (by intro o; go_simp)
  clear c12_0 c12_1 c12_2 c12_3 c12_4 c12_5 f12 c13_0 c13_1 f13
  have A2 := Lib.hid (((((((A1.out.set_ne hne (.int .i64 x.k) (o := 0)).set_ne hne (.int .i64 x.n) (o := 1)).set_ne hne (.int .i64 x.d) (o := 2)).set_ne hne (.string x.t) (o := 3)).set_ne hne (.bool x.b) (o := 4)).set_ne hne (.int .i64 x.f) (o := 5)).below hb)
  have r1 : w1.cell? ⟨b, 0, none⟩ = some (.int .i64 24) := (A2.out.cell 0).trans (by rw [← HFN.out]; rfl)
  have l2 := A2.out.lt
  have z16 := Below.size hb
  try simp only [sz_alloc, sz_setCell, sz_drew, sz_drewN] at z16
  go_wp2_with fail
  refine (HMul.out _).mono ?_
  rintro e w2 ⟨rfl, hb⟩
  obtain ⟨s17, c17_0, c17_1, c17_2, c17_3, c17_4, c17_5, f17⟩ := L6 hb (w.heap.size) (by first | omega | (simp only [sA, sC, sD, sE]; omega) | (simp; done) | (simp; omega)) (by go_simp; exact ⟨rfl, rfl, rfl, rfl, rfl, rfl⟩) (by intro o; go_simp)
  clear c14_0 c14_1 c14_2 c14_3 c14_4 c14_5 f14 c15_0 c15_1 f15
  have z18 := Below.size hb
  try simp only [sz_alloc, sz_setCell, sz_drew, sz_drewN] at z18
  have A3 := Lib.hid (A2.out.below hb)
  have l3 := A3.out.lt
  have q1 : ¬ w.heap.size = w2.heap.size := by omega
  have q2 : ¬ w2.heap.size = w.heap.size := by omega
  have q3 : ¬ b = w2.heap.size := by omega
  have q4 : ¬ w2.heap.size = b := by omega
  go_wp2_with fail
  refine (HTo.out _).mono ?_
  rintro e w3 ⟨rfl, hb⟩
  obtain ⟨s19, c19_0, c19_1, c19_2, c19_3, c19_4, c19_5, f19⟩ := L6 hb (w.heap.size) (by first | omega | (simp only [sA, sC, sD, sE]; omega) | (simp; done) | (simp; omega)) (by go_simp; exact ⟨rfl, rfl, rfl, rfl, rfl, rfl⟩) (by intro o; go_simp)
  clear c17_0 c17_1 c17_2 c17_3 c17_4 c17_5 f17
  have z20 := Below.size hb
  try simp only [sz_alloc, sz_setCell, sz_drew, sz_drewN] at z20
  have A4 := Lib.hid ((A3.out.alloc _).below hb)
  have l4 := A4.out.lt
  have A5 := Lib.hid ((((((A4.out.set_ne hne (.int .i64 T.k) (o := 0)).set_ne hne (.int .i64 T.n) (o := 1)).set_ne hne (.int .i64 T.d) (o := 2)).set_ne hne (.string T.t) (o := 3)).set_ne hne (.bool T.b) (o := 4)).set_ne hne (.int .i64 T.f) (o := 5))
  go_wp2_with fail
  refine (acc_end b S.served kdP T _ A5.out).mono ?_
  rintro e w4 ⟨rfl, A7, hb2⟩
  have z21 := But.size hb2
  try simp only [sz_alloc, sz_setCell, sz_drew, sz_drewN] at z21
  go_wp2
  refine bodyPost_ret (results_none rfl _ _ _) rfl ?_
  refine ⟨rfl, by rw [HE.out]; exact A7, ?_⟩
  repeat (first | with_reducible exact But.refl _ _ _ | with_reducible refine But.drewN ?_ _ | with_reducible refine But.drew ?_ | with_reducible refine But.setCell ?_ _ _ | with_reducible refine But.setNew ?_ (by (first | omega | (simp only [sz_alloc, sz_setCell, sz_drew, sz_drewN]; omega) | (simp; done) | (simp; omega))) _ | with_reducible refine But.alloc ?_ (by (first | omega | (simp only [sz_alloc, sz_setCell, sz_drew, sz_drewN]; omega) | (simp; done) | (simp; omega))) _ | with_reducible refine But.thenBelow ?_ ?_ (by with_reducible assumption) | with_reducible refine But.then ?_ ?_ (by with_reducible assumption) | (first | omega | (simp only [sz_alloc, sz_setCell, sz_drew, sz_drewN]; omega) | (simp; done) | (simp; omega)))
end Go.Proofs.YtnimenpfojcehaaGreatDoor
