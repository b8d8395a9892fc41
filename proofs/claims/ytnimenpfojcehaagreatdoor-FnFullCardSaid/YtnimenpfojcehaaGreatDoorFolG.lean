/- Walks of package funcs: a partner is taken. -/
import Derived.Test.YtnimenpfojcehaaGreatDoorFolE
namespace Go.Proofs.YtnimenpfojcehaaGreatDoor
open Go Go.RowKit
set_option linter.unusedSimpArgs false
set_option linter.unusedVariables false

/-- No partner is asked for any longer. -/
def AccS.served (S : AccS) : AccS := { S with wants := false, hn := 0, hd := 0 }
set_option maxHeartbeats 2000000 in
theorem acc_Pair_sumIf (b : Nat) (S S' : AccS) (v : Vl) (hx : v.In) (hu : S.full = false) (hw : S.wants = true) (hf : S.fn = 22) (hf' : (22 : Int) = 24 → ¬ (tkV v).k = 1)
    (HM : Turns 209 #[.agg #[], .pointer (some ⟨b, 0, none⟩), .agg #[.int .i64 ((tkV v)).k, .int .i64 ((tkV v)).n, .int .i64 ((tkV v)).d, .string ((tkV v)).t, .bool ((tkV v)).b, .int .i64 ((tkV v)).f]] b S.served S' kdS) :
    Turns 16 #[.pointer (some ⟨b, 0, none⟩), .agg #[.int .i64 (v).k, .int .i64 (v).n, .int .i64 (v).d, .string (v).t, .bool (v).b, .int .i64 (v).f]] b S S' kdS := by
  constructor
  intro w hA
  have hlt := hA.lt
  have hne : ¬ b = w.heap.size := by omega
  have hne' : ¬ w.heap.size = b := by omega
  have hne1 : ¬ b = w.heap.size + 1 := by omega
  have hne1' : ¬ w.heap.size + 1 = b := by omega
  have HT := Lib.hid fun wx => funcs_taken v.k v.n v.d v.t v.b v.f wx hx
  have et : tkV ⟨v.k, v.n, v.d, v.t, v.b, v.f⟩ = tkV v := rfl
  rw [et] at HT
  clear et
  generalize tkV v = x at *
  have a17 : w.cell? ⟨b, 17, none⟩ = some (.bool false) := (hA.cell 17).trans (by rw [← hu]; rfl)
  have a18 : w.cell? ⟨b, 18, none⟩ = some (.bool true) := (hA.cell 18).trans (by rw [← hw]; rfl)
  have a19 : w.cell? ⟨b, 19, none⟩ = some (.int .i64 S.hn) := hA.cell 19
  have a20 : w.cell? ⟨b, 20, none⟩ = some (.int .i64 S.hd) := hA.cell 20
  have fz := hA.free
  have HA := Lib.hid (((((hA.set 18 (.bool false)).set 19 (.int .i64 0)).set 20 (.int .i64 0) |>.cast (arr' := accArr S.served kdS) (by simp only [AccS.served, accArr, List.setIfInBounds_toArray, List.set_cons_zero, List.set_cons_succ])).alloc (.cells #[.int .i64 v.k, .int .i64 v.n, .int .i64 v.d, .string v.t, .bool v.b, .int .i64 v.f] 33)).alloc (.cells #[.int .i64 S.hn, .int .i64 S.hd] 31))
  have HF := Lib.hid hf
  clear hA hu hw hx hf
  cases hk : (x.k == 1)
  all_goals clear hf'
  all_goals
    go_enter Tryz.func16, Tryz.ntmps16
    go_wp2_with fail
    refine (HT.out _).mono ?_
    rintro e w1 ⟨rfl, hb⟩
    have A1 := Lib.hid (HA.out.below hb)
    have r0 : w1.cell? ⟨b, 0, none⟩ = some (.int .i64 22) := (A1.out.cell 0).trans (by rw [← HF.out]; rfl)
    have r21 : w1.cell? ⟨b, 21, none⟩ = some (.iface 96 (.agg #[])) := A1.out.cell 21
    have l1 := A1.out.lt
    have hz1 := hb.size
    simp only [sz_alloc, sz_setCell] at hz1
    obtain ⟨s1, c1_0, c1_1, c1_2, c1_3, c1_4, c1_5, f1⟩ := L6 hb (w.heap.size) (by first | omega | (simp only [sA, sC, sD, sE]; omega) | (simp; done) | (simp; omega)) (by go_simp; exact ⟨rfl, rfl, rfl, rfl, rfl, rfl⟩) (by intro o; go_simp)
    go_upto_region 10 with (fail)
    have A2 := Lib.hid ((((((A1.out.set_ne hne (.int .i64 x.k) (o := 0)).set_ne hne (.int .i64 x.n) (o := 1)).set_ne hne (.int .i64 x.d) (o := 2)).set_ne hne (.string x.t) (o := 3)).set_ne hne (.bool x.b) (o := 4)).set_ne hne (.int .i64 x.f) (o := 5))
    refine region_below 6 (by kernel_rfl) (by kernel_rfl) ?_
    simp only [List.take_succ_cons, List.take_zero, List.drop_succ_cons, List.drop_zero]
    repeat
      first | (refine q_run ?_ ?_; focus (go_simp; done)) | (refine q_skip ?_ ?_; focus (go_simp; done))
      try (apply Exists.intro; refine ⟨fun w' hw' => ?_, ?_⟩; focus (have hc := (bcell hw'.out).1; unfold Oper.quietAt; go_simp; (try go_ints); (first | rfl)))
      intro K hK
      go_simp
      refine hK _ ?_
      clear hK K
    refine wpQuiet_nil ?_
    intro w1 hb'
    have hb := hb'.out
    clear hb'
    have A3 := A2.out.below hb
    have z2 := Below.size hb
    try simp only [sz_alloc, sz_setCell, sz_drew, sz_drewN] at z2
    go_wp2_with fail
    refine (HM.out _ A3).mono ?_
    rintro e w2 ⟨rfl, A4, hb2⟩
    have z3 := But.size hb2
    try simp only [sz_alloc, sz_setCell, sz_drew, sz_drewN] at z3
    go_wp2
    go_end0
    refine ⟨rfl, A4, ?_⟩
    repeat (first | with_reducible exact But.refl _ _ _ | with_reducible refine But.drewN ?_ _ | with_reducible refine But.drew ?_ | with_reducible refine But.setCell ?_ _ _ | with_reducible refine But.setNew ?_ (by (first | omega | (simp only [sz_alloc, sz_setCell, sz_drew, sz_drewN]; omega) | (simp; done) | (simp; omega))) _ | with_reducible refine But.alloc ?_ (by (first | omega | (simp only [sz_alloc, sz_setCell, sz_drew, sz_drewN]; omega) | (simp; done) | (simp; omega))) _ | with_reducible refine But.thenBelow ?_ ?_ (by with_reducible assumption) | with_reducible refine But.then ?_ ?_ (by with_reducible assumption) | (first | omega | (simp only [sz_alloc, sz_setCell, sz_drew, sz_drewN]; omega) | (simp; done) | (simp; omega)))
set_option maxHeartbeats 2000000 in
theorem acc_Pair_lookup (b : Nat) (S S' : AccS) (v : Vl) (hx : v.In) (hu : S.full = false) (hw : S.wants = true) (hf : S.fn = 23) (hf' : (23 : Int) = 24 → ¬ (tkV v).k = 1)
    (HM : Turns 212 #[.agg #[], .pointer (some ⟨b, 0, none⟩), .agg #[.int .i64 ((tkV v)).k, .int .i64 ((tkV v)).n, .int .i64 ((tkV v)).d, .string ((tkV v)).t, .bool ((tkV v)).b, .int .i64 ((tkV v)).f]] b S.served S' kdL) :
    Turns 16 #[.pointer (some ⟨b, 0, none⟩), .agg #[.int .i64 (v).k, .int .i64 (v).n, .int .i64 (v).d, .string (v).t, .bool (v).b, .int .i64 (v).f]] b S S' kdL := by
  constructor
  intro w hA
  have hlt := hA.lt
  have hne : ¬ b = w.heap.size := by omega
  have hne' : ¬ w.heap.size = b := by omega
  have hne1 : ¬ b = w.heap.size + 1 := by omega
  have hne1' : ¬ w.heap.size + 1 = b := by omega
  have HT := Lib.hid fun wx => funcs_taken v.k v.n v.d v.t v.b v.f wx hx
  have et : tkV ⟨v.k, v.n, v.d, v.t, v.b, v.f⟩ = tkV v := rfl
  rw [et] at HT
  clear et
  generalize tkV v = x at *
  have a17 : w.cell? ⟨b, 17, none⟩ = some (.bool false) := (hA.cell 17).trans (by rw [← hu]; rfl)
  have a18 : w.cell? ⟨b, 18, none⟩ = some (.bool true) := (hA.cell 18).trans (by rw [← hw]; rfl)
  have a19 : w.cell? ⟨b, 19, none⟩ = some (.int .i64 S.hn) := hA.cell 19
  have a20 : w.cell? ⟨b, 20, none⟩ = some (.int .i64 S.hd) := hA.cell 20
  have fz := hA.free
  have HA := Lib.hid (((((hA.set 18 (.bool false)).set 19 (.int .i64 0)).set 20 (.int .i64 0) |>.cast (arr' := accArr S.served kdL) (by simp only [AccS.served, accArr, List.setIfInBounds_toArray, List.set_cons_zero, List.set_cons_succ])).alloc (.cells #[.int .i64 v.k, .int .i64 v.n, .int .i64 v.d, .string v.t, .bool v.b, .int .i64 v.f] 33)).alloc (.cells #[.int .i64 S.hn, .int .i64 S.hd] 31))
  have HF := Lib.hid hf
  clear hA hu hw hx hf
  cases hk : (x.k == 1)
  all_goals clear hf'
  all_goals
    go_enter Tryz.func16, Tryz.ntmps16
    go_wp2_with fail
    refine (HT.out _).mono ?_
    rintro e w1 ⟨rfl, hb⟩
    have A1 := Lib.hid (HA.out.below hb)
    have r0 : w1.cell? ⟨b, 0, none⟩ = some (.int .i64 23) := (A1.out.cell 0).trans (by rw [← HF.out]; rfl)
    have r21 : w1.cell? ⟨b, 21, none⟩ = some (.iface 97 (.agg #[])) := A1.out.cell 21
    have l1 := A1.out.lt
    have hz1 := hb.size
    simp only [sz_alloc, sz_setCell] at hz1
    obtain ⟨s4, c4_0, c4_1, c4_2, c4_3, c4_4, c4_5, f4⟩ := L6 hb (w.heap.size) (by first | omega | (simp only [sA, sC, sD, sE]; omega) | (simp; done) | (simp; omega)) (by go_simp; exact ⟨rfl, rfl, rfl, rfl, rfl, rfl⟩) (by intro o; go_simp)
    go_upto_region 10 with (fail)
    have A2 := Lib.hid ((((((A1.out.set_ne hne (.int .i64 x.k) (o := 0)).set_ne hne (.int .i64 x.n) (o := 1)).set_ne hne (.int .i64 x.d) (o := 2)).set_ne hne (.string x.t) (o := 3)).set_ne hne (.bool x.b) (o := 4)).set_ne hne (.int .i64 x.f) (o := 5))
    refine region_below 6 (by kernel_rfl) (by kernel_rfl) ?_
    simp only [List.take_succ_cons, List.take_zero, List.drop_succ_cons, List.drop_zero]
    repeat
      first | (refine q_run ?_ ?_; focus (go_simp; done)) | (refine q_skip ?_ ?_; focus (go_simp; done))
      try (apply Exists.intro; refine ⟨fun w' hw' => ?_, ?_⟩; focus (have hc := (bcell hw'.out).1; unfold Oper.quietAt; go_simp; (try go_ints); (first | rfl)))
      intro K hK
      go_simp
      refine hK _ ?_
      clear hK K
    refine wpQuiet_nil ?_
    intro w1 hb'
    have hb := hb'.out
    clear hb'
    have A3 := A2.out.below hb
    have z5 := Below.size hb
    try simp only [sz_alloc, sz_setCell, sz_drew, sz_drewN] at z5
    go_wp2_with fail
    refine (HM.out _ A3).mono ?_
    rintro e w2 ⟨rfl, A4, hb2⟩
    have z6 := But.size hb2
    try simp only [sz_alloc, sz_setCell, sz_drew, sz_drewN] at z6
    go_wp2
    go_end0
    refine ⟨rfl, A4, ?_⟩
    repeat (first | with_reducible exact But.refl _ _ _ | with_reducible refine But.drewN ?_ _ | with_reducible refine But.drew ?_ | with_reducible refine But.setCell ?_ _ _ | with_reducible refine But.setNew ?_ (by (first | omega | (simp only [sz_alloc, sz_setCell, sz_drew, sz_drewN]; omega) | (simp; done) | (simp; omega))) _ | with_reducible refine But.alloc ?_ (by (first | omega | (simp only [sz_alloc, sz_setCell, sz_drew, sz_drewN]; omega) | (simp; done) | (simp; omega))) _ | with_reducible refine But.thenBelow ?_ ?_ (by with_reducible assumption) | with_reducible refine But.then ?_ ?_ (by with_reducible assumption) | (first | omega | (simp only [sz_alloc, sz_setCell, sz_drew, sz_drewN]; omega) | (simp; done) | (simp; omega)))
set_option maxHeartbeats 2000000 in
theorem acc_Pair_products (b : Nat) (S S' : AccS) (v : Vl) (hx : v.In) (hu : S.full = false) (hw : S.wants = true) (hf : S.fn = 24) (hf' : (24 : Int) = 24 → ¬ (tkV v).k = 1)
    (HM : Turns 215 #[.agg #[], .pointer (some ⟨b, 0, none⟩), .agg #[.int .i64 ((tkV v)).k, .int .i64 ((tkV v)).n, .int .i64 ((tkV v)).d, .string ((tkV v)).t, .bool ((tkV v)).b, .int .i64 ((tkV v)).f]] b S.served S' kdP) :
    Turns 16 #[.pointer (some ⟨b, 0, none⟩), .agg #[.int .i64 (v).k, .int .i64 (v).n, .int .i64 (v).d, .string (v).t, .bool (v).b, .int .i64 (v).f]] b S S' kdP := by
  constructor
  intro w hA
  have hlt := hA.lt
  have hne : ¬ b = w.heap.size := by omega
  have hne' : ¬ w.heap.size = b := by omega
  have hne1 : ¬ b = w.heap.size + 1 := by omega
  have hne1' : ¬ w.heap.size + 1 = b := by omega
  have HT := Lib.hid fun wx => funcs_taken v.k v.n v.d v.t v.b v.f wx hx
  have et : tkV ⟨v.k, v.n, v.d, v.t, v.b, v.f⟩ = tkV v := rfl
  rw [et] at HT
  clear et
  generalize tkV v = x at *
  have a17 : w.cell? ⟨b, 17, none⟩ = some (.bool false) := (hA.cell 17).trans (by rw [← hu]; rfl)
  have a18 : w.cell? ⟨b, 18, none⟩ = some (.bool true) := (hA.cell 18).trans (by rw [← hw]; rfl)
  have a19 : w.cell? ⟨b, 19, none⟩ = some (.int .i64 S.hn) := hA.cell 19
  have a20 : w.cell? ⟨b, 20, none⟩ = some (.int .i64 S.hd) := hA.cell 20
  have fz := hA.free
  have HA := Lib.hid (((((hA.set 18 (.bool false)).set 19 (.int .i64 0)).set 20 (.int .i64 0) |>.cast (arr' := accArr S.served kdP) (by simp only [AccS.served, accArr, List.setIfInBounds_toArray, List.set_cons_zero, List.set_cons_succ])).alloc (.cells #[.int .i64 v.k, .int .i64 v.n, .int .i64 v.d, .string v.t, .bool v.b, .int .i64 v.f] 33)).alloc (.cells #[.int .i64 S.hn, .int .i64 S.hd] 31))
  have HF := Lib.hid hf
  clear hA hu hw hx hf
  have hk : (x.k == 1) = false := by simpa using hf' rfl
  all_goals clear hf'
  all_goals
    go_enter Tryz.func16, Tryz.ntmps16
    go_wp2_with fail
    refine (HT.out _).mono ?_
    rintro e w1 ⟨rfl, hb⟩
    have A1 := Lib.hid (HA.out.below hb)
    have r0 : w1.cell? ⟨b, 0, none⟩ = some (.int .i64 24) := (A1.out.cell 0).trans (by rw [← HF.out]; rfl)
    have r21 : w1.cell? ⟨b, 21, none⟩ = some (.iface 98 (.agg #[])) := A1.out.cell 21
    have l1 := A1.out.lt
    have hz1 := hb.size
    simp only [sz_alloc, sz_setCell] at hz1
    obtain ⟨s7, c7_0, c7_1, c7_2, c7_3, c7_4, c7_5, f7⟩ := L6 hb (w.heap.size) (by first | omega | (simp only [sA, sC, sD, sE]; omega) | (simp; done) | (simp; omega)) (by go_simp; exact ⟨rfl, rfl, rfl, rfl, rfl, rfl⟩) (by intro o; go_simp)
    go_upto_region 10 with (fail)
    have A2 := Lib.hid ((((((A1.out.set_ne hne (.int .i64 x.k) (o := 0)).set_ne hne (.int .i64 x.n) (o := 1)).set_ne hne (.int .i64 x.d) (o := 2)).set_ne hne (.string x.t) (o := 3)).set_ne hne (.bool x.b) (o := 4)).set_ne hne (.int .i64 x.f) (o := 5))
    refine region_below 6 (by kernel_rfl) (by kernel_rfl) ?_
    simp only [List.take_succ_cons, List.take_zero, List.drop_succ_cons, List.drop_zero]
    repeat
      first | (refine q_run ?_ ?_; focus (go_simp; done)) | (refine q_skip ?_ ?_; focus (go_simp; done))
      try (apply Exists.intro; refine ⟨fun w' hw' => ?_, ?_⟩; focus (have hc := (bcell hw'.out).1; unfold Oper.quietAt; go_simp; (try go_ints); (first | rfl)))
      intro K hK
      go_simp
      refine hK _ ?_
      clear hK K
    refine wpQuiet_nil ?_
    intro w1 hb'
    have hb := hb'.out
    clear hb'
    have A3 := A2.out.below hb
    have z8 := Below.size hb
    try simp only [sz_alloc, sz_setCell, sz_drew, sz_drewN] at z8
    go_wp2_with fail
    refine (HM.out _ A3).mono ?_
    rintro e w2 ⟨rfl, A4, hb2⟩
    have z9 := But.size hb2
    try simp only [sz_alloc, sz_setCell, sz_drew, sz_drewN] at z9
    go_wp2
    go_end0
    refine ⟨rfl, A4, ?_⟩
    repeat (first | with_reducible exact But.refl _ _ _ | with_reducible refine But.drewN ?_ _ | with_reducible refine But.drew ?_ | with_reducible refine But.setCell ?_ _ _ | with_reducible refine But.setNew ?_ (by (first | omega | (simp only [sz_alloc, sz_setCell, sz_drew, sz_drewN]; omega) | (simp; done) | (simp; omega))) _ | with_reducible refine But.alloc ?_ (by (first | omega | (simp only [sz_alloc, sz_setCell, sz_drew, sz_drewN]; omega) | (simp; done) | (simp; omega))) _ | with_reducible refine But.thenBelow ?_ ?_ (by with_reducible assumption) | with_reducible refine But.then ?_ ?_ (by with_reducible assumption) | (first | omega | (simp only [sz_alloc, sz_setCell, sz_drew, sz_drewN]; omega) | (simp; done) | (simp; omega)))
end Go.Proofs.YtnimenpfojcehaaGreatDoor
