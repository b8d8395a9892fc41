/- Walks of package funcs: a fold of numbers takes one, by the map of its ways, at AVERAGE and SUMSQ; the steps of these. -/
import Derived.Test.YtangdbjoflnobaaGreatDoorAccF
import Derived.Test.YtangdbjoflnobaaGreatDoorSumsP
namespace Go.Proofs.YtangdbjoflnobaaGreatDoor
open Go Go.RowKit Go.Maps
set_option linter.unusedSimpArgs false
set_option linter.unusedVariables false

set_option maxRecDepth 100000 in
set_option maxHeartbeats 1000000 in
theorem acc_takes7 (b : Nat) (S S' : AccS) (kd : Value) (n d : Int) (hf : S.fn = 7) (HM : Turns 278 #[.pointer (some ⟨b, 0, none⟩), .agg #[.int .i64 n, .int .i64 d]] b S S' kd) :
    Turns 275 #[.pointer (some ⟨b, 0, none⟩), .agg #[.int .i64 n, .int .i64 d]] b S S' kd := by
  constructor
  intro w hA
  have hlt := hA.lt
  have hne : ¬ b = w.heap.size := by omega
  have hne' : ¬ w.heap.size = b := by omega
  have HA := Lib.hid hA
  have hmm := @run_makeMap Tryz.prog
  have HF := Lib.hid hf
  clear hf
  go_enter Tryz.func275, Tryz.ntmps275
  have hm0 := World.ownsMap_made (w.alloc (.cells #[.int .i64 n, .int .i64 d] 33)) Tryz.prog 3 wayR
  rw [sz_alloc] at hm0
  go_wp2_with fail
  obtain ⟨v0, hr0, hown0, hg0⟩ := World.ownsMap.update hm0 keyI Tryz.underlying283 (by decide) (keyI_of (a := 1) (by decide)) (wayR_mk 276)
  rw [hr0]
  go_wp2_with fail
  obtain ⟨v1, hr1, hown1, hg1⟩ := World.ownsMap.update hown0 keyI Tryz.underlying283 (by decide) (keyI_of (a := 12) (by decide)) (wayR_mk 277)
  rw [hr1]
  go_wp2_with fail
  obtain ⟨v2, hr2, hown2, hg2⟩ := World.ownsMap.update hown1 keyI Tryz.underlying283 (by decide) (keyI_of (a := 7) (by decide)) (wayR_mk 278)
  rw [hr2]
  go_wp2_with fail
  obtain ⟨v3, hr3, hown3, hg3⟩ := World.ownsMap.update hown2 keyI Tryz.underlying283 (by decide) (keyI_of (a := 2) (by decide)) (wayR_mk 279)
  rw [hr3]
  go_wp2_with fail
  obtain ⟨v4, hr4, hown4, hg4⟩ := World.ownsMap.update hown3 keyI Tryz.underlying283 (by decide) (keyI_of (a := 5) (by decide)) (wayR_mk 280)
  rw [hr4]
  go_wp2_with fail
  obtain ⟨v5, hr5, hown5, hg5⟩ := World.ownsMap.update hown4 keyI Tryz.underlying283 (by decide) (keyI_of (a := 6) (by decide)) (wayR_mk 281)
  rw [hr5]
  go_wp2_with fail
  obtain ⟨v6, hr6, hown6, hg6⟩ := World.ownsMap.update hown5 keyI Tryz.underlying283 (by decide) (keyI_of (a := 13) (by decide)) (wayR_mk 282)
  rw [hr6]
  go_wp2_with fail
  have G := grown_trans (grown_trans (grown_trans (grown_trans (grown_trans (grown_trans hg0 hg1) hg2) hg3) hg4) hg5) hg6
  have A6 : Blk v6 b (accArr S kd) 104 := by unfold Blk; rw [G.block b (by simp; omega) (by simp; omega)]; exact (HA.out.alloc _).alloc _
  have N6 : Blk v6 w.heap.size #[.int .i64 n, .int .i64 d] 33 := by unfold Blk; rw [G.block _ (by simp; omega) (by simp)]; exact Blk.alloc (heap_alloc_new _ _) _
  have a0 : v6.cell? ⟨b, 0, none⟩ = some (.int .i64 7) := (A6.cell 0).trans (by rw [← HF.out]; rfl)
  have n0 : v6.cell? ⟨w.heap.size, 0, none⟩ = some (.int .i64 n) := N6.cell 0
  have n1 : v6.cell? ⟨w.heap.size, 1, none⟩ = some (.int .i64 d) := N6.cell 1
  have hl0 := A6.lt
  have hl1 := N6.lt
  have LK := fun (w' : World) (hw : Below v6.heap.size v6 w') => ways_found (K := 7) (m := 278) hown6 hw (by decide) (fun _ => rfl)
  clear hr0 hr1 hr2 hr3 hr4 hr5 hr6 hown0 hown1 hown2 hown3 hown4 hown5 hown6 hg0 hg1 hg2 hg3 hg4 hg5 hg6 hm0 hmm
  have hG := Lib.hid G
  have AA := Lib.hid A6
  clear G A6 N6
  refine region_below 9 (by kernel_rfl) (by kernel_rfl) ?_
  simp only [List.take_succ_cons, List.take_zero, List.drop_succ_cons, List.drop_zero]
  repeat
    first | (refine q_run ?_ ?_; focus (go_simp; done)) | (refine q_skip ?_ ?_; focus (go_simp; done))
    try (apply Exists.intro; refine ⟨fun w' hw' => ?_, ?_⟩; focus (have hc := (bcell hw'.out).1; have hx0 := LK w' hw'.out; unfold Oper.quietAt; go_simp; (try go_ints); (first | rfl)))
    intro K hK
    go_simp
    refine hK _ ?_
    clear hK K
  refine wpQuiet_nil ?_
  intro w1 hb'
  have hb := hb'.out
  clear hb'
  clear LK
  have A1 := AA.out.below hb
  have hs1 := hb.size
  go_wp2_with fail
  refine (HM.out _ A1).mono ?_
  rintro e w2 ⟨rfl, A2, hb2⟩
  go_wp2
  go_end0
  refine ⟨rfl, A2, ?_⟩
  have hs0 := hG.out.size
  simp only [sz_alloc] at hs0
  exact (((((But.refl w.heap.size b w).alloc (Nat.le_refl _) _).alloc (by simp) _).grown hG.out (by omega) (by simp only [sz_alloc]; omega)).thenBelow (by omega) hb).then (by omega) hb2
set_option maxRecDepth 100000 in
set_option maxHeartbeats 1000000 in
theorem acc_takes12 (b : Nat) (S S' : AccS) (kd : Value) (n d : Int) (hf : S.fn = 12) (HM : Turns 277 #[.pointer (some ⟨b, 0, none⟩), .agg #[.int .i64 n, .int .i64 d]] b S S' kd) :
    Turns 275 #[.pointer (some ⟨b, 0, none⟩), .agg #[.int .i64 n, .int .i64 d]] b S S' kd := by
  constructor
  intro w hA
  have hlt := hA.lt
  have hne : ¬ b = w.heap.size := by omega
  have hne' : ¬ w.heap.size = b := by omega
  have HA := Lib.hid hA
  have hmm := @run_makeMap Tryz.prog
  have HF := Lib.hid hf
  clear hf
  go_enter Tryz.func275, Tryz.ntmps275
  have hm0 := World.ownsMap_made (w.alloc (.cells #[.int .i64 n, .int .i64 d] 33)) Tryz.prog 3 wayR
  rw [sz_alloc] at hm0
  go_wp2_with fail
  obtain ⟨v0, hr0, hown0, hg0⟩ := World.ownsMap.update hm0 keyI Tryz.underlying283 (by decide) (keyI_of (a := 1) (by decide)) (wayR_mk 276)
  rw [hr0]
  go_wp2_with fail
  obtain ⟨v1, hr1, hown1, hg1⟩ := World.ownsMap.update hown0 keyI Tryz.underlying283 (by decide) (keyI_of (a := 12) (by decide)) (wayR_mk 277)
  rw [hr1]
  go_wp2_with fail
  obtain ⟨v2, hr2, hown2, hg2⟩ := World.ownsMap.update hown1 keyI Tryz.underlying283 (by decide) (keyI_of (a := 7) (by decide)) (wayR_mk 278)
  rw [hr2]
  go_wp2_with fail
  obtain ⟨v3, hr3, hown3, hg3⟩ := World.ownsMap.update hown2 keyI Tryz.underlying283 (by decide) (keyI_of (a := 2) (by decide)) (wayR_mk 279)
  rw [hr3]
  go_wp2_with fail
  obtain ⟨v4, hr4, hown4, hg4⟩ := World.ownsMap.update hown3 keyI Tryz.underlying283 (by decide) (keyI_of (a := 5) (by decide)) (wayR_mk 280)
  rw [hr4]
  go_wp2_with fail
  obtain ⟨v5, hr5, hown5, hg5⟩ := World.ownsMap.update hown4 keyI Tryz.underlying283 (by decide) (keyI_of (a := 6) (by decide)) (wayR_mk 281)
  rw [hr5]
  go_wp2_with fail
  obtain ⟨v6, hr6, hown6, hg6⟩ := World.ownsMap.update hown5 keyI Tryz.underlying283 (by decide) (keyI_of (a := 13) (by decide)) (wayR_mk 282)
  rw [hr6]
  go_wp2_with fail
  have G := grown_trans (grown_trans (grown_trans (grown_trans (grown_trans (grown_trans hg0 hg1) hg2) hg3) hg4) hg5) hg6
  have A6 : Blk v6 b (accArr S kd) 104 := by unfold Blk; rw [G.block b (by simp; omega) (by simp; omega)]; exact (HA.out.alloc _).alloc _
  have N6 : Blk v6 w.heap.size #[.int .i64 n, .int .i64 d] 33 := by unfold Blk; rw [G.block _ (by simp; omega) (by simp)]; exact Blk.alloc (heap_alloc_new _ _) _
  have a0 : v6.cell? ⟨b, 0, none⟩ = some (.int .i64 12) := (A6.cell 0).trans (by rw [← HF.out]; rfl)
  have n0 : v6.cell? ⟨w.heap.size, 0, none⟩ = some (.int .i64 n) := N6.cell 0
  have n1 : v6.cell? ⟨w.heap.size, 1, none⟩ = some (.int .i64 d) := N6.cell 1
  have hl0 := A6.lt
  have hl1 := N6.lt
  have LK := fun (w' : World) (hw : Below v6.heap.size v6 w') => ways_found (K := 12) (m := 277) hown6 hw (by decide) (fun _ => rfl)
  clear hr0 hr1 hr2 hr3 hr4 hr5 hr6 hown0 hown1 hown2 hown3 hown4 hown5 hown6 hg0 hg1 hg2 hg3 hg4 hg5 hg6 hm0 hmm
  have hG := Lib.hid G
  have AA := Lib.hid A6
  clear G A6 N6
  refine region_below 9 (by kernel_rfl) (by kernel_rfl) ?_
  simp only [List.take_succ_cons, List.take_zero, List.drop_succ_cons, List.drop_zero]
  repeat
    first | (refine q_run ?_ ?_; focus (go_simp; done)) | (refine q_skip ?_ ?_; focus (go_simp; done))
    try (apply Exists.intro; refine ⟨fun w' hw' => ?_, ?_⟩; focus (have hc := (bcell hw'.out).1; have hx0 := LK w' hw'.out; unfold Oper.quietAt; go_simp; (try go_ints); (first | rfl)))
    intro K hK
    go_simp
    refine hK _ ?_
    clear hK K
  refine wpQuiet_nil ?_
  intro w1 hb'
  have hb := hb'.out
  clear hb'
  clear LK
  have A1 := AA.out.below hb
  have hs1 := hb.size
  go_wp2_with fail
  refine (HM.out _ A1).mono ?_
  rintro e w2 ⟨rfl, A2, hb2⟩
  go_wp2
  go_end0
  refine ⟨rfl, A2, ?_⟩
  have hs0 := hG.out.size
  simp only [sz_alloc] at hs0
  exact (((((But.refl w.heap.size b w).alloc (Nat.le_refl _) _).alloc (by simp) _).grown hG.out (by omega) (by simp only [sz_alloc]; omega)).thenBelow (by omega) hb).then (by omega) hb2

set_option maxHeartbeats 2000000 in
theorem acc_addsOne (b : Nat) (S : AccS) (kd : Value) (n d : Int) (h1 : I64 S.n) (h2 : I64 S.d) (h3 : I64 n) (h4 : I64 d) (hc0 : 0 ≤ S.count) (hc1 : S.count ≤ 1000000) :
    Turns 278 #[.pointer (some ⟨b, 0, none⟩), .agg #[.int .i64 n, .int .i64 d]] b S (S.one (add S.n S.d n d)) kd := by
  constructor
  intro w hA
  have hlt := hA.lt
  have hne : ¬ b = w.heap.size := by omega
  have hne' : ¬ w.heap.size = b := by omega
  have HADD := Lib.hid fun wx => num_Add S.n S.d n d wx h1 h2 h3 h4
  generalize add S.n S.d n d = R at *
  obtain ⟨rn, rd, ok⟩ := R
  have a1 : w.cell? ⟨b, 2, none⟩ = some (.int .i64 S.n) := hA.cell 2
  have a2 : w.cell? ⟨b, 3, none⟩ = some (.int .i64 S.d) := hA.cell 3
  have fz := hA.free
  have HA := Lib.hid (hA.alloc (.cells #[.int .i64 n, .int .i64 d] 33))
  cases ok
  · have HS : Hid (S.one ⟨rn, rd, false⟩ = { S with full := true, v := faultF 4 }) := rfl
    generalize S.one ⟨rn, rd, false⟩ = S' at *
    go_enter Tryz.func278, Tryz.ntmps278
    go_wp2_with fail
    refine region_below 10 (by kernel_rfl) (by kernel_rfl) ?_
    simp only [List.take_succ_cons, List.take_zero, List.drop_succ_cons, List.drop_zero]
    repeat
      first | (refine q_run ?_ ?_; focus (go_simp; done)) | (refine q_skip ?_ ?_; focus (go_simp; done))
      try (apply Exists.intro; refine ⟨fun w' hw' => ?_, ?_⟩; focus (have hc := (bcell hw'.out).1; unfold Oper.quietAt; go_simp; (try go_ints); (first | rfl | (go_at_call 79; refine (HADD.out _).mono ?_; rintro e w2 ⟨rfl, hb⟩; exact ⟨rfl, hw'.chain hb⟩))))
      intro K hK
      go_simp
      refine hK _ ?_
      clear hK K
    refine wpQuiet_nil ?_
    intro w1 hb'
    have hb := hb'.out
    clear hb'
    have A1 := HA.out.below hb
    have z3 := Below.size hb
    try simp only [sz_alloc, sz_setCell, sz_drew, sz_drewN] at z3
    go_wp2_with fail
    refine (acc_sets b S kd _ _ _ _ A1).mono ?_
    rintro e w2 ⟨rfl, A2, hb2⟩
    have z4 := But.size hb2
    try simp only [sz_alloc, sz_setCell, sz_drew, sz_drewN] at z4
    go_wp2
    go_end0
    refine ⟨rfl, by rw [HS.out]; exact A2, ?_⟩
    repeat (first | with_reducible exact But.refl _ _ _ | with_reducible refine But.drewN ?_ _ | with_reducible refine But.drew ?_ | with_reducible refine But.setCell ?_ _ _ | with_reducible refine But.setNew ?_ (by (first | omega | (simp only [sz_alloc, sz_setCell, sz_drew, sz_drewN]; omega) | (simp; done) | (simp; omega))) _ | with_reducible refine But.alloc ?_ (by (first | omega | (simp only [sz_alloc, sz_setCell, sz_drew, sz_drewN]; omega) | (simp; done) | (simp; omega))) _ | with_reducible refine But.thenBelow ?_ ?_ (by with_reducible assumption) | with_reducible refine But.then ?_ ?_ (by with_reducible assumption) | (first | omega | (simp only [sz_alloc, sz_setCell, sz_drew, sz_drewN]; omega) | (simp; done) | (simp; omega)))
  · have HS : Hid (S.one ⟨rn, rd, true⟩ = { S with n := rn, d := rd, count := S.count + 1 }) := rfl
    generalize S.one ⟨rn, rd, true⟩ = S' at *
    go_enter Tryz.func278, Tryz.ntmps278
    go_wp2_with fail
    refine region_below 10 (by kernel_rfl) (by kernel_rfl) ?_
    simp only [List.take_succ_cons, List.take_zero, List.drop_succ_cons, List.drop_zero]
    repeat
      first | (refine q_run ?_ ?_; focus (go_simp; done)) | (refine q_skip ?_ ?_; focus (go_simp; done))
      try (apply Exists.intro; refine ⟨fun w' hw' => ?_, ?_⟩; focus (have hc := (bcell hw'.out).1; unfold Oper.quietAt; go_simp; (try go_ints); (first | rfl | (go_at_call 79; refine (HADD.out _).mono ?_; rintro e w2 ⟨rfl, hb⟩; exact ⟨rfl, hw'.chain hb⟩))))
      intro K hK
      go_simp
      refine hK _ ?_
      clear hK K
    refine wpQuiet_nil ?_
    intro w1 hb'
    have hb := hb'.out
    clear hb'
    have A1 := HA.out.below hb
    have z5 := Below.size hb
    try simp only [sz_alloc, sz_setCell, sz_drew, sz_drewN] at z5
    go_wp2_with fail
    refine (acc_sets b S kd _ _ _ _ A1).mono ?_
    rintro e w2 ⟨rfl, A2, hb2⟩
    have z6 := But.size hb2
    try simp only [sz_alloc, sz_setCell, sz_drew, sz_drewN] at z6
    simp only [if_true] at A2
    clear fz
    have fz2 := A2.free
    have hl2 := A2.lt
    have q1 : w2.cell? ⟨b, 1, none⟩ = some (.int .i64 S.count) := A2.cell 1
    have hw := w64 (x := S.count + 1) (by omega) (by omega)
    go_wp2
    go_end0
    refine ⟨rfl, by rw [HS.out]; exact (A2.set 1 _).cast (by simp only [accArr, List.setIfInBounds_toArray, List.set_cons_zero, List.set_cons_succ]), ?_⟩
    repeat (first | with_reducible exact But.refl _ _ _ | with_reducible refine But.drewN ?_ _ | with_reducible refine But.drew ?_ | with_reducible refine But.setCell ?_ _ _ | with_reducible refine But.setNew ?_ (by (first | omega | (simp only [sz_alloc, sz_setCell, sz_drew, sz_drewN]; omega) | (simp; done) | (simp; omega))) _ | with_reducible refine But.alloc ?_ (by (first | omega | (simp only [sz_alloc, sz_setCell, sz_drew, sz_drewN]; omega) | (simp; done) | (simp; omega))) _ | with_reducible refine But.thenBelow ?_ ?_ (by with_reducible assumption) | with_reducible refine But.then ?_ ?_ (by with_reducible assumption) | (first | omega | (simp only [sz_alloc, sz_setCell, sz_drew, sz_drewN]; omega) | (simp; done) | (simp; omega)))

def AccS.square (S : AccS) (r : NmB) : AccS := if r.ok then S.sets (add S.n S.d r.n r.d) else { S with full := true, v := faultF 4 }
end Go.Proofs.YtangdbjoflnobaaGreatDoor
