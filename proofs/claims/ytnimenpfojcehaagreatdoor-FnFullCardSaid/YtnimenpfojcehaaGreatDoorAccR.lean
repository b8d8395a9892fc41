/- Plain laws: sums, one behind the other; what a fold holds behind a row of numbers, step by step; no program in sight. Walks of package funcs: a fold of numbers takes one, by the map of its ways, at AVERAGE and SUMSQ; the steps of these. Walks of package funcs: COUNT and COUNTA take a cell; what COUNT, COUNTA, AVERAGE come to; a fold that has ended. -/
import Derived.Test.YtnimenpfojcehaaGreatDoorAccQ
import Derived.Test.YtnimenpfojcehaaGreatDoorBase
import Derived.Deep.QuietTactic
import Derived.BigQuiet
namespace Go.Proofs.YtnimenpfojcehaaGreatDoor
open Go Go.RowKit
set_option linter.unusedSimpArgs false
set_option linter.unusedVariables false

theorem mk_whole {c : Int} (h0 : 0 ≤ c) (h1 : c ≤ 1000000000000) : mk c 1 = ⟨c, 1, true⟩ := by
  unfold mk signed
  rw [if_neg (by decide)]
  have e : Nat.gcd c.natAbs (1 : Int).natAbs = 1 := by simp
  rw [e, Nat.div_one, Nat.div_one, if_neg (by omega)]
  have e2 : (decide (c < 0) != decide ((1 : Int) < 0)) = false := by
    have : ¬ c < 0 := by omega
    simp [this]
  rw [e2]
  have e3 : (c.natAbs : Int) = c := by omega
  simp [e3]
/-- A fold's steps, by what it is. -/
def AccS.one (S : AccS) (r : NmB) : AccS := if r.ok then { S with n := r.n, d := r.d, count := S.count + 1 } else { S with full := true, v := faultF 4 }
end Go.Proofs.YtnimenpfojcehaaGreatDoor
namespace Go.Proofs.YtnimenpfojcehaaGreatDoor
open Go Go.RowKit Go.Maps
set_option linter.unusedSimpArgs false
set_option linter.unusedVariables false

set_option maxRecDepth 100000 in
set_option maxHeartbeats 1000000 in
theorem acc_takes7 (b : Nat) (S S' : AccS) (kd : Value) (n d : Int) (hf : S.fn = 7) (HM : Turns 185 #[.pointer (some ⟨b, 0, none⟩), .agg #[.int .i64 n, .int .i64 d]] b S S' kd) :
    Turns 182 #[.pointer (some ⟨b, 0, none⟩), .agg #[.int .i64 n, .int .i64 d]] b S S' kd := by
  constructor
  intro w hA
  have hlt := hA.lt
  have hne : ¬ b = w.heap.size := by omega
  have hne' : ¬ w.heap.size = b := by omega
  have HA := Lib.hid hA
  have hmm := @run_makeMap Tryz.prog
  have HF := Lib.hid hf
  clear hf
  go_enter Tryz.func182, Tryz.ntmps182
  have hm0 := World.ownsMap_made (w.alloc (.cells #[.int .i64 n, .int .i64 d] 31)) Tryz.prog 3 wayR
  rw [sz_alloc] at hm0
  go_wp2_with fail
  obtain ⟨v0, hr0, hown0, hg0⟩ := World.ownsMap.update hm0 keyI Tryz.underlying248 (by decide) (keyI_of (a := 1) (by decide)) (wayR_mk 183)
  rw [hr0]
  go_wp2_with fail
  obtain ⟨v1, hr1, hown1, hg1⟩ := World.ownsMap.update hown0 keyI Tryz.underlying248 (by decide) (keyI_of (a := 12) (by decide)) (wayR_mk 184)
  rw [hr1]
  go_wp2_with fail
  obtain ⟨v2, hr2, hown2, hg2⟩ := World.ownsMap.update hown1 keyI Tryz.underlying248 (by decide) (keyI_of (a := 7) (by decide)) (wayR_mk 185)
  rw [hr2]
  go_wp2_with fail
  obtain ⟨v3, hr3, hown3, hg3⟩ := World.ownsMap.update hown2 keyI Tryz.underlying248 (by decide) (keyI_of (a := 2) (by decide)) (wayR_mk 186)
  rw [hr3]
  go_wp2_with fail
  obtain ⟨v4, hr4, hown4, hg4⟩ := World.ownsMap.update hown3 keyI Tryz.underlying248 (by decide) (keyI_of (a := 5) (by decide)) (wayR_mk 187)
  rw [hr4]
  go_wp2_with fail
  obtain ⟨v5, hr5, hown5, hg5⟩ := World.ownsMap.update hown4 keyI Tryz.underlying248 (by decide) (keyI_of (a := 6) (by decide)) (wayR_mk 188)
  rw [hr5]
  go_wp2_with fail
  obtain ⟨v6, hr6, hown6, hg6⟩ := World.ownsMap.update hown5 keyI Tryz.underlying248 (by decide) (keyI_of (a := 13) (by decide)) (wayR_mk 189)
  rw [hr6]
  go_wp2_with fail
  have G := grown_trans (grown_trans (grown_trans (grown_trans (grown_trans (grown_trans hg0 hg1) hg2) hg3) hg4) hg5) hg6
  have A6 : Blk v6 b (accArr S kd) 57 := by unfold Blk; rw [G.block b (by simp; omega) (by simp; omega)]; exact (HA.out.alloc _).alloc _
  have N6 : Blk v6 w.heap.size #[.int .i64 n, .int .i64 d] 31 := by unfold Blk; rw [G.block _ (by simp; omega) (by simp)]; exact Blk.alloc (heap_alloc_new _ _) _
  have a0 : v6.cell? ⟨b, 0, none⟩ = some (.int .i64 7) := (A6.cell 0).trans (by rw [← HF.out]; rfl)
  have n0 : v6.cell? ⟨w.heap.size, 0, none⟩ = some (.int .i64 n) := N6.cell 0
  have n1 : v6.cell? ⟨w.heap.size, 1, none⟩ = some (.int .i64 d) := N6.cell 1
  have hl0 := A6.lt
  have hl1 := N6.lt
  have LK := fun (w' : World) (hw : Below v6.heap.size v6 w') => ways_found (K := 7) (m := 185) hown6 hw (by decide) (fun _ => rfl)
  clear hr0 hr1 hr2 hr3 hr4 hr5 hr6 hown0 hown1 hown2 hown3 hown4 hown5 hown6 hg0 hg1 hg2 hg3 hg4 hg5 hg6 hm0 hmm
  have hG := Lib.hid G
  have AA := Lib.hid A6
  clear G A6 N6
  refine region_below 9 (by kernel_rfl) (by kernel_rfl) ?_
  simp only [List.take_succ_cons, List.take_zero, List.drop_succ_cons, List.drop_zero]
  repeat
    first | (refine q_run ?_ ?_; focus (go_simp; done)) | (refine q_skip ?_ ?_; focus (go_simp; done))
    try (apply Exists.intro; refine ⟨fun w' hw' => ?_, ?_⟩; focus (have hc := (bcell hw'.out).1; have hx0 := LK w' hw'.out; unfold Oper.quietAt; go_simp; (try go_ints); (first | rfl)))
    intro K hK
    go_simp
    refine hK _ ?_
    clear hK K
  refine wpQuiet_nil ?_
  intro w1 hb'
  have hb := hb'.out
  clear hb'
  clear LK
  have A1 := AA.out.below hb
  have hs1 := hb.size
  go_wp2_with fail
  refine (HM.out _ A1).mono ?_
  rintro e w2 ⟨rfl, A2, hb2⟩
  go_wp2
  go_end0
  refine ⟨rfl, A2, ?_⟩
  have hs0 := hG.out.size
  simp only [sz_alloc] at hs0
  exact (((((But.refl w.heap.size b w).alloc (Nat.le_refl _) _).alloc (by simp) _).grown hG.out (by omega) (by simp only [sz_alloc]; omega)).thenBelow (by omega) hb).then (by omega) hb2
set_option maxRecDepth 100000 in
set_option maxHeartbeats 1000000 in
theorem acc_takes12 (b : Nat) (S S' : AccS) (kd : Value) (n d : Int) (hf : S.fn = 12) (HM : Turns 184 #[.pointer (some ⟨b, 0, none⟩), .agg #[.int .i64 n, .int .i64 d]] b S S' kd) :
    Turns 182 #[.pointer (some ⟨b, 0, none⟩), .agg #[.int .i64 n, .int .i64 d]] b S S' kd := by
  constructor
  intro w hA
  have hlt := hA.lt
  have hne : ¬ b = w.heap.size := by omega
  have hne' : ¬ w.heap.size = b := by omega
  have HA := Lib.hid hA
  have hmm := @run_makeMap Tryz.prog
  have HF := Lib.hid hf
  clear hf
  go_enter Tryz.func182, Tryz.ntmps182
  have hm0 := World.ownsMap_made (w.alloc (.cells #[.int .i64 n, .int .i64 d] 31)) Tryz.prog 3 wayR
  rw [sz_alloc] at hm0
  go_wp2_with fail
  obtain ⟨v0, hr0, hown0, hg0⟩ := World.ownsMap.update hm0 keyI Tryz.underlying248 (by decide) (keyI_of (a := 1) (by decide)) (wayR_mk 183)
  rw [hr0]
  go_wp2_with fail
  obtain ⟨v1, hr1, hown1, hg1⟩ := World.ownsMap.update hown0 keyI Tryz.underlying248 (by decide) (keyI_of (a := 12) (by decide)) (wayR_mk 184)
  rw [hr1]
  go_wp2_with fail
  obtain ⟨v2, hr2, hown2, hg2⟩ := World.ownsMap.update hown1 keyI Tryz.underlying248 (by decide) (keyI_of (a := 7) (by decide)) (wayR_mk 185)
  rw [hr2]
  go_wp2_with fail
  obtain ⟨v3, hr3, hown3, hg3⟩ := World.ownsMap.update hown2 keyI Tryz.underlying248 (by decide) (keyI_of (a := 2) (by decide)) (wayR_mk 186)
  rw [hr3]
  go_wp2_with fail
  obtain ⟨v4, hr4, hown4, hg4⟩ := World.ownsMap.update hown3 keyI Tryz.underlying248 (by decide) (keyI_of (a := 5) (by decide)) (wayR_mk 187)
  rw [hr4]
  go_wp2_with fail
  obtain ⟨v5, hr5, hown5, hg5⟩ := World.ownsMap.update hown4 keyI Tryz.underlying248 (by decide) (keyI_of (a := 6) (by decide)) (wayR_mk 188)
  rw [hr5]
  go_wp2_with fail
  obtain ⟨v6, hr6, hown6, hg6⟩ := World.ownsMap.update hown5 keyI Tryz.underlying248 (by decide) (keyI_of (a := 13) (by decide)) (wayR_mk 189)
  rw [hr6]
  go_wp2_with fail
  have G := grown_trans (grown_trans (grown_trans (grown_trans (grown_trans (grown_trans hg0 hg1) hg2) hg3) hg4) hg5) hg6
  have A6 : Blk v6 b (accArr S kd) 57 := by unfold Blk; rw [G.block b (by simp; omega) (by simp; omega)]; exact (HA.out.alloc _).alloc _
  have N6 : Blk v6 w.heap.size #[.int .i64 n, .int .i64 d] 31 := by unfold Blk; rw [G.block _ (by simp; omega) (by simp)]; exact Blk.alloc (heap_alloc_new _ _) _
  have a0 : v6.cell? ⟨b, 0, none⟩ = some (.int .i64 12) := (A6.cell 0).trans (by rw [← HF.out]; rfl)
  have n0 : v6.cell? ⟨w.heap.size, 0, none⟩ = some (.int .i64 n) := N6.cell 0
  have n1 : v6.cell? ⟨w.heap.size, 1, none⟩ = some (.int .i64 d) := N6.cell 1
  have hl0 := A6.lt
  have hl1 := N6.lt
  have LK := fun (w' : World) (hw : Below v6.heap.size v6 w') => ways_found (K := 12) (m := 184) hown6 hw (by decide) (fun _ => rfl)
  clear hr0 hr1 hr2 hr3 hr4 hr5 hr6 hown0 hown1 hown2 hown3 hown4 hown5 hown6 hg0 hg1 hg2 hg3 hg4 hg5 hg6 hm0 hmm
  have hG := Lib.hid G
  have AA := Lib.hid A6
  clear G A6 N6
  refine region_below 9 (by kernel_rfl) (by kernel_rfl) ?_
  simp only [List.take_succ_cons, List.take_zero, List.drop_succ_cons, List.drop_zero]
  repeat
    first | (refine q_run ?_ ?_; focus (go_simp; done)) | (refine q_skip ?_ ?_; focus (go_simp; done))
    try (apply Exists.intro; refine ⟨fun w' hw' => ?_, ?_⟩; focus (have hc := (bcell hw'.out).1; have hx0 := LK w' hw'.out; unfold Oper.quietAt; go_simp; (try go_ints); (first | rfl)))
    intro K hK
    go_simp
    refine hK _ ?_
    clear hK K
  refine wpQuiet_nil ?_
  intro w1 hb'
  have hb := hb'.out
  clear hb'
  clear LK
  have A1 := AA.out.below hb
  have hs1 := hb.size
  go_wp2_with fail
  refine (HM.out _ A1).mono ?_
  rintro e w2 ⟨rfl, A2, hb2⟩
  go_wp2
  go_end0
  refine ⟨rfl, A2, ?_⟩
  have hs0 := hG.out.size
  simp only [sz_alloc] at hs0
  exact (((((But.refl w.heap.size b w).alloc (Nat.le_refl _) _).alloc (by simp) _).grown hG.out (by omega) (by simp only [sz_alloc]; omega)).thenBelow (by omega) hb).then (by omega) hb2

set_option maxHeartbeats 2000000 in
theorem acc_addsOne (b : Nat) (S : AccS) (kd : Value) (n d : Int) (h1 : I64 S.n) (h2 : I64 S.d) (h3 : I64 n) (h4 : I64 d) (hc0 : 0 ≤ S.count) (hc1 : S.count ≤ 9000000000000000000) :
    Turns 185 #[.pointer (some ⟨b, 0, none⟩), .agg #[.int .i64 n, .int .i64 d]] b S (S.one (add S.n S.d n d)) kd := by
  constructor
  intro w hA
  have hlt := hA.lt
  have hne : ¬ b = w.heap.size := by omega
  have hne' : ¬ w.heap.size = b := by omega
  have HADD := Lib.hid fun wx => num_Add S.n S.d n d wx h1 h2 h3 h4
  generalize add S.n S.d n d = R at *
  obtain ⟨rn, rd, ok⟩ := R
  have a1 : w.cell? ⟨b, 2, none⟩ = some (.int .i64 S.n) := hA.cell 2
  have a2 : w.cell? ⟨b, 3, none⟩ = some (.int .i64 S.d) := hA.cell 3
  have fz := hA.free
  have HA := Lib.hid (hA.alloc (.cells #[.int .i64 n, .int .i64 d] 31))
  cases ok
  · have HS : Hid (S.one ⟨rn, rd, false⟩ = { S with full := true, v := faultF 4 }) := rfl
    generalize S.one ⟨rn, rd, false⟩ = S' at *
    go_enter Tryz.func185, Tryz.ntmps185
    go_wp2_with fail
    refine region_below 10 (by kernel_rfl) (by kernel_rfl) ?_
    simp only [List.take_succ_cons, List.take_zero, List.drop_succ_cons, List.drop_zero]
    repeat
      first | (refine q_run ?_ ?_; focus (go_simp; done)) | (refine q_skip ?_ ?_; focus (go_simp; done))
      try (apply Exists.intro; refine ⟨fun w' hw' => ?_, ?_⟩; focus (have hc := (bcell hw'.out).1; unfold Oper.quietAt; go_simp; (try go_ints); (first | rfl | (go_at_call 82; refine (HADD.out _).mono ?_; rintro e w2 ⟨rfl, hb⟩; exact ⟨rfl, hw'.chain hb⟩))))
      intro K hK
      go_simp
      refine hK _ ?_
      clear hK K
    refine wpQuiet_nil ?_
    intro w1 hb'
    have hb := hb'.out
    clear hb'
    have A1 := HA.out.below hb
    have z3 := Below.size hb
    try simp only [sz_alloc, sz_setCell, sz_drew, sz_drewN] at z3
    go_wp2_with fail
    refine (acc_sets b S kd _ _ _ _ A1).mono ?_
    rintro e w2 ⟨rfl, A2, hb2⟩
    have z4 := But.size hb2
    try simp only [sz_alloc, sz_setCell, sz_drew, sz_drewN] at z4
    go_wp2
    go_end0
    refine ⟨rfl, by rw [HS.out]; exact A2, ?_⟩
    repeat (first | with_reducible exact But.refl _ _ _ | with_reducible refine But.drewN ?_ _ | with_reducible refine But.drew ?_ | with_reducible refine But.setCell ?_ _ _ | with_reducible refine But.setNew ?_ (by (first | omega | (simp only [sz_alloc, sz_setCell, sz_drew, sz_drewN]; omega) | (simp; done) | (simp; omega))) _ | with_reducible refine But.alloc ?_ (by (first | omega | (simp only [sz_alloc, sz_setCell, sz_drew, sz_drewN]; omega) | (simp; done) | (simp; omega))) _ | with_reducible refine But.thenBelow ?_ ?_ (by with_reducible assumption) | with_reducible refine But.then ?_ ?_ (by with_reducible assumption) | (first | omega | (simp only [sz_alloc, sz_setCell, sz_drew, sz_drewN]; omega) | (simp; done) | (simp; omega)))
  · have HS : Hid (S.one ⟨rn, rd, true⟩ = { S with n := rn, d := rd, count := S.count + 1 }) := rfl
    generalize S.one ⟨rn, rd, true⟩ = S' at *
    go_enter Tryz.func185, Tryz.ntmps185
    go_wp2_with fail
    refine region_below 10 (by kernel_rfl) (by kernel_rfl) ?_
    simp only [List.take_succ_cons, List.take_zero, List.drop_succ_cons, List.drop_zero]
    repeat
      first | (refine q_run ?_ ?_; focus (go_simp; done)) | (refine q_skip ?_ ?_; focus (go_simp; done))
      try (apply Exists.intro; refine ⟨fun w' hw' => ?_, ?_⟩; focus (have hc := (bcell hw'.out).1; unfold Oper.quietAt; go_simp; (try go_ints); (first | rfl | (go_at_call 82; refine (HADD.out _).mono ?_; rintro e w2 ⟨rfl, hb⟩; exact ⟨rfl, hw'.chain hb⟩))))
      intro K hK
      go_simp
      refine hK _ ?_
      clear hK K
    refine wpQuiet_nil ?_
    intro w1 hb'
    have hb := hb'.out
    clear hb'
    have A1 := HA.out.below hb
    have z5 := Below.size hb
    try simp only [sz_alloc, sz_setCell, sz_drew, sz_drewN] at z5
    go_wp2_with fail
    refine (acc_sets b S kd _ _ _ _ A1).mono ?_
    rintro e w2 ⟨rfl, A2, hb2⟩
    have z6 := But.size hb2
    try simp only [sz_alloc, sz_setCell, sz_drew, sz_drewN] at z6
    simp only [if_true] at A2
    clear fz
    have fz2 := A2.free
    have hl2 := A2.lt
    have q1 : w2.cell? ⟨b, 1, none⟩ = some (.int .i64 S.count) := A2.cell 1
    have hw := w64 (x := S.count + 1) (by omega) (by omega)
    go_wp2
    go_end0
    refine ⟨rfl, by rw [HS.out]; exact (A2.set 1 _).cast (by simp only [accArr, List.setIfInBounds_toArray, List.set_cons_zero, List.set_cons_succ]), ?_⟩
    repeat (first | with_reducible exact But.refl _ _ _ | with_reducible refine But.drewN ?_ _ | with_reducible refine But.drew ?_ | with_reducible refine But.setCell ?_ _ _ | with_reducible refine But.setNew ?_ (by (first | omega | (simp only [sz_alloc, sz_setCell, sz_drew, sz_drewN]; omega) | (simp; done) | (simp; omega))) _ | with_reducible refine But.alloc ?_ (by (first | omega | (simp only [sz_alloc, sz_setCell, sz_drew, sz_drewN]; omega) | (simp; done) | (simp; omega))) _ | with_reducible refine But.thenBelow ?_ ?_ (by with_reducible assumption) | with_reducible refine But.then ?_ ?_ (by with_reducible assumption) | (first | omega | (simp only [sz_alloc, sz_setCell, sz_drew, sz_drewN]; omega) | (simp; done) | (simp; omega)))

def AccS.square (S : AccS) (r : NmB) : AccS := if r.ok then S.sets (add S.n S.d r.n r.d) else { S with full := true, v := faultF 4 }
end Go.Proofs.YtnimenpfojcehaaGreatDoor
namespace Go.Proofs.YtnimenpfojcehaaGreatDoor
open Go Go.RowKit
set_option linter.unusedSimpArgs false
set_option linter.unusedVariables false

def kdC : Value := .iface 90 (.agg #[])
set_option maxHeartbeats 1000000 in
theorem funcs_kinds3 (w : World) :
    Calls Tryz.prog 23 #[.int .i64 3] w fun e w' => e = .returned (.iface 90 (.agg #[])) ∧ w = w' := by
  go_enter Tryz.func23, Tryz.ntmps23
  go_wp2
  go_ret
  exact ⟨rfl, rfl⟩
set_option maxHeartbeats 1000000 in
theorem funcs_Open3 (w : World) :
    Calls Tryz.prog 9 #[.int .i64 3] w fun e w' => e = .returned (.tuple #[.pointer (some ⟨w.heap.size, 0, none⟩), .int .i64 0]) ∧ Blk w' w.heap.size (accArr (acc0 3 0) kdC) 57 ∧ Below w.heap.size w w' := by
  go_enter Tryz.func9, Tryz.ntmps9
  go_wp2_with fail
  refine (funcs_kinds3 _).mono ?_
  rintro e w1 ⟨rfl, rfl⟩
  go_wp2
  go_ret2
  refine ⟨rfl, heap_alloc_new _ _, ?_⟩
  focus
    repeat with_reducible first | exact Below.refl _ _ | refine below_drewN ?_ _ | refine Below.drew ?_ | refine Below.setCell ?_ ?_ _ | refine Below.alloc ?_ ?_ _ | refine below_then ?_ ?_ (by with_reducible assumption)
    all_goals first | omega | (simp only [sA, sC, sD, sE]; omega) | (simp; done) | (simp; omega)
set_option maxHeartbeats 1000000 in
theorem funcs_kinds4 (w : World) :
    Calls Tryz.prog 23 #[.int .i64 4] w fun e w' => e = .returned (.iface 90 (.agg #[])) ∧ w = w' := by
  go_enter Tryz.func23, Tryz.ntmps23
  go_wp2
  go_ret
  exact ⟨rfl, rfl⟩
set_option maxHeartbeats 1000000 in
theorem funcs_Open4 (w : World) :
    Calls Tryz.prog 9 #[.int .i64 4] w fun e w' => e = .returned (.tuple #[.pointer (some ⟨w.heap.size, 0, none⟩), .int .i64 0]) ∧ Blk w' w.heap.size (accArr (acc0 4 0) kdC) 57 ∧ Below w.heap.size w w' := by
  go_enter Tryz.func9, Tryz.ntmps9
  go_wp2_with fail
  refine (funcs_kinds4 _).mono ?_
  rintro e w1 ⟨rfl, rfl⟩
  go_wp2
  go_ret2
  refine ⟨rfl, heap_alloc_new _ _, ?_⟩
  focus
    repeat with_reducible first | exact Below.refl _ _ | refine below_drewN ?_ _ | refine Below.drew ?_ | refine Below.setCell ?_ ?_ _ | refine Below.alloc ?_ ?_ _ | refine below_then ?_ ?_ (by with_reducible assumption)
    all_goals first | omega | (simp only [sA, sC, sD, sE]; omega) | (simp; done) | (simp; omega)
set_option maxHeartbeats 1000000 in
theorem funcs_kinds7 (w : World) :
    Calls Tryz.prog 23 #[.int .i64 7] w fun e w' => e = .returned (.iface 88 (.agg #[])) ∧ w = w' := by
  go_enter Tryz.func23, Tryz.ntmps23
  go_wp2
  go_ret
  exact ⟨rfl, rfl⟩
set_option maxHeartbeats 1000000 in
theorem funcs_Open7 (w : World) :
    Calls Tryz.prog 9 #[.int .i64 7] w fun e w' => e = .returned (.tuple #[.pointer (some ⟨w.heap.size, 0, none⟩), .int .i64 0]) ∧ Blk w' w.heap.size (accArr (acc0 7 0) kdN) 57 ∧ Below w.heap.size w w' := by
  go_enter Tryz.func9, Tryz.ntmps9
  go_wp2_with fail
  refine (funcs_kinds7 _).mono ?_
  rintro e w1 ⟨rfl, rfl⟩
  go_wp2
  go_ret2
  refine ⟨rfl, heap_alloc_new _ _, ?_⟩
  focus
    repeat with_reducible first | exact Below.refl _ _ | refine below_drewN ?_ _ | refine Below.drew ?_ | refine Below.setCell ?_ ?_ _ | refine Below.alloc ?_ ?_ _ | refine below_then ?_ ?_ (by with_reducible assumption)
    all_goals first | omega | (simp only [sA, sC, sD, sE]; omega) | (simp; done) | (simp; omega)

set_option maxHeartbeats 1000000 in
theorem counts_cell1 (b : Nat) (S : AccS) (kd : Value) (v : Vl) (hk : v.k = 1) (hc0 : 0 ≤ S.count) (hc1 : S.count ≤ 9000000000000000000) :
    Turns 196 #[.agg #[], .pointer (some ⟨b, 0, none⟩), .agg #[.int .i64 (v).k, .int .i64 (v).n, .int .i64 (v).d, .string (v).t, .bool (v).b, .int .i64 (v).f]] b S { S with count := S.count + 1 } kd := by
  constructor
  intro w hA
  have hlt := hA.lt
  have hne : ¬ b = w.heap.size := by omega
  have hne' : ¬ w.heap.size = b := by omega
  have k1 : (v.k == 1) = true := by simp [hk]
  have HA := Lib.hid hA
  have q1 : w.cell? ⟨b, 1, none⟩ = some (.int .i64 S.count) := hA.cell 1
  have fz := hA.free
  have hw := w64 (x := S.count + 1) (by omega) (by omega)
  clear hk hA
  go_enter Tryz.func196, Tryz.ntmps196
  go_wp2_with fail
  go_end0
  refine ⟨rfl, (((HA.out.set 1 _).cast (by simp only [accArr, List.setIfInBounds_toArray, List.set_cons_zero, List.set_cons_succ])).alloc _).alloc _, ?_⟩
  repeat (first | with_reducible exact But.refl _ _ _ | with_reducible refine But.drewN ?_ _ | with_reducible refine But.drew ?_ | with_reducible refine But.setCell ?_ _ _ | with_reducible refine But.setNew ?_ (by (first | omega | (simp only [sz_alloc, sz_setCell, sz_drew, sz_drewN]; omega) | (simp; done) | (simp; omega))) _ | with_reducible refine But.alloc ?_ (by (first | omega | (simp only [sz_alloc, sz_setCell, sz_drew, sz_drewN]; omega) | (simp; done) | (simp; omega))) _ | with_reducible refine But.thenBelow ?_ ?_ (by with_reducible assumption) | with_reducible refine But.then ?_ ?_ (by with_reducible assumption) | (first | omega | (simp only [sz_alloc, sz_setCell, sz_drew, sz_drewN]; omega) | (simp; done) | (simp; omega)))

set_option maxHeartbeats 1000000 in
theorem fold_result3 (b : Nat) (S : AccS) (kd : Value) (w : World) (hA : Blk w b (accArr S kd) 57) (hf : S.fn = 3) (h1 : I64 S.count) :
    Calls Tryz.prog 178 #[.agg #[], .pointer (some ⟨b, 0, none⟩)] w fun e w' => e = .returned (.agg #[.int .i64 (wholeF S.count).k, .int .i64 (wholeF S.count).n, .int .i64 (wholeF S.count).d, .string (wholeF S.count).t, .bool (wholeF S.count).b, .int .i64 (wholeF S.count).f]) ∧ Below w.heap.size w w' := by
  have hlt := hA.lt
  have hne : ¬ b = w.heap.size := by omega
  have hne' : ¬ w.heap.size = b := by omega
  have a9 : w.cell? ⟨b, 0, none⟩ = some (.int .i64 S.fn) := hA.cell 0
  have a10 : w.cell? ⟨b, 1, none⟩ = some (.int .i64 S.count) := hA.cell 1
  simp only [hf] at *
  have HN := Lib.hid fun wx => funcs_whole S.count wx h1
  clear h1 hf
  go_enter Tryz.func178, Tryz.ntmps178
  go_wp2_with fail
  refine (HN.out _).mono ?_
  rintro e w1 ⟨rfl, hb⟩
  obtain ⟨s11, c11_0, c11_1, c11_2, c11_3, c11_4, c11_5, f11⟩ := L6 hb (w.heap.size + 1) (by first | omega | (simp only [sA, sC, sD, sE]; omega) | (simp; done) | (simp; omega)) (by go_simp; exact ⟨rfl, rfl, rfl, rfl, rfl, rfl⟩) (by intro o; go_simp)
  go_wp2
  refine bodyPost_ret (v := .agg #[.int .i64 (wholeF S.count).k, .int .i64 (wholeF S.count).n, .int .i64 (wholeF S.count).d, .string (wholeF S.count).t, .bool (wholeF S.count).b, .int .i64 (wholeF S.count).f]) (by simp [results, Tryz.results178, go_sem, c11_0, c11_1, c11_2, c11_3, c11_4, c11_5]) rfl ⟨rfl, ?_⟩
  focus
    repeat with_reducible first | exact Below.refl _ _ | refine below_drewN ?_ _ | refine Below.drew ?_ | refine Below.setCell ?_ ?_ _ | refine Below.alloc ?_ ?_ _ | refine below_then ?_ ?_ (by with_reducible assumption)
    all_goals first | omega | (simp only [sA, sC, sD, sE]; omega) | (simp; done) | (simp; omega)
set_option maxHeartbeats 1000000 in
theorem fold_result4 (b : Nat) (S : AccS) (kd : Value) (w : World) (hA : Blk w b (accArr S kd) 57) (hf : S.fn = 4) (h1 : I64 S.count) :
    Calls Tryz.prog 178 #[.agg #[], .pointer (some ⟨b, 0, none⟩)] w fun e w' => e = .returned (.agg #[.int .i64 (wholeF S.count).k, .int .i64 (wholeF S.count).n, .int .i64 (wholeF S.count).d, .string (wholeF S.count).t, .bool (wholeF S.count).b, .int .i64 (wholeF S.count).f]) ∧ Below w.heap.size w w' := by
  have hlt := hA.lt
  have hne : ¬ b = w.heap.size := by omega
  have hne' : ¬ w.heap.size = b := by omega
  have a13 : w.cell? ⟨b, 0, none⟩ = some (.int .i64 S.fn) := hA.cell 0
  have a14 : w.cell? ⟨b, 1, none⟩ = some (.int .i64 S.count) := hA.cell 1
  simp only [hf] at *
  have HN := Lib.hid fun wx => funcs_whole S.count wx h1
  clear h1 hf
  go_enter Tryz.func178, Tryz.ntmps178
  go_wp2_with fail
  refine (HN.out _).mono ?_
  rintro e w1 ⟨rfl, hb⟩
  obtain ⟨s15, c15_0, c15_1, c15_2, c15_3, c15_4, c15_5, f15⟩ := L6 hb (w.heap.size + 1) (by first | omega | (simp only [sA, sC, sD, sE]; omega) | (simp; done) | (simp; omega)) (by go_simp; exact ⟨rfl, rfl, rfl, rfl, rfl, rfl⟩) (by intro o; go_simp)
  go_wp2
  refine bodyPost_ret (v := .agg #[.int .i64 (wholeF S.count).k, .int .i64 (wholeF S.count).n, .int .i64 (wholeF S.count).d, .string (wholeF S.count).t, .bool (wholeF S.count).b, .int .i64 (wholeF S.count).f]) (by simp [results, Tryz.results178, go_sem, c15_0, c15_1, c15_2, c15_3, c15_4, c15_5]) rfl ⟨rfl, ?_⟩
  focus
    repeat with_reducible first | exact Below.refl _ _ | refine below_drewN ?_ _ | refine Below.drew ?_ | refine Below.setCell ?_ ?_ _ | refine Below.alloc ?_ ?_ _ | refine below_then ?_ ?_ (by with_reducible assumption)
    all_goals first | omega | (simp only [sA, sC, sD, sE]; omega) | (simp; done) | (simp; omega)
set_option maxHeartbeats 1000000 in
theorem acc_Result_full (b : Nat) (S : AccS) (kd : Value) (w : World) (hA : Blk w b (accArr S kd) 57) (hu : S.full = true) :
    Calls Tryz.prog 13 #[.pointer (some ⟨b, 0, none⟩)] w fun e w' => e = .returned (.agg #[.int .i64 (S.v).k, .int .i64 (S.v).n, .int .i64 (S.v).d, .string (S.v).t, .bool (S.v).b, .int .i64 (S.v).f]) ∧ Below w.heap.size w w' := by
  have hlt := hA.lt
  have hne : ¬ b = w.heap.size := by omega
  have hne' : ¬ w.heap.size = b := by omega
  have a17 : w.cell? ⟨b, 4, none⟩ = some (.int .i64 S.v.k) := hA.cell 4
  have a18 : w.cell? ⟨b, 5, none⟩ = some (.int .i64 S.v.n) := hA.cell 5
  have a19 : w.cell? ⟨b, 6, none⟩ = some (.int .i64 S.v.d) := hA.cell 6
  have a20 : w.cell? ⟨b, 7, none⟩ = some (.string S.v.t) := hA.cell 7
  have a21 : w.cell? ⟨b, 8, none⟩ = some (.bool S.v.b) := hA.cell 8
  have a22 : w.cell? ⟨b, 9, none⟩ = some (.int .i64 S.v.f) := hA.cell 9
  have a17 : w.cell? ⟨b, 17, none⟩ = some (.bool true) := (hA.cell 17).trans (by rw [← hu]; rfl)
  clear hA hu
  go_enter Tryz.func13, Tryz.ntmps13
  go_wp2
  refine bodyPost_ret (v := .agg #[.int .i64 (S.v).k, .int .i64 (S.v).n, .int .i64 (S.v).d, .string (S.v).t, .bool (S.v).b, .int .i64 (S.v).f]) (by simp [results, Tryz.results13, go_sem]) rfl ⟨rfl, ?_⟩
  focus
    repeat with_reducible first | exact Below.refl _ _ | refine below_drewN ?_ _ | refine Below.drew ?_ | refine Below.setCell ?_ ?_ _ | refine Below.alloc ?_ ?_ _ | refine below_then ?_ ?_ (by with_reducible assumption)
    all_goals first | omega | (simp only [sA, sC, sD, sE]; omega) | (simp; done) | (simp; omega)

theorem prodQ_bd {n d m e : Int} (hd : 0 ≤ d) (he : 0 ≤ e) : -1000000000000 ≤ (prodQ n d m e).n ∧ (prodQ n d m e).n ≤ 1000000000000 ∧ 0 ≤ (prodQ n d m e).d ∧ (prodQ n d m e).d ≤ 1000000 := by
  unfold prodQ
  split
  · decide
  · rename_i h
    split
    · decide
    · rename_i h0
      have hm : m ≠ 0 := fun h1 => h0 (by simp [h1])
      have h2 := natAbs_mul_le (a := n) (b := m) (k := 1000000000000) hm (fun h1 => h (Or.inl ⟨hm, h1⟩))
      have h3 : ¬ 1000000 < d * e := fun h1 => h (Or.inr h1)
      have h4 : 0 ≤ d * e := Int.mul_nonneg hd he
      refine ⟨?_, ?_, ?_, ?_⟩ <;> simp only <;> omega
theorem prod_bd {n d m e : Int} (hd : 0 ≤ d) (he : 0 ≤ e) : -1000000000000 ≤ (prod n d m e).n ∧ (prod n d m e).n ≤ 1000000000000 ∧ 0 ≤ (prod n d m e).d ∧ (prod n d m e).d ≤ 1000000 := by
  unfold prod
  exact prodQ_bd (Int.ediv_nonneg hd (by omega)) (Int.ediv_nonneg he (by omega))
theorem mul_bds (n d m e : Int) : -1000000000000 ≤ (mul n d m e).n ∧ (mul n d m e).n ≤ 1000000000000 ∧ 0 ≤ (mul n d m e).d ∧ (mul n d m e).d ≤ 1000000 := by
  have h1 := tk_bd n d
  have h2 := tk_bd m e
  unfold mul
  exact prod_bd (by omega) (by omega)
theorem div_bds (n d m e : Int) : -1000000000000 ≤ (div n d m e).n ∧ (div n d m e).n ≤ 1000000000000 ∧ 0 ≤ (div n d m e).d ∧ (div n d m e).d ≤ 1000000 := by
  have h1 := tk_bd n d
  have h2 := tk_bd m e
  unfold div
  split
  · decide
  · split
    · exact prod_bd (by omega) (by omega)
    · exact prod_bd (by omega) (by omega)
end Go.Proofs.YtnimenpfojcehaaGreatDoor
