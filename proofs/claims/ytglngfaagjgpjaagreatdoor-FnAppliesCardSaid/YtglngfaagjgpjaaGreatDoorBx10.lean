/- Walks of package funcs: a fold's small steps. Walks of package funcs: what a fold does with a number. Walks of package funcs: a fold of numbers takes one, by the map of its ways. Walks of package funcs: what a fold keeps; what the folds of numbers do with a cell, an argument; what they come to. The address of a field without cells. Walks of package funcs: what the folds of numbers do with a cell, an argument; what they come to. Walks of package funcs: a fold of numbers is opened; it takes a cell, an argument. Walks of package funcs: a function by its number, by its name. -/
import Derived.Test.YtglngfaagjgpjaaGreatDoorValC
import Derived.Test.YtglngfaagjgpjaaGreatDoorBx1
import Derived.Maps.OwnOps
import Derived.Handy
import Derived.Test.YtglngfaagjgpjaaGreatDoorBx5
import Derived.Deep.QuietTactic
import Derived.BigQuiet
import Derived.Test.YtglngfaagjgpjaaGreatDoorBx8
namespace Go.Proofs.YtglngfaagjgpjaaGreatDoor
open Go.RowKit
set_option linter.unusedSimpArgs false
set_option linter.unusedVariables false

set_option maxHeartbeats 1000000 in
theorem acc_end (b : Nat) (S : AccS) (kd : Value) (v : Vl) (w : World) (hA : Blk w b (accArr S kd) 81) :
    Calls Tryz.prog 53 #[.pointer (some ⟨b, 0, none⟩), .agg #[.int .i64 (v).k, .int .i64 (v).n, .int .i64 (v).d, .string (v).t, .bool (v).b, .int .i64 (v).f]] w fun e w' => e = .returned (.tuple #[]) ∧ Blk w' b (accArr { S with full := true, v := v } kd) 81 ∧ But w.heap.size b w w' := by
  have hlt := hA.lt
  have hne : ¬ b = w.heap.size := by omega
  have hne' : ¬ w.heap.size = b := by omega
  have a1 : w.cell? ⟨b, 17, none⟩ = some (.bool S.full) := hA.cell 17
  have a2 : w.cell? ⟨b, 4, none⟩ = some (.int .i64 S.v.k) := hA.cell 4
  have a3 : w.cell? ⟨b, 5, none⟩ = some (.int .i64 S.v.n) := hA.cell 5
  have a4 : w.cell? ⟨b, 6, none⟩ = some (.int .i64 S.v.d) := hA.cell 6
  have a5 : w.cell? ⟨b, 7, none⟩ = some (.string S.v.t) := hA.cell 7
  have a6 : w.cell? ⟨b, 8, none⟩ = some (.bool S.v.b) := hA.cell 8
  have a7 : w.cell? ⟨b, 9, none⟩ = some (.int .i64 S.v.f) := hA.cell 9
  have fz := hA.free
  go_enter Tryz.func53, Tryz.ntmps53
  go_wp2_with fail
  go_region
  go_wp2
  go_end0
  refine ⟨rfl, ((((((((hA.set 17 _).set 4 _).set 5 _).set 6 _).set 7 _).set 8 _).set 9 _).alloc _).drew.cast (by simp only [accArr, List.setIfInBounds_toArray, List.set_cons_zero, List.set_cons_succ]), ?_⟩
  repeat (first | with_reducible exact But.refl _ _ _ | with_reducible refine But.drewN ?_ _ | with_reducible refine But.drew ?_ | with_reducible refine But.setCell ?_ _ _ | with_reducible refine But.setNew ?_ (by (first | omega | (simp only [sz_alloc, sz_setCell, sz_drew, sz_drewN]; omega) | (simp; done) | (simp; omega))) _ | with_reducible refine But.alloc ?_ (by (first | omega | (simp only [sz_alloc, sz_setCell, sz_drew, sz_drewN]; omega) | (simp; done) | (simp; omega))) _ | with_reducible refine But.thenBelow ?_ ?_ (by with_reducible assumption) | with_reducible refine But.then ?_ ?_ (by with_reducible assumption) | (first | omega | (simp only [sz_alloc, sz_setCell, sz_drew, sz_drewN]; omega) | (simp; done) | (simp; omega)))

set_option maxHeartbeats 1000000 in
theorem acc_sets (b : Nat) (S : AccS) (kd : Value) (n d : Int) (ok : Bool) (w : World) (hA : Blk w b (accArr S kd) 81) :
    Calls Tryz.prog 271 #[.pointer (some ⟨b, 0, none⟩), .agg #[.int .i64 n, .int .i64 d], .bool ok] w fun e w' => e = .returned (.bool ok) ∧ Blk w' b (accArr (if ok then { S with n := n, d := d } else { S with full := true, v := faultF 4 }) kd) 81 ∧ But w.heap.size b w w' := by
  have hlt := hA.lt
  have hne : ¬ b = w.heap.size := by omega
  have hne' : ¬ w.heap.size = b := by omega
  cases ok
  · have HA := Lib.hid (hA.alloc (.cells #[.int .i64 n, .int .i64 d] 24))
    go_enter Tryz.func271, Tryz.ntmps271
    go_wp2_with fail
    refine (value_Fault _ _).mono ?_
    rintro e w1 ⟨rfl, hb⟩
    have A1 := HA.out.below hb
    have z8 := Below.size hb
    try simp only [sz_alloc, sz_setCell, sz_drew, sz_drewN] at z8
    go_wp2_with fail
    refine (acc_end b S kd _ _ A1).mono ?_
    rintro e w2 ⟨rfl, A2, hb2⟩
    have z9 := But.size hb2
    try simp only [sz_alloc, sz_setCell, sz_drew, sz_drewN] at z9
    go_wp2
    go_ret
    refine ⟨rfl, A2, ?_⟩
    repeat (first | with_reducible exact But.refl _ _ _ | with_reducible refine But.drewN ?_ _ | with_reducible refine But.drew ?_ | with_reducible refine But.setCell ?_ _ _ | with_reducible refine But.setNew ?_ (by (first | omega | (simp only [sz_alloc, sz_setCell, sz_drew, sz_drewN]; omega) | (simp; done) | (simp; omega))) _ | with_reducible refine But.alloc ?_ (by (first | omega | (simp only [sz_alloc, sz_setCell, sz_drew, sz_drewN]; omega) | (simp; done) | (simp; omega))) _ | with_reducible refine But.thenBelow ?_ ?_ (by with_reducible assumption) | with_reducible refine But.then ?_ ?_ (by with_reducible assumption) | (first | omega | (simp only [sz_alloc, sz_setCell, sz_drew, sz_drewN]; omega) | (simp; done) | (simp; omega)))
  · have a10 : w.cell? ⟨b, 2, none⟩ = some (.int .i64 S.n) := hA.cell 2
    have a11 : w.cell? ⟨b, 3, none⟩ = some (.int .i64 S.d) := hA.cell 3
    have fz := hA.free
    go_enter Tryz.func271, Tryz.ntmps271
    go_wp2
    go_ret
    refine ⟨rfl, (((hA.set 2 _).set 3 _).alloc _).cast (by simp only [accArr, List.setIfInBounds_toArray, List.set_cons_zero, List.set_cons_succ]), ?_⟩
    repeat (first | with_reducible exact But.refl _ _ _ | with_reducible refine But.drewN ?_ _ | with_reducible refine But.drew ?_ | with_reducible refine But.setCell ?_ _ _ | with_reducible refine But.setNew ?_ (by (first | omega | (simp only [sz_alloc, sz_setCell, sz_drew, sz_drewN]; omega) | (simp; done) | (simp; omega))) _ | with_reducible refine But.alloc ?_ (by (first | omega | (simp only [sz_alloc, sz_setCell, sz_drew, sz_drewN]; omega) | (simp; done) | (simp; omega))) _ | with_reducible refine But.thenBelow ?_ ?_ (by with_reducible assumption) | with_reducible refine But.then ?_ ?_ (by with_reducible assumption) | (first | omega | (simp only [sz_alloc, sz_setCell, sz_drew, sz_drewN]; omega) | (simp; done) | (simp; omega)))
end Go.Proofs.YtglngfaagjgpjaaGreatDoor
namespace Go.Proofs.YtglngfaagjgpjaaGreatDoor
open Go.RowKit
set_option linter.unusedSimpArgs false
set_option linter.unusedVariables false

def AccS.sets (S : AccS) (r : NmB) : AccS := if r.ok then { S with n := r.n, d := r.d } else { S with full := true, v := faultF 4 }

set_option maxHeartbeats 1000000 in
theorem acc_adds (b : Nat) (S : AccS) (kd : Value) (n d : Int) (w : World) (hA : Blk w b (accArr S kd) 81) (h1 : I64 S.n) (h2 : I64 S.d) (h3 : I64 n) (h4 : I64 d) :
    Calls Tryz.prog 264 #[.pointer (some ⟨b, 0, none⟩), .agg #[.int .i64 n, .int .i64 d]] w fun e w' => e = .returned (.tuple #[]) ∧ Blk w' b (accArr (S.sets (add S.n S.d n d)) kd) 81 ∧ But w.heap.size b w w' := by
  have hlt := hA.lt
  have hne : ¬ b = w.heap.size := by omega
  have hne' : ¬ w.heap.size = b := by omega
  have a12 : w.cell? ⟨b, 2, none⟩ = some (.int .i64 S.n) := hA.cell 2
  have a13 : w.cell? ⟨b, 3, none⟩ = some (.int .i64 S.d) := hA.cell 3
  have fz := hA.free
  have HA := Lib.hid (hA.alloc (.cells #[.int .i64 n, .int .i64 d] 24))
  go_enter Tryz.func264, Tryz.ntmps264
  go_wp2_with fail
  refine region_below 10 (by kernel_rfl) (by kernel_rfl) ?_
  simp only [List.take_succ_cons, List.take_zero, List.drop_succ_cons, List.drop_zero]
  repeat
    first | (refine q_run ?_ ?_; focus (go_simp; done)) | (refine q_skip ?_ ?_; focus (go_simp; done))
    try (apply Exists.intro; refine ⟨fun w' hw' => ?_, ?_⟩; focus (have hc := (bcell hw'.out).1; unfold Oper.quietAt; go_simp; (try go_ints); (first | rfl | (go_at_call 133; refine (num_Add _ _ _ _ _ h1 h2 h3 h4).mono ?_; rintro e w2 ⟨rfl, hb⟩; exact ⟨rfl, hw'.chain hb⟩))))
    intro K hK
    go_simp
    refine hK _ ?_
    clear hK K
  refine wpQuiet_nil ?_
  intro w1 hb'
  have hb := hb'.out
  clear hb'
  have A1 := HA.out.below hb
  have z14 := Below.size hb
  try simp only [sz_alloc, sz_setCell, sz_drew, sz_drewN] at z14
  go_wp2_with fail
  refine (acc_sets b S kd _ _ _ _ A1).mono ?_
  rintro e w2 ⟨rfl, A2, hb2⟩
  have z15 := But.size hb2
  try simp only [sz_alloc, sz_setCell, sz_drew, sz_drewN] at z15
  go_wp2
  go_end0
  refine ⟨rfl, A2, ?_⟩
  repeat (first | with_reducible exact But.refl _ _ _ | with_reducible refine But.drewN ?_ _ | with_reducible refine But.drew ?_ | with_reducible refine But.setCell ?_ _ _ | with_reducible refine But.setNew ?_ (by (first | omega | (simp only [sz_alloc, sz_setCell, sz_drew, sz_drewN]; omega) | (simp; done) | (simp; omega))) _ | with_reducible refine But.alloc ?_ (by (first | omega | (simp only [sz_alloc, sz_setCell, sz_drew, sz_drewN]; omega) | (simp; done) | (simp; omega))) _ | with_reducible refine But.thenBelow ?_ ?_ (by with_reducible assumption) | with_reducible refine But.then ?_ ?_ (by with_reducible assumption) | (first | omega | (simp only [sz_alloc, sz_setCell, sz_drew, sz_drewN]; omega) | (simp; done) | (simp; omega)))

end Go.Proofs.YtglngfaagjgpjaaGreatDoor
namespace Go.Proofs.YtglngfaagjgpjaaGreatDoor
open Go Go.RowKit Go.Maps
set_option linter.unusedSimpArgs false
set_option linter.unusedVariables false

/-- How an element of the map of ways reads: by the function's number. -/
def wayR (v : Value) : Option (DataW Unit × List MemPlace) :=
  match v with
  | .func (.func k) a b => if a.size = 0 ∧ b.size = 0 then some (.lit (.int .i64 k), []) else some (.lit (.bool false), [])
  | _ => some (.lit (.bool false), [])
theorem wayR_mk (k : Nat) : wayR (.func (.func k) #[] #[]) = some (.lit (.int .i64 k), []) := rfl
theorem wayR_inv {v : Value} {k : Nat} {ps : List MemPlace} (h : wayR v = some (.lit (.int .i64 k), ps)) : v = .func (.func k) #[] #[] := by
  unfold wayR at h
  split at h
  · rename_i m a b
    split at h
    · rename_i hz
      simp only [Option.some.injEq, Prod.mk.injEq, DataW.lit.injEq, Lit.int.injEq, true_and] at h
      obtain ⟨h1, _⟩ := h
      obtain rfl : m = k := Int.ofNat_inj.1 h1
      rw [Array.eq_empty_of_size_eq_zero hz.1, Array.eq_empty_of_size_eq_zero hz.2]
    · simp at h
  · simp at h

theorem keyI : Keyed Tryz.prog 3 := int_keyed Tryz.underlying3
theorem keyI_of {a : Int} (h : (Lit.int .i64 a).wf = true) : keyOf Tryz.prog 3 (.int .i64 a) = some (.int .i64 a) := keyOf_int_mk Tryz.underlying3 h
/-- A call that turns a fold's block, and no other that was there. -/
structure Turns (m : Nat) (args : Array Value) (b : Nat) (S S' : AccS) (kd : Value) : Prop where
  out : ∀ wx : World, Blk wx b (accArr S kd) 81 → Calls Tryz.prog m args wx fun e w' => e = .returned (.tuple #[]) ∧ Blk w' b (accArr S' kd) 81 ∧ But wx.heap.size b wx w'

/-- The map of ways, by its keys. -/
def waysD : DataW Unit :=
  (((((((DataW.map []).put (.int .i64 1) (.lit (.int .i64 264))).put (.int .i64 12) (.lit (.int .i64 265))).put (.int .i64 7) (.lit (.int .i64 266))).put (.int .i64 2) (.lit (.int .i64 267))).put (.int .i64 5) (.lit (.int .i64 268))).put (.int .i64 6) (.lit (.int .i64 269))).put (.int .i64 13) (.lit (.int .i64 270))
theorem zeroWay (w : World) : (zeroValue 274).run Tryz.prog w = .ok .nilFunc w := by kernel_rfl

theorem grown_trans {a b c : World} {r : Option Nat} (h : a.grownBy b r) (k : b.grownBy c r) : a.grownBy c r :=
  ⟨k.os.trans h.os, k.tape.trans h.tape, k.output.trans h.output, Nat.le_trans h.size k.size, fun i hi hne => (k.block i (Nat.lt_of_lt_of_le hi h.size) hne).trans (h.block i hi hne)⟩
theorem ways_found {w w' : World} {b n : Nat} (h : w.ownsMap Tryz.prog 3 wayR b n waysD) (hw : Below w.heap.size w w') {K : Int} (hK : (Lit.int .i64 K).wf = true) {m : Nat}
    (hat : ∀ z, waysD.atKey (.int .i64 K) z = .lit (.int .i64 m)) :
    (Instr.lookup 275 (.map (some b)) (.int .i64 K) false).run Tryz.prog w' = .ok (.func (.func m) #[] #[]) w' := by
  have ho : w'.ownsMap Tryz.prog 3 wayR b n waysD := h.kept (row := none) ⟨hw.os, hw.tape, hw.output, hw.size, fun k hk _ => hw.block k hk⟩ (by simp)
  obtain ⟨v, ps, hrun, hv⟩ := ho.lookup keyI Tryz.underlying275 (zeroWay _) (zd := .lit (.bool false)) (zp := []) rfl (keyI_of hK)
  rw [hat] at hv
  obtain rfl := wayR_inv hv
  exact hrun
theorem But.grown {B b g : Nat} {w w1 w2 : World} (h : But B b w w1) (hg : w1.grownBy w2 (some g)) (hB : B ≤ g) (hs : B ≤ w1.heap.size) : But B b w w2 :=
  h.trans (But.of_below ⟨hg.os, hg.tape, hg.output, hg.size, fun k hk => hg.block k (by omega) (by simp; omega)⟩)

set_option maxRecDepth 100000 in
set_option maxHeartbeats 1000000 in
theorem acc_takes1 (b : Nat) (S S' : AccS) (kd : Value) (n d : Int) (hf : S.fn = 1) (HM : Turns 264 #[.pointer (some ⟨b, 0, none⟩), .agg #[.int .i64 n, .int .i64 d]] b S S' kd) :
    Turns 263 #[.pointer (some ⟨b, 0, none⟩), .agg #[.int .i64 n, .int .i64 d]] b S S' kd := by
  constructor
  intro w hA
  have hlt := hA.lt
  have hne : ¬ b = w.heap.size := by omega
  have hne' : ¬ w.heap.size = b := by omega
  have HA := Lib.hid hA
  have hmm := @run_makeMap Tryz.prog
  have HF := Lib.hid hf
  clear hf
  go_enter Tryz.func263, Tryz.ntmps263
  have hm0 := World.ownsMap_made (w.alloc (.cells #[.int .i64 n, .int .i64 d] 24)) Tryz.prog 3 wayR
  rw [sz_alloc] at hm0
  go_wp2_with fail
  obtain ⟨v0, hr0, hown0, hg0⟩ := World.ownsMap.update hm0 keyI Tryz.underlying275 (by decide) (keyI_of (a := 1) (by decide)) (wayR_mk 264)
  rw [hr0]
  go_wp2_with fail
  obtain ⟨v1, hr1, hown1, hg1⟩ := World.ownsMap.update hown0 keyI Tryz.underlying275 (by decide) (keyI_of (a := 12) (by decide)) (wayR_mk 265)
  rw [hr1]
  go_wp2_with fail
  obtain ⟨v2, hr2, hown2, hg2⟩ := World.ownsMap.update hown1 keyI Tryz.underlying275 (by decide) (keyI_of (a := 7) (by decide)) (wayR_mk 266)
  rw [hr2]
  go_wp2_with fail
  obtain ⟨v3, hr3, hown3, hg3⟩ := World.ownsMap.update hown2 keyI Tryz.underlying275 (by decide) (keyI_of (a := 2) (by decide)) (wayR_mk 267)
  rw [hr3]
  go_wp2_with fail
  obtain ⟨v4, hr4, hown4, hg4⟩ := World.ownsMap.update hown3 keyI Tryz.underlying275 (by decide) (keyI_of (a := 5) (by decide)) (wayR_mk 268)
  rw [hr4]
  go_wp2_with fail
  obtain ⟨v5, hr5, hown5, hg5⟩ := World.ownsMap.update hown4 keyI Tryz.underlying275 (by decide) (keyI_of (a := 6) (by decide)) (wayR_mk 269)
  rw [hr5]
  go_wp2_with fail
  obtain ⟨v6, hr6, hown6, hg6⟩ := World.ownsMap.update hown5 keyI Tryz.underlying275 (by decide) (keyI_of (a := 13) (by decide)) (wayR_mk 270)
  rw [hr6]
  go_wp2_with fail
  have G := grown_trans (grown_trans (grown_trans (grown_trans (grown_trans (grown_trans hg0 hg1) hg2) hg3) hg4) hg5) hg6
  have A6 : Blk v6 b (accArr S kd) 81 := by unfold Blk; rw [G.block b (by simp; omega) (by simp; omega)]; exact (HA.out.alloc _).alloc _
  have N6 : Blk v6 w.heap.size #[.int .i64 n, .int .i64 d] 24 := by unfold Blk; rw [G.block _ (by simp; omega) (by simp)]; exact Blk.alloc (heap_alloc_new _ _) _
  have a0 : v6.cell? ⟨b, 0, none⟩ = some (.int .i64 1) := (A6.cell 0).trans (by rw [← HF.out]; rfl)
  have n0 : v6.cell? ⟨w.heap.size, 0, none⟩ = some (.int .i64 n) := N6.cell 0
  have n1 : v6.cell? ⟨w.heap.size, 1, none⟩ = some (.int .i64 d) := N6.cell 1
  have hl0 := A6.lt
  have hl1 := N6.lt
  have LK := fun (w' : World) (hw : Below v6.heap.size v6 w') => ways_found (K := 1) (m := 264) hown6 hw (by decide) (fun _ => rfl)
  clear hr0 hr1 hr2 hr3 hr4 hr5 hr6 hown0 hown1 hown2 hown3 hown4 hown5 hown6 hg0 hg1 hg2 hg3 hg4 hg5 hg6 hm0 hmm
  have hG := Lib.hid G
  have AA := Lib.hid A6
  clear G A6 N6
  refine region_below 9 (by kernel_rfl) (by kernel_rfl) ?_
  simp only [List.take_succ_cons, List.take_zero, List.drop_succ_cons, List.drop_zero]
  repeat
    first | (refine q_run ?_ ?_; focus (go_simp; done)) | (refine q_skip ?_ ?_; focus (go_simp; done))
    try (apply Exists.intro; refine ⟨fun w' hw' => ?_, ?_⟩; focus (have hc := (bcell hw'.out).1; have hx0 := LK w' hw'.out; unfold Oper.quietAt; go_simp; (try go_ints); (first | rfl)))
    intro K hK
    go_simp
    refine hK _ ?_
    clear hK K
  refine wpQuiet_nil ?_
  intro w1 hb'
  have hb := hb'.out
  clear hb'
  clear LK
  have A1 := AA.out.below hb
  have hs1 := hb.size
  go_wp2_with fail
  refine (HM.out _ A1).mono ?_
  rintro e w2 ⟨rfl, A2, hb2⟩
  go_wp2
  go_end0
  refine ⟨rfl, A2, ?_⟩
  have hs0 := hG.out.size
  simp only [sz_alloc] at hs0
  exact (((((But.refl w.heap.size b w).alloc (Nat.le_refl _) _).alloc (by simp) _).grown hG.out (by omega) (by simp only [sz_alloc]; omega)).thenBelow (by omega) hb).then (by omega) hb2
end Go.Proofs.YtglngfaagjgpjaaGreatDoor
namespace Go.Proofs.YtglngfaagjgpjaaGreatDoor
open Go.RowKit
set_option linter.unusedSimpArgs false
set_option linter.unusedVariables false

end Go.Proofs.YtglngfaagjgpjaaGreatDoor
namespace Go.Proofs.YtglngfaagjgpjaaGreatDoor
open Go Go.RowKit
theorem cells0 : Tryz.prog.cellsOf 128 = 0 := by kernel_rfl
theorem run_part0 {w : World} {k : Nat} (h : w.heap[k]? = some (.cells #[] 128 (0, 0))) : (partAt ⟨k, 0, none⟩ 0 0).run Tryz.prog w = .ok ⟨k, 0, none⟩ w := by
  have hs : w.shape? k = some (128, 0) := by simp [World.shape?, h]
  have hv : (viewAt k).run Tryz.prog w = .ok none w := by simp [viewAt, Sem.run_bind, hs]
  have hb : (byteOf ⟨k, 0, none⟩).run Tryz.prog w = .ok 0 w := by simp [byteOf, noView, Sem.run_bind, hv, hs, cells0]
  simp [partAt, Sem.run_bind, hb]
end Go.Proofs.YtglngfaagjgpjaaGreatDoor
namespace Go.Proofs.YtglngfaagjgpjaaGreatDoor
open Go.RowKit
set_option linter.unusedSimpArgs false
set_option linter.unusedVariables false

def kdN : Value := .iface 128 (.agg #[])
set_option maxHeartbeats 1000000 in
theorem numbers_cell1 (b : Nat) (S ST : AccS) (kd : Value) (v : Vl) (hk : v.k = 1) (HM : Turns 263 #[.pointer (some ⟨b, 0, none⟩), .agg #[.int .i64 (v).n, .int .i64 (v).d]] b S ST kd) :
    Turns 260 #[.agg #[], .pointer (some ⟨b, 0, none⟩), .agg #[.int .i64 (v).k, .int .i64 (v).n, .int .i64 (v).d, .string (v).t, .bool (v).b, .int .i64 (v).f]] b S ST kd := by
  constructor
  intro w hA
  have hlt := hA.lt
  have k1 : (v.k == 1) = true := by simp [hk]
  have HA := Lib.hid ((hA.alloc (.cells #[] 128)).alloc (.cells #[.int .i64 v.k, .int .i64 v.n, .int .i64 v.d, .string v.t, .bool v.b, .int .i64 v.f] 26))
  clear hk hA
  go_enter Tryz.func260, Tryz.ntmps260
  go_wp2_with fail
  refine (HM.out _ HA.out).mono ?_
  rintro e w1 ⟨rfl, A1, hb⟩
  have z39 := But.size hb
  try simp only [sz_alloc, sz_setCell, sz_drew, sz_drewN] at z39
  go_wp2
  go_end0
  refine ⟨rfl, A1, ?_⟩
  repeat (first | with_reducible exact But.refl _ _ _ | with_reducible refine But.drewN ?_ _ | with_reducible refine But.drew ?_ | with_reducible refine But.setCell ?_ _ _ | with_reducible refine But.setNew ?_ (by (first | omega | (simp only [sz_alloc, sz_setCell, sz_drew, sz_drewN]; omega) | (simp; done) | (simp; omega))) _ | with_reducible refine But.alloc ?_ (by (first | omega | (simp only [sz_alloc, sz_setCell, sz_drew, sz_drewN]; omega) | (simp; done) | (simp; omega))) _ | with_reducible refine But.thenBelow ?_ ?_ (by with_reducible assumption) | with_reducible refine But.then ?_ ?_ (by with_reducible assumption) | (first | omega | (simp only [sz_alloc, sz_setCell, sz_drew, sz_drewN]; omega) | (simp; done) | (simp; omega)))
set_option maxHeartbeats 1000000 in
theorem numbers_feed1 (b : Nat) (S ST : AccS) (kd : Value) (v : Vl) (hx : v.In) (h0 : ¬ v.k = 0) (hR : ¬ (asNum v).e.k = 4) (HM : Turns 263 #[.pointer (some ⟨b, 0, none⟩), .agg #[.int .i64 (asNum v).n, .int .i64 (asNum v).d]] b S ST kd) :
    Turns 261 #[.agg #[], .pointer (some ⟨b, 0, none⟩), .agg #[.int .i64 (v).k, .int .i64 (v).n, .int .i64 (v).d, .string (v).t, .bool (v).b, .int .i64 (v).f]] b S ST kd := by
  constructor
  intro w hA
  have hlt := hA.lt
  have k0 : (v.k == 0) = false := by simp [h0]
  have HN := Lib.hid fun wx => value_AsNumber v.k v.n v.d v.t v.b v.f wx hx
  have eR : asNum ⟨v.k, v.n, v.d, v.t, v.b, v.f⟩ = asNum v := rfl
  rw [eR] at HN
  clear eR
  generalize asNum v = R at *
  have r4 : (R.e.k == 4) = false := by simp [hR]
  have HA := Lib.hid ((hA.alloc (.cells #[] 128)).alloc (.cells #[.int .i64 v.k, .int .i64 v.n, .int .i64 v.d, .string v.t, .bool v.b, .int .i64 v.f] 26))
  clear h0 hR hA
  go_enter Tryz.func261, Tryz.ntmps261
  go_wp2_with fail
  refine (HN.out _).mono ?_
  rintro e w1' ⟨rfl, hb⟩
  have A1 := Lib.hid (HA.out.below hb)
  obtain ⟨s41, c41_0, c41_1, c41_2, c41_3, c41_4, c41_5, f41⟩ := L6 hb (w.heap.size + 1) (by first | omega | (simp only [sA, sC, sD, sE]; omega) | (simp; done) | (simp; omega)) (by go_simp; exact ⟨rfl, rfl, rfl, rfl, rfl, rfl⟩) (by intro o; go_simp)
  have z42 := Below.size hb
  try simp only [sz_alloc, sz_setCell, sz_drew, sz_drewN] at z42
  have hlt1 := A1.out.lt
  have q1 : ¬ w.heap.size + 1 = w1'.heap.size := by have := Below.size hb; simp only [sz_alloc] at this; omega
  have q2 : ¬ w.heap.size = w1'.heap.size := by have := Below.size hb; simp only [sz_alloc] at this; omega
  have q3 : ¬ w1'.heap.size = w.heap.size + 1 := fun h => q1 h.symm
  have q4 : ¬ w1'.heap.size = w.heap.size := fun h => q2 h.symm
  have q5 : w.heap.size < w1'.heap.size := by have := Below.size hb; simp only [sz_alloc] at this; omega
  go_wp2_with fail
  refine (HM.out _ ((A1.out.alloc _).alloc _)).mono ?_
  rintro e w2 ⟨rfl, A2, hb2⟩
  have z43 := But.size hb2
  try simp only [sz_alloc, sz_setCell, sz_drew, sz_drewN] at z43
  go_wp2
  go_end0
  refine ⟨rfl, A2, ?_⟩
  repeat (first | with_reducible exact But.refl _ _ _ | with_reducible refine But.drewN ?_ _ | with_reducible refine But.drew ?_ | with_reducible refine But.setCell ?_ _ _ | with_reducible refine But.setNew ?_ (by (first | omega | (simp only [sz_alloc, sz_setCell, sz_drew, sz_drewN]; omega) | (simp; done) | (simp; omega))) _ | with_reducible refine But.alloc ?_ (by (first | omega | (simp only [sz_alloc, sz_setCell, sz_drew, sz_drewN]; omega) | (simp; done) | (simp; omega))) _ | with_reducible refine But.thenBelow ?_ ?_ (by with_reducible assumption) | with_reducible refine But.then ?_ ?_ (by with_reducible assumption) | (first | omega | (simp only [sz_alloc, sz_setCell, sz_drew, sz_drewN]; omega) | (simp; done) | (simp; omega)))

set_option maxHeartbeats 1000000 in
theorem fold_result1 (b : Nat) (S : AccS) (kd : Value) (w : World) (hA : Blk w b (accArr S kd) 81) (hf : S.fn = 1) (h1 : I64 S.n) (h2 : I64 S.d) :
    Calls Tryz.prog 259 #[.agg #[], .pointer (some ⟨b, 0, none⟩)] w fun e w' => e = .returned (.agg #[.int .i64 (numF S.n S.d).k, .int .i64 (numF S.n S.d).n, .int .i64 (numF S.n S.d).d, .string (numF S.n S.d).t, .bool (numF S.n S.d).b, .int .i64 (numF S.n S.d).f]) ∧ Below w.heap.size w w' := by
  have hlt := hA.lt
  have hne : ¬ b = w.heap.size := by omega
  have hne' : ¬ w.heap.size = b := by omega
  have a44 : w.cell? ⟨b, 0, none⟩ = some (.int .i64 S.fn) := hA.cell 0
  have a45 : w.cell? ⟨b, 2, none⟩ = some (.int .i64 S.n) := hA.cell 2
  have a46 : w.cell? ⟨b, 3, none⟩ = some (.int .i64 S.d) := hA.cell 3
  simp only [hf] at *
  have HN := Lib.hid fun wx => value_Number S.n S.d wx h1 h2
  clear h1 h2 hf
  go_enter Tryz.func259, Tryz.ntmps259
  go_wp2_with fail
  refine (HN.out _).mono ?_
  rintro e w1 ⟨rfl, hb⟩
  obtain ⟨s47, c47_0, c47_1, c47_2, c47_3, c47_4, c47_5, f47⟩ := L6 hb (w.heap.size + 1) (by first | omega | (simp only [sA, sC, sD, sE]; omega) | (simp; done) | (simp; omega)) (by go_simp; exact ⟨rfl, rfl, rfl, rfl, rfl, rfl⟩) (by intro o; go_simp)
  go_wp2
  refine bodyPost_ret (v := .agg #[.int .i64 (numF S.n S.d).k, .int .i64 (numF S.n S.d).n, .int .i64 (numF S.n S.d).d, .string (numF S.n S.d).t, .bool (numF S.n S.d).b, .int .i64 (numF S.n S.d).f]) (by simp [results, Tryz.results259, go_sem, c47_0, c47_1, c47_2, c47_3, c47_4, c47_5]) rfl ⟨rfl, ?_⟩
  focus
    repeat with_reducible first | exact Below.refl _ _ | refine below_drewN ?_ _ | refine Below.drew ?_ | refine Below.setCell ?_ ?_ _ | refine Below.alloc ?_ ?_ _ | refine below_then ?_ ?_ (by with_reducible assumption)
    all_goals first | omega | (simp only [sA, sC, sD, sE]; omega) | (simp; done) | (simp; omega)
set_option maxHeartbeats 1000000 in
theorem numbers_result1 (b : Nat) (S : AccS) (kd : Value) (w : World) (hA : Blk w b (accArr S kd) 81) (hf : S.fn = 1) (h1 : I64 S.n) (h2 : I64 S.d) :
    Calls Tryz.prog 262 #[.agg #[], .pointer (some ⟨b, 0, none⟩)] w fun e w' => e = .returned (.agg #[.int .i64 (numF S.n S.d).k, .int .i64 (numF S.n S.d).n, .int .i64 (numF S.n S.d).d, .string (numF S.n S.d).t, .bool (numF S.n S.d).b, .int .i64 (numF S.n S.d).f]) ∧ Below w.heap.size w w' := by
  have hlt := hA.lt
  have hne : ¬ b = w.heap.size := by omega
  have hne' : ¬ w.heap.size = b := by omega
  have HR := Lib.hid fun (wx : World) (hx : Blk wx b (accArr S kd) 81) => fold_result1 b S kd wx hx hf h1 h2
  have HA := Lib.hid ((hA.alloc (.cells #[] 128)).alloc (.cells #[.int .i64 0, .int .i64 0, .int .i64 0, .string ⟨#[]⟩, .bool false, .int .i64 0] 26))
  have hp := run_part0 (w := (w.alloc (.cells #[] 128)).alloc (.cells #[.int .i64 0, .int .i64 0, .int .i64 0, .string ⟨#[]⟩, .bool false, .int .i64 0] 26)) (k := w.heap.size) (by rw [heap_alloc_old _ _ (by simp)]; exact heap_alloc_new _ _)
  have a48 : w.cell? ⟨b, 0, none⟩ = some (.int .i64 S.fn) := hA.cell 0
  simp only [hf] at *
  clear h1 h2 hf hA
  go_enter Tryz.func262, Tryz.ntmps262
  go_wp2_with fail
  refine (HR.out _ HA.out).mono ?_
  rintro e w1 ⟨rfl, hb⟩
  obtain ⟨s49, c49_0, c49_1, c49_2, c49_3, c49_4, c49_5, f49⟩ := L6 hb (w.heap.size + 1) (by first | omega | (simp only [sA, sC, sD, sE]; omega) | (simp; done) | (simp; omega)) (by go_simp; exact ⟨rfl, rfl, rfl, rfl, rfl, rfl⟩) (by intro o; go_simp)
  go_wp2
  refine bodyPost_ret (v := .agg #[.int .i64 (numF S.n S.d).k, .int .i64 (numF S.n S.d).n, .int .i64 (numF S.n S.d).d, .string (numF S.n S.d).t, .bool (numF S.n S.d).b, .int .i64 (numF S.n S.d).f]) (by simp [results, Tryz.results262, go_sem, c49_0, c49_1, c49_2, c49_3, c49_4, c49_5]) rfl ⟨rfl, ?_⟩
  focus
    repeat with_reducible first | exact Below.refl _ _ | refine below_drewN ?_ _ | refine Below.drew ?_ | refine Below.setCell ?_ ?_ _ | refine Below.alloc ?_ ?_ _ | refine below_then ?_ ?_ (by with_reducible assumption)
    all_goals first | omega | (simp only [sA, sC, sD, sE]; omega) | (simp; done) | (simp; omega)
set_option maxHeartbeats 1000000 in
theorem acc_Result1 (b : Nat) (S : AccS) (w : World) (hA : Blk w b (accArr S kdN) 81) (hu : S.full = false) (hf : S.fn = 1) (h1 : I64 S.n) (h2 : I64 S.d) :
    Calls Tryz.prog 17 #[.pointer (some ⟨b, 0, none⟩)] w fun e w' => e = .returned (.agg #[.int .i64 (numF S.n S.d).k, .int .i64 (numF S.n S.d).n, .int .i64 (numF S.n S.d).d, .string (numF S.n S.d).t, .bool (numF S.n S.d).b, .int .i64 (numF S.n S.d).f]) ∧ Below w.heap.size w w' := by
  have hlt := hA.lt
  have hne : ¬ b = w.heap.size := by omega
  have hne' : ¬ w.heap.size = b := by omega
  have HR := Lib.hid fun (wx : World) (hx : Blk wx b (accArr S kdN) 81) => numbers_result1 b S kdN wx hx hf h1 h2
  have HA := Lib.hid (hA.alloc (.cells #[.int .i64 0, .int .i64 0, .int .i64 0, .string ⟨#[]⟩, .bool false, .int .i64 0] 26))
  have a17 : w.cell? ⟨b, 17, none⟩ = some (.bool false) := (hA.cell 17).trans (by rw [← hu]; rfl)
  have a21 : w.cell? ⟨b, 21, none⟩ = some (.iface 128 (.agg #[])) := hA.cell 21
  clear h1 h2 hf hA hu
  go_enter Tryz.func17, Tryz.ntmps17
  go_wp2_with fail
  refine (HR.out _ HA.out).mono ?_
  rintro e w1 ⟨rfl, hb⟩
  obtain ⟨s50, c50_0, c50_1, c50_2, c50_3, c50_4, c50_5, f50⟩ := L6 hb (w.heap.size) (by first | omega | (simp only [sA, sC, sD, sE]; omega) | (simp; done) | (simp; omega)) (by go_simp; exact ⟨rfl, rfl, rfl, rfl, rfl, rfl⟩) (by intro o; go_simp)
  go_wp2
  refine bodyPost_ret (v := .agg #[.int .i64 (numF S.n S.d).k, .int .i64 (numF S.n S.d).n, .int .i64 (numF S.n S.d).d, .string (numF S.n S.d).t, .bool (numF S.n S.d).b, .int .i64 (numF S.n S.d).f]) (by simp [results, Tryz.results17, go_sem, c50_0, c50_1, c50_2, c50_3, c50_4, c50_5]) rfl ⟨rfl, ?_⟩
  focus
    repeat with_reducible first | exact Below.refl _ _ | refine below_drewN ?_ _ | refine Below.drew ?_ | refine Below.setCell ?_ ?_ _ | refine Below.alloc ?_ ?_ _ | refine below_then ?_ ?_ (by with_reducible assumption)
    all_goals first | omega | (simp only [sA, sC, sD, sE]; omega) | (simp; done) | (simp; omega)
end Go.Proofs.YtglngfaagjgpjaaGreatDoor
namespace Go.Proofs.YtglngfaagjgpjaaGreatDoor
open Go.RowKit
set_option linter.unusedSimpArgs false
set_option linter.unusedVariables false

def acc0 (fn n : Int) : AccS := ⟨fn, 0, n, 1, blankV, blankV, false, false, false, 0, 0⟩

set_option maxHeartbeats 1000000 in
theorem funcs_kinds1 (w : World) :
    Calls Tryz.prog 47 #[.int .i64 1] w fun e w' => e = .returned (.iface 128 (.agg #[])) ∧ w = w' := by
  go_enter Tryz.func47, Tryz.ntmps47
  go_wp2
  go_ret
  exact ⟨rfl, rfl⟩
set_option maxHeartbeats 1000000 in
theorem funcs_Open1 (w : World) :
    Calls Tryz.prog 13 #[.int .i64 1] w fun e w' => e = .returned (.tuple #[.pointer (some ⟨w.heap.size, 0, none⟩), .int .i64 0]) ∧ Blk w' w.heap.size (accArr (acc0 1 0) kdN) 81 ∧ Below w.heap.size w w' := by
  go_enter Tryz.func13, Tryz.ntmps13
  go_wp2_with fail
  refine (funcs_kinds1 _).mono ?_
  rintro e w1 ⟨rfl, rfl⟩
  go_wp2
  go_ret2
  refine ⟨rfl, heap_alloc_new _ _, ?_⟩
  focus
    repeat with_reducible first | exact Below.refl _ _ | refine below_drewN ?_ _ | refine Below.drew ?_ | refine Below.setCell ?_ ?_ _ | refine Below.alloc ?_ ?_ _ | refine below_then ?_ ?_ (by with_reducible assumption)
    all_goals first | omega | (simp only [sA, sC, sD, sE]; omega) | (simp; done) | (simp; omega)
set_option maxHeartbeats 1000000 in
theorem acc_Cell (b : Nat) (S S' : AccS) (k n d : Int) (t : ByteArray) (bb : Bool) (f : Int) (v : Vl) (hv : v = tkV ⟨k, n, d, t, bb, f⟩) (hx : Vl.In ⟨k, n, d, t, bb, f⟩) (hu : S.full = false) (hw : S.wants = false)
    (HM : Turns 260 #[.agg #[], .pointer (some ⟨b, 0, none⟩), .agg #[.int .i64 (v).k, .int .i64 (v).n, .int .i64 (v).d, .string (v).t, .bool (v).b, .int .i64 (v).f]] b S S' kdN) :
    Turns 16 #[.pointer (some ⟨b, 0, none⟩), .agg #[.int .i64 k, .int .i64 n, .int .i64 d, .string t, .bool bb, .int .i64 f]] b S S' kdN := by
  constructor
  intro w hA
  have hlt := hA.lt
  have hne : ¬ b = w.heap.size := by omega
  have hne' : ¬ w.heap.size = b := by omega
  have HT := Lib.hid fun wx => funcs_taken k n d t bb f wx hx
  rw [← hv] at HT
  have HA := Lib.hid (hA.alloc (.cells #[.int .i64 k, .int .i64 n, .int .i64 d, .string t, .bool bb, .int .i64 f] 26))
  have a17 : w.cell? ⟨b, 17, none⟩ = some (.bool false) := (hA.cell 17).trans (by rw [← hu]; rfl)
  have a18 : w.cell? ⟨b, 18, none⟩ = some (.bool false) := (hA.cell 18).trans (by rw [← hw]; rfl)
  have a21 : w.cell? ⟨b, 21, none⟩ = some (.iface 128 (.agg #[])) := hA.cell 21
  clear hA hx hu hw hv
  go_enter Tryz.func16, Tryz.ntmps16
  go_wp2_with fail
  refine region_below 9 (by kernel_rfl) (by kernel_rfl) ?_
  simp only [List.take_succ_cons, List.take_zero, List.drop_succ_cons, List.drop_zero]
  repeat
    first | (refine q_run ?_ ?_; focus (go_simp; done)) | (refine q_skip ?_ ?_; focus (go_simp; done))
    try (apply Exists.intro; refine ⟨fun w' hw' => ?_, ?_⟩; focus (have hc := (bcell hw'.out).1; unfold Oper.quietAt; go_simp; (try go_ints); (first | rfl | (go_at_call 28; refine (HT.out _).mono ?_; rintro e w2 ⟨rfl, hb⟩; exact ⟨rfl, hw'.chain hb⟩))))
    intro K hK
    go_simp
    refine hK _ ?_
    clear hK K
  refine wpQuiet_nil ?_
  intro w1 hb'
  have hb := hb'.out
  clear hb'
  have A1 := HA.out.below hb
  have z72 := Below.size hb
  try simp only [sz_alloc, sz_setCell, sz_drew, sz_drewN] at z72
  go_wp2_with fail
  refine (HM.out _ A1).mono ?_
  rintro e w2 ⟨rfl, A2, hb2⟩
  have z73 := But.size hb2
  try simp only [sz_alloc, sz_setCell, sz_drew, sz_drewN] at z73
  go_wp2
  go_end0
  refine ⟨rfl, A2, ?_⟩
  repeat (first | with_reducible exact But.refl _ _ _ | with_reducible refine But.drewN ?_ _ | with_reducible refine But.drew ?_ | with_reducible refine But.setCell ?_ _ _ | with_reducible refine But.setNew ?_ (by (first | omega | (simp only [sz_alloc, sz_setCell, sz_drew, sz_drewN]; omega) | (simp; done) | (simp; omega))) _ | with_reducible refine But.alloc ?_ (by (first | omega | (simp only [sz_alloc, sz_setCell, sz_drew, sz_drewN]; omega) | (simp; done) | (simp; omega))) _ | with_reducible refine But.thenBelow ?_ ?_ (by with_reducible assumption) | with_reducible refine But.then ?_ ?_ (by with_reducible assumption) | (first | omega | (simp only [sz_alloc, sz_setCell, sz_drew, sz_drewN]; omega) | (simp; done) | (simp; omega)))
set_option maxHeartbeats 1000000 in
theorem acc_Feed (b : Nat) (S S' : AccS) (k n d : Int) (t : ByteArray) (bb : Bool) (f : Int) (v : Vl) (hv : v = tkV ⟨k, n, d, t, bb, f⟩) (hx : Vl.In ⟨k, n, d, t, bb, f⟩) (hu : S.full = false) (hw : S.wants = false)
    (HM : Turns 261 #[.agg #[], .pointer (some ⟨b, 0, none⟩), .agg #[.int .i64 (v).k, .int .i64 (v).n, .int .i64 (v).d, .string (v).t, .bool (v).b, .int .i64 (v).f]] b S S' kdN) :
    Turns 19 #[.pointer (some ⟨b, 0, none⟩), .agg #[.int .i64 k, .int .i64 n, .int .i64 d, .string t, .bool bb, .int .i64 f]] b S S' kdN := by
  constructor
  intro w hA
  have hlt := hA.lt
  have hne : ¬ b = w.heap.size := by omega
  have hne' : ¬ w.heap.size = b := by omega
  have HT := Lib.hid fun wx => funcs_taken k n d t bb f wx hx
  rw [← hv] at HT
  have HA := Lib.hid (hA.alloc (.cells #[.int .i64 k, .int .i64 n, .int .i64 d, .string t, .bool bb, .int .i64 f] 26))
  have a17 : w.cell? ⟨b, 17, none⟩ = some (.bool false) := (hA.cell 17).trans (by rw [← hu]; rfl)
  have a18 : w.cell? ⟨b, 18, none⟩ = some (.bool false) := (hA.cell 18).trans (by rw [← hw]; rfl)
  have a21 : w.cell? ⟨b, 21, none⟩ = some (.iface 128 (.agg #[])) := hA.cell 21
  clear hA hx hu hw hv
  go_enter Tryz.func19, Tryz.ntmps19
  go_wp2_with fail
  refine region_below 9 (by kernel_rfl) (by kernel_rfl) ?_
  simp only [List.take_succ_cons, List.take_zero, List.drop_succ_cons, List.drop_zero]
  repeat
    first | (refine q_run ?_ ?_; focus (go_simp; done)) | (refine q_skip ?_ ?_; focus (go_simp; done))
    try (apply Exists.intro; refine ⟨fun w' hw' => ?_, ?_⟩; focus (have hc := (bcell hw'.out).1; unfold Oper.quietAt; go_simp; (try go_ints); (first | rfl | (go_at_call 28; refine (HT.out _).mono ?_; rintro e w2 ⟨rfl, hb⟩; exact ⟨rfl, hw'.chain hb⟩))))
    intro K hK
    go_simp
    refine hK _ ?_
    clear hK K
  refine wpQuiet_nil ?_
  intro w1 hb'
  have hb := hb'.out
  clear hb'
  have A1 := HA.out.below hb
  have z74 := Below.size hb
  try simp only [sz_alloc, sz_setCell, sz_drew, sz_drewN] at z74
  go_wp2_with fail
  refine (HM.out _ A1).mono ?_
  rintro e w2 ⟨rfl, A2, hb2⟩
  have z75 := But.size hb2
  try simp only [sz_alloc, sz_setCell, sz_drew, sz_drewN] at z75
  go_wp2
  go_end0
  refine ⟨rfl, A2, ?_⟩
  repeat (first | with_reducible exact But.refl _ _ _ | with_reducible refine But.drewN ?_ _ | with_reducible refine But.drew ?_ | with_reducible refine But.setCell ?_ _ _ | with_reducible refine But.setNew ?_ (by (first | omega | (simp only [sz_alloc, sz_setCell, sz_drew, sz_drewN]; omega) | (simp; done) | (simp; omega))) _ | with_reducible refine But.alloc ?_ (by (first | omega | (simp only [sz_alloc, sz_setCell, sz_drew, sz_drewN]; omega) | (simp; done) | (simp; omega))) _ | with_reducible refine But.thenBelow ?_ ?_ (by with_reducible assumption) | with_reducible refine But.then ?_ ?_ (by with_reducible assumption) | (first | omega | (simp only [sz_alloc, sz_setCell, sz_drew, sz_drewN]; omega) | (simp; done) | (simp; omega)))
end Go.Proofs.YtglngfaagjgpjaaGreatDoor
namespace Go.Proofs.YtglngfaagjgpjaaGreatDoor
open Go Go.RowKit
set_option linter.unusedSimpArgs false
set_option linter.unusedVariables false

theorem table_cell {w : World} {B g cap : Nat} (h : w.ownsRow B 56 6 (.slice (some ⟨g, 0, none⟩) 49 cap) 49 (tableL.flatMap SigS.cells)) {k : Nat} (hk : k < 49) {S : SigS} (hS : tableL[k]? = some S) :
    w.cell? ⟨g, k * 6, none⟩ = some (.int .i64 S.id) ∧ w.cell? ⟨g, k * 6 + 1, none⟩ = some (.int .i64 S.cl) ∧ w.cell? ⟨g, k * 6 + 2, none⟩ = some (.string S.name) ∧
    w.cell? ⟨g, k * 6 + 3, none⟩ = some (.int .i64 S.least) ∧ w.cell? ⟨g, k * 6 + 4, none⟩ = some (.int .i64 S.most) ∧ w.cell? ⟨g, k * 6 + 5, none⟩ = some (.string S.params) := by
  have hl : k < tableL.length := by rw [tableL_len]; exact hk
  have e : tableL[k] = S := by rw [List.getElem?_eq_getElem hl] at hS; exact Option.some.inj hS
  have key : ∀ j, j < 6 → w.cell? ⟨g, k * 6 + j, none⟩ = (SigS.cells S)[j]? := fun j hj => by
    rw [h.cellAt (k * 6 + j) (by omega), flat6 SigS.cells SigS.len _ _ _ hl hj, e]
  exact ⟨key 0 (by decide), key 1 (by decide), key 2 (by decide), key 3 (by decide), key 4 (by decide), key 5 (by decide)⟩

theorem funcs_All (w : World) (HSc : ∀ wx : World, Calls Tryz.prog 124 #[] wx fun e w' => ∃ g, e = .returned (.slice (some ⟨g, 0, none⟩) 23 23) ∧ Below wx.heap.size wx w' ∧ wx.heap.size ≤ g ∧ w'.heap[g]? = some (.cells (scalarsL.flatMap SigS.cells).toArray 56 (0, 0))) :
    Calls Tryz.prog 61 #[] w fun e w' => ∃ g cap, e = .returned (.slice (some ⟨g, 0, none⟩) 49 cap) ∧ Below w.heap.size w w' ∧ w'.ownsRow w.heap.size 56 6 (.slice (some ⟨g, 0, none⟩) 49 cap) 49 (tableL.flatMap SigS.cells) := funcs_All0 w HSc

/-- What is known behind k rounds of the search. -/
structure SeekRel (w : World) (g cap : Nat) (p : SigS → Bool) (i : Value) (k : Nat) (wr : World) : Prop where
  le : k ≤ 49
  i : i = .int .i64 k
  below : Below w.heap.size w wr
  own : wr.ownsRow (w.heap.size + 1) 56 6 (.slice (some ⟨g, 0, none⟩) 49 cap) 49 (tableL.flatMap SigS.cells)
  res : wr.heap[w.heap.size]? = some (.cells sigZ.cells.toArray 56 (0, 0))
  no : ∀ j (hj : j < tableL.length), j < k → p tableL[j] = false

def optSig (o : Option SigS) : Value := .tuple #[(o.getD sigZ).val, .bool o.isSome]

set_option maxHeartbeats 1000000 in
theorem funcs_ById (id : Int) (w : World) (HSc : ∀ wx : World, Calls Tryz.prog 124 #[] wx fun e w' => ∃ g, e = .returned (.slice (some ⟨g, 0, none⟩) 23 23) ∧ Below wx.heap.size wx w' ∧ wx.heap.size ≤ g ∧ w'.heap[g]? = some (.cells (scalarsL.flatMap SigS.cells).toArray 56 (0, 0))) :
    Calls Tryz.prog 26 #[.int .i64 id] w fun e w' => e = .returned (optSig (byIdL id)) ∧ Below w.heap.size w w' := by
  have HA := Lib.hid fun wx => funcs_All wx HSc
  clear HSc
  go_enter Tryz.func26, Tryz.ntmps26
  go_wp2_with fail
  refine (HA.out _).mono ?_
  rintro e w1 ⟨g, cap, rfl, hb, hown⟩
  clear HA
  have hr := (hb.block w.heap.size (by simp)).trans (heap_alloc_new _ _)
  rw [sz_alloc] at hown hb
  have hb1 : Below w.heap.size w w1 := ((Below.refl _ _).alloc (Nat.le_refl _) _).trans (hb.mono (by omega))
  go_wp2
  go_loopw [8] (fun i wr => ∃ k, SeekRel w g cap (isId id) i k wr) (fun i _ => 49 - (intOf i).toNat)
  case atStart => exact ⟨0, by omega, rfl, hb1, hown, hr, fun _ _ h => by omega⟩
  case round =>
    clear hb hown hr hb1
    obtain ⟨k, hk, rfl, hbk, hownk, hres, hno⟩ := hrel
    by_cases hlt : k < 49
    · have hl : k < tableL.length := by rw [tableL_len]; exact hlt
      obtain ⟨S, hS⟩ : ∃ S, tableL[k]? = some S := ⟨_, List.getElem?_eq_getElem hl⟩
      have c0 := (table_cell hownk hlt hS).1
      have c1 := (table_cell hownk hlt hS).2.1
      have c2 := (table_cell hownk hlt hS).2.2.1
      have c3 := (table_cell hownk hlt hS).2.2.2.1
      have c4 := (table_cell hownk hlt hS).2.2.2.2.1
      have c5 := (table_cell hownk hlt hS).2.2.2.2.2
      have hgB := (hownk.lt g rfl)
      have hsk := hbk.size
      have hltr := lt_of_block hres
      have hne1 : ¬ w.heap.size = wr.heap.size := by omega
      have hne2 : ¬ wr.heap.size = w.heap.size := by omega
      have B : Blk wr w.heap.size sigZ.cells.toArray 56 := hres
      have r0 : wr.cell? ⟨w.heap.size, 0, none⟩ = some (.int .i64 0) := B.cell 0
      have r1 : wr.cell? ⟨w.heap.size, 1, none⟩ = some (.int .i64 0) := B.cell 1
      have r2 : wr.cell? ⟨w.heap.size, 2, none⟩ = some (.string ⟨#[]⟩) := B.cell 2
      have r3 : wr.cell? ⟨w.heap.size, 3, none⟩ = some (.int .i64 0) := B.cell 3
      have r4 : wr.cell? ⟨w.heap.size, 4, none⟩ = some (.int .i64 0) := B.cell 4
      have r5 : wr.cell? ⟨w.heap.size, 5, none⟩ = some (.string ⟨#[]⟩) := B.cell 5
      have rf := B.free
      have hno' := Lib.hid hno
      have hown' := Lib.hid hownk
      have hbk' := Lib.hid hbk
      have hres' := Lib.hid hres
      clear hno hownk B hres hbk
      cases hm : isId id S
      · have hmw : (S.id == id) = false := hm
        go_wp2
        go_roundw
        case rel =>
          refine ⟨k + 1, by omega, by go_num, hbk'.out.alloc hsk _, hown'.out.alloc _, ?_, ?_⟩
          · rw [heap_alloc_old _ _ hltr]; exact hres'.out
          · intro j hj hjk
            by_cases hjk' : j < k
            · exact hno'.out j hj hjk'
            · obtain rfl : j = k := by omega
              rw [List.getElem?_eq_getElem hj] at hS
              rw [Option.some.inj hS]; exact hm
        case measure => simp [intOf]; omega
      · have HF : Hid (byIdL id = some S) := by
          rw [List.getElem?_eq_getElem hl] at hS
          have e := Option.some.inj hS
          unfold Hid byIdL
          rw [find_at (p := isId id) hl (by rw [e]; exact hm) hno'.out, e]
        have hmw : (S.id == id) = true := hm
        go_upto_region 5 with (fail)
        first | with_reducible refine wp_rebase ?_ | with_reducible refine wpList_rebase ?_
        intro w1 hb'
        have hb := hb'.out
        clear hb'
        obtain ⟨s1, c1_0, c1_1, c1_2, c1_3, c1_4, c1_5, f1⟩ := L6 hb (w.heap.size) (by first | omega | (simp only [sA, sC, sD, sE]; omega) | (simp; done) | (simp; omega)) (by go_simp; exact ⟨rfl, rfl, rfl, rfl, rfl, rfl⟩) (by intro o; go_simp)
        obtain ⟨s2, c2_0, c2_1, c2_2, c2_3, c2_4, c2_5, f2⟩ := L6 hb (wr.heap.size) (by first | omega | (simp only [sA, sC, sD, sE]; omega) | (simp; done) | (simp; omega)) (by go_simp; exact ⟨rfl, rfl, rfl, rfl, rfl, rfl⟩) (by intro o; go_simp)
        have hB1 : Below w.heap.size w w1 := below_then (hbk'.out.alloc hsk _) (by simp only [sz_alloc]; omega) hb
        go_wp2
        refine bodyPost_ret (v := .tuple #[.agg #[.int .i64 S.id, .int .i64 S.cl, .string S.name, .int .i64 S.least, .int .i64 S.most, .string S.params], .bool true]) (by simp [results, Tryz.results26, go_sem, c1_0, c1_1, c1_2, c1_3, c1_4, c1_5, c2_0, c2_1, c2_2, c2_3, c2_4, c2_5]) rfl ⟨by rw [HF.out]; rfl, ?_⟩
        repeat (with_reducible refine Below.setCell ?_ (by (first | omega | (simp only [sz_alloc, sz_setCell, sz_drew, sz_drewN]; omega) | (simp; done) | (simp; omega))) _)
        exact hB1
    · obtain rfl : k = 49 := by omega
      have HF : Hid (byIdL id = none) := by
        unfold Hid byIdL
        exact find_no fun j hj => hno j hj (by rw [tableL_len] at hj; exact hj)
      have B : Blk wr w.heap.size sigZ.cells.toArray 56 := hres
      have r0 : wr.cell? ⟨w.heap.size, 0, none⟩ = some (.int .i64 0) := B.cell 0
      have r1 : wr.cell? ⟨w.heap.size, 1, none⟩ = some (.int .i64 0) := B.cell 1
      have r2 : wr.cell? ⟨w.heap.size, 2, none⟩ = some (.string ⟨#[]⟩) := B.cell 2
      have r3 : wr.cell? ⟨w.heap.size, 3, none⟩ = some (.int .i64 0) := B.cell 3
      have r4 : wr.cell? ⟨w.heap.size, 4, none⟩ = some (.int .i64 0) := B.cell 4
      have r5 : wr.cell? ⟨w.heap.size, 5, none⟩ = some (.string ⟨#[]⟩) := B.cell 5
      have rf := B.free
      have hbk' := Lib.hid hbk
      clear hno hownk B hres hbk
      go_wp2
      refine bodyPost_ret (v := .tuple #[.agg #[.int .i64 0, .int .i64 0, .string ⟨#[]⟩, .int .i64 0, .int .i64 0, .string ⟨#[]⟩], .bool false]) (by simp [results, Tryz.results26, go_sem, r0, r1, r2, r3, r4, r5]) rfl ⟨by rw [HF.out]; rfl, ?_⟩
      repeat (with_reducible refine Below.setCell ?_ (by (first | omega | (simp only [sz_alloc, sz_setCell, sz_drew, sz_drewN]; omega) | (simp; done) | (simp; omega))) _)
      exact hbk'.out

set_option maxHeartbeats 1000000 in
theorem funcs_Of (name : ByteArray) (w : World) (HSc : ∀ wx : World, Calls Tryz.prog 124 #[] wx fun e w' => ∃ g, e = .returned (.slice (some ⟨g, 0, none⟩) 23 23) ∧ Below wx.heap.size wx w' ∧ wx.heap.size ≤ g ∧ w'.heap[g]? = some (.cells (scalarsL.flatMap SigS.cells).toArray 56 (0, 0))) :
    Calls Tryz.prog 37 #[.string name] w fun e w' => e = .returned (optSig (ofL name)) ∧ Below w.heap.size w w' := by
  have HA := Lib.hid fun wx => funcs_All wx HSc
  clear HSc
  go_enter Tryz.func37, Tryz.ntmps37
  go_wp2_with fail
  refine (HA.out _).mono ?_
  rintro e w1 ⟨g, cap, rfl, hb, hown⟩
  clear HA
  have hr := (hb.block w.heap.size (by simp)).trans (heap_alloc_new _ _)
  rw [sz_alloc] at hown hb
  have hb1 : Below w.heap.size w w1 := ((Below.refl _ _).alloc (Nat.le_refl _) _).trans (hb.mono (by omega))
  go_wp2
  go_loopw [8] (fun i wr => ∃ k, SeekRel w g cap (isName name) i k wr) (fun i _ => 49 - (intOf i).toNat)
  case atStart => exact ⟨0, by omega, rfl, hb1, hown, hr, fun _ _ h => by omega⟩
  case round =>
    clear hb hown hr hb1
    obtain ⟨k, hk, rfl, hbk, hownk, hres, hno⟩ := hrel
    by_cases hlt : k < 49
    · have hl : k < tableL.length := by rw [tableL_len]; exact hlt
      obtain ⟨S, hS⟩ : ∃ S, tableL[k]? = some S := ⟨_, List.getElem?_eq_getElem hl⟩
      have c0 := (table_cell hownk hlt hS).1
      have c1 := (table_cell hownk hlt hS).2.1
      have c2 := (table_cell hownk hlt hS).2.2.1
      have c3 := (table_cell hownk hlt hS).2.2.2.1
      have c4 := (table_cell hownk hlt hS).2.2.2.2.1
      have c5 := (table_cell hownk hlt hS).2.2.2.2.2
      have hgB := (hownk.lt g rfl)
      have hsk := hbk.size
      have hltr := lt_of_block hres
      have hne1 : ¬ w.heap.size = wr.heap.size := by omega
      have hne2 : ¬ wr.heap.size = w.heap.size := by omega
      have B : Blk wr w.heap.size sigZ.cells.toArray 56 := hres
      have r0 : wr.cell? ⟨w.heap.size, 0, none⟩ = some (.int .i64 0) := B.cell 0
      have r1 : wr.cell? ⟨w.heap.size, 1, none⟩ = some (.int .i64 0) := B.cell 1
      have r2 : wr.cell? ⟨w.heap.size, 2, none⟩ = some (.string ⟨#[]⟩) := B.cell 2
      have r3 : wr.cell? ⟨w.heap.size, 3, none⟩ = some (.int .i64 0) := B.cell 3
      have r4 : wr.cell? ⟨w.heap.size, 4, none⟩ = some (.int .i64 0) := B.cell 4
      have r5 : wr.cell? ⟨w.heap.size, 5, none⟩ = some (.string ⟨#[]⟩) := B.cell 5
      have rf := B.free
      have hno' := Lib.hid hno
      have hown' := Lib.hid hownk
      have hbk' := Lib.hid hbk
      have hres' := Lib.hid hres
      clear hno hownk B hres hbk
      cases hm : isName name S
      · have hmw : (S.name.toList == name.toList) = false := hm
        go_wp2
        go_roundw
        case rel =>
          refine ⟨k + 1, by omega, by go_num, hbk'.out.alloc hsk _, hown'.out.alloc _, ?_, ?_⟩
          · rw [heap_alloc_old _ _ hltr]; exact hres'.out
          · intro j hj hjk
            by_cases hjk' : j < k
            · exact hno'.out j hj hjk'
            · obtain rfl : j = k := by omega
              rw [List.getElem?_eq_getElem hj] at hS
              rw [Option.some.inj hS]; exact hm
        case measure => simp [intOf]; omega
      · have HF : Hid (ofL name = some S) := by
          rw [List.getElem?_eq_getElem hl] at hS
          have e := Option.some.inj hS
          unfold Hid ofL
          rw [find_at (p := isName name) hl (by rw [e]; exact hm) hno'.out, e]
        have hmw : (S.name.toList == name.toList) = true := hm
        go_upto_region 5 with (fail)
        first | with_reducible refine wp_rebase ?_ | with_reducible refine wpList_rebase ?_
        intro w1 hb'
        have hb := hb'.out
        clear hb'
        obtain ⟨s3, c3_0, c3_1, c3_2, c3_3, c3_4, c3_5, f3⟩ := L6 hb (w.heap.size) (by first | omega | (simp only [sA, sC, sD, sE]; omega) | (simp; done) | (simp; omega)) (by go_simp; exact ⟨rfl, rfl, rfl, rfl, rfl, rfl⟩) (by intro o; go_simp)
        obtain ⟨s4, c4_0, c4_1, c4_2, c4_3, c4_4, c4_5, f4⟩ := L6 hb (wr.heap.size) (by first | omega | (simp only [sA, sC, sD, sE]; omega) | (simp; done) | (simp; omega)) (by go_simp; exact ⟨rfl, rfl, rfl, rfl, rfl, rfl⟩) (by intro o; go_simp)
        have hB1 : Below w.heap.size w w1 := below_then (hbk'.out.alloc hsk _) (by simp only [sz_alloc]; omega) hb
        go_wp2
        refine bodyPost_ret (v := .tuple #[.agg #[.int .i64 S.id, .int .i64 S.cl, .string S.name, .int .i64 S.least, .int .i64 S.most, .string S.params], .bool true]) (by simp [results, Tryz.results37, go_sem, c3_0, c3_1, c3_2, c3_3, c3_4, c3_5, c4_0, c4_1, c4_2, c4_3, c4_4, c4_5]) rfl ⟨by rw [HF.out]; rfl, ?_⟩
        repeat (with_reducible refine Below.setCell ?_ (by (first | omega | (simp only [sz_alloc, sz_setCell, sz_drew, sz_drewN]; omega) | (simp; done) | (simp; omega))) _)
        exact hB1
    · obtain rfl : k = 49 := by omega
      have HF : Hid (ofL name = none) := by
        unfold Hid ofL
        exact find_no fun j hj => hno j hj (by rw [tableL_len] at hj; exact hj)
      have B : Blk wr w.heap.size sigZ.cells.toArray 56 := hres
      have r0 : wr.cell? ⟨w.heap.size, 0, none⟩ = some (.int .i64 0) := B.cell 0
      have r1 : wr.cell? ⟨w.heap.size, 1, none⟩ = some (.int .i64 0) := B.cell 1
      have r2 : wr.cell? ⟨w.heap.size, 2, none⟩ = some (.string ⟨#[]⟩) := B.cell 2
      have r3 : wr.cell? ⟨w.heap.size, 3, none⟩ = some (.int .i64 0) := B.cell 3
      have r4 : wr.cell? ⟨w.heap.size, 4, none⟩ = some (.int .i64 0) := B.cell 4
      have r5 : wr.cell? ⟨w.heap.size, 5, none⟩ = some (.string ⟨#[]⟩) := B.cell 5
      have rf := B.free
      have hbk' := Lib.hid hbk
      clear hno hownk B hres hbk
      go_wp2
      refine bodyPost_ret (v := .tuple #[.agg #[.int .i64 0, .int .i64 0, .string ⟨#[]⟩, .int .i64 0, .int .i64 0, .string ⟨#[]⟩], .bool false]) (by simp [results, Tryz.results37, go_sem, r0, r1, r2, r3, r4, r5]) rfl ⟨by rw [HF.out]; rfl, ?_⟩
      repeat (with_reducible refine Below.setCell ?_ (by (first | omega | (simp only [sz_alloc, sz_setCell, sz_drew, sz_drewN]; omega) | (simp; done) | (simp; omega))) _)
      exact hbk'.out

end Go.Proofs.YtglngfaagjgpjaaGreatDoor
