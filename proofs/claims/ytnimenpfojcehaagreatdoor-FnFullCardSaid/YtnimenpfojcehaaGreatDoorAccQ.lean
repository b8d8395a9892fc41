/- Walks of package funcs: a fold's small steps. Walks of package funcs: what a fold does with a number. Walks of package funcs: a fold of numbers takes one, by the map of its ways. Walks of package funcs: what a fold keeps; what the folds of numbers do with a cell, an argument; what they come to. The address of a field without cells. Walks of package funcs: what the folds of numbers do with a cell, an argument; what they come to. Walks of package funcs: a fold of numbers is opened; it takes a cell, an argument. -/
import Derived.Test.YtnimenpfojcehaaGreatDoorValC
import Derived.Test.YtnimenpfojcehaaGreatDoorBase
import Derived.Maps.OwnOps
import Derived.Handy
import Derived.Test.YtnimenpfojcehaaGreatDoorVTA
import Derived.Deep.QuietTactic
import Derived.BigQuiet
namespace Go.Proofs.YtnimenpfojcehaaGreatDoor
open Go.RowKit
set_option linter.unusedSimpArgs false
set_option linter.unusedVariables false

set_option maxHeartbeats 1000000 in
theorem acc_end (b : Nat) (S : AccS) (kd : Value) (v : Vl) (w : World) (hA : Blk w b (accArr S kd) 57) :
    Calls Tryz.prog 30 #[.pointer (some ⟨b, 0, none⟩), .agg #[.int .i64 (v).k, .int .i64 (v).n, .int .i64 (v).d, .string (v).t, .bool (v).b, .int .i64 (v).f]] w fun e w' => e = .returned (.tuple #[]) ∧ Blk w' b (accArr { S with full := true, v := v } kd) 57 ∧ But w.heap.size b w w' := by
  have hlt := hA.lt
  have hne : ¬ b = w.heap.size := by omega
  have hne' : ¬ w.heap.size = b := by omega
  have a1 : w.cell? ⟨b, 17, none⟩ = some (.bool S.full) := hA.cell 17
  have a2 : w.cell? ⟨b, 4, none⟩ = some (.int .i64 S.v.k) := hA.cell 4
  have a3 : w.cell? ⟨b, 5, none⟩ = some (.int .i64 S.v.n) := hA.cell 5
  have a4 : w.cell? ⟨b, 6, none⟩ = some (.int .i64 S.v.d) := hA.cell 6
  have a5 : w.cell? ⟨b, 7, none⟩ = some (.string S.v.t) := hA.cell 7
  have a6 : w.cell? ⟨b, 8, none⟩ = some (.bool S.v.b) := hA.cell 8
  have a7 : w.cell? ⟨b, 9, none⟩ = some (.int .i64 S.v.f) := hA.cell 9
  have fz := hA.free
  go_enter Tryz.func30, Tryz.ntmps30
  go_wp2_with fail
  go_region
  go_wp2
  go_end0
  refine ⟨rfl, ((((((((hA.set 17 _).set 4 _).set 5 _).set 6 _).set 7 _).set 8 _).set 9 _).alloc _).drew.cast (by simp only [accArr, List.setIfInBounds_toArray, List.set_cons_zero, List.set_cons_succ]), ?_⟩
  repeat (first | with_reducible exact But.refl _ _ _ | with_reducible refine But.drewN ?_ _ | with_reducible refine But.drew ?_ | with_reducible refine But.setCell ?_ _ _ | with_reducible refine But.setNew ?_ (by (first | omega | (simp only [sz_alloc, sz_setCell, sz_drew, sz_drewN]; omega) | (simp; done) | (simp; omega))) _ | with_reducible refine But.alloc ?_ (by (first | omega | (simp only [sz_alloc, sz_setCell, sz_drew, sz_drewN]; omega) | (simp; done) | (simp; omega))) _ | with_reducible refine But.thenBelow ?_ ?_ (by with_reducible assumption) | with_reducible refine But.then ?_ ?_ (by with_reducible assumption) | (first | omega | (simp only [sz_alloc, sz_setCell, sz_drew, sz_drewN]; omega) | (simp; done) | (simp; omega)))

set_option maxHeartbeats 1000000 in
theorem acc_sets (b : Nat) (S : AccS) (kd : Value) (n d : Int) (ok : Bool) (w : World) (hA : Blk w b (accArr S kd) 57) :
    Calls Tryz.prog 190 #[.pointer (some ⟨b, 0, none⟩), .agg #[.int .i64 n, .int .i64 d], .bool ok] w fun e w' => e = .returned (.bool ok) ∧ Blk w' b (accArr (if ok then { S with n := n, d := d } else { S with full := true, v := faultF 4 }) kd) 57 ∧ But w.heap.size b w w' := by
  have hlt := hA.lt
  have hne : ¬ b = w.heap.size := by omega
  have hne' : ¬ w.heap.size = b := by omega
  cases ok
  · have HA := Lib.hid (hA.alloc (.cells #[.int .i64 n, .int .i64 d] 31))
    go_enter Tryz.func190, Tryz.ntmps190
    go_wp2_with fail
    refine (value_Fault _ _).mono ?_
    rintro e w1 ⟨rfl, hb⟩
    have A1 := HA.out.below hb
    have z8 := Below.size hb
    try simp only [sz_alloc, sz_setCell, sz_drew, sz_drewN] at z8
    go_wp2_with fail
    refine (acc_end b S kd _ _ A1).mono ?_
    rintro e w2 ⟨rfl, A2, hb2⟩
    have z9 := But.size hb2
    try simp only [sz_alloc, sz_setCell, sz_drew, sz_drewN] at z9
    go_wp2
    go_ret
    refine ⟨rfl, A2, ?_⟩
    repeat (first | with_reducible exact But.refl _ _ _ | with_reducible refine But.drewN ?_ _ | with_reducible refine But.drew ?_ | with_reducible refine But.setCell ?_ _ _ | with_reducible refine But.setNew ?_ (by (first | omega | (simp only [sz_alloc, sz_setCell, sz_drew, sz_drewN]; omega) | (simp; done) | (simp; omega))) _ | with_reducible refine But.alloc ?_ (by (first | omega | (simp only [sz_alloc, sz_setCell, sz_drew, sz_drewN]; omega) | (simp; done) | (simp; omega))) _ | with_reducible refine But.thenBelow ?_ ?_ (by with_reducible assumption) | with_reducible refine But.then ?_ ?_ (by with_reducible assumption) | (first | omega | (simp only [sz_alloc, sz_setCell, sz_drew, sz_drewN]; omega) | (simp; done) | (simp; omega)))
  · have a10 : w.cell? ⟨b, 2, none⟩ = some (.int .i64 S.n) := hA.cell 2
    have a11 : w.cell? ⟨b, 3, none⟩ = some (.int .i64 S.d) := hA.cell 3
    have fz := hA.free
    go_enter Tryz.func190, Tryz.ntmps190
    go_wp2
    go_ret
    refine ⟨rfl, (((hA.set 2 _).set 3 _).alloc _).cast (by simp only [accArr, List.setIfInBounds_toArray, List.set_cons_zero, List.set_cons_succ]), ?_⟩
    repeat (first | with_reducible exact But.refl _ _ _ | with_reducible refine But.drewN ?_ _ | with_reducible refine But.drew ?_ | with_reducible refine But.setCell ?_ _ _ | with_reducible refine But.setNew ?_ (by (first | omega | (simp only [sz_alloc, sz_setCell, sz_drew, sz_drewN]; omega) | (simp; done) | (simp; omega))) _ | with_reducible refine But.alloc ?_ (by (first | omega | (simp only [sz_alloc, sz_setCell, sz_drew, sz_drewN]; omega) | (simp; done) | (simp; omega))) _ | with_reducible refine But.thenBelow ?_ ?_ (by with_reducible assumption) | with_reducible refine But.then ?_ ?_ (by with_reducible assumption) | (first | omega | (simp only [sz_alloc, sz_setCell, sz_drew, sz_drewN]; omega) | (simp; done) | (simp; omega)))
end Go.Proofs.YtnimenpfojcehaaGreatDoor
namespace Go.Proofs.YtnimenpfojcehaaGreatDoor
open Go.RowKit
set_option linter.unusedSimpArgs false
set_option linter.unusedVariables false

def AccS.sets (S : AccS) (r : NmB) : AccS := if r.ok then { S with n := r.n, d := r.d } else { S with full := true, v := faultF 4 }

set_option maxHeartbeats 1000000 in
theorem acc_adds (b : Nat) (S : AccS) (kd : Value) (n d : Int) (w : World) (hA : Blk w b (accArr S kd) 57) (h1 : I64 S.n) (h2 : I64 S.d) (h3 : I64 n) (h4 : I64 d) :
    Calls Tryz.prog 183 #[.pointer (some ⟨b, 0, none⟩), .agg #[.int .i64 n, .int .i64 d]] w fun e w' => e = .returned (.tuple #[]) ∧ Blk w' b (accArr (S.sets (add S.n S.d n d)) kd) 57 ∧ But w.heap.size b w w' := by
  have hlt := hA.lt
  have hne : ¬ b = w.heap.size := by omega
  have hne' : ¬ w.heap.size = b := by omega
  have a12 : w.cell? ⟨b, 2, none⟩ = some (.int .i64 S.n) := hA.cell 2
  have a13 : w.cell? ⟨b, 3, none⟩ = some (.int .i64 S.d) := hA.cell 3
  have fz := hA.free
  have HA := Lib.hid (hA.alloc (.cells #[.int .i64 n, .int .i64 d] 31))
  go_enter Tryz.func183, Tryz.ntmps183
  go_wp2_with fail
  refine region_below 10 (by kernel_rfl) (by kernel_rfl) ?_
  simp only [List.take_succ_cons, List.take_zero, List.drop_succ_cons, List.drop_zero]
  repeat
    first | (refine q_run ?_ ?_; focus (go_simp; done)) | (refine q_skip ?_ ?_; focus (go_simp; done))
    try (apply Exists.intro; refine ⟨fun w' hw' => ?_, ?_⟩; focus (have hc := (bcell hw'.out).1; unfold Oper.quietAt; go_simp; (try go_ints); (first | rfl | (go_at_call 82; refine (num_Add _ _ _ _ _ h1 h2 h3 h4).mono ?_; rintro e w2 ⟨rfl, hb⟩; exact ⟨rfl, hw'.chain hb⟩))))
    intro K hK
    go_simp
    refine hK _ ?_
    clear hK K
  refine wpQuiet_nil ?_
  intro w1 hb'
  have hb := hb'.out
  clear hb'
  have A1 := HA.out.below hb
  have z14 := Below.size hb
  try simp only [sz_alloc, sz_setCell, sz_drew, sz_drewN] at z14
  go_wp2_with fail
  refine (acc_sets b S kd _ _ _ _ A1).mono ?_
  rintro e w2 ⟨rfl, A2, hb2⟩
  have z15 := But.size hb2
  try simp only [sz_alloc, sz_setCell, sz_drew, sz_drewN] at z15
  go_wp2
  go_end0
  refine ⟨rfl, A2, ?_⟩
  repeat (first | with_reducible exact But.refl _ _ _ | with_reducible refine But.drewN ?_ _ | with_reducible refine But.drew ?_ | with_reducible refine But.setCell ?_ _ _ | with_reducible refine But.setNew ?_ (by (first | omega | (simp only [sz_alloc, sz_setCell, sz_drew, sz_drewN]; omega) | (simp; done) | (simp; omega))) _ | with_reducible refine But.alloc ?_ (by (first | omega | (simp only [sz_alloc, sz_setCell, sz_drew, sz_drewN]; omega) | (simp; done) | (simp; omega))) _ | with_reducible refine But.thenBelow ?_ ?_ (by with_reducible assumption) | with_reducible refine But.then ?_ ?_ (by with_reducible assumption) | (first | omega | (simp only [sz_alloc, sz_setCell, sz_drew, sz_drewN]; omega) | (simp; done) | (simp; omega)))

set_option maxHeartbeats 1000000 in
theorem acc_multiplies (b : Nat) (S : AccS) (kd : Value) (n d : Int) (w : World) (hA : Blk w b (accArr S kd) 57) (h1 : I64 S.n) (h2 : I64 S.d) (h3 : I64 n) (h4 : I64 d) :
    Calls Tryz.prog 186 #[.pointer (some ⟨b, 0, none⟩), .agg #[.int .i64 n, .int .i64 d]] w fun e w' => e = .returned (.tuple #[]) ∧ Blk w' b (accArr (S.sets (mul S.n S.d n d)) kd) 57 ∧ But w.heap.size b w w' := by
  have hlt := hA.lt
  have hne : ¬ b = w.heap.size := by omega
  have hne' : ¬ w.heap.size = b := by omega
  have a16 : w.cell? ⟨b, 2, none⟩ = some (.int .i64 S.n) := hA.cell 2
  have a17 : w.cell? ⟨b, 3, none⟩ = some (.int .i64 S.d) := hA.cell 3
  have fz := hA.free
  have HA := Lib.hid (hA.alloc (.cells #[.int .i64 n, .int .i64 d] 31))
  go_enter Tryz.func186, Tryz.ntmps186
  go_wp2_with fail
  refine region_below 10 (by kernel_rfl) (by kernel_rfl) ?_
  simp only [List.take_succ_cons, List.take_zero, List.drop_succ_cons, List.drop_zero]
  repeat
    first | (refine q_run ?_ ?_; focus (go_simp; done)) | (refine q_skip ?_ ?_; focus (go_simp; done))
    try (apply Exists.intro; refine ⟨fun w' hw' => ?_, ?_⟩; focus (have hc := (bcell hw'.out).1; unfold Oper.quietAt; go_simp; (try go_ints); (first | rfl | (go_at_call 28; refine (num_Mul _ _ _ _ _ h1 h2 h3 h4).mono ?_; rintro e w2 ⟨rfl, hb⟩; exact ⟨rfl, hw'.chain hb⟩))))
    intro K hK
    go_simp
    refine hK _ ?_
    clear hK K
  refine wpQuiet_nil ?_
  intro w1 hb'
  have hb := hb'.out
  clear hb'
  have A1 := HA.out.below hb
  have z18 := Below.size hb
  try simp only [sz_alloc, sz_setCell, sz_drew, sz_drewN] at z18
  go_wp2_with fail
  refine (acc_sets b S kd _ _ _ _ A1).mono ?_
  rintro e w2 ⟨rfl, A2, hb2⟩
  have z19 := But.size hb2
  try simp only [sz_alloc, sz_setCell, sz_drew, sz_drewN] at z19
  go_wp2
  go_end0
  refine ⟨rfl, A2, ?_⟩
  repeat (first | with_reducible exact But.refl _ _ _ | with_reducible refine But.drewN ?_ _ | with_reducible refine But.drew ?_ | with_reducible refine But.setCell ?_ _ _ | with_reducible refine But.setNew ?_ (by (first | omega | (simp only [sz_alloc, sz_setCell, sz_drew, sz_drewN]; omega) | (simp; done) | (simp; omega))) _ | with_reducible refine But.alloc ?_ (by (first | omega | (simp only [sz_alloc, sz_setCell, sz_drew, sz_drewN]; omega) | (simp; done) | (simp; omega))) _ | with_reducible refine But.thenBelow ?_ ?_ (by with_reducible assumption) | with_reducible refine But.then ?_ ?_ (by with_reducible assumption) | (first | omega | (simp only [sz_alloc, sz_setCell, sz_drew, sz_drewN]; omega) | (simp; done) | (simp; omega)))


end Go.Proofs.YtnimenpfojcehaaGreatDoor
namespace Go.Proofs.YtnimenpfojcehaaGreatDoor
open Go Go.RowKit Go.Maps
set_option linter.unusedSimpArgs false
set_option linter.unusedVariables false

/-- How an element of the map of ways reads: by the function's number. -/
def wayR (v : Value) : Option (DataW Unit × List MemPlace) :=
  match v with
  | .func (.func k) a b => if a.size = 0 ∧ b.size = 0 then some (.lit (.int .i64 k), []) else some (.lit (.bool false), [])
  | _ => some (.lit (.bool false), [])
theorem wayR_mk (k : Nat) : wayR (.func (.func k) #[] #[]) = some (.lit (.int .i64 k), []) := rfl
theorem wayR_inv {v : Value} {k : Nat} {ps : List MemPlace} (h : wayR v = some (.lit (.int .i64 k), ps)) : v = .func (.func k) #[] #[] := by
  unfold wayR at h
  split at h
  · rename_i m a b
    split at h
    · rename_i hz
      simp only [Option.some.injEq, Prod.mk.injEq, DataW.lit.injEq, Lit.int.injEq, true_and] at h
      obtain ⟨h1, _⟩ := h
      obtain rfl : m = k := Int.ofNat_inj.1 h1
      rw [Array.eq_empty_of_size_eq_zero hz.1, Array.eq_empty_of_size_eq_zero hz.2]
    · simp at h
  · simp at h

theorem keyI : Keyed Tryz.prog 3 := int_keyed Tryz.underlying3
theorem keyI_of {a : Int} (h : (Lit.int .i64 a).wf = true) : keyOf Tryz.prog 3 (.int .i64 a) = some (.int .i64 a) := keyOf_int_mk Tryz.underlying3 h
/-- A call that turns a fold's block, and no other that was there. -/
structure Turns (m : Nat) (args : Array Value) (b : Nat) (S S' : AccS) (kd : Value) : Prop where
  out : ∀ wx : World, Blk wx b (accArr S kd) 57 → Calls Tryz.prog m args wx fun e w' => e = .returned (.tuple #[]) ∧ Blk w' b (accArr S' kd) 57 ∧ But wx.heap.size b wx w'

/-- The map of ways, by its keys. -/
def waysD : DataW Unit :=
  (((((((DataW.map []).put (.int .i64 1) (.lit (.int .i64 183))).put (.int .i64 12) (.lit (.int .i64 184))).put (.int .i64 7) (.lit (.int .i64 185))).put (.int .i64 2) (.lit (.int .i64 186))).put (.int .i64 5) (.lit (.int .i64 187))).put (.int .i64 6) (.lit (.int .i64 188))).put (.int .i64 13) (.lit (.int .i64 189))
theorem zeroWay (w : World) : (zeroValue 247).run Tryz.prog w = .ok .nilFunc w := by kernel_rfl

theorem grown_trans {a b c : World} {r : Option Nat} (h : a.grownBy b r) (k : b.grownBy c r) : a.grownBy c r :=
  ⟨k.os.trans h.os, k.tape.trans h.tape, k.output.trans h.output, Nat.le_trans h.size k.size, fun i hi hne => (k.block i (Nat.lt_of_lt_of_le hi h.size) hne).trans (h.block i hi hne)⟩
theorem ways_found {w w' : World} {b n : Nat} (h : w.ownsMap Tryz.prog 3 wayR b n waysD) (hw : Below w.heap.size w w') {K : Int} (hK : (Lit.int .i64 K).wf = true) {m : Nat}
    (hat : ∀ z, waysD.atKey (.int .i64 K) z = .lit (.int .i64 m)) :
    (Instr.lookup 248 (.map (some b)) (.int .i64 K) false).run Tryz.prog w' = .ok (.func (.func m) #[] #[]) w' := by
  have ho : w'.ownsMap Tryz.prog 3 wayR b n waysD := h.kept (row := none) ⟨hw.os, hw.tape, hw.output, hw.size, fun k hk _ => hw.block k hk⟩ (by simp)
  obtain ⟨v, ps, hrun, hv⟩ := ho.lookup keyI Tryz.underlying248 (zeroWay _) (zd := .lit (.bool false)) (zp := []) rfl (keyI_of hK)
  rw [hat] at hv
  obtain rfl := wayR_inv hv
  exact hrun
theorem But.grown {B b g : Nat} {w w1 w2 : World} (h : But B b w w1) (hg : w1.grownBy w2 (some g)) (hB : B ≤ g) (hs : B ≤ w1.heap.size) : But B b w w2 :=
  h.trans (But.of_below ⟨hg.os, hg.tape, hg.output, hg.size, fun k hk => hg.block k (by omega) (by simp; omega)⟩)

set_option maxRecDepth 100000 in
set_option maxHeartbeats 1000000 in
theorem acc_takes1 (b : Nat) (S S' : AccS) (kd : Value) (n d : Int) (hf : S.fn = 1) (HM : Turns 183 #[.pointer (some ⟨b, 0, none⟩), .agg #[.int .i64 n, .int .i64 d]] b S S' kd) :
    Turns 182 #[.pointer (some ⟨b, 0, none⟩), .agg #[.int .i64 n, .int .i64 d]] b S S' kd := by
  constructor
  intro w hA
  have hlt := hA.lt
  have hne : ¬ b = w.heap.size := by omega
  have hne' : ¬ w.heap.size = b := by omega
  have HA := Lib.hid hA
  have hmm := @run_makeMap Tryz.prog
  have HF := Lib.hid hf
  clear hf
  go_enter Tryz.func182, Tryz.ntmps182
  have hm0 := World.ownsMap_made (w.alloc (.cells #[.int .i64 n, .int .i64 d] 31)) Tryz.prog 3 wayR
  rw [sz_alloc] at hm0
  go_wp2_with fail
  obtain ⟨v0, hr0, hown0, hg0⟩ := World.ownsMap.update hm0 keyI Tryz.underlying248 (by decide) (keyI_of (a := 1) (by decide)) (wayR_mk 183)
  rw [hr0]
  go_wp2_with fail
  obtain ⟨v1, hr1, hown1, hg1⟩ := World.ownsMap.update hown0 keyI Tryz.underlying248 (by decide) (keyI_of (a := 12) (by decide)) (wayR_mk 184)
  rw [hr1]
  go_wp2_with fail
  obtain ⟨v2, hr2, hown2, hg2⟩ := World.ownsMap.update hown1 keyI Tryz.underlying248 (by decide) (keyI_of (a := 7) (by decide)) (wayR_mk 185)
  rw [hr2]
  go_wp2_with fail
  obtain ⟨v3, hr3, hown3, hg3⟩ := World.ownsMap.update hown2 keyI Tryz.underlying248 (by decide) (keyI_of (a := 2) (by decide)) (wayR_mk 186)
  rw [hr3]
  go_wp2_with fail
  obtain ⟨v4, hr4, hown4, hg4⟩ := World.ownsMap.update hown3 keyI Tryz.underlying248 (by decide) (keyI_of (a := 5) (by decide)) (wayR_mk 187)
  rw [hr4]
  go_wp2_with fail
  obtain ⟨v5, hr5, hown5, hg5⟩ := World.ownsMap.update hown4 keyI Tryz.underlying248 (by decide) (keyI_of (a := 6) (by decide)) (wayR_mk 188)
  rw [hr5]
  go_wp2_with fail
  obtain ⟨v6, hr6, hown6, hg6⟩ := World.ownsMap.update hown5 keyI Tryz.underlying248 (by decide) (keyI_of (a := 13) (by decide)) (wayR_mk 189)
  rw [hr6]
  go_wp2_with fail
  have G := grown_trans (grown_trans (grown_trans (grown_trans (grown_trans (grown_trans hg0 hg1) hg2) hg3) hg4) hg5) hg6
  have A6 : Blk v6 b (accArr S kd) 57 := by unfold Blk; rw [G.block b (by simp; omega) (by simp; omega)]; exact (HA.out.alloc _).alloc _
  have N6 : Blk v6 w.heap.size #[.int .i64 n, .int .i64 d] 31 := by unfold Blk; rw [G.block _ (by simp; omega) (by simp)]; exact Blk.alloc (heap_alloc_new _ _) _
  have a0 : v6.cell? ⟨b, 0, none⟩ = some (.int .i64 1) := (A6.cell 0).trans (by rw [← HF.out]; rfl)
  have n0 : v6.cell? ⟨w.heap.size, 0, none⟩ = some (.int .i64 n) := N6.cell 0
  have n1 : v6.cell? ⟨w.heap.size, 1, none⟩ = some (.int .i64 d) := N6.cell 1
  have hl0 := A6.lt
  have hl1 := N6.lt
  have LK := fun (w' : World) (hw : Below v6.heap.size v6 w') => ways_found (K := 1) (m := 183) hown6 hw (by decide) (fun _ => rfl)
  clear hr0 hr1 hr2 hr3 hr4 hr5 hr6 hown0 hown1 hown2 hown3 hown4 hown5 hown6 hg0 hg1 hg2 hg3 hg4 hg5 hg6 hm0 hmm
  have hG := Lib.hid G
  have AA := Lib.hid A6
  clear G A6 N6
  refine region_below 9 (by kernel_rfl) (by kernel_rfl) ?_
  simp only [List.take_succ_cons, List.take_zero, List.drop_succ_cons, List.drop_zero]
  repeat
    first | (refine q_run ?_ ?_; focus (go_simp; done)) | (refine q_skip ?_ ?_; focus (go_simp; done))
    try (apply Exists.intro; refine ⟨fun w' hw' => ?_, ?_⟩; focus (have hc := (bcell hw'.out).1; have hx0 := LK w' hw'.out; unfold Oper.quietAt; go_simp; (try go_ints); (first | rfl)))
    intro K hK
    go_simp
    refine hK _ ?_
    clear hK K
  refine wpQuiet_nil ?_
  intro w1 hb'
  have hb := hb'.out
  clear hb'
  clear LK
  have A1 := AA.out.below hb
  have hs1 := hb.size
  go_wp2_with fail
  refine (HM.out _ A1).mono ?_
  rintro e w2 ⟨rfl, A2, hb2⟩
  go_wp2
  go_end0
  refine ⟨rfl, A2, ?_⟩
  have hs0 := hG.out.size
  simp only [sz_alloc] at hs0
  exact (((((But.refl w.heap.size b w).alloc (Nat.le_refl _) _).alloc (by simp) _).grown hG.out (by omega) (by simp only [sz_alloc]; omega)).thenBelow (by omega) hb).then (by omega) hb2
set_option maxRecDepth 100000 in
set_option maxHeartbeats 1000000 in
theorem acc_takes2 (b : Nat) (S S' : AccS) (kd : Value) (n d : Int) (hf : S.fn = 2) (HM : Turns 186 #[.pointer (some ⟨b, 0, none⟩), .agg #[.int .i64 n, .int .i64 d]] b S S' kd) :
    Turns 182 #[.pointer (some ⟨b, 0, none⟩), .agg #[.int .i64 n, .int .i64 d]] b S S' kd := by
  constructor
  intro w hA
  have hlt := hA.lt
  have hne : ¬ b = w.heap.size := by omega
  have hne' : ¬ w.heap.size = b := by omega
  have HA := Lib.hid hA
  have hmm := @run_makeMap Tryz.prog
  have HF := Lib.hid hf
  clear hf
  go_enter Tryz.func182, Tryz.ntmps182
  have hm0 := World.ownsMap_made (w.alloc (.cells #[.int .i64 n, .int .i64 d] 31)) Tryz.prog 3 wayR
  rw [sz_alloc] at hm0
  go_wp2_with fail
  obtain ⟨v0, hr0, hown0, hg0⟩ := World.ownsMap.update hm0 keyI Tryz.underlying248 (by decide) (keyI_of (a := 1) (by decide)) (wayR_mk 183)
  rw [hr0]
  go_wp2_with fail
  obtain ⟨v1, hr1, hown1, hg1⟩ := World.ownsMap.update hown0 keyI Tryz.underlying248 (by decide) (keyI_of (a := 12) (by decide)) (wayR_mk 184)
  rw [hr1]
  go_wp2_with fail
  obtain ⟨v2, hr2, hown2, hg2⟩ := World.ownsMap.update hown1 keyI Tryz.underlying248 (by decide) (keyI_of (a := 7) (by decide)) (wayR_mk 185)
  rw [hr2]
  go_wp2_with fail
  obtain ⟨v3, hr3, hown3, hg3⟩ := World.ownsMap.update hown2 keyI Tryz.underlying248 (by decide) (keyI_of (a := 2) (by decide)) (wayR_mk 186)
  rw [hr3]
  go_wp2_with fail
  obtain ⟨v4, hr4, hown4, hg4⟩ := World.ownsMap.update hown3 keyI Tryz.underlying248 (by decide) (keyI_of (a := 5) (by decide)) (wayR_mk 187)
  rw [hr4]
  go_wp2_with fail
  obtain ⟨v5, hr5, hown5, hg5⟩ := World.ownsMap.update hown4 keyI Tryz.underlying248 (by decide) (keyI_of (a := 6) (by decide)) (wayR_mk 188)
  rw [hr5]
  go_wp2_with fail
  obtain ⟨v6, hr6, hown6, hg6⟩ := World.ownsMap.update hown5 keyI Tryz.underlying248 (by decide) (keyI_of (a := 13) (by decide)) (wayR_mk 189)
  rw [hr6]
  go_wp2_with fail
  have G := grown_trans (grown_trans (grown_trans (grown_trans (grown_trans (grown_trans hg0 hg1) hg2) hg3) hg4) hg5) hg6
  have A6 : Blk v6 b (accArr S kd) 57 := by unfold Blk; rw [G.block b (by simp; omega) (by simp; omega)]; exact (HA.out.alloc _).alloc _
  have N6 : Blk v6 w.heap.size #[.int .i64 n, .int .i64 d] 31 := by unfold Blk; rw [G.block _ (by simp; omega) (by simp)]; exact Blk.alloc (heap_alloc_new _ _) _
  have a0 : v6.cell? ⟨b, 0, none⟩ = some (.int .i64 2) := (A6.cell 0).trans (by rw [← HF.out]; rfl)
  have n0 : v6.cell? ⟨w.heap.size, 0, none⟩ = some (.int .i64 n) := N6.cell 0
  have n1 : v6.cell? ⟨w.heap.size, 1, none⟩ = some (.int .i64 d) := N6.cell 1
  have hl0 := A6.lt
  have hl1 := N6.lt
  have LK := fun (w' : World) (hw : Below v6.heap.size v6 w') => ways_found (K := 2) (m := 186) hown6 hw (by decide) (fun _ => rfl)
  clear hr0 hr1 hr2 hr3 hr4 hr5 hr6 hown0 hown1 hown2 hown3 hown4 hown5 hown6 hg0 hg1 hg2 hg3 hg4 hg5 hg6 hm0 hmm
  have hG := Lib.hid G
  have AA := Lib.hid A6
  clear G A6 N6
  refine region_below 9 (by kernel_rfl) (by kernel_rfl) ?_
  simp only [List.take_succ_cons, List.take_zero, List.drop_succ_cons, List.drop_zero]
  repeat
    first | (refine q_run ?_ ?_; focus (go_simp; done)) | (refine q_skip ?_ ?_; focus (go_simp; done))
    try (apply Exists.intro; refine ⟨fun w' hw' => ?_, ?_⟩; focus (have hc := (bcell hw'.out).1; have hx0 := LK w' hw'.out; unfold Oper.quietAt; go_simp; (try go_ints); (first | rfl)))
    intro K hK
    go_simp
    refine hK _ ?_
    clear hK K
  refine wpQuiet_nil ?_
  intro w1 hb'
  have hb := hb'.out
  clear hb'
  clear LK
  have A1 := AA.out.below hb
  have hs1 := hb.size
  go_wp2_with fail
  refine (HM.out _ A1).mono ?_
  rintro e w2 ⟨rfl, A2, hb2⟩
  go_wp2
  go_end0
  refine ⟨rfl, A2, ?_⟩
  have hs0 := hG.out.size
  simp only [sz_alloc] at hs0
  exact (((((But.refl w.heap.size b w).alloc (Nat.le_refl _) _).alloc (by simp) _).grown hG.out (by omega) (by simp only [sz_alloc]; omega)).thenBelow (by omega) hb).then (by omega) hb2
set_option maxRecDepth 100000 in
set_option maxHeartbeats 1000000 in
theorem acc_takes5 (b : Nat) (S S' : AccS) (kd : Value) (n d : Int) (hf : S.fn = 5) (HM : Turns 187 #[.pointer (some ⟨b, 0, none⟩), .agg #[.int .i64 n, .int .i64 d]] b S S' kd) :
    Turns 182 #[.pointer (some ⟨b, 0, none⟩), .agg #[.int .i64 n, .int .i64 d]] b S S' kd := by
  constructor
  intro w hA
  have hlt := hA.lt
  have hne : ¬ b = w.heap.size := by omega
  have hne' : ¬ w.heap.size = b := by omega
  have HA := Lib.hid hA
  have hmm := @run_makeMap Tryz.prog
  have HF := Lib.hid hf
  clear hf
  go_enter Tryz.func182, Tryz.ntmps182
  have hm0 := World.ownsMap_made (w.alloc (.cells #[.int .i64 n, .int .i64 d] 31)) Tryz.prog 3 wayR
  rw [sz_alloc] at hm0
  go_wp2_with fail
  obtain ⟨v0, hr0, hown0, hg0⟩ := World.ownsMap.update hm0 keyI Tryz.underlying248 (by decide) (keyI_of (a := 1) (by decide)) (wayR_mk 183)
  rw [hr0]
  go_wp2_with fail
  obtain ⟨v1, hr1, hown1, hg1⟩ := World.ownsMap.update hown0 keyI Tryz.underlying248 (by decide) (keyI_of (a := 12) (by decide)) (wayR_mk 184)
  rw [hr1]
  go_wp2_with fail
  obtain ⟨v2, hr2, hown2, hg2⟩ := World.ownsMap.update hown1 keyI Tryz.underlying248 (by decide) (keyI_of (a := 7) (by decide)) (wayR_mk 185)
  rw [hr2]
  go_wp2_with fail
  obtain ⟨v3, hr3, hown3, hg3⟩ := World.ownsMap.update hown2 keyI Tryz.underlying248 (by decide) (keyI_of (a := 2) (by decide)) (wayR_mk 186)
  rw [hr3]
  go_wp2_with fail
  obtain ⟨v4, hr4, hown4, hg4⟩ := World.ownsMap.update hown3 keyI Tryz.underlying248 (by decide) (keyI_of (a := 5) (by decide)) (wayR_mk 187)
  rw [hr4]
  go_wp2_with fail
  obtain ⟨v5, hr5, hown5, hg5⟩ := World.ownsMap.update hown4 keyI Tryz.underlying248 (by decide) (keyI_of (a := 6) (by decide)) (wayR_mk 188)
  rw [hr5]
  go_wp2_with fail
  obtain ⟨v6, hr6, hown6, hg6⟩ := World.ownsMap.update hown5 keyI Tryz.underlying248 (by decide) (keyI_of (a := 13) (by decide)) (wayR_mk 189)
  rw [hr6]
  go_wp2_with fail
  have G := grown_trans (grown_trans (grown_trans (grown_trans (grown_trans (grown_trans hg0 hg1) hg2) hg3) hg4) hg5) hg6
  have A6 : Blk v6 b (accArr S kd) 57 := by unfold Blk; rw [G.block b (by simp; omega) (by simp; omega)]; exact (HA.out.alloc _).alloc _
  have N6 : Blk v6 w.heap.size #[.int .i64 n, .int .i64 d] 31 := by unfold Blk; rw [G.block _ (by simp; omega) (by simp)]; exact Blk.alloc (heap_alloc_new _ _) _
  have a0 : v6.cell? ⟨b, 0, none⟩ = some (.int .i64 5) := (A6.cell 0).trans (by rw [← HF.out]; rfl)
  have n0 : v6.cell? ⟨w.heap.size, 0, none⟩ = some (.int .i64 n) := N6.cell 0
  have n1 : v6.cell? ⟨w.heap.size, 1, none⟩ = some (.int .i64 d) := N6.cell 1
  have hl0 := A6.lt
  have hl1 := N6.lt
  have LK := fun (w' : World) (hw : Below v6.heap.size v6 w') => ways_found (K := 5) (m := 187) hown6 hw (by decide) (fun _ => rfl)
  clear hr0 hr1 hr2 hr3 hr4 hr5 hr6 hown0 hown1 hown2 hown3 hown4 hown5 hown6 hg0 hg1 hg2 hg3 hg4 hg5 hg6 hm0 hmm
  have hG := Lib.hid G
  have AA := Lib.hid A6
  clear G A6 N6
  refine region_below 9 (by kernel_rfl) (by kernel_rfl) ?_
  simp only [List.take_succ_cons, List.take_zero, List.drop_succ_cons, List.drop_zero]
  repeat
    first | (refine q_run ?_ ?_; focus (go_simp; done)) | (refine q_skip ?_ ?_; focus (go_simp; done))
    try (apply Exists.intro; refine ⟨fun w' hw' => ?_, ?_⟩; focus (have hc := (bcell hw'.out).1; have hx0 := LK w' hw'.out; unfold Oper.quietAt; go_simp; (try go_ints); (first | rfl)))
    intro K hK
    go_simp
    refine hK _ ?_
    clear hK K
  refine wpQuiet_nil ?_
  intro w1 hb'
  have hb := hb'.out
  clear hb'
  clear LK
  have A1 := AA.out.below hb
  have hs1 := hb.size
  go_wp2_with fail
  refine (HM.out _ A1).mono ?_
  rintro e w2 ⟨rfl, A2, hb2⟩
  go_wp2
  go_end0
  refine ⟨rfl, A2, ?_⟩
  have hs0 := hG.out.size
  simp only [sz_alloc] at hs0
  exact (((((But.refl w.heap.size b w).alloc (Nat.le_refl _) _).alloc (by simp) _).grown hG.out (by omega) (by simp only [sz_alloc]; omega)).thenBelow (by omega) hb).then (by omega) hb2
set_option maxRecDepth 100000 in
set_option maxHeartbeats 1000000 in
theorem acc_takes6 (b : Nat) (S S' : AccS) (kd : Value) (n d : Int) (hf : S.fn = 6) (HM : Turns 188 #[.pointer (some ⟨b, 0, none⟩), .agg #[.int .i64 n, .int .i64 d]] b S S' kd) :
    Turns 182 #[.pointer (some ⟨b, 0, none⟩), .agg #[.int .i64 n, .int .i64 d]] b S S' kd := by
  constructor
  intro w hA
  have hlt := hA.lt
  have hne : ¬ b = w.heap.size := by omega
  have hne' : ¬ w.heap.size = b := by omega
  have HA := Lib.hid hA
  have hmm := @run_makeMap Tryz.prog
  have HF := Lib.hid hf
  clear hf
  go_enter Tryz.func182, Tryz.ntmps182
  have hm0 := World.ownsMap_made (w.alloc (.cells #[.int .i64 n, .int .i64 d] 31)) Tryz.prog 3 wayR
  rw [sz_alloc] at hm0
  go_wp2_with fail
  obtain ⟨v0, hr0, hown0, hg0⟩ := World.ownsMap.update hm0 keyI Tryz.underlying248 (by decide) (keyI_of (a := 1) (by decide)) (wayR_mk 183)
  rw [hr0]
  go_wp2_with fail
  obtain ⟨v1, hr1, hown1, hg1⟩ := World.ownsMap.update hown0 keyI Tryz.underlying248 (by decide) (keyI_of (a := 12) (by decide)) (wayR_mk 184)
  rw [hr1]
  go_wp2_with fail
  obtain ⟨v2, hr2, hown2, hg2⟩ := World.ownsMap.update hown1 keyI Tryz.underlying248 (by decide) (keyI_of (a := 7) (by decide)) (wayR_mk 185)
  rw [hr2]
  go_wp2_with fail
  obtain ⟨v3, hr3, hown3, hg3⟩ := World.ownsMap.update hown2 keyI Tryz.underlying248 (by decide) (keyI_of (a := 2) (by decide)) (wayR_mk 186)
  rw [hr3]
  go_wp2_with fail
  obtain ⟨v4, hr4, hown4, hg4⟩ := World.ownsMap.update hown3 keyI Tryz.underlying248 (by decide) (keyI_of (a := 5) (by decide)) (wayR_mk 187)
  rw [hr4]
  go_wp2_with fail
  obtain ⟨v5, hr5, hown5, hg5⟩ := World.ownsMap.update hown4 keyI Tryz.underlying248 (by decide) (keyI_of (a := 6) (by decide)) (wayR_mk 188)
  rw [hr5]
  go_wp2_with fail
  obtain ⟨v6, hr6, hown6, hg6⟩ := World.ownsMap.update hown5 keyI Tryz.underlying248 (by decide) (keyI_of (a := 13) (by decide)) (wayR_mk 189)
  rw [hr6]
  go_wp2_with fail
  have G := grown_trans (grown_trans (grown_trans (grown_trans (grown_trans (grown_trans hg0 hg1) hg2) hg3) hg4) hg5) hg6
  have A6 : Blk v6 b (accArr S kd) 57 := by unfold Blk; rw [G.block b (by simp; omega) (by simp; omega)]; exact (HA.out.alloc _).alloc _
  have N6 : Blk v6 w.heap.size #[.int .i64 n, .int .i64 d] 31 := by unfold Blk; rw [G.block _ (by simp; omega) (by simp)]; exact Blk.alloc (heap_alloc_new _ _) _
  have a0 : v6.cell? ⟨b, 0, none⟩ = some (.int .i64 6) := (A6.cell 0).trans (by rw [← HF.out]; rfl)
  have n0 : v6.cell? ⟨w.heap.size, 0, none⟩ = some (.int .i64 n) := N6.cell 0
  have n1 : v6.cell? ⟨w.heap.size, 1, none⟩ = some (.int .i64 d) := N6.cell 1
  have hl0 := A6.lt
  have hl1 := N6.lt
  have LK := fun (w' : World) (hw : Below v6.heap.size v6 w') => ways_found (K := 6) (m := 188) hown6 hw (by decide) (fun _ => rfl)
  clear hr0 hr1 hr2 hr3 hr4 hr5 hr6 hown0 hown1 hown2 hown3 hown4 hown5 hown6 hg0 hg1 hg2 hg3 hg4 hg5 hg6 hm0 hmm
  have hG := Lib.hid G
  have AA := Lib.hid A6
  clear G A6 N6
  refine region_below 9 (by kernel_rfl) (by kernel_rfl) ?_
  simp only [List.take_succ_cons, List.take_zero, List.drop_succ_cons, List.drop_zero]
  repeat
    first | (refine q_run ?_ ?_; focus (go_simp; done)) | (refine q_skip ?_ ?_; focus (go_simp; done))
    try (apply Exists.intro; refine ⟨fun w' hw' => ?_, ?_⟩; focus (have hc := (bcell hw'.out).1; have hx0 := LK w' hw'.out; unfold Oper.quietAt; go_simp; (try go_ints); (first | rfl)))
    intro K hK
    go_simp
    refine hK _ ?_
    clear hK K
  refine wpQuiet_nil ?_
  intro w1 hb'
  have hb := hb'.out
  clear hb'
  clear LK
  have A1 := AA.out.below hb
  have hs1 := hb.size
  go_wp2_with fail
  refine (HM.out _ A1).mono ?_
  rintro e w2 ⟨rfl, A2, hb2⟩
  go_wp2
  go_end0
  refine ⟨rfl, A2, ?_⟩
  have hs0 := hG.out.size
  simp only [sz_alloc] at hs0
  exact (((((But.refl w.heap.size b w).alloc (Nat.le_refl _) _).alloc (by simp) _).grown hG.out (by omega) (by simp only [sz_alloc]; omega)).thenBelow (by omega) hb).then (by omega) hb2
end Go.Proofs.YtnimenpfojcehaaGreatDoor
namespace Go.Proofs.YtnimenpfojcehaaGreatDoor
open Go.RowKit
set_option linter.unusedSimpArgs false
set_option linter.unusedVariables false

def AccS.keep (S : AccS) (n d side : Int) : AccS := if S.has = false ∨ cmpN n d S.n S.d = side then { S with n := n, d := d, has := true } else { S with has := true }

set_option maxHeartbeats 1000000 in
theorem keeps_no (b : Nat) (S : AccS) (kd : Value) (n d side : Int) (w : World) (hA : Blk w b (accArr S kd) 57) (hs : S.has = false) :
    Calls Tryz.prog 191 #[.pointer (some ⟨b, 0, none⟩), .agg #[.int .i64 n, .int .i64 d], .int .i64 side] w fun e w' => e = .returned (.tuple #[]) ∧ Blk w' b (accArr (S.keep n d side) kd) 57 ∧ But w.heap.size b w w' := by
  have hlt := hA.lt
  have hne : ¬ b = w.heap.size := by omega
  have hne' : ¬ w.heap.size = b := by omega
  have HA := Lib.hid (hA.alloc (.cells #[.int .i64 n, .int .i64 d] 31))
  have HK : Hid (S.keep n d side = { S with n := n, d := d, has := true }) := by unfold Hid AccS.keep; rw [if_pos (Or.inl hs)]
  have a20 : w.cell? ⟨b, 2, none⟩ = some (.int .i64 S.n) := hA.cell 2
  have a21 : w.cell? ⟨b, 3, none⟩ = some (.int .i64 S.d) := hA.cell 3
  have a22 : w.cell? ⟨b, 16, none⟩ = some (.bool S.has) := hA.cell 16
  simp only [hs] at *
  have fz := hA.free
  go_enter Tryz.func191, Tryz.ntmps191
  go_wp2_with fail
  go_quiet (fail)
  go_wp2
  go_end0
  rw [HK.out]
  refine ⟨rfl, ((((HA.out.drewN _).set 2 _).set 3 _).set 16 _).cast (by simp only [accArr, List.setIfInBounds_toArray, List.set_cons_zero, List.set_cons_succ]), ?_⟩
  repeat (first | with_reducible exact But.refl _ _ _ | with_reducible refine But.drewN ?_ _ | with_reducible refine But.drew ?_ | with_reducible refine But.setCell ?_ _ _ | with_reducible refine But.setNew ?_ (by (first | omega | (simp only [sz_alloc, sz_setCell, sz_drew, sz_drewN]; omega) | (simp; done) | (simp; omega))) _ | with_reducible refine But.alloc ?_ (by (first | omega | (simp only [sz_alloc, sz_setCell, sz_drew, sz_drewN]; omega) | (simp; done) | (simp; omega))) _ | with_reducible refine But.thenBelow ?_ ?_ (by with_reducible assumption) | with_reducible refine But.then ?_ ?_ (by with_reducible assumption) | (first | omega | (simp only [sz_alloc, sz_setCell, sz_drew, sz_drewN]; omega) | (simp; done) | (simp; omega)))

set_option maxHeartbeats 1000000 in
theorem keeps_has (b : Nat) (S : AccS) (kd : Value) (n d side : Int) (w : World) (hA : Blk w b (accArr S kd) 57) (hs : S.has = true) (h1 : I64 S.n) (h2 : I64 S.d) (h3 : I64 n) (h4 : I64 d) :
    Calls Tryz.prog 191 #[.pointer (some ⟨b, 0, none⟩), .agg #[.int .i64 n, .int .i64 d], .int .i64 side] w fun e w' => e = .returned (.tuple #[]) ∧ Blk w' b (accArr (S.keep n d side) kd) 57 ∧ But w.heap.size b w w' := by
  have hlt := hA.lt
  have hne : ¬ b = w.heap.size := by omega
  have hne' : ¬ w.heap.size = b := by omega
  have HA := Lib.hid (hA.alloc (.cells #[.int .i64 n, .int .i64 d] 31))
  have HC := Lib.hid fun wx => num_Cmp n d S.n S.d wx h3 h4 h1 h2
  clear h1 h2 h3 h4
  cases hc : (cmpN n d S.n S.d == side)
  · have HK : Hid (S.keep n d side = { S with has := true }) := by unfold Hid AccS.keep; rw [if_neg (by simp [hs]; simpa using hc)]
    generalize cmpN n d S.n S.d = C at *
    have a23 : w.cell? ⟨b, 2, none⟩ = some (.int .i64 S.n) := hA.cell 2
    have a24 : w.cell? ⟨b, 3, none⟩ = some (.int .i64 S.d) := hA.cell 3
    have a25 : w.cell? ⟨b, 16, none⟩ = some (.bool S.has) := hA.cell 16
    simp only [hs] at *
    have fz := hA.free
    go_enter Tryz.func191, Tryz.ntmps191
    go_wp2_with fail
    refine region_below_all (by kernel_rfl) (by kernel_rfl) ?_
    repeat
      first | (refine q_run ?_ ?_; focus (go_simp; done)) | (refine q_skip ?_ ?_; focus (go_simp; done))
      try (apply Exists.intro; refine ⟨fun w' hw' => ?_, ?_⟩; focus (have hc := (bcell hw'.out).1; unfold Oper.quietAt; go_simp; (try go_ints); (first | rfl | (go_at_call 67; refine (HC.out _).mono ?_; rintro e w2 ⟨rfl, hb⟩; exact ⟨rfl, hw'.chain hb⟩))))
      intro K hK
      go_simp
      refine hK _ ?_
      clear hK K
    refine wpQuiet_nil ?_
    intro w1 hb'
    have hb := hb'.out
    clear hb'
    have A1 := HA.out.below hb
    have z26 := Below.size hb
    try simp only [sz_alloc, sz_setCell, sz_drew, sz_drewN] at z26
    have hlt1 := A1.lt
    clear fz
    have a27 : w1.cell? ⟨b, 2, none⟩ = some (.int .i64 S.n) := A1.cell 2
    have a28 : w1.cell? ⟨b, 3, none⟩ = some (.int .i64 S.d) := A1.cell 3
    have a29 : w1.cell? ⟨b, 16, none⟩ = some (.bool S.has) := A1.cell 16
    have fz := A1.free
    obtain ⟨s30, c30_0, c30_1, f30⟩ := L2 hb (w.heap.size) (by first | omega | (simp only [sA, sC, sD, sE]; omega) | (simp; done) | (simp; omega)) (by go_simp; exact ⟨rfl, rfl⟩) (by intro o; go_simp)
    go_wp2
    go_end0
    rw [HK.out]
    refine ⟨rfl, (A1.set 16 _).cast (by simp only [accArr, List.setIfInBounds_toArray, List.set_cons_zero, List.set_cons_succ]), ?_⟩
    repeat (first | with_reducible exact But.refl _ _ _ | with_reducible refine But.drewN ?_ _ | with_reducible refine But.drew ?_ | with_reducible refine But.setCell ?_ _ _ | with_reducible refine But.setNew ?_ (by (first | omega | (simp only [sz_alloc, sz_setCell, sz_drew, sz_drewN]; omega) | (simp; done) | (simp; omega))) _ | with_reducible refine But.alloc ?_ (by (first | omega | (simp only [sz_alloc, sz_setCell, sz_drew, sz_drewN]; omega) | (simp; done) | (simp; omega))) _ | with_reducible refine But.thenBelow ?_ ?_ (by with_reducible assumption) | with_reducible refine But.then ?_ ?_ (by with_reducible assumption) | (first | omega | (simp only [sz_alloc, sz_setCell, sz_drew, sz_drewN]; omega) | (simp; done) | (simp; omega)))
  · have HK : Hid (S.keep n d side = { S with n := n, d := d, has := true }) := by unfold Hid AccS.keep; rw [if_pos (Or.inr (by simpa using hc))]
    generalize cmpN n d S.n S.d = C at *
    have a31 : w.cell? ⟨b, 2, none⟩ = some (.int .i64 S.n) := hA.cell 2
    have a32 : w.cell? ⟨b, 3, none⟩ = some (.int .i64 S.d) := hA.cell 3
    have a33 : w.cell? ⟨b, 16, none⟩ = some (.bool S.has) := hA.cell 16
    simp only [hs] at *
    have fz := hA.free
    go_enter Tryz.func191, Tryz.ntmps191
    go_wp2_with fail
    refine region_below_all (by kernel_rfl) (by kernel_rfl) ?_
    repeat
      first | (refine q_run ?_ ?_; focus (go_simp; done)) | (refine q_skip ?_ ?_; focus (go_simp; done))
      try (apply Exists.intro; refine ⟨fun w' hw' => ?_, ?_⟩; focus (have hc := (bcell hw'.out).1; unfold Oper.quietAt; go_simp; (try go_ints); (first | rfl | (go_at_call 67; refine (HC.out _).mono ?_; rintro e w2 ⟨rfl, hb⟩; exact ⟨rfl, hw'.chain hb⟩))))
      intro K hK
      go_simp
      refine hK _ ?_
      clear hK K
    refine wpQuiet_nil ?_
    intro w1 hb'
    have hb := hb'.out
    clear hb'
    have A1 := HA.out.below hb
    have z34 := Below.size hb
    try simp only [sz_alloc, sz_setCell, sz_drew, sz_drewN] at z34
    have hlt1 := A1.lt
    clear fz
    have a35 : w1.cell? ⟨b, 2, none⟩ = some (.int .i64 S.n) := A1.cell 2
    have a36 : w1.cell? ⟨b, 3, none⟩ = some (.int .i64 S.d) := A1.cell 3
    have a37 : w1.cell? ⟨b, 16, none⟩ = some (.bool S.has) := A1.cell 16
    have fz := A1.free
    obtain ⟨s38, c38_0, c38_1, f38⟩ := L2 hb (w.heap.size) (by first | omega | (simp only [sA, sC, sD, sE]; omega) | (simp; done) | (simp; omega)) (by go_simp; exact ⟨rfl, rfl⟩) (by intro o; go_simp)
    go_wp2
    go_end0
    rw [HK.out]
    refine ⟨rfl, (((A1.set 2 _).set 3 _).set 16 _).cast (by simp only [accArr, List.setIfInBounds_toArray, List.set_cons_zero, List.set_cons_succ]), ?_⟩
    repeat (first | with_reducible exact But.refl _ _ _ | with_reducible refine But.drewN ?_ _ | with_reducible refine But.drew ?_ | with_reducible refine But.setCell ?_ _ _ | with_reducible refine But.setNew ?_ (by (first | omega | (simp only [sz_alloc, sz_setCell, sz_drew, sz_drewN]; omega) | (simp; done) | (simp; omega))) _ | with_reducible refine But.alloc ?_ (by (first | omega | (simp only [sz_alloc, sz_setCell, sz_drew, sz_drewN]; omega) | (simp; done) | (simp; omega))) _ | with_reducible refine But.thenBelow ?_ ?_ (by with_reducible assumption) | with_reducible refine But.then ?_ ?_ (by with_reducible assumption) | (first | omega | (simp only [sz_alloc, sz_setCell, sz_drew, sz_drewN]; omega) | (simp; done) | (simp; omega)))
end Go.Proofs.YtnimenpfojcehaaGreatDoor
namespace Go.Proofs.YtnimenpfojcehaaGreatDoor
open Go Go.RowKit
theorem cells0 : Tryz.prog.cellsOf 88 = 0 := by kernel_rfl
theorem run_part0 {w : World} {k : Nat} (h : w.heap[k]? = some (.cells #[] 88 (0, 0))) : (partAt ⟨k, 0, none⟩ 0 0).run Tryz.prog w = .ok ⟨k, 0, none⟩ w := by
  have hs : w.shape? k = some (88, 0) := by simp [World.shape?, h]
  have hv : (viewAt k).run Tryz.prog w = .ok none w := by simp [viewAt, Sem.run_bind, hs]
  have hb : (byteOf ⟨k, 0, none⟩).run Tryz.prog w = .ok 0 w := by simp [byteOf, noView, Sem.run_bind, hv, hs, cells0]
  simp [partAt, Sem.run_bind, hb]
end Go.Proofs.YtnimenpfojcehaaGreatDoor
namespace Go.Proofs.YtnimenpfojcehaaGreatDoor
open Go.RowKit
set_option linter.unusedSimpArgs false
set_option linter.unusedVariables false

def kdN : Value := .iface 88 (.agg #[])
def AccS.ends (S : AccS) (v : Vl) : AccS := { S with full := true, v := v }

set_option maxHeartbeats 1000000 in
theorem numbers_cell1 (b : Nat) (S ST : AccS) (kd : Value) (v : Vl) (hk : v.k = 1) (HM : Turns 182 #[.pointer (some ⟨b, 0, none⟩), .agg #[.int .i64 (v).n, .int .i64 (v).d]] b S ST kd) :
    Turns 179 #[.agg #[], .pointer (some ⟨b, 0, none⟩), .agg #[.int .i64 (v).k, .int .i64 (v).n, .int .i64 (v).d, .string (v).t, .bool (v).b, .int .i64 (v).f]] b S ST kd := by
  constructor
  intro w hA
  have hlt := hA.lt
  have k1 : (v.k == 1) = true := by simp [hk]
  have HA := Lib.hid ((hA.alloc (.cells #[] 88)).alloc (.cells #[.int .i64 v.k, .int .i64 v.n, .int .i64 v.d, .string v.t, .bool v.b, .int .i64 v.f] 33))
  clear hk hA
  go_enter Tryz.func179, Tryz.ntmps179
  go_wp2_with fail
  refine (HM.out _ HA.out).mono ?_
  rintro e w1 ⟨rfl, A1, hb⟩
  have z39 := But.size hb
  try simp only [sz_alloc, sz_setCell, sz_drew, sz_drewN] at z39
  go_wp2
  go_end0
  refine ⟨rfl, A1, ?_⟩
  repeat (first | with_reducible exact But.refl _ _ _ | with_reducible refine But.drewN ?_ _ | with_reducible refine But.drew ?_ | with_reducible refine But.setCell ?_ _ _ | with_reducible refine But.setNew ?_ (by (first | omega | (simp only [sz_alloc, sz_setCell, sz_drew, sz_drewN]; omega) | (simp; done) | (simp; omega))) _ | with_reducible refine But.alloc ?_ (by (first | omega | (simp only [sz_alloc, sz_setCell, sz_drew, sz_drewN]; omega) | (simp; done) | (simp; omega))) _ | with_reducible refine But.thenBelow ?_ ?_ (by with_reducible assumption) | with_reducible refine But.then ?_ ?_ (by with_reducible assumption) | (first | omega | (simp only [sz_alloc, sz_setCell, sz_drew, sz_drewN]; omega) | (simp; done) | (simp; omega)))
set_option maxHeartbeats 1000000 in
theorem numbers_cell4 (b : Nat) (S : AccS) (kd : Value) (v : Vl) (hk : v.k = 4) :
    Turns 179 #[.agg #[], .pointer (some ⟨b, 0, none⟩), .agg #[.int .i64 (v).k, .int .i64 (v).n, .int .i64 (v).d, .string (v).t, .bool (v).b, .int .i64 (v).f]] b S (S.ends v) kd := by
  constructor
  intro w hA
  have hlt := hA.lt
  have k1 : (v.k == 1) = false := by simp [hk]
  have k4 : (v.k == 4) = true := by simp [hk]
  have HA := Lib.hid ((hA.alloc (.cells #[] 88)).alloc (.cells #[.int .i64 v.k, .int .i64 v.n, .int .i64 v.d, .string v.t, .bool v.b, .int .i64 v.f] 33))
  clear hk hA
  go_enter Tryz.func179, Tryz.ntmps179
  go_wp2_with fail
  refine (acc_end b S kd v _ HA.out).mono ?_
  rintro e w1 ⟨rfl, A1, hb⟩
  have z40 := But.size hb
  try simp only [sz_alloc, sz_setCell, sz_drew, sz_drewN] at z40
  go_wp2
  go_end0
  refine ⟨rfl, A1, ?_⟩
  repeat (first | with_reducible exact But.refl _ _ _ | with_reducible refine But.drewN ?_ _ | with_reducible refine But.drew ?_ | with_reducible refine But.setCell ?_ _ _ | with_reducible refine But.setNew ?_ (by (first | omega | (simp only [sz_alloc, sz_setCell, sz_drew, sz_drewN]; omega) | (simp; done) | (simp; omega))) _ | with_reducible refine But.alloc ?_ (by (first | omega | (simp only [sz_alloc, sz_setCell, sz_drew, sz_drewN]; omega) | (simp; done) | (simp; omega))) _ | with_reducible refine But.thenBelow ?_ ?_ (by with_reducible assumption) | with_reducible refine But.then ?_ ?_ (by with_reducible assumption) | (first | omega | (simp only [sz_alloc, sz_setCell, sz_drew, sz_drewN]; omega) | (simp; done) | (simp; omega)))
set_option maxHeartbeats 1000000 in
theorem numbers_cell0 (b : Nat) (S : AccS) (kd : Value) (v : Vl) (h1 : ¬ v.k = 1) (h4 : ¬ v.k = 4) :
    Turns 179 #[.agg #[], .pointer (some ⟨b, 0, none⟩), .agg #[.int .i64 (v).k, .int .i64 (v).n, .int .i64 (v).d, .string (v).t, .bool (v).b, .int .i64 (v).f]] b S S kd := by
  constructor
  intro w hA
  have hlt := hA.lt
  have k1 : (v.k == 1) = false := by simp [h1]
  have k4 : (v.k == 4) = false := by simp [h4]
  have HA := Lib.hid ((hA.alloc (.cells #[] 88)).alloc (.cells #[.int .i64 v.k, .int .i64 v.n, .int .i64 v.d, .string v.t, .bool v.b, .int .i64 v.f] 33))
  clear h1 h4 hA
  go_enter Tryz.func179, Tryz.ntmps179
  go_wp2
  go_end0
  refine ⟨rfl, HA.out, ?_⟩
  repeat (first | with_reducible exact But.refl _ _ _ | with_reducible refine But.drewN ?_ _ | with_reducible refine But.drew ?_ | with_reducible refine But.setCell ?_ _ _ | with_reducible refine But.setNew ?_ (by (first | omega | (simp only [sz_alloc, sz_setCell, sz_drew, sz_drewN]; omega) | (simp; done) | (simp; omega))) _ | with_reducible refine But.alloc ?_ (by (first | omega | (simp only [sz_alloc, sz_setCell, sz_drew, sz_drewN]; omega) | (simp; done) | (simp; omega))) _ | with_reducible refine But.thenBelow ?_ ?_ (by with_reducible assumption) | with_reducible refine But.then ?_ ?_ (by with_reducible assumption) | (first | omega | (simp only [sz_alloc, sz_setCell, sz_drew, sz_drewN]; omega) | (simp; done) | (simp; omega)))

set_option maxHeartbeats 1000000 in
theorem numbers_feed1 (b : Nat) (S ST : AccS) (kd : Value) (v : Vl) (hx : v.In) (h0 : ¬ v.k = 0) (hR : ¬ (asNum v).e.k = 4) (HM : Turns 182 #[.pointer (some ⟨b, 0, none⟩), .agg #[.int .i64 (asNum v).n, .int .i64 (asNum v).d]] b S ST kd) :
    Turns 180 #[.agg #[], .pointer (some ⟨b, 0, none⟩), .agg #[.int .i64 (v).k, .int .i64 (v).n, .int .i64 (v).d, .string (v).t, .bool (v).b, .int .i64 (v).f]] b S ST kd := by
  constructor
  intro w hA
  have hlt := hA.lt
  have k0 : (v.k == 0) = false := by simp [h0]
  have HN := Lib.hid fun wx => value_AsNumber v.k v.n v.d v.t v.b v.f wx hx
  have eR : asNum ⟨v.k, v.n, v.d, v.t, v.b, v.f⟩ = asNum v := rfl
  rw [eR] at HN
  clear eR
  generalize asNum v = R at *
  have r4 : (R.e.k == 4) = false := by simp [hR]
  have HA := Lib.hid ((hA.alloc (.cells #[] 88)).alloc (.cells #[.int .i64 v.k, .int .i64 v.n, .int .i64 v.d, .string v.t, .bool v.b, .int .i64 v.f] 33))
  clear h0 hR hA
  go_enter Tryz.func180, Tryz.ntmps180
  go_wp2_with fail
  refine (HN.out _).mono ?_
  rintro e w1' ⟨rfl, hb⟩
  have A1 := Lib.hid (HA.out.below hb)
  obtain ⟨s41, c41_0, c41_1, c41_2, c41_3, c41_4, c41_5, f41⟩ := L6 hb (w.heap.size + 1) (by first | omega | (simp only [sA, sC, sD, sE]; omega) | (simp; done) | (simp; omega)) (by go_simp; exact ⟨rfl, rfl, rfl, rfl, rfl, rfl⟩) (by intro o; go_simp)
  have z42 := Below.size hb
  try simp only [sz_alloc, sz_setCell, sz_drew, sz_drewN] at z42
  have hlt1 := A1.out.lt
  have q1 : ¬ w.heap.size + 1 = w1'.heap.size := by have := Below.size hb; simp only [sz_alloc] at this; omega
  have q2 : ¬ w.heap.size = w1'.heap.size := by have := Below.size hb; simp only [sz_alloc] at this; omega
  have q3 : ¬ w1'.heap.size = w.heap.size + 1 := fun h => q1 h.symm
  have q4 : ¬ w1'.heap.size = w.heap.size := fun h => q2 h.symm
  have q5 : w.heap.size < w1'.heap.size := by have := Below.size hb; simp only [sz_alloc] at this; omega
  go_wp2_with fail
  refine (HM.out _ ((A1.out.alloc _).alloc _)).mono ?_
  rintro e w2 ⟨rfl, A2, hb2⟩
  have z43 := But.size hb2
  try simp only [sz_alloc, sz_setCell, sz_drew, sz_drewN] at z43
  go_wp2
  go_end0
  refine ⟨rfl, A2, ?_⟩
  repeat (first | with_reducible exact But.refl _ _ _ | with_reducible refine But.drewN ?_ _ | with_reducible refine But.drew ?_ | with_reducible refine But.setCell ?_ _ _ | with_reducible refine But.setNew ?_ (by (first | omega | (simp only [sz_alloc, sz_setCell, sz_drew, sz_drewN]; omega) | (simp; done) | (simp; omega))) _ | with_reducible refine But.alloc ?_ (by (first | omega | (simp only [sz_alloc, sz_setCell, sz_drew, sz_drewN]; omega) | (simp; done) | (simp; omega))) _ | with_reducible refine But.thenBelow ?_ ?_ (by with_reducible assumption) | with_reducible refine But.then ?_ ?_ (by with_reducible assumption) | (first | omega | (simp only [sz_alloc, sz_setCell, sz_drew, sz_drewN]; omega) | (simp; done) | (simp; omega)))

set_option maxHeartbeats 1000000 in
theorem fold_result1 (b : Nat) (S : AccS) (kd : Value) (w : World) (hA : Blk w b (accArr S kd) 57) (hf : S.fn = 1) (h1 : I64 S.n) (h2 : I64 S.d) :
    Calls Tryz.prog 178 #[.agg #[], .pointer (some ⟨b, 0, none⟩)] w fun e w' => e = .returned (.agg #[.int .i64 (numF S.n S.d).k, .int .i64 (numF S.n S.d).n, .int .i64 (numF S.n S.d).d, .string (numF S.n S.d).t, .bool (numF S.n S.d).b, .int .i64 (numF S.n S.d).f]) ∧ Below w.heap.size w w' := by
  have hlt := hA.lt
  have hne : ¬ b = w.heap.size := by omega
  have hne' : ¬ w.heap.size = b := by omega
  have a44 : w.cell? ⟨b, 0, none⟩ = some (.int .i64 S.fn) := hA.cell 0
  have a45 : w.cell? ⟨b, 2, none⟩ = some (.int .i64 S.n) := hA.cell 2
  have a46 : w.cell? ⟨b, 3, none⟩ = some (.int .i64 S.d) := hA.cell 3
  simp only [hf] at *
  have HN := Lib.hid fun wx => value_Number S.n S.d wx h1 h2
  clear h1 h2 hf
  go_enter Tryz.func178, Tryz.ntmps178
  go_wp2_with fail
  refine (HN.out _).mono ?_
  rintro e w1 ⟨rfl, hb⟩
  obtain ⟨s47, c47_0, c47_1, c47_2, c47_3, c47_4, c47_5, f47⟩ := L6 hb (w.heap.size + 1) (by first | omega | (simp only [sA, sC, sD, sE]; omega) | (simp; done) | (simp; omega)) (by go_simp; exact ⟨rfl, rfl, rfl, rfl, rfl, rfl⟩) (by intro o; go_simp)
  go_wp2
  refine bodyPost_ret (v := .agg #[.int .i64 (numF S.n S.d).k, .int .i64 (numF S.n S.d).n, .int .i64 (numF S.n S.d).d, .string (numF S.n S.d).t, .bool (numF S.n S.d).b, .int .i64 (numF S.n S.d).f]) (by simp [results, Tryz.results178, go_sem, c47_0, c47_1, c47_2, c47_3, c47_4, c47_5]) rfl ⟨rfl, ?_⟩
  focus
    repeat with_reducible first | exact Below.refl _ _ | refine below_drewN ?_ _ | refine Below.drew ?_ | refine Below.setCell ?_ ?_ _ | refine Below.alloc ?_ ?_ _ | refine below_then ?_ ?_ (by with_reducible assumption)
    all_goals first | omega | (simp only [sA, sC, sD, sE]; omega) | (simp; done) | (simp; omega)
set_option maxHeartbeats 1000000 in
theorem numbers_result1 (b : Nat) (S : AccS) (kd : Value) (w : World) (hA : Blk w b (accArr S kd) 57) (hf : S.fn = 1) (h1 : I64 S.n) (h2 : I64 S.d) :
    Calls Tryz.prog 181 #[.agg #[], .pointer (some ⟨b, 0, none⟩)] w fun e w' => e = .returned (.agg #[.int .i64 (numF S.n S.d).k, .int .i64 (numF S.n S.d).n, .int .i64 (numF S.n S.d).d, .string (numF S.n S.d).t, .bool (numF S.n S.d).b, .int .i64 (numF S.n S.d).f]) ∧ Below w.heap.size w w' := by
  have hlt := hA.lt
  have hne : ¬ b = w.heap.size := by omega
  have hne' : ¬ w.heap.size = b := by omega
  have HR := Lib.hid fun (wx : World) (hx : Blk wx b (accArr S kd) 57) => fold_result1 b S kd wx hx hf h1 h2
  have HA := Lib.hid ((hA.alloc (.cells #[] 88)).alloc (.cells #[.int .i64 0, .int .i64 0, .int .i64 0, .string ⟨#[]⟩, .bool false, .int .i64 0] 33))
  have hp := run_part0 (w := (w.alloc (.cells #[] 88)).alloc (.cells #[.int .i64 0, .int .i64 0, .int .i64 0, .string ⟨#[]⟩, .bool false, .int .i64 0] 33)) (k := w.heap.size) (by rw [heap_alloc_old _ _ (by simp)]; exact heap_alloc_new _ _)
  have a48 : w.cell? ⟨b, 0, none⟩ = some (.int .i64 S.fn) := hA.cell 0
  simp only [hf] at *
  clear h1 h2 hf hA
  go_enter Tryz.func181, Tryz.ntmps181
  go_wp2_with fail
  refine (HR.out _ HA.out).mono ?_
  rintro e w1 ⟨rfl, hb⟩
  obtain ⟨s49, c49_0, c49_1, c49_2, c49_3, c49_4, c49_5, f49⟩ := L6 hb (w.heap.size + 1) (by first | omega | (simp only [sA, sC, sD, sE]; omega) | (simp; done) | (simp; omega)) (by go_simp; exact ⟨rfl, rfl, rfl, rfl, rfl, rfl⟩) (by intro o; go_simp)
  go_wp2
  refine bodyPost_ret (v := .agg #[.int .i64 (numF S.n S.d).k, .int .i64 (numF S.n S.d).n, .int .i64 (numF S.n S.d).d, .string (numF S.n S.d).t, .bool (numF S.n S.d).b, .int .i64 (numF S.n S.d).f]) (by simp [results, Tryz.results181, go_sem, c49_0, c49_1, c49_2, c49_3, c49_4, c49_5]) rfl ⟨rfl, ?_⟩
  focus
    repeat with_reducible first | exact Below.refl _ _ | refine below_drewN ?_ _ | refine Below.drew ?_ | refine Below.setCell ?_ ?_ _ | refine Below.alloc ?_ ?_ _ | refine below_then ?_ ?_ (by with_reducible assumption)
    all_goals first | omega | (simp only [sA, sC, sD, sE]; omega) | (simp; done) | (simp; omega)
set_option maxHeartbeats 1000000 in
theorem acc_Result1 (b : Nat) (S : AccS) (w : World) (hA : Blk w b (accArr S kdN) 57) (hu : S.full = false) (hf : S.fn = 1) (h1 : I64 S.n) (h2 : I64 S.d) :
    Calls Tryz.prog 13 #[.pointer (some ⟨b, 0, none⟩)] w fun e w' => e = .returned (.agg #[.int .i64 (numF S.n S.d).k, .int .i64 (numF S.n S.d).n, .int .i64 (numF S.n S.d).d, .string (numF S.n S.d).t, .bool (numF S.n S.d).b, .int .i64 (numF S.n S.d).f]) ∧ Below w.heap.size w w' := by
  have hlt := hA.lt
  have hne : ¬ b = w.heap.size := by omega
  have hne' : ¬ w.heap.size = b := by omega
  have HR := Lib.hid fun (wx : World) (hx : Blk wx b (accArr S kdN) 57) => numbers_result1 b S kdN wx hx hf h1 h2
  have HA := Lib.hid (hA.alloc (.cells #[.int .i64 0, .int .i64 0, .int .i64 0, .string ⟨#[]⟩, .bool false, .int .i64 0] 33))
  have a17 : w.cell? ⟨b, 17, none⟩ = some (.bool false) := (hA.cell 17).trans (by rw [← hu]; rfl)
  have a21 : w.cell? ⟨b, 21, none⟩ = some (.iface 88 (.agg #[])) := hA.cell 21
  clear h1 h2 hf hA hu
  go_enter Tryz.func13, Tryz.ntmps13
  go_wp2_with fail
  refine (HR.out _ HA.out).mono ?_
  rintro e w1 ⟨rfl, hb⟩
  obtain ⟨s50, c50_0, c50_1, c50_2, c50_3, c50_4, c50_5, f50⟩ := L6 hb (w.heap.size) (by first | omega | (simp only [sA, sC, sD, sE]; omega) | (simp; done) | (simp; omega)) (by go_simp; exact ⟨rfl, rfl, rfl, rfl, rfl, rfl⟩) (by intro o; go_simp)
  go_wp2
  refine bodyPost_ret (v := .agg #[.int .i64 (numF S.n S.d).k, .int .i64 (numF S.n S.d).n, .int .i64 (numF S.n S.d).d, .string (numF S.n S.d).t, .bool (numF S.n S.d).b, .int .i64 (numF S.n S.d).f]) (by simp [results, Tryz.results13, go_sem, c50_0, c50_1, c50_2, c50_3, c50_4, c50_5]) rfl ⟨rfl, ?_⟩
  focus
    repeat with_reducible first | exact Below.refl _ _ | refine below_drewN ?_ _ | refine Below.drew ?_ | refine Below.setCell ?_ ?_ _ | refine Below.alloc ?_ ?_ _ | refine below_then ?_ ?_ (by with_reducible assumption)
    all_goals first | omega | (simp only [sA, sC, sD, sE]; omega) | (simp; done) | (simp; omega)
set_option maxHeartbeats 1000000 in
theorem fold_result2 (b : Nat) (S : AccS) (kd : Value) (w : World) (hA : Blk w b (accArr S kd) 57) (hf : S.fn = 2) (h1 : I64 S.n) (h2 : I64 S.d) :
    Calls Tryz.prog 178 #[.agg #[], .pointer (some ⟨b, 0, none⟩)] w fun e w' => e = .returned (.agg #[.int .i64 (numF S.n S.d).k, .int .i64 (numF S.n S.d).n, .int .i64 (numF S.n S.d).d, .string (numF S.n S.d).t, .bool (numF S.n S.d).b, .int .i64 (numF S.n S.d).f]) ∧ Below w.heap.size w w' := by
  have hlt := hA.lt
  have hne : ¬ b = w.heap.size := by omega
  have hne' : ¬ w.heap.size = b := by omega
  have a51 : w.cell? ⟨b, 0, none⟩ = some (.int .i64 S.fn) := hA.cell 0
  have a52 : w.cell? ⟨b, 2, none⟩ = some (.int .i64 S.n) := hA.cell 2
  have a53 : w.cell? ⟨b, 3, none⟩ = some (.int .i64 S.d) := hA.cell 3
  simp only [hf] at *
  have HN := Lib.hid fun wx => value_Number S.n S.d wx h1 h2
  clear h1 h2 hf
  go_enter Tryz.func178, Tryz.ntmps178
  go_wp2_with fail
  refine (HN.out _).mono ?_
  rintro e w1 ⟨rfl, hb⟩
  obtain ⟨s54, c54_0, c54_1, c54_2, c54_3, c54_4, c54_5, f54⟩ := L6 hb (w.heap.size + 1) (by first | omega | (simp only [sA, sC, sD, sE]; omega) | (simp; done) | (simp; omega)) (by go_simp; exact ⟨rfl, rfl, rfl, rfl, rfl, rfl⟩) (by intro o; go_simp)
  go_wp2
  refine bodyPost_ret (v := .agg #[.int .i64 (numF S.n S.d).k, .int .i64 (numF S.n S.d).n, .int .i64 (numF S.n S.d).d, .string (numF S.n S.d).t, .bool (numF S.n S.d).b, .int .i64 (numF S.n S.d).f]) (by simp [results, Tryz.results178, go_sem, c54_0, c54_1, c54_2, c54_3, c54_4, c54_5]) rfl ⟨rfl, ?_⟩
  focus
    repeat with_reducible first | exact Below.refl _ _ | refine below_drewN ?_ _ | refine Below.drew ?_ | refine Below.setCell ?_ ?_ _ | refine Below.alloc ?_ ?_ _ | refine below_then ?_ ?_ (by with_reducible assumption)
    all_goals first | omega | (simp only [sA, sC, sD, sE]; omega) | (simp; done) | (simp; omega)
set_option maxHeartbeats 1000000 in
theorem numbers_result2 (b : Nat) (S : AccS) (kd : Value) (w : World) (hA : Blk w b (accArr S kd) 57) (hf : S.fn = 2) (h1 : I64 S.n) (h2 : I64 S.d) :
    Calls Tryz.prog 181 #[.agg #[], .pointer (some ⟨b, 0, none⟩)] w fun e w' => e = .returned (.agg #[.int .i64 (numF S.n S.d).k, .int .i64 (numF S.n S.d).n, .int .i64 (numF S.n S.d).d, .string (numF S.n S.d).t, .bool (numF S.n S.d).b, .int .i64 (numF S.n S.d).f]) ∧ Below w.heap.size w w' := by
  have hlt := hA.lt
  have hne : ¬ b = w.heap.size := by omega
  have hne' : ¬ w.heap.size = b := by omega
  have HR := Lib.hid fun (wx : World) (hx : Blk wx b (accArr S kd) 57) => fold_result2 b S kd wx hx hf h1 h2
  have HA := Lib.hid ((hA.alloc (.cells #[] 88)).alloc (.cells #[.int .i64 0, .int .i64 0, .int .i64 0, .string ⟨#[]⟩, .bool false, .int .i64 0] 33))
  have hp := run_part0 (w := (w.alloc (.cells #[] 88)).alloc (.cells #[.int .i64 0, .int .i64 0, .int .i64 0, .string ⟨#[]⟩, .bool false, .int .i64 0] 33)) (k := w.heap.size) (by rw [heap_alloc_old _ _ (by simp)]; exact heap_alloc_new _ _)
  have a55 : w.cell? ⟨b, 0, none⟩ = some (.int .i64 S.fn) := hA.cell 0
  simp only [hf] at *
  clear h1 h2 hf hA
  go_enter Tryz.func181, Tryz.ntmps181
  go_wp2_with fail
  refine (HR.out _ HA.out).mono ?_
  rintro e w1 ⟨rfl, hb⟩
  obtain ⟨s56, c56_0, c56_1, c56_2, c56_3, c56_4, c56_5, f56⟩ := L6 hb (w.heap.size + 1) (by first | omega | (simp only [sA, sC, sD, sE]; omega) | (simp; done) | (simp; omega)) (by go_simp; exact ⟨rfl, rfl, rfl, rfl, rfl, rfl⟩) (by intro o; go_simp)
  go_wp2
  refine bodyPost_ret (v := .agg #[.int .i64 (numF S.n S.d).k, .int .i64 (numF S.n S.d).n, .int .i64 (numF S.n S.d).d, .string (numF S.n S.d).t, .bool (numF S.n S.d).b, .int .i64 (numF S.n S.d).f]) (by simp [results, Tryz.results181, go_sem, c56_0, c56_1, c56_2, c56_3, c56_4, c56_5]) rfl ⟨rfl, ?_⟩
  focus
    repeat with_reducible first | exact Below.refl _ _ | refine below_drewN ?_ _ | refine Below.drew ?_ | refine Below.setCell ?_ ?_ _ | refine Below.alloc ?_ ?_ _ | refine below_then ?_ ?_ (by with_reducible assumption)
    all_goals first | omega | (simp only [sA, sC, sD, sE]; omega) | (simp; done) | (simp; omega)
set_option maxHeartbeats 1000000 in
theorem fold_result5 (b : Nat) (S : AccS) (kd : Value) (w : World) (hA : Blk w b (accArr S kd) 57) (hf : S.fn = 5) (h1 : I64 S.n) (h2 : I64 S.d) :
    Calls Tryz.prog 178 #[.agg #[], .pointer (some ⟨b, 0, none⟩)] w fun e w' => e = .returned (.agg #[.int .i64 (numF S.n S.d).k, .int .i64 (numF S.n S.d).n, .int .i64 (numF S.n S.d).d, .string (numF S.n S.d).t, .bool (numF S.n S.d).b, .int .i64 (numF S.n S.d).f]) ∧ Below w.heap.size w w' := by
  have hlt := hA.lt
  have hne : ¬ b = w.heap.size := by omega
  have hne' : ¬ w.heap.size = b := by omega
  have a58 : w.cell? ⟨b, 0, none⟩ = some (.int .i64 S.fn) := hA.cell 0
  have a59 : w.cell? ⟨b, 2, none⟩ = some (.int .i64 S.n) := hA.cell 2
  have a60 : w.cell? ⟨b, 3, none⟩ = some (.int .i64 S.d) := hA.cell 3
  simp only [hf] at *
  have HN := Lib.hid fun wx => value_Number S.n S.d wx h1 h2
  clear h1 h2 hf
  go_enter Tryz.func178, Tryz.ntmps178
  go_wp2_with fail
  refine (HN.out _).mono ?_
  rintro e w1 ⟨rfl, hb⟩
  obtain ⟨s61, c61_0, c61_1, c61_2, c61_3, c61_4, c61_5, f61⟩ := L6 hb (w.heap.size + 1) (by first | omega | (simp only [sA, sC, sD, sE]; omega) | (simp; done) | (simp; omega)) (by go_simp; exact ⟨rfl, rfl, rfl, rfl, rfl, rfl⟩) (by intro o; go_simp)
  go_wp2
  refine bodyPost_ret (v := .agg #[.int .i64 (numF S.n S.d).k, .int .i64 (numF S.n S.d).n, .int .i64 (numF S.n S.d).d, .string (numF S.n S.d).t, .bool (numF S.n S.d).b, .int .i64 (numF S.n S.d).f]) (by simp [results, Tryz.results178, go_sem, c61_0, c61_1, c61_2, c61_3, c61_4, c61_5]) rfl ⟨rfl, ?_⟩
  focus
    repeat with_reducible first | exact Below.refl _ _ | refine below_drewN ?_ _ | refine Below.drew ?_ | refine Below.setCell ?_ ?_ _ | refine Below.alloc ?_ ?_ _ | refine below_then ?_ ?_ (by with_reducible assumption)
    all_goals first | omega | (simp only [sA, sC, sD, sE]; omega) | (simp; done) | (simp; omega)
set_option maxHeartbeats 1000000 in
theorem numbers_result5 (b : Nat) (S : AccS) (kd : Value) (w : World) (hA : Blk w b (accArr S kd) 57) (hf : S.fn = 5) (h1 : I64 S.n) (h2 : I64 S.d) :
    Calls Tryz.prog 181 #[.agg #[], .pointer (some ⟨b, 0, none⟩)] w fun e w' => e = .returned (.agg #[.int .i64 (numF S.n S.d).k, .int .i64 (numF S.n S.d).n, .int .i64 (numF S.n S.d).d, .string (numF S.n S.d).t, .bool (numF S.n S.d).b, .int .i64 (numF S.n S.d).f]) ∧ Below w.heap.size w w' := by
  have hlt := hA.lt
  have hne : ¬ b = w.heap.size := by omega
  have hne' : ¬ w.heap.size = b := by omega
  have HR := Lib.hid fun (wx : World) (hx : Blk wx b (accArr S kd) 57) => fold_result5 b S kd wx hx hf h1 h2
  have HA := Lib.hid ((hA.alloc (.cells #[] 88)).alloc (.cells #[.int .i64 0, .int .i64 0, .int .i64 0, .string ⟨#[]⟩, .bool false, .int .i64 0] 33))
  have hp := run_part0 (w := (w.alloc (.cells #[] 88)).alloc (.cells #[.int .i64 0, .int .i64 0, .int .i64 0, .string ⟨#[]⟩, .bool false, .int .i64 0] 33)) (k := w.heap.size) (by rw [heap_alloc_old _ _ (by simp)]; exact heap_alloc_new _ _)
  have a62 : w.cell? ⟨b, 0, none⟩ = some (.int .i64 S.fn) := hA.cell 0
  simp only [hf] at *
  clear h1 h2 hf hA
  go_enter Tryz.func181, Tryz.ntmps181
  go_wp2_with fail
  refine (HR.out _ HA.out).mono ?_
  rintro e w1 ⟨rfl, hb⟩
  obtain ⟨s63, c63_0, c63_1, c63_2, c63_3, c63_4, c63_5, f63⟩ := L6 hb (w.heap.size + 1) (by first | omega | (simp only [sA, sC, sD, sE]; omega) | (simp; done) | (simp; omega)) (by go_simp; exact ⟨rfl, rfl, rfl, rfl, rfl, rfl⟩) (by intro o; go_simp)
  go_wp2
  refine bodyPost_ret (v := .agg #[.int .i64 (numF S.n S.d).k, .int .i64 (numF S.n S.d).n, .int .i64 (numF S.n S.d).d, .string (numF S.n S.d).t, .bool (numF S.n S.d).b, .int .i64 (numF S.n S.d).f]) (by simp [results, Tryz.results181, go_sem, c63_0, c63_1, c63_2, c63_3, c63_4, c63_5]) rfl ⟨rfl, ?_⟩
  focus
    repeat with_reducible first | exact Below.refl _ _ | refine below_drewN ?_ _ | refine Below.drew ?_ | refine Below.setCell ?_ ?_ _ | refine Below.alloc ?_ ?_ _ | refine below_then ?_ ?_ (by with_reducible assumption)
    all_goals first | omega | (simp only [sA, sC, sD, sE]; omega) | (simp; done) | (simp; omega)
set_option maxHeartbeats 1000000 in
theorem fold_result6 (b : Nat) (S : AccS) (kd : Value) (w : World) (hA : Blk w b (accArr S kd) 57) (hf : S.fn = 6) (h1 : I64 S.n) (h2 : I64 S.d) :
    Calls Tryz.prog 178 #[.agg #[], .pointer (some ⟨b, 0, none⟩)] w fun e w' => e = .returned (.agg #[.int .i64 (numF S.n S.d).k, .int .i64 (numF S.n S.d).n, .int .i64 (numF S.n S.d).d, .string (numF S.n S.d).t, .bool (numF S.n S.d).b, .int .i64 (numF S.n S.d).f]) ∧ Below w.heap.size w w' := by
  have hlt := hA.lt
  have hne : ¬ b = w.heap.size := by omega
  have hne' : ¬ w.heap.size = b := by omega
  have a65 : w.cell? ⟨b, 0, none⟩ = some (.int .i64 S.fn) := hA.cell 0
  have a66 : w.cell? ⟨b, 2, none⟩ = some (.int .i64 S.n) := hA.cell 2
  have a67 : w.cell? ⟨b, 3, none⟩ = some (.int .i64 S.d) := hA.cell 3
  simp only [hf] at *
  have HN := Lib.hid fun wx => value_Number S.n S.d wx h1 h2
  clear h1 h2 hf
  go_enter Tryz.func178, Tryz.ntmps178
  go_wp2_with fail
  refine (HN.out _).mono ?_
  rintro e w1 ⟨rfl, hb⟩
  obtain ⟨s68, c68_0, c68_1, c68_2, c68_3, c68_4, c68_5, f68⟩ := L6 hb (w.heap.size + 1) (by first | omega | (simp only [sA, sC, sD, sE]; omega) | (simp; done) | (simp; omega)) (by go_simp; exact ⟨rfl, rfl, rfl, rfl, rfl, rfl⟩) (by intro o; go_simp)
  go_wp2
  refine bodyPost_ret (v := .agg #[.int .i64 (numF S.n S.d).k, .int .i64 (numF S.n S.d).n, .int .i64 (numF S.n S.d).d, .string (numF S.n S.d).t, .bool (numF S.n S.d).b, .int .i64 (numF S.n S.d).f]) (by simp [results, Tryz.results178, go_sem, c68_0, c68_1, c68_2, c68_3, c68_4, c68_5]) rfl ⟨rfl, ?_⟩
  focus
    repeat with_reducible first | exact Below.refl _ _ | refine below_drewN ?_ _ | refine Below.drew ?_ | refine Below.setCell ?_ ?_ _ | refine Below.alloc ?_ ?_ _ | refine below_then ?_ ?_ (by with_reducible assumption)
    all_goals first | omega | (simp only [sA, sC, sD, sE]; omega) | (simp; done) | (simp; omega)
set_option maxHeartbeats 1000000 in
theorem numbers_result6 (b : Nat) (S : AccS) (kd : Value) (w : World) (hA : Blk w b (accArr S kd) 57) (hf : S.fn = 6) (h1 : I64 S.n) (h2 : I64 S.d) :
    Calls Tryz.prog 181 #[.agg #[], .pointer (some ⟨b, 0, none⟩)] w fun e w' => e = .returned (.agg #[.int .i64 (numF S.n S.d).k, .int .i64 (numF S.n S.d).n, .int .i64 (numF S.n S.d).d, .string (numF S.n S.d).t, .bool (numF S.n S.d).b, .int .i64 (numF S.n S.d).f]) ∧ Below w.heap.size w w' := by
  have hlt := hA.lt
  have hne : ¬ b = w.heap.size := by omega
  have hne' : ¬ w.heap.size = b := by omega
  have HR := Lib.hid fun (wx : World) (hx : Blk wx b (accArr S kd) 57) => fold_result6 b S kd wx hx hf h1 h2
  have HA := Lib.hid ((hA.alloc (.cells #[] 88)).alloc (.cells #[.int .i64 0, .int .i64 0, .int .i64 0, .string ⟨#[]⟩, .bool false, .int .i64 0] 33))
  have hp := run_part0 (w := (w.alloc (.cells #[] 88)).alloc (.cells #[.int .i64 0, .int .i64 0, .int .i64 0, .string ⟨#[]⟩, .bool false, .int .i64 0] 33)) (k := w.heap.size) (by rw [heap_alloc_old _ _ (by simp)]; exact heap_alloc_new _ _)
  have a69 : w.cell? ⟨b, 0, none⟩ = some (.int .i64 S.fn) := hA.cell 0
  simp only [hf] at *
  clear h1 h2 hf hA
  go_enter Tryz.func181, Tryz.ntmps181
  go_wp2_with fail
  refine (HR.out _ HA.out).mono ?_
  rintro e w1 ⟨rfl, hb⟩
  obtain ⟨s70, c70_0, c70_1, c70_2, c70_3, c70_4, c70_5, f70⟩ := L6 hb (w.heap.size + 1) (by first | omega | (simp only [sA, sC, sD, sE]; omega) | (simp; done) | (simp; omega)) (by go_simp; exact ⟨rfl, rfl, rfl, rfl, rfl, rfl⟩) (by intro o; go_simp)
  go_wp2
  refine bodyPost_ret (v := .agg #[.int .i64 (numF S.n S.d).k, .int .i64 (numF S.n S.d).n, .int .i64 (numF S.n S.d).d, .string (numF S.n S.d).t, .bool (numF S.n S.d).b, .int .i64 (numF S.n S.d).f]) (by simp [results, Tryz.results181, go_sem, c70_0, c70_1, c70_2, c70_3, c70_4, c70_5]) rfl ⟨rfl, ?_⟩
  focus
    repeat with_reducible first | exact Below.refl _ _ | refine below_drewN ?_ _ | refine Below.drew ?_ | refine Below.setCell ?_ ?_ _ | refine Below.alloc ?_ ?_ _ | refine below_then ?_ ?_ (by with_reducible assumption)
    all_goals first | omega | (simp only [sA, sC, sD, sE]; omega) | (simp; done) | (simp; omega)
end Go.Proofs.YtnimenpfojcehaaGreatDoor
namespace Go.Proofs.YtnimenpfojcehaaGreatDoor
open Go.RowKit
set_option linter.unusedSimpArgs false
set_option linter.unusedVariables false

def acc0 (fn n : Int) : AccS := ⟨fn, 0, n, 1, blankV, blankV, false, false, false, 0, 0⟩

set_option maxHeartbeats 1000000 in
theorem funcs_kinds1 (w : World) :
    Calls Tryz.prog 23 #[.int .i64 1] w fun e w' => e = .returned (.iface 88 (.agg #[])) ∧ w = w' := by
  go_enter Tryz.func23, Tryz.ntmps23
  go_wp2
  go_ret
  exact ⟨rfl, rfl⟩
set_option maxHeartbeats 1000000 in
theorem funcs_Open1 (w : World) :
    Calls Tryz.prog 9 #[.int .i64 1] w fun e w' => e = .returned (.tuple #[.pointer (some ⟨w.heap.size, 0, none⟩), .int .i64 0]) ∧ Blk w' w.heap.size (accArr (acc0 1 0) kdN) 57 ∧ Below w.heap.size w w' := by
  go_enter Tryz.func9, Tryz.ntmps9
  go_wp2_with fail
  refine (funcs_kinds1 _).mono ?_
  rintro e w1 ⟨rfl, rfl⟩
  go_wp2
  go_ret2
  refine ⟨rfl, heap_alloc_new _ _, ?_⟩
  focus
    repeat with_reducible first | exact Below.refl _ _ | refine below_drewN ?_ _ | refine Below.drew ?_ | refine Below.setCell ?_ ?_ _ | refine Below.alloc ?_ ?_ _ | refine below_then ?_ ?_ (by with_reducible assumption)
    all_goals first | omega | (simp only [sA, sC, sD, sE]; omega) | (simp; done) | (simp; omega)
set_option maxHeartbeats 1000000 in
theorem funcs_kinds5 (w : World) :
    Calls Tryz.prog 23 #[.int .i64 5] w fun e w' => e = .returned (.iface 88 (.agg #[])) ∧ w = w' := by
  go_enter Tryz.func23, Tryz.ntmps23
  go_wp2
  go_ret
  exact ⟨rfl, rfl⟩
set_option maxHeartbeats 1000000 in
theorem funcs_Open5 (w : World) :
    Calls Tryz.prog 9 #[.int .i64 5] w fun e w' => e = .returned (.tuple #[.pointer (some ⟨w.heap.size, 0, none⟩), .int .i64 0]) ∧ Blk w' w.heap.size (accArr (acc0 5 0) kdN) 57 ∧ Below w.heap.size w w' := by
  go_enter Tryz.func9, Tryz.ntmps9
  go_wp2_with fail
  refine (funcs_kinds5 _).mono ?_
  rintro e w1 ⟨rfl, rfl⟩
  go_wp2
  go_ret2
  refine ⟨rfl, heap_alloc_new _ _, ?_⟩
  focus
    repeat with_reducible first | exact Below.refl _ _ | refine below_drewN ?_ _ | refine Below.drew ?_ | refine Below.setCell ?_ ?_ _ | refine Below.alloc ?_ ?_ _ | refine below_then ?_ ?_ (by with_reducible assumption)
    all_goals first | omega | (simp only [sA, sC, sD, sE]; omega) | (simp; done) | (simp; omega)
set_option maxHeartbeats 1000000 in
theorem funcs_kinds6 (w : World) :
    Calls Tryz.prog 23 #[.int .i64 6] w fun e w' => e = .returned (.iface 88 (.agg #[])) ∧ w = w' := by
  go_enter Tryz.func23, Tryz.ntmps23
  go_wp2
  go_ret
  exact ⟨rfl, rfl⟩
set_option maxHeartbeats 1000000 in
theorem funcs_Open6 (w : World) :
    Calls Tryz.prog 9 #[.int .i64 6] w fun e w' => e = .returned (.tuple #[.pointer (some ⟨w.heap.size, 0, none⟩), .int .i64 0]) ∧ Blk w' w.heap.size (accArr (acc0 6 0) kdN) 57 ∧ Below w.heap.size w w' := by
  go_enter Tryz.func9, Tryz.ntmps9
  go_wp2_with fail
  refine (funcs_kinds6 _).mono ?_
  rintro e w1 ⟨rfl, rfl⟩
  go_wp2
  go_ret2
  refine ⟨rfl, heap_alloc_new _ _, ?_⟩
  focus
    repeat with_reducible first | exact Below.refl _ _ | refine below_drewN ?_ _ | refine Below.drew ?_ | refine Below.setCell ?_ ?_ _ | refine Below.alloc ?_ ?_ _ | refine below_then ?_ ?_ (by with_reducible assumption)
    all_goals first | omega | (simp only [sA, sC, sD, sE]; omega) | (simp; done) | (simp; omega)

set_option maxHeartbeats 1000000 in
theorem acc_Cell (b : Nat) (S S' : AccS) (k n d : Int) (t : ByteArray) (bb : Bool) (f : Int) (v : Vl) (hv : v = tkV ⟨k, n, d, t, bb, f⟩) (hx : Vl.In ⟨k, n, d, t, bb, f⟩) (hu : S.full = false) (hw : S.wants = false)
    (HM : Turns 179 #[.agg #[], .pointer (some ⟨b, 0, none⟩), .agg #[.int .i64 (v).k, .int .i64 (v).n, .int .i64 (v).d, .string (v).t, .bool (v).b, .int .i64 (v).f]] b S S' kdN) :
    Turns 12 #[.pointer (some ⟨b, 0, none⟩), .agg #[.int .i64 k, .int .i64 n, .int .i64 d, .string t, .bool bb, .int .i64 f]] b S S' kdN := by
  constructor
  intro w hA
  have hlt := hA.lt
  have hne : ¬ b = w.heap.size := by omega
  have hne' : ¬ w.heap.size = b := by omega
  have HT := Lib.hid fun wx => funcs_taken k n d t bb f wx hx
  rw [← hv] at HT
  have HA := Lib.hid (hA.alloc (.cells #[.int .i64 k, .int .i64 n, .int .i64 d, .string t, .bool bb, .int .i64 f] 33))
  have a17 : w.cell? ⟨b, 17, none⟩ = some (.bool false) := (hA.cell 17).trans (by rw [← hu]; rfl)
  have a18 : w.cell? ⟨b, 18, none⟩ = some (.bool false) := (hA.cell 18).trans (by rw [← hw]; rfl)
  have a21 : w.cell? ⟨b, 21, none⟩ = some (.iface 88 (.agg #[])) := hA.cell 21
  clear hA hx hu hw hv
  go_enter Tryz.func12, Tryz.ntmps12
  go_wp2_with fail
  refine region_below 9 (by kernel_rfl) (by kernel_rfl) ?_
  simp only [List.take_succ_cons, List.take_zero, List.drop_succ_cons, List.drop_zero]
  repeat
    first | (refine q_run ?_ ?_; focus (go_simp; done)) | (refine q_skip ?_ ?_; focus (go_simp; done))
    try (apply Exists.intro; refine ⟨fun w' hw' => ?_, ?_⟩; focus (have hc := (bcell hw'.out).1; unfold Oper.quietAt; go_simp; (try go_ints); (first | rfl | (go_at_call 27; refine (HT.out _).mono ?_; rintro e w2 ⟨rfl, hb⟩; exact ⟨rfl, hw'.chain hb⟩))))
    intro K hK
    go_simp
    refine hK _ ?_
    clear hK K
  refine wpQuiet_nil ?_
  intro w1 hb'
  have hb := hb'.out
  clear hb'
  have A1 := HA.out.below hb
  have z72 := Below.size hb
  try simp only [sz_alloc, sz_setCell, sz_drew, sz_drewN] at z72
  go_wp2_with fail
  refine (HM.out _ A1).mono ?_
  rintro e w2 ⟨rfl, A2, hb2⟩
  have z73 := But.size hb2
  try simp only [sz_alloc, sz_setCell, sz_drew, sz_drewN] at z73
  go_wp2
  go_end0
  refine ⟨rfl, A2, ?_⟩
  repeat (first | with_reducible exact But.refl _ _ _ | with_reducible refine But.drewN ?_ _ | with_reducible refine But.drew ?_ | with_reducible refine But.setCell ?_ _ _ | with_reducible refine But.setNew ?_ (by (first | omega | (simp only [sz_alloc, sz_setCell, sz_drew, sz_drewN]; omega) | (simp; done) | (simp; omega))) _ | with_reducible refine But.alloc ?_ (by (first | omega | (simp only [sz_alloc, sz_setCell, sz_drew, sz_drewN]; omega) | (simp; done) | (simp; omega))) _ | with_reducible refine But.thenBelow ?_ ?_ (by with_reducible assumption) | with_reducible refine But.then ?_ ?_ (by with_reducible assumption) | (first | omega | (simp only [sz_alloc, sz_setCell, sz_drew, sz_drewN]; omega) | (simp; done) | (simp; omega)))
set_option maxHeartbeats 1000000 in
theorem acc_Feed (b : Nat) (S S' : AccS) (k n d : Int) (t : ByteArray) (bb : Bool) (f : Int) (v : Vl) (hv : v = tkV ⟨k, n, d, t, bb, f⟩) (hx : Vl.In ⟨k, n, d, t, bb, f⟩) (hu : S.full = false) (hw : S.wants = false)
    (HM : Turns 180 #[.agg #[], .pointer (some ⟨b, 0, none⟩), .agg #[.int .i64 (v).k, .int .i64 (v).n, .int .i64 (v).d, .string (v).t, .bool (v).b, .int .i64 (v).f]] b S S' kdN) :
    Turns 15 #[.pointer (some ⟨b, 0, none⟩), .agg #[.int .i64 k, .int .i64 n, .int .i64 d, .string t, .bool bb, .int .i64 f]] b S S' kdN := by
  constructor
  intro w hA
  have hlt := hA.lt
  have hne : ¬ b = w.heap.size := by omega
  have hne' : ¬ w.heap.size = b := by omega
  have HT := Lib.hid fun wx => funcs_taken k n d t bb f wx hx
  rw [← hv] at HT
  have HA := Lib.hid (hA.alloc (.cells #[.int .i64 k, .int .i64 n, .int .i64 d, .string t, .bool bb, .int .i64 f] 33))
  have a17 : w.cell? ⟨b, 17, none⟩ = some (.bool false) := (hA.cell 17).trans (by rw [← hu]; rfl)
  have a18 : w.cell? ⟨b, 18, none⟩ = some (.bool false) := (hA.cell 18).trans (by rw [← hw]; rfl)
  have a21 : w.cell? ⟨b, 21, none⟩ = some (.iface 88 (.agg #[])) := hA.cell 21
  clear hA hx hu hw hv
  go_enter Tryz.func15, Tryz.ntmps15
  go_wp2_with fail
  refine region_below 9 (by kernel_rfl) (by kernel_rfl) ?_
  simp only [List.take_succ_cons, List.take_zero, List.drop_succ_cons, List.drop_zero]
  repeat
    first | (refine q_run ?_ ?_; focus (go_simp; done)) | (refine q_skip ?_ ?_; focus (go_simp; done))
    try (apply Exists.intro; refine ⟨fun w' hw' => ?_, ?_⟩; focus (have hc := (bcell hw'.out).1; unfold Oper.quietAt; go_simp; (try go_ints); (first | rfl | (go_at_call 27; refine (HT.out _).mono ?_; rintro e w2 ⟨rfl, hb⟩; exact ⟨rfl, hw'.chain hb⟩))))
    intro K hK
    go_simp
    refine hK _ ?_
    clear hK K
  refine wpQuiet_nil ?_
  intro w1 hb'
  have hb := hb'.out
  clear hb'
  have A1 := HA.out.below hb
  have z74 := Below.size hb
  try simp only [sz_alloc, sz_setCell, sz_drew, sz_drewN] at z74
  go_wp2_with fail
  refine (HM.out _ A1).mono ?_
  rintro e w2 ⟨rfl, A2, hb2⟩
  have z75 := But.size hb2
  try simp only [sz_alloc, sz_setCell, sz_drew, sz_drewN] at z75
  go_wp2
  go_end0
  refine ⟨rfl, A2, ?_⟩
  repeat (first | with_reducible exact But.refl _ _ _ | with_reducible refine But.drewN ?_ _ | with_reducible refine But.drew ?_ | with_reducible refine But.setCell ?_ _ _ | with_reducible refine But.setNew ?_ (by (first | omega | (simp only [sz_alloc, sz_setCell, sz_drew, sz_drewN]; omega) | (simp; done) | (simp; omega))) _ | with_reducible refine But.alloc ?_ (by (first | omega | (simp only [sz_alloc, sz_setCell, sz_drew, sz_drewN]; omega) | (simp; done) | (simp; omega))) _ | with_reducible refine But.thenBelow ?_ ?_ (by with_reducible assumption) | with_reducible refine But.then ?_ ?_ (by with_reducible assumption) | (first | omega | (simp only [sz_alloc, sz_setCell, sz_drew, sz_drewN]; omega) | (simp; done) | (simp; omega)))
set_option maxHeartbeats 1000000 in
theorem acc_least (b : Nat) (S : AccS) (kd : Value) (n d : Int) (h1 : I64 S.n) (h2 : I64 S.d) (h3 : I64 n) (h4 : I64 d) :
    Turns 187 #[.pointer (some ⟨b, 0, none⟩), .agg #[.int .i64 n, .int .i64 d]] b S (S.keep n d (-1)) kd := by
  constructor
  intro w hA
  have hlt := hA.lt
  have HA := Lib.hid (hA.alloc (.cells #[.int .i64 n, .int .i64 d] 31))
  have HK : Hid (∀ wx : World, Blk wx b (accArr S kd) 57 → Calls Tryz.prog 191 #[.pointer (some ⟨b, 0, none⟩), .agg #[.int .i64 n, .int .i64 d], .int .i64 (-1)] wx fun e w' => e = .returned (.tuple #[]) ∧ Blk w' b (accArr (S.keep n d (-1)) kd) 57 ∧ But wx.heap.size b wx w') := by
    intro wx hx
    cases hs : S.has
    · exact keeps_no b S kd n d (-1) wx hx hs
    · exact keeps_has b S kd n d (-1) wx hx hs h1 h2 h3 h4
  clear hA h1 h2 h3 h4
  go_enter Tryz.func187, Tryz.ntmps187
  go_wp2_with fail
  refine (HK.out _ HA.out).mono ?_
  rintro e w1 ⟨rfl, A1, hb⟩
  have z76 := But.size hb
  try simp only [sz_alloc, sz_setCell, sz_drew, sz_drewN] at z76
  go_wp2
  go_end0
  refine ⟨rfl, A1, ?_⟩
  repeat (first | with_reducible exact But.refl _ _ _ | with_reducible refine But.drewN ?_ _ | with_reducible refine But.drew ?_ | with_reducible refine But.setCell ?_ _ _ | with_reducible refine But.setNew ?_ (by (first | omega | (simp only [sz_alloc, sz_setCell, sz_drew, sz_drewN]; omega) | (simp; done) | (simp; omega))) _ | with_reducible refine But.alloc ?_ (by (first | omega | (simp only [sz_alloc, sz_setCell, sz_drew, sz_drewN]; omega) | (simp; done) | (simp; omega))) _ | with_reducible refine But.thenBelow ?_ ?_ (by with_reducible assumption) | with_reducible refine But.then ?_ ?_ (by with_reducible assumption) | (first | omega | (simp only [sz_alloc, sz_setCell, sz_drew, sz_drewN]; omega) | (simp; done) | (simp; omega)))
set_option maxHeartbeats 1000000 in
theorem acc_greatest (b : Nat) (S : AccS) (kd : Value) (n d : Int) (h1 : I64 S.n) (h2 : I64 S.d) (h3 : I64 n) (h4 : I64 d) :
    Turns 188 #[.pointer (some ⟨b, 0, none⟩), .agg #[.int .i64 n, .int .i64 d]] b S (S.keep n d 1) kd := by
  constructor
  intro w hA
  have hlt := hA.lt
  have HA := Lib.hid (hA.alloc (.cells #[.int .i64 n, .int .i64 d] 31))
  have HK : Hid (∀ wx : World, Blk wx b (accArr S kd) 57 → Calls Tryz.prog 191 #[.pointer (some ⟨b, 0, none⟩), .agg #[.int .i64 n, .int .i64 d], .int .i64 1] wx fun e w' => e = .returned (.tuple #[]) ∧ Blk w' b (accArr (S.keep n d 1) kd) 57 ∧ But wx.heap.size b wx w') := by
    intro wx hx
    cases hs : S.has
    · exact keeps_no b S kd n d 1 wx hx hs
    · exact keeps_has b S kd n d 1 wx hx hs h1 h2 h3 h4
  clear hA h1 h2 h3 h4
  go_enter Tryz.func188, Tryz.ntmps188
  go_wp2_with fail
  refine (HK.out _ HA.out).mono ?_
  rintro e w1 ⟨rfl, A1, hb⟩
  have z77 := But.size hb
  try simp only [sz_alloc, sz_setCell, sz_drew, sz_drewN] at z77
  go_wp2
  go_end0
  refine ⟨rfl, A1, ?_⟩
  repeat (first | with_reducible exact But.refl _ _ _ | with_reducible refine But.drewN ?_ _ | with_reducible refine But.drew ?_ | with_reducible refine But.setCell ?_ _ _ | with_reducible refine But.setNew ?_ (by (first | omega | (simp only [sz_alloc, sz_setCell, sz_drew, sz_drewN]; omega) | (simp; done) | (simp; omega))) _ | with_reducible refine But.alloc ?_ (by (first | omega | (simp only [sz_alloc, sz_setCell, sz_drew, sz_drewN]; omega) | (simp; done) | (simp; omega))) _ | with_reducible refine But.thenBelow ?_ ?_ (by with_reducible assumption) | with_reducible refine But.then ?_ ?_ (by with_reducible assumption) | (first | omega | (simp only [sz_alloc, sz_setCell, sz_drew, sz_drewN]; omega) | (simp; done) | (simp; omega)))
end Go.Proofs.YtnimenpfojcehaaGreatDoor
