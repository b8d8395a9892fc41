/- Walks of package funcs: a fold's small steps. -/
import Derived.Test.YtangdbjoflnobaaGreatDoorValC
import Derived.Test.YtangdbjoflnobaaGreatDoorAcc
namespace Go.Proofs.YtangdbjoflnobaaGreatDoor
open Go.RowKit
set_option linter.unusedSimpArgs false
set_option linter.unusedVariables false

set_option maxHeartbeats 1000000 in
theorem acc_end (b : Nat) (S : AccS) (kd : Value) (v : Vl) (w : World) (hA : Blk w b (accArr S kd) 104) :
    Calls Tryz.prog 84 #[.pointer (some ⟨b, 0, none⟩), .agg #[.int .i64 (v).k, .int .i64 (v).n, .int .i64 (v).d, .string (v).t, .bool (v).b, .int .i64 (v).f]] w fun e w' => e = .returned (.tuple #[]) ∧ Blk w' b (accArr { S with full := true, v := v } kd) 104 ∧ But w.heap.size b w w' := by
  have hlt := hA.lt
  have hne : ¬ b = w.heap.size := by omega
  have hne' : ¬ w.heap.size = b := by omega
  have a1 : w.cell? ⟨b, 17, none⟩ = some (.bool S.full) := hA.cell 17
  have a2 : w.cell? ⟨b, 4, none⟩ = some (.int .i64 S.v.k) := hA.cell 4
  have a3 : w.cell? ⟨b, 5, none⟩ = some (.int .i64 S.v.n) := hA.cell 5
  have a4 : w.cell? ⟨b, 6, none⟩ = some (.int .i64 S.v.d) := hA.cell 6
  have a5 : w.cell? ⟨b, 7, none⟩ = some (.string S.v.t) := hA.cell 7
  have a6 : w.cell? ⟨b, 8, none⟩ = some (.bool S.v.b) := hA.cell 8
  have a7 : w.cell? ⟨b, 9, none⟩ = some (.int .i64 S.v.f) := hA.cell 9
  have fz := hA.free
  go_enter Tryz.func84, Tryz.ntmps84
  go_wp2_with fail
  go_region
  go_wp2
  go_end0
  refine ⟨rfl, ((((((((hA.set 17 _).set 4 _).set 5 _).set 6 _).set 7 _).set 8 _).set 9 _).alloc _).drew.cast (by simp only [accArr, List.setIfInBounds_toArray, List.set_cons_zero, List.set_cons_succ]), ?_⟩
  repeat (first | with_reducible exact But.refl _ _ _ | with_reducible refine But.drewN ?_ _ | with_reducible refine But.drew ?_ | with_reducible refine But.setCell ?_ _ _ | with_reducible refine But.setNew ?_ (by (first | omega | (simp only [sz_alloc, sz_setCell, sz_drew, sz_drewN]; omega) | (simp; done) | (simp; omega))) _ | with_reducible refine But.alloc ?_ (by (first | omega | (simp only [sz_alloc, sz_setCell, sz_drew, sz_drewN]; omega) | (simp; done) | (simp; omega))) _ | with_reducible refine But.thenBelow ?_ ?_ (by with_reducible assumption) | with_reducible refine But.then ?_ ?_ (by with_reducible assumption) | (first | omega | (simp only [sz_alloc, sz_setCell, sz_drew, sz_drewN]; omega) | (simp; done) | (simp; omega)))

set_option maxHeartbeats 1000000 in
theorem acc_sets (b : Nat) (S : AccS) (kd : Value) (n d : Int) (ok : Bool) (w : World) (hA : Blk w b (accArr S kd) 104) :
    Calls Tryz.prog 283 #[.pointer (some ⟨b, 0, none⟩), .agg #[.int .i64 n, .int .i64 d], .bool ok] w fun e w' => e = .returned (.bool ok) ∧ Blk w' b (accArr (if ok then { S with n := n, d := d } else { S with full := true, v := faultF 4 }) kd) 104 ∧ But w.heap.size b w w' := by
  have hlt := hA.lt
  have hne : ¬ b = w.heap.size := by omega
  have hne' : ¬ w.heap.size = b := by omega
  cases ok
  · have HA := Lib.hid (hA.alloc (.cells #[.int .i64 n, .int .i64 d] 33))
    go_enter Tryz.func283, Tryz.ntmps283
    go_wp2_with fail
    refine (value_Fault _ _).mono ?_
    rintro e w1 ⟨rfl, hb⟩
    have A1 := HA.out.below hb
    have z8 := Below.size hb
    try simp only [sz_alloc, sz_setCell, sz_drew, sz_drewN] at z8
    go_wp2_with fail
    refine (acc_end b S kd _ _ A1).mono ?_
    rintro e w2 ⟨rfl, A2, hb2⟩
    have z9 := But.size hb2
    try simp only [sz_alloc, sz_setCell, sz_drew, sz_drewN] at z9
    go_wp2
    go_ret
    refine ⟨rfl, A2, ?_⟩
    repeat (first | with_reducible exact But.refl _ _ _ | with_reducible refine But.drewN ?_ _ | with_reducible refine But.drew ?_ | with_reducible refine But.setCell ?_ _ _ | with_reducible refine But.setNew ?_ (by (first | omega | (simp only [sz_alloc, sz_setCell, sz_drew, sz_drewN]; omega) | (simp; done) | (simp; omega))) _ | with_reducible refine But.alloc ?_ (by (first | omega | (simp only [sz_alloc, sz_setCell, sz_drew, sz_drewN]; omega) | (simp; done) | (simp; omega))) _ | with_reducible refine But.thenBelow ?_ ?_ (by with_reducible assumption) | with_reducible refine But.then ?_ ?_ (by with_reducible assumption) | (first | omega | (simp only [sz_alloc, sz_setCell, sz_drew, sz_drewN]; omega) | (simp; done) | (simp; omega)))
  · have a10 : w.cell? ⟨b, 2, none⟩ = some (.int .i64 S.n) := hA.cell 2
    have a11 : w.cell? ⟨b, 3, none⟩ = some (.int .i64 S.d) := hA.cell 3
    have fz := hA.free
    go_enter Tryz.func283, Tryz.ntmps283
    go_wp2
    go_ret
    refine ⟨rfl, (((hA.set 2 _).set 3 _).alloc _).cast (by simp only [accArr, List.setIfInBounds_toArray, List.set_cons_zero, List.set_cons_succ]), ?_⟩
    repeat (first | with_reducible exact But.refl _ _ _ | with_reducible refine But.drewN ?_ _ | with_reducible refine But.drew ?_ | with_reducible refine But.setCell ?_ _ _ | with_reducible refine But.setNew ?_ (by (first | omega | (simp only [sz_alloc, sz_setCell, sz_drew, sz_drewN]; omega) | (simp; done) | (simp; omega))) _ | with_reducible refine But.alloc ?_ (by (first | omega | (simp only [sz_alloc, sz_setCell, sz_drew, sz_drewN]; omega) | (simp; done) | (simp; omega))) _ | with_reducible refine But.thenBelow ?_ ?_ (by with_reducible assumption) | with_reducible refine But.then ?_ ?_ (by with_reducible assumption) | (first | omega | (simp only [sz_alloc, sz_setCell, sz_drew, sz_drewN]; omega) | (simp; done) | (simp; omega)))
end Go.Proofs.YtangdbjoflnobaaGreatDoor
