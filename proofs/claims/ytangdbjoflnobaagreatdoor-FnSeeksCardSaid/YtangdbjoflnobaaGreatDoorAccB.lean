/- Walks of package funcs: what a fold does with a number. -/
import Derived.Test.YtangdbjoflnobaaGreatDoorAccA
namespace Go.Proofs.YtangdbjoflnobaaGreatDoor
open Go.RowKit
set_option linter.unusedSimpArgs false
set_option linter.unusedVariables false

def AccS.sets (S : AccS) (r : NmB) : AccS := if r.ok then { S with n := r.n, d := r.d } else { S with full := true, v := faultF 4 }

set_option maxHeartbeats 1000000 in
theorem acc_adds (b : Nat) (S : AccS) (kd : Value) (n d : Int) (w : World) (hA : Blk w b (accArr S kd) 104) (h1 : I64 S.n) (h2 : I64 S.d) (h3 : I64 n) (h4 : I64 d) :
    Calls Tryz.prog 276 #[.pointer (some ⟨b, 0, none⟩), .agg #[.int .i64 n, .int .i64 d]] w fun e w' => e = .returned (.tuple #[]) ∧ Blk w' b (accArr (S.sets (add S.n S.d n d)) kd) 104 ∧ But w.heap.size b w w' := by
  have hlt := hA.lt
  have hne : ¬ b = w.heap.size := by omega
  have hne' : ¬ w.heap.size = b := by omega
  have a1 : w.cell? ⟨b, 2, none⟩ = some (.int .i64 S.n) := hA.cell 2
  have a2 : w.cell? ⟨b, 3, none⟩ = some (.int .i64 S.d) := hA.cell 3
  have fz := hA.free
  have HA := Lib.hid (hA.alloc (.cells #[.int .i64 n, .int .i64 d] 33))
  go_enter Tryz.func276, Tryz.ntmps276
  go_wp2_with fail
  refine region_below 10 (by kernel_rfl) (by kernel_rfl) ?_
  simp only [List.take_succ_cons, List.take_zero, List.drop_succ_cons, List.drop_zero]
  repeat
    first | (refine q_run ?_ ?_; focus (go_simp; done)) | (refine q_skip ?_ ?_; focus (go_simp; done))
    try (apply Exists.intro; refine ⟨fun w' hw' => ?_, ?_⟩; focus (have hc := (bcell hw'.out).1; unfold Oper.quietAt; go_simp; (try go_ints); (first | rfl | (go_at_call 79; refine (num_Add _ _ _ _ _ h1 h2 h3 h4).mono ?_; rintro e w2 ⟨rfl, hb⟩; exact ⟨rfl, hw'.chain hb⟩))))
    intro K hK
    go_simp
    refine hK _ ?_
    clear hK K
  refine wpQuiet_nil ?_
  intro w1 hb'
  have hb := hb'.out
  clear hb'
  have A1 := HA.out.below hb
  have z3 := Below.size hb
  try simp only [sz_alloc, sz_setCell, sz_drew, sz_drewN] at z3
  go_wp2_with fail
  refine (acc_sets b S kd _ _ _ _ A1).mono ?_
  rintro e w2 ⟨rfl, A2, hb2⟩
  have z4 := But.size hb2
  try simp only [sz_alloc, sz_setCell, sz_drew, sz_drewN] at z4
  go_wp2
  go_end0
  refine ⟨rfl, A2, ?_⟩
  repeat (first | with_reducible exact But.refl _ _ _ | with_reducible refine But.drewN ?_ _ | with_reducible refine But.drew ?_ | with_reducible refine But.setCell ?_ _ _ | with_reducible refine But.setNew ?_ (by (first | omega | (simp only [sz_alloc, sz_setCell, sz_drew, sz_drewN]; omega) | (simp; done) | (simp; omega))) _ | with_reducible refine But.alloc ?_ (by (first | omega | (simp only [sz_alloc, sz_setCell, sz_drew, sz_drewN]; omega) | (simp; done) | (simp; omega))) _ | with_reducible refine But.thenBelow ?_ ?_ (by with_reducible assumption) | with_reducible refine But.then ?_ ?_ (by with_reducible assumption) | (first | omega | (simp only [sz_alloc, sz_setCell, sz_drew, sz_drewN]; omega) | (simp; done) | (simp; omega)))

set_option maxHeartbeats 1000000 in
theorem acc_multiplies (b : Nat) (S : AccS) (kd : Value) (n d : Int) (w : World) (hA : Blk w b (accArr S kd) 104) (h1 : I64 S.n) (h2 : I64 S.d) (h3 : I64 n) (h4 : I64 d) :
    Calls Tryz.prog 279 #[.pointer (some ⟨b, 0, none⟩), .agg #[.int .i64 n, .int .i64 d]] w fun e w' => e = .returned (.tuple #[]) ∧ Blk w' b (accArr (S.sets (mul S.n S.d n d)) kd) 104 ∧ But w.heap.size b w w' := by
  have hlt := hA.lt
  have hne : ¬ b = w.heap.size := by omega
  have hne' : ¬ w.heap.size = b := by omega
  have a5 : w.cell? ⟨b, 2, none⟩ = some (.int .i64 S.n) := hA.cell 2
  have a6 : w.cell? ⟨b, 3, none⟩ = some (.int .i64 S.d) := hA.cell 3
  have fz := hA.free
  have HA := Lib.hid (hA.alloc (.cells #[.int .i64 n, .int .i64 d] 33))
  go_enter Tryz.func279, Tryz.ntmps279
  go_wp2_with fail
  refine region_below 10 (by kernel_rfl) (by kernel_rfl) ?_
  simp only [List.take_succ_cons, List.take_zero, List.drop_succ_cons, List.drop_zero]
  repeat
    first | (refine q_run ?_ ?_; focus (go_simp; done)) | (refine q_skip ?_ ?_; focus (go_simp; done))
    try (apply Exists.intro; refine ⟨fun w' hw' => ?_, ?_⟩; focus (have hc := (bcell hw'.out).1; unfold Oper.quietAt; go_simp; (try go_ints); (first | rfl | (go_at_call 82; refine (num_Mul _ _ _ _ _ h1 h2 h3 h4).mono ?_; rintro e w2 ⟨rfl, hb⟩; exact ⟨rfl, hw'.chain hb⟩))))
    intro K hK
    go_simp
    refine hK _ ?_
    clear hK K
  refine wpQuiet_nil ?_
  intro w1 hb'
  have hb := hb'.out
  clear hb'
  have A1 := HA.out.below hb
  have z7 := Below.size hb
  try simp only [sz_alloc, sz_setCell, sz_drew, sz_drewN] at z7
  go_wp2_with fail
  refine (acc_sets b S kd _ _ _ _ A1).mono ?_
  rintro e w2 ⟨rfl, A2, hb2⟩
  have z8 := But.size hb2
  try simp only [sz_alloc, sz_setCell, sz_drew, sz_drewN] at z8
  go_wp2
  go_end0
  refine ⟨rfl, A2, ?_⟩
  repeat (first | with_reducible exact But.refl _ _ _ | with_reducible refine But.drewN ?_ _ | with_reducible refine But.drew ?_ | with_reducible refine But.setCell ?_ _ _ | with_reducible refine But.setNew ?_ (by (first | omega | (simp only [sz_alloc, sz_setCell, sz_drew, sz_drewN]; omega) | (simp; done) | (simp; omega))) _ | with_reducible refine But.alloc ?_ (by (first | omega | (simp only [sz_alloc, sz_setCell, sz_drew, sz_drewN]; omega) | (simp; done) | (simp; omega))) _ | with_reducible refine But.thenBelow ?_ ?_ (by with_reducible assumption) | with_reducible refine But.then ?_ ?_ (by with_reducible assumption) | (first | omega | (simp only [sz_alloc, sz_setCell, sz_drew, sz_drewN]; omega) | (simp; done) | (simp; omega)))


end Go.Proofs.YtangdbjoflnobaaGreatDoor
