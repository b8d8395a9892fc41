/- Walks of package funcs: COUNT and COUNTA take a cell; what COUNT, COUNTA, AVERAGE come to; a fold that has ended. -/
import Derived.Test.YtangdbjoflnobaaGreatDoorAccG
import Derived.Deep.QuietTactic
import Derived.BigQuiet
namespace Go.Proofs.YtangdbjoflnobaaGreatDoor
open Go Go.RowKit
set_option linter.unusedSimpArgs false
set_option linter.unusedVariables false

def kdC : Value := .iface 150 (.agg #[])
set_option maxHeartbeats 1000000 in
theorem funcs_kinds3 (w : World) :
    Calls Tryz.prog 80 #[.int .i64 3] w fun e w' => e = .returned (.iface 150 (.agg #[])) ∧ w = w' := by
  go_enter Tryz.func80, Tryz.ntmps80
  go_wp2
  go_ret
  exact ⟨rfl, rfl⟩
set_option maxHeartbeats 1000000 in
theorem funcs_Open3 (w : World) :
    Calls Tryz.prog 38 #[.int .i64 3] w fun e w' => e = .returned (.tuple #[.pointer (some ⟨w.heap.size, 0, none⟩), .int .i64 0]) ∧ Blk w' w.heap.size (accArr (acc0 3 0) kdC) 104 ∧ Below w.heap.size w w' := by
  go_enter Tryz.func38, Tryz.ntmps38
  go_wp2_with fail
  refine (funcs_kinds3 _).mono ?_
  rintro e w1 ⟨rfl, rfl⟩
  go_wp2
  go_ret2
  refine ⟨rfl, heap_alloc_new _ _, ?_⟩
  repeat (first | with_reducible exact Below.refl _ _ | with_reducible refine below_drewN ?_ _ | with_reducible refine Below.drew ?_ | with_reducible refine Below.setCell ?_ (by (first | omega | (simp only [sz_alloc, sz_setCell, sz_drew, sz_drewN]; omega) | (simp; done) | (simp; omega))) _ | with_reducible refine Below.alloc ?_ (by (first | omega | (simp only [sz_alloc, sz_setCell, sz_drew, sz_drewN]; omega) | (simp; done) | (simp; omega))) _ | with_reducible refine below_then ?_ ?_ (by with_reducible assumption) | (first | omega | (simp only [sz_alloc, sz_setCell, sz_drew, sz_drewN]; omega) | (simp; done) | (simp; omega)))
set_option maxHeartbeats 1000000 in
theorem funcs_kinds4 (w : World) :
    Calls Tryz.prog 80 #[.int .i64 4] w fun e w' => e = .returned (.iface 150 (.agg #[])) ∧ w = w' := by
  go_enter Tryz.func80, Tryz.ntmps80
  go_wp2
  go_ret
  exact ⟨rfl, rfl⟩
set_option maxHeartbeats 1000000 in
theorem funcs_Open4 (w : World) :
    Calls Tryz.prog 38 #[.int .i64 4] w fun e w' => e = .returned (.tuple #[.pointer (some ⟨w.heap.size, 0, none⟩), .int .i64 0]) ∧ Blk w' w.heap.size (accArr (acc0 4 0) kdC) 104 ∧ Below w.heap.size w w' := by
  go_enter Tryz.func38, Tryz.ntmps38
  go_wp2_with fail
  refine (funcs_kinds4 _).mono ?_
  rintro e w1 ⟨rfl, rfl⟩
  go_wp2
  go_ret2
  refine ⟨rfl, heap_alloc_new _ _, ?_⟩
  repeat (first | with_reducible exact Below.refl _ _ | with_reducible refine below_drewN ?_ _ | with_reducible refine Below.drew ?_ | with_reducible refine Below.setCell ?_ (by (first | omega | (simp only [sz_alloc, sz_setCell, sz_drew, sz_drewN]; omega) | (simp; done) | (simp; omega))) _ | with_reducible refine Below.alloc ?_ (by (first | omega | (simp only [sz_alloc, sz_setCell, sz_drew, sz_drewN]; omega) | (simp; done) | (simp; omega))) _ | with_reducible refine below_then ?_ ?_ (by with_reducible assumption) | (first | omega | (simp only [sz_alloc, sz_setCell, sz_drew, sz_drewN]; omega) | (simp; done) | (simp; omega)))
set_option maxHeartbeats 1000000 in
theorem funcs_kinds7 (w : World) :
    Calls Tryz.prog 80 #[.int .i64 7] w fun e w' => e = .returned (.iface 148 (.agg #[])) ∧ w = w' := by
  go_enter Tryz.func80, Tryz.ntmps80
  go_wp2
  go_ret
  exact ⟨rfl, rfl⟩
set_option maxHeartbeats 1000000 in
theorem funcs_Open7 (w : World) :
    Calls Tryz.prog 38 #[.int .i64 7] w fun e w' => e = .returned (.tuple #[.pointer (some ⟨w.heap.size, 0, none⟩), .int .i64 0]) ∧ Blk w' w.heap.size (accArr (acc0 7 0) kdN) 104 ∧ Below w.heap.size w w' := by
  go_enter Tryz.func38, Tryz.ntmps38
  go_wp2_with fail
  refine (funcs_kinds7 _).mono ?_
  rintro e w1 ⟨rfl, rfl⟩
  go_wp2
  go_ret2
  refine ⟨rfl, heap_alloc_new _ _, ?_⟩
  repeat (first | with_reducible exact Below.refl _ _ | with_reducible refine below_drewN ?_ _ | with_reducible refine Below.drew ?_ | with_reducible refine Below.setCell ?_ (by (first | omega | (simp only [sz_alloc, sz_setCell, sz_drew, sz_drewN]; omega) | (simp; done) | (simp; omega))) _ | with_reducible refine Below.alloc ?_ (by (first | omega | (simp only [sz_alloc, sz_setCell, sz_drew, sz_drewN]; omega) | (simp; done) | (simp; omega))) _ | with_reducible refine below_then ?_ ?_ (by with_reducible assumption) | (first | omega | (simp only [sz_alloc, sz_setCell, sz_drew, sz_drewN]; omega) | (simp; done) | (simp; omega)))

set_option maxHeartbeats 1000000 in
theorem acc_Cell_full (b : Nat) (S : AccS) (kd : Value) (k n d : Int) (t : ByteArray) (bb : Bool) (f : Int) (hu : S.full = true) :
    Turns 41 #[.pointer (some ⟨b, 0, none⟩), .agg #[.int .i64 k, .int .i64 n, .int .i64 d, .string t, .bool bb, .int .i64 f]] b S S kd := by
  constructor
  intro w hA
  have hlt := hA.lt
  have hne : ¬ b = w.heap.size := by omega
  have hne' : ¬ w.heap.size = b := by omega
  have HA := Lib.hid (hA.alloc (.cells #[.int .i64 k, .int .i64 n, .int .i64 d, .string t, .bool bb, .int .i64 f] 35))
  have a17 : w.cell? ⟨b, 17, none⟩ = some (.bool true) := (hA.cell 17).trans (by rw [← hu]; rfl)
  clear hA hu
  go_enter Tryz.func41, Tryz.ntmps41
  go_wp2
  go_end0
  refine ⟨rfl, HA.out, ?_⟩
  repeat (first | with_reducible exact But.refl _ _ _ | with_reducible refine But.drewN ?_ _ | with_reducible refine But.drew ?_ | with_reducible refine But.setCell ?_ _ _ | with_reducible refine But.setNew ?_ (by (first | omega | (simp only [sz_alloc, sz_setCell, sz_drew, sz_drewN]; omega) | (simp; done) | (simp; omega))) _ | with_reducible refine But.alloc ?_ (by (first | omega | (simp only [sz_alloc, sz_setCell, sz_drew, sz_drewN]; omega) | (simp; done) | (simp; omega))) _ | with_reducible refine But.thenBelow ?_ ?_ (by with_reducible assumption) | with_reducible refine But.then ?_ ?_ (by with_reducible assumption) | (first | omega | (simp only [sz_alloc, sz_setCell, sz_drew, sz_drewN]; omega) | (simp; done) | (simp; omega)))
set_option maxHeartbeats 1000000 in
theorem acc_CellC (b : Nat) (S S' : AccS) (k n d : Int) (t : ByteArray) (bb : Bool) (f : Int) (v : Vl) (hv : v = tkV ⟨k, n, d, t, bb, f⟩) (hx : Vl.In ⟨k, n, d, t, bb, f⟩) (hu : S.full = false) (hw : S.wants = false)
    (HM : Turns 289 #[.agg #[], .pointer (some ⟨b, 0, none⟩), .agg #[.int .i64 (v).k, .int .i64 (v).n, .int .i64 (v).d, .string (v).t, .bool (v).b, .int .i64 (v).f]] b S S' kdC) :
    Turns 41 #[.pointer (some ⟨b, 0, none⟩), .agg #[.int .i64 k, .int .i64 n, .int .i64 d, .string t, .bool bb, .int .i64 f]] b S S' kdC := by
  constructor
  intro w hA
  have hlt := hA.lt
  have hne : ¬ b = w.heap.size := by omega
  have hne' : ¬ w.heap.size = b := by omega
  have HT := Lib.hid fun wx => funcs_taken k n d t bb f wx hx
  rw [← hv] at HT
  have HA := Lib.hid (hA.alloc (.cells #[.int .i64 k, .int .i64 n, .int .i64 d, .string t, .bool bb, .int .i64 f] 35))
  have a17 : w.cell? ⟨b, 17, none⟩ = some (.bool false) := (hA.cell 17).trans (by rw [← hu]; rfl)
  have a18 : w.cell? ⟨b, 18, none⟩ = some (.bool false) := (hA.cell 18).trans (by rw [← hw]; rfl)
  have a21 : w.cell? ⟨b, 21, none⟩ = some (.iface 150 (.agg #[])) := hA.cell 21
  clear hA hx hu hw hv
  go_enter Tryz.func41, Tryz.ntmps41
  go_wp2_with fail
  refine region_below 9 (by kernel_rfl) (by kernel_rfl) ?_
  simp only [List.take_succ_cons, List.take_zero, List.drop_succ_cons, List.drop_zero]
  repeat
    first | (refine q_run ?_ ?_; focus (go_simp; done)) | (refine q_skip ?_ ?_; focus (go_simp; done))
    try (apply Exists.intro; refine ⟨fun w' hw' => ?_, ?_⟩; focus (have hc := (bcell hw'.out).1; unfold Oper.quietAt; go_simp; (try go_ints); (first | rfl | (go_at_call 55; refine (HT.out _).mono ?_; rintro e w2 ⟨rfl, hb⟩; exact ⟨rfl, hw'.chain hb⟩))))
    intro K hK
    go_simp
    refine hK _ ?_
    clear hK K
  refine wpQuiet_nil ?_
  intro w1 hb'
  have hb := hb'.out
  clear hb'
  have A1 := HA.out.below hb
  have z1 := Below.size hb
  try simp only [sz_alloc, sz_setCell, sz_drew, sz_drewN] at z1
  go_wp2_with fail
  refine (HM.out _ A1).mono ?_
  rintro e w2 ⟨rfl, A2, hb2⟩
  have z2 := But.size hb2
  try simp only [sz_alloc, sz_setCell, sz_drew, sz_drewN] at z2
  go_wp2
  go_end0
  refine ⟨rfl, A2, ?_⟩
  repeat (first | with_reducible exact But.refl _ _ _ | with_reducible refine But.drewN ?_ _ | with_reducible refine But.drew ?_ | with_reducible refine But.setCell ?_ _ _ | with_reducible refine But.setNew ?_ (by (first | omega | (simp only [sz_alloc, sz_setCell, sz_drew, sz_drewN]; omega) | (simp; done) | (simp; omega))) _ | with_reducible refine But.alloc ?_ (by (first | omega | (simp only [sz_alloc, sz_setCell, sz_drew, sz_drewN]; omega) | (simp; done) | (simp; omega))) _ | with_reducible refine But.thenBelow ?_ ?_ (by with_reducible assumption) | with_reducible refine But.then ?_ ?_ (by with_reducible assumption) | (first | omega | (simp only [sz_alloc, sz_setCell, sz_drew, sz_drewN]; omega) | (simp; done) | (simp; omega)))
set_option maxHeartbeats 1000000 in
theorem counts_cell1 (b : Nat) (S : AccS) (kd : Value) (v : Vl) (hk : v.k = 1) (hc0 : 0 ≤ S.count) (hc1 : S.count ≤ 1000000) :
    Turns 289 #[.agg #[], .pointer (some ⟨b, 0, none⟩), .agg #[.int .i64 (v).k, .int .i64 (v).n, .int .i64 (v).d, .string (v).t, .bool (v).b, .int .i64 (v).f]] b S { S with count := S.count + 1 } kd := by
  constructor
  intro w hA
  have hlt := hA.lt
  have hne : ¬ b = w.heap.size := by omega
  have hne' : ¬ w.heap.size = b := by omega
  have k1 : (v.k == 1) = true := by simp [hk]
  have HA := Lib.hid hA
  have q1 : w.cell? ⟨b, 1, none⟩ = some (.int .i64 S.count) := hA.cell 1
  have fz := hA.free
  have hw := w64 (x := S.count + 1) (by omega) (by omega)
  clear hk hA
  go_enter Tryz.func289, Tryz.ntmps289
  go_wp2_with fail
  go_end0
  refine ⟨rfl, (((HA.out.set 1 _).cast (by simp only [accArr, List.setIfInBounds_toArray, List.set_cons_zero, List.set_cons_succ])).alloc _).alloc _, ?_⟩
  repeat (first | with_reducible exact But.refl _ _ _ | with_reducible refine But.drewN ?_ _ | with_reducible refine But.drew ?_ | with_reducible refine But.setCell ?_ _ _ | with_reducible refine But.setNew ?_ (by (first | omega | (simp only [sz_alloc, sz_setCell, sz_drew, sz_drewN]; omega) | (simp; done) | (simp; omega))) _ | with_reducible refine But.alloc ?_ (by (first | omega | (simp only [sz_alloc, sz_setCell, sz_drew, sz_drewN]; omega) | (simp; done) | (simp; omega))) _ | with_reducible refine But.thenBelow ?_ ?_ (by with_reducible assumption) | with_reducible refine But.then ?_ ?_ (by with_reducible assumption) | (first | omega | (simp only [sz_alloc, sz_setCell, sz_drew, sz_drewN]; omega) | (simp; done) | (simp; omega)))

set_option maxHeartbeats 1000000 in
theorem fold_result3 (b : Nat) (S : AccS) (kd : Value) (w : World) (hA : Blk w b (accArr S kd) 104) (hf : S.fn = 3) (h1 : I64 S.count) :
    Calls Tryz.prog 271 #[.agg #[], .pointer (some ⟨b, 0, none⟩)] w fun e w' => e = .returned (.agg #[.int .i64 (wholeF S.count).k, .int .i64 (wholeF S.count).n, .int .i64 (wholeF S.count).d, .string (wholeF S.count).t, .bool (wholeF S.count).b, .int .i64 (wholeF S.count).f]) ∧ Below w.heap.size w w' := by
  have hlt := hA.lt
  have hne : ¬ b = w.heap.size := by omega
  have hne' : ¬ w.heap.size = b := by omega
  have a3 : w.cell? ⟨b, 0, none⟩ = some (.int .i64 S.fn) := hA.cell 0
  have a4 : w.cell? ⟨b, 1, none⟩ = some (.int .i64 S.count) := hA.cell 1
  simp only [hf] at *
  have HN := Lib.hid fun wx => funcs_whole S.count wx h1
  clear h1 hf
  go_enter Tryz.func271, Tryz.ntmps271
  go_wp2_with fail
  refine (HN.out _).mono ?_
  rintro e w1 ⟨rfl, hb⟩
  have s5 := lcs hb (w.heap.size + 1) (by (first | omega | (simp only [sz_alloc, sz_setCell, sz_drew, sz_drewN]; omega) | (simp; done) | (simp; omega)))
  have c5_0 := (lcc hb (w.heap.size + 1) (by (first | omega | (simp only [sz_alloc, sz_setCell, sz_drew, sz_drewN]; omega) | (simp; done) | (simp; omega))) 0).trans (by go_simp; exact rfl)
  have c5_1 := (lcc hb (w.heap.size + 1) (by (first | omega | (simp only [sz_alloc, sz_setCell, sz_drew, sz_drewN]; omega) | (simp; done) | (simp; omega))) 1).trans (by go_simp; exact rfl)
  have c5_2 := (lcc hb (w.heap.size + 1) (by (first | omega | (simp only [sz_alloc, sz_setCell, sz_drew, sz_drewN]; omega) | (simp; done) | (simp; omega))) 2).trans (by go_simp; exact rfl)
  have c5_3 := (lcc hb (w.heap.size + 1) (by (first | omega | (simp only [sz_alloc, sz_setCell, sz_drew, sz_drewN]; omega) | (simp; done) | (simp; omega))) 3).trans (by go_simp; exact rfl)
  have c5_4 := (lcc hb (w.heap.size + 1) (by (first | omega | (simp only [sz_alloc, sz_setCell, sz_drew, sz_drewN]; omega) | (simp; done) | (simp; omega))) 4).trans (by go_simp; exact rfl)
  have c5_5 := (lcc hb (w.heap.size + 1) (by (first | omega | (simp only [sz_alloc, sz_setCell, sz_drew, sz_drewN]; omega) | (simp; done) | (simp; omega))) 5).trans (by go_simp; exact rfl)
  have f5 := lcff hb (w.heap.size + 1) (by (first | omega | (simp only [sz_alloc, sz_setCell, sz_drew, sz_drewN]; omega) | (simp; done) | (simp; omega))) (by intro o; go_simp)
  go_wp2
  refine bodyPost_ret (v := .agg #[.int .i64 (wholeF S.count).k, .int .i64 (wholeF S.count).n, .int .i64 (wholeF S.count).d, .string (wholeF S.count).t, .bool (wholeF S.count).b, .int .i64 (wholeF S.count).f]) (by simp [results, Tryz.results271, go_sem, c5_0, c5_1, c5_2, c5_3, c5_4, c5_5]) rfl ⟨rfl, ?_⟩
  repeat (first | with_reducible exact Below.refl _ _ | with_reducible refine below_drewN ?_ _ | with_reducible refine Below.drew ?_ | with_reducible refine Below.setCell ?_ (by (first | omega | (simp only [sz_alloc, sz_setCell, sz_drew, sz_drewN]; omega) | (simp; done) | (simp; omega))) _ | with_reducible refine Below.alloc ?_ (by (first | omega | (simp only [sz_alloc, sz_setCell, sz_drew, sz_drewN]; omega) | (simp; done) | (simp; omega))) _ | with_reducible refine below_then ?_ ?_ (by with_reducible assumption) | (first | omega | (simp only [sz_alloc, sz_setCell, sz_drew, sz_drewN]; omega) | (simp; done) | (simp; omega)))
set_option maxHeartbeats 1000000 in
theorem acc_Result3 (b : Nat) (S : AccS) (w : World) (hA : Blk w b (accArr S kdC) 104) (hu : S.full = false) (hf : S.fn = 3) (h1 : I64 S.count) :
    Calls Tryz.prog 28 #[.pointer (some ⟨b, 0, none⟩)] w fun e w' => e = .returned (.agg #[.int .i64 (wholeF S.count).k, .int .i64 (wholeF S.count).n, .int .i64 (wholeF S.count).d, .string (wholeF S.count).t, .bool (wholeF S.count).b, .int .i64 (wholeF S.count).f]) ∧ Below w.heap.size w w' := by
  have hlt := hA.lt
  have hne : ¬ b = w.heap.size := by omega
  have hne' : ¬ w.heap.size = b := by omega
  have HR := Lib.hid fun (wx : World) (hx : Blk wx b (accArr S kdC) 104) => fold_result3 b S kdC wx hx hf h1
  have HA := Lib.hid (hA.alloc (.cells #[.int .i64 0, .int .i64 0, .int .i64 0, .string ⟨#[]⟩, .bool false, .int .i64 0] 35))
  have a17 : w.cell? ⟨b, 17, none⟩ = some (.bool false) := (hA.cell 17).trans (by rw [← hu]; rfl)
  have a21 : w.cell? ⟨b, 21, none⟩ = some (.iface 150 (.agg #[])) := hA.cell 21
  clear h1 hf hA hu
  go_enter Tryz.func28, Tryz.ntmps28
  go_wp2_with fail
  refine (HR.out _ HA.out).mono ?_
  rintro e w1 ⟨rfl, hb⟩
  have s6 := lcs hb (w.heap.size) (by (first | omega | (simp only [sz_alloc, sz_setCell, sz_drew, sz_drewN]; omega) | (simp; done) | (simp; omega)))
  have c6_0 := (lcc hb (w.heap.size) (by (first | omega | (simp only [sz_alloc, sz_setCell, sz_drew, sz_drewN]; omega) | (simp; done) | (simp; omega))) 0).trans (by go_simp; exact rfl)
  have c6_1 := (lcc hb (w.heap.size) (by (first | omega | (simp only [sz_alloc, sz_setCell, sz_drew, sz_drewN]; omega) | (simp; done) | (simp; omega))) 1).trans (by go_simp; exact rfl)
  have c6_2 := (lcc hb (w.heap.size) (by (first | omega | (simp only [sz_alloc, sz_setCell, sz_drew, sz_drewN]; omega) | (simp; done) | (simp; omega))) 2).trans (by go_simp; exact rfl)
  have c6_3 := (lcc hb (w.heap.size) (by (first | omega | (simp only [sz_alloc, sz_setCell, sz_drew, sz_drewN]; omega) | (simp; done) | (simp; omega))) 3).trans (by go_simp; exact rfl)
  have c6_4 := (lcc hb (w.heap.size) (by (first | omega | (simp only [sz_alloc, sz_setCell, sz_drew, sz_drewN]; omega) | (simp; done) | (simp; omega))) 4).trans (by go_simp; exact rfl)
  have c6_5 := (lcc hb (w.heap.size) (by (first | omega | (simp only [sz_alloc, sz_setCell, sz_drew, sz_drewN]; omega) | (simp; done) | (simp; omega))) 5).trans (by go_simp; exact rfl)
  have f6 := lcff hb (w.heap.size) (by (first | omega | (simp only [sz_alloc, sz_setCell, sz_drew, sz_drewN]; omega) | (simp; done) | (simp; omega))) (by intro o; go_simp)
  go_wp2
  refine bodyPost_ret (v := .agg #[.int .i64 (wholeF S.count).k, .int .i64 (wholeF S.count).n, .int .i64 (wholeF S.count).d, .string (wholeF S.count).t, .bool (wholeF S.count).b, .int .i64 (wholeF S.count).f]) (by simp [results, Tryz.results28, go_sem, c6_0, c6_1, c6_2, c6_3, c6_4, c6_5]) rfl ⟨rfl, ?_⟩
  repeat (first | with_reducible exact Below.refl _ _ | with_reducible refine below_drewN ?_ _ | with_reducible refine Below.drew ?_ | with_reducible refine Below.setCell ?_ (by (first | omega | (simp only [sz_alloc, sz_setCell, sz_drew, sz_drewN]; omega) | (simp; done) | (simp; omega))) _ | with_reducible refine Below.alloc ?_ (by (first | omega | (simp only [sz_alloc, sz_setCell, sz_drew, sz_drewN]; omega) | (simp; done) | (simp; omega))) _ | with_reducible refine below_then ?_ ?_ (by with_reducible assumption) | (first | omega | (simp only [sz_alloc, sz_setCell, sz_drew, sz_drewN]; omega) | (simp; done) | (simp; omega)))
set_option maxHeartbeats 1000000 in
theorem fold_result4 (b : Nat) (S : AccS) (kd : Value) (w : World) (hA : Blk w b (accArr S kd) 104) (hf : S.fn = 4) (h1 : I64 S.count) :
    Calls Tryz.prog 271 #[.agg #[], .pointer (some ⟨b, 0, none⟩)] w fun e w' => e = .returned (.agg #[.int .i64 (wholeF S.count).k, .int .i64 (wholeF S.count).n, .int .i64 (wholeF S.count).d, .string (wholeF S.count).t, .bool (wholeF S.count).b, .int .i64 (wholeF S.count).f]) ∧ Below w.heap.size w w' := by
  have hlt := hA.lt
  have hne : ¬ b = w.heap.size := by omega
  have hne' : ¬ w.heap.size = b := by omega
  have a7 : w.cell? ⟨b, 0, none⟩ = some (.int .i64 S.fn) := hA.cell 0
  have a8 : w.cell? ⟨b, 1, none⟩ = some (.int .i64 S.count) := hA.cell 1
  simp only [hf] at *
  have HN := Lib.hid fun wx => funcs_whole S.count wx h1
  clear h1 hf
  go_enter Tryz.func271, Tryz.ntmps271
  go_wp2_with fail
  refine (HN.out _).mono ?_
  rintro e w1 ⟨rfl, hb⟩
  have s9 := lcs hb (w.heap.size + 1) (by (first | omega | (simp only [sz_alloc, sz_setCell, sz_drew, sz_drewN]; omega) | (simp; done) | (simp; omega)))
  have c9_0 := (lcc hb (w.heap.size + 1) (by (first | omega | (simp only [sz_alloc, sz_setCell, sz_drew, sz_drewN]; omega) | (simp; done) | (simp; omega))) 0).trans (by go_simp; exact rfl)
  have c9_1 := (lcc hb (w.heap.size + 1) (by (first | omega | (simp only [sz_alloc, sz_setCell, sz_drew, sz_drewN]; omega) | (simp; done) | (simp; omega))) 1).trans (by go_simp; exact rfl)
  have c9_2 := (lcc hb (w.heap.size + 1) (by (first | omega | (simp only [sz_alloc, sz_setCell, sz_drew, sz_drewN]; omega) | (simp; done) | (simp; omega))) 2).trans (by go_simp; exact rfl)
  have c9_3 := (lcc hb (w.heap.size + 1) (by (first | omega | (simp only [sz_alloc, sz_setCell, sz_drew, sz_drewN]; omega) | (simp; done) | (simp; omega))) 3).trans (by go_simp; exact rfl)
  have c9_4 := (lcc hb (w.heap.size + 1) (by (first | omega | (simp only [sz_alloc, sz_setCell, sz_drew, sz_drewN]; omega) | (simp; done) | (simp; omega))) 4).trans (by go_simp; exact rfl)
  have c9_5 := (lcc hb (w.heap.size + 1) (by (first | omega | (simp only [sz_alloc, sz_setCell, sz_drew, sz_drewN]; omega) | (simp; done) | (simp; omega))) 5).trans (by go_simp; exact rfl)
  have f9 := lcff hb (w.heap.size + 1) (by (first | omega | (simp only [sz_alloc, sz_setCell, sz_drew, sz_drewN]; omega) | (simp; done) | (simp; omega))) (by intro o; go_simp)
  go_wp2
  refine bodyPost_ret (v := .agg #[.int .i64 (wholeF S.count).k, .int .i64 (wholeF S.count).n, .int .i64 (wholeF S.count).d, .string (wholeF S.count).t, .bool (wholeF S.count).b, .int .i64 (wholeF S.count).f]) (by simp [results, Tryz.results271, go_sem, c9_0, c9_1, c9_2, c9_3, c9_4, c9_5]) rfl ⟨rfl, ?_⟩
  repeat (first | with_reducible exact Below.refl _ _ | with_reducible refine below_drewN ?_ _ | with_reducible refine Below.drew ?_ | with_reducible refine Below.setCell ?_ (by (first | omega | (simp only [sz_alloc, sz_setCell, sz_drew, sz_drewN]; omega) | (simp; done) | (simp; omega))) _ | with_reducible refine Below.alloc ?_ (by (first | omega | (simp only [sz_alloc, sz_setCell, sz_drew, sz_drewN]; omega) | (simp; done) | (simp; omega))) _ | with_reducible refine below_then ?_ ?_ (by with_reducible assumption) | (first | omega | (simp only [sz_alloc, sz_setCell, sz_drew, sz_drewN]; omega) | (simp; done) | (simp; omega)))
set_option maxHeartbeats 1000000 in
theorem acc_Result4 (b : Nat) (S : AccS) (w : World) (hA : Blk w b (accArr S kdC) 104) (hu : S.full = false) (hf : S.fn = 4) (h1 : I64 S.count) :
    Calls Tryz.prog 28 #[.pointer (some ⟨b, 0, none⟩)] w fun e w' => e = .returned (.agg #[.int .i64 (wholeF S.count).k, .int .i64 (wholeF S.count).n, .int .i64 (wholeF S.count).d, .string (wholeF S.count).t, .bool (wholeF S.count).b, .int .i64 (wholeF S.count).f]) ∧ Below w.heap.size w w' := by
  have hlt := hA.lt
  have hne : ¬ b = w.heap.size := by omega
  have hne' : ¬ w.heap.size = b := by omega
  have HR := Lib.hid fun (wx : World) (hx : Blk wx b (accArr S kdC) 104) => fold_result4 b S kdC wx hx hf h1
  have HA := Lib.hid (hA.alloc (.cells #[.int .i64 0, .int .i64 0, .int .i64 0, .string ⟨#[]⟩, .bool false, .int .i64 0] 35))
  have a17 : w.cell? ⟨b, 17, none⟩ = some (.bool false) := (hA.cell 17).trans (by rw [← hu]; rfl)
  have a21 : w.cell? ⟨b, 21, none⟩ = some (.iface 150 (.agg #[])) := hA.cell 21
  clear h1 hf hA hu
  go_enter Tryz.func28, Tryz.ntmps28
  go_wp2_with fail
  refine (HR.out _ HA.out).mono ?_
  rintro e w1 ⟨rfl, hb⟩
  have s10 := lcs hb (w.heap.size) (by (first | omega | (simp only [sz_alloc, sz_setCell, sz_drew, sz_drewN]; omega) | (simp; done) | (simp; omega)))
  have c10_0 := (lcc hb (w.heap.size) (by (first | omega | (simp only [sz_alloc, sz_setCell, sz_drew, sz_drewN]; omega) | (simp; done) | (simp; omega))) 0).trans (by go_simp; exact rfl)
  have c10_1 := (lcc hb (w.heap.size) (by (first | omega | (simp only [sz_alloc, sz_setCell, sz_drew, sz_drewN]; omega) | (simp; done) | (simp; omega))) 1).trans (by go_simp; exact rfl)
  have c10_2 := (lcc hb (w.heap.size) (by (first | omega | (simp only [sz_alloc, sz_setCell, sz_drew, sz_drewN]; omega) | (simp; done) | (simp; omega))) 2).trans (by go_simp; exact rfl)
  have c10_3 := (lcc hb (w.heap.size) (by (first | omega | (simp only [sz_alloc, sz_setCell, sz_drew, sz_drewN]; omega) | (simp; done) | (simp; omega))) 3).trans (by go_simp; exact rfl)
  have c10_4 := (lcc hb (w.heap.size) (by (first | omega | (simp only [sz_alloc, sz_setCell, sz_drew, sz_drewN]; omega) | (simp; done) | (simp; omega))) 4).trans (by go_simp; exact rfl)
  have c10_5 := (lcc hb (w.heap.size) (by (first | omega | (simp only [sz_alloc, sz_setCell, sz_drew, sz_drewN]; omega) | (simp; done) | (simp; omega))) 5).trans (by go_simp; exact rfl)
  have f10 := lcff hb (w.heap.size) (by (first | omega | (simp only [sz_alloc, sz_setCell, sz_drew, sz_drewN]; omega) | (simp; done) | (simp; omega))) (by intro o; go_simp)
  go_wp2
  refine bodyPost_ret (v := .agg #[.int .i64 (wholeF S.count).k, .int .i64 (wholeF S.count).n, .int .i64 (wholeF S.count).d, .string (wholeF S.count).t, .bool (wholeF S.count).b, .int .i64 (wholeF S.count).f]) (by simp [results, Tryz.results28, go_sem, c10_0, c10_1, c10_2, c10_3, c10_4, c10_5]) rfl ⟨rfl, ?_⟩
  repeat (first | with_reducible exact Below.refl _ _ | with_reducible refine below_drewN ?_ _ | with_reducible refine Below.drew ?_ | with_reducible refine Below.setCell ?_ (by (first | omega | (simp only [sz_alloc, sz_setCell, sz_drew, sz_drewN]; omega) | (simp; done) | (simp; omega))) _ | with_reducible refine Below.alloc ?_ (by (first | omega | (simp only [sz_alloc, sz_setCell, sz_drew, sz_drewN]; omega) | (simp; done) | (simp; omega))) _ | with_reducible refine below_then ?_ ?_ (by with_reducible assumption) | (first | omega | (simp only [sz_alloc, sz_setCell, sz_drew, sz_drewN]; omega) | (simp; done) | (simp; omega)))
set_option maxHeartbeats 1000000 in
theorem acc_Result_full (b : Nat) (S : AccS) (kd : Value) (w : World) (hA : Blk w b (accArr S kd) 104) (hu : S.full = true) :
    Calls Tryz.prog 28 #[.pointer (some ⟨b, 0, none⟩)] w fun e w' => e = .returned (.agg #[.int .i64 (S.v).k, .int .i64 (S.v).n, .int .i64 (S.v).d, .string (S.v).t, .bool (S.v).b, .int .i64 (S.v).f]) ∧ Below w.heap.size w w' := by
  have hlt := hA.lt
  have hne : ¬ b = w.heap.size := by omega
  have hne' : ¬ w.heap.size = b := by omega
  have a11 : w.cell? ⟨b, 4, none⟩ = some (.int .i64 S.v.k) := hA.cell 4
  have a12 : w.cell? ⟨b, 5, none⟩ = some (.int .i64 S.v.n) := hA.cell 5
  have a13 : w.cell? ⟨b, 6, none⟩ = some (.int .i64 S.v.d) := hA.cell 6
  have a14 : w.cell? ⟨b, 7, none⟩ = some (.string S.v.t) := hA.cell 7
  have a15 : w.cell? ⟨b, 8, none⟩ = some (.bool S.v.b) := hA.cell 8
  have a16 : w.cell? ⟨b, 9, none⟩ = some (.int .i64 S.v.f) := hA.cell 9
  have a17 : w.cell? ⟨b, 17, none⟩ = some (.bool true) := (hA.cell 17).trans (by rw [← hu]; rfl)
  clear hA hu
  go_enter Tryz.func28, Tryz.ntmps28
  go_wp2
  refine bodyPost_ret (v := .agg #[.int .i64 (S.v).k, .int .i64 (S.v).n, .int .i64 (S.v).d, .string (S.v).t, .bool (S.v).b, .int .i64 (S.v).f]) (by simp [results, Tryz.results28, go_sem]) rfl ⟨rfl, ?_⟩
  repeat (first | with_reducible exact Below.refl _ _ | with_reducible refine below_drewN ?_ _ | with_reducible refine Below.drew ?_ | with_reducible refine Below.setCell ?_ (by (first | omega | (simp only [sz_alloc, sz_setCell, sz_drew, sz_drewN]; omega) | (simp; done) | (simp; omega))) _ | with_reducible refine Below.alloc ?_ (by (first | omega | (simp only [sz_alloc, sz_setCell, sz_drew, sz_drewN]; omega) | (simp; done) | (simp; omega))) _ | with_reducible refine below_then ?_ ?_ (by with_reducible assumption) | (first | omega | (simp only [sz_alloc, sz_setCell, sz_drew, sz_drewN]; omega) | (simp; done) | (simp; omega)))

/-- What AVERAGE comes to. -/
def meanF (S : AccS) : Vl := if S.count = 0 then faultF 1 else toldF (div S.n S.d S.count 1).n (div S.n S.d S.count 1).d (div S.n S.d S.count 1).ok
theorem prodQ_bd {n d m e : Int} (hd : 0 ≤ d) (he : 0 ≤ e) : -1000000000000 ≤ (prodQ n d m e).n ∧ (prodQ n d m e).n ≤ 1000000000000 ∧ 0 ≤ (prodQ n d m e).d ∧ (prodQ n d m e).d ≤ 1000000 := by
  unfold prodQ
  split
  · decide
  · rename_i h
    split
    · decide
    · rename_i h0
      have hm : m ≠ 0 := fun h1 => h0 (by simp [h1])
      have h2 := natAbs_mul_le (a := n) (b := m) (k := 1000000000000) hm (fun h1 => h (Or.inl ⟨hm, h1⟩))
      have h3 : ¬ 1000000 < d * e := fun h1 => h (Or.inr h1)
      have h4 : 0 ≤ d * e := Int.mul_nonneg hd he
      refine ⟨?_, ?_, ?_, ?_⟩ <;> simp only <;> omega
theorem prod_bd {n d m e : Int} (hd : 0 ≤ d) (he : 0 ≤ e) : -1000000000000 ≤ (prod n d m e).n ∧ (prod n d m e).n ≤ 1000000000000 ∧ 0 ≤ (prod n d m e).d ∧ (prod n d m e).d ≤ 1000000 := by
  unfold prod
  exact prodQ_bd (Int.ediv_nonneg hd (by omega)) (Int.ediv_nonneg he (by omega))
theorem mul_bds (n d m e : Int) : -1000000000000 ≤ (mul n d m e).n ∧ (mul n d m e).n ≤ 1000000000000 ∧ 0 ≤ (mul n d m e).d ∧ (mul n d m e).d ≤ 1000000 := by
  have h1 := tk_bd n d
  have h2 := tk_bd m e
  unfold mul
  exact prod_bd (by omega) (by omega)
theorem div_bds (n d m e : Int) : -1000000000000 ≤ (div n d m e).n ∧ (div n d m e).n ≤ 1000000000000 ∧ 0 ≤ (div n d m e).d ∧ (div n d m e).d ≤ 1000000 := by
  have h1 := tk_bd n d
  have h2 := tk_bd m e
  unfold div
  split
  · decide
  · split
    · exact prod_bd (by omega) (by omega)
    · exact prod_bd (by omega) (by omega)
end Go.Proofs.YtangdbjoflnobaaGreatDoor
