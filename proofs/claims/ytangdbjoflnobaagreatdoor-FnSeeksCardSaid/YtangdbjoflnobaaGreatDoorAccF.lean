/- Walks of package funcs: a fold of numbers is opened; it takes a cell, an argument. -/
import Derived.Test.YtangdbjoflnobaaGreatDoorAccD
import Derived.Test.YtangdbjoflnobaaGreatDoorAccE
namespace Go.Proofs.YtangdbjoflnobaaGreatDoor
open Go.RowKit
set_option linter.unusedSimpArgs false
set_option linter.unusedVariables false

def acc0 (fn n : Int) : AccS := ⟨fn, 0, n, 1, blankV, blankV, false, false, false, 0, 0⟩

set_option maxHeartbeats 1000000 in
theorem funcs_kinds1 (w : World) :
    Calls Tryz.prog 80 #[.int .i64 1] w fun e w' => e = .returned (.iface 148 (.agg #[])) ∧ w = w' := by
  go_enter Tryz.func80, Tryz.ntmps80
  go_wp2
  go_ret
  exact ⟨rfl, rfl⟩
set_option maxHeartbeats 1000000 in
theorem funcs_Open1 (w : World) :
    Calls Tryz.prog 38 #[.int .i64 1] w fun e w' => e = .returned (.tuple #[.pointer (some ⟨w.heap.size, 0, none⟩), .int .i64 0]) ∧ Blk w' w.heap.size (accArr (acc0 1 0) kdN) 104 ∧ Below w.heap.size w w' := by
  go_enter Tryz.func38, Tryz.ntmps38
  go_wp2_with fail
  refine (funcs_kinds1 _).mono ?_
  rintro e w1 ⟨rfl, rfl⟩
  go_wp2
  go_ret2
  refine ⟨rfl, heap_alloc_new _ _, ?_⟩
  repeat (first | with_reducible exact Below.refl _ _ | with_reducible refine below_drewN ?_ _ | with_reducible refine Below.drew ?_ | with_reducible refine Below.setCell ?_ (by (first | omega | (simp only [sz_alloc, sz_setCell, sz_drew, sz_drewN]; omega) | (simp; done) | (simp; omega))) _ | with_reducible refine Below.alloc ?_ (by (first | omega | (simp only [sz_alloc, sz_setCell, sz_drew, sz_drewN]; omega) | (simp; done) | (simp; omega))) _ | with_reducible refine below_then ?_ ?_ (by with_reducible assumption) | (first | omega | (simp only [sz_alloc, sz_setCell, sz_drew, sz_drewN]; omega) | (simp; done) | (simp; omega)))
set_option maxHeartbeats 1000000 in
theorem funcs_kinds5 (w : World) :
    Calls Tryz.prog 80 #[.int .i64 5] w fun e w' => e = .returned (.iface 148 (.agg #[])) ∧ w = w' := by
  go_enter Tryz.func80, Tryz.ntmps80
  go_wp2
  go_ret
  exact ⟨rfl, rfl⟩
set_option maxHeartbeats 1000000 in
theorem funcs_Open5 (w : World) :
    Calls Tryz.prog 38 #[.int .i64 5] w fun e w' => e = .returned (.tuple #[.pointer (some ⟨w.heap.size, 0, none⟩), .int .i64 0]) ∧ Blk w' w.heap.size (accArr (acc0 5 0) kdN) 104 ∧ Below w.heap.size w w' := by
  go_enter Tryz.func38, Tryz.ntmps38
  go_wp2_with fail
  refine (funcs_kinds5 _).mono ?_
  rintro e w1 ⟨rfl, rfl⟩
  go_wp2
  go_ret2
  refine ⟨rfl, heap_alloc_new _ _, ?_⟩
  repeat (first | with_reducible exact Below.refl _ _ | with_reducible refine below_drewN ?_ _ | with_reducible refine Below.drew ?_ | with_reducible refine Below.setCell ?_ (by (first | omega | (simp only [sz_alloc, sz_setCell, sz_drew, sz_drewN]; omega) | (simp; done) | (simp; omega))) _ | with_reducible refine Below.alloc ?_ (by (first | omega | (simp only [sz_alloc, sz_setCell, sz_drew, sz_drewN]; omega) | (simp; done) | (simp; omega))) _ | with_reducible refine below_then ?_ ?_ (by with_reducible assumption) | (first | omega | (simp only [sz_alloc, sz_setCell, sz_drew, sz_drewN]; omega) | (simp; done) | (simp; omega)))
set_option maxHeartbeats 1000000 in
theorem funcs_kinds6 (w : World) :
    Calls Tryz.prog 80 #[.int .i64 6] w fun e w' => e = .returned (.iface 148 (.agg #[])) ∧ w = w' := by
  go_enter Tryz.func80, Tryz.ntmps80
  go_wp2
  go_ret
  exact ⟨rfl, rfl⟩
set_option maxHeartbeats 1000000 in
theorem funcs_Open6 (w : World) :
    Calls Tryz.prog 38 #[.int .i64 6] w fun e w' => e = .returned (.tuple #[.pointer (some ⟨w.heap.size, 0, none⟩), .int .i64 0]) ∧ Blk w' w.heap.size (accArr (acc0 6 0) kdN) 104 ∧ Below w.heap.size w w' := by
  go_enter Tryz.func38, Tryz.ntmps38
  go_wp2_with fail
  refine (funcs_kinds6 _).mono ?_
  rintro e w1 ⟨rfl, rfl⟩
  go_wp2
  go_ret2
  refine ⟨rfl, heap_alloc_new _ _, ?_⟩
  repeat (first | with_reducible exact Below.refl _ _ | with_reducible refine below_drewN ?_ _ | with_reducible refine Below.drew ?_ | with_reducible refine Below.setCell ?_ (by (first | omega | (simp only [sz_alloc, sz_setCell, sz_drew, sz_drewN]; omega) | (simp; done) | (simp; omega))) _ | with_reducible refine Below.alloc ?_ (by (first | omega | (simp only [sz_alloc, sz_setCell, sz_drew, sz_drewN]; omega) | (simp; done) | (simp; omega))) _ | with_reducible refine below_then ?_ ?_ (by with_reducible assumption) | (first | omega | (simp only [sz_alloc, sz_setCell, sz_drew, sz_drewN]; omega) | (simp; done) | (simp; omega)))

set_option maxHeartbeats 1000000 in
theorem acc_Cell (b : Nat) (S S' : AccS) (k n d : Int) (t : ByteArray) (bb : Bool) (f : Int) (v : Vl) (hv : v = tkV ⟨k, n, d, t, bb, f⟩) (hx : Vl.In ⟨k, n, d, t, bb, f⟩) (hu : S.full = false) (hw : S.wants = false)
    (HM : Turns 272 #[.agg #[], .pointer (some ⟨b, 0, none⟩), .agg #[.int .i64 (v).k, .int .i64 (v).n, .int .i64 (v).d, .string (v).t, .bool (v).b, .int .i64 (v).f]] b S S' kdN) :
    Turns 41 #[.pointer (some ⟨b, 0, none⟩), .agg #[.int .i64 k, .int .i64 n, .int .i64 d, .string t, .bool bb, .int .i64 f]] b S S' kdN := by
  constructor
  intro w hA
  have hlt := hA.lt
  have hne : ¬ b = w.heap.size := by omega
  have hne' : ¬ w.heap.size = b := by omega
  have HT := Lib.hid fun wx => funcs_taken k n d t bb f wx hx
  rw [← hv] at HT
  have HA := Lib.hid (hA.alloc (.cells #[.int .i64 k, .int .i64 n, .int .i64 d, .string t, .bool bb, .int .i64 f] 35))
  have a17 : w.cell? ⟨b, 17, none⟩ = some (.bool false) := (hA.cell 17).trans (by rw [← hu]; rfl)
  have a18 : w.cell? ⟨b, 18, none⟩ = some (.bool false) := (hA.cell 18).trans (by rw [← hw]; rfl)
  have a21 : w.cell? ⟨b, 21, none⟩ = some (.iface 148 (.agg #[])) := hA.cell 21
  clear hA hx hu hw hv
  go_enter Tryz.func41, Tryz.ntmps41
  go_wp2_with fail
  refine region_below 9 (by kernel_rfl) (by kernel_rfl) ?_
  simp only [List.take_succ_cons, List.take_zero, List.drop_succ_cons, List.drop_zero]
  repeat
    first | (refine q_run ?_ ?_; focus (go_simp; done)) | (refine q_skip ?_ ?_; focus (go_simp; done))
    try (apply Exists.intro; refine ⟨fun w' hw' => ?_, ?_⟩; focus (have hc := (bcell hw'.out).1; unfold Oper.quietAt; go_simp; (try go_ints); (first | rfl | (go_at_call 55; refine (HT.out _).mono ?_; rintro e w2 ⟨rfl, hb⟩; exact ⟨rfl, hw'.chain hb⟩))))
    intro K hK
    go_simp
    refine hK _ ?_
    clear hK K
  refine wpQuiet_nil ?_
  intro w1 hb'
  have hb := hb'.out
  clear hb'
  have A1 := HA.out.below hb
  have z1 := Below.size hb
  try simp only [sz_alloc, sz_setCell, sz_drew, sz_drewN] at z1
  go_wp2_with fail
  refine (HM.out _ A1).mono ?_
  rintro e w2 ⟨rfl, A2, hb2⟩
  have z2 := But.size hb2
  try simp only [sz_alloc, sz_setCell, sz_drew, sz_drewN] at z2
  go_wp2
  go_end0
  refine ⟨rfl, A2, ?_⟩
  repeat (first | with_reducible exact But.refl _ _ _ | with_reducible refine But.drewN ?_ _ | with_reducible refine But.drew ?_ | with_reducible refine But.setCell ?_ _ _ | with_reducible refine But.setNew ?_ (by (first | omega | (simp only [sz_alloc, sz_setCell, sz_drew, sz_drewN]; omega) | (simp; done) | (simp; omega))) _ | with_reducible refine But.alloc ?_ (by (first | omega | (simp only [sz_alloc, sz_setCell, sz_drew, sz_drewN]; omega) | (simp; done) | (simp; omega))) _ | with_reducible refine But.thenBelow ?_ ?_ (by with_reducible assumption) | with_reducible refine But.then ?_ ?_ (by with_reducible assumption) | (first | omega | (simp only [sz_alloc, sz_setCell, sz_drew, sz_drewN]; omega) | (simp; done) | (simp; omega)))
set_option maxHeartbeats 1000000 in
theorem acc_Feed (b : Nat) (S S' : AccS) (k n d : Int) (t : ByteArray) (bb : Bool) (f : Int) (v : Vl) (hv : v = tkV ⟨k, n, d, t, bb, f⟩) (hx : Vl.In ⟨k, n, d, t, bb, f⟩) (hu : S.full = false) (hw : S.wants = false)
    (HM : Turns 273 #[.agg #[], .pointer (some ⟨b, 0, none⟩), .agg #[.int .i64 (v).k, .int .i64 (v).n, .int .i64 (v).d, .string (v).t, .bool (v).b, .int .i64 (v).f]] b S S' kdN) :
    Turns 42 #[.pointer (some ⟨b, 0, none⟩), .agg #[.int .i64 k, .int .i64 n, .int .i64 d, .string t, .bool bb, .int .i64 f]] b S S' kdN := by
  constructor
  intro w hA
  have hlt := hA.lt
  have hne : ¬ b = w.heap.size := by omega
  have hne' : ¬ w.heap.size = b := by omega
  have HT := Lib.hid fun wx => funcs_taken k n d t bb f wx hx
  rw [← hv] at HT
  have HA := Lib.hid (hA.alloc (.cells #[.int .i64 k, .int .i64 n, .int .i64 d, .string t, .bool bb, .int .i64 f] 35))
  have a17 : w.cell? ⟨b, 17, none⟩ = some (.bool false) := (hA.cell 17).trans (by rw [← hu]; rfl)
  have a18 : w.cell? ⟨b, 18, none⟩ = some (.bool false) := (hA.cell 18).trans (by rw [← hw]; rfl)
  have a21 : w.cell? ⟨b, 21, none⟩ = some (.iface 148 (.agg #[])) := hA.cell 21
  clear hA hx hu hw hv
  go_enter Tryz.func42, Tryz.ntmps42
  go_wp2_with fail
  refine region_below 9 (by kernel_rfl) (by kernel_rfl) ?_
  simp only [List.take_succ_cons, List.take_zero, List.drop_succ_cons, List.drop_zero]
  repeat
    first | (refine q_run ?_ ?_; focus (go_simp; done)) | (refine q_skip ?_ ?_; focus (go_simp; done))
    try (apply Exists.intro; refine ⟨fun w' hw' => ?_, ?_⟩; focus (have hc := (bcell hw'.out).1; unfold Oper.quietAt; go_simp; (try go_ints); (first | rfl | (go_at_call 55; refine (HT.out _).mono ?_; rintro e w2 ⟨rfl, hb⟩; exact ⟨rfl, hw'.chain hb⟩))))
    intro K hK
    go_simp
    refine hK _ ?_
    clear hK K
  refine wpQuiet_nil ?_
  intro w1 hb'
  have hb := hb'.out
  clear hb'
  have A1 := HA.out.below hb
  have z3 := Below.size hb
  try simp only [sz_alloc, sz_setCell, sz_drew, sz_drewN] at z3
  go_wp2_with fail
  refine (HM.out _ A1).mono ?_
  rintro e w2 ⟨rfl, A2, hb2⟩
  have z4 := But.size hb2
  try simp only [sz_alloc, sz_setCell, sz_drew, sz_drewN] at z4
  go_wp2
  go_end0
  refine ⟨rfl, A2, ?_⟩
  repeat (first | with_reducible exact But.refl _ _ _ | with_reducible refine But.drewN ?_ _ | with_reducible refine But.drew ?_ | with_reducible refine But.setCell ?_ _ _ | with_reducible refine But.setNew ?_ (by (first | omega | (simp only [sz_alloc, sz_setCell, sz_drew, sz_drewN]; omega) | (simp; done) | (simp; omega))) _ | with_reducible refine But.alloc ?_ (by (first | omega | (simp only [sz_alloc, sz_setCell, sz_drew, sz_drewN]; omega) | (simp; done) | (simp; omega))) _ | with_reducible refine But.thenBelow ?_ ?_ (by with_reducible assumption) | with_reducible refine But.then ?_ ?_ (by with_reducible assumption) | (first | omega | (simp only [sz_alloc, sz_setCell, sz_drew, sz_drewN]; omega) | (simp; done) | (simp; omega)))
set_option maxHeartbeats 1000000 in
theorem acc_least (b : Nat) (S : AccS) (kd : Value) (n d : Int) (h1 : I64 S.n) (h2 : I64 S.d) (h3 : I64 n) (h4 : I64 d) :
    Turns 280 #[.pointer (some ⟨b, 0, none⟩), .agg #[.int .i64 n, .int .i64 d]] b S (S.keep n d (-1)) kd := by
  constructor
  intro w hA
  have hlt := hA.lt
  have HA := Lib.hid (hA.alloc (.cells #[.int .i64 n, .int .i64 d] 33))
  have HK : Hid (∀ wx : World, Blk wx b (accArr S kd) 104 → Calls Tryz.prog 284 #[.pointer (some ⟨b, 0, none⟩), .agg #[.int .i64 n, .int .i64 d], .int .i64 (-1)] wx fun e w' => e = .returned (.tuple #[]) ∧ Blk w' b (accArr (S.keep n d (-1)) kd) 104 ∧ But wx.heap.size b wx w') := by
    intro wx hx
    cases hs : S.has
    · exact keeps_no b S kd n d (-1) wx hx hs
    · exact keeps_has b S kd n d (-1) wx hx hs h1 h2 h3 h4
  clear hA h1 h2 h3 h4
  go_enter Tryz.func280, Tryz.ntmps280
  go_wp2_with fail
  refine (HK.out _ HA.out).mono ?_
  rintro e w1 ⟨rfl, A1, hb⟩
  have z5 := But.size hb
  try simp only [sz_alloc, sz_setCell, sz_drew, sz_drewN] at z5
  go_wp2
  go_end0
  refine ⟨rfl, A1, ?_⟩
  repeat (first | with_reducible exact But.refl _ _ _ | with_reducible refine But.drewN ?_ _ | with_reducible refine But.drew ?_ | with_reducible refine But.setCell ?_ _ _ | with_reducible refine But.setNew ?_ (by (first | omega | (simp only [sz_alloc, sz_setCell, sz_drew, sz_drewN]; omega) | (simp; done) | (simp; omega))) _ | with_reducible refine But.alloc ?_ (by (first | omega | (simp only [sz_alloc, sz_setCell, sz_drew, sz_drewN]; omega) | (simp; done) | (simp; omega))) _ | with_reducible refine But.thenBelow ?_ ?_ (by with_reducible assumption) | with_reducible refine But.then ?_ ?_ (by with_reducible assumption) | (first | omega | (simp only [sz_alloc, sz_setCell, sz_drew, sz_drewN]; omega) | (simp; done) | (simp; omega)))
set_option maxHeartbeats 1000000 in
theorem acc_greatest (b : Nat) (S : AccS) (kd : Value) (n d : Int) (h1 : I64 S.n) (h2 : I64 S.d) (h3 : I64 n) (h4 : I64 d) :
    Turns 281 #[.pointer (some ⟨b, 0, none⟩), .agg #[.int .i64 n, .int .i64 d]] b S (S.keep n d 1) kd := by
  constructor
  intro w hA
  have hlt := hA.lt
  have HA := Lib.hid (hA.alloc (.cells #[.int .i64 n, .int .i64 d] 33))
  have HK : Hid (∀ wx : World, Blk wx b (accArr S kd) 104 → Calls Tryz.prog 284 #[.pointer (some ⟨b, 0, none⟩), .agg #[.int .i64 n, .int .i64 d], .int .i64 1] wx fun e w' => e = .returned (.tuple #[]) ∧ Blk w' b (accArr (S.keep n d 1) kd) 104 ∧ But wx.heap.size b wx w') := by
    intro wx hx
    cases hs : S.has
    · exact keeps_no b S kd n d 1 wx hx hs
    · exact keeps_has b S kd n d 1 wx hx hs h1 h2 h3 h4
  clear hA h1 h2 h3 h4
  go_enter Tryz.func281, Tryz.ntmps281
  go_wp2_with fail
  refine (HK.out _ HA.out).mono ?_
  rintro e w1 ⟨rfl, A1, hb⟩
  have z6 := But.size hb
  try simp only [sz_alloc, sz_setCell, sz_drew, sz_drewN] at z6
  go_wp2
  go_end0
  refine ⟨rfl, A1, ?_⟩
  repeat (first | with_reducible exact But.refl _ _ _ | with_reducible refine But.drewN ?_ _ | with_reducible refine But.drew ?_ | with_reducible refine But.setCell ?_ _ _ | with_reducible refine But.setNew ?_ (by (first | omega | (simp only [sz_alloc, sz_setCell, sz_drew, sz_drewN]; omega) | (simp; done) | (simp; omega))) _ | with_reducible refine But.alloc ?_ (by (first | omega | (simp only [sz_alloc, sz_setCell, sz_drew, sz_drewN]; omega) | (simp; done) | (simp; omega))) _ | with_reducible refine But.thenBelow ?_ ?_ (by with_reducible assumption) | with_reducible refine But.then ?_ ?_ (by with_reducible assumption) | (first | omega | (simp only [sz_alloc, sz_setCell, sz_drew, sz_drewN]; omega) | (simp; done) | (simp; omega)))
end Go.Proofs.YtangdbjoflnobaaGreatDoor
