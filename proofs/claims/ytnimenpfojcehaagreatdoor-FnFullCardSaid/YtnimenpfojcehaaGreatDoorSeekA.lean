/- Walks of package funcs: the searches: what they do with a needle, a cell, a partner; what they come to. -/
import Derived.Test.YtnimenpfojcehaaGreatDoorAccR
import Derived.Test.YtnimenpfojcehaaGreatDoorCmpB
import Derived.Test.YtnimenpfojcehaaGreatDoorShelf
import Derived.Deep.QuietTactic
import Derived.BigQuiet
namespace Go.Proofs.YtnimenpfojcehaaGreatDoor
open Go Go.RowKit
set_option linter.unusedSimpArgs false
set_option linter.unusedVariables false

def kdM : Value := .iface 94 (.agg #[])
def kdI : Value := .iface 95 (.agg #[])
def kdL : Value := .iface 97 (.agg #[])
set_option maxHeartbeats 1000000 in
theorem funcs_kinds20 (w : World) :
    Calls Tryz.prog 23 #[.int .i64 20] w fun e w' => e = .returned (.iface 94 (.agg #[])) ∧ w = w' := by
  go_enter Tryz.func23, Tryz.ntmps23
  go_wp2
  go_ret
  exact ⟨rfl, rfl⟩
set_option maxHeartbeats 1000000 in
theorem funcs_Open20 (w : World) :
    Calls Tryz.prog 9 #[.int .i64 20] w fun e w' => e = .returned (.tuple #[.pointer (some ⟨w.heap.size, 0, none⟩), .int .i64 0]) ∧ Blk w' w.heap.size (accArr (acc0 20 0) kdM) 57 ∧ Below w.heap.size w w' := by
  go_enter Tryz.func9, Tryz.ntmps9
  go_wp2_with fail
  refine (funcs_kinds20 _).mono ?_
  rintro e w1 ⟨rfl, rfl⟩
  go_wp2
  go_ret2
  refine ⟨rfl, heap_alloc_new _ _, ?_⟩
  focus
    repeat with_reducible first | exact Below.refl _ _ | refine below_drewN ?_ _ | refine Below.drew ?_ | refine Below.setCell ?_ ?_ _ | refine Below.alloc ?_ ?_ _ | refine below_then ?_ ?_ (by with_reducible assumption)
    all_goals first | omega | (simp only [sA, sC, sD, sE]; omega) | (simp; done) | (simp; omega)
set_option maxHeartbeats 1000000 in
theorem funcs_kinds21 (w : World) :
    Calls Tryz.prog 23 #[.int .i64 21] w fun e w' => e = .returned (.iface 95 (.agg #[])) ∧ w = w' := by
  go_enter Tryz.func23, Tryz.ntmps23
  go_wp2
  go_ret
  exact ⟨rfl, rfl⟩
set_option maxHeartbeats 1000000 in
theorem funcs_Open21 (w : World) :
    Calls Tryz.prog 9 #[.int .i64 21] w fun e w' => e = .returned (.tuple #[.pointer (some ⟨w.heap.size, 0, none⟩), .int .i64 0]) ∧ Blk w' w.heap.size (accArr (acc0 21 0) kdI) 57 ∧ Below w.heap.size w w' := by
  go_enter Tryz.func9, Tryz.ntmps9
  go_wp2_with fail
  refine (funcs_kinds21 _).mono ?_
  rintro e w1 ⟨rfl, rfl⟩
  go_wp2
  go_ret2
  refine ⟨rfl, heap_alloc_new _ _, ?_⟩
  focus
    repeat with_reducible first | exact Below.refl _ _ | refine below_drewN ?_ _ | refine Below.drew ?_ | refine Below.setCell ?_ ?_ _ | refine Below.alloc ?_ ?_ _ | refine below_then ?_ ?_ (by with_reducible assumption)
    all_goals first | omega | (simp only [sA, sC, sD, sE]; omega) | (simp; done) | (simp; omega)
set_option maxHeartbeats 1000000 in
theorem funcs_kinds23 (w : World) :
    Calls Tryz.prog 23 #[.int .i64 23] w fun e w' => e = .returned (.iface 97 (.agg #[])) ∧ w = w' := by
  go_enter Tryz.func23, Tryz.ntmps23
  go_wp2
  go_ret
  exact ⟨rfl, rfl⟩
set_option maxHeartbeats 1000000 in
theorem funcs_Open23 (w : World) :
    Calls Tryz.prog 9 #[.int .i64 23] w fun e w' => e = .returned (.tuple #[.pointer (some ⟨w.heap.size, 0, none⟩), .int .i64 0]) ∧ Blk w' w.heap.size (accArr (acc0 23 0) kdL) 57 ∧ Below w.heap.size w w' := by
  go_enter Tryz.func9, Tryz.ntmps9
  go_wp2_with fail
  refine (funcs_kinds23 _).mono ?_
  rintro e w1 ⟨rfl, rfl⟩
  go_wp2
  go_ret2
  refine ⟨rfl, heap_alloc_new _ _, ?_⟩
  focus
    repeat with_reducible first | exact Below.refl _ _ | refine below_drewN ?_ _ | refine Below.drew ?_ | refine Below.setCell ?_ ?_ _ | refine Below.alloc ?_ ?_ _ | refine below_then ?_ ?_ (by with_reducible assumption)
    all_goals first | omega | (simp only [sA, sC, sD, sE]; omega) | (simp; done) | (simp; omega)
set_option maxHeartbeats 1000000 in
theorem search_feed (b : Nat) (S : AccS) (kd : Value) (v : Vl) (hs : S.has = false) (hk : ¬ v.k = 4) :
    Turns 201 #[.agg #[], .pointer (some ⟨b, 0, none⟩), .agg #[.int .i64 (v).k, .int .i64 (v).n, .int .i64 (v).d, .string (v).t, .bool (v).b, .int .i64 (v).f]] b S { S with needle := v, has := true } kd := by
  constructor
  intro w hA
  have hlt := hA.lt
  have hne : ¬ b = w.heap.size := by omega
  have hne' : ¬ w.heap.size = b := by omega
  have k4 : (v.k == 4) = false := by simp [hk]
  have a16 : w.cell? ⟨b, 16, none⟩ = some (.bool false) := (hA.cell 16).trans (by rw [← hs]; rfl)
  have a13 : w.cell? ⟨b, 10, none⟩ = some (.int .i64 S.needle.k) := hA.cell 10
  have a14 : w.cell? ⟨b, 11, none⟩ = some (.int .i64 S.needle.n) := hA.cell 11
  have a15 : w.cell? ⟨b, 12, none⟩ = some (.int .i64 S.needle.d) := hA.cell 12
  have a16 : w.cell? ⟨b, 13, none⟩ = some (.string S.needle.t) := hA.cell 13
  have a17 : w.cell? ⟨b, 14, none⟩ = some (.bool S.needle.b) := hA.cell 14
  have a18 : w.cell? ⟨b, 15, none⟩ = some (.int .i64 S.needle.f) := hA.cell 15
  have fz := hA.free
  have HA := Lib.hid hA
  clear hA hs hk
  go_enter Tryz.func201, Tryz.ntmps201
  go_wp2
  go_end0
  refine ⟨rfl, ?_, ?_⟩
  · exact ((((((((HA.out.set 10 _).set 11 _).set 12 _).set 13 _).set 14 _).set 15 _).set 16 _).cast (by simp only [accArr, List.setIfInBounds_toArray, List.set_cons_zero, List.set_cons_succ]) |>.alloc _).alloc _
  repeat (first | with_reducible exact But.refl _ _ _ | with_reducible refine But.drewN ?_ _ | with_reducible refine But.drew ?_ | with_reducible refine But.setCell ?_ _ _ | with_reducible refine But.setNew ?_ (by (first | omega | (simp only [sz_alloc, sz_setCell, sz_drew, sz_drewN]; omega) | (simp; done) | (simp; omega))) _ | with_reducible refine But.alloc ?_ (by (first | omega | (simp only [sz_alloc, sz_setCell, sz_drew, sz_drewN]; omega) | (simp; done) | (simp; omega))) _ | with_reducible refine But.thenBelow ?_ ?_ (by with_reducible assumption) | with_reducible refine But.then ?_ ?_ (by with_reducible assumption) | (first | omega | (simp only [sz_alloc, sz_setCell, sz_drew, sz_drewN]; omega) | (simp; done) | (simp; omega)))

set_option maxHeartbeats 1000000 in
theorem acc_same (b : Nat) (S : AccS) (kd : Value) (v : Vl) (w : World) (hA : Blk w b (accArr S kd) 57) (hs : S.has = true) (hn : S.needle.In) (hv : v.In) :
    Calls Tryz.prog 203 #[.pointer (some ⟨b, 0, none⟩), .agg #[.int .i64 (v).k, .int .i64 (v).n, .int .i64 (v).d, .string (v).t, .bool (v).b, .int .i64 (v).f]] w fun e w' => e = .returned (.bool (sameV S.needle v)) ∧ Below w.heap.size w w' := by
  have hlt := hA.lt
  have hne : ¬ b = w.heap.size := by omega
  have hne' : ¬ w.heap.size = b := by omega
  have a16 : w.cell? ⟨b, 16, none⟩ = some (.bool true) := (hA.cell 16).trans (by rw [← hs]; rfl)
  have a19 : w.cell? ⟨b, 10, none⟩ = some (.int .i64 S.needle.k) := hA.cell 10
  have a20 : w.cell? ⟨b, 11, none⟩ = some (.int .i64 S.needle.n) := hA.cell 11
  have a21 : w.cell? ⟨b, 12, none⟩ = some (.int .i64 S.needle.d) := hA.cell 12
  have a22 : w.cell? ⟨b, 13, none⟩ = some (.string S.needle.t) := hA.cell 13
  have a23 : w.cell? ⟨b, 14, none⟩ = some (.bool S.needle.b) := hA.cell 14
  have a24 : w.cell? ⟨b, 15, none⟩ = some (.int .i64 S.needle.f) := hA.cell 15
  have HS := Lib.hid fun wx => value_Same S.needle.k S.needle.n S.needle.d S.needle.t S.needle.b S.needle.f v.k v.n v.d v.t v.b v.f wx hn hv
  have es : sameV ⟨S.needle.k, S.needle.n, S.needle.d, S.needle.t, S.needle.b, S.needle.f⟩ ⟨v.k, v.n, v.d, v.t, v.b, v.f⟩ = sameV S.needle v := rfl
  rw [es] at HS
  clear es hA hs hn hv
  generalize sameV S.needle v = q at *
  go_enter Tryz.func203, Tryz.ntmps203
  go_wp2_with fail
  refine region_below 14 (by kernel_rfl) (by kernel_rfl) ?_
  simp only [List.take_succ_cons, List.take_zero, List.drop_succ_cons, List.drop_zero]
  repeat
    first | (refine q_run ?_ ?_; focus (go_simp; done)) | (refine q_skip ?_ ?_; focus (go_simp; done))
    try (apply Exists.intro; refine ⟨fun w' hw' => ?_, ?_⟩; focus (have hc := (bcell hw'.out).1; unfold Oper.quietAt; go_simp; (try go_ints); (first | rfl | (go_at_call 204; refine (HS.out _).mono ?_; rintro e w2 ⟨rfl, hb⟩; exact ⟨rfl, hw'.chain hb⟩))))
    intro K hK
    go_simp
    refine hK _ ?_
    clear hK K
  refine wpQuiet_nil ?_
  intro w1 hb'
  have hb := hb'.out
  clear hb'
  go_wp2
  go_ret
  refine ⟨rfl, ?_⟩
  focus
    repeat with_reducible first | exact Below.refl _ _ | refine below_drewN ?_ _ | refine Below.drew ?_ | refine Below.setCell ?_ ?_ _ | refine Below.alloc ?_ ?_ _ | refine below_then ?_ ?_ (by with_reducible assumption)
    all_goals first | omega | (simp only [sA, sC, sD, sE]; omega) | (simp; done) | (simp; omega)
end Go.Proofs.YtnimenpfojcehaaGreatDoor
