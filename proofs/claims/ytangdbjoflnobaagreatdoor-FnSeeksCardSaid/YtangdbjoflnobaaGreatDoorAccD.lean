/- Walks of package funcs: what a fold keeps; what the folds of numbers do with a cell, an argument; what they come to. -/
import Derived.Test.YtangdbjoflnobaaGreatDoorAccC
import Derived.Test.YtangdbjoflnobaaGreatDoorAppA
import Derived.Deep.QuietTactic
import Derived.BigQuiet
namespace Go.Proofs.YtangdbjoflnobaaGreatDoor
open Go.RowKit
set_option linter.unusedSimpArgs false
set_option linter.unusedVariables false

def AccS.keep (S : AccS) (n d side : Int) : AccS := if S.has = false ∨ cmpN n d S.n S.d = side then { S with n := n, d := d, has := true } else { S with has := true }

set_option maxHeartbeats 1000000 in
theorem keeps_no (b : Nat) (S : AccS) (kd : Value) (n d side : Int) (w : World) (hA : Blk w b (accArr S kd) 104) (hs : S.has = false) :
    Calls Tryz.prog 284 #[.pointer (some ⟨b, 0, none⟩), .agg #[.int .i64 n, .int .i64 d], .int .i64 side] w fun e w' => e = .returned (.tuple #[]) ∧ Blk w' b (accArr (S.keep n d side) kd) 104 ∧ But w.heap.size b w w' := by
  have hlt := hA.lt
  have hne : ¬ b = w.heap.size := by omega
  have hne' : ¬ w.heap.size = b := by omega
  have HA := Lib.hid (hA.alloc (.cells #[.int .i64 n, .int .i64 d] 33))
  have HK : Hid (S.keep n d side = { S with n := n, d := d, has := true }) := by unfold Hid AccS.keep; rw [if_pos (Or.inl hs)]
  have a1 : w.cell? ⟨b, 2, none⟩ = some (.int .i64 S.n) := hA.cell 2
  have a2 : w.cell? ⟨b, 3, none⟩ = some (.int .i64 S.d) := hA.cell 3
  have a3 : w.cell? ⟨b, 16, none⟩ = some (.bool S.has) := hA.cell 16
  simp only [hs] at *
  have fz := hA.free
  go_enter Tryz.func284, Tryz.ntmps284
  go_wp2_with fail
  go_quiet (fail)
  go_wp2
  go_end0
  rw [HK.out]
  refine ⟨rfl, ((((HA.out.drewN _).set 2 _).set 3 _).set 16 _).cast (by simp only [accArr, List.setIfInBounds_toArray, List.set_cons_zero, List.set_cons_succ]), ?_⟩
  repeat (first | with_reducible exact But.refl _ _ _ | with_reducible refine But.drewN ?_ _ | with_reducible refine But.drew ?_ | with_reducible refine But.setCell ?_ _ _ | with_reducible refine But.setNew ?_ (by (first | omega | (simp only [sz_alloc, sz_setCell, sz_drew, sz_drewN]; omega) | (simp; done) | (simp; omega))) _ | with_reducible refine But.alloc ?_ (by (first | omega | (simp only [sz_alloc, sz_setCell, sz_drew, sz_drewN]; omega) | (simp; done) | (simp; omega))) _ | with_reducible refine But.thenBelow ?_ ?_ (by with_reducible assumption) | with_reducible refine But.then ?_ ?_ (by with_reducible assumption) | (first | omega | (simp only [sz_alloc, sz_setCell, sz_drew, sz_drewN]; omega) | (simp; done) | (simp; omega)))

set_option maxHeartbeats 1000000 in
theorem keeps_has (b : Nat) (S : AccS) (kd : Value) (n d side : Int) (w : World) (hA : Blk w b (accArr S kd) 104) (hs : S.has = true) (h1 : I64 S.n) (h2 : I64 S.d) (h3 : I64 n) (h4 : I64 d) :
    Calls Tryz.prog 284 #[.pointer (some ⟨b, 0, none⟩), .agg #[.int .i64 n, .int .i64 d], .int .i64 side] w fun e w' => e = .returned (.tuple #[]) ∧ Blk w' b (accArr (S.keep n d side) kd) 104 ∧ But w.heap.size b w w' := by
  have hlt := hA.lt
  have hne : ¬ b = w.heap.size := by omega
  have hne' : ¬ w.heap.size = b := by omega
  have HA := Lib.hid (hA.alloc (.cells #[.int .i64 n, .int .i64 d] 33))
  have HC := Lib.hid fun wx => num_Cmp n d S.n S.d wx h3 h4 h1 h2
  clear h1 h2 h3 h4
  cases hc : (cmpN n d S.n S.d == side)
  · have HK : Hid (S.keep n d side = { S with has := true }) := by unfold Hid AccS.keep; rw [if_neg (by simp [hs]; simpa using hc)]
    generalize cmpN n d S.n S.d = C at *
    have a4 : w.cell? ⟨b, 2, none⟩ = some (.int .i64 S.n) := hA.cell 2
    have a5 : w.cell? ⟨b, 3, none⟩ = some (.int .i64 S.d) := hA.cell 3
    have a6 : w.cell? ⟨b, 16, none⟩ = some (.bool S.has) := hA.cell 16
    simp only [hs] at *
    have fz := hA.free
    go_enter Tryz.func284, Tryz.ntmps284
    go_wp2_with fail
    refine region_below_all (by kernel_rfl) (by kernel_rfl) ?_
    repeat
      first | (refine q_run ?_ ?_; focus (go_simp; done)) | (refine q_skip ?_ ?_; focus (go_simp; done))
      try (apply Exists.intro; refine ⟨fun w' hw' => ?_, ?_⟩; focus (have hc := (bcell hw'.out).1; unfold Oper.quietAt; go_simp; (try go_ints); (first | rfl | (go_at_call 29; refine (HC.out _).mono ?_; rintro e w2 ⟨rfl, hb⟩; exact ⟨rfl, hw'.chain hb⟩))))
      intro K hK
      go_simp
      refine hK _ ?_
      clear hK K
    refine wpQuiet_nil ?_
    intro w1 hb'
    have hb := hb'.out
    clear hb'
    have A1 := HA.out.below hb
    have z7 := Below.size hb
    try simp only [sz_alloc, sz_setCell, sz_drew, sz_drewN] at z7
    have hlt1 := A1.lt
    clear fz
    have a8 : w1.cell? ⟨b, 2, none⟩ = some (.int .i64 S.n) := A1.cell 2
    have a9 : w1.cell? ⟨b, 3, none⟩ = some (.int .i64 S.d) := A1.cell 3
    have a10 : w1.cell? ⟨b, 16, none⟩ = some (.bool S.has) := A1.cell 16
    have fz := A1.free
    have s11 := lcs hb (w.heap.size) (by (first | omega | (simp only [sz_alloc, sz_setCell, sz_drew, sz_drewN]; omega) | (simp; done) | (simp; omega)))
    have c11_0 := (lcc hb (w.heap.size) (by (first | omega | (simp only [sz_alloc, sz_setCell, sz_drew, sz_drewN]; omega) | (simp; done) | (simp; omega))) 0).trans (by go_simp; exact rfl)
    have c11_1 := (lcc hb (w.heap.size) (by (first | omega | (simp only [sz_alloc, sz_setCell, sz_drew, sz_drewN]; omega) | (simp; done) | (simp; omega))) 1).trans (by go_simp; exact rfl)
    have f11 := lcff hb (w.heap.size) (by (first | omega | (simp only [sz_alloc, sz_setCell, sz_drew, sz_drewN]; omega) | (simp; done) | (simp; omega))) (by intro o; go_simp)
    go_wp2
    go_end0
    rw [HK.out]
    refine ⟨rfl, (A1.set 16 _).cast (by simp only [accArr, List.setIfInBounds_toArray, List.set_cons_zero, List.set_cons_succ]), ?_⟩
    repeat (first | with_reducible exact But.refl _ _ _ | with_reducible refine But.drewN ?_ _ | with_reducible refine But.drew ?_ | with_reducible refine But.setCell ?_ _ _ | with_reducible refine But.setNew ?_ (by (first | omega | (simp only [sz_alloc, sz_setCell, sz_drew, sz_drewN]; omega) | (simp; done) | (simp; omega))) _ | with_reducible refine But.alloc ?_ (by (first | omega | (simp only [sz_alloc, sz_setCell, sz_drew, sz_drewN]; omega) | (simp; done) | (simp; omega))) _ | with_reducible refine But.thenBelow ?_ ?_ (by with_reducible assumption) | with_reducible refine But.then ?_ ?_ (by with_reducible assumption) | (first | omega | (simp only [sz_alloc, sz_setCell, sz_drew, sz_drewN]; omega) | (simp; done) | (simp; omega)))
  · have HK : Hid (S.keep n d side = { S with n := n, d := d, has := true }) := by unfold Hid AccS.keep; rw [if_pos (Or.inr (by simpa using hc))]
    generalize cmpN n d S.n S.d = C at *
    have a12 : w.cell? ⟨b, 2, none⟩ = some (.int .i64 S.n) := hA.cell 2
    have a13 : w.cell? ⟨b, 3, none⟩ = some (.int .i64 S.d) := hA.cell 3
    have a14 : w.cell? ⟨b, 16, none⟩ = some (.bool S.has) := hA.cell 16
    simp only [hs] at *
    have fz := hA.free
    go_enter Tryz.func284, Tryz.ntmps284
    go_wp2_with fail
    refine region_below_all (by kernel_rfl) (by kernel_rfl) ?_
    repeat
      first | (refine q_run ?_ ?_; focus (go_simp; done)) | (refine q_skip ?_ ?_; focus (go_simp; done))
      try (apply Exists.intro; refine ⟨fun w' hw' => ?_, ?_⟩; focus (have hc := (bcell hw'.out).1; unfold Oper.quietAt; go_simp; (try go_ints); (first | rfl | (go_at_call 29; refine (HC.out _).mono ?_; rintro e w2 ⟨rfl, hb⟩; exact ⟨rfl, hw'.chain hb⟩))))
      intro K hK
      go_simp
      refine hK _ ?_
      clear hK K
    refine wpQuiet_nil ?_
    intro w1 hb'
    have hb := hb'.out
    clear hb'
    have A1 := HA.out.below hb
    have z15 := Below.size hb
    try simp only [sz_alloc, sz_setCell, sz_drew, sz_drewN] at z15
    have hlt1 := A1.lt
    clear fz
    have a16 : w1.cell? ⟨b, 2, none⟩ = some (.int .i64 S.n) := A1.cell 2
    have a17 : w1.cell? ⟨b, 3, none⟩ = some (.int .i64 S.d) := A1.cell 3
    have a18 : w1.cell? ⟨b, 16, none⟩ = some (.bool S.has) := A1.cell 16
    have fz := A1.free
    have s19 := lcs hb (w.heap.size) (by (first | omega | (simp only [sz_alloc, sz_setCell, sz_drew, sz_drewN]; omega) | (simp; done) | (simp; omega)))
    have c19_0 := (lcc hb (w.heap.size) (by (first | omega | (simp only [sz_alloc, sz_setCell, sz_drew, sz_drewN]; omega) | (simp; done) | (simp; omega))) 0).trans (by go_simp; exact rfl)
    have c19_1 := (lcc hb (w.heap.size) (by (first | omega | (simp only [sz_alloc, sz_setCell, sz_drew, sz_drewN]; omega) | (simp; done) | (simp; omega))) 1).trans (by go_simp; exact rfl)
    have f19 := lcff hb (w.heap.size) (by (first | omega | (simp only [sz_alloc, sz_setCell, sz_drew, sz_drewN]; omega) | (simp; done) | (simp; omega))) (by intro o; go_simp)
    go_wp2
    go_end0
    rw [HK.out]
    refine ⟨rfl, (((A1.set 2 _).set 3 _).set 16 _).cast (by simp only [accArr, List.setIfInBounds_toArray, List.set_cons_zero, List.set_cons_succ]), ?_⟩
    repeat (first | with_reducible exact But.refl _ _ _ | with_reducible refine But.drewN ?_ _ | with_reducible refine But.drew ?_ | with_reducible refine But.setCell ?_ _ _ | with_reducible refine But.setNew ?_ (by (first | omega | (simp only [sz_alloc, sz_setCell, sz_drew, sz_drewN]; omega) | (simp; done) | (simp; omega))) _ | with_reducible refine But.alloc ?_ (by (first | omega | (simp only [sz_alloc, sz_setCell, sz_drew, sz_drewN]; omega) | (simp; done) | (simp; omega))) _ | with_reducible refine But.thenBelow ?_ ?_ (by with_reducible assumption) | with_reducible refine But.then ?_ ?_ (by with_reducible assumption) | (first | omega | (simp only [sz_alloc, sz_setCell, sz_drew, sz_drewN]; omega) | (simp; done) | (simp; omega)))
end Go.Proofs.YtangdbjoflnobaaGreatDoor
