/- Walks of package funcs: a fold or a search of any kind is opened; what State, Full, Wants tell; '==' of states. -/
import Derived.Test.YtnimenpfojcehaaGreatDoorFolF
namespace Go.Proofs.YtnimenpfojcehaaGreatDoor
open Go Go.RowKit
set_option linter.unusedSimpArgs false
set_option linter.unusedVariables false

set_option maxHeartbeats 1000000 in
theorem funcs_kinds8 (w : World) :
    Calls Tryz.prog 23 #[.int .i64 8] w fun e w' => e = .returned (.iface 89 (.agg #[])) ∧ w = w' := by
  go_enter Tryz.func23, Tryz.ntmps23
  go_wp2
  go_ret
  exact ⟨rfl, rfl⟩
set_option maxHeartbeats 1000000 in
theorem funcs_Open8 (w : World) :
    Calls Tryz.prog 9 #[.int .i64 8] w fun e w' => e = .returned (.tuple #[.pointer (some ⟨w.heap.size, 0, none⟩), .int .i64 0]) ∧ Blk w' w.heap.size (accArr (acc0 8 0) kdT) 57 ∧ Below w.heap.size w w' := by
  go_enter Tryz.func9, Tryz.ntmps9
  go_wp2_with fail
  refine (funcs_kinds8 _).mono ?_
  rintro e w1 ⟨rfl, rfl⟩
  go_wp2
  go_ret2
  refine ⟨rfl, heap_alloc_new _ _, ?_⟩
  focus
    repeat with_reducible first | exact Below.refl _ _ | refine below_drewN ?_ _ | refine Below.drew ?_ | refine Below.setCell ?_ ?_ _ | refine Below.alloc ?_ ?_ _ | refine below_then ?_ ?_ (by with_reducible assumption)
    all_goals first | omega | (simp only [sA, sC, sD, sE]; omega) | (simp; done) | (simp; omega)
set_option maxHeartbeats 1000000 in
theorem funcs_kinds9 (w : World) :
    Calls Tryz.prog 23 #[.int .i64 9] w fun e w' => e = .returned (.iface 89 (.agg #[])) ∧ w = w' := by
  go_enter Tryz.func23, Tryz.ntmps23
  go_wp2
  go_ret
  exact ⟨rfl, rfl⟩
set_option maxHeartbeats 1000000 in
theorem funcs_Open9 (w : World) :
    Calls Tryz.prog 9 #[.int .i64 9] w fun e w' => e = .returned (.tuple #[.pointer (some ⟨w.heap.size, 0, none⟩), .int .i64 0]) ∧ Blk w' w.heap.size (accArr (acc0 9 0) kdT) 57 ∧ Below w.heap.size w w' := by
  go_enter Tryz.func9, Tryz.ntmps9
  go_wp2_with fail
  refine (funcs_kinds9 _).mono ?_
  rintro e w1 ⟨rfl, rfl⟩
  go_wp2
  go_ret2
  refine ⟨rfl, heap_alloc_new _ _, ?_⟩
  focus
    repeat with_reducible first | exact Below.refl _ _ | refine below_drewN ?_ _ | refine Below.drew ?_ | refine Below.setCell ?_ ?_ _ | refine Below.alloc ?_ ?_ _ | refine below_then ?_ ?_ (by with_reducible assumption)
    all_goals first | omega | (simp only [sA, sC, sD, sE]; omega) | (simp; done) | (simp; omega)
set_option maxHeartbeats 1000000 in
theorem funcs_kinds10 (w : World) :
    Calls Tryz.prog 23 #[.int .i64 10] w fun e w' => e = .returned (.iface 89 (.agg #[])) ∧ w = w' := by
  go_enter Tryz.func23, Tryz.ntmps23
  go_wp2
  go_ret
  exact ⟨rfl, rfl⟩
set_option maxHeartbeats 1000000 in
theorem funcs_Open10 (w : World) :
    Calls Tryz.prog 9 #[.int .i64 10] w fun e w' => e = .returned (.tuple #[.pointer (some ⟨w.heap.size, 0, none⟩), .int .i64 0]) ∧ Blk w' w.heap.size (accArr (acc0 10 0) kdT) 57 ∧ Below w.heap.size w w' := by
  go_enter Tryz.func9, Tryz.ntmps9
  go_wp2_with fail
  refine (funcs_kinds10 _).mono ?_
  rintro e w1 ⟨rfl, rfl⟩
  go_wp2
  go_ret2
  refine ⟨rfl, heap_alloc_new _ _, ?_⟩
  focus
    repeat with_reducible first | exact Below.refl _ _ | refine below_drewN ?_ _ | refine Below.drew ?_ | refine Below.setCell ?_ ?_ _ | refine Below.alloc ?_ ?_ _ | refine below_then ?_ ?_ (by with_reducible assumption)
    all_goals first | omega | (simp only [sA, sC, sD, sE]; omega) | (simp; done) | (simp; omega)
set_option maxHeartbeats 1000000 in
theorem funcs_kinds12 (w : World) :
    Calls Tryz.prog 23 #[.int .i64 12] w fun e w' => e = .returned (.iface 88 (.agg #[])) ∧ w = w' := by
  go_enter Tryz.func23, Tryz.ntmps23
  go_wp2
  go_ret
  exact ⟨rfl, rfl⟩
set_option maxHeartbeats 1000000 in
theorem funcs_Open12 (w : World) :
    Calls Tryz.prog 9 #[.int .i64 12] w fun e w' => e = .returned (.tuple #[.pointer (some ⟨w.heap.size, 0, none⟩), .int .i64 0]) ∧ Blk w' w.heap.size (accArr (acc0 12 0) kdN) 57 ∧ Below w.heap.size w w' := by
  go_enter Tryz.func9, Tryz.ntmps9
  go_wp2_with fail
  refine (funcs_kinds12 _).mono ?_
  rintro e w1 ⟨rfl, rfl⟩
  go_wp2
  go_ret2
  refine ⟨rfl, heap_alloc_new _ _, ?_⟩
  focus
    repeat with_reducible first | exact Below.refl _ _ | refine below_drewN ?_ _ | refine Below.drew ?_ | refine Below.setCell ?_ ?_ _ | refine Below.alloc ?_ ?_ _ | refine below_then ?_ ?_ (by with_reducible assumption)
    all_goals first | omega | (simp only [sA, sC, sD, sE]; omega) | (simp; done) | (simp; omega)
set_option maxHeartbeats 1000000 in
theorem funcs_kinds13 (w : World) :
    Calls Tryz.prog 23 #[.int .i64 13] w fun e w' => e = .returned (.iface 88 (.agg #[])) ∧ w = w' := by
  go_enter Tryz.func23, Tryz.ntmps23
  go_wp2
  go_ret
  exact ⟨rfl, rfl⟩
set_option maxHeartbeats 1000000 in
theorem funcs_Open13 (w : World) :
    Calls Tryz.prog 9 #[.int .i64 13] w fun e w' => e = .returned (.tuple #[.pointer (some ⟨w.heap.size, 0, none⟩), .int .i64 0]) ∧ Blk w' w.heap.size (accArr (acc0 13 0) kdN) 57 ∧ Below w.heap.size w w' := by
  go_enter Tryz.func9, Tryz.ntmps9
  go_wp2_with fail
  refine (funcs_kinds13 _).mono ?_
  rintro e w1 ⟨rfl, rfl⟩
  go_wp2
  go_ret2
  refine ⟨rfl, heap_alloc_new _ _, ?_⟩
  focus
    repeat with_reducible first | exact Below.refl _ _ | refine below_drewN ?_ _ | refine Below.drew ?_ | refine Below.setCell ?_ ?_ _ | refine Below.alloc ?_ ?_ _ | refine below_then ?_ ?_ (by with_reducible assumption)
    all_goals first | omega | (simp only [sA, sC, sD, sE]; omega) | (simp; done) | (simp; omega)
set_option maxHeartbeats 1000000 in
theorem funcs_kinds14 (w : World) :
    Calls Tryz.prog 23 #[.int .i64 14] w fun e w' => e = .returned (.iface 91 (.agg #[])) ∧ w = w' := by
  go_enter Tryz.func23, Tryz.ntmps23
  go_wp2
  go_ret
  exact ⟨rfl, rfl⟩
set_option maxHeartbeats 1000000 in
theorem funcs_Open14 (w : World) :
    Calls Tryz.prog 9 #[.int .i64 14] w fun e w' => e = .returned (.tuple #[.pointer (some ⟨w.heap.size, 0, none⟩), .int .i64 0]) ∧ Blk w' w.heap.size (accArr (acc0 14 0) kdV) 57 ∧ Below w.heap.size w w' := by
  go_enter Tryz.func9, Tryz.ntmps9
  go_wp2_with fail
  refine (funcs_kinds14 _).mono ?_
  rintro e w1 ⟨rfl, rfl⟩
  go_wp2
  go_ret2
  refine ⟨rfl, heap_alloc_new _ _, ?_⟩
  focus
    repeat with_reducible first | exact Below.refl _ _ | refine below_drewN ?_ _ | refine Below.drew ?_ | refine Below.setCell ?_ ?_ _ | refine Below.alloc ?_ ?_ _ | refine below_then ?_ ?_ (by with_reducible assumption)
    all_goals first | omega | (simp only [sA, sC, sD, sE]; omega) | (simp; done) | (simp; omega)
set_option maxHeartbeats 1000000 in
theorem funcs_kinds15 (w : World) :
    Calls Tryz.prog 23 #[.int .i64 15] w fun e w' => e = .returned (.iface 91 (.agg #[])) ∧ w = w' := by
  go_enter Tryz.func23, Tryz.ntmps23
  go_wp2
  go_ret
  exact ⟨rfl, rfl⟩
set_option maxHeartbeats 1000000 in
theorem funcs_Open15 (w : World) :
    Calls Tryz.prog 9 #[.int .i64 15] w fun e w' => e = .returned (.tuple #[.pointer (some ⟨w.heap.size, 0, none⟩), .int .i64 0]) ∧ Blk w' w.heap.size (accArr (acc0 15 0) kdV) 57 ∧ Below w.heap.size w w' := by
  go_enter Tryz.func9, Tryz.ntmps9
  go_wp2_with fail
  refine (funcs_kinds15 _).mono ?_
  rintro e w1 ⟨rfl, rfl⟩
  go_wp2
  go_ret2
  refine ⟨rfl, heap_alloc_new _ _, ?_⟩
  focus
    repeat with_reducible first | exact Below.refl _ _ | refine below_drewN ?_ _ | refine Below.drew ?_ | refine Below.setCell ?_ ?_ _ | refine Below.alloc ?_ ?_ _ | refine below_then ?_ ?_ (by with_reducible assumption)
    all_goals first | omega | (simp only [sA, sC, sD, sE]; omega) | (simp; done) | (simp; omega)
set_option maxHeartbeats 1000000 in
theorem funcs_kinds22 (w : World) :
    Calls Tryz.prog 23 #[.int .i64 22] w fun e w' => e = .returned (.iface 96 (.agg #[])) ∧ w = w' := by
  go_enter Tryz.func23, Tryz.ntmps23
  go_wp2
  go_ret
  exact ⟨rfl, rfl⟩
set_option maxHeartbeats 1000000 in
theorem funcs_Open22 (w : World) :
    Calls Tryz.prog 9 #[.int .i64 22] w fun e w' => e = .returned (.tuple #[.pointer (some ⟨w.heap.size, 0, none⟩), .int .i64 0]) ∧ Blk w' w.heap.size (accArr (acc0 22 0) kdS) 57 ∧ Below w.heap.size w w' := by
  go_enter Tryz.func9, Tryz.ntmps9
  go_wp2_with fail
  refine (funcs_kinds22 _).mono ?_
  rintro e w1 ⟨rfl, rfl⟩
  go_wp2
  go_ret2
  refine ⟨rfl, heap_alloc_new _ _, ?_⟩
  focus
    repeat with_reducible first | exact Below.refl _ _ | refine below_drewN ?_ _ | refine Below.drew ?_ | refine Below.setCell ?_ ?_ _ | refine Below.alloc ?_ ?_ _ | refine below_then ?_ ?_ (by with_reducible assumption)
    all_goals first | omega | (simp only [sA, sC, sD, sE]; omega) | (simp; done) | (simp; omega)
set_option maxHeartbeats 1000000 in
theorem funcs_kinds24 (w : World) :
    Calls Tryz.prog 23 #[.int .i64 24] w fun e w' => e = .returned (.iface 98 (.agg #[])) ∧ w = w' := by
  go_enter Tryz.func23, Tryz.ntmps23
  go_wp2
  go_ret
  exact ⟨rfl, rfl⟩
set_option maxHeartbeats 1000000 in
theorem funcs_Open24 (w : World) :
    Calls Tryz.prog 9 #[.int .i64 24] w fun e w' => e = .returned (.tuple #[.pointer (some ⟨w.heap.size, 0, none⟩), .int .i64 0]) ∧ Blk w' w.heap.size (accArr (acc0 24 0) kdP) 57 ∧ Below w.heap.size w w' := by
  go_enter Tryz.func9, Tryz.ntmps9
  go_wp2_with fail
  refine (funcs_kinds24 _).mono ?_
  rintro e w1 ⟨rfl, rfl⟩
  go_wp2
  go_ret2
  refine ⟨rfl, heap_alloc_new _ _, ?_⟩
  focus
    repeat with_reducible first | exact Below.refl _ _ | refine below_drewN ?_ _ | refine Below.drew ?_ | refine Below.setCell ?_ ?_ _ | refine Below.alloc ?_ ?_ _ | refine below_then ?_ ?_ (by with_reducible assumption)
    all_goals first | omega | (simp only [sA, sC, sD, sE]; omega) | (simp; done) | (simp; omega)
set_option maxHeartbeats 1000000 in
theorem funcs_kinds2 (w : World) :
    Calls Tryz.prog 23 #[.int .i64 2] w fun e w' => e = .returned (.iface 88 (.agg #[])) ∧ w = w' := by
  go_enter Tryz.func23, Tryz.ntmps23
  go_wp2
  go_ret
  exact ⟨rfl, rfl⟩
set_option maxHeartbeats 1000000 in
theorem funcs_Open2 (w : World) :
    Calls Tryz.prog 9 #[.int .i64 2] w fun e w' => e = .returned (.tuple #[.pointer (some ⟨w.heap.size, 0, none⟩), .int .i64 0]) ∧ Blk w' w.heap.size (accArr (acc0 2 1) kdN) 57 ∧ Below w.heap.size w w' := by
  have HA := Lib.hid (show Blk (w.alloc (.cells (accArr (acc0 2 0) kdN) 57)) w.heap.size (accArr (acc0 2 0) kdN) 57 from heap_alloc_new _ _)
  go_enter Tryz.func9, Tryz.ntmps9
  go_wp2_with fail
  refine (funcs_kinds2 _).mono ?_
  rintro e w1 ⟨rfl, rfl⟩
  go_wp2
  go_ret2
  refine ⟨rfl, ?_, ?_⟩
  · first | exact (HA.out.set 2 _).cast (by simp only [accArr, List.setIfInBounds_toArray, List.set_cons_zero, List.set_cons_succ]) | exact heap_alloc_new _ _
  focus
    repeat with_reducible first | exact Below.refl _ _ | refine below_drewN ?_ _ | refine Below.drew ?_ | refine Below.setCell ?_ ?_ _ | refine Below.alloc ?_ ?_ _ | refine below_then ?_ ?_ (by with_reducible assumption)
    all_goals first | omega | (simp only [sA, sC, sD, sE]; omega) | (simp; done) | (simp; omega)
theorem acc_Wants (b : Nat) (S : AccS) (kd : Value) (w : World) (hA : Blk w b (accArr S kd) 57) :
    Calls Tryz.prog 19 #[.pointer (some ⟨b, 0, none⟩)] w fun e w' => e = .returned (.bool S.wants) ∧ w = w' := by
  have hlt := hA.lt
  have a18 : w.cell? ⟨b, 18, none⟩ = some (.bool S.wants) := hA.cell 18
  clear hA
  go_enter Tryz.func19, Tryz.ntmps19
  go_wp2
  go_ret
  exact ⟨rfl, rfl⟩
theorem acc_Full (b : Nat) (S : AccS) (kd : Value) (w : World) (hA : Blk w b (accArr S kd) 57) :
    Calls Tryz.prog 18 #[.pointer (some ⟨b, 0, none⟩)] w fun e w' => e = .returned (.bool S.full) ∧ w = w' := by
  have hlt := hA.lt
  have a17 : w.cell? ⟨b, 17, none⟩ = some (.bool S.full) := hA.cell 17
  clear hA
  go_enter Tryz.func18, Tryz.ntmps18
  go_wp2
  go_ret
  exact ⟨rfl, rfl⟩
/-- The kind of a fold or a search. -/
def kdOf (fn : Int) : Value :=
  if fn = 8 ∨ fn = 9 ∨ fn = 10 then kdT else if fn = 3 ∨ fn = 4 then kdC else if fn = 11 ∨ fn = 14 ∨ fn = 15 then kdV
  else if fn = 20 then kdM else if fn = 21 then kdI else if fn = 22 then kdS else if fn = 23 then kdL else if fn = 24 then kdP else kdN
/-- Is it a fold or a search? -/
def IsFold (fn : Int) : Prop := (1 ≤ fn ∧ fn ≤ 15) ∨ (20 ≤ fn ∧ fn ≤ 24)
instance (fn : Int) : Decidable (IsFold fn) := inferInstanceAs (Decidable (_ ∨ _))
/-- What it begins with. -/
def openS (fn : Int) : AccS := if fn = 2 then acc0 2 1 else if fn = 11 then { acc0 11 0 with v := textV noT } else acc0 fn 0
set_option maxHeartbeats 1000000 in
theorem funcs_kinds_no (id : Int) (w : World) (hid : I64 id) (h1 : ¬ id = 1) (h2 : ¬ id = 2) (h3 : ¬ id = 3) (h4 : ¬ id = 4) (h5 : ¬ id = 5) (h6 : ¬ id = 6) (h7 : ¬ id = 7) (h8 : ¬ id = 8) (h9 : ¬ id = 9) (h10 : ¬ id = 10) (h11 : ¬ id = 11) (h12 : ¬ id = 12) (h13 : ¬ id = 13) (h14 : ¬ id = 14) (h15 : ¬ id = 15) (h20 : ¬ id = 20) (h21 : ¬ id = 21) (h22 : ¬ id = 22) (h23 : ¬ id = 23) (h24 : ¬ id = 24) :
    Calls Tryz.prog 23 #[.int .i64 id] w fun e w' => e = .returned .nilIface ∧ w = w' := by
  have k1 : (id == 1) = false := by simp [h1]
  have k2 : (id == 2) = false := by simp [h2]
  have k3 : (id == 3) = false := by simp [h3]
  have k4 : (id == 4) = false := by simp [h4]
  have k5 : (id == 5) = false := by simp [h5]
  have k6 : (id == 6) = false := by simp [h6]
  have k7 : (id == 7) = false := by simp [h7]
  have k8 : (id == 8) = false := by simp [h8]
  have k9 : (id == 9) = false := by simp [h9]
  have k10 : (id == 10) = false := by simp [h10]
  have k11 : (id == 11) = false := by simp [h11]
  have k12 : (id == 12) = false := by simp [h12]
  have k13 : (id == 13) = false := by simp [h13]
  have k14 : (id == 14) = false := by simp [h14]
  have k15 : (id == 15) = false := by simp [h15]
  have k20 : (id == 20) = false := by simp [h20]
  have k21 : (id == 21) = false := by simp [h21]
  have k22 : (id == 22) = false := by simp [h22]
  have k23 : (id == 23) = false := by simp [h23]
  have k24 : (id == 24) = false := by simp [h24]
  clear h1 h2 h3 h4 h5 h6 h7 h8 h9 h10 h11 h12 h13 h14 h15 h20 h21 h22 h23 h24
  go_enter Tryz.func23, Tryz.ntmps23
  go_wp2
  go_ret
  exact ⟨rfl, rfl⟩
set_option maxHeartbeats 1000000 in
theorem funcs_Open_no (id : Int) (w : World) (hid : I64 id) (h : ¬ IsFold id) :
    Calls Tryz.prog 9 #[.int .i64 id] w fun e w' => e = .returned (.tuple #[.pointer none, .int .i64 1]) ∧ Below w.heap.size w w' := by
  have HK := Lib.hid fun wx => funcs_kinds_no id wx hid (fun e => h (by unfold IsFold; omega)) (fun e => h (by unfold IsFold; omega)) (fun e => h (by unfold IsFold; omega)) (fun e => h (by unfold IsFold; omega)) (fun e => h (by unfold IsFold; omega)) (fun e => h (by unfold IsFold; omega)) (fun e => h (by unfold IsFold; omega)) (fun e => h (by unfold IsFold; omega)) (fun e => h (by unfold IsFold; omega)) (fun e => h (by unfold IsFold; omega)) (fun e => h (by unfold IsFold; omega)) (fun e => h (by unfold IsFold; omega)) (fun e => h (by unfold IsFold; omega)) (fun e => h (by unfold IsFold; omega)) (fun e => h (by unfold IsFold; omega)) (fun e => h (by unfold IsFold; omega)) (fun e => h (by unfold IsFold; omega)) (fun e => h (by unfold IsFold; omega)) (fun e => h (by unfold IsFold; omega)) (fun e => h (by unfold IsFold; omega))
  clear h hid
  go_enter Tryz.func9, Tryz.ntmps9
  go_wp2_with fail
  refine (HK.out _).mono ?_
  rintro e w1 ⟨rfl, rfl⟩
  go_wp2
  go_ret2
  refine ⟨rfl, ?_⟩
  focus
    repeat with_reducible first | exact Below.refl _ _ | refine below_drewN ?_ _ | refine Below.drew ?_ | refine Below.setCell ?_ ?_ _ | refine Below.alloc ?_ ?_ _ | refine below_then ?_ ?_ (by with_reducible assumption)
    all_goals first | omega | (simp only [sA, sC, sD, sE]; omega) | (simp; done) | (simp; omega)
set_option maxHeartbeats 1000000 in
theorem funcs_kinds11 (w : World) :
    Calls Tryz.prog 23 #[.int .i64 11] w fun e w' => e = .returned (.iface 91 (.agg #[])) ∧ w = w' := by
  go_enter Tryz.func23, Tryz.ntmps23
  go_wp2
  go_ret
  exact ⟨rfl, rfl⟩
set_option maxHeartbeats 1000000 in
theorem funcs_Open11 (w : World) :
    Calls Tryz.prog 9 #[.int .i64 11] w fun e w' => e = .returned (.tuple #[.pointer (some ⟨w.heap.size, 0, none⟩), .int .i64 0]) ∧ Blk w' w.heap.size (accArr { acc0 11 0 with v := textV noT } kdV) 57 ∧ Below w.heap.size w w' := by
  have HT := Lib.hid fun wx => value_Text ⟨#[]⟩ wx (by decide)
  have et : textF ⟨#[]⟩ = textV noT := by decide
  rw [et] at HT
  have HA := Lib.hid (heap_alloc_new w (.cells (accArr (acc0 11 0) kdV) 57))
  go_enter Tryz.func9, Tryz.ntmps9
  go_wp2_with fail
  refine (funcs_kinds11 _).mono ?_
  rintro e w1 ⟨rfl, rfl⟩
  go_wp2_with fail
  refine (HT.out _).mono ?_
  rintro e w2 ⟨rfl, hb⟩
  have A1 : Blk w2 w.heap.size (accArr (acc0 11 0) kdV) 57 := by
    have h2 : Blk (w.alloc (.cells (accArr (acc0 11 0) kdV) 57)) w.heap.size (accArr (acc0 11 0) kdV) 57 := HA.out
    exact h2.below hb
  have fz := A1.free
  have l1 := A1.lt
  clear HA
  have c4 : w2.cell? ⟨w.heap.size, 4, none⟩ = some (.int .i64 0) := A1.cell 4
  have c5 : w2.cell? ⟨w.heap.size, 5, none⟩ = some (.int .i64 0) := A1.cell 5
  have c6 : w2.cell? ⟨w.heap.size, 6, none⟩ = some (.int .i64 0) := A1.cell 6
  have c7 : w2.cell? ⟨w.heap.size, 7, none⟩ = some (.string ⟨#[]⟩) := A1.cell 7
  have c8 : w2.cell? ⟨w.heap.size, 8, none⟩ = some (.bool false) := A1.cell 8
  have c9 : w2.cell? ⟨w.heap.size, 9, none⟩ = some (.int .i64 0) := A1.cell 9
  go_wp2
  go_ret2
  refine ⟨rfl, ?_, ?_⟩
  · exact (((((((A1.set 4 _).set 5 _).set 6 _).set 7 _).set 8 _).set 9 _).cast (by rfl))
  focus
    repeat with_reducible first | exact Below.refl _ _ | refine below_drewN ?_ _ | refine Below.drew ?_ | refine Below.setCell ?_ ?_ _ | refine Below.alloc ?_ ?_ _ | refine below_then ?_ ?_ (by with_reducible assumption)
    all_goals first | omega | (simp only [sA, sC, sD, sE]; omega) | (simp; done) | (simp; omega)
theorem funcs_OpenG (id : Int) (w : World) (h : IsFold id) :
    Calls Tryz.prog 9 #[.int .i64 id] w fun e w' => e = .returned (.tuple #[.pointer (some ⟨w.heap.size, 0, none⟩), .int .i64 0]) ∧ Blk w' w.heap.size (accArr (openS id) (kdOf id)) 57 ∧ Below w.heap.size w w' := by
  have hc : id = 1 ∨ id = 2 ∨ id = 3 ∨ id = 4 ∨ id = 5 ∨ id = 6 ∨ id = 7 ∨ id = 8 ∨ id = 9 ∨ id = 10 ∨ id = 11 ∨ id = 12 ∨ id = 13 ∨ id = 14 ∨ id = 15 ∨ id = 20 ∨ id = 21 ∨ id = 22 ∨ id = 23 ∨ id = 24 := by unfold IsFold at h; omega
  rcases hc with rfl | rfl | rfl | rfl | rfl | rfl | rfl | rfl | rfl | rfl | rfl | rfl | rfl | rfl | rfl | rfl | rfl | rfl | rfl | rfl
  · exact funcs_Open1 w
  · exact funcs_Open2 w
  · exact funcs_Open3 w
  · exact funcs_Open4 w
  · exact funcs_Open5 w
  · exact funcs_Open6 w
  · exact funcs_Open7 w
  · exact funcs_Open8 w
  · exact funcs_Open9 w
  · exact funcs_Open10 w
  · exact funcs_Open11 w
  · exact funcs_Open12 w
  · exact funcs_Open13 w
  · exact funcs_Open14 w
  · exact funcs_Open15 w
  · exact funcs_Open20 w
  · exact funcs_Open21 w
  · exact funcs_Open22 w
  · exact funcs_Open23 w
  · exact funcs_Open24 w
end Go.Proofs.YtnimenpfojcehaaGreatDoor
