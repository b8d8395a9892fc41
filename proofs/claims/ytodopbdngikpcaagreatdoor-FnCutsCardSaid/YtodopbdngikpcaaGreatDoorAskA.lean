/- Walks of package funcs: asked and shape at every id. -/
import Derived.Test.YtodopbdngikpcaaGreatDoorVTA
import Derived.BigQuiet
namespace Go.Proofs.YtodopbdngikpcaaGreatDoor
open Go Go.RowKit
set_option linter.unusedSimpArgs false
set_option linter.unusedVariables false

/-- Of the functions that ask for a kind, the kind. -/
def askK (id : Int) : Option Int := if id = 58 then some 1 else if id = 59 then some 2 else if id = 60 then some 0 else if id = 61 then some 4 else none
set_option maxHeartbeats 400000 in
theorem ask_58 (k n d : Int) (t : ByteArray) (b : Bool) (f : Int) (w : World) :
    Calls Tryz.prog 34 #[.int .i64 58, .agg #[.int .i64 k, .int .i64 n, .int .i64 d, .string t, .bool b, .int .i64 f]] w fun e w' => e = .returned (.tuple #[.bool (k == 1), .bool true]) ∧ Below w.heap.size w w' := by
  go_enter Tryz.func34, Tryz.ntmps34
  go_wp2
  go_ret2
  refine ⟨rfl, ?_⟩
  repeat (first | with_reducible exact Below.refl _ _ | with_reducible refine below_drewN ?_ _ | with_reducible refine Below.drew ?_ | with_reducible refine Below.setCell ?_ (by (first | omega | (simp only [sz_alloc, sz_setCell, sz_drew, sz_drewN]; omega) | (simp; done) | (simp; omega))) _ | with_reducible refine Below.alloc ?_ (by (first | omega | (simp only [sz_alloc, sz_setCell, sz_drew, sz_drewN]; omega) | (simp; done) | (simp; omega))) _ | with_reducible refine below_then ?_ ?_ (by with_reducible assumption) | (first | omega | (simp only [sz_alloc, sz_setCell, sz_drew, sz_drewN]; omega) | (simp; done) | (simp; omega)))
set_option maxHeartbeats 400000 in
theorem ask_59 (k n d : Int) (t : ByteArray) (b : Bool) (f : Int) (w : World) :
    Calls Tryz.prog 34 #[.int .i64 59, .agg #[.int .i64 k, .int .i64 n, .int .i64 d, .string t, .bool b, .int .i64 f]] w fun e w' => e = .returned (.tuple #[.bool (k == 2), .bool true]) ∧ Below w.heap.size w w' := by
  go_enter Tryz.func34, Tryz.ntmps34
  go_wp2
  go_ret2
  refine ⟨rfl, ?_⟩
  repeat (first | with_reducible exact Below.refl _ _ | with_reducible refine below_drewN ?_ _ | with_reducible refine Below.drew ?_ | with_reducible refine Below.setCell ?_ (by (first | omega | (simp only [sz_alloc, sz_setCell, sz_drew, sz_drewN]; omega) | (simp; done) | (simp; omega))) _ | with_reducible refine Below.alloc ?_ (by (first | omega | (simp only [sz_alloc, sz_setCell, sz_drew, sz_drewN]; omega) | (simp; done) | (simp; omega))) _ | with_reducible refine below_then ?_ ?_ (by with_reducible assumption) | (first | omega | (simp only [sz_alloc, sz_setCell, sz_drew, sz_drewN]; omega) | (simp; done) | (simp; omega)))
set_option maxHeartbeats 400000 in
theorem ask_60 (k n d : Int) (t : ByteArray) (b : Bool) (f : Int) (w : World) :
    Calls Tryz.prog 34 #[.int .i64 60, .agg #[.int .i64 k, .int .i64 n, .int .i64 d, .string t, .bool b, .int .i64 f]] w fun e w' => e = .returned (.tuple #[.bool (k == 0), .bool true]) ∧ Below w.heap.size w w' := by
  go_enter Tryz.func34, Tryz.ntmps34
  go_wp2
  go_ret2
  refine ⟨rfl, ?_⟩
  repeat (first | with_reducible exact Below.refl _ _ | with_reducible refine below_drewN ?_ _ | with_reducible refine Below.drew ?_ | with_reducible refine Below.setCell ?_ (by (first | omega | (simp only [sz_alloc, sz_setCell, sz_drew, sz_drewN]; omega) | (simp; done) | (simp; omega))) _ | with_reducible refine Below.alloc ?_ (by (first | omega | (simp only [sz_alloc, sz_setCell, sz_drew, sz_drewN]; omega) | (simp; done) | (simp; omega))) _ | with_reducible refine below_then ?_ ?_ (by with_reducible assumption) | (first | omega | (simp only [sz_alloc, sz_setCell, sz_drew, sz_drewN]; omega) | (simp; done) | (simp; omega)))
set_option maxHeartbeats 400000 in
theorem ask_61 (k n d : Int) (t : ByteArray) (b : Bool) (f : Int) (w : World) :
    Calls Tryz.prog 34 #[.int .i64 61, .agg #[.int .i64 k, .int .i64 n, .int .i64 d, .string t, .bool b, .int .i64 f]] w fun e w' => e = .returned (.tuple #[.bool (k == 4), .bool true]) ∧ Below w.heap.size w w' := by
  go_enter Tryz.func34, Tryz.ntmps34
  go_wp2
  go_ret2
  refine ⟨rfl, ?_⟩
  repeat (first | with_reducible exact Below.refl _ _ | with_reducible refine below_drewN ?_ _ | with_reducible refine Below.drew ?_ | with_reducible refine Below.setCell ?_ (by (first | omega | (simp only [sz_alloc, sz_setCell, sz_drew, sz_drewN]; omega) | (simp; done) | (simp; omega))) _ | with_reducible refine Below.alloc ?_ (by (first | omega | (simp only [sz_alloc, sz_setCell, sz_drew, sz_drewN]; omega) | (simp; done) | (simp; omega))) _ | with_reducible refine below_then ?_ ?_ (by with_reducible assumption) | (first | omega | (simp only [sz_alloc, sz_setCell, sz_drew, sz_drewN]; omega) | (simp; done) | (simp; omega)))
set_option maxHeartbeats 400000 in
theorem ask_none (id : Int) (h1 : ¬ id = 58) (h2 : ¬ id = 59) (h3 : ¬ id = 60) (h4 : ¬ id = 61) (k n d : Int) (t : ByteArray) (b : Bool) (f : Int) (w : World) :
    Calls Tryz.prog 34 #[.int .i64 id, .agg #[.int .i64 k, .int .i64 n, .int .i64 d, .string t, .bool b, .int .i64 f]] w fun e w' => e = .returned (.tuple #[.bool false, .bool false]) ∧ Below w.heap.size w w' := by
  have k1 : (id == 58) = false := by simp [h1]
  have k2 : (id == 59) = false := by simp [h2]
  have k3 : (id == 60) = false := by simp [h3]
  have k4 : (id == 61) = false := by simp [h4]
  clear h1 h2 h3 h4
  go_enter Tryz.func34, Tryz.ntmps34
  go_wp2
  go_ret2
  refine ⟨rfl, ?_⟩
  repeat (first | with_reducible exact Below.refl _ _ | with_reducible refine below_drewN ?_ _ | with_reducible refine Below.drew ?_ | with_reducible refine Below.setCell ?_ (by (first | omega | (simp only [sz_alloc, sz_setCell, sz_drew, sz_drewN]; omega) | (simp; done) | (simp; omega))) _ | with_reducible refine Below.alloc ?_ (by (first | omega | (simp only [sz_alloc, sz_setCell, sz_drew, sz_drewN]; omega) | (simp; done) | (simp; omega))) _ | with_reducible refine below_then ?_ ?_ (by with_reducible assumption) | (first | omega | (simp only [sz_alloc, sz_setCell, sz_drew, sz_drewN]; omega) | (simp; done) | (simp; omega)))
/-- What a scalar's arguments are taken as. -/
def shapeB (id : Int) : ByteArray :=
  if id = 47 then ⟨#[116]⟩ else if id = 48 ∨ id = 54 ∨ id = 55 ∨ id = 56 then ⟨#[115]⟩ else if id = 49 ∨ id = 50 ∨ id = 52 then ⟨#[115, 110]⟩ else if id = 51 then ⟨#[115, 110, 110]⟩ else if id = 53 then ⟨#[115, 115]⟩ else ⟨#[110, 110]⟩
set_option maxHeartbeats 400000 in
theorem shape_47 (w : World) :
    Calls Tryz.prog 39 #[.int .i64 47] w fun e w' => e = .returned (.string (shapeB 47)) ∧ w = w' := by
  go_enter Tryz.func39, Tryz.ntmps39
  go_wp2
  go_ret
  exact ⟨rfl, rfl⟩
set_option maxHeartbeats 400000 in
theorem shape_48 (w : World) :
    Calls Tryz.prog 39 #[.int .i64 48] w fun e w' => e = .returned (.string (shapeB 48)) ∧ w = w' := by
  go_enter Tryz.func39, Tryz.ntmps39
  go_wp2
  go_ret
  exact ⟨rfl, rfl⟩
set_option maxHeartbeats 400000 in
theorem shape_54 (w : World) :
    Calls Tryz.prog 39 #[.int .i64 54] w fun e w' => e = .returned (.string (shapeB 54)) ∧ w = w' := by
  go_enter Tryz.func39, Tryz.ntmps39
  go_wp2
  go_ret
  exact ⟨rfl, rfl⟩
set_option maxHeartbeats 400000 in
theorem shape_55 (w : World) :
    Calls Tryz.prog 39 #[.int .i64 55] w fun e w' => e = .returned (.string (shapeB 55)) ∧ w = w' := by
  go_enter Tryz.func39, Tryz.ntmps39
  go_wp2
  go_ret
  exact ⟨rfl, rfl⟩
set_option maxHeartbeats 400000 in
theorem shape_56 (w : World) :
    Calls Tryz.prog 39 #[.int .i64 56] w fun e w' => e = .returned (.string (shapeB 56)) ∧ w = w' := by
  go_enter Tryz.func39, Tryz.ntmps39
  go_wp2
  go_ret
  exact ⟨rfl, rfl⟩
set_option maxHeartbeats 400000 in
theorem shape_49 (w : World) :
    Calls Tryz.prog 39 #[.int .i64 49] w fun e w' => e = .returned (.string (shapeB 49)) ∧ w = w' := by
  go_enter Tryz.func39, Tryz.ntmps39
  go_wp2
  go_ret
  exact ⟨rfl, rfl⟩
set_option maxHeartbeats 400000 in
theorem shape_50 (w : World) :
    Calls Tryz.prog 39 #[.int .i64 50] w fun e w' => e = .returned (.string (shapeB 50)) ∧ w = w' := by
  go_enter Tryz.func39, Tryz.ntmps39
  go_wp2
  go_ret
  exact ⟨rfl, rfl⟩
set_option maxHeartbeats 400000 in
theorem shape_52 (w : World) :
    Calls Tryz.prog 39 #[.int .i64 52] w fun e w' => e = .returned (.string (shapeB 52)) ∧ w = w' := by
  go_enter Tryz.func39, Tryz.ntmps39
  go_wp2
  go_ret
  exact ⟨rfl, rfl⟩
set_option maxHeartbeats 400000 in
theorem shape_51 (w : World) :
    Calls Tryz.prog 39 #[.int .i64 51] w fun e w' => e = .returned (.string (shapeB 51)) ∧ w = w' := by
  go_enter Tryz.func39, Tryz.ntmps39
  go_wp2
  go_ret
  exact ⟨rfl, rfl⟩
set_option maxHeartbeats 400000 in
theorem shape_53 (w : World) :
    Calls Tryz.prog 39 #[.int .i64 53] w fun e w' => e = .returned (.string (shapeB 53)) ∧ w = w' := by
  go_enter Tryz.func39, Tryz.ntmps39
  go_wp2
  go_ret
  exact ⟨rfl, rfl⟩
set_option maxHeartbeats 400000 in
theorem shape_none (id : Int) (h0 : ¬ id = 47) (h1 : ¬ id = 48) (h2 : ¬ id = 49) (h3 : ¬ id = 50) (h4 : ¬ id = 51) (h5 : ¬ id = 52) (h6 : ¬ id = 53) (h7 : ¬ id = 54) (h8 : ¬ id = 55) (h9 : ¬ id = 56) (w : World) :
    Calls Tryz.prog 39 #[.int .i64 id] w fun e w' => e = .returned (.string (shapeB id)) ∧ w = w' := by
  have hS : shapeB id = ⟨#[110, 110]⟩ := by
    unfold shapeB
    rw [if_neg h0, if_neg (by omega), if_neg (by omega), if_neg h4, if_neg h6]
  rw [hS]
  have k0 : (id == 47) = false := by simp [h0]
  have k1 : (id == 48) = false := by simp [h1]
  have k2 : (id == 49) = false := by simp [h2]
  have k3 : (id == 50) = false := by simp [h3]
  have k4 : (id == 51) = false := by simp [h4]
  have k5 : (id == 52) = false := by simp [h5]
  have k6 : (id == 53) = false := by simp [h6]
  have k7 : (id == 54) = false := by simp [h7]
  have k8 : (id == 55) = false := by simp [h8]
  have k9 : (id == 56) = false := by simp [h9]
  clear hS
  go_enter Tryz.func39, Tryz.ntmps39
  go_wp2
  go_ret
  exact ⟨rfl, rfl⟩
theorem funcs_shape (id : Int) (w : World) :
    Calls Tryz.prog 39 #[.int .i64 id] w fun e w' => e = .returned (.string (shapeB id)) ∧ w = w' := by
  by_cases h0 : id = 47
  · subst h0; exact shape_47 w
  by_cases h1 : id = 48
  · subst h1; exact shape_48 w
  by_cases h2 : id = 49
  · subst h2; exact shape_49 w
  by_cases h3 : id = 50
  · subst h3; exact shape_50 w
  by_cases h4 : id = 51
  · subst h4; exact shape_51 w
  by_cases h5 : id = 52
  · subst h5; exact shape_52 w
  by_cases h6 : id = 53
  · subst h6; exact shape_53 w
  by_cases h7 : id = 54
  · subst h7; exact shape_54 w
  by_cases h8 : id = 55
  · subst h8; exact shape_55 w
  by_cases h9 : id = 56
  · subst h9; exact shape_56 w
  exact shape_none id h0 h1 h2 h3 h4 h5 h6 h7 h8 h9 w
end Go.Proofs.YtodopbdngikpcaaGreatDoor
