/- Walks of package funcs: the small functions that Apply calls. -/
import Derived.Test.YtangdbjoflnobaaGreatDoorVT
import Derived.Handy
namespace Go.Proofs.YtangdbjoflnobaaGreatDoor
open Go.RowKit
set_option linter.unusedSimpArgs false
set_option linter.unusedVariables false

set_option maxHeartbeats 400000 in
theorem funcs_taken (k n d : Int) (t : ByteArray) (b : Bool) (f : Int) (w : World) (hx : Vl.In ⟨k, n, d, t, b, f⟩) :
    Calls Tryz.prog 55 #[.agg #[.int .i64 k, .int .i64 n, .int .i64 d, .string t, .bool b, .int .i64 f]] w fun e w' => e = .returned (.agg #[.int .i64 (tkV ⟨k, n, d, t, b, f⟩).k, .int .i64 (tkV ⟨k, n, d, t, b, f⟩).n, .int .i64 (tkV ⟨k, n, d, t, b, f⟩).d, .string (tkV ⟨k, n, d, t, b, f⟩).t, .bool (tkV ⟨k, n, d, t, b, f⟩).b, .int .i64 (tkV ⟨k, n, d, t, b, f⟩).f]) ∧ Below w.heap.size w w' := by
  cases hr : rightV ⟨k, n, d, t, b, f⟩
  · have HF : Hid (tkV ⟨k, n, d, t, b, f⟩ = faultF 2) := by unfold Hid tkV; rw [hr]; rfl
    have HR := Lib.hid hr
    clear hr
    go_enter Tryz.func55, Tryz.ntmps55
    go_wp2_with fail
    refine (value_Right _ _ _ _ _ _ _ hx).mono ?_
    rintro e w1 ⟨rfl, hb⟩
    rw [HR.out]
    have c1 := lcc hb (w.heap.size) (by (first | omega | (simp only [sz_alloc, sz_setCell, sz_drew, sz_drewN]; omega) | (simp; done) | (simp; omega)))
    have f1 := lcf hb (w.heap.size) (by (first | omega | (simp only [sz_alloc, sz_setCell, sz_drew, sz_drewN]; omega) | (simp; done) | (simp; omega)))
    have s1 := lcs hb (w.heap.size) (by (first | omega | (simp only [sz_alloc, sz_setCell, sz_drew, sz_drewN]; omega) | (simp; done) | (simp; omega)))
    have c2 := lcc hb (w.heap.size + 1) (by (first | omega | (simp only [sz_alloc, sz_setCell, sz_drew, sz_drewN]; omega) | (simp; done) | (simp; omega)))
    have f2 := lcf hb (w.heap.size + 1) (by (first | omega | (simp only [sz_alloc, sz_setCell, sz_drew, sz_drewN]; omega) | (simp; done) | (simp; omega)))
    have s2 := lcs hb (w.heap.size + 1) (by (first | omega | (simp only [sz_alloc, sz_setCell, sz_drew, sz_drewN]; omega) | (simp; done) | (simp; omega)))
    go_wp2_with fail
    refine (value_Fault _ _).mono ?_
    rintro e w2 ⟨rfl, hb2⟩
    have c3 := lcc hb2 (w.heap.size + 1) (by (first | omega | (simp only [sz_alloc, sz_setCell, sz_drew, sz_drewN]; omega) | (simp; done) | (simp; omega)))
    have f3 := lcf hb2 (w.heap.size + 1) (by (first | omega | (simp only [sz_alloc, sz_setCell, sz_drew, sz_drewN]; omega) | (simp; done) | (simp; omega)))
    have s3 := lcs hb2 (w.heap.size + 1) (by (first | omega | (simp only [sz_alloc, sz_setCell, sz_drew, sz_drewN]; omega) | (simp; done) | (simp; omega)))
    go_wp2
    refine bodyPost_ret (v := .agg #[.int .i64 (tkV ⟨k, n, d, t, b, f⟩).k, .int .i64 (tkV ⟨k, n, d, t, b, f⟩).n, .int .i64 (tkV ⟨k, n, d, t, b, f⟩).d, .string (tkV ⟨k, n, d, t, b, f⟩).t, .bool (tkV ⟨k, n, d, t, b, f⟩).b, .int .i64 (tkV ⟨k, n, d, t, b, f⟩).f]) (by rw [HF.out]; simp [results, Tryz.results55, go_sem, c1, c2, c3]) rfl ⟨rfl, ?_⟩
    repeat (first | with_reducible exact Below.refl _ _ | with_reducible refine below_drewN ?_ _ | with_reducible refine Below.drew ?_ | with_reducible refine Below.setCell ?_ (by (first | omega | (simp only [sz_alloc, sz_setCell, sz_drew, sz_drewN]; omega) | (simp; done) | (simp; omega))) _ | with_reducible refine Below.alloc ?_ (by (first | omega | (simp only [sz_alloc, sz_setCell, sz_drew, sz_drewN]; omega) | (simp; done) | (simp; omega))) _ | with_reducible refine below_then ?_ ?_ (by with_reducible assumption) | (first | omega | (simp only [sz_alloc, sz_setCell, sz_drew, sz_drewN]; omega) | (simp; done) | (simp; omega)))
  · have HF : Hid (tkV ⟨k, n, d, t, b, f⟩ = ⟨k, n, d, t, b, f⟩) := by unfold Hid tkV; rw [hr]; rfl
    have HR := Lib.hid hr
    clear hr
    go_enter Tryz.func55, Tryz.ntmps55
    go_wp2_with fail
    refine (value_Right _ _ _ _ _ _ _ hx).mono ?_
    rintro e w1 ⟨rfl, hb⟩
    rw [HR.out]
    have c4 := lcc hb (w.heap.size) (by (first | omega | (simp only [sz_alloc, sz_setCell, sz_drew, sz_drewN]; omega) | (simp; done) | (simp; omega)))
    have f4 := lcf hb (w.heap.size) (by (first | omega | (simp only [sz_alloc, sz_setCell, sz_drew, sz_drewN]; omega) | (simp; done) | (simp; omega)))
    have s4 := lcs hb (w.heap.size) (by (first | omega | (simp only [sz_alloc, sz_setCell, sz_drew, sz_drewN]; omega) | (simp; done) | (simp; omega)))
    have c5 := lcc hb (w.heap.size + 1) (by (first | omega | (simp only [sz_alloc, sz_setCell, sz_drew, sz_drewN]; omega) | (simp; done) | (simp; omega)))
    have f5 := lcf hb (w.heap.size + 1) (by (first | omega | (simp only [sz_alloc, sz_setCell, sz_drew, sz_drewN]; omega) | (simp; done) | (simp; omega)))
    have s5 := lcs hb (w.heap.size + 1) (by (first | omega | (simp only [sz_alloc, sz_setCell, sz_drew, sz_drewN]; omega) | (simp; done) | (simp; omega)))
    go_wp2
    refine bodyPost_ret (v := .agg #[.int .i64 (tkV ⟨k, n, d, t, b, f⟩).k, .int .i64 (tkV ⟨k, n, d, t, b, f⟩).n, .int .i64 (tkV ⟨k, n, d, t, b, f⟩).d, .string (tkV ⟨k, n, d, t, b, f⟩).t, .bool (tkV ⟨k, n, d, t, b, f⟩).b, .int .i64 (tkV ⟨k, n, d, t, b, f⟩).f]) (by rw [HF.out]; simp [results, Tryz.results55, go_sem, c4, c5]) rfl ⟨rfl, ?_⟩
    repeat (first | with_reducible exact Below.refl _ _ | with_reducible refine below_drewN ?_ _ | with_reducible refine Below.drew ?_ | with_reducible refine Below.setCell ?_ (by (first | omega | (simp only [sz_alloc, sz_setCell, sz_drew, sz_drewN]; omega) | (simp; done) | (simp; omega))) _ | with_reducible refine Below.alloc ?_ (by (first | omega | (simp only [sz_alloc, sz_setCell, sz_drew, sz_drewN]; omega) | (simp; done) | (simp; omega))) _ | with_reducible refine below_then ?_ ?_ (by with_reducible assumption) | (first | omega | (simp only [sz_alloc, sz_setCell, sz_drew, sz_drewN]; omega) | (simp; done) | (simp; omega)))

set_option maxHeartbeats 400000 in
theorem funcs_told (n d : Int) (ok : Bool) (w : World) (hn : I64 n) (hd : I64 d) :
    Calls Tryz.prog 83 #[.agg #[.int .i64 n, .int .i64 d], .bool ok] w fun e w' => e = .returned (.agg #[.int .i64 (toldF n d ok).k, .int .i64 (toldF n d ok).n, .int .i64 (toldF n d ok).d, .string (toldF n d ok).t, .bool (toldF n d ok).b, .int .i64 (toldF n d ok).f]) ∧ Below w.heap.size w w' := by
  cases ok
  · have HF : Hid (toldF n d false = faultF 4) := rfl
    go_enter Tryz.func83, Tryz.ntmps83
    go_wp2_with fail
    refine (value_Fault _ _).mono ?_
    rintro e w1 ⟨rfl, hb⟩
    have c6 := lcc hb (w.heap.size + 1) (by (first | omega | (simp only [sz_alloc, sz_setCell, sz_drew, sz_drewN]; omega) | (simp; done) | (simp; omega)))
    have f6 := lcf hb (w.heap.size + 1) (by (first | omega | (simp only [sz_alloc, sz_setCell, sz_drew, sz_drewN]; omega) | (simp; done) | (simp; omega)))
    have s6 := lcs hb (w.heap.size + 1) (by (first | omega | (simp only [sz_alloc, sz_setCell, sz_drew, sz_drewN]; omega) | (simp; done) | (simp; omega)))
    go_wp2
    refine bodyPost_ret (v := .agg #[.int .i64 (toldF n d false).k, .int .i64 (toldF n d false).n, .int .i64 (toldF n d false).d, .string (toldF n d false).t, .bool (toldF n d false).b, .int .i64 (toldF n d false).f]) (by rw [HF.out]; simp [results, Tryz.results83, go_sem, c6]) rfl ⟨rfl, ?_⟩
    repeat (first | with_reducible exact Below.refl _ _ | with_reducible refine below_drewN ?_ _ | with_reducible refine Below.drew ?_ | with_reducible refine Below.setCell ?_ (by (first | omega | (simp only [sz_alloc, sz_setCell, sz_drew, sz_drewN]; omega) | (simp; done) | (simp; omega))) _ | with_reducible refine Below.alloc ?_ (by (first | omega | (simp only [sz_alloc, sz_setCell, sz_drew, sz_drewN]; omega) | (simp; done) | (simp; omega))) _ | with_reducible refine below_then ?_ ?_ (by with_reducible assumption) | (first | omega | (simp only [sz_alloc, sz_setCell, sz_drew, sz_drewN]; omega) | (simp; done) | (simp; omega)))
  · have HF : Hid (toldF n d true = numF n d) := rfl
    go_enter Tryz.func83, Tryz.ntmps83
    go_wp2_with fail
    refine (value_Number _ _ _ hn hd).mono ?_
    rintro e w1 ⟨rfl, hb⟩
    have c7 := lcc hb (w.heap.size + 1) (by (first | omega | (simp only [sz_alloc, sz_setCell, sz_drew, sz_drewN]; omega) | (simp; done) | (simp; omega)))
    have f7 := lcf hb (w.heap.size + 1) (by (first | omega | (simp only [sz_alloc, sz_setCell, sz_drew, sz_drewN]; omega) | (simp; done) | (simp; omega)))
    have s7 := lcs hb (w.heap.size + 1) (by (first | omega | (simp only [sz_alloc, sz_setCell, sz_drew, sz_drewN]; omega) | (simp; done) | (simp; omega)))
    go_wp2
    refine bodyPost_ret (v := .agg #[.int .i64 (toldF n d true).k, .int .i64 (toldF n d true).n, .int .i64 (toldF n d true).d, .string (toldF n d true).t, .bool (toldF n d true).b, .int .i64 (toldF n d true).f]) (by rw [HF.out]; simp [results, Tryz.results83, go_sem, c7]) rfl ⟨rfl, ?_⟩
    repeat (first | with_reducible exact Below.refl _ _ | with_reducible refine below_drewN ?_ _ | with_reducible refine Below.drew ?_ | with_reducible refine Below.setCell ?_ (by (first | omega | (simp only [sz_alloc, sz_setCell, sz_drew, sz_drewN]; omega) | (simp; done) | (simp; omega))) _ | with_reducible refine Below.alloc ?_ (by (first | omega | (simp only [sz_alloc, sz_setCell, sz_drew, sz_drewN]; omega) | (simp; done) | (simp; omega))) _ | with_reducible refine below_then ?_ ?_ (by with_reducible assumption) | (first | omega | (simp only [sz_alloc, sz_setCell, sz_drew, sz_drewN]; omega) | (simp; done) | (simp; omega)))

def wholeF (n : Int) : Vl := toldF (mk n 1).n (mk n 1).d (mk n 1).ok
set_option maxHeartbeats 400000 in
theorem funcs_whole (n : Int) (w : World) (hn : I64 n) :
    Calls Tryz.prog 57 #[.int .i64 n] w fun e w' => e = .returned (.agg #[.int .i64 (wholeF n).k, .int .i64 (wholeF n).n, .int .i64 (wholeF n).d, .string (wholeF n).t, .bool (wholeF n).b, .int .i64 (wholeF n).f]) ∧ Below w.heap.size w w' := by
  have hm := mk_bd n 1
  have HF : Hid (wholeF n = toldF (mk n 1).n (mk n 1).d (mk n 1).ok) := rfl
  go_enter Tryz.func57, Tryz.ntmps57
  go_wp2_with fail
  refine (num_Make _ _ _ hn ⟨by decide, by decide⟩).mono ?_
  rintro e w1 ⟨rfl, hb⟩
  have c8 := lcc hb (w.heap.size) (by (first | omega | (simp only [sz_alloc, sz_setCell, sz_drew, sz_drewN]; omega) | (simp; done) | (simp; omega)))
  have f8 := lcf hb (w.heap.size) (by (first | omega | (simp only [sz_alloc, sz_setCell, sz_drew, sz_drewN]; omega) | (simp; done) | (simp; omega)))
  have s8 := lcs hb (w.heap.size) (by (first | omega | (simp only [sz_alloc, sz_setCell, sz_drew, sz_drewN]; omega) | (simp; done) | (simp; omega)))
  go_wp2_with fail
  refine (funcs_told _ _ _ _ (I64.of hm.1 hm.2.1) (I64.of (by omega) (by omega))).mono ?_
  rintro e w2 ⟨rfl, hb2⟩
  have c9 := lcc hb2 (w.heap.size) (by (first | omega | (simp only [sz_alloc, sz_setCell, sz_drew, sz_drewN]; omega) | (simp; done) | (simp; omega)))
  have f9 := lcf hb2 (w.heap.size) (by (first | omega | (simp only [sz_alloc, sz_setCell, sz_drew, sz_drewN]; omega) | (simp; done) | (simp; omega)))
  have s9 := lcs hb2 (w.heap.size) (by (first | omega | (simp only [sz_alloc, sz_setCell, sz_drew, sz_drewN]; omega) | (simp; done) | (simp; omega)))
  go_wp2
  refine bodyPost_ret (v := .agg #[.int .i64 (wholeF n).k, .int .i64 (wholeF n).n, .int .i64 (wholeF n).d, .string (wholeF n).t, .bool (wholeF n).b, .int .i64 (wholeF n).f]) (by rw [HF.out]; simp [results, Tryz.results57, go_sem, c8, c9]) rfl ⟨rfl, ?_⟩
  repeat (first | with_reducible exact Below.refl _ _ | with_reducible refine below_drewN ?_ _ | with_reducible refine Below.drew ?_ | with_reducible refine Below.setCell ?_ (by (first | omega | (simp only [sz_alloc, sz_setCell, sz_drew, sz_drewN]; omega) | (simp; done) | (simp; omega))) _ | with_reducible refine Below.alloc ?_ (by (first | omega | (simp only [sz_alloc, sz_setCell, sz_drew, sz_drewN]; omega) | (simp; done) | (simp; omega))) _ | with_reducible refine below_then ?_ ?_ (by with_reducible assumption) | (first | omega | (simp only [sz_alloc, sz_setCell, sz_drew, sz_drewN]; omega) | (simp; done) | (simp; omega)))

set_option maxHeartbeats 400000 in
theorem funcs_asked48 (k n d : Int) (t : ByteArray) (b : Bool) (f : Int) (w : World) :
    Calls Tryz.prog 56 #[.int .i64 48, .agg #[.int .i64 k, .int .i64 n, .int .i64 d, .string t, .bool b, .int .i64 f]] w fun e w' => e = .returned (.tuple #[.bool false, .bool false]) ∧ Below w.heap.size w w' := by
  go_enter Tryz.func56, Tryz.ntmps56
  go_wp2
  go_ret2
  refine ⟨rfl, ?_⟩
  repeat (first | with_reducible exact Below.refl _ _ | with_reducible refine below_drewN ?_ _ | with_reducible refine Below.drew ?_ | with_reducible refine Below.setCell ?_ (by (first | omega | (simp only [sz_alloc, sz_setCell, sz_drew, sz_drewN]; omega) | (simp; done) | (simp; omega))) _ | with_reducible refine Below.alloc ?_ (by (first | omega | (simp only [sz_alloc, sz_setCell, sz_drew, sz_drewN]; omega) | (simp; done) | (simp; omega))) _ | with_reducible refine below_then ?_ ?_ (by with_reducible assumption) | (first | omega | (simp only [sz_alloc, sz_setCell, sz_drew, sz_drewN]; omega) | (simp; done) | (simp; omega)))
set_option maxHeartbeats 400000 in
theorem funcs_shape48 (w : World) :
    Calls Tryz.prog 59 #[.int .i64 48] w fun e w' => e = .returned (.string ⟨#[115]⟩) ∧ w = w' := by
  go_enter Tryz.func59, Tryz.ntmps59
  go_wp2
  go_ret
  exact ⟨rfl, rfl⟩
set_option maxHeartbeats 400000 in
theorem funcs_asked54 (k n d : Int) (t : ByteArray) (b : Bool) (f : Int) (w : World) :
    Calls Tryz.prog 56 #[.int .i64 54, .agg #[.int .i64 k, .int .i64 n, .int .i64 d, .string t, .bool b, .int .i64 f]] w fun e w' => e = .returned (.tuple #[.bool false, .bool false]) ∧ Below w.heap.size w w' := by
  go_enter Tryz.func56, Tryz.ntmps56
  go_wp2
  go_ret2
  refine ⟨rfl, ?_⟩
  repeat (first | with_reducible exact Below.refl _ _ | with_reducible refine below_drewN ?_ _ | with_reducible refine Below.drew ?_ | with_reducible refine Below.setCell ?_ (by (first | omega | (simp only [sz_alloc, sz_setCell, sz_drew, sz_drewN]; omega) | (simp; done) | (simp; omega))) _ | with_reducible refine Below.alloc ?_ (by (first | omega | (simp only [sz_alloc, sz_setCell, sz_drew, sz_drewN]; omega) | (simp; done) | (simp; omega))) _ | with_reducible refine below_then ?_ ?_ (by with_reducible assumption) | (first | omega | (simp only [sz_alloc, sz_setCell, sz_drew, sz_drewN]; omega) | (simp; done) | (simp; omega)))
set_option maxHeartbeats 400000 in
theorem funcs_shape54 (w : World) :
    Calls Tryz.prog 59 #[.int .i64 54] w fun e w' => e = .returned (.string ⟨#[115]⟩) ∧ w = w' := by
  go_enter Tryz.func59, Tryz.ntmps59
  go_wp2
  go_ret
  exact ⟨rfl, rfl⟩
set_option maxHeartbeats 400000 in
theorem funcs_asked55 (k n d : Int) (t : ByteArray) (b : Bool) (f : Int) (w : World) :
    Calls Tryz.prog 56 #[.int .i64 55, .agg #[.int .i64 k, .int .i64 n, .int .i64 d, .string t, .bool b, .int .i64 f]] w fun e w' => e = .returned (.tuple #[.bool false, .bool false]) ∧ Below w.heap.size w w' := by
  go_enter Tryz.func56, Tryz.ntmps56
  go_wp2
  go_ret2
  refine ⟨rfl, ?_⟩
  repeat (first | with_reducible exact Below.refl _ _ | with_reducible refine below_drewN ?_ _ | with_reducible refine Below.drew ?_ | with_reducible refine Below.setCell ?_ (by (first | omega | (simp only [sz_alloc, sz_setCell, sz_drew, sz_drewN]; omega) | (simp; done) | (simp; omega))) _ | with_reducible refine Below.alloc ?_ (by (first | omega | (simp only [sz_alloc, sz_setCell, sz_drew, sz_drewN]; omega) | (simp; done) | (simp; omega))) _ | with_reducible refine below_then ?_ ?_ (by with_reducible assumption) | (first | omega | (simp only [sz_alloc, sz_setCell, sz_drew, sz_drewN]; omega) | (simp; done) | (simp; omega)))
set_option maxHeartbeats 400000 in
theorem funcs_shape55 (w : World) :
    Calls Tryz.prog 59 #[.int .i64 55] w fun e w' => e = .returned (.string ⟨#[115]⟩) ∧ w = w' := by
  go_enter Tryz.func59, Tryz.ntmps59
  go_wp2
  go_ret
  exact ⟨rfl, rfl⟩
set_option maxHeartbeats 400000 in
theorem funcs_asked56 (k n d : Int) (t : ByteArray) (b : Bool) (f : Int) (w : World) :
    Calls Tryz.prog 56 #[.int .i64 56, .agg #[.int .i64 k, .int .i64 n, .int .i64 d, .string t, .bool b, .int .i64 f]] w fun e w' => e = .returned (.tuple #[.bool false, .bool false]) ∧ Below w.heap.size w w' := by
  go_enter Tryz.func56, Tryz.ntmps56
  go_wp2
  go_ret2
  refine ⟨rfl, ?_⟩
  repeat (first | with_reducible exact Below.refl _ _ | with_reducible refine below_drewN ?_ _ | with_reducible refine Below.drew ?_ | with_reducible refine Below.setCell ?_ (by (first | omega | (simp only [sz_alloc, sz_setCell, sz_drew, sz_drewN]; omega) | (simp; done) | (simp; omega))) _ | with_reducible refine Below.alloc ?_ (by (first | omega | (simp only [sz_alloc, sz_setCell, sz_drew, sz_drewN]; omega) | (simp; done) | (simp; omega))) _ | with_reducible refine below_then ?_ ?_ (by with_reducible assumption) | (first | omega | (simp only [sz_alloc, sz_setCell, sz_drew, sz_drewN]; omega) | (simp; done) | (simp; omega)))
set_option maxHeartbeats 400000 in
theorem funcs_shape56 (w : World) :
    Calls Tryz.prog 59 #[.int .i64 56] w fun e w' => e = .returned (.string ⟨#[115]⟩) ∧ w = w' := by
  go_enter Tryz.func59, Tryz.ntmps59
  go_wp2
  go_ret
  exact ⟨rfl, rfl⟩

set_option maxHeartbeats 400000 in
theorem law_five (w : World) :
    Calls Tryz.prog 54 #[] w fun e w' => e = .returned (.agg #[.int .i64 (numV 5 1).k, .int .i64 (numV 5 1).n, .int .i64 (numV 5 1).d, .string (numV 5 1).t, .bool (numV 5 1).b, .int .i64 (numV 5 1).f]) ∧ Below w.heap.size w w' := by
  go_enter Tryz.func54, Tryz.ntmps54
  go_wp2
  refine bodyPost_ret (v := .agg #[.int .i64 (numV 5 1).k, .int .i64 (numV 5 1).n, .int .i64 (numV 5 1).d, .string (numV 5 1).t, .bool (numV 5 1).b, .int .i64 (numV 5 1).f]) (by simp [results, Tryz.results54, go_sem, numV, noT]) rfl ⟨rfl, ?_⟩
  repeat (first | with_reducible exact Below.refl _ _ | with_reducible refine below_drewN ?_ _ | with_reducible refine Below.drew ?_ | with_reducible refine Below.setCell ?_ (by (first | omega | (simp only [sz_alloc, sz_setCell, sz_drew, sz_drewN]; omega) | (simp; done) | (simp; omega))) _ | with_reducible refine Below.alloc ?_ (by (first | omega | (simp only [sz_alloc, sz_setCell, sz_drew, sz_drewN]; omega) | (simp; done) | (simp; omega))) _ | with_reducible refine below_then ?_ ?_ (by with_reducible assumption) | (first | omega | (simp only [sz_alloc, sz_setCell, sz_drew, sz_drewN]; omega) | (simp; done) | (simp; omega)))
end Go.Proofs.YtangdbjoflnobaaGreatDoor
