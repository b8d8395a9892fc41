/- Walks of package value: AsText of a text. Walks of package funcs: the small functions that Apply calls. Walks of the reference's packages: a text's value, a number's value where it fits, and what they are made of. -/
import Derived.Test.YtglngfaagjgpjaaGreatDoorValC
import Derived.Handy
import Derived.Test.YtglngfaagjgpjaaGreatDoorBx3
namespace Go.Proofs.YtglngfaagjgpjaaGreatDoor
open Go.RowKit
set_option linter.unusedSimpArgs false
set_option linter.unusedVariables false

set_option maxHeartbeats 1000000 in
theorem ast_text (k n d : Int) (t : ByteArray) (b : Bool) (f : Int) (w : World) (v : Vl) (HT : Hid (∀ wx, Calls Tryz.prog 62 #[.agg #[.int .i64 k, .int .i64 n, .int .i64 d, .string t, .bool b, .int .i64 f]] wx fun e w' => e = .returned (.agg #[.int .i64 (v).k, .int .i64 (v).n, .int .i64 (v).d, .string (v).t, .bool (v).b, .int .i64 (v).f]) ∧ Below wx.heap.size wx w')) (hk : v.k = 2) :
    Calls Tryz.prog 65 #[.agg #[.int .i64 k, .int .i64 n, .int .i64 d, .string t, .bool b, .int .i64 f]] w fun e w' => e = .returned (.tuple #[.string v.t, .agg #[.int .i64 (blankV).k, .int .i64 (blankV).n, .int .i64 (blankV).d, .string (blankV).t, .bool (blankV).b, .int .i64 (blankV).f]]) ∧ Below w.heap.size w w' := by
  have k1 : (v.k == 1) = false := by simp [hk]
  have k3 : (v.k == 3) = false := by simp [hk]
  have k4 : (v.k == 4) = false := by simp [hk]
  clear hk
  go_enter Tryz.func65, Tryz.ntmps65
  go_wp2_with fail
  refine (HT.out _).mono ?_
  rintro e w1 ⟨rfl, hb⟩
  obtain ⟨s1, c1_0, c1_1, c1_2, c1_3, c1_4, c1_5, f1⟩ := L6 hb (w.heap.size) (by first | omega | (simp only [sA, sC, sD, sE]; omega) | (simp; done) | (simp; omega)) (by go_simp; exact ⟨rfl, rfl, rfl, rfl, rfl, rfl⟩) (by intro o; go_simp)
  obtain ⟨s2, c2_0, c2_1, c2_2, c2_3, c2_4, c2_5, f2⟩ := L6 hb (w.heap.size + 1) (by first | omega | (simp only [sA, sC, sD, sE]; omega) | (simp; done) | (simp; omega)) (by go_simp; exact ⟨rfl, rfl, rfl, rfl, rfl, rfl⟩) (by intro o; go_simp)
  go_upto_region 2 with (fail)
  first | with_reducible refine wp_rebase ?_ | with_reducible refine wpList_rebase ?_
  intro w1 hb'
  have hb := hb'.out
  clear hb'
  obtain ⟨s3, c3_0, c3_1, c3_2, c3_3, c3_4, c3_5, f3⟩ := L6 hb (w.heap.size) (by first | omega | (simp only [sA, sC, sD, sE]; omega) | (simp; done) | (simp; omega)) (by go_simp; exact ⟨rfl, rfl, rfl, rfl, rfl, rfl⟩) (by intro o; go_simp)
  obtain ⟨s4, c4_0, c4_1, c4_2, c4_3, c4_4, c4_5, f4⟩ := L6 hb (w.heap.size + 1) (by first | omega | (simp only [sA, sC, sD, sE]; omega) | (simp; done) | (simp; omega)) (by go_simp; exact ⟨rfl, rfl, rfl, rfl, rfl, rfl⟩) (by intro o; go_simp)
  clear c1_0 c1_1 c1_2 c1_3 c1_4 c1_5 f1 c2_0 c2_1 c2_2 c2_3 c2_4 c2_5 f2
  go_wp2_with fail
  refine region_below 3 (by kernel_rfl) (by kernel_rfl) ?_
  simp only [List.take_succ_cons, List.take_zero, List.drop_succ_cons, List.drop_zero]
  repeat
    first | (refine q_run ?_ ?_; focus (go_simp; done)) | (refine q_skip ?_ ?_; focus (go_simp; done))
    try (apply Exists.intro; refine ⟨fun w' hw' => ?_, ?_⟩; focus (have hc := (bcell hw'.out).1; unfold Oper.quietAt; go_simp; (try go_ints); (first | rfl | (go_at_call 128; refine (value_Blank _).mono ?_; rintro e w2 ⟨rfl, hb⟩; exact ⟨rfl, hw'.chain hb⟩))))
    intro K hK
    go_simp
    refine hK _ ?_
    clear hK K
  refine wpQuiet_nil ?_
  intro w1 hb'
  have hb := hb'.out
  clear hb'
  obtain ⟨s5, c5_0, c5_1, c5_2, c5_3, c5_4, c5_5, f5⟩ := L6 hb (w.heap.size + 1) (by first | omega | (simp only [sA, sC, sD, sE]; omega) | (simp; done) | (simp; omega)) (by go_simp; exact ⟨rfl, rfl, rfl, rfl, rfl, rfl⟩) (by intro o; go_simp)
  clear c3_0 c3_1 c3_2 c3_3 c3_4 c3_5 f3 c4_0 c4_1 c4_2 c4_3 c4_4 c4_5 f4
  go_wp2
  refine bodyPost_ret (v := .tuple #[.string v.t, .agg #[.int .i64 (blankV).k, .int .i64 (blankV).n, .int .i64 (blankV).d, .string (blankV).t, .bool (blankV).b, .int .i64 (blankV).f]]) (by simp [results, Tryz.results65, go_sem, c5_0, c5_1, c5_2, c5_3, c5_4, c5_5]) rfl ⟨rfl, ?_⟩
  focus
    repeat with_reducible first | exact Below.refl _ _ | refine below_drewN ?_ _ | refine Below.drew ?_ | refine Below.setCell ?_ ?_ _ | refine Below.alloc ?_ ?_ _ | refine below_then ?_ ?_ (by with_reducible assumption)
    all_goals first | omega | (simp only [sA, sC, sD, sE]; omega) | (simp; done) | (simp; omega)

theorem value_AsText_text (t : ByteArray) (w : World) (hp : plainT t = true) (hs : t.size ≤ 256) :
    Calls Tryz.prog 65 #[.agg #[.int .i64 (textV t).k, .int .i64 (textV t).n, .int .i64 (textV t).d, .string (textV t).t, .bool (textV t).b, .int .i64 (textV t).f]] w fun e w' => e = .returned (.tuple #[.string t, .agg #[.int .i64 (blankV).k, .int .i64 (blankV).n, .int .i64 (blankV).d, .string (blankV).t, .bool (blankV).b, .int .i64 (blankV).f]]) ∧ Below w.heap.size w w' := by
  have hr : rightV (textV t) = true := by
    unfold rightV
    simp [textV, hp, hs, veq_true.2]
  refine ast_text _ _ _ _ _ _ w (textV t) (Lib.hid fun wx => ?_) rfl
  refine (value_taken _ _ _ _ _ _ wx (right_in hr)).mono ?_
  rintro e w' ⟨rfl, hb⟩
  refine ⟨?_, hb⟩
  have : tkV (textV t) = textV t := tkV_of hr
  show Ending.returned (.agg #[.int .i64 (tkV (textV t)).k, .int .i64 (tkV (textV t)).n, .int .i64 (tkV (textV t)).d, .string (tkV (textV t)).t, .bool (tkV (textV t)).b, .int .i64 (tkV (textV t)).f]) = _
  rw [this]
end Go.Proofs.YtglngfaagjgpjaaGreatDoor
namespace Go.Proofs.YtglngfaagjgpjaaGreatDoor
open Go.RowKit
set_option linter.unusedSimpArgs false
set_option linter.unusedVariables false

set_option maxHeartbeats 400000 in
theorem funcs_taken (k n d : Int) (t : ByteArray) (b : Bool) (f : Int) (w : World) (hx : Vl.In ⟨k, n, d, t, b, f⟩) :
    Calls Tryz.prog 28 #[.agg #[.int .i64 k, .int .i64 n, .int .i64 d, .string t, .bool b, .int .i64 f]] w fun e w' => e = .returned (.agg #[.int .i64 (tkV ⟨k, n, d, t, b, f⟩).k, .int .i64 (tkV ⟨k, n, d, t, b, f⟩).n, .int .i64 (tkV ⟨k, n, d, t, b, f⟩).d, .string (tkV ⟨k, n, d, t, b, f⟩).t, .bool (tkV ⟨k, n, d, t, b, f⟩).b, .int .i64 (tkV ⟨k, n, d, t, b, f⟩).f]) ∧ Below w.heap.size w w' := by
  cases hr : rightV ⟨k, n, d, t, b, f⟩
  · have HF : Hid (tkV ⟨k, n, d, t, b, f⟩ = faultF 2) := by unfold Hid tkV; rw [hr]; rfl
    have HR := Lib.hid hr
    clear hr
    go_enter Tryz.func28, Tryz.ntmps28
    go_wp2_with fail
    refine (value_Right _ _ _ _ _ _ _ hx).mono ?_
    rintro e w1 ⟨rfl, hb⟩
    rw [HR.out]
    have c6 := lcc hb (w.heap.size) (by (first | omega | (simp only [sz_alloc, sz_setCell, sz_drew, sz_drewN]; omega) | (simp; done) | (simp; omega)))
    have f6 := lcf hb (w.heap.size) (by (first | omega | (simp only [sz_alloc, sz_setCell, sz_drew, sz_drewN]; omega) | (simp; done) | (simp; omega)))
    have s6 := lcs hb (w.heap.size) (by (first | omega | (simp only [sz_alloc, sz_setCell, sz_drew, sz_drewN]; omega) | (simp; done) | (simp; omega)))
    have c7 := lcc hb (w.heap.size + 1) (by (first | omega | (simp only [sz_alloc, sz_setCell, sz_drew, sz_drewN]; omega) | (simp; done) | (simp; omega)))
    have f7 := lcf hb (w.heap.size + 1) (by (first | omega | (simp only [sz_alloc, sz_setCell, sz_drew, sz_drewN]; omega) | (simp; done) | (simp; omega)))
    have s7 := lcs hb (w.heap.size + 1) (by (first | omega | (simp only [sz_alloc, sz_setCell, sz_drew, sz_drewN]; omega) | (simp; done) | (simp; omega)))
    go_wp2_with fail
    refine (value_Fault _ _).mono ?_
    rintro e w2 ⟨rfl, hb2⟩
    have c8 := lcc hb2 (w.heap.size + 1) (by (first | omega | (simp only [sz_alloc, sz_setCell, sz_drew, sz_drewN]; omega) | (simp; done) | (simp; omega)))
    have f8 := lcf hb2 (w.heap.size + 1) (by (first | omega | (simp only [sz_alloc, sz_setCell, sz_drew, sz_drewN]; omega) | (simp; done) | (simp; omega)))
    have s8 := lcs hb2 (w.heap.size + 1) (by (first | omega | (simp only [sz_alloc, sz_setCell, sz_drew, sz_drewN]; omega) | (simp; done) | (simp; omega)))
    go_wp2
    refine bodyPost_ret (v := .agg #[.int .i64 (tkV ⟨k, n, d, t, b, f⟩).k, .int .i64 (tkV ⟨k, n, d, t, b, f⟩).n, .int .i64 (tkV ⟨k, n, d, t, b, f⟩).d, .string (tkV ⟨k, n, d, t, b, f⟩).t, .bool (tkV ⟨k, n, d, t, b, f⟩).b, .int .i64 (tkV ⟨k, n, d, t, b, f⟩).f]) (by rw [HF.out]; simp [results, Tryz.results28, go_sem, c6, c7, c8]) rfl ⟨rfl, ?_⟩
    focus
      repeat with_reducible first | exact Below.refl _ _ | refine below_drewN ?_ _ | refine Below.drew ?_ | refine Below.setCell ?_ ?_ _ | refine Below.alloc ?_ ?_ _ | refine below_then ?_ ?_ (by with_reducible assumption)
      all_goals first | omega | (simp only [sA, sC, sD, sE]; omega) | (simp; done) | (simp; omega)
  · have HF : Hid (tkV ⟨k, n, d, t, b, f⟩ = ⟨k, n, d, t, b, f⟩) := by unfold Hid tkV; rw [hr]; rfl
    have HR := Lib.hid hr
    clear hr
    go_enter Tryz.func28, Tryz.ntmps28
    go_wp2_with fail
    refine (value_Right _ _ _ _ _ _ _ hx).mono ?_
    rintro e w1 ⟨rfl, hb⟩
    rw [HR.out]
    have c9 := lcc hb (w.heap.size) (by (first | omega | (simp only [sz_alloc, sz_setCell, sz_drew, sz_drewN]; omega) | (simp; done) | (simp; omega)))
    have f9 := lcf hb (w.heap.size) (by (first | omega | (simp only [sz_alloc, sz_setCell, sz_drew, sz_drewN]; omega) | (simp; done) | (simp; omega)))
    have s9 := lcs hb (w.heap.size) (by (first | omega | (simp only [sz_alloc, sz_setCell, sz_drew, sz_drewN]; omega) | (simp; done) | (simp; omega)))
    have c10 := lcc hb (w.heap.size + 1) (by (first | omega | (simp only [sz_alloc, sz_setCell, sz_drew, sz_drewN]; omega) | (simp; done) | (simp; omega)))
    have f10 := lcf hb (w.heap.size + 1) (by (first | omega | (simp only [sz_alloc, sz_setCell, sz_drew, sz_drewN]; omega) | (simp; done) | (simp; omega)))
    have s10 := lcs hb (w.heap.size + 1) (by (first | omega | (simp only [sz_alloc, sz_setCell, sz_drew, sz_drewN]; omega) | (simp; done) | (simp; omega)))
    go_wp2
    refine bodyPost_ret (v := .agg #[.int .i64 (tkV ⟨k, n, d, t, b, f⟩).k, .int .i64 (tkV ⟨k, n, d, t, b, f⟩).n, .int .i64 (tkV ⟨k, n, d, t, b, f⟩).d, .string (tkV ⟨k, n, d, t, b, f⟩).t, .bool (tkV ⟨k, n, d, t, b, f⟩).b, .int .i64 (tkV ⟨k, n, d, t, b, f⟩).f]) (by rw [HF.out]; simp [results, Tryz.results28, go_sem, c9, c10]) rfl ⟨rfl, ?_⟩
    focus
      repeat with_reducible first | exact Below.refl _ _ | refine below_drewN ?_ _ | refine Below.drew ?_ | refine Below.setCell ?_ ?_ _ | refine Below.alloc ?_ ?_ _ | refine below_then ?_ ?_ (by with_reducible assumption)
      all_goals first | omega | (simp only [sA, sC, sD, sE]; omega) | (simp; done) | (simp; omega)

set_option maxHeartbeats 400000 in
theorem funcs_told (n d : Int) (ok : Bool) (w : World) (hn : I64 n) (hd : I64 d) :
    Calls Tryz.prog 52 #[.agg #[.int .i64 n, .int .i64 d], .bool ok] w fun e w' => e = .returned (.agg #[.int .i64 (toldF n d ok).k, .int .i64 (toldF n d ok).n, .int .i64 (toldF n d ok).d, .string (toldF n d ok).t, .bool (toldF n d ok).b, .int .i64 (toldF n d ok).f]) ∧ Below w.heap.size w w' := by
  cases ok
  · have HF : Hid (toldF n d false = faultF 4) := rfl
    go_enter Tryz.func52, Tryz.ntmps52
    go_wp2_with fail
    refine (value_Fault _ _).mono ?_
    rintro e w1 ⟨rfl, hb⟩
    have c11 := lcc hb (w.heap.size + 1) (by (first | omega | (simp only [sz_alloc, sz_setCell, sz_drew, sz_drewN]; omega) | (simp; done) | (simp; omega)))
    have f11 := lcf hb (w.heap.size + 1) (by (first | omega | (simp only [sz_alloc, sz_setCell, sz_drew, sz_drewN]; omega) | (simp; done) | (simp; omega)))
    have s11 := lcs hb (w.heap.size + 1) (by (first | omega | (simp only [sz_alloc, sz_setCell, sz_drew, sz_drewN]; omega) | (simp; done) | (simp; omega)))
    go_wp2
    refine bodyPost_ret (v := .agg #[.int .i64 (toldF n d false).k, .int .i64 (toldF n d false).n, .int .i64 (toldF n d false).d, .string (toldF n d false).t, .bool (toldF n d false).b, .int .i64 (toldF n d false).f]) (by rw [HF.out]; simp [results, Tryz.results52, go_sem, c11]) rfl ⟨rfl, ?_⟩
    focus
      repeat with_reducible first | exact Below.refl _ _ | refine below_drewN ?_ _ | refine Below.drew ?_ | refine Below.setCell ?_ ?_ _ | refine Below.alloc ?_ ?_ _ | refine below_then ?_ ?_ (by with_reducible assumption)
      all_goals first | omega | (simp only [sA, sC, sD, sE]; omega) | (simp; done) | (simp; omega)
  · have HF : Hid (toldF n d true = numF n d) := rfl
    go_enter Tryz.func52, Tryz.ntmps52
    go_wp2_with fail
    refine (value_Number _ _ _ hn hd).mono ?_
    rintro e w1 ⟨rfl, hb⟩
    have c12 := lcc hb (w.heap.size + 1) (by (first | omega | (simp only [sz_alloc, sz_setCell, sz_drew, sz_drewN]; omega) | (simp; done) | (simp; omega)))
    have f12 := lcf hb (w.heap.size + 1) (by (first | omega | (simp only [sz_alloc, sz_setCell, sz_drew, sz_drewN]; omega) | (simp; done) | (simp; omega)))
    have s12 := lcs hb (w.heap.size + 1) (by (first | omega | (simp only [sz_alloc, sz_setCell, sz_drew, sz_drewN]; omega) | (simp; done) | (simp; omega)))
    go_wp2
    refine bodyPost_ret (v := .agg #[.int .i64 (toldF n d true).k, .int .i64 (toldF n d true).n, .int .i64 (toldF n d true).d, .string (toldF n d true).t, .bool (toldF n d true).b, .int .i64 (toldF n d true).f]) (by rw [HF.out]; simp [results, Tryz.results52, go_sem, c12]) rfl ⟨rfl, ?_⟩
    focus
      repeat with_reducible first | exact Below.refl _ _ | refine below_drewN ?_ _ | refine Below.drew ?_ | refine Below.setCell ?_ ?_ _ | refine Below.alloc ?_ ?_ _ | refine below_then ?_ ?_ (by with_reducible assumption)
      all_goals first | omega | (simp only [sA, sC, sD, sE]; omega) | (simp; done) | (simp; omega)

def wholeF (n : Int) : Vl := toldF (mk n 1).n (mk n 1).d (mk n 1).ok
set_option maxHeartbeats 400000 in
theorem funcs_whole (n : Int) (w : World) (hn : I64 n) :
    Calls Tryz.prog 32 #[.int .i64 n] w fun e w' => e = .returned (.agg #[.int .i64 (wholeF n).k, .int .i64 (wholeF n).n, .int .i64 (wholeF n).d, .string (wholeF n).t, .bool (wholeF n).b, .int .i64 (wholeF n).f]) ∧ Below w.heap.size w w' := by
  have hm := mk_bd n 1
  have HF : Hid (wholeF n = toldF (mk n 1).n (mk n 1).d (mk n 1).ok) := rfl
  go_enter Tryz.func32, Tryz.ntmps32
  go_wp2_with fail
  refine (num_Make _ _ _ hn ⟨by decide, by decide⟩).mono ?_
  rintro e w1 ⟨rfl, hb⟩
  have c13 := lcc hb (w.heap.size) (by (first | omega | (simp only [sz_alloc, sz_setCell, sz_drew, sz_drewN]; omega) | (simp; done) | (simp; omega)))
  have f13 := lcf hb (w.heap.size) (by (first | omega | (simp only [sz_alloc, sz_setCell, sz_drew, sz_drewN]; omega) | (simp; done) | (simp; omega)))
  have s13 := lcs hb (w.heap.size) (by (first | omega | (simp only [sz_alloc, sz_setCell, sz_drew, sz_drewN]; omega) | (simp; done) | (simp; omega)))
  go_wp2_with fail
  refine (funcs_told _ _ _ _ (I64.of hm.1 hm.2.1) (I64.of (by omega) (by omega))).mono ?_
  rintro e w2 ⟨rfl, hb2⟩
  have c14 := lcc hb2 (w.heap.size) (by (first | omega | (simp only [sz_alloc, sz_setCell, sz_drew, sz_drewN]; omega) | (simp; done) | (simp; omega)))
  have f14 := lcf hb2 (w.heap.size) (by (first | omega | (simp only [sz_alloc, sz_setCell, sz_drew, sz_drewN]; omega) | (simp; done) | (simp; omega)))
  have s14 := lcs hb2 (w.heap.size) (by (first | omega | (simp only [sz_alloc, sz_setCell, sz_drew, sz_drewN]; omega) | (simp; done) | (simp; omega)))
  go_wp2
  refine bodyPost_ret (v := .agg #[.int .i64 (wholeF n).k, .int .i64 (wholeF n).n, .int .i64 (wholeF n).d, .string (wholeF n).t, .bool (wholeF n).b, .int .i64 (wholeF n).f]) (by rw [HF.out]; simp [results, Tryz.results32, go_sem, c13, c14]) rfl ⟨rfl, ?_⟩
  focus
    repeat with_reducible first | exact Below.refl _ _ | refine below_drewN ?_ _ | refine Below.drew ?_ | refine Below.setCell ?_ ?_ _ | refine Below.alloc ?_ ?_ _ | refine below_then ?_ ?_ (by with_reducible assumption)
    all_goals first | omega | (simp only [sA, sC, sD, sE]; omega) | (simp; done) | (simp; omega)

set_option maxHeartbeats 400000 in
theorem funcs_asked48 (k n d : Int) (t : ByteArray) (b : Bool) (f : Int) (w : World) :
    Calls Tryz.prog 29 #[.int .i64 48, .agg #[.int .i64 k, .int .i64 n, .int .i64 d, .string t, .bool b, .int .i64 f]] w fun e w' => e = .returned (.tuple #[.bool false, .bool false]) ∧ Below w.heap.size w w' := by
  go_enter Tryz.func29, Tryz.ntmps29
  go_wp2
  go_ret2
  refine ⟨rfl, ?_⟩
  focus
    repeat with_reducible first | exact Below.refl _ _ | refine below_drewN ?_ _ | refine Below.drew ?_ | refine Below.setCell ?_ ?_ _ | refine Below.alloc ?_ ?_ _ | refine below_then ?_ ?_ (by with_reducible assumption)
    all_goals first | omega | (simp only [sA, sC, sD, sE]; omega) | (simp; done) | (simp; omega)
set_option maxHeartbeats 400000 in
theorem funcs_shape48 (w : World) :
    Calls Tryz.prog 34 #[.int .i64 48] w fun e w' => e = .returned (.string ⟨#[115]⟩) ∧ w = w' := by
  go_enter Tryz.func34, Tryz.ntmps34
  go_wp2
  go_ret
  exact ⟨rfl, rfl⟩
set_option maxHeartbeats 400000 in
theorem law_five (w : World) :
    Calls Tryz.prog 38 #[] w fun e w' => e = .returned (.agg #[.int .i64 (numV 5 1).k, .int .i64 (numV 5 1).n, .int .i64 (numV 5 1).d, .string (numV 5 1).t, .bool (numV 5 1).b, .int .i64 (numV 5 1).f]) ∧ Below w.heap.size w w' := by
  go_enter Tryz.func38, Tryz.ntmps38
  go_wp2
  refine bodyPost_ret (v := .agg #[.int .i64 (numV 5 1).k, .int .i64 (numV 5 1).n, .int .i64 (numV 5 1).d, .string (numV 5 1).t, .bool (numV 5 1).b, .int .i64 (numV 5 1).f]) (by simp [results, Tryz.results38, go_sem, numV, noT]) rfl ⟨rfl, ?_⟩
  focus
    repeat with_reducible first | exact Below.refl _ _ | refine below_drewN ?_ _ | refine Below.drew ?_ | refine Below.setCell ?_ ?_ _ | refine Below.alloc ?_ ?_ _ | refine below_then ?_ ?_ (by with_reducible assumption)
    all_goals first | omega | (simp only [sA, sC, sD, sE]; omega) | (simp; done) | (simp; omega)
end Go.Proofs.YtglngfaagjgpjaaGreatDoor
namespace Go.Proofs.YtglngfaagjgpjaaGreatDoor
open Go Go.RowKit
set_option linter.unusedSimpArgs false
set_option linter.unusedVariables false
set_option maxHeartbeats 1000000 in
theorem r2_Text (t : ByteArray) (w : World) (ht : t.size ≤ 140737488351232) :
    Calls Tryz.prog 87 #[.string t] w fun e w' => e = .returned (.agg #[.int .i64 (textF t).k, .int .i64 (textF t).n, .int .i64 (textF t).d, .string (textF t).t, .bool (textF t).b, .int .i64 (textF t).f]) ∧ Below w.heap.size w w' := by
  cases hp : plainT t
  · have HF : Hid (textF t = faultF 2) := by unfold Hid textF; rw [hp]; rfl
    have HP := Lib.hid hp
    clear hp
    generalize textF t = V at *
    go_enter Tryz.func87, Tryz.ntmps87
    go_wp2_with fail
    refine (r2_plain _ _ ht).mono ?_
    rintro e w1 ⟨rfl, rfl⟩
    rw [HP.out]
    go_wp2_with fail
    refine (r2_Fault _ _).mono ?_
    rintro e w2 ⟨rfl, hb⟩
    rw [← HF.out]
    obtain ⟨s1, c1_0, c1_1, c1_2, c1_3, c1_4, c1_5, f1⟩ := L6 hb (w.heap.size) (by first | omega | (simp only [sA, sC, sD, sE]; omega) | (simp; done) | (simp; omega)) (by go_simp; exact ⟨rfl, rfl, rfl, rfl, rfl, rfl⟩) (by intro o; go_simp)
    go_wp2
    refine bodyPost_ret (v := .agg #[.int .i64 (V).k, .int .i64 (V).n, .int .i64 (V).d, .string (V).t, .bool (V).b, .int .i64 (V).f]) (by simp [results, Tryz.results87, go_sem, c1_0, c1_1, c1_2, c1_3, c1_4, c1_5]) rfl ⟨rfl, ?_⟩
    focus
      repeat with_reducible first | exact Below.refl _ _ | refine below_drewN ?_ _ | refine Below.drew ?_ | refine Below.setCell ?_ ?_ _ | refine Below.alloc ?_ ?_ _ | refine below_then ?_ ?_ (by with_reducible assumption)
      all_goals first | omega | (simp only [sA, sC, sD, sE]; omega) | (simp; done) | (simp; omega)
  · by_cases hs : 256 < t.size
    · have HF : Hid (textF t = faultF 7) := by unfold Hid textF; rw [hp, if_pos rfl, if_pos hs]; rfl
      have HP := Lib.hid hp
      clear hp
      generalize textF t = V at *
      go_enter Tryz.func87, Tryz.ntmps87
      go_wp2_with fail
      refine (r2_plain _ _ ht).mono ?_
      rintro e w1 ⟨rfl, rfl⟩
      rw [HP.out]
      go_wp2_with fail
      refine (r2_Fault _ _).mono ?_
      rintro e w2 ⟨rfl, hb⟩
      rw [← HF.out]
      obtain ⟨s2, c2_0, c2_1, c2_2, c2_3, c2_4, c2_5, f2⟩ := L6 hb (w.heap.size) (by first | omega | (simp only [sA, sC, sD, sE]; omega) | (simp; done) | (simp; omega)) (by go_simp; exact ⟨rfl, rfl, rfl, rfl, rfl, rfl⟩) (by intro o; go_simp)
      go_wp2
      refine bodyPost_ret (v := .agg #[.int .i64 (V).k, .int .i64 (V).n, .int .i64 (V).d, .string (V).t, .bool (V).b, .int .i64 (V).f]) (by simp [results, Tryz.results87, go_sem, c2_0, c2_1, c2_2, c2_3, c2_4, c2_5]) rfl ⟨rfl, ?_⟩
      focus
        repeat with_reducible first | exact Below.refl _ _ | refine below_drewN ?_ _ | refine Below.drew ?_ | refine Below.setCell ?_ ?_ _ | refine Below.alloc ?_ ?_ _ | refine below_then ?_ ?_ (by with_reducible assumption)
        all_goals first | omega | (simp only [sA, sC, sD, sE]; omega) | (simp; done) | (simp; omega)
    · have HF : Hid (textF t = textV t) := by unfold Hid textF; rw [hp, if_pos rfl, if_neg hs]
      have HP := Lib.hid hp
      clear hp
      go_enter Tryz.func87, Tryz.ntmps87
      go_wp2_with fail
      refine (r2_plain _ _ ht).mono ?_
      rintro e w1 ⟨rfl, rfl⟩
      rw [HP.out]
      go_wp2
      refine bodyPost_ret (v := .agg #[.int .i64 (textF t).k, .int .i64 (textF t).n, .int .i64 (textF t).d, .string (textF t).t, .bool (textF t).b, .int .i64 (textF t).f]) (by rw [HF.out]; simp [results, Tryz.results87, go_sem, textV]) rfl ⟨rfl, ?_⟩
      focus
        repeat with_reducible first | exact Below.refl _ _ | refine below_drewN ?_ _ | refine Below.drew ?_ | refine Below.setCell ?_ ?_ _ | refine Below.alloc ?_ ?_ _ | refine below_then ?_ ?_ (by with_reducible assumption)
        all_goals first | omega | (simp only [sA, sC, sD, sE]; omega) | (simp; done) | (simp; omega)

set_option maxHeartbeats 400000 in
theorem r2_truth (b : Bool) (w : World) :
    Calls Tryz.prog 153 #[.bool b] w fun e w' => e = .returned (.string (wordT b)) ∧ w = w' := by
  cases b
  all_goals
    go_enter Tryz.func153, Tryz.ntmps153
    go_wp2
    go_ret
    exact ⟨rfl, rfl⟩

set_option maxHeartbeats 400000 in
theorem r2_fitting (n d : Int) (ok : Bool) (w : World) (hn : I64 n) (hd : I64 d) :
    Calls Tryz.prog 163 #[.agg #[.int .i64 n, .int .i64 d], .bool ok] w fun e w' => e = .returned (.agg #[.int .i64 (toldF n d ok).k, .int .i64 (toldF n d ok).n, .int .i64 (toldF n d ok).d, .string (toldF n d ok).t, .bool (toldF n d ok).b, .int .i64 (toldF n d ok).f]) ∧ Below w.heap.size w w' := by
  cases ok
  · have HF : Hid (toldF n d false = faultF 4) := rfl
    generalize toldF n d false = V at *
    go_enter Tryz.func163, Tryz.ntmps163
    go_wp2_with fail
    refine (r2_Fault _ _).mono ?_
    rintro e w1 ⟨rfl, hb⟩
    rw [← HF.out]
    obtain ⟨s3, c3_0, c3_1, c3_2, c3_3, c3_4, c3_5, f3⟩ := L6 hb (w.heap.size + 1) (by first | omega | (simp only [sA, sC, sD, sE]; omega) | (simp; done) | (simp; omega)) (by go_simp; exact ⟨rfl, rfl, rfl, rfl, rfl, rfl⟩) (by intro o; go_simp)
    go_wp2
    refine bodyPost_ret (v := .agg #[.int .i64 (V).k, .int .i64 (V).n, .int .i64 (V).d, .string (V).t, .bool (V).b, .int .i64 (V).f]) (by simp [results, Tryz.results163, go_sem, c3_0, c3_1, c3_2, c3_3, c3_4, c3_5]) rfl ⟨rfl, ?_⟩
    focus
      repeat with_reducible first | exact Below.refl _ _ | refine below_drewN ?_ _ | refine Below.drew ?_ | refine Below.setCell ?_ ?_ _ | refine Below.alloc ?_ ?_ _ | refine below_then ?_ ?_ (by with_reducible assumption)
      all_goals first | omega | (simp only [sA, sC, sD, sE]; omega) | (simp; done) | (simp; omega)
  · have HF : Hid (toldF n d true = numF n d) := rfl
    generalize toldF n d true = V at *
    go_enter Tryz.func163, Tryz.ntmps163
    go_wp2_with fail
    refine (r2_Number _ _ _ hn hd).mono ?_
    rintro e w1 ⟨rfl, hb⟩
    rw [← HF.out]
    obtain ⟨s4, c4_0, c4_1, c4_2, c4_3, c4_4, c4_5, f4⟩ := L6 hb (w.heap.size + 1) (by first | omega | (simp only [sA, sC, sD, sE]; omega) | (simp; done) | (simp; omega)) (by go_simp; exact ⟨rfl, rfl, rfl, rfl, rfl, rfl⟩) (by intro o; go_simp)
    go_wp2
    refine bodyPost_ret (v := .agg #[.int .i64 (V).k, .int .i64 (V).n, .int .i64 (V).d, .string (V).t, .bool (V).b, .int .i64 (V).f]) (by simp [results, Tryz.results163, go_sem, c4_0, c4_1, c4_2, c4_3, c4_4, c4_5]) rfl ⟨rfl, ?_⟩
    focus
      repeat with_reducible first | exact Below.refl _ _ | refine below_drewN ?_ _ | refine Below.drew ?_ | refine Below.setCell ?_ ?_ _ | refine Below.alloc ?_ ?_ _ | refine below_then ?_ ?_ (by with_reducible assumption)
      all_goals first | omega | (simp only [sA, sC, sD, sE]; omega) | (simp; done) | (simp; omega)

set_option maxHeartbeats 400000 in
theorem r7_num (n d : Int) (ok : Bool) (w : World) (hn : I64 n) (hd : I64 d) :
    Calls Tryz.prog 100 #[.agg #[.int .i64 n, .int .i64 d], .bool ok] w fun e w' => e = .returned (.agg #[.int .i64 (toldF n d ok).k, .int .i64 (toldF n d ok).n, .int .i64 (toldF n d ok).d, .string (toldF n d ok).t, .bool (toldF n d ok).b, .int .i64 (toldF n d ok).f]) ∧ Below w.heap.size w w' := by
  cases ok
  · have HF : Hid (toldF n d false = faultF 4) := rfl
    generalize toldF n d false = V at *
    go_enter Tryz.func100, Tryz.ntmps100
    go_wp2_with fail
    refine (r2_Fault _ _).mono ?_
    rintro e w1 ⟨rfl, hb⟩
    rw [← HF.out]
    obtain ⟨s5, c5_0, c5_1, c5_2, c5_3, c5_4, c5_5, f5⟩ := L6 hb (w.heap.size + 1) (by first | omega | (simp only [sA, sC, sD, sE]; omega) | (simp; done) | (simp; omega)) (by go_simp; exact ⟨rfl, rfl, rfl, rfl, rfl, rfl⟩) (by intro o; go_simp)
    go_wp2
    refine bodyPost_ret (v := .agg #[.int .i64 (V).k, .int .i64 (V).n, .int .i64 (V).d, .string (V).t, .bool (V).b, .int .i64 (V).f]) (by simp [results, Tryz.results100, go_sem, c5_0, c5_1, c5_2, c5_3, c5_4, c5_5]) rfl ⟨rfl, ?_⟩
    focus
      repeat with_reducible first | exact Below.refl _ _ | refine below_drewN ?_ _ | refine Below.drew ?_ | refine Below.setCell ?_ ?_ _ | refine Below.alloc ?_ ?_ _ | refine below_then ?_ ?_ (by with_reducible assumption)
      all_goals first | omega | (simp only [sA, sC, sD, sE]; omega) | (simp; done) | (simp; omega)
  · have HF : Hid (toldF n d true = numF n d) := rfl
    generalize toldF n d true = V at *
    go_enter Tryz.func100, Tryz.ntmps100
    go_wp2_with fail
    refine (r2_Number _ _ _ hn hd).mono ?_
    rintro e w1 ⟨rfl, hb⟩
    rw [← HF.out]
    obtain ⟨s6, c6_0, c6_1, c6_2, c6_3, c6_4, c6_5, f6⟩ := L6 hb (w.heap.size + 1) (by first | omega | (simp only [sA, sC, sD, sE]; omega) | (simp; done) | (simp; omega)) (by go_simp; exact ⟨rfl, rfl, rfl, rfl, rfl, rfl⟩) (by intro o; go_simp)
    go_wp2
    refine bodyPost_ret (v := .agg #[.int .i64 (V).k, .int .i64 (V).n, .int .i64 (V).d, .string (V).t, .bool (V).b, .int .i64 (V).f]) (by simp [results, Tryz.results100, go_sem, c6_0, c6_1, c6_2, c6_3, c6_4, c6_5]) rfl ⟨rfl, ?_⟩
    focus
      repeat with_reducible first | exact Below.refl _ _ | refine below_drewN ?_ _ | refine Below.drew ?_ | refine Below.setCell ?_ ?_ _ | refine Below.alloc ?_ ?_ _ | refine below_then ?_ ?_ (by with_reducible assumption)
      all_goals first | omega | (simp only [sA, sC, sD, sE]; omega) | (simp; done) | (simp; omega)

set_option maxHeartbeats 400000 in
theorem r7_whole (n : Int) (w : World) (hn : I64 n) :
    Calls Tryz.prog 94 #[.int .i64 n] w fun e w' => e = .returned (.agg #[.int .i64 (numF n 1).k, .int .i64 (numF n 1).n, .int .i64 (numF n 1).d, .string (numF n 1).t, .bool (numF n 1).b, .int .i64 (numF n 1).f]) ∧ Below w.heap.size w w' := by
  have HN := Lib.hid fun wx => r2_Number n 1 wx hn ⟨by decide, by decide⟩
  generalize numF n 1 = V at *
  go_enter Tryz.func94, Tryz.ntmps94
  go_wp2_with fail
  refine (HN.out _).mono ?_
  rintro e w1 ⟨rfl, hb⟩
  obtain ⟨s7, c7_0, c7_1, c7_2, c7_3, c7_4, c7_5, f7⟩ := L6 hb (w.heap.size) (by first | omega | (simp only [sA, sC, sD, sE]; omega) | (simp; done) | (simp; omega)) (by go_simp; exact ⟨rfl, rfl, rfl, rfl, rfl, rfl⟩) (by intro o; go_simp)
  go_wp2
  refine bodyPost_ret (v := .agg #[.int .i64 (V).k, .int .i64 (V).n, .int .i64 (V).d, .string (V).t, .bool (V).b, .int .i64 (V).f]) (by simp [results, Tryz.results94, go_sem, c7_0, c7_1, c7_2, c7_3, c7_4, c7_5]) rfl ⟨rfl, ?_⟩
  focus
    repeat with_reducible first | exact Below.refl _ _ | refine below_drewN ?_ _ | refine Below.drew ?_ | refine Below.setCell ?_ ?_ _ | refine Below.alloc ?_ ?_ _ | refine below_then ?_ ?_ (by with_reducible assumption)
    all_goals first | omega | (simp only [sA, sC, sD, sE]; omega) | (simp; done) | (simp; omega)

set_option maxHeartbeats 400000 in
theorem r7_arg (w : World) :
    Calls Tryz.prog 98 #[] w fun e w' => e = .returned (.agg #[.int .i64 (faultF 8).k, .int .i64 (faultF 8).n, .int .i64 (faultF 8).d, .string (faultF 8).t, .bool (faultF 8).b, .int .i64 (faultF 8).f]) ∧ Below w.heap.size w w' := by
  have HN := Lib.hid fun wx => r2_Fault 8 wx
  generalize faultF 8 = V at *
  go_enter Tryz.func98, Tryz.ntmps98
  go_wp2_with fail
  refine (HN.out _).mono ?_
  rintro e w1 ⟨rfl, hb⟩
  obtain ⟨s8, c8_0, c8_1, c8_2, c8_3, c8_4, c8_5, f8⟩ := L6 hb (w.heap.size) (by first | omega | (simp only [sA, sC, sD, sE]; omega) | (simp; done) | (simp; omega)) (by go_simp; exact ⟨rfl, rfl, rfl, rfl, rfl, rfl⟩) (by intro o; go_simp)
  go_wp2
  refine bodyPost_ret (v := .agg #[.int .i64 (V).k, .int .i64 (V).n, .int .i64 (V).d, .string (V).t, .bool (V).b, .int .i64 (V).f]) (by simp [results, Tryz.results98, go_sem, c8_0, c8_1, c8_2, c8_3, c8_4, c8_5]) rfl ⟨rfl, ?_⟩
  focus
    repeat with_reducible first | exact Below.refl _ _ | refine below_drewN ?_ _ | refine Below.drew ?_ | refine Below.setCell ?_ ?_ _ | refine Below.alloc ?_ ?_ _ | refine below_then ?_ ?_ (by with_reducible assumption)
    all_goals first | omega | (simp only [sA, sC, sD, sE]; omega) | (simp; done) | (simp; omega)
theorem mk_one {n : Int} (h0 : -1000000000000 ≤ n) (h1 : n ≤ 1000000000000) : mk n 1 = ⟨n, 1, true⟩ := by
  unfold mk
  rw [if_neg (by decide)]
  have hg : Nat.gcd n.natAbs (1 : Int).natAbs = 1 := Nat.gcd_one_right _
  rw [hg, Nat.div_one]
  unfold signed
  rw [if_neg (by simp; omega)]
  by_cases h : n < 0
  · simp [h]; omega
  · simp [h]; omega
theorem mk_one_no {n : Int} (h : 1000000000000 < n ∨ n < -1000000000000) : mk n 1 = badB := by
  unfold mk
  rw [if_neg (by decide)]
  have hg : Nat.gcd n.natAbs (1 : Int).natAbs = 1 := Nat.gcd_one_right _
  rw [hg, Nat.div_one]
  unfold signed
  rw [if_pos (by left; omega)]

set_option maxHeartbeats 400000 in
theorem r7_fitting (n : Int) (w : World) (hn : I64 n) :
    Calls Tryz.prog 102 #[.int .i64 n] w fun e w' => e = .returned (.agg #[.int .i64 (wholeF n).k, .int .i64 (wholeF n).n, .int .i64 (wholeF n).d, .string (wholeF n).t, .bool (wholeF n).b, .int .i64 (wholeF n).f]) ∧ Below w.heap.size w w' := by
  by_cases h1 : 1000000000000 < n ∨ n < -1000000000000
  · have HF : Hid (wholeF n = faultF 4) := by unfold Hid wholeF; rw [mk_one_no h1]; rfl
    have HN := Lib.hid fun wx => r2_Fault 4 wx
    rw [← HF.out] at HN
    clear HF
    generalize wholeF n = V at *
    have hc : 1000000000000 < n ∨ (¬ 1000000000000 < n ∧ n < -1000000000000) := by omega
    clear h1
    rcases hc with h | ⟨h, h2⟩
    all_goals
      go_enter Tryz.func102, Tryz.ntmps102
      go_wp2_with fail
      refine (HN.out _).mono ?_
      rintro e w1 ⟨rfl, hb⟩
      obtain ⟨s9, c9_0, c9_1, c9_2, c9_3, c9_4, c9_5, f9⟩ := L6 hb (w.heap.size) (by first | omega | (simp only [sA, sC, sD, sE]; omega) | (simp; done) | (simp; omega)) (by go_simp; exact ⟨rfl, rfl, rfl, rfl, rfl, rfl⟩) (by intro o; go_simp)
      go_wp2
      refine bodyPost_ret (v := .agg #[.int .i64 (V).k, .int .i64 (V).n, .int .i64 (V).d, .string (V).t, .bool (V).b, .int .i64 (V).f]) (by simp [results, Tryz.results102, go_sem, c9_0, c9_1, c9_2, c9_3, c9_4, c9_5]) rfl ⟨rfl, ?_⟩
      focus
        repeat with_reducible first | exact Below.refl _ _ | refine below_drewN ?_ _ | refine Below.drew ?_ | refine Below.setCell ?_ ?_ _ | refine Below.alloc ?_ ?_ _ | refine below_then ?_ ?_ (by with_reducible assumption)
        all_goals first | omega | (simp only [sA, sC, sD, sE]; omega) | (simp; done) | (simp; omega)
  · have HF : Hid (wholeF n = numF n 1) := by unfold Hid wholeF; rw [mk_one (by omega) (by omega)]; rfl
    have HN := Lib.hid fun wx => r7_whole n wx hn
    rw [← HF.out] at HN
    clear HF
    generalize wholeF n = V at *
    have h2 : ¬ 1000000000000 < n := by omega
    have h3 : ¬ n < -1000000000000 := by omega
    clear h1
    go_enter Tryz.func102, Tryz.ntmps102
    go_wp2_with fail
    refine (HN.out _).mono ?_
    rintro e w1 ⟨rfl, hb⟩
    obtain ⟨s10, c10_0, c10_1, c10_2, c10_3, c10_4, c10_5, f10⟩ := L6 hb (w.heap.size) (by first | omega | (simp only [sA, sC, sD, sE]; omega) | (simp; done) | (simp; omega)) (by go_simp; exact ⟨rfl, rfl, rfl, rfl, rfl, rfl⟩) (by intro o; go_simp)
    go_wp2
    refine bodyPost_ret (v := .agg #[.int .i64 (V).k, .int .i64 (V).n, .int .i64 (V).d, .string (V).t, .bool (V).b, .int .i64 (V).f]) (by simp [results, Tryz.results102, go_sem, c10_0, c10_1, c10_2, c10_3, c10_4, c10_5]) rfl ⟨rfl, ?_⟩
    focus
      repeat with_reducible first | exact Below.refl _ _ | refine below_drewN ?_ _ | refine Below.drew ?_ | refine Below.setCell ?_ ?_ _ | refine Below.alloc ?_ ?_ _ | refine below_then ?_ ?_ (by with_reducible assumption)
      all_goals first | omega | (simp only [sA, sC, sD, sE]; omega) | (simp; done) | (simp; omega)
end Go.Proofs.YtglngfaagjgpjaaGreatDoor
