/- Walks of package value: AsText of a text. Walks of package funcs: the small functions that Apply calls. -/
import Derived.Test.YtnimenpfojcehaaGreatDoorValC
import Derived.Handy
namespace Go.Proofs.YtnimenpfojcehaaGreatDoor
open Go.RowKit
set_option linter.unusedSimpArgs false
set_option linter.unusedVariables false

set_option maxHeartbeats 1000000 in
theorem ast_text (k n d : Int) (t : ByteArray) (b : Bool) (f : Int) (w : World) (v : Vl) (HT : Hid (∀ wx, Calls Tryz.prog 52 #[.agg #[.int .i64 k, .int .i64 n, .int .i64 d, .string t, .bool b, .int .i64 f]] wx fun e w' => e = .returned (.agg #[.int .i64 (v).k, .int .i64 (v).n, .int .i64 (v).d, .string (v).t, .bool (v).b, .int .i64 (v).f]) ∧ Below wx.heap.size wx w')) (hk : v.k = 2) :
    Calls Tryz.prog 55 #[.agg #[.int .i64 k, .int .i64 n, .int .i64 d, .string t, .bool b, .int .i64 f]] w fun e w' => e = .returned (.tuple #[.string v.t, .agg #[.int .i64 (blankV).k, .int .i64 (blankV).n, .int .i64 (blankV).d, .string (blankV).t, .bool (blankV).b, .int .i64 (blankV).f]]) ∧ Below w.heap.size w w' := by
  have k1 : (v.k == 1) = false := by simp [hk]
  have k3 : (v.k == 3) = false := by simp [hk]
  have k4 : (v.k == 4) = false := by simp [hk]
  clear hk
  go_enter Tryz.func55, Tryz.ntmps55
  go_wp2_with fail
  refine (HT.out _).mono ?_
  rintro e w1 ⟨rfl, hb⟩
  obtain ⟨s1, c1_0, c1_1, c1_2, c1_3, c1_4, c1_5, f1⟩ := L6 hb (w.heap.size) (by first | omega | (simp only [sA, sC, sD, sE]; omega) | (simp; done) | (simp; omega)) (by go_simp; exact ⟨rfl, rfl, rfl, rfl, rfl, rfl⟩) (by intro o; go_simp)
  obtain ⟨s2, c2_0, c2_1, c2_2, c2_3, c2_4, c2_5, f2⟩ := L6 hb (w.heap.size + 1) (by first | omega | (simp only [sA, sC, sD, sE]; omega) | (simp; done) | (simp; omega)) (by go_simp; exact ⟨rfl, rfl, rfl, rfl, rfl, rfl⟩) (by intro o; go_simp)
  go_upto_region 2 with (fail)
  first | with_reducible refine wp_rebase ?_ | with_reducible refine wpList_rebase ?_
  intro w1 hb'
  have hb := hb'.out
  clear hb'
  obtain ⟨s3, c3_0, c3_1, c3_2, c3_3, c3_4, c3_5, f3⟩ := L6 hb (w.heap.size) (by first | omega | (simp only [sA, sC, sD, sE]; omega) | (simp; done) | (simp; omega)) (by go_simp; exact ⟨rfl, rfl, rfl, rfl, rfl, rfl⟩) (by intro o; go_simp)
  obtain ⟨s4, c4_0, c4_1, c4_2, c4_3, c4_4, c4_5, f4⟩ := L6 hb (w.heap.size + 1) (by first | omega | (simp only [sA, sC, sD, sE]; omega) | (simp; done) | (simp; omega)) (by go_simp; exact ⟨rfl, rfl, rfl, rfl, rfl, rfl⟩) (by intro o; go_simp)
  clear c1_0 c1_1 c1_2 c1_3 c1_4 c1_5 f1 c2_0 c2_1 c2_2 c2_3 c2_4 c2_5 f2
  go_wp2_with fail
  refine region_below 3 (by kernel_rfl) (by kernel_rfl) ?_
  simp only [List.take_succ_cons, List.take_zero, List.drop_succ_cons, List.drop_zero]
  repeat
    first | (refine q_run ?_ ?_; focus (go_simp; done)) | (refine q_skip ?_ ?_; focus (go_simp; done))
    try (apply Exists.intro; refine ⟨fun w' hw' => ?_, ?_⟩; focus (have hc := (bcell hw'.out).1; unfold Oper.quietAt; go_simp; (try go_ints); (first | rfl | (go_at_call 77; refine (value_Blank _).mono ?_; rintro e w2 ⟨rfl, hb⟩; exact ⟨rfl, hw'.chain hb⟩))))
    intro K hK
    go_simp
    refine hK _ ?_
    clear hK K
  refine wpQuiet_nil ?_
  intro w1 hb'
  have hb := hb'.out
  clear hb'
  obtain ⟨s5, c5_0, c5_1, c5_2, c5_3, c5_4, c5_5, f5⟩ := L6 hb (w.heap.size + 1) (by first | omega | (simp only [sA, sC, sD, sE]; omega) | (simp; done) | (simp; omega)) (by go_simp; exact ⟨rfl, rfl, rfl, rfl, rfl, rfl⟩) (by intro o; go_simp)
  clear c3_0 c3_1 c3_2 c3_3 c3_4 c3_5 f3 c4_0 c4_1 c4_2 c4_3 c4_4 c4_5 f4
  go_wp2
  refine bodyPost_ret (v := .tuple #[.string v.t, .agg #[.int .i64 (blankV).k, .int .i64 (blankV).n, .int .i64 (blankV).d, .string (blankV).t, .bool (blankV).b, .int .i64 (blankV).f]]) (by simp [results, Tryz.results55, go_sem, c5_0, c5_1, c5_2, c5_3, c5_4, c5_5]) rfl ⟨rfl, ?_⟩
  focus
    repeat with_reducible first | exact Below.refl _ _ | refine below_drewN ?_ _ | refine Below.drew ?_ | refine Below.setCell ?_ ?_ _ | refine Below.alloc ?_ ?_ _ | refine below_then ?_ ?_ (by with_reducible assumption)
    all_goals first | omega | (simp only [sA, sC, sD, sE]; omega) | (simp; done) | (simp; omega)

theorem value_AsText_text (t : ByteArray) (w : World) (hp : plainT t = true) (hs : t.size ≤ 256) :
    Calls Tryz.prog 55 #[.agg #[.int .i64 (textV t).k, .int .i64 (textV t).n, .int .i64 (textV t).d, .string (textV t).t, .bool (textV t).b, .int .i64 (textV t).f]] w fun e w' => e = .returned (.tuple #[.string t, .agg #[.int .i64 (blankV).k, .int .i64 (blankV).n, .int .i64 (blankV).d, .string (blankV).t, .bool (blankV).b, .int .i64 (blankV).f]]) ∧ Below w.heap.size w w' := by
  have hr : rightV (textV t) = true := by
    unfold rightV
    simp [textV, hp, hs, veq_true.2]
  refine ast_text _ _ _ _ _ _ w (textV t) (Lib.hid fun wx => ?_) rfl
  refine (value_taken _ _ _ _ _ _ wx (right_in hr)).mono ?_
  rintro e w' ⟨rfl, hb⟩
  refine ⟨?_, hb⟩
  have : tkV (textV t) = textV t := tkV_of hr
  show Ending.returned (.agg #[.int .i64 (tkV (textV t)).k, .int .i64 (tkV (textV t)).n, .int .i64 (tkV (textV t)).d, .string (tkV (textV t)).t, .bool (tkV (textV t)).b, .int .i64 (tkV (textV t)).f]) = _
  rw [this]
end Go.Proofs.YtnimenpfojcehaaGreatDoor
namespace Go.Proofs.YtnimenpfojcehaaGreatDoor
open Go.RowKit
set_option linter.unusedSimpArgs false
set_option linter.unusedVariables false

set_option maxHeartbeats 400000 in
theorem funcs_taken (k n d : Int) (t : ByteArray) (b : Bool) (f : Int) (w : World) (hx : Vl.In ⟨k, n, d, t, b, f⟩) :
    Calls Tryz.prog 27 #[.agg #[.int .i64 k, .int .i64 n, .int .i64 d, .string t, .bool b, .int .i64 f]] w fun e w' => e = .returned (.agg #[.int .i64 (tkV ⟨k, n, d, t, b, f⟩).k, .int .i64 (tkV ⟨k, n, d, t, b, f⟩).n, .int .i64 (tkV ⟨k, n, d, t, b, f⟩).d, .string (tkV ⟨k, n, d, t, b, f⟩).t, .bool (tkV ⟨k, n, d, t, b, f⟩).b, .int .i64 (tkV ⟨k, n, d, t, b, f⟩).f]) ∧ Below w.heap.size w w' := by
  cases hr : rightV ⟨k, n, d, t, b, f⟩
  · have HF : Hid (tkV ⟨k, n, d, t, b, f⟩ = faultF 2) := by unfold Hid tkV; rw [hr]; rfl
    have HR := Lib.hid hr
    clear hr
    go_enter Tryz.func27, Tryz.ntmps27
    go_wp2_with fail
    refine (value_Right _ _ _ _ _ _ _ hx).mono ?_
    rintro e w1 ⟨rfl, hb⟩
    rw [HR.out]
    have c6 := lcc hb (w.heap.size) (by (first | omega | (simp only [sz_alloc, sz_setCell, sz_drew, sz_drewN]; omega) | (simp; done) | (simp; omega)))
    have f6 := lcf hb (w.heap.size) (by (first | omega | (simp only [sz_alloc, sz_setCell, sz_drew, sz_drewN]; omega) | (simp; done) | (simp; omega)))
    have s6 := lcs hb (w.heap.size) (by (first | omega | (simp only [sz_alloc, sz_setCell, sz_drew, sz_drewN]; omega) | (simp; done) | (simp; omega)))
    have c7 := lcc hb (w.heap.size + 1) (by (first | omega | (simp only [sz_alloc, sz_setCell, sz_drew, sz_drewN]; omega) | (simp; done) | (simp; omega)))
    have f7 := lcf hb (w.heap.size + 1) (by (first | omega | (simp only [sz_alloc, sz_setCell, sz_drew, sz_drewN]; omega) | (simp; done) | (simp; omega)))
    have s7 := lcs hb (w.heap.size + 1) (by (first | omega | (simp only [sz_alloc, sz_setCell, sz_drew, sz_drewN]; omega) | (simp; done) | (simp; omega)))
    go_wp2_with fail
    refine (value_Fault _ _).mono ?_
    rintro e w2 ⟨rfl, hb2⟩
    have c8 := lcc hb2 (w.heap.size + 1) (by (first | omega | (simp only [sz_alloc, sz_setCell, sz_drew, sz_drewN]; omega) | (simp; done) | (simp; omega)))
    have f8 := lcf hb2 (w.heap.size + 1) (by (first | omega | (simp only [sz_alloc, sz_setCell, sz_drew, sz_drewN]; omega) | (simp; done) | (simp; omega)))
    have s8 := lcs hb2 (w.heap.size + 1) (by (first | omega | (simp only [sz_alloc, sz_setCell, sz_drew, sz_drewN]; omega) | (simp; done) | (simp; omega)))
    go_wp2
    refine bodyPost_ret (v := .agg #[.int .i64 (tkV ⟨k, n, d, t, b, f⟩).k, .int .i64 (tkV ⟨k, n, d, t, b, f⟩).n, .int .i64 (tkV ⟨k, n, d, t, b, f⟩).d, .string (tkV ⟨k, n, d, t, b, f⟩).t, .bool (tkV ⟨k, n, d, t, b, f⟩).b, .int .i64 (tkV ⟨k, n, d, t, b, f⟩).f]) (by rw [HF.out]; simp [results, Tryz.results27, go_sem, c6, c7, c8]) rfl ⟨rfl, ?_⟩
    focus
      repeat with_reducible first | exact Below.refl _ _ | refine below_drewN ?_ _ | refine Below.drew ?_ | refine Below.setCell ?_ ?_ _ | refine Below.alloc ?_ ?_ _ | refine below_then ?_ ?_ (by with_reducible assumption)
      all_goals first | omega | (simp only [sA, sC, sD, sE]; omega) | (simp; done) | (simp; omega)
  · have HF : Hid (tkV ⟨k, n, d, t, b, f⟩ = ⟨k, n, d, t, b, f⟩) := by unfold Hid tkV; rw [hr]; rfl
    have HR := Lib.hid hr
    clear hr
    go_enter Tryz.func27, Tryz.ntmps27
    go_wp2_with fail
    refine (value_Right _ _ _ _ _ _ _ hx).mono ?_
    rintro e w1 ⟨rfl, hb⟩
    rw [HR.out]
    have c9 := lcc hb (w.heap.size) (by (first | omega | (simp only [sz_alloc, sz_setCell, sz_drew, sz_drewN]; omega) | (simp; done) | (simp; omega)))
    have f9 := lcf hb (w.heap.size) (by (first | omega | (simp only [sz_alloc, sz_setCell, sz_drew, sz_drewN]; omega) | (simp; done) | (simp; omega)))
    have s9 := lcs hb (w.heap.size) (by (first | omega | (simp only [sz_alloc, sz_setCell, sz_drew, sz_drewN]; omega) | (simp; done) | (simp; omega)))
    have c10 := lcc hb (w.heap.size + 1) (by (first | omega | (simp only [sz_alloc, sz_setCell, sz_drew, sz_drewN]; omega) | (simp; done) | (simp; omega)))
    have f10 := lcf hb (w.heap.size + 1) (by (first | omega | (simp only [sz_alloc, sz_setCell, sz_drew, sz_drewN]; omega) | (simp; done) | (simp; omega)))
    have s10 := lcs hb (w.heap.size + 1) (by (first | omega | (simp only [sz_alloc, sz_setCell, sz_drew, sz_drewN]; omega) | (simp; done) | (simp; omega)))
    go_wp2
    refine bodyPost_ret (v := .agg #[.int .i64 (tkV ⟨k, n, d, t, b, f⟩).k, .int .i64 (tkV ⟨k, n, d, t, b, f⟩).n, .int .i64 (tkV ⟨k, n, d, t, b, f⟩).d, .string (tkV ⟨k, n, d, t, b, f⟩).t, .bool (tkV ⟨k, n, d, t, b, f⟩).b, .int .i64 (tkV ⟨k, n, d, t, b, f⟩).f]) (by rw [HF.out]; simp [results, Tryz.results27, go_sem, c9, c10]) rfl ⟨rfl, ?_⟩
    focus
      repeat with_reducible first | exact Below.refl _ _ | refine below_drewN ?_ _ | refine Below.drew ?_ | refine Below.setCell ?_ ?_ _ | refine Below.alloc ?_ ?_ _ | refine below_then ?_ ?_ (by with_reducible assumption)
      all_goals first | omega | (simp only [sA, sC, sD, sE]; omega) | (simp; done) | (simp; omega)

set_option maxHeartbeats 400000 in
theorem funcs_told (n d : Int) (ok : Bool) (w : World) (hn : I64 n) (hd : I64 d) :
    Calls Tryz.prog 29 #[.agg #[.int .i64 n, .int .i64 d], .bool ok] w fun e w' => e = .returned (.agg #[.int .i64 (toldF n d ok).k, .int .i64 (toldF n d ok).n, .int .i64 (toldF n d ok).d, .string (toldF n d ok).t, .bool (toldF n d ok).b, .int .i64 (toldF n d ok).f]) ∧ Below w.heap.size w w' := by
  cases ok
  · have HF : Hid (toldF n d false = faultF 4) := rfl
    go_enter Tryz.func29, Tryz.ntmps29
    go_wp2_with fail
    refine (value_Fault _ _).mono ?_
    rintro e w1 ⟨rfl, hb⟩
    have c11 := lcc hb (w.heap.size + 1) (by (first | omega | (simp only [sz_alloc, sz_setCell, sz_drew, sz_drewN]; omega) | (simp; done) | (simp; omega)))
    have f11 := lcf hb (w.heap.size + 1) (by (first | omega | (simp only [sz_alloc, sz_setCell, sz_drew, sz_drewN]; omega) | (simp; done) | (simp; omega)))
    have s11 := lcs hb (w.heap.size + 1) (by (first | omega | (simp only [sz_alloc, sz_setCell, sz_drew, sz_drewN]; omega) | (simp; done) | (simp; omega)))
    go_wp2
    refine bodyPost_ret (v := .agg #[.int .i64 (toldF n d false).k, .int .i64 (toldF n d false).n, .int .i64 (toldF n d false).d, .string (toldF n d false).t, .bool (toldF n d false).b, .int .i64 (toldF n d false).f]) (by rw [HF.out]; simp [results, Tryz.results29, go_sem, c11]) rfl ⟨rfl, ?_⟩
    focus
      repeat with_reducible first | exact Below.refl _ _ | refine below_drewN ?_ _ | refine Below.drew ?_ | refine Below.setCell ?_ ?_ _ | refine Below.alloc ?_ ?_ _ | refine below_then ?_ ?_ (by with_reducible assumption)
      all_goals first | omega | (simp only [sA, sC, sD, sE]; omega) | (simp; done) | (simp; omega)
  · have HF : Hid (toldF n d true = numF n d) := rfl
    go_enter Tryz.func29, Tryz.ntmps29
    go_wp2_with fail
    refine (value_Number _ _ _ hn hd).mono ?_
    rintro e w1 ⟨rfl, hb⟩
    have c12 := lcc hb (w.heap.size + 1) (by (first | omega | (simp only [sz_alloc, sz_setCell, sz_drew, sz_drewN]; omega) | (simp; done) | (simp; omega)))
    have f12 := lcf hb (w.heap.size + 1) (by (first | omega | (simp only [sz_alloc, sz_setCell, sz_drew, sz_drewN]; omega) | (simp; done) | (simp; omega)))
    have s12 := lcs hb (w.heap.size + 1) (by (first | omega | (simp only [sz_alloc, sz_setCell, sz_drew, sz_drewN]; omega) | (simp; done) | (simp; omega)))
    go_wp2
    refine bodyPost_ret (v := .agg #[.int .i64 (toldF n d true).k, .int .i64 (toldF n d true).n, .int .i64 (toldF n d true).d, .string (toldF n d true).t, .bool (toldF n d true).b, .int .i64 (toldF n d true).f]) (by rw [HF.out]; simp [results, Tryz.results29, go_sem, c12]) rfl ⟨rfl, ?_⟩
    focus
      repeat with_reducible first | exact Below.refl _ _ | refine below_drewN ?_ _ | refine Below.drew ?_ | refine Below.setCell ?_ ?_ _ | refine Below.alloc ?_ ?_ _ | refine below_then ?_ ?_ (by with_reducible assumption)
      all_goals first | omega | (simp only [sA, sC, sD, sE]; omega) | (simp; done) | (simp; omega)

def wholeF (n : Int) : Vl := toldF (mk n 1).n (mk n 1).d (mk n 1).ok
set_option maxHeartbeats 400000 in
theorem funcs_whole (n : Int) (w : World) (hn : I64 n) :
    Calls Tryz.prog 38 #[.int .i64 n] w fun e w' => e = .returned (.agg #[.int .i64 (wholeF n).k, .int .i64 (wholeF n).n, .int .i64 (wholeF n).d, .string (wholeF n).t, .bool (wholeF n).b, .int .i64 (wholeF n).f]) ∧ Below w.heap.size w w' := by
  have hm := mk_bd n 1
  have HF : Hid (wholeF n = toldF (mk n 1).n (mk n 1).d (mk n 1).ok) := rfl
  go_enter Tryz.func38, Tryz.ntmps38
  go_wp2_with fail
  refine (num_Make _ _ _ hn ⟨by decide, by decide⟩).mono ?_
  rintro e w1 ⟨rfl, hb⟩
  have c13 := lcc hb (w.heap.size) (by (first | omega | (simp only [sz_alloc, sz_setCell, sz_drew, sz_drewN]; omega) | (simp; done) | (simp; omega)))
  have f13 := lcf hb (w.heap.size) (by (first | omega | (simp only [sz_alloc, sz_setCell, sz_drew, sz_drewN]; omega) | (simp; done) | (simp; omega)))
  have s13 := lcs hb (w.heap.size) (by (first | omega | (simp only [sz_alloc, sz_setCell, sz_drew, sz_drewN]; omega) | (simp; done) | (simp; omega)))
  go_wp2_with fail
  refine (funcs_told _ _ _ _ (I64.of hm.1 hm.2.1) (I64.of (by omega) (by omega))).mono ?_
  rintro e w2 ⟨rfl, hb2⟩
  have c14 := lcc hb2 (w.heap.size) (by (first | omega | (simp only [sz_alloc, sz_setCell, sz_drew, sz_drewN]; omega) | (simp; done) | (simp; omega)))
  have f14 := lcf hb2 (w.heap.size) (by (first | omega | (simp only [sz_alloc, sz_setCell, sz_drew, sz_drewN]; omega) | (simp; done) | (simp; omega)))
  have s14 := lcs hb2 (w.heap.size) (by (first | omega | (simp only [sz_alloc, sz_setCell, sz_drew, sz_drewN]; omega) | (simp; done) | (simp; omega)))
  go_wp2
  refine bodyPost_ret (v := .agg #[.int .i64 (wholeF n).k, .int .i64 (wholeF n).n, .int .i64 (wholeF n).d, .string (wholeF n).t, .bool (wholeF n).b, .int .i64 (wholeF n).f]) (by rw [HF.out]; simp [results, Tryz.results38, go_sem, c13, c14]) rfl ⟨rfl, ?_⟩
  focus
    repeat with_reducible first | exact Below.refl _ _ | refine below_drewN ?_ _ | refine Below.drew ?_ | refine Below.setCell ?_ ?_ _ | refine Below.alloc ?_ ?_ _ | refine below_then ?_ ?_ (by with_reducible assumption)
    all_goals first | omega | (simp only [sA, sC, sD, sE]; omega) | (simp; done) | (simp; omega)

set_option maxHeartbeats 400000 in
theorem funcs_asked48 (k n d : Int) (t : ByteArray) (b : Bool) (f : Int) (w : World) :
    Calls Tryz.prog 35 #[.int .i64 48, .agg #[.int .i64 k, .int .i64 n, .int .i64 d, .string t, .bool b, .int .i64 f]] w fun e w' => e = .returned (.tuple #[.bool false, .bool false]) ∧ Below w.heap.size w w' := by
  go_enter Tryz.func35, Tryz.ntmps35
  go_wp2
  go_ret2
  refine ⟨rfl, ?_⟩
  focus
    repeat with_reducible first | exact Below.refl _ _ | refine below_drewN ?_ _ | refine Below.drew ?_ | refine Below.setCell ?_ ?_ _ | refine Below.alloc ?_ ?_ _ | refine below_then ?_ ?_ (by with_reducible assumption)
    all_goals first | omega | (simp only [sA, sC, sD, sE]; omega) | (simp; done) | (simp; omega)
set_option maxHeartbeats 400000 in
theorem funcs_shape48 (w : World) :
    Calls Tryz.prog 40 #[.int .i64 48] w fun e w' => e = .returned (.string ⟨#[115]⟩) ∧ w = w' := by
  go_enter Tryz.func40, Tryz.ntmps40
  go_wp2
  go_ret
  exact ⟨rfl, rfl⟩
set_option maxHeartbeats 400000 in
theorem law_five (w : World) :
    Calls Tryz.prog 21 #[] w fun e w' => e = .returned (.agg #[.int .i64 (numV 5 1).k, .int .i64 (numV 5 1).n, .int .i64 (numV 5 1).d, .string (numV 5 1).t, .bool (numV 5 1).b, .int .i64 (numV 5 1).f]) ∧ Below w.heap.size w w' := by
  go_enter Tryz.func21, Tryz.ntmps21
  go_wp2
  refine bodyPost_ret (v := .agg #[.int .i64 (numV 5 1).k, .int .i64 (numV 5 1).n, .int .i64 (numV 5 1).d, .string (numV 5 1).t, .bool (numV 5 1).b, .int .i64 (numV 5 1).f]) (by simp [results, Tryz.results21, go_sem, numV, noT]) rfl ⟨rfl, ?_⟩
  focus
    repeat with_reducible first | exact Below.refl _ _ | refine below_drewN ?_ _ | refine Below.drew ?_ | refine Below.setCell ?_ ?_ _ | refine Below.alloc ?_ ?_ _ | refine below_then ?_ ?_ (by with_reducible assumption)
    all_goals first | omega | (simp only [sA, sC, sD, sE]; omega) | (simp; done) | (simp; omega)
end Go.Proofs.YtnimenpfojcehaaGreatDoor
