/- Walks of package value: AsText of a text. -/
import Derived.Test.YtangdbjoflnobaaGreatDoorValC
namespace Go.Proofs.YtangdbjoflnobaaGreatDoor
open Go.RowKit
set_option linter.unusedSimpArgs false
set_option linter.unusedVariables false

set_option maxHeartbeats 1000000 in
theorem ast_text (k n d : Int) (t : ByteArray) (b : Bool) (f : Int) (w : World) (v : Vl) (HT : Hid (∀ wx, Calls Tryz.prog 73 #[.agg #[.int .i64 k, .int .i64 n, .int .i64 d, .string t, .bool b, .int .i64 f]] wx fun e w' => e = .returned (.agg #[.int .i64 (v).k, .int .i64 (v).n, .int .i64 (v).d, .string (v).t, .bool (v).b, .int .i64 (v).f]) ∧ Below wx.heap.size wx w')) (hk : v.k = 2) :
    Calls Tryz.prog 76 #[.agg #[.int .i64 k, .int .i64 n, .int .i64 d, .string t, .bool b, .int .i64 f]] w fun e w' => e = .returned (.tuple #[.string v.t, .agg #[.int .i64 (blankV).k, .int .i64 (blankV).n, .int .i64 (blankV).d, .string (blankV).t, .bool (blankV).b, .int .i64 (blankV).f]]) ∧ Below w.heap.size w w' := by
  have k1 : (v.k == 1) = false := by simp [hk]
  have k3 : (v.k == 3) = false := by simp [hk]
  have k4 : (v.k == 4) = false := by simp [hk]
  clear hk
  go_enter Tryz.func76, Tryz.ntmps76
  go_wp2_with fail
  refine (HT.out _).mono ?_
  rintro e w1 ⟨rfl, hb⟩
  have s1 := lcs hb (w.heap.size) (by (first | omega | (simp only [sz_alloc, sz_setCell, sz_drew, sz_drewN]; omega) | (simp; done) | (simp; omega)))
  have c1_0 := (lcc hb (w.heap.size) (by (first | omega | (simp only [sz_alloc, sz_setCell, sz_drew, sz_drewN]; omega) | (simp; done) | (simp; omega))) 0).trans (by go_simp; exact rfl)
  have c1_1 := (lcc hb (w.heap.size) (by (first | omega | (simp only [sz_alloc, sz_setCell, sz_drew, sz_drewN]; omega) | (simp; done) | (simp; omega))) 1).trans (by go_simp; exact rfl)
  have c1_2 := (lcc hb (w.heap.size) (by (first | omega | (simp only [sz_alloc, sz_setCell, sz_drew, sz_drewN]; omega) | (simp; done) | (simp; omega))) 2).trans (by go_simp; exact rfl)
  have c1_3 := (lcc hb (w.heap.size) (by (first | omega | (simp only [sz_alloc, sz_setCell, sz_drew, sz_drewN]; omega) | (simp; done) | (simp; omega))) 3).trans (by go_simp; exact rfl)
  have c1_4 := (lcc hb (w.heap.size) (by (first | omega | (simp only [sz_alloc, sz_setCell, sz_drew, sz_drewN]; omega) | (simp; done) | (simp; omega))) 4).trans (by go_simp; exact rfl)
  have c1_5 := (lcc hb (w.heap.size) (by (first | omega | (simp only [sz_alloc, sz_setCell, sz_drew, sz_drewN]; omega) | (simp; done) | (simp; omega))) 5).trans (by go_simp; exact rfl)
  have f1 := lcff hb (w.heap.size) (by (first | omega | (simp only [sz_alloc, sz_setCell, sz_drew, sz_drewN]; omega) | (simp; done) | (simp; omega))) (by intro o; go_simp)
  have s2 := lcs hb (w.heap.size + 1) (by (first | omega | (simp only [sz_alloc, sz_setCell, sz_drew, sz_drewN]; omega) | (simp; done) | (simp; omega)))
  have c2_0 := (lcc hb (w.heap.size + 1) (by (first | omega | (simp only [sz_alloc, sz_setCell, sz_drew, sz_drewN]; omega) | (simp; done) | (simp; omega))) 0).trans (by go_simp; exact rfl)
  have c2_1 := (lcc hb (w.heap.size + 1) (by (first | omega | (simp only [sz_alloc, sz_setCell, sz_drew, sz_drewN]; omega) | (simp; done) | (simp; omega))) 1).trans (by go_simp; exact rfl)
  have c2_2 := (lcc hb (w.heap.size + 1) (by (first | omega | (simp only [sz_alloc, sz_setCell, sz_drew, sz_drewN]; omega) | (simp; done) | (simp; omega))) 2).trans (by go_simp; exact rfl)
  have c2_3 := (lcc hb (w.heap.size + 1) (by (first | omega | (simp only [sz_alloc, sz_setCell, sz_drew, sz_drewN]; omega) | (simp; done) | (simp; omega))) 3).trans (by go_simp; exact rfl)
  have c2_4 := (lcc hb (w.heap.size + 1) (by (first | omega | (simp only [sz_alloc, sz_setCell, sz_drew, sz_drewN]; omega) | (simp; done) | (simp; omega))) 4).trans (by go_simp; exact rfl)
  have c2_5 := (lcc hb (w.heap.size + 1) (by (first | omega | (simp only [sz_alloc, sz_setCell, sz_drew, sz_drewN]; omega) | (simp; done) | (simp; omega))) 5).trans (by go_simp; exact rfl)
  have f2 := lcff hb (w.heap.size + 1) (by (first | omega | (simp only [sz_alloc, sz_setCell, sz_drew, sz_drewN]; omega) | (simp; done) | (simp; omega))) (by intro o; go_simp)
  go_upto_region 2 with (fail)
  first | with_reducible refine wp_rebase ?_ | with_reducible refine wpList_rebase ?_
  intro w1 hb'
  have hb := hb'.out
  clear hb'
  have s3 := lcs hb (w.heap.size) (by (first | omega | (simp only [sz_alloc, sz_setCell, sz_drew, sz_drewN]; omega) | (simp; done) | (simp; omega)))
  have c3_0 := (lcc hb (w.heap.size) (by (first | omega | (simp only [sz_alloc, sz_setCell, sz_drew, sz_drewN]; omega) | (simp; done) | (simp; omega))) 0).trans (by go_simp; exact rfl)
  have c3_1 := (lcc hb (w.heap.size) (by (first | omega | (simp only [sz_alloc, sz_setCell, sz_drew, sz_drewN]; omega) | (simp; done) | (simp; omega))) 1).trans (by go_simp; exact rfl)
  have c3_2 := (lcc hb (w.heap.size) (by (first | omega | (simp only [sz_alloc, sz_setCell, sz_drew, sz_drewN]; omega) | (simp; done) | (simp; omega))) 2).trans (by go_simp; exact rfl)
  have c3_3 := (lcc hb (w.heap.size) (by (first | omega | (simp only [sz_alloc, sz_setCell, sz_drew, sz_drewN]; omega) | (simp; done) | (simp; omega))) 3).trans (by go_simp; exact rfl)
  have c3_4 := (lcc hb (w.heap.size) (by (first | omega | (simp only [sz_alloc, sz_setCell, sz_drew, sz_drewN]; omega) | (simp; done) | (simp; omega))) 4).trans (by go_simp; exact rfl)
  have c3_5 := (lcc hb (w.heap.size) (by (first | omega | (simp only [sz_alloc, sz_setCell, sz_drew, sz_drewN]; omega) | (simp; done) | (simp; omega))) 5).trans (by go_simp; exact rfl)
  have f3 := lcff hb (w.heap.size) (by (first | omega | (simp only [sz_alloc, sz_setCell, sz_drew, sz_drewN]; omega) | (simp; done) | (simp; omega))) (by intro o; go_simp)
  have s4 := lcs hb (w.heap.size + 1) (by (first | omega | (simp only [sz_alloc, sz_setCell, sz_drew, sz_drewN]; omega) | (simp; done) | (simp; omega)))
  have c4_0 := (lcc hb (w.heap.size + 1) (by (first | omega | (simp only [sz_alloc, sz_setCell, sz_drew, sz_drewN]; omega) | (simp; done) | (simp; omega))) 0).trans (by go_simp; exact rfl)
  have c4_1 := (lcc hb (w.heap.size + 1) (by (first | omega | (simp only [sz_alloc, sz_setCell, sz_drew, sz_drewN]; omega) | (simp; done) | (simp; omega))) 1).trans (by go_simp; exact rfl)
  have c4_2 := (lcc hb (w.heap.size + 1) (by (first | omega | (simp only [sz_alloc, sz_setCell, sz_drew, sz_drewN]; omega) | (simp; done) | (simp; omega))) 2).trans (by go_simp; exact rfl)
  have c4_3 := (lcc hb (w.heap.size + 1) (by (first | omega | (simp only [sz_alloc, sz_setCell, sz_drew, sz_drewN]; omega) | (simp; done) | (simp; omega))) 3).trans (by go_simp; exact rfl)
  have c4_4 := (lcc hb (w.heap.size + 1) (by (first | omega | (simp only [sz_alloc, sz_setCell, sz_drew, sz_drewN]; omega) | (simp; done) | (simp; omega))) 4).trans (by go_simp; exact rfl)
  have c4_5 := (lcc hb (w.heap.size + 1) (by (first | omega | (simp only [sz_alloc, sz_setCell, sz_drew, sz_drewN]; omega) | (simp; done) | (simp; omega))) 5).trans (by go_simp; exact rfl)
  have f4 := lcff hb (w.heap.size + 1) (by (first | omega | (simp only [sz_alloc, sz_setCell, sz_drew, sz_drewN]; omega) | (simp; done) | (simp; omega))) (by intro o; go_simp)
  clear c1_0 c1_1 c1_2 c1_3 c1_4 c1_5 f1 c2_0 c2_1 c2_2 c2_3 c2_4 c2_5 f2
  go_wp2_with fail
  refine region_below 3 (by kernel_rfl) (by kernel_rfl) ?_
  simp only [List.take_succ_cons, List.take_zero, List.drop_succ_cons, List.drop_zero]
  repeat
    first | (refine q_run ?_ ?_; focus (go_simp; done)) | (refine q_skip ?_ ?_; focus (go_simp; done))
    try (apply Exists.intro; refine ⟨fun w' hw' => ?_, ?_⟩; focus (have hc := (bcell hw'.out).1; unfold Oper.quietAt; go_simp; (try go_ints); (first | rfl | (go_at_call 130; refine (value_Blank _).mono ?_; rintro e w2 ⟨rfl, hb⟩; exact ⟨rfl, hw'.chain hb⟩))))
    intro K hK
    go_simp
    refine hK _ ?_
    clear hK K
  refine wpQuiet_nil ?_
  intro w1 hb'
  have hb := hb'.out
  clear hb'
  have s5 := lcs hb (w.heap.size + 1) (by (first | omega | (simp only [sz_alloc, sz_setCell, sz_drew, sz_drewN]; omega) | (simp; done) | (simp; omega)))
  have c5_0 := (lcc hb (w.heap.size + 1) (by (first | omega | (simp only [sz_alloc, sz_setCell, sz_drew, sz_drewN]; omega) | (simp; done) | (simp; omega))) 0).trans (by go_simp; exact rfl)
  have c5_1 := (lcc hb (w.heap.size + 1) (by (first | omega | (simp only [sz_alloc, sz_setCell, sz_drew, sz_drewN]; omega) | (simp; done) | (simp; omega))) 1).trans (by go_simp; exact rfl)
  have c5_2 := (lcc hb (w.heap.size + 1) (by (first | omega | (simp only [sz_alloc, sz_setCell, sz_drew, sz_drewN]; omega) | (simp; done) | (simp; omega))) 2).trans (by go_simp; exact rfl)
  have c5_3 := (lcc hb (w.heap.size + 1) (by (first | omega | (simp only [sz_alloc, sz_setCell, sz_drew, sz_drewN]; omega) | (simp; done) | (simp; omega))) 3).trans (by go_simp; exact rfl)
  have c5_4 := (lcc hb (w.heap.size + 1) (by (first | omega | (simp only [sz_alloc, sz_setCell, sz_drew, sz_drewN]; omega) | (simp; done) | (simp; omega))) 4).trans (by go_simp; exact rfl)
  have c5_5 := (lcc hb (w.heap.size + 1) (by (first | omega | (simp only [sz_alloc, sz_setCell, sz_drew, sz_drewN]; omega) | (simp; done) | (simp; omega))) 5).trans (by go_simp; exact rfl)
  have f5 := lcff hb (w.heap.size + 1) (by (first | omega | (simp only [sz_alloc, sz_setCell, sz_drew, sz_drewN]; omega) | (simp; done) | (simp; omega))) (by intro o; go_simp)
  clear c3_0 c3_1 c3_2 c3_3 c3_4 c3_5 f3 c4_0 c4_1 c4_2 c4_3 c4_4 c4_5 f4
  go_wp2
  refine bodyPost_ret (v := .tuple #[.string v.t, .agg #[.int .i64 (blankV).k, .int .i64 (blankV).n, .int .i64 (blankV).d, .string (blankV).t, .bool (blankV).b, .int .i64 (blankV).f]]) (by simp [results, Tryz.results76, go_sem, c5_0, c5_1, c5_2, c5_3, c5_4, c5_5]) rfl ⟨rfl, ?_⟩
  repeat (first | with_reducible exact Below.refl _ _ | with_reducible refine below_drewN ?_ _ | with_reducible refine Below.drew ?_ | with_reducible refine Below.setCell ?_ (by (first | omega | (simp only [sz_alloc, sz_setCell, sz_drew, sz_drewN]; omega) | (simp; done) | (simp; omega))) _ | with_reducible refine Below.alloc ?_ (by (first | omega | (simp only [sz_alloc, sz_setCell, sz_drew, sz_drewN]; omega) | (simp; done) | (simp; omega))) _ | with_reducible refine below_then ?_ ?_ (by with_reducible assumption) | (first | omega | (simp only [sz_alloc, sz_setCell, sz_drew, sz_drewN]; omega) | (simp; done) | (simp; omega)))

theorem value_AsText_text (t : ByteArray) (w : World) (hp : plainT t = true) (hs : t.size ≤ 256) :
    Calls Tryz.prog 76 #[.agg #[.int .i64 (textV t).k, .int .i64 (textV t).n, .int .i64 (textV t).d, .string (textV t).t, .bool (textV t).b, .int .i64 (textV t).f]] w fun e w' => e = .returned (.tuple #[.string t, .agg #[.int .i64 (blankV).k, .int .i64 (blankV).n, .int .i64 (blankV).d, .string (blankV).t, .bool (blankV).b, .int .i64 (blankV).f]]) ∧ Below w.heap.size w w' := by
  have hr : rightV (textV t) = true := by
    unfold rightV
    simp [textV, hp, hs, veq_true.2]
  refine ast_text _ _ _ _ _ _ w (textV t) (Lib.hid fun wx => ?_) rfl
  refine (value_taken _ _ _ _ _ _ wx (right_in hr)).mono ?_
  rintro e w' ⟨rfl, hb⟩
  refine ⟨?_, hb⟩
  have : tkV (textV t) = textV t := tkV_of hr
  show Ending.returned (.agg #[.int .i64 (tkV (textV t)).k, .int .i64 (tkV (textV t)).n, .int .i64 (tkV (textV t)).d, .string (tkV (textV t)).t, .bool (tkV (textV t)).b, .int .i64 (tkV (textV t)).f]) = _
  rw [this]
end Go.Proofs.YtangdbjoflnobaaGreatDoor
