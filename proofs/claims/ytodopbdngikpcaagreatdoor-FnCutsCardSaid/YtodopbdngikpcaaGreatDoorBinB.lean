/- Walks of package value: reckon at the power; Bin at the power and at the join, of any values that are no faults. -/
import Derived.Test.YtodopbdngikpcaaGreatDoorTold
import Derived.Test.YtodopbdngikpcaaGreatDoorVTA
import Derived.Test.YtodopbdngikpcaaGreatDoorVX
import Derived.Test.YtodopbdngikpcaaGreatDoorNumP
namespace Go.Proofs.YtodopbdngikpcaaGreatDoor
open Go Go.RowKit
set_option linter.unusedSimpArgs false
set_option linter.unusedVariables false

theorem powN_bd (n d k : Int) : -1000000000000 ≤ (powN n d k).n ∧ (powN n d k).n ≤ 1000000000000 ∧ 0 ≤ (powN n d k).d ∧ (powN n d k).d ≤ 1000000 := by
  have hb := tk_bd n d
  unfold powN
  repeat' split
  all_goals simp only [badB]
  all_goals omega
/-- A power as a value. -/
def powV (n d m e : Int) : Vl := if n = 0 ∧ m < 0 then faultF 1 else if wholeB m e then toldB (powN n d (wholeN m e)) else faultF 4

theorem wholeN_i64 (m e : Int) : I64 (wholeN m e) := by
  have := tk_bd m e
  unfold wholeN
  split
  · exact ⟨by omega, by omega⟩
  · exact ⟨by decide, by decide⟩
set_option maxHeartbeats 1000000 in
theorem value_reckon15 (n d m e : Int) (w : World) (hn : I64 n) (hd : I64 d) (hm : I64 m) (he : I64 e) :
    Calls Tryz.prog 71 #[.int .i64 15, .agg #[.int .i64 n, .int .i64 d], .agg #[.int .i64 m, .int .i64 e]] w fun e' w' => e' = .returned (.agg #[.int .i64 (powV n d m e).k, .int .i64 (powV n d m e).n, .int .i64 (powV n d m e).d, .string (powV n d m e).t, .bool (powV n d m e).b, .int .i64 (powV n d m e).f]) ∧ Below w.heap.size w w' := by
  by_cases h0 : n = 0 ∧ m < 0
  · have HF : Hid (powV n d m e = faultF 1) := by unfold Hid powV; rw [if_pos h0]
    have k0 : (n == 0) = true := by simp [h0.1]
    have k1 := h0.2
    generalize powV n d m e = Q at *
    clear h0 hn hd hm he
    go_enter Tryz.func71, Tryz.ntmps71
    go_wp2_with fail
    refine (value_Fault _ _).mono ?_
    rintro e' w1 ⟨rfl, hb⟩
    have s1 := lcs hb (w.heap.size + 1 + 1) (by (first | omega | (simp only [sz_alloc, sz_setCell, sz_drew, sz_drewN]; omega) | (simp; done) | (simp; omega)))
    have c1_0 := (lcc hb (w.heap.size + 1 + 1) (by (first | omega | (simp only [sz_alloc, sz_setCell, sz_drew, sz_drewN]; omega) | (simp; done) | (simp; omega))) 0).trans (by go_simp; exact rfl)
    have c1_1 := (lcc hb (w.heap.size + 1 + 1) (by (first | omega | (simp only [sz_alloc, sz_setCell, sz_drew, sz_drewN]; omega) | (simp; done) | (simp; omega))) 1).trans (by go_simp; exact rfl)
    have c1_2 := (lcc hb (w.heap.size + 1 + 1) (by (first | omega | (simp only [sz_alloc, sz_setCell, sz_drew, sz_drewN]; omega) | (simp; done) | (simp; omega))) 2).trans (by go_simp; exact rfl)
    have c1_3 := (lcc hb (w.heap.size + 1 + 1) (by (first | omega | (simp only [sz_alloc, sz_setCell, sz_drew, sz_drewN]; omega) | (simp; done) | (simp; omega))) 3).trans (by go_simp; exact rfl)
    have c1_4 := (lcc hb (w.heap.size + 1 + 1) (by (first | omega | (simp only [sz_alloc, sz_setCell, sz_drew, sz_drewN]; omega) | (simp; done) | (simp; omega))) 4).trans (by go_simp; exact rfl)
    have c1_5 := (lcc hb (w.heap.size + 1 + 1) (by (first | omega | (simp only [sz_alloc, sz_setCell, sz_drew, sz_drewN]; omega) | (simp; done) | (simp; omega))) 5).trans (by go_simp; exact rfl)
    have f1 := lcff hb (w.heap.size + 1 + 1) (by (first | omega | (simp only [sz_alloc, sz_setCell, sz_drew, sz_drewN]; omega) | (simp; done) | (simp; omega))) (by intro o; go_simp)
    go_wp2
    refine bodyPost_ret (v := .agg #[.int .i64 (Q).k, .int .i64 (Q).n, .int .i64 (Q).d, .string (Q).t, .bool (Q).b, .int .i64 (Q).f]) (by rw [HF.out]; simp [results, Tryz.results71, go_sem, c1_0, c1_1, c1_2, c1_3, c1_4, c1_5]) rfl ⟨rfl, ?_⟩
    repeat (first | with_reducible exact Below.refl _ _ | with_reducible refine below_drewN ?_ _ | with_reducible refine Below.drew ?_ | with_reducible refine Below.setCell ?_ (by (first | omega | (simp only [sz_alloc, sz_setCell, sz_drew, sz_drewN]; omega) | (simp; done) | (simp; omega))) _ | with_reducible refine Below.alloc ?_ (by (first | omega | (simp only [sz_alloc, sz_setCell, sz_drew, sz_drewN]; omega) | (simp; done) | (simp; omega))) _ | with_reducible refine below_then ?_ ?_ (by with_reducible assumption) | (first | omega | (simp only [sz_alloc, sz_setCell, sz_drew, sz_drewN]; omega) | (simp; done) | (simp; omega)))
  have hc : (n == 0) = false ∨ ((n == 0) = true ∧ ¬ m < 0) := by
    by_cases h : n = 0
    · exact .inr ⟨by simp [h], fun h' => h0 ⟨h, h'⟩⟩
    · exact .inl (by simp [h])
  have HW := Lib.hid fun wx => num_Whole m e wx hm he
  have hbd := powN_bd n d (wholeN m e)
  have HA := Lib.hid fun wx => num_Pow n d (wholeN m e) wx hn hd (wholeN_i64 m e)
  have HT := Lib.hid fun wx => value_told (powN n d (wholeN m e)).n (powN n d (wholeN m e)).d (powN n d (wholeN m e)).ok wx (I64.of hbd.1 hbd.2.1) (I64.of (by omega) (by omega))
  have HF : powV n d m e = if wholeB m e then toldF (powN n d (wholeN m e)).n (powN n d (wholeN m e)).d (powN n d (wholeN m e)).ok else faultF 4 := by unfold powV; rw [if_neg h0]; rfl
  generalize powN n d (wholeN m e) = R at *
  generalize wholeN m e = k at *
  generalize powV n d m e = Q at *
  clear hbd hn hd hm he h0
  cases hw : wholeB m e
  · rw [hw] at HW HF
    replace HF := Lib.hid HF
    clear hw
    rcases hc with c1 | ⟨c1, c2⟩
    all_goals
      go_enter Tryz.func71, Tryz.ntmps71
      go_wp2_with fail
      refine (HW.out _).mono ?_
      rintro e' w1 ⟨rfl, hb⟩
      have s2 := lcs hb (w.heap.size) (by (first | omega | (simp only [sz_alloc, sz_setCell, sz_drew, sz_drewN]; omega) | (simp; done) | (simp; omega)))
      have c2_0 := (lcc hb (w.heap.size) (by (first | omega | (simp only [sz_alloc, sz_setCell, sz_drew, sz_drewN]; omega) | (simp; done) | (simp; omega))) 0).trans (by go_simp; exact rfl)
      have c2_1 := (lcc hb (w.heap.size) (by (first | omega | (simp only [sz_alloc, sz_setCell, sz_drew, sz_drewN]; omega) | (simp; done) | (simp; omega))) 1).trans (by go_simp; exact rfl)
      have f2 := lcff hb (w.heap.size) (by (first | omega | (simp only [sz_alloc, sz_setCell, sz_drew, sz_drewN]; omega) | (simp; done) | (simp; omega))) (by intro o; go_simp)
      have s3 := lcs hb (w.heap.size + 1) (by (first | omega | (simp only [sz_alloc, sz_setCell, sz_drew, sz_drewN]; omega) | (simp; done) | (simp; omega)))
      have c3_0 := (lcc hb (w.heap.size + 1) (by (first | omega | (simp only [sz_alloc, sz_setCell, sz_drew, sz_drewN]; omega) | (simp; done) | (simp; omega))) 0).trans (by go_simp; exact rfl)
      have c3_1 := (lcc hb (w.heap.size + 1) (by (first | omega | (simp only [sz_alloc, sz_setCell, sz_drew, sz_drewN]; omega) | (simp; done) | (simp; omega))) 1).trans (by go_simp; exact rfl)
      have f3 := lcff hb (w.heap.size + 1) (by (first | omega | (simp only [sz_alloc, sz_setCell, sz_drew, sz_drewN]; omega) | (simp; done) | (simp; omega))) (by intro o; go_simp)
      have s4 := lcs hb (w.heap.size + 1 + 1) (by (first | omega | (simp only [sz_alloc, sz_setCell, sz_drew, sz_drewN]; omega) | (simp; done) | (simp; omega)))
      have c4_0 := (lcc hb (w.heap.size + 1 + 1) (by (first | omega | (simp only [sz_alloc, sz_setCell, sz_drew, sz_drewN]; omega) | (simp; done) | (simp; omega))) 0).trans (by go_simp; exact rfl)
      have c4_1 := (lcc hb (w.heap.size + 1 + 1) (by (first | omega | (simp only [sz_alloc, sz_setCell, sz_drew, sz_drewN]; omega) | (simp; done) | (simp; omega))) 1).trans (by go_simp; exact rfl)
      have c4_2 := (lcc hb (w.heap.size + 1 + 1) (by (first | omega | (simp only [sz_alloc, sz_setCell, sz_drew, sz_drewN]; omega) | (simp; done) | (simp; omega))) 2).trans (by go_simp; exact rfl)
      have c4_3 := (lcc hb (w.heap.size + 1 + 1) (by (first | omega | (simp only [sz_alloc, sz_setCell, sz_drew, sz_drewN]; omega) | (simp; done) | (simp; omega))) 3).trans (by go_simp; exact rfl)
      have c4_4 := (lcc hb (w.heap.size + 1 + 1) (by (first | omega | (simp only [sz_alloc, sz_setCell, sz_drew, sz_drewN]; omega) | (simp; done) | (simp; omega))) 4).trans (by go_simp; exact rfl)
      have c4_5 := (lcc hb (w.heap.size + 1 + 1) (by (first | omega | (simp only [sz_alloc, sz_setCell, sz_drew, sz_drewN]; omega) | (simp; done) | (simp; omega))) 5).trans (by go_simp; exact rfl)
      have f4 := lcff hb (w.heap.size + 1 + 1) (by (first | omega | (simp only [sz_alloc, sz_setCell, sz_drew, sz_drewN]; omega) | (simp; done) | (simp; omega))) (by intro o; go_simp)
      go_wp2_with fail
      refine (value_Fault 4 _).mono ?_
      rintro e' w2 ⟨rfl, hb2⟩
      have s5 := lcs hb2 (w.heap.size + 1 + 1) (by (first | omega | (simp only [sz_alloc, sz_setCell, sz_drew, sz_drewN]; omega) | (simp; done) | (simp; omega)))
      have c5_0 := (lcc hb2 (w.heap.size + 1 + 1) (by (first | omega | (simp only [sz_alloc, sz_setCell, sz_drew, sz_drewN]; omega) | (simp; done) | (simp; omega))) 0).trans (by go_simp; exact rfl)
      have c5_1 := (lcc hb2 (w.heap.size + 1 + 1) (by (first | omega | (simp only [sz_alloc, sz_setCell, sz_drew, sz_drewN]; omega) | (simp; done) | (simp; omega))) 1).trans (by go_simp; exact rfl)
      have c5_2 := (lcc hb2 (w.heap.size + 1 + 1) (by (first | omega | (simp only [sz_alloc, sz_setCell, sz_drew, sz_drewN]; omega) | (simp; done) | (simp; omega))) 2).trans (by go_simp; exact rfl)
      have c5_3 := (lcc hb2 (w.heap.size + 1 + 1) (by (first | omega | (simp only [sz_alloc, sz_setCell, sz_drew, sz_drewN]; omega) | (simp; done) | (simp; omega))) 3).trans (by go_simp; exact rfl)
      have c5_4 := (lcc hb2 (w.heap.size + 1 + 1) (by (first | omega | (simp only [sz_alloc, sz_setCell, sz_drew, sz_drewN]; omega) | (simp; done) | (simp; omega))) 4).trans (by go_simp; exact rfl)
      have c5_5 := (lcc hb2 (w.heap.size + 1 + 1) (by (first | omega | (simp only [sz_alloc, sz_setCell, sz_drew, sz_drewN]; omega) | (simp; done) | (simp; omega))) 5).trans (by go_simp; exact rfl)
      have f5 := lcff hb2 (w.heap.size + 1 + 1) (by (first | omega | (simp only [sz_alloc, sz_setCell, sz_drew, sz_drewN]; omega) | (simp; done) | (simp; omega))) (by intro o; go_simp)
      clear c2_0 c2_1 f2 c3_0 c3_1 f3 c4_0 c4_1 c4_2 c4_3 c4_4 c4_5 f4
      go_wp2
      refine bodyPost_ret (v := .agg #[.int .i64 (Q).k, .int .i64 (Q).n, .int .i64 (Q).d, .string (Q).t, .bool (Q).b, .int .i64 (Q).f]) (by rw [HF.out]; simp [results, Tryz.results71, go_sem, c5_0, c5_1, c5_2, c5_3, c5_4, c5_5]) rfl ⟨rfl, ?_⟩
      repeat (first | with_reducible exact Below.refl _ _ | with_reducible refine below_drewN ?_ _ | with_reducible refine Below.drew ?_ | with_reducible refine Below.setCell ?_ (by (first | omega | (simp only [sz_alloc, sz_setCell, sz_drew, sz_drewN]; omega) | (simp; done) | (simp; omega))) _ | with_reducible refine Below.alloc ?_ (by (first | omega | (simp only [sz_alloc, sz_setCell, sz_drew, sz_drewN]; omega) | (simp; done) | (simp; omega))) _ | with_reducible refine below_then ?_ ?_ (by with_reducible assumption) | (first | omega | (simp only [sz_alloc, sz_setCell, sz_drew, sz_drewN]; omega) | (simp; done) | (simp; omega)))
  · rw [hw] at HW HF
    replace HF := Lib.hid HF
    clear hw
    rcases hc with c1 | ⟨c1, c2⟩
    all_goals
      go_enter Tryz.func71, Tryz.ntmps71
      go_wp2_with fail
      refine (HW.out _).mono ?_
      rintro e' w1 ⟨rfl, hb⟩
      have s6 := lcs hb (w.heap.size) (by (first | omega | (simp only [sz_alloc, sz_setCell, sz_drew, sz_drewN]; omega) | (simp; done) | (simp; omega)))
      have c6_0 := (lcc hb (w.heap.size) (by (first | omega | (simp only [sz_alloc, sz_setCell, sz_drew, sz_drewN]; omega) | (simp; done) | (simp; omega))) 0).trans (by go_simp; exact rfl)
      have c6_1 := (lcc hb (w.heap.size) (by (first | omega | (simp only [sz_alloc, sz_setCell, sz_drew, sz_drewN]; omega) | (simp; done) | (simp; omega))) 1).trans (by go_simp; exact rfl)
      have f6 := lcff hb (w.heap.size) (by (first | omega | (simp only [sz_alloc, sz_setCell, sz_drew, sz_drewN]; omega) | (simp; done) | (simp; omega))) (by intro o; go_simp)
      have s7 := lcs hb (w.heap.size + 1) (by (first | omega | (simp only [sz_alloc, sz_setCell, sz_drew, sz_drewN]; omega) | (simp; done) | (simp; omega)))
      have c7_0 := (lcc hb (w.heap.size + 1) (by (first | omega | (simp only [sz_alloc, sz_setCell, sz_drew, sz_drewN]; omega) | (simp; done) | (simp; omega))) 0).trans (by go_simp; exact rfl)
      have c7_1 := (lcc hb (w.heap.size + 1) (by (first | omega | (simp only [sz_alloc, sz_setCell, sz_drew, sz_drewN]; omega) | (simp; done) | (simp; omega))) 1).trans (by go_simp; exact rfl)
      have f7 := lcff hb (w.heap.size + 1) (by (first | omega | (simp only [sz_alloc, sz_setCell, sz_drew, sz_drewN]; omega) | (simp; done) | (simp; omega))) (by intro o; go_simp)
      have s8 := lcs hb (w.heap.size + 1 + 1) (by (first | omega | (simp only [sz_alloc, sz_setCell, sz_drew, sz_drewN]; omega) | (simp; done) | (simp; omega)))
      have c8_0 := (lcc hb (w.heap.size + 1 + 1) (by (first | omega | (simp only [sz_alloc, sz_setCell, sz_drew, sz_drewN]; omega) | (simp; done) | (simp; omega))) 0).trans (by go_simp; exact rfl)
      have c8_1 := (lcc hb (w.heap.size + 1 + 1) (by (first | omega | (simp only [sz_alloc, sz_setCell, sz_drew, sz_drewN]; omega) | (simp; done) | (simp; omega))) 1).trans (by go_simp; exact rfl)
      have c8_2 := (lcc hb (w.heap.size + 1 + 1) (by (first | omega | (simp only [sz_alloc, sz_setCell, sz_drew, sz_drewN]; omega) | (simp; done) | (simp; omega))) 2).trans (by go_simp; exact rfl)
      have c8_3 := (lcc hb (w.heap.size + 1 + 1) (by (first | omega | (simp only [sz_alloc, sz_setCell, sz_drew, sz_drewN]; omega) | (simp; done) | (simp; omega))) 3).trans (by go_simp; exact rfl)
      have c8_4 := (lcc hb (w.heap.size + 1 + 1) (by (first | omega | (simp only [sz_alloc, sz_setCell, sz_drew, sz_drewN]; omega) | (simp; done) | (simp; omega))) 4).trans (by go_simp; exact rfl)
      have c8_5 := (lcc hb (w.heap.size + 1 + 1) (by (first | omega | (simp only [sz_alloc, sz_setCell, sz_drew, sz_drewN]; omega) | (simp; done) | (simp; omega))) 5).trans (by go_simp; exact rfl)
      have f8 := lcff hb (w.heap.size + 1 + 1) (by (first | omega | (simp only [sz_alloc, sz_setCell, sz_drew, sz_drewN]; omega) | (simp; done) | (simp; omega))) (by intro o; go_simp)
      go_wp2_with fail
      refine (HA.out _).mono ?_
      rintro e' w2 ⟨rfl, hb2⟩
      have s9 := lcs hb2 (w.heap.size + 1 + 1) (by (first | omega | (simp only [sz_alloc, sz_setCell, sz_drew, sz_drewN]; omega) | (simp; done) | (simp; omega)))
      have c9_0 := (lcc hb2 (w.heap.size + 1 + 1) (by (first | omega | (simp only [sz_alloc, sz_setCell, sz_drew, sz_drewN]; omega) | (simp; done) | (simp; omega))) 0).trans (by go_simp; exact rfl)
      have c9_1 := (lcc hb2 (w.heap.size + 1 + 1) (by (first | omega | (simp only [sz_alloc, sz_setCell, sz_drew, sz_drewN]; omega) | (simp; done) | (simp; omega))) 1).trans (by go_simp; exact rfl)
      have c9_2 := (lcc hb2 (w.heap.size + 1 + 1) (by (first | omega | (simp only [sz_alloc, sz_setCell, sz_drew, sz_drewN]; omega) | (simp; done) | (simp; omega))) 2).trans (by go_simp; exact rfl)
      have c9_3 := (lcc hb2 (w.heap.size + 1 + 1) (by (first | omega | (simp only [sz_alloc, sz_setCell, sz_drew, sz_drewN]; omega) | (simp; done) | (simp; omega))) 3).trans (by go_simp; exact rfl)
      have c9_4 := (lcc hb2 (w.heap.size + 1 + 1) (by (first | omega | (simp only [sz_alloc, sz_setCell, sz_drew, sz_drewN]; omega) | (simp; done) | (simp; omega))) 4).trans (by go_simp; exact rfl)
      have c9_5 := (lcc hb2 (w.heap.size + 1 + 1) (by (first | omega | (simp only [sz_alloc, sz_setCell, sz_drew, sz_drewN]; omega) | (simp; done) | (simp; omega))) 5).trans (by go_simp; exact rfl)
      have f9 := lcff hb2 (w.heap.size + 1 + 1) (by (first | omega | (simp only [sz_alloc, sz_setCell, sz_drew, sz_drewN]; omega) | (simp; done) | (simp; omega))) (by intro o; go_simp)
      clear c6_0 c6_1 f6 c7_0 c7_1 f7 c8_0 c8_1 c8_2 c8_3 c8_4 c8_5 f8
      go_wp2_with fail
      refine (HT.out _).mono ?_
      rintro e' w3 ⟨rfl, hb3⟩
      have s10 := lcs hb3 (w.heap.size + 1 + 1) (by (first | omega | (simp only [sz_alloc, sz_setCell, sz_drew, sz_drewN]; omega) | (simp; done) | (simp; omega)))
      have c10_0 := (lcc hb3 (w.heap.size + 1 + 1) (by (first | omega | (simp only [sz_alloc, sz_setCell, sz_drew, sz_drewN]; omega) | (simp; done) | (simp; omega))) 0).trans (by go_simp; exact rfl)
      have c10_1 := (lcc hb3 (w.heap.size + 1 + 1) (by (first | omega | (simp only [sz_alloc, sz_setCell, sz_drew, sz_drewN]; omega) | (simp; done) | (simp; omega))) 1).trans (by go_simp; exact rfl)
      have c10_2 := (lcc hb3 (w.heap.size + 1 + 1) (by (first | omega | (simp only [sz_alloc, sz_setCell, sz_drew, sz_drewN]; omega) | (simp; done) | (simp; omega))) 2).trans (by go_simp; exact rfl)
      have c10_3 := (lcc hb3 (w.heap.size + 1 + 1) (by (first | omega | (simp only [sz_alloc, sz_setCell, sz_drew, sz_drewN]; omega) | (simp; done) | (simp; omega))) 3).trans (by go_simp; exact rfl)
      have c10_4 := (lcc hb3 (w.heap.size + 1 + 1) (by (first | omega | (simp only [sz_alloc, sz_setCell, sz_drew, sz_drewN]; omega) | (simp; done) | (simp; omega))) 4).trans (by go_simp; exact rfl)
      have c10_5 := (lcc hb3 (w.heap.size + 1 + 1) (by (first | omega | (simp only [sz_alloc, sz_setCell, sz_drew, sz_drewN]; omega) | (simp; done) | (simp; omega))) 5).trans (by go_simp; exact rfl)
      have f10 := lcff hb3 (w.heap.size + 1 + 1) (by (first | omega | (simp only [sz_alloc, sz_setCell, sz_drew, sz_drewN]; omega) | (simp; done) | (simp; omega))) (by intro o; go_simp)
      clear c9_0 c9_1 c9_2 c9_3 c9_4 c9_5 f9
      go_wp2
      refine bodyPost_ret (v := .agg #[.int .i64 (Q).k, .int .i64 (Q).n, .int .i64 (Q).d, .string (Q).t, .bool (Q).b, .int .i64 (Q).f]) (by rw [HF.out]; simp [results, Tryz.results71, go_sem, c10_0, c10_1, c10_2, c10_3, c10_4, c10_5]) rfl ⟨rfl, ?_⟩
      repeat (first | with_reducible exact Below.refl _ _ | with_reducible refine below_drewN ?_ _ | with_reducible refine Below.drew ?_ | with_reducible refine Below.setCell ?_ (by (first | omega | (simp only [sz_alloc, sz_setCell, sz_drew, sz_drewN]; omega) | (simp; done) | (simp; omega))) _ | with_reducible refine Below.alloc ?_ (by (first | omega | (simp only [sz_alloc, sz_setCell, sz_drew, sz_drewN]; omega) | (simp; done) | (simp; omega))) _ | with_reducible refine below_then ?_ ?_ (by with_reducible assumption) | (first | omega | (simp only [sz_alloc, sz_setCell, sz_drew, sz_drewN]; omega) | (simp; done) | (simp; omega)))
end Go.Proofs.YtodopbdngikpcaaGreatDoor
