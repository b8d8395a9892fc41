/- Walks of package value: reckon and Bin at the sum, the difference, the product and the quotient of two numbers. -/
import Derived.Test.YtangdbjoflnobaaGreatDoorAccH
namespace Go.Proofs.YtangdbjoflnobaaGreatDoor
open Go Go.RowKit
set_option linter.unusedSimpArgs false
set_option linter.unusedVariables false

theorem sub_bds (n d m e : Int) : -1000000000000 ≤ (sub n d m e).n ∧ (sub n d m e).n ≤ 1000000000000 ∧ 0 ≤ (sub n d m e).d ∧ (sub n d m e).d ≤ 1000000 := mk_bd _ _
theorem add_bds (n d m e : Int) : -1000000000000 ≤ (add n d m e).n ∧ (add n d m e).n ≤ 1000000000000 ∧ 0 ≤ (add n d m e).d ∧ (add n d m e).d ≤ 1000000 := mk_bd _ _
def toldB (r : NmB) : Vl := toldF r.n r.d r.ok
/-- A quotient as a value. -/
def quoV (n d m e : Int) : Vl := if m = 0 then faultF 1 else toldB (div n d m e)

set_option maxHeartbeats 1000000 in
theorem value_reckon11 (n d m e : Int) (w : World) (hn : I64 n) (hd : I64 d) (hm : I64 m) (he : I64 e) :
    Calls Tryz.prog 78 #[.int .i64 11, .agg #[.int .i64 n, .int .i64 d], .agg #[.int .i64 m, .int .i64 e]] w fun e' w' => e' = .returned (.agg #[.int .i64 (toldB (add n d m e)).k, .int .i64 (toldB (add n d m e)).n, .int .i64 (toldB (add n d m e)).d, .string (toldB (add n d m e)).t, .bool (toldB (add n d m e)).b, .int .i64 (toldB (add n d m e)).f]) ∧ Below w.heap.size w w' := by
  have hbd := add_bds n d m e
  have HA := Lib.hid fun wx => num_Add n d m e wx hn hd hm he
  have HT := Lib.hid fun wx => value_told (add n d m e).n (add n d m e).d (add n d m e).ok wx (I64.of hbd.1 hbd.2.1) (I64.of (by omega) (by omega))
  have HF : Hid (toldB (add n d m e) = toldF (add n d m e).n (add n d m e).d (add n d m e).ok) := rfl
  generalize add n d m e = R at *
  clear hbd hn hd hm he
  go_enter Tryz.func78, Tryz.ntmps78
  go_wp2_with fail
  refine (HA.out _).mono ?_
  rintro e' w1 ⟨rfl, hb⟩
  have s1 := lcs hb (w.heap.size + 1 + 1) (by (first | omega | (simp only [sz_alloc, sz_setCell, sz_drew, sz_drewN]; omega) | (simp; done) | (simp; omega)))
  have c1_0 := (lcc hb (w.heap.size + 1 + 1) (by (first | omega | (simp only [sz_alloc, sz_setCell, sz_drew, sz_drewN]; omega) | (simp; done) | (simp; omega))) 0).trans (by go_simp; exact rfl)
  have c1_1 := (lcc hb (w.heap.size + 1 + 1) (by (first | omega | (simp only [sz_alloc, sz_setCell, sz_drew, sz_drewN]; omega) | (simp; done) | (simp; omega))) 1).trans (by go_simp; exact rfl)
  have c1_2 := (lcc hb (w.heap.size + 1 + 1) (by (first | omega | (simp only [sz_alloc, sz_setCell, sz_drew, sz_drewN]; omega) | (simp; done) | (simp; omega))) 2).trans (by go_simp; exact rfl)
  have c1_3 := (lcc hb (w.heap.size + 1 + 1) (by (first | omega | (simp only [sz_alloc, sz_setCell, sz_drew, sz_drewN]; omega) | (simp; done) | (simp; omega))) 3).trans (by go_simp; exact rfl)
  have c1_4 := (lcc hb (w.heap.size + 1 + 1) (by (first | omega | (simp only [sz_alloc, sz_setCell, sz_drew, sz_drewN]; omega) | (simp; done) | (simp; omega))) 4).trans (by go_simp; exact rfl)
  have c1_5 := (lcc hb (w.heap.size + 1 + 1) (by (first | omega | (simp only [sz_alloc, sz_setCell, sz_drew, sz_drewN]; omega) | (simp; done) | (simp; omega))) 5).trans (by go_simp; exact rfl)
  have f1 := lcff hb (w.heap.size + 1 + 1) (by (first | omega | (simp only [sz_alloc, sz_setCell, sz_drew, sz_drewN]; omega) | (simp; done) | (simp; omega))) (by intro o; go_simp)
  go_wp2_with fail
  refine (HT.out _).mono ?_
  rintro e' w2 ⟨rfl, hb2⟩
  have s2 := lcs hb2 (w.heap.size + 1 + 1) (by (first | omega | (simp only [sz_alloc, sz_setCell, sz_drew, sz_drewN]; omega) | (simp; done) | (simp; omega)))
  have c2_0 := (lcc hb2 (w.heap.size + 1 + 1) (by (first | omega | (simp only [sz_alloc, sz_setCell, sz_drew, sz_drewN]; omega) | (simp; done) | (simp; omega))) 0).trans (by go_simp; exact rfl)
  have c2_1 := (lcc hb2 (w.heap.size + 1 + 1) (by (first | omega | (simp only [sz_alloc, sz_setCell, sz_drew, sz_drewN]; omega) | (simp; done) | (simp; omega))) 1).trans (by go_simp; exact rfl)
  have c2_2 := (lcc hb2 (w.heap.size + 1 + 1) (by (first | omega | (simp only [sz_alloc, sz_setCell, sz_drew, sz_drewN]; omega) | (simp; done) | (simp; omega))) 2).trans (by go_simp; exact rfl)
  have c2_3 := (lcc hb2 (w.heap.size + 1 + 1) (by (first | omega | (simp only [sz_alloc, sz_setCell, sz_drew, sz_drewN]; omega) | (simp; done) | (simp; omega))) 3).trans (by go_simp; exact rfl)
  have c2_4 := (lcc hb2 (w.heap.size + 1 + 1) (by (first | omega | (simp only [sz_alloc, sz_setCell, sz_drew, sz_drewN]; omega) | (simp; done) | (simp; omega))) 4).trans (by go_simp; exact rfl)
  have c2_5 := (lcc hb2 (w.heap.size + 1 + 1) (by (first | omega | (simp only [sz_alloc, sz_setCell, sz_drew, sz_drewN]; omega) | (simp; done) | (simp; omega))) 5).trans (by go_simp; exact rfl)
  have f2 := lcff hb2 (w.heap.size + 1 + 1) (by (first | omega | (simp only [sz_alloc, sz_setCell, sz_drew, sz_drewN]; omega) | (simp; done) | (simp; omega))) (by intro o; go_simp)
  clear c1_0 c1_1 c1_2 c1_3 c1_4 c1_5 f1
  go_wp2
  refine bodyPost_ret (v := .agg #[.int .i64 (toldB R).k, .int .i64 (toldB R).n, .int .i64 (toldB R).d, .string (toldB R).t, .bool (toldB R).b, .int .i64 (toldB R).f]) (by rw [HF.out]; simp [results, Tryz.results78, go_sem, c2_0, c2_1, c2_2, c2_3, c2_4, c2_5]) rfl ⟨rfl, ?_⟩
  repeat (first | with_reducible exact Below.refl _ _ | with_reducible refine below_drewN ?_ _ | with_reducible refine Below.drew ?_ | with_reducible refine Below.setCell ?_ (by (first | omega | (simp only [sz_alloc, sz_setCell, sz_drew, sz_drewN]; omega) | (simp; done) | (simp; omega))) _ | with_reducible refine Below.alloc ?_ (by (first | omega | (simp only [sz_alloc, sz_setCell, sz_drew, sz_drewN]; omega) | (simp; done) | (simp; omega))) _ | with_reducible refine below_then ?_ ?_ (by with_reducible assumption) | (first | omega | (simp only [sz_alloc, sz_setCell, sz_drew, sz_drewN]; omega) | (simp; done) | (simp; omega)))
set_option maxHeartbeats 1000000 in
theorem value_reckon12 (n d m e : Int) (w : World) (hn : I64 n) (hd : I64 d) (hm : I64 m) (he : I64 e) :
    Calls Tryz.prog 78 #[.int .i64 12, .agg #[.int .i64 n, .int .i64 d], .agg #[.int .i64 m, .int .i64 e]] w fun e' w' => e' = .returned (.agg #[.int .i64 (toldB (sub n d m e)).k, .int .i64 (toldB (sub n d m e)).n, .int .i64 (toldB (sub n d m e)).d, .string (toldB (sub n d m e)).t, .bool (toldB (sub n d m e)).b, .int .i64 (toldB (sub n d m e)).f]) ∧ Below w.heap.size w w' := by
  have hbd := sub_bds n d m e
  have HA := Lib.hid fun wx => num_Sub n d m e wx hn hd hm he
  have HT := Lib.hid fun wx => value_told (sub n d m e).n (sub n d m e).d (sub n d m e).ok wx (I64.of hbd.1 hbd.2.1) (I64.of (by omega) (by omega))
  have HF : Hid (toldB (sub n d m e) = toldF (sub n d m e).n (sub n d m e).d (sub n d m e).ok) := rfl
  generalize sub n d m e = R at *
  clear hbd hn hd hm he
  go_enter Tryz.func78, Tryz.ntmps78
  go_wp2_with fail
  refine (HA.out _).mono ?_
  rintro e' w1 ⟨rfl, hb⟩
  have s3 := lcs hb (w.heap.size + 1 + 1) (by (first | omega | (simp only [sz_alloc, sz_setCell, sz_drew, sz_drewN]; omega) | (simp; done) | (simp; omega)))
  have c3_0 := (lcc hb (w.heap.size + 1 + 1) (by (first | omega | (simp only [sz_alloc, sz_setCell, sz_drew, sz_drewN]; omega) | (simp; done) | (simp; omega))) 0).trans (by go_simp; exact rfl)
  have c3_1 := (lcc hb (w.heap.size + 1 + 1) (by (first | omega | (simp only [sz_alloc, sz_setCell, sz_drew, sz_drewN]; omega) | (simp; done) | (simp; omega))) 1).trans (by go_simp; exact rfl)
  have c3_2 := (lcc hb (w.heap.size + 1 + 1) (by (first | omega | (simp only [sz_alloc, sz_setCell, sz_drew, sz_drewN]; omega) | (simp; done) | (simp; omega))) 2).trans (by go_simp; exact rfl)
  have c3_3 := (lcc hb (w.heap.size + 1 + 1) (by (first | omega | (simp only [sz_alloc, sz_setCell, sz_drew, sz_drewN]; omega) | (simp; done) | (simp; omega))) 3).trans (by go_simp; exact rfl)
  have c3_4 := (lcc hb (w.heap.size + 1 + 1) (by (first | omega | (simp only [sz_alloc, sz_setCell, sz_drew, sz_drewN]; omega) | (simp; done) | (simp; omega))) 4).trans (by go_simp; exact rfl)
  have c3_5 := (lcc hb (w.heap.size + 1 + 1) (by (first | omega | (simp only [sz_alloc, sz_setCell, sz_drew, sz_drewN]; omega) | (simp; done) | (simp; omega))) 5).trans (by go_simp; exact rfl)
  have f3 := lcff hb (w.heap.size + 1 + 1) (by (first | omega | (simp only [sz_alloc, sz_setCell, sz_drew, sz_drewN]; omega) | (simp; done) | (simp; omega))) (by intro o; go_simp)
  go_wp2_with fail
  refine (HT.out _).mono ?_
  rintro e' w2 ⟨rfl, hb2⟩
  have s4 := lcs hb2 (w.heap.size + 1 + 1) (by (first | omega | (simp only [sz_alloc, sz_setCell, sz_drew, sz_drewN]; omega) | (simp; done) | (simp; omega)))
  have c4_0 := (lcc hb2 (w.heap.size + 1 + 1) (by (first | omega | (simp only [sz_alloc, sz_setCell, sz_drew, sz_drewN]; omega) | (simp; done) | (simp; omega))) 0).trans (by go_simp; exact rfl)
  have c4_1 := (lcc hb2 (w.heap.size + 1 + 1) (by (first | omega | (simp only [sz_alloc, sz_setCell, sz_drew, sz_drewN]; omega) | (simp; done) | (simp; omega))) 1).trans (by go_simp; exact rfl)
  have c4_2 := (lcc hb2 (w.heap.size + 1 + 1) (by (first | omega | (simp only [sz_alloc, sz_setCell, sz_drew, sz_drewN]; omega) | (simp; done) | (simp; omega))) 2).trans (by go_simp; exact rfl)
  have c4_3 := (lcc hb2 (w.heap.size + 1 + 1) (by (first | omega | (simp only [sz_alloc, sz_setCell, sz_drew, sz_drewN]; omega) | (simp; done) | (simp; omega))) 3).trans (by go_simp; exact rfl)
  have c4_4 := (lcc hb2 (w.heap.size + 1 + 1) (by (first | omega | (simp only [sz_alloc, sz_setCell, sz_drew, sz_drewN]; omega) | (simp; done) | (simp; omega))) 4).trans (by go_simp; exact rfl)
  have c4_5 := (lcc hb2 (w.heap.size + 1 + 1) (by (first | omega | (simp only [sz_alloc, sz_setCell, sz_drew, sz_drewN]; omega) | (simp; done) | (simp; omega))) 5).trans (by go_simp; exact rfl)
  have f4 := lcff hb2 (w.heap.size + 1 + 1) (by (first | omega | (simp only [sz_alloc, sz_setCell, sz_drew, sz_drewN]; omega) | (simp; done) | (simp; omega))) (by intro o; go_simp)
  clear c3_0 c3_1 c3_2 c3_3 c3_4 c3_5 f3
  go_wp2
  refine bodyPost_ret (v := .agg #[.int .i64 (toldB R).k, .int .i64 (toldB R).n, .int .i64 (toldB R).d, .string (toldB R).t, .bool (toldB R).b, .int .i64 (toldB R).f]) (by rw [HF.out]; simp [results, Tryz.results78, go_sem, c4_0, c4_1, c4_2, c4_3, c4_4, c4_5]) rfl ⟨rfl, ?_⟩
  repeat (first | with_reducible exact Below.refl _ _ | with_reducible refine below_drewN ?_ _ | with_reducible refine Below.drew ?_ | with_reducible refine Below.setCell ?_ (by (first | omega | (simp only [sz_alloc, sz_setCell, sz_drew, sz_drewN]; omega) | (simp; done) | (simp; omega))) _ | with_reducible refine Below.alloc ?_ (by (first | omega | (simp only [sz_alloc, sz_setCell, sz_drew, sz_drewN]; omega) | (simp; done) | (simp; omega))) _ | with_reducible refine below_then ?_ ?_ (by with_reducible assumption) | (first | omega | (simp only [sz_alloc, sz_setCell, sz_drew, sz_drewN]; omega) | (simp; done) | (simp; omega)))
set_option maxHeartbeats 1000000 in
theorem value_reckon13 (n d m e : Int) (w : World) (hn : I64 n) (hd : I64 d) (hm : I64 m) (he : I64 e) :
    Calls Tryz.prog 78 #[.int .i64 13, .agg #[.int .i64 n, .int .i64 d], .agg #[.int .i64 m, .int .i64 e]] w fun e' w' => e' = .returned (.agg #[.int .i64 (toldB (mul n d m e)).k, .int .i64 (toldB (mul n d m e)).n, .int .i64 (toldB (mul n d m e)).d, .string (toldB (mul n d m e)).t, .bool (toldB (mul n d m e)).b, .int .i64 (toldB (mul n d m e)).f]) ∧ Below w.heap.size w w' := by
  have hbd := mul_bds n d m e
  have HA := Lib.hid fun wx => num_Mul n d m e wx hn hd hm he
  have HT := Lib.hid fun wx => value_told (mul n d m e).n (mul n d m e).d (mul n d m e).ok wx (I64.of hbd.1 hbd.2.1) (I64.of (by omega) (by omega))
  have HF : Hid (toldB (mul n d m e) = toldF (mul n d m e).n (mul n d m e).d (mul n d m e).ok) := rfl
  generalize mul n d m e = R at *
  clear hbd hn hd hm he
  go_enter Tryz.func78, Tryz.ntmps78
  go_wp2_with fail
  refine (HA.out _).mono ?_
  rintro e' w1 ⟨rfl, hb⟩
  have s5 := lcs hb (w.heap.size + 1 + 1) (by (first | omega | (simp only [sz_alloc, sz_setCell, sz_drew, sz_drewN]; omega) | (simp; done) | (simp; omega)))
  have c5_0 := (lcc hb (w.heap.size + 1 + 1) (by (first | omega | (simp only [sz_alloc, sz_setCell, sz_drew, sz_drewN]; omega) | (simp; done) | (simp; omega))) 0).trans (by go_simp; exact rfl)
  have c5_1 := (lcc hb (w.heap.size + 1 + 1) (by (first | omega | (simp only [sz_alloc, sz_setCell, sz_drew, sz_drewN]; omega) | (simp; done) | (simp; omega))) 1).trans (by go_simp; exact rfl)
  have c5_2 := (lcc hb (w.heap.size + 1 + 1) (by (first | omega | (simp only [sz_alloc, sz_setCell, sz_drew, sz_drewN]; omega) | (simp; done) | (simp; omega))) 2).trans (by go_simp; exact rfl)
  have c5_3 := (lcc hb (w.heap.size + 1 + 1) (by (first | omega | (simp only [sz_alloc, sz_setCell, sz_drew, sz_drewN]; omega) | (simp; done) | (simp; omega))) 3).trans (by go_simp; exact rfl)
  have c5_4 := (lcc hb (w.heap.size + 1 + 1) (by (first | omega | (simp only [sz_alloc, sz_setCell, sz_drew, sz_drewN]; omega) | (simp; done) | (simp; omega))) 4).trans (by go_simp; exact rfl)
  have c5_5 := (lcc hb (w.heap.size + 1 + 1) (by (first | omega | (simp only [sz_alloc, sz_setCell, sz_drew, sz_drewN]; omega) | (simp; done) | (simp; omega))) 5).trans (by go_simp; exact rfl)
  have f5 := lcff hb (w.heap.size + 1 + 1) (by (first | omega | (simp only [sz_alloc, sz_setCell, sz_drew, sz_drewN]; omega) | (simp; done) | (simp; omega))) (by intro o; go_simp)
  go_wp2_with fail
  refine (HT.out _).mono ?_
  rintro e' w2 ⟨rfl, hb2⟩
  have s6 := lcs hb2 (w.heap.size + 1 + 1) (by (first | omega | (simp only [sz_alloc, sz_setCell, sz_drew, sz_drewN]; omega) | (simp; done) | (simp; omega)))
  have c6_0 := (lcc hb2 (w.heap.size + 1 + 1) (by (first | omega | (simp only [sz_alloc, sz_setCell, sz_drew, sz_drewN]; omega) | (simp; done) | (simp; omega))) 0).trans (by go_simp; exact rfl)
  have c6_1 := (lcc hb2 (w.heap.size + 1 + 1) (by (first | omega | (simp only [sz_alloc, sz_setCell, sz_drew, sz_drewN]; omega) | (simp; done) | (simp; omega))) 1).trans (by go_simp; exact rfl)
  have c6_2 := (lcc hb2 (w.heap.size + 1 + 1) (by (first | omega | (simp only [sz_alloc, sz_setCell, sz_drew, sz_drewN]; omega) | (simp; done) | (simp; omega))) 2).trans (by go_simp; exact rfl)
  have c6_3 := (lcc hb2 (w.heap.size + 1 + 1) (by (first | omega | (simp only [sz_alloc, sz_setCell, sz_drew, sz_drewN]; omega) | (simp; done) | (simp; omega))) 3).trans (by go_simp; exact rfl)
  have c6_4 := (lcc hb2 (w.heap.size + 1 + 1) (by (first | omega | (simp only [sz_alloc, sz_setCell, sz_drew, sz_drewN]; omega) | (simp; done) | (simp; omega))) 4).trans (by go_simp; exact rfl)
  have c6_5 := (lcc hb2 (w.heap.size + 1 + 1) (by (first | omega | (simp only [sz_alloc, sz_setCell, sz_drew, sz_drewN]; omega) | (simp; done) | (simp; omega))) 5).trans (by go_simp; exact rfl)
  have f6 := lcff hb2 (w.heap.size + 1 + 1) (by (first | omega | (simp only [sz_alloc, sz_setCell, sz_drew, sz_drewN]; omega) | (simp; done) | (simp; omega))) (by intro o; go_simp)
  clear c5_0 c5_1 c5_2 c5_3 c5_4 c5_5 f5
  go_wp2
  refine bodyPost_ret (v := .agg #[.int .i64 (toldB R).k, .int .i64 (toldB R).n, .int .i64 (toldB R).d, .string (toldB R).t, .bool (toldB R).b, .int .i64 (toldB R).f]) (by rw [HF.out]; simp [results, Tryz.results78, go_sem, c6_0, c6_1, c6_2, c6_3, c6_4, c6_5]) rfl ⟨rfl, ?_⟩
  repeat (first | with_reducible exact Below.refl _ _ | with_reducible refine below_drewN ?_ _ | with_reducible refine Below.drew ?_ | with_reducible refine Below.setCell ?_ (by (first | omega | (simp only [sz_alloc, sz_setCell, sz_drew, sz_drewN]; omega) | (simp; done) | (simp; omega))) _ | with_reducible refine Below.alloc ?_ (by (first | omega | (simp only [sz_alloc, sz_setCell, sz_drew, sz_drewN]; omega) | (simp; done) | (simp; omega))) _ | with_reducible refine below_then ?_ ?_ (by with_reducible assumption) | (first | omega | (simp only [sz_alloc, sz_setCell, sz_drew, sz_drewN]; omega) | (simp; done) | (simp; omega)))
set_option maxHeartbeats 1000000 in
theorem value_reckon14 (n d m e : Int) (w : World) (hn : I64 n) (hd : I64 d) (hm : I64 m) (he : I64 e) :
    Calls Tryz.prog 78 #[.int .i64 14, .agg #[.int .i64 n, .int .i64 d], .agg #[.int .i64 m, .int .i64 e]] w fun e' w' => e' = .returned (.agg #[.int .i64 (quoV n d m e).k, .int .i64 (quoV n d m e).n, .int .i64 (quoV n d m e).d, .string (quoV n d m e).t, .bool (quoV n d m e).b, .int .i64 (quoV n d m e).f]) ∧ Below w.heap.size w w' := by
  by_cases h0 : m = 0
  · have HF : Hid (quoV n d m e = faultF 1) := by unfold Hid quoV; rw [if_pos h0]
    have k0 : (m == 0) = true := by simp [h0]
    generalize quoV n d m e = Q at *
    clear h0 hn hd hm he
    go_enter Tryz.func78, Tryz.ntmps78
    go_wp2_with fail
    refine (value_Fault _ _).mono ?_
    rintro e' w1 ⟨rfl, hb⟩
    have s7 := lcs hb (w.heap.size + 1 + 1) (by (first | omega | (simp only [sz_alloc, sz_setCell, sz_drew, sz_drewN]; omega) | (simp; done) | (simp; omega)))
    have c7_0 := (lcc hb (w.heap.size + 1 + 1) (by (first | omega | (simp only [sz_alloc, sz_setCell, sz_drew, sz_drewN]; omega) | (simp; done) | (simp; omega))) 0).trans (by go_simp; exact rfl)
    have c7_1 := (lcc hb (w.heap.size + 1 + 1) (by (first | omega | (simp only [sz_alloc, sz_setCell, sz_drew, sz_drewN]; omega) | (simp; done) | (simp; omega))) 1).trans (by go_simp; exact rfl)
    have c7_2 := (lcc hb (w.heap.size + 1 + 1) (by (first | omega | (simp only [sz_alloc, sz_setCell, sz_drew, sz_drewN]; omega) | (simp; done) | (simp; omega))) 2).trans (by go_simp; exact rfl)
    have c7_3 := (lcc hb (w.heap.size + 1 + 1) (by (first | omega | (simp only [sz_alloc, sz_setCell, sz_drew, sz_drewN]; omega) | (simp; done) | (simp; omega))) 3).trans (by go_simp; exact rfl)
    have c7_4 := (lcc hb (w.heap.size + 1 + 1) (by (first | omega | (simp only [sz_alloc, sz_setCell, sz_drew, sz_drewN]; omega) | (simp; done) | (simp; omega))) 4).trans (by go_simp; exact rfl)
    have c7_5 := (lcc hb (w.heap.size + 1 + 1) (by (first | omega | (simp only [sz_alloc, sz_setCell, sz_drew, sz_drewN]; omega) | (simp; done) | (simp; omega))) 5).trans (by go_simp; exact rfl)
    have f7 := lcff hb (w.heap.size + 1 + 1) (by (first | omega | (simp only [sz_alloc, sz_setCell, sz_drew, sz_drewN]; omega) | (simp; done) | (simp; omega))) (by intro o; go_simp)
    go_wp2
    refine bodyPost_ret (v := .agg #[.int .i64 (Q).k, .int .i64 (Q).n, .int .i64 (Q).d, .string (Q).t, .bool (Q).b, .int .i64 (Q).f]) (by rw [HF.out]; simp [results, Tryz.results78, go_sem, c7_0, c7_1, c7_2, c7_3, c7_4, c7_5]) rfl ⟨rfl, ?_⟩
    repeat (first | with_reducible exact Below.refl _ _ | with_reducible refine below_drewN ?_ _ | with_reducible refine Below.drew ?_ | with_reducible refine Below.setCell ?_ (by (first | omega | (simp only [sz_alloc, sz_setCell, sz_drew, sz_drewN]; omega) | (simp; done) | (simp; omega))) _ | with_reducible refine Below.alloc ?_ (by (first | omega | (simp only [sz_alloc, sz_setCell, sz_drew, sz_drewN]; omega) | (simp; done) | (simp; omega))) _ | with_reducible refine below_then ?_ ?_ (by with_reducible assumption) | (first | omega | (simp only [sz_alloc, sz_setCell, sz_drew, sz_drewN]; omega) | (simp; done) | (simp; omega)))
  · have hbd := div_bds n d m e
    have HA := Lib.hid fun wx => num_Div n d m e wx hn hd hm he
    have HT := Lib.hid fun wx => value_told (div n d m e).n (div n d m e).d (div n d m e).ok wx (I64.of hbd.1 hbd.2.1) (I64.of (by omega) (by omega))
    have HF : Hid (quoV n d m e = toldF (div n d m e).n (div n d m e).d (div n d m e).ok) := by unfold Hid quoV; rw [if_neg h0]; rfl
    generalize div n d m e = R at *
    generalize quoV n d m e = Q at *
    have k0 : (m == 0) = false := by simp [h0]
    clear hbd hn hd hm he h0
    go_enter Tryz.func78, Tryz.ntmps78
    go_wp2_with fail
    refine (HA.out _).mono ?_
    rintro e' w1 ⟨rfl, hb⟩
    have s8 := lcs hb (w.heap.size + 1 + 1) (by (first | omega | (simp only [sz_alloc, sz_setCell, sz_drew, sz_drewN]; omega) | (simp; done) | (simp; omega)))
    have c8_0 := (lcc hb (w.heap.size + 1 + 1) (by (first | omega | (simp only [sz_alloc, sz_setCell, sz_drew, sz_drewN]; omega) | (simp; done) | (simp; omega))) 0).trans (by go_simp; exact rfl)
    have c8_1 := (lcc hb (w.heap.size + 1 + 1) (by (first | omega | (simp only [sz_alloc, sz_setCell, sz_drew, sz_drewN]; omega) | (simp; done) | (simp; omega))) 1).trans (by go_simp; exact rfl)
    have c8_2 := (lcc hb (w.heap.size + 1 + 1) (by (first | omega | (simp only [sz_alloc, sz_setCell, sz_drew, sz_drewN]; omega) | (simp; done) | (simp; omega))) 2).trans (by go_simp; exact rfl)
    have c8_3 := (lcc hb (w.heap.size + 1 + 1) (by (first | omega | (simp only [sz_alloc, sz_setCell, sz_drew, sz_drewN]; omega) | (simp; done) | (simp; omega))) 3).trans (by go_simp; exact rfl)
    have c8_4 := (lcc hb (w.heap.size + 1 + 1) (by (first | omega | (simp only [sz_alloc, sz_setCell, sz_drew, sz_drewN]; omega) | (simp; done) | (simp; omega))) 4).trans (by go_simp; exact rfl)
    have c8_5 := (lcc hb (w.heap.size + 1 + 1) (by (first | omega | (simp only [sz_alloc, sz_setCell, sz_drew, sz_drewN]; omega) | (simp; done) | (simp; omega))) 5).trans (by go_simp; exact rfl)
    have f8 := lcff hb (w.heap.size + 1 + 1) (by (first | omega | (simp only [sz_alloc, sz_setCell, sz_drew, sz_drewN]; omega) | (simp; done) | (simp; omega))) (by intro o; go_simp)
    go_wp2_with fail
    refine (HT.out _).mono ?_
    rintro e' w2 ⟨rfl, hb2⟩
    have s9 := lcs hb2 (w.heap.size + 1 + 1) (by (first | omega | (simp only [sz_alloc, sz_setCell, sz_drew, sz_drewN]; omega) | (simp; done) | (simp; omega)))
    have c9_0 := (lcc hb2 (w.heap.size + 1 + 1) (by (first | omega | (simp only [sz_alloc, sz_setCell, sz_drew, sz_drewN]; omega) | (simp; done) | (simp; omega))) 0).trans (by go_simp; exact rfl)
    have c9_1 := (lcc hb2 (w.heap.size + 1 + 1) (by (first | omega | (simp only [sz_alloc, sz_setCell, sz_drew, sz_drewN]; omega) | (simp; done) | (simp; omega))) 1).trans (by go_simp; exact rfl)
    have c9_2 := (lcc hb2 (w.heap.size + 1 + 1) (by (first | omega | (simp only [sz_alloc, sz_setCell, sz_drew, sz_drewN]; omega) | (simp; done) | (simp; omega))) 2).trans (by go_simp; exact rfl)
    have c9_3 := (lcc hb2 (w.heap.size + 1 + 1) (by (first | omega | (simp only [sz_alloc, sz_setCell, sz_drew, sz_drewN]; omega) | (simp; done) | (simp; omega))) 3).trans (by go_simp; exact rfl)
    have c9_4 := (lcc hb2 (w.heap.size + 1 + 1) (by (first | omega | (simp only [sz_alloc, sz_setCell, sz_drew, sz_drewN]; omega) | (simp; done) | (simp; omega))) 4).trans (by go_simp; exact rfl)
    have c9_5 := (lcc hb2 (w.heap.size + 1 + 1) (by (first | omega | (simp only [sz_alloc, sz_setCell, sz_drew, sz_drewN]; omega) | (simp; done) | (simp; omega))) 5).trans (by go_simp; exact rfl)
    have f9 := lcff hb2 (w.heap.size + 1 + 1) (by (first | omega | (simp only [sz_alloc, sz_setCell, sz_drew, sz_drewN]; omega) | (simp; done) | (simp; omega))) (by intro o; go_simp)
    clear c8_0 c8_1 c8_2 c8_3 c8_4 c8_5 f8
    go_wp2
    refine bodyPost_ret (v := .agg #[.int .i64 (Q).k, .int .i64 (Q).n, .int .i64 (Q).d, .string (Q).t, .bool (Q).b, .int .i64 (Q).f]) (by rw [HF.out]; simp [results, Tryz.results78, go_sem, c9_0, c9_1, c9_2, c9_3, c9_4, c9_5]) rfl ⟨rfl, ?_⟩
    repeat (first | with_reducible exact Below.refl _ _ | with_reducible refine below_drewN ?_ _ | with_reducible refine Below.drew ?_ | with_reducible refine Below.setCell ?_ (by (first | omega | (simp only [sz_alloc, sz_setCell, sz_drew, sz_drewN]; omega) | (simp; done) | (simp; omega))) _ | with_reducible refine Below.alloc ?_ (by (first | omega | (simp only [sz_alloc, sz_setCell, sz_drew, sz_drewN]; omega) | (simp; done) | (simp; omega))) _ | with_reducible refine below_then ?_ ?_ (by with_reducible assumption) | (first | omega | (simp only [sz_alloc, sz_setCell, sz_drew, sz_drewN]; omega) | (simp; done) | (simp; omega)))

theorem asNum_num {n d : Int} (h : rightN n d = true) : asNum (numV n d) = ⟨n, d, blankV⟩ := by
  unfold asNum
  rw [tkV_of (rightV_num.trans h)]
  rfl

set_option maxRecDepth 100000 in
set_option maxHeartbeats 2000000 in
theorem value_Bin11 (n d m e : Int) (w : World) (h1 : rightN n d = true) (h2 : rightN m e = true) :
    Calls Tryz.prog 32 #[.int .i64 11, .agg #[.int .i64 1, .int .i64 n, .int .i64 d, .string ⟨#[]⟩, .bool false, .int .i64 0], .agg #[.int .i64 1, .int .i64 m, .int .i64 e, .string ⟨#[]⟩, .bool false, .int .i64 0]] w fun e' w' => e' = .returned (.agg #[.int .i64 (toldB (add n d m e)).k, .int .i64 (toldB (add n d m e)).n, .int .i64 (toldB (add n d m e)).d, .string (toldB (add n d m e)).t, .bool (toldB (add n d m e)).b, .int .i64 (toldB (add n d m e)).f]) ∧ Below w.heap.size w w' := by
  have x1 : Vl.In ⟨1, n, d, ⟨#[]⟩, false, 0⟩ := right_in (rightV_num.trans h1)
  have x2 : Vl.In ⟨1, m, e, ⟨#[]⟩, false, 0⟩ := right_in (rightV_num.trans h2)
  have t1 : tkV ⟨1, n, d, ⟨#[]⟩, false, 0⟩ = ⟨1, n, d, ⟨#[]⟩, false, 0⟩ := tkV_of (rightV_num.trans h1)
  have t2 : tkV ⟨1, m, e, ⟨#[]⟩, false, 0⟩ = ⟨1, m, e, ⟨#[]⟩, false, 0⟩ := tkV_of (rightV_num.trans h2)
  have HT1 := Lib.hid fun wx => value_taken 1 n d ⟨#[]⟩ false 0 wx x1
  have HT2 := Lib.hid fun wx => value_taken 1 m e ⟨#[]⟩ false 0 wx x2
  rw [t1] at HT1
  rw [t2] at HT2
  have HN1 := Lib.hid fun wx => value_AsNumber 1 n d ⟨#[]⟩ false 0 wx x1
  have HN2 := Lib.hid fun wx => value_AsNumber 1 m e ⟨#[]⟩ false 0 wx x2
  have e1 : asNum ⟨1, n, d, ⟨#[]⟩, false, 0⟩ = ⟨n, d, blankV⟩ := asNum_num h1
  have e2 : asNum ⟨1, m, e, ⟨#[]⟩, false, 0⟩ = ⟨m, e, blankV⟩ := asNum_num h2
  rw [e1] at HN1
  rw [e2] at HN2
  simp only [blankV, noT] at HN1 HN2
  have b1 := rightN_iff.1 h1
  have b2 := rightN_iff.1 h2
  have HR := Lib.hid fun wx => value_reckon11 n d m e wx (I64.of b1.1 b1.2.1) (I64.of (by omega) (by omega)) (I64.of b2.1 b2.2.1) (I64.of (by omega) (by omega))
  generalize toldB (add n d m e) = Q at *
  clear x1 x2 t1 t2 e1 e2 b1 b2 h1 h2
  go_enter Tryz.func32, Tryz.ntmps32
  go_wp2_with fail
  refine region_below 4 (by kernel_rfl) (by kernel_rfl) ?_
  simp only [List.take_succ_cons, List.take_zero, List.drop_succ_cons, List.drop_zero]
  repeat
    first | (refine q_run ?_ ?_; focus (go_simp; done)) | (refine q_skip ?_ ?_; focus (go_simp; done))
    try (apply Exists.intro; refine ⟨fun w' hw' => ?_, ?_⟩; focus (have hc := (bcell hw'.out).1; unfold Oper.quietAt; go_simp; (try go_ints); (first | rfl | (go_at_call 73; refine (HT1.out _).mono ?_; rintro e w2 ⟨rfl, hb⟩; exact ⟨rfl, hw'.chain hb⟩) | (go_at_call 73; refine (HT2.out _).mono ?_; rintro e w2 ⟨rfl, hb⟩; exact ⟨rfl, hw'.chain hb⟩))))
    intro K hK
    go_simp
    refine hK _ ?_
    clear hK K
  refine wpQuiet_nil ?_
  intro w1 hb'
  have hb := hb'.out
  clear hb'
  have s10 := lcs hb (w.heap.size) (by (first | omega | (simp only [sz_alloc, sz_setCell, sz_drew, sz_drewN]; omega) | (simp; done) | (simp; omega)))
  have c10_0 := (lcc hb (w.heap.size) (by (first | omega | (simp only [sz_alloc, sz_setCell, sz_drew, sz_drewN]; omega) | (simp; done) | (simp; omega))) 0).trans (by go_simp; exact rfl)
  have c10_1 := (lcc hb (w.heap.size) (by (first | omega | (simp only [sz_alloc, sz_setCell, sz_drew, sz_drewN]; omega) | (simp; done) | (simp; omega))) 1).trans (by go_simp; exact rfl)
  have c10_2 := (lcc hb (w.heap.size) (by (first | omega | (simp only [sz_alloc, sz_setCell, sz_drew, sz_drewN]; omega) | (simp; done) | (simp; omega))) 2).trans (by go_simp; exact rfl)
  have c10_3 := (lcc hb (w.heap.size) (by (first | omega | (simp only [sz_alloc, sz_setCell, sz_drew, sz_drewN]; omega) | (simp; done) | (simp; omega))) 3).trans (by go_simp; exact rfl)
  have c10_4 := (lcc hb (w.heap.size) (by (first | omega | (simp only [sz_alloc, sz_setCell, sz_drew, sz_drewN]; omega) | (simp; done) | (simp; omega))) 4).trans (by go_simp; exact rfl)
  have c10_5 := (lcc hb (w.heap.size) (by (first | omega | (simp only [sz_alloc, sz_setCell, sz_drew, sz_drewN]; omega) | (simp; done) | (simp; omega))) 5).trans (by go_simp; exact rfl)
  have f10 := lcff hb (w.heap.size) (by (first | omega | (simp only [sz_alloc, sz_setCell, sz_drew, sz_drewN]; omega) | (simp; done) | (simp; omega))) (by intro o; go_simp)
  have s11 := lcs hb (w.heap.size + 1) (by (first | omega | (simp only [sz_alloc, sz_setCell, sz_drew, sz_drewN]; omega) | (simp; done) | (simp; omega)))
  have c11_0 := (lcc hb (w.heap.size + 1) (by (first | omega | (simp only [sz_alloc, sz_setCell, sz_drew, sz_drewN]; omega) | (simp; done) | (simp; omega))) 0).trans (by go_simp; exact rfl)
  have c11_1 := (lcc hb (w.heap.size + 1) (by (first | omega | (simp only [sz_alloc, sz_setCell, sz_drew, sz_drewN]; omega) | (simp; done) | (simp; omega))) 1).trans (by go_simp; exact rfl)
  have c11_2 := (lcc hb (w.heap.size + 1) (by (first | omega | (simp only [sz_alloc, sz_setCell, sz_drew, sz_drewN]; omega) | (simp; done) | (simp; omega))) 2).trans (by go_simp; exact rfl)
  have c11_3 := (lcc hb (w.heap.size + 1) (by (first | omega | (simp only [sz_alloc, sz_setCell, sz_drew, sz_drewN]; omega) | (simp; done) | (simp; omega))) 3).trans (by go_simp; exact rfl)
  have c11_4 := (lcc hb (w.heap.size + 1) (by (first | omega | (simp only [sz_alloc, sz_setCell, sz_drew, sz_drewN]; omega) | (simp; done) | (simp; omega))) 4).trans (by go_simp; exact rfl)
  have c11_5 := (lcc hb (w.heap.size + 1) (by (first | omega | (simp only [sz_alloc, sz_setCell, sz_drew, sz_drewN]; omega) | (simp; done) | (simp; omega))) 5).trans (by go_simp; exact rfl)
  have f11 := lcff hb (w.heap.size + 1) (by (first | omega | (simp only [sz_alloc, sz_setCell, sz_drew, sz_drewN]; omega) | (simp; done) | (simp; omega))) (by intro o; go_simp)
  have s12 := lcs hb (w.heap.size + 1 + 1) (by (first | omega | (simp only [sz_alloc, sz_setCell, sz_drew, sz_drewN]; omega) | (simp; done) | (simp; omega)))
  have c12_0 := (lcc hb (w.heap.size + 1 + 1) (by (first | omega | (simp only [sz_alloc, sz_setCell, sz_drew, sz_drewN]; omega) | (simp; done) | (simp; omega))) 0).trans (by go_simp; exact rfl)
  have c12_1 := (lcc hb (w.heap.size + 1 + 1) (by (first | omega | (simp only [sz_alloc, sz_setCell, sz_drew, sz_drewN]; omega) | (simp; done) | (simp; omega))) 1).trans (by go_simp; exact rfl)
  have c12_2 := (lcc hb (w.heap.size + 1 + 1) (by (first | omega | (simp only [sz_alloc, sz_setCell, sz_drew, sz_drewN]; omega) | (simp; done) | (simp; omega))) 2).trans (by go_simp; exact rfl)
  have c12_3 := (lcc hb (w.heap.size + 1 + 1) (by (first | omega | (simp only [sz_alloc, sz_setCell, sz_drew, sz_drewN]; omega) | (simp; done) | (simp; omega))) 3).trans (by go_simp; exact rfl)
  have c12_4 := (lcc hb (w.heap.size + 1 + 1) (by (first | omega | (simp only [sz_alloc, sz_setCell, sz_drew, sz_drewN]; omega) | (simp; done) | (simp; omega))) 4).trans (by go_simp; exact rfl)
  have c12_5 := (lcc hb (w.heap.size + 1 + 1) (by (first | omega | (simp only [sz_alloc, sz_setCell, sz_drew, sz_drewN]; omega) | (simp; done) | (simp; omega))) 5).trans (by go_simp; exact rfl)
  have f12 := lcff hb (w.heap.size + 1 + 1) (by (first | omega | (simp only [sz_alloc, sz_setCell, sz_drew, sz_drewN]; omega) | (simp; done) | (simp; omega))) (by intro o; go_simp)
  go_upto_region 4 with (fail)
  first | with_reducible refine wp_rebase ?_ | with_reducible refine wpList_rebase ?_
  intro w1 hb'
  have hb := hb'.out
  clear hb'
  have s13 := lcs hb (w.heap.size) (by (first | omega | (simp only [sz_alloc, sz_setCell, sz_drew, sz_drewN]; omega) | (simp; done) | (simp; omega)))
  have c13_0 := (lcc hb (w.heap.size) (by (first | omega | (simp only [sz_alloc, sz_setCell, sz_drew, sz_drewN]; omega) | (simp; done) | (simp; omega))) 0).trans (by go_simp; exact rfl)
  have c13_1 := (lcc hb (w.heap.size) (by (first | omega | (simp only [sz_alloc, sz_setCell, sz_drew, sz_drewN]; omega) | (simp; done) | (simp; omega))) 1).trans (by go_simp; exact rfl)
  have c13_2 := (lcc hb (w.heap.size) (by (first | omega | (simp only [sz_alloc, sz_setCell, sz_drew, sz_drewN]; omega) | (simp; done) | (simp; omega))) 2).trans (by go_simp; exact rfl)
  have c13_3 := (lcc hb (w.heap.size) (by (first | omega | (simp only [sz_alloc, sz_setCell, sz_drew, sz_drewN]; omega) | (simp; done) | (simp; omega))) 3).trans (by go_simp; exact rfl)
  have c13_4 := (lcc hb (w.heap.size) (by (first | omega | (simp only [sz_alloc, sz_setCell, sz_drew, sz_drewN]; omega) | (simp; done) | (simp; omega))) 4).trans (by go_simp; exact rfl)
  have c13_5 := (lcc hb (w.heap.size) (by (first | omega | (simp only [sz_alloc, sz_setCell, sz_drew, sz_drewN]; omega) | (simp; done) | (simp; omega))) 5).trans (by go_simp; exact rfl)
  have f13 := lcff hb (w.heap.size) (by (first | omega | (simp only [sz_alloc, sz_setCell, sz_drew, sz_drewN]; omega) | (simp; done) | (simp; omega))) (by intro o; go_simp)
  have s14 := lcs hb (w.heap.size + 1) (by (first | omega | (simp only [sz_alloc, sz_setCell, sz_drew, sz_drewN]; omega) | (simp; done) | (simp; omega)))
  have c14_0 := (lcc hb (w.heap.size + 1) (by (first | omega | (simp only [sz_alloc, sz_setCell, sz_drew, sz_drewN]; omega) | (simp; done) | (simp; omega))) 0).trans (by go_simp; exact rfl)
  have c14_1 := (lcc hb (w.heap.size + 1) (by (first | omega | (simp only [sz_alloc, sz_setCell, sz_drew, sz_drewN]; omega) | (simp; done) | (simp; omega))) 1).trans (by go_simp; exact rfl)
  have c14_2 := (lcc hb (w.heap.size + 1) (by (first | omega | (simp only [sz_alloc, sz_setCell, sz_drew, sz_drewN]; omega) | (simp; done) | (simp; omega))) 2).trans (by go_simp; exact rfl)
  have c14_3 := (lcc hb (w.heap.size + 1) (by (first | omega | (simp only [sz_alloc, sz_setCell, sz_drew, sz_drewN]; omega) | (simp; done) | (simp; omega))) 3).trans (by go_simp; exact rfl)
  have c14_4 := (lcc hb (w.heap.size + 1) (by (first | omega | (simp only [sz_alloc, sz_setCell, sz_drew, sz_drewN]; omega) | (simp; done) | (simp; omega))) 4).trans (by go_simp; exact rfl)
  have c14_5 := (lcc hb (w.heap.size + 1) (by (first | omega | (simp only [sz_alloc, sz_setCell, sz_drew, sz_drewN]; omega) | (simp; done) | (simp; omega))) 5).trans (by go_simp; exact rfl)
  have f14 := lcff hb (w.heap.size + 1) (by (first | omega | (simp only [sz_alloc, sz_setCell, sz_drew, sz_drewN]; omega) | (simp; done) | (simp; omega))) (by intro o; go_simp)
  have s15 := lcs hb (w.heap.size + 1 + 1) (by (first | omega | (simp only [sz_alloc, sz_setCell, sz_drew, sz_drewN]; omega) | (simp; done) | (simp; omega)))
  have c15_0 := (lcc hb (w.heap.size + 1 + 1) (by (first | omega | (simp only [sz_alloc, sz_setCell, sz_drew, sz_drewN]; omega) | (simp; done) | (simp; omega))) 0).trans (by go_simp; exact rfl)
  have c15_1 := (lcc hb (w.heap.size + 1 + 1) (by (first | omega | (simp only [sz_alloc, sz_setCell, sz_drew, sz_drewN]; omega) | (simp; done) | (simp; omega))) 1).trans (by go_simp; exact rfl)
  have c15_2 := (lcc hb (w.heap.size + 1 + 1) (by (first | omega | (simp only [sz_alloc, sz_setCell, sz_drew, sz_drewN]; omega) | (simp; done) | (simp; omega))) 2).trans (by go_simp; exact rfl)
  have c15_3 := (lcc hb (w.heap.size + 1 + 1) (by (first | omega | (simp only [sz_alloc, sz_setCell, sz_drew, sz_drewN]; omega) | (simp; done) | (simp; omega))) 3).trans (by go_simp; exact rfl)
  have c15_4 := (lcc hb (w.heap.size + 1 + 1) (by (first | omega | (simp only [sz_alloc, sz_setCell, sz_drew, sz_drewN]; omega) | (simp; done) | (simp; omega))) 4).trans (by go_simp; exact rfl)
  have c15_5 := (lcc hb (w.heap.size + 1 + 1) (by (first | omega | (simp only [sz_alloc, sz_setCell, sz_drew, sz_drewN]; omega) | (simp; done) | (simp; omega))) 5).trans (by go_simp; exact rfl)
  have f15 := lcff hb (w.heap.size + 1 + 1) (by (first | omega | (simp only [sz_alloc, sz_setCell, sz_drew, sz_drewN]; omega) | (simp; done) | (simp; omega))) (by intro o; go_simp)
  clear c10_0 c10_1 c10_2 c10_3 c10_4 c10_5 f10 c11_0 c11_1 c11_2 c11_3 c11_4 c11_5 f11 c12_0 c12_1 c12_2 c12_3 c12_4 c12_5 f12
  go_wp2_with fail
  refine (HN1.out _).mono ?_
  rintro e' w2 ⟨rfl, hb2⟩
  have s16 := lcs hb2 (w.heap.size) (by (first | omega | (simp only [sz_alloc, sz_setCell, sz_drew, sz_drewN]; omega) | (simp; done) | (simp; omega)))
  have c16_0 := (lcc hb2 (w.heap.size) (by (first | omega | (simp only [sz_alloc, sz_setCell, sz_drew, sz_drewN]; omega) | (simp; done) | (simp; omega))) 0).trans (by go_simp; exact rfl)
  have c16_1 := (lcc hb2 (w.heap.size) (by (first | omega | (simp only [sz_alloc, sz_setCell, sz_drew, sz_drewN]; omega) | (simp; done) | (simp; omega))) 1).trans (by go_simp; exact rfl)
  have c16_2 := (lcc hb2 (w.heap.size) (by (first | omega | (simp only [sz_alloc, sz_setCell, sz_drew, sz_drewN]; omega) | (simp; done) | (simp; omega))) 2).trans (by go_simp; exact rfl)
  have c16_3 := (lcc hb2 (w.heap.size) (by (first | omega | (simp only [sz_alloc, sz_setCell, sz_drew, sz_drewN]; omega) | (simp; done) | (simp; omega))) 3).trans (by go_simp; exact rfl)
  have c16_4 := (lcc hb2 (w.heap.size) (by (first | omega | (simp only [sz_alloc, sz_setCell, sz_drew, sz_drewN]; omega) | (simp; done) | (simp; omega))) 4).trans (by go_simp; exact rfl)
  have c16_5 := (lcc hb2 (w.heap.size) (by (first | omega | (simp only [sz_alloc, sz_setCell, sz_drew, sz_drewN]; omega) | (simp; done) | (simp; omega))) 5).trans (by go_simp; exact rfl)
  have f16 := lcff hb2 (w.heap.size) (by (first | omega | (simp only [sz_alloc, sz_setCell, sz_drew, sz_drewN]; omega) | (simp; done) | (simp; omega))) (by intro o; go_simp)
  have s17 := lcs hb2 (w.heap.size + 1) (by (first | omega | (simp only [sz_alloc, sz_setCell, sz_drew, sz_drewN]; omega) | (simp; done) | (simp; omega)))
  have c17_0 := (lcc hb2 (w.heap.size + 1) (by (first | omega | (simp only [sz_alloc, sz_setCell, sz_drew, sz_drewN]; omega) | (simp; done) | (simp; omega))) 0).trans (by go_simp; exact rfl)
  have c17_1 := (lcc hb2 (w.heap.size + 1) (by (first | omega | (simp only [sz_alloc, sz_setCell, sz_drew, sz_drewN]; omega) | (simp; done) | (simp; omega))) 1).trans (by go_simp; exact rfl)
  have c17_2 := (lcc hb2 (w.heap.size + 1) (by (first | omega | (simp only [sz_alloc, sz_setCell, sz_drew, sz_drewN]; omega) | (simp; done) | (simp; omega))) 2).trans (by go_simp; exact rfl)
  have c17_3 := (lcc hb2 (w.heap.size + 1) (by (first | omega | (simp only [sz_alloc, sz_setCell, sz_drew, sz_drewN]; omega) | (simp; done) | (simp; omega))) 3).trans (by go_simp; exact rfl)
  have c17_4 := (lcc hb2 (w.heap.size + 1) (by (first | omega | (simp only [sz_alloc, sz_setCell, sz_drew, sz_drewN]; omega) | (simp; done) | (simp; omega))) 4).trans (by go_simp; exact rfl)
  have c17_5 := (lcc hb2 (w.heap.size + 1) (by (first | omega | (simp only [sz_alloc, sz_setCell, sz_drew, sz_drewN]; omega) | (simp; done) | (simp; omega))) 5).trans (by go_simp; exact rfl)
  have f17 := lcff hb2 (w.heap.size + 1) (by (first | omega | (simp only [sz_alloc, sz_setCell, sz_drew, sz_drewN]; omega) | (simp; done) | (simp; omega))) (by intro o; go_simp)
  have s18 := lcs hb2 (w.heap.size + 1 + 1) (by (first | omega | (simp only [sz_alloc, sz_setCell, sz_drew, sz_drewN]; omega) | (simp; done) | (simp; omega)))
  have c18_0 := (lcc hb2 (w.heap.size + 1 + 1) (by (first | omega | (simp only [sz_alloc, sz_setCell, sz_drew, sz_drewN]; omega) | (simp; done) | (simp; omega))) 0).trans (by go_simp; exact rfl)
  have c18_1 := (lcc hb2 (w.heap.size + 1 + 1) (by (first | omega | (simp only [sz_alloc, sz_setCell, sz_drew, sz_drewN]; omega) | (simp; done) | (simp; omega))) 1).trans (by go_simp; exact rfl)
  have c18_2 := (lcc hb2 (w.heap.size + 1 + 1) (by (first | omega | (simp only [sz_alloc, sz_setCell, sz_drew, sz_drewN]; omega) | (simp; done) | (simp; omega))) 2).trans (by go_simp; exact rfl)
  have c18_3 := (lcc hb2 (w.heap.size + 1 + 1) (by (first | omega | (simp only [sz_alloc, sz_setCell, sz_drew, sz_drewN]; omega) | (simp; done) | (simp; omega))) 3).trans (by go_simp; exact rfl)
  have c18_4 := (lcc hb2 (w.heap.size + 1 + 1) (by (first | omega | (simp only [sz_alloc, sz_setCell, sz_drew, sz_drewN]; omega) | (simp; done) | (simp; omega))) 4).trans (by go_simp; exact rfl)
  have c18_5 := (lcc hb2 (w.heap.size + 1 + 1) (by (first | omega | (simp only [sz_alloc, sz_setCell, sz_drew, sz_drewN]; omega) | (simp; done) | (simp; omega))) 5).trans (by go_simp; exact rfl)
  have f18 := lcff hb2 (w.heap.size + 1 + 1) (by (first | omega | (simp only [sz_alloc, sz_setCell, sz_drew, sz_drewN]; omega) | (simp; done) | (simp; omega))) (by intro o; go_simp)
  clear c13_0 c13_1 c13_2 c13_3 c13_4 c13_5 f13 c14_0 c14_1 c14_2 c14_3 c14_4 c14_5 f14 c15_0 c15_1 c15_2 c15_3 c15_4 c15_5 f15
  go_upto_region 15 with (fail)
  first | with_reducible refine wp_rebase ?_ | with_reducible refine wpList_rebase ?_
  intro w1 hb'
  have hb := hb'.out
  clear hb'
  have s19 := lcs hb (w.heap.size + 1) (by (first | omega | (simp only [sz_alloc, sz_setCell, sz_drew, sz_drewN]; omega) | (simp; done) | (simp; omega)))
  have c19_0 := (lcc hb (w.heap.size + 1) (by (first | omega | (simp only [sz_alloc, sz_setCell, sz_drew, sz_drewN]; omega) | (simp; done) | (simp; omega))) 0).trans (by go_simp; exact rfl)
  have c19_1 := (lcc hb (w.heap.size + 1) (by (first | omega | (simp only [sz_alloc, sz_setCell, sz_drew, sz_drewN]; omega) | (simp; done) | (simp; omega))) 1).trans (by go_simp; exact rfl)
  have c19_2 := (lcc hb (w.heap.size + 1) (by (first | omega | (simp only [sz_alloc, sz_setCell, sz_drew, sz_drewN]; omega) | (simp; done) | (simp; omega))) 2).trans (by go_simp; exact rfl)
  have c19_3 := (lcc hb (w.heap.size + 1) (by (first | omega | (simp only [sz_alloc, sz_setCell, sz_drew, sz_drewN]; omega) | (simp; done) | (simp; omega))) 3).trans (by go_simp; exact rfl)
  have c19_4 := (lcc hb (w.heap.size + 1) (by (first | omega | (simp only [sz_alloc, sz_setCell, sz_drew, sz_drewN]; omega) | (simp; done) | (simp; omega))) 4).trans (by go_simp; exact rfl)
  have c19_5 := (lcc hb (w.heap.size + 1) (by (first | omega | (simp only [sz_alloc, sz_setCell, sz_drew, sz_drewN]; omega) | (simp; done) | (simp; omega))) 5).trans (by go_simp; exact rfl)
  have f19 := lcff hb (w.heap.size + 1) (by (first | omega | (simp only [sz_alloc, sz_setCell, sz_drew, sz_drewN]; omega) | (simp; done) | (simp; omega))) (by intro o; go_simp)
  have s20 := lcs hb (w.heap.size + 1 + 1) (by (first | omega | (simp only [sz_alloc, sz_setCell, sz_drew, sz_drewN]; omega) | (simp; done) | (simp; omega)))
  have c20_0 := (lcc hb (w.heap.size + 1 + 1) (by (first | omega | (simp only [sz_alloc, sz_setCell, sz_drew, sz_drewN]; omega) | (simp; done) | (simp; omega))) 0).trans (by go_simp; exact rfl)
  have c20_1 := (lcc hb (w.heap.size + 1 + 1) (by (first | omega | (simp only [sz_alloc, sz_setCell, sz_drew, sz_drewN]; omega) | (simp; done) | (simp; omega))) 1).trans (by go_simp; exact rfl)
  have c20_2 := (lcc hb (w.heap.size + 1 + 1) (by (first | omega | (simp only [sz_alloc, sz_setCell, sz_drew, sz_drewN]; omega) | (simp; done) | (simp; omega))) 2).trans (by go_simp; exact rfl)
  have c20_3 := (lcc hb (w.heap.size + 1 + 1) (by (first | omega | (simp only [sz_alloc, sz_setCell, sz_drew, sz_drewN]; omega) | (simp; done) | (simp; omega))) 3).trans (by go_simp; exact rfl)
  have c20_4 := (lcc hb (w.heap.size + 1 + 1) (by (first | omega | (simp only [sz_alloc, sz_setCell, sz_drew, sz_drewN]; omega) | (simp; done) | (simp; omega))) 4).trans (by go_simp; exact rfl)
  have c20_5 := (lcc hb (w.heap.size + 1 + 1) (by (first | omega | (simp only [sz_alloc, sz_setCell, sz_drew, sz_drewN]; omega) | (simp; done) | (simp; omega))) 5).trans (by go_simp; exact rfl)
  have f20 := lcff hb (w.heap.size + 1 + 1) (by (first | omega | (simp only [sz_alloc, sz_setCell, sz_drew, sz_drewN]; omega) | (simp; done) | (simp; omega))) (by intro o; go_simp)
  have s21 := lcs hb (w2.heap.size) (by (first | omega | (simp only [sz_alloc, sz_setCell, sz_drew, sz_drewN]; omega) | (simp; done) | (simp; omega)))
  have c21_0 := (lcc hb (w2.heap.size) (by (first | omega | (simp only [sz_alloc, sz_setCell, sz_drew, sz_drewN]; omega) | (simp; done) | (simp; omega))) 0).trans (by go_simp; exact rfl)
  have c21_1 := (lcc hb (w2.heap.size) (by (first | omega | (simp only [sz_alloc, sz_setCell, sz_drew, sz_drewN]; omega) | (simp; done) | (simp; omega))) 1).trans (by go_simp; exact rfl)
  have f21 := lcff hb (w2.heap.size) (by (first | omega | (simp only [sz_alloc, sz_setCell, sz_drew, sz_drewN]; omega) | (simp; done) | (simp; omega))) (by intro o; go_simp)
  have s22 := lcs hb (w2.heap.size + 1) (by (first | omega | (simp only [sz_alloc, sz_setCell, sz_drew, sz_drewN]; omega) | (simp; done) | (simp; omega)))
  have c22_0 := (lcc hb (w2.heap.size + 1) (by (first | omega | (simp only [sz_alloc, sz_setCell, sz_drew, sz_drewN]; omega) | (simp; done) | (simp; omega))) 0).trans (by go_simp; exact rfl)
  have c22_1 := (lcc hb (w2.heap.size + 1) (by (first | omega | (simp only [sz_alloc, sz_setCell, sz_drew, sz_drewN]; omega) | (simp; done) | (simp; omega))) 1).trans (by go_simp; exact rfl)
  have c22_2 := (lcc hb (w2.heap.size + 1) (by (first | omega | (simp only [sz_alloc, sz_setCell, sz_drew, sz_drewN]; omega) | (simp; done) | (simp; omega))) 2).trans (by go_simp; exact rfl)
  have c22_3 := (lcc hb (w2.heap.size + 1) (by (first | omega | (simp only [sz_alloc, sz_setCell, sz_drew, sz_drewN]; omega) | (simp; done) | (simp; omega))) 3).trans (by go_simp; exact rfl)
  have c22_4 := (lcc hb (w2.heap.size + 1) (by (first | omega | (simp only [sz_alloc, sz_setCell, sz_drew, sz_drewN]; omega) | (simp; done) | (simp; omega))) 4).trans (by go_simp; exact rfl)
  have c22_5 := (lcc hb (w2.heap.size + 1) (by (first | omega | (simp only [sz_alloc, sz_setCell, sz_drew, sz_drewN]; omega) | (simp; done) | (simp; omega))) 5).trans (by go_simp; exact rfl)
  have f22 := lcff hb (w2.heap.size + 1) (by (first | omega | (simp only [sz_alloc, sz_setCell, sz_drew, sz_drewN]; omega) | (simp; done) | (simp; omega))) (by intro o; go_simp)
  clear c16_0 c16_1 c16_2 c16_3 c16_4 c16_5 f16 c17_0 c17_1 c17_2 c17_3 c17_4 c17_5 f17 c18_0 c18_1 c18_2 c18_3 c18_4 c18_5 f18
  go_wp2_with fail
  refine (HN2.out _).mono ?_
  rintro e' w3 ⟨rfl, hb3⟩
  have s23 := lcs hb3 (w.heap.size + 1 + 1) (by (first | omega | (simp only [sz_alloc, sz_setCell, sz_drew, sz_drewN]; omega) | (simp; done) | (simp; omega)))
  have c23_0 := (lcc hb3 (w.heap.size + 1 + 1) (by (first | omega | (simp only [sz_alloc, sz_setCell, sz_drew, sz_drewN]; omega) | (simp; done) | (simp; omega))) 0).trans (by go_simp; exact rfl)
  have c23_1 := (lcc hb3 (w.heap.size + 1 + 1) (by (first | omega | (simp only [sz_alloc, sz_setCell, sz_drew, sz_drewN]; omega) | (simp; done) | (simp; omega))) 1).trans (by go_simp; exact rfl)
  have c23_2 := (lcc hb3 (w.heap.size + 1 + 1) (by (first | omega | (simp only [sz_alloc, sz_setCell, sz_drew, sz_drewN]; omega) | (simp; done) | (simp; omega))) 2).trans (by go_simp; exact rfl)
  have c23_3 := (lcc hb3 (w.heap.size + 1 + 1) (by (first | omega | (simp only [sz_alloc, sz_setCell, sz_drew, sz_drewN]; omega) | (simp; done) | (simp; omega))) 3).trans (by go_simp; exact rfl)
  have c23_4 := (lcc hb3 (w.heap.size + 1 + 1) (by (first | omega | (simp only [sz_alloc, sz_setCell, sz_drew, sz_drewN]; omega) | (simp; done) | (simp; omega))) 4).trans (by go_simp; exact rfl)
  have c23_5 := (lcc hb3 (w.heap.size + 1 + 1) (by (first | omega | (simp only [sz_alloc, sz_setCell, sz_drew, sz_drewN]; omega) | (simp; done) | (simp; omega))) 5).trans (by go_simp; exact rfl)
  have f23 := lcff hb3 (w.heap.size + 1 + 1) (by (first | omega | (simp only [sz_alloc, sz_setCell, sz_drew, sz_drewN]; omega) | (simp; done) | (simp; omega))) (by intro o; go_simp)
  have s24 := lcs hb3 (w2.heap.size) (by (first | omega | (simp only [sz_alloc, sz_setCell, sz_drew, sz_drewN]; omega) | (simp; done) | (simp; omega)))
  have c24_0 := (lcc hb3 (w2.heap.size) (by (first | omega | (simp only [sz_alloc, sz_setCell, sz_drew, sz_drewN]; omega) | (simp; done) | (simp; omega))) 0).trans (by go_simp; exact rfl)
  have c24_1 := (lcc hb3 (w2.heap.size) (by (first | omega | (simp only [sz_alloc, sz_setCell, sz_drew, sz_drewN]; omega) | (simp; done) | (simp; omega))) 1).trans (by go_simp; exact rfl)
  have f24 := lcff hb3 (w2.heap.size) (by (first | omega | (simp only [sz_alloc, sz_setCell, sz_drew, sz_drewN]; omega) | (simp; done) | (simp; omega))) (by intro o; go_simp)
  have s25 := lcs hb3 (w2.heap.size + 1) (by (first | omega | (simp only [sz_alloc, sz_setCell, sz_drew, sz_drewN]; omega) | (simp; done) | (simp; omega)))
  have c25_0 := (lcc hb3 (w2.heap.size + 1) (by (first | omega | (simp only [sz_alloc, sz_setCell, sz_drew, sz_drewN]; omega) | (simp; done) | (simp; omega))) 0).trans (by go_simp; exact rfl)
  have c25_1 := (lcc hb3 (w2.heap.size + 1) (by (first | omega | (simp only [sz_alloc, sz_setCell, sz_drew, sz_drewN]; omega) | (simp; done) | (simp; omega))) 1).trans (by go_simp; exact rfl)
  have c25_2 := (lcc hb3 (w2.heap.size + 1) (by (first | omega | (simp only [sz_alloc, sz_setCell, sz_drew, sz_drewN]; omega) | (simp; done) | (simp; omega))) 2).trans (by go_simp; exact rfl)
  have c25_3 := (lcc hb3 (w2.heap.size + 1) (by (first | omega | (simp only [sz_alloc, sz_setCell, sz_drew, sz_drewN]; omega) | (simp; done) | (simp; omega))) 3).trans (by go_simp; exact rfl)
  have c25_4 := (lcc hb3 (w2.heap.size + 1) (by (first | omega | (simp only [sz_alloc, sz_setCell, sz_drew, sz_drewN]; omega) | (simp; done) | (simp; omega))) 4).trans (by go_simp; exact rfl)
  have c25_5 := (lcc hb3 (w2.heap.size + 1) (by (first | omega | (simp only [sz_alloc, sz_setCell, sz_drew, sz_drewN]; omega) | (simp; done) | (simp; omega))) 5).trans (by go_simp; exact rfl)
  have f25 := lcff hb3 (w2.heap.size + 1) (by (first | omega | (simp only [sz_alloc, sz_setCell, sz_drew, sz_drewN]; omega) | (simp; done) | (simp; omega))) (by intro o; go_simp)
  clear c19_0 c19_1 c19_2 c19_3 c19_4 c19_5 f19 c20_0 c20_1 c20_2 c20_3 c20_4 c20_5 f20 c21_0 c21_1 f21 c22_0 c22_1 c22_2 c22_3 c22_4 c22_5 f22
  go_wp2_with fail
  refine (HR.out _).mono ?_
  rintro e' w4 ⟨rfl, hb4⟩
  have s26 := lcs hb4 (w.heap.size + 1 + 1) (by (first | omega | (simp only [sz_alloc, sz_setCell, sz_drew, sz_drewN]; omega) | (simp; done) | (simp; omega)))
  have c26_0 := (lcc hb4 (w.heap.size + 1 + 1) (by (first | omega | (simp only [sz_alloc, sz_setCell, sz_drew, sz_drewN]; omega) | (simp; done) | (simp; omega))) 0).trans (by go_simp; exact rfl)
  have c26_1 := (lcc hb4 (w.heap.size + 1 + 1) (by (first | omega | (simp only [sz_alloc, sz_setCell, sz_drew, sz_drewN]; omega) | (simp; done) | (simp; omega))) 1).trans (by go_simp; exact rfl)
  have c26_2 := (lcc hb4 (w.heap.size + 1 + 1) (by (first | omega | (simp only [sz_alloc, sz_setCell, sz_drew, sz_drewN]; omega) | (simp; done) | (simp; omega))) 2).trans (by go_simp; exact rfl)
  have c26_3 := (lcc hb4 (w.heap.size + 1 + 1) (by (first | omega | (simp only [sz_alloc, sz_setCell, sz_drew, sz_drewN]; omega) | (simp; done) | (simp; omega))) 3).trans (by go_simp; exact rfl)
  have c26_4 := (lcc hb4 (w.heap.size + 1 + 1) (by (first | omega | (simp only [sz_alloc, sz_setCell, sz_drew, sz_drewN]; omega) | (simp; done) | (simp; omega))) 4).trans (by go_simp; exact rfl)
  have c26_5 := (lcc hb4 (w.heap.size + 1 + 1) (by (first | omega | (simp only [sz_alloc, sz_setCell, sz_drew, sz_drewN]; omega) | (simp; done) | (simp; omega))) 5).trans (by go_simp; exact rfl)
  have f26 := lcff hb4 (w.heap.size + 1 + 1) (by (first | omega | (simp only [sz_alloc, sz_setCell, sz_drew, sz_drewN]; omega) | (simp; done) | (simp; omega))) (by intro o; go_simp)
  clear c23_0 c23_1 c23_2 c23_3 c23_4 c23_5 f23 c24_0 c24_1 f24 c25_0 c25_1 c25_2 c25_3 c25_4 c25_5 f25
  go_wp2
  refine bodyPost_ret (v := .agg #[.int .i64 (Q).k, .int .i64 (Q).n, .int .i64 (Q).d, .string (Q).t, .bool (Q).b, .int .i64 (Q).f]) (by simp [results, Tryz.results32, go_sem, c26_0, c26_1, c26_2, c26_3, c26_4, c26_5]) rfl ⟨rfl, ?_⟩
  repeat (first | with_reducible exact Below.refl _ _ | with_reducible refine below_drewN ?_ _ | with_reducible refine Below.drew ?_ | with_reducible refine Below.setCell ?_ (by (first | omega | (simp only [sz_alloc, sz_setCell, sz_drew, sz_drewN]; omega) | (simp; done) | (simp; omega))) _ | with_reducible refine Below.alloc ?_ (by (first | omega | (simp only [sz_alloc, sz_setCell, sz_drew, sz_drewN]; omega) | (simp; done) | (simp; omega))) _ | with_reducible refine below_then ?_ ?_ (by with_reducible assumption) | (first | omega | (simp only [sz_alloc, sz_setCell, sz_drew, sz_drewN]; omega) | (simp; done) | (simp; omega)))
set_option maxRecDepth 100000 in
set_option maxHeartbeats 2000000 in
theorem value_Bin12 (n d m e : Int) (w : World) (h1 : rightN n d = true) (h2 : rightN m e = true) :
    Calls Tryz.prog 32 #[.int .i64 12, .agg #[.int .i64 1, .int .i64 n, .int .i64 d, .string ⟨#[]⟩, .bool false, .int .i64 0], .agg #[.int .i64 1, .int .i64 m, .int .i64 e, .string ⟨#[]⟩, .bool false, .int .i64 0]] w fun e' w' => e' = .returned (.agg #[.int .i64 (toldB (sub n d m e)).k, .int .i64 (toldB (sub n d m e)).n, .int .i64 (toldB (sub n d m e)).d, .string (toldB (sub n d m e)).t, .bool (toldB (sub n d m e)).b, .int .i64 (toldB (sub n d m e)).f]) ∧ Below w.heap.size w w' := by
  have x1 : Vl.In ⟨1, n, d, ⟨#[]⟩, false, 0⟩ := right_in (rightV_num.trans h1)
  have x2 : Vl.In ⟨1, m, e, ⟨#[]⟩, false, 0⟩ := right_in (rightV_num.trans h2)
  have t1 : tkV ⟨1, n, d, ⟨#[]⟩, false, 0⟩ = ⟨1, n, d, ⟨#[]⟩, false, 0⟩ := tkV_of (rightV_num.trans h1)
  have t2 : tkV ⟨1, m, e, ⟨#[]⟩, false, 0⟩ = ⟨1, m, e, ⟨#[]⟩, false, 0⟩ := tkV_of (rightV_num.trans h2)
  have HT1 := Lib.hid fun wx => value_taken 1 n d ⟨#[]⟩ false 0 wx x1
  have HT2 := Lib.hid fun wx => value_taken 1 m e ⟨#[]⟩ false 0 wx x2
  rw [t1] at HT1
  rw [t2] at HT2
  have HN1 := Lib.hid fun wx => value_AsNumber 1 n d ⟨#[]⟩ false 0 wx x1
  have HN2 := Lib.hid fun wx => value_AsNumber 1 m e ⟨#[]⟩ false 0 wx x2
  have e1 : asNum ⟨1, n, d, ⟨#[]⟩, false, 0⟩ = ⟨n, d, blankV⟩ := asNum_num h1
  have e2 : asNum ⟨1, m, e, ⟨#[]⟩, false, 0⟩ = ⟨m, e, blankV⟩ := asNum_num h2
  rw [e1] at HN1
  rw [e2] at HN2
  simp only [blankV, noT] at HN1 HN2
  have b1 := rightN_iff.1 h1
  have b2 := rightN_iff.1 h2
  have HR := Lib.hid fun wx => value_reckon12 n d m e wx (I64.of b1.1 b1.2.1) (I64.of (by omega) (by omega)) (I64.of b2.1 b2.2.1) (I64.of (by omega) (by omega))
  generalize toldB (sub n d m e) = Q at *
  clear x1 x2 t1 t2 e1 e2 b1 b2 h1 h2
  go_enter Tryz.func32, Tryz.ntmps32
  go_wp2_with fail
  refine region_below 4 (by kernel_rfl) (by kernel_rfl) ?_
  simp only [List.take_succ_cons, List.take_zero, List.drop_succ_cons, List.drop_zero]
  repeat
    first | (refine q_run ?_ ?_; focus (go_simp; done)) | (refine q_skip ?_ ?_; focus (go_simp; done))
    try (apply Exists.intro; refine ⟨fun w' hw' => ?_, ?_⟩; focus (have hc := (bcell hw'.out).1; unfold Oper.quietAt; go_simp; (try go_ints); (first | rfl | (go_at_call 73; refine (HT1.out _).mono ?_; rintro e w2 ⟨rfl, hb⟩; exact ⟨rfl, hw'.chain hb⟩) | (go_at_call 73; refine (HT2.out _).mono ?_; rintro e w2 ⟨rfl, hb⟩; exact ⟨rfl, hw'.chain hb⟩))))
    intro K hK
    go_simp
    refine hK _ ?_
    clear hK K
  refine wpQuiet_nil ?_
  intro w1 hb'
  have hb := hb'.out
  clear hb'
  have s27 := lcs hb (w.heap.size) (by (first | omega | (simp only [sz_alloc, sz_setCell, sz_drew, sz_drewN]; omega) | (simp; done) | (simp; omega)))
  have c27_0 := (lcc hb (w.heap.size) (by (first | omega | (simp only [sz_alloc, sz_setCell, sz_drew, sz_drewN]; omega) | (simp; done) | (simp; omega))) 0).trans (by go_simp; exact rfl)
  have c27_1 := (lcc hb (w.heap.size) (by (first | omega | (simp only [sz_alloc, sz_setCell, sz_drew, sz_drewN]; omega) | (simp; done) | (simp; omega))) 1).trans (by go_simp; exact rfl)
  have c27_2 := (lcc hb (w.heap.size) (by (first | omega | (simp only [sz_alloc, sz_setCell, sz_drew, sz_drewN]; omega) | (simp; done) | (simp; omega))) 2).trans (by go_simp; exact rfl)
  have c27_3 := (lcc hb (w.heap.size) (by (first | omega | (simp only [sz_alloc, sz_setCell, sz_drew, sz_drewN]; omega) | (simp; done) | (simp; omega))) 3).trans (by go_simp; exact rfl)
  have c27_4 := (lcc hb (w.heap.size) (by (first | omega | (simp only [sz_alloc, sz_setCell, sz_drew, sz_drewN]; omega) | (simp; done) | (simp; omega))) 4).trans (by go_simp; exact rfl)
  have c27_5 := (lcc hb (w.heap.size) (by (first | omega | (simp only [sz_alloc, sz_setCell, sz_drew, sz_drewN]; omega) | (simp; done) | (simp; omega))) 5).trans (by go_simp; exact rfl)
  have f27 := lcff hb (w.heap.size) (by (first | omega | (simp only [sz_alloc, sz_setCell, sz_drew, sz_drewN]; omega) | (simp; done) | (simp; omega))) (by intro o; go_simp)
  have s28 := lcs hb (w.heap.size + 1) (by (first | omega | (simp only [sz_alloc, sz_setCell, sz_drew, sz_drewN]; omega) | (simp; done) | (simp; omega)))
  have c28_0 := (lcc hb (w.heap.size + 1) (by (first | omega | (simp only [sz_alloc, sz_setCell, sz_drew, sz_drewN]; omega) | (simp; done) | (simp; omega))) 0).trans (by go_simp; exact rfl)
  have c28_1 := (lcc hb (w.heap.size + 1) (by (first | omega | (simp only [sz_alloc, sz_setCell, sz_drew, sz_drewN]; omega) | (simp; done) | (simp; omega))) 1).trans (by go_simp; exact rfl)
  have c28_2 := (lcc hb (w.heap.size + 1) (by (first | omega | (simp only [sz_alloc, sz_setCell, sz_drew, sz_drewN]; omega) | (simp; done) | (simp; omega))) 2).trans (by go_simp; exact rfl)
  have c28_3 := (lcc hb (w.heap.size + 1) (by (first | omega | (simp only [sz_alloc, sz_setCell, sz_drew, sz_drewN]; omega) | (simp; done) | (simp; omega))) 3).trans (by go_simp; exact rfl)
  have c28_4 := (lcc hb (w.heap.size + 1) (by (first | omega | (simp only [sz_alloc, sz_setCell, sz_drew, sz_drewN]; omega) | (simp; done) | (simp; omega))) 4).trans (by go_simp; exact rfl)
  have c28_5 := (lcc hb (w.heap.size + 1) (by (first | omega | (simp only [sz_alloc, sz_setCell, sz_drew, sz_drewN]; omega) | (simp; done) | (simp; omega))) 5).trans (by go_simp; exact rfl)
  have f28 := lcff hb (w.heap.size + 1) (by (first | omega | (simp only [sz_alloc, sz_setCell, sz_drew, sz_drewN]; omega) | (simp; done) | (simp; omega))) (by intro o; go_simp)
  have s29 := lcs hb (w.heap.size + 1 + 1) (by (first | omega | (simp only [sz_alloc, sz_setCell, sz_drew, sz_drewN]; omega) | (simp; done) | (simp; omega)))
  have c29_0 := (lcc hb (w.heap.size + 1 + 1) (by (first | omega | (simp only [sz_alloc, sz_setCell, sz_drew, sz_drewN]; omega) | (simp; done) | (simp; omega))) 0).trans (by go_simp; exact rfl)
  have c29_1 := (lcc hb (w.heap.size + 1 + 1) (by (first | omega | (simp only [sz_alloc, sz_setCell, sz_drew, sz_drewN]; omega) | (simp; done) | (simp; omega))) 1).trans (by go_simp; exact rfl)
  have c29_2 := (lcc hb (w.heap.size + 1 + 1) (by (first | omega | (simp only [sz_alloc, sz_setCell, sz_drew, sz_drewN]; omega) | (simp; done) | (simp; omega))) 2).trans (by go_simp; exact rfl)
  have c29_3 := (lcc hb (w.heap.size + 1 + 1) (by (first | omega | (simp only [sz_alloc, sz_setCell, sz_drew, sz_drewN]; omega) | (simp; done) | (simp; omega))) 3).trans (by go_simp; exact rfl)
  have c29_4 := (lcc hb (w.heap.size + 1 + 1) (by (first | omega | (simp only [sz_alloc, sz_setCell, sz_drew, sz_drewN]; omega) | (simp; done) | (simp; omega))) 4).trans (by go_simp; exact rfl)
  have c29_5 := (lcc hb (w.heap.size + 1 + 1) (by (first | omega | (simp only [sz_alloc, sz_setCell, sz_drew, sz_drewN]; omega) | (simp; done) | (simp; omega))) 5).trans (by go_simp; exact rfl)
  have f29 := lcff hb (w.heap.size + 1 + 1) (by (first | omega | (simp only [sz_alloc, sz_setCell, sz_drew, sz_drewN]; omega) | (simp; done) | (simp; omega))) (by intro o; go_simp)
  go_upto_region 4 with (fail)
  first | with_reducible refine wp_rebase ?_ | with_reducible refine wpList_rebase ?_
  intro w1 hb'
  have hb := hb'.out
  clear hb'
  have s30 := lcs hb (w.heap.size) (by (first | omega | (simp only [sz_alloc, sz_setCell, sz_drew, sz_drewN]; omega) | (simp; done) | (simp; omega)))
  have c30_0 := (lcc hb (w.heap.size) (by (first | omega | (simp only [sz_alloc, sz_setCell, sz_drew, sz_drewN]; omega) | (simp; done) | (simp; omega))) 0).trans (by go_simp; exact rfl)
  have c30_1 := (lcc hb (w.heap.size) (by (first | omega | (simp only [sz_alloc, sz_setCell, sz_drew, sz_drewN]; omega) | (simp; done) | (simp; omega))) 1).trans (by go_simp; exact rfl)
  have c30_2 := (lcc hb (w.heap.size) (by (first | omega | (simp only [sz_alloc, sz_setCell, sz_drew, sz_drewN]; omega) | (simp; done) | (simp; omega))) 2).trans (by go_simp; exact rfl)
  have c30_3 := (lcc hb (w.heap.size) (by (first | omega | (simp only [sz_alloc, sz_setCell, sz_drew, sz_drewN]; omega) | (simp; done) | (simp; omega))) 3).trans (by go_simp; exact rfl)
  have c30_4 := (lcc hb (w.heap.size) (by (first | omega | (simp only [sz_alloc, sz_setCell, sz_drew, sz_drewN]; omega) | (simp; done) | (simp; omega))) 4).trans (by go_simp; exact rfl)
  have c30_5 := (lcc hb (w.heap.size) (by (first | omega | (simp only [sz_alloc, sz_setCell, sz_drew, sz_drewN]; omega) | (simp; done) | (simp; omega))) 5).trans (by go_simp; exact rfl)
  have f30 := lcff hb (w.heap.size) (by (first | omega | (simp only [sz_alloc, sz_setCell, sz_drew, sz_drewN]; omega) | (simp; done) | (simp; omega))) (by intro o; go_simp)
  have s31 := lcs hb (w.heap.size + 1) (by (first | omega | (simp only [sz_alloc, sz_setCell, sz_drew, sz_drewN]; omega) | (simp; done) | (simp; omega)))
  have c31_0 := (lcc hb (w.heap.size + 1) (by (first | omega | (simp only [sz_alloc, sz_setCell, sz_drew, sz_drewN]; omega) | (simp; done) | (simp; omega))) 0).trans (by go_simp; exact rfl)
  have c31_1 := (lcc hb (w.heap.size + 1) (by (first | omega | (simp only [sz_alloc, sz_setCell, sz_drew, sz_drewN]; omega) | (simp; done) | (simp; omega))) 1).trans (by go_simp; exact rfl)
  have c31_2 := (lcc hb (w.heap.size + 1) (by (first | omega | (simp only [sz_alloc, sz_setCell, sz_drew, sz_drewN]; omega) | (simp; done) | (simp; omega))) 2).trans (by go_simp; exact rfl)
  have c31_3 := (lcc hb (w.heap.size + 1) (by (first | omega | (simp only [sz_alloc, sz_setCell, sz_drew, sz_drewN]; omega) | (simp; done) | (simp; omega))) 3).trans (by go_simp; exact rfl)
  have c31_4 := (lcc hb (w.heap.size + 1) (by (first | omega | (simp only [sz_alloc, sz_setCell, sz_drew, sz_drewN]; omega) | (simp; done) | (simp; omega))) 4).trans (by go_simp; exact rfl)
  have c31_5 := (lcc hb (w.heap.size + 1) (by (first | omega | (simp only [sz_alloc, sz_setCell, sz_drew, sz_drewN]; omega) | (simp; done) | (simp; omega))) 5).trans (by go_simp; exact rfl)
  have f31 := lcff hb (w.heap.size + 1) (by (first | omega | (simp only [sz_alloc, sz_setCell, sz_drew, sz_drewN]; omega) | (simp; done) | (simp; omega))) (by intro o; go_simp)
  have s32 := lcs hb (w.heap.size + 1 + 1) (by (first | omega | (simp only [sz_alloc, sz_setCell, sz_drew, sz_drewN]; omega) | (simp; done) | (simp; omega)))
  have c32_0 := (lcc hb (w.heap.size + 1 + 1) (by (first | omega | (simp only [sz_alloc, sz_setCell, sz_drew, sz_drewN]; omega) | (simp; done) | (simp; omega))) 0).trans (by go_simp; exact rfl)
  have c32_1 := (lcc hb (w.heap.size + 1 + 1) (by (first | omega | (simp only [sz_alloc, sz_setCell, sz_drew, sz_drewN]; omega) | (simp; done) | (simp; omega))) 1).trans (by go_simp; exact rfl)
  have c32_2 := (lcc hb (w.heap.size + 1 + 1) (by (first | omega | (simp only [sz_alloc, sz_setCell, sz_drew, sz_drewN]; omega) | (simp; done) | (simp; omega))) 2).trans (by go_simp; exact rfl)
  have c32_3 := (lcc hb (w.heap.size + 1 + 1) (by (first | omega | (simp only [sz_alloc, sz_setCell, sz_drew, sz_drewN]; omega) | (simp; done) | (simp; omega))) 3).trans (by go_simp; exact rfl)
  have c32_4 := (lcc hb (w.heap.size + 1 + 1) (by (first | omega | (simp only [sz_alloc, sz_setCell, sz_drew, sz_drewN]; omega) | (simp; done) | (simp; omega))) 4).trans (by go_simp; exact rfl)
  have c32_5 := (lcc hb (w.heap.size + 1 + 1) (by (first | omega | (simp only [sz_alloc, sz_setCell, sz_drew, sz_drewN]; omega) | (simp; done) | (simp; omega))) 5).trans (by go_simp; exact rfl)
  have f32 := lcff hb (w.heap.size + 1 + 1) (by (first | omega | (simp only [sz_alloc, sz_setCell, sz_drew, sz_drewN]; omega) | (simp; done) | (simp; omega))) (by intro o; go_simp)
  clear c27_0 c27_1 c27_2 c27_3 c27_4 c27_5 f27 c28_0 c28_1 c28_2 c28_3 c28_4 c28_5 f28 c29_0 c29_1 c29_2 c29_3 c29_4 c29_5 f29
  go_wp2_with fail
  refine (HN1.out _).mono ?_
  rintro e' w2 ⟨rfl, hb2⟩
  have s33 := lcs hb2 (w.heap.size) (by (first | omega | (simp only [sz_alloc, sz_setCell, sz_drew, sz_drewN]; omega) | (simp; done) | (simp; omega)))
  have c33_0 := (lcc hb2 (w.heap.size) (by (first | omega | (simp only [sz_alloc, sz_setCell, sz_drew, sz_drewN]; omega) | (simp; done) | (simp; omega))) 0).trans (by go_simp; exact rfl)
  have c33_1 := (lcc hb2 (w.heap.size) (by (first | omega | (simp only [sz_alloc, sz_setCell, sz_drew, sz_drewN]; omega) | (simp; done) | (simp; omega))) 1).trans (by go_simp; exact rfl)
  have c33_2 := (lcc hb2 (w.heap.size) (by (first | omega | (simp only [sz_alloc, sz_setCell, sz_drew, sz_drewN]; omega) | (simp; done) | (simp; omega))) 2).trans (by go_simp; exact rfl)
  have c33_3 := (lcc hb2 (w.heap.size) (by (first | omega | (simp only [sz_alloc, sz_setCell, sz_drew, sz_drewN]; omega) | (simp; done) | (simp; omega))) 3).trans (by go_simp; exact rfl)
  have c33_4 := (lcc hb2 (w.heap.size) (by (first | omega | (simp only [sz_alloc, sz_setCell, sz_drew, sz_drewN]; omega) | (simp; done) | (simp; omega))) 4).trans (by go_simp; exact rfl)
  have c33_5 := (lcc hb2 (w.heap.size) (by (first | omega | (simp only [sz_alloc, sz_setCell, sz_drew, sz_drewN]; omega) | (simp; done) | (simp; omega))) 5).trans (by go_simp; exact rfl)
  have f33 := lcff hb2 (w.heap.size) (by (first | omega | (simp only [sz_alloc, sz_setCell, sz_drew, sz_drewN]; omega) | (simp; done) | (simp; omega))) (by intro o; go_simp)
  have s34 := lcs hb2 (w.heap.size + 1) (by (first | omega | (simp only [sz_alloc, sz_setCell, sz_drew, sz_drewN]; omega) | (simp; done) | (simp; omega)))
  have c34_0 := (lcc hb2 (w.heap.size + 1) (by (first | omega | (simp only [sz_alloc, sz_setCell, sz_drew, sz_drewN]; omega) | (simp; done) | (simp; omega))) 0).trans (by go_simp; exact rfl)
  have c34_1 := (lcc hb2 (w.heap.size + 1) (by (first | omega | (simp only [sz_alloc, sz_setCell, sz_drew, sz_drewN]; omega) | (simp; done) | (simp; omega))) 1).trans (by go_simp; exact rfl)
  have c34_2 := (lcc hb2 (w.heap.size + 1) (by (first | omega | (simp only [sz_alloc, sz_setCell, sz_drew, sz_drewN]; omega) | (simp; done) | (simp; omega))) 2).trans (by go_simp; exact rfl)
  have c34_3 := (lcc hb2 (w.heap.size + 1) (by (first | omega | (simp only [sz_alloc, sz_setCell, sz_drew, sz_drewN]; omega) | (simp; done) | (simp; omega))) 3).trans (by go_simp; exact rfl)
  have c34_4 := (lcc hb2 (w.heap.size + 1) (by (first | omega | (simp only [sz_alloc, sz_setCell, sz_drew, sz_drewN]; omega) | (simp; done) | (simp; omega))) 4).trans (by go_simp; exact rfl)
  have c34_5 := (lcc hb2 (w.heap.size + 1) (by (first | omega | (simp only [sz_alloc, sz_setCell, sz_drew, sz_drewN]; omega) | (simp; done) | (simp; omega))) 5).trans (by go_simp; exact rfl)
  have f34 := lcff hb2 (w.heap.size + 1) (by (first | omega | (simp only [sz_alloc, sz_setCell, sz_drew, sz_drewN]; omega) | (simp; done) | (simp; omega))) (by intro o; go_simp)
  have s35 := lcs hb2 (w.heap.size + 1 + 1) (by (first | omega | (simp only [sz_alloc, sz_setCell, sz_drew, sz_drewN]; omega) | (simp; done) | (simp; omega)))
  have c35_0 := (lcc hb2 (w.heap.size + 1 + 1) (by (first | omega | (simp only [sz_alloc, sz_setCell, sz_drew, sz_drewN]; omega) | (simp; done) | (simp; omega))) 0).trans (by go_simp; exact rfl)
  have c35_1 := (lcc hb2 (w.heap.size + 1 + 1) (by (first | omega | (simp only [sz_alloc, sz_setCell, sz_drew, sz_drewN]; omega) | (simp; done) | (simp; omega))) 1).trans (by go_simp; exact rfl)
  have c35_2 := (lcc hb2 (w.heap.size + 1 + 1) (by (first | omega | (simp only [sz_alloc, sz_setCell, sz_drew, sz_drewN]; omega) | (simp; done) | (simp; omega))) 2).trans (by go_simp; exact rfl)
  have c35_3 := (lcc hb2 (w.heap.size + 1 + 1) (by (first | omega | (simp only [sz_alloc, sz_setCell, sz_drew, sz_drewN]; omega) | (simp; done) | (simp; omega))) 3).trans (by go_simp; exact rfl)
  have c35_4 := (lcc hb2 (w.heap.size + 1 + 1) (by (first | omega | (simp only [sz_alloc, sz_setCell, sz_drew, sz_drewN]; omega) | (simp; done) | (simp; omega))) 4).trans (by go_simp; exact rfl)
  have c35_5 := (lcc hb2 (w.heap.size + 1 + 1) (by (first | omega | (simp only [sz_alloc, sz_setCell, sz_drew, sz_drewN]; omega) | (simp; done) | (simp; omega))) 5).trans (by go_simp; exact rfl)
  have f35 := lcff hb2 (w.heap.size + 1 + 1) (by (first | omega | (simp only [sz_alloc, sz_setCell, sz_drew, sz_drewN]; omega) | (simp; done) | (simp; omega))) (by intro o; go_simp)
  clear c30_0 c30_1 c30_2 c30_3 c30_4 c30_5 f30 c31_0 c31_1 c31_2 c31_3 c31_4 c31_5 f31 c32_0 c32_1 c32_2 c32_3 c32_4 c32_5 f32
  go_upto_region 15 with (fail)
  first | with_reducible refine wp_rebase ?_ | with_reducible refine wpList_rebase ?_
  intro w1 hb'
  have hb := hb'.out
  clear hb'
  have s36 := lcs hb (w.heap.size + 1) (by (first | omega | (simp only [sz_alloc, sz_setCell, sz_drew, sz_drewN]; omega) | (simp; done) | (simp; omega)))
  have c36_0 := (lcc hb (w.heap.size + 1) (by (first | omega | (simp only [sz_alloc, sz_setCell, sz_drew, sz_drewN]; omega) | (simp; done) | (simp; omega))) 0).trans (by go_simp; exact rfl)
  have c36_1 := (lcc hb (w.heap.size + 1) (by (first | omega | (simp only [sz_alloc, sz_setCell, sz_drew, sz_drewN]; omega) | (simp; done) | (simp; omega))) 1).trans (by go_simp; exact rfl)
  have c36_2 := (lcc hb (w.heap.size + 1) (by (first | omega | (simp only [sz_alloc, sz_setCell, sz_drew, sz_drewN]; omega) | (simp; done) | (simp; omega))) 2).trans (by go_simp; exact rfl)
  have c36_3 := (lcc hb (w.heap.size + 1) (by (first | omega | (simp only [sz_alloc, sz_setCell, sz_drew, sz_drewN]; omega) | (simp; done) | (simp; omega))) 3).trans (by go_simp; exact rfl)
  have c36_4 := (lcc hb (w.heap.size + 1) (by (first | omega | (simp only [sz_alloc, sz_setCell, sz_drew, sz_drewN]; omega) | (simp; done) | (simp; omega))) 4).trans (by go_simp; exact rfl)
  have c36_5 := (lcc hb (w.heap.size + 1) (by (first | omega | (simp only [sz_alloc, sz_setCell, sz_drew, sz_drewN]; omega) | (simp; done) | (simp; omega))) 5).trans (by go_simp; exact rfl)
  have f36 := lcff hb (w.heap.size + 1) (by (first | omega | (simp only [sz_alloc, sz_setCell, sz_drew, sz_drewN]; omega) | (simp; done) | (simp; omega))) (by intro o; go_simp)
  have s37 := lcs hb (w.heap.size + 1 + 1) (by (first | omega | (simp only [sz_alloc, sz_setCell, sz_drew, sz_drewN]; omega) | (simp; done) | (simp; omega)))
  have c37_0 := (lcc hb (w.heap.size + 1 + 1) (by (first | omega | (simp only [sz_alloc, sz_setCell, sz_drew, sz_drewN]; omega) | (simp; done) | (simp; omega))) 0).trans (by go_simp; exact rfl)
  have c37_1 := (lcc hb (w.heap.size + 1 + 1) (by (first | omega | (simp only [sz_alloc, sz_setCell, sz_drew, sz_drewN]; omega) | (simp; done) | (simp; omega))) 1).trans (by go_simp; exact rfl)
  have c37_2 := (lcc hb (w.heap.size + 1 + 1) (by (first | omega | (simp only [sz_alloc, sz_setCell, sz_drew, sz_drewN]; omega) | (simp; done) | (simp; omega))) 2).trans (by go_simp; exact rfl)
  have c37_3 := (lcc hb (w.heap.size + 1 + 1) (by (first | omega | (simp only [sz_alloc, sz_setCell, sz_drew, sz_drewN]; omega) | (simp; done) | (simp; omega))) 3).trans (by go_simp; exact rfl)
  have c37_4 := (lcc hb (w.heap.size + 1 + 1) (by (first | omega | (simp only [sz_alloc, sz_setCell, sz_drew, sz_drewN]; omega) | (simp; done) | (simp; omega))) 4).trans (by go_simp; exact rfl)
  have c37_5 := (lcc hb (w.heap.size + 1 + 1) (by (first | omega | (simp only [sz_alloc, sz_setCell, sz_drew, sz_drewN]; omega) | (simp; done) | (simp; omega))) 5).trans (by go_simp; exact rfl)
  have f37 := lcff hb (w.heap.size + 1 + 1) (by (first | omega | (simp only [sz_alloc, sz_setCell, sz_drew, sz_drewN]; omega) | (simp; done) | (simp; omega))) (by intro o; go_simp)
  have s38 := lcs hb (w2.heap.size) (by (first | omega | (simp only [sz_alloc, sz_setCell, sz_drew, sz_drewN]; omega) | (simp; done) | (simp; omega)))
  have c38_0 := (lcc hb (w2.heap.size) (by (first | omega | (simp only [sz_alloc, sz_setCell, sz_drew, sz_drewN]; omega) | (simp; done) | (simp; omega))) 0).trans (by go_simp; exact rfl)
  have c38_1 := (lcc hb (w2.heap.size) (by (first | omega | (simp only [sz_alloc, sz_setCell, sz_drew, sz_drewN]; omega) | (simp; done) | (simp; omega))) 1).trans (by go_simp; exact rfl)
  have f38 := lcff hb (w2.heap.size) (by (first | omega | (simp only [sz_alloc, sz_setCell, sz_drew, sz_drewN]; omega) | (simp; done) | (simp; omega))) (by intro o; go_simp)
  have s39 := lcs hb (w2.heap.size + 1) (by (first | omega | (simp only [sz_alloc, sz_setCell, sz_drew, sz_drewN]; omega) | (simp; done) | (simp; omega)))
  have c39_0 := (lcc hb (w2.heap.size + 1) (by (first | omega | (simp only [sz_alloc, sz_setCell, sz_drew, sz_drewN]; omega) | (simp; done) | (simp; omega))) 0).trans (by go_simp; exact rfl)
  have c39_1 := (lcc hb (w2.heap.size + 1) (by (first | omega | (simp only [sz_alloc, sz_setCell, sz_drew, sz_drewN]; omega) | (simp; done) | (simp; omega))) 1).trans (by go_simp; exact rfl)
  have c39_2 := (lcc hb (w2.heap.size + 1) (by (first | omega | (simp only [sz_alloc, sz_setCell, sz_drew, sz_drewN]; omega) | (simp; done) | (simp; omega))) 2).trans (by go_simp; exact rfl)
  have c39_3 := (lcc hb (w2.heap.size + 1) (by (first | omega | (simp only [sz_alloc, sz_setCell, sz_drew, sz_drewN]; omega) | (simp; done) | (simp; omega))) 3).trans (by go_simp; exact rfl)
  have c39_4 := (lcc hb (w2.heap.size + 1) (by (first | omega | (simp only [sz_alloc, sz_setCell, sz_drew, sz_drewN]; omega) | (simp; done) | (simp; omega))) 4).trans (by go_simp; exact rfl)
  have c39_5 := (lcc hb (w2.heap.size + 1) (by (first | omega | (simp only [sz_alloc, sz_setCell, sz_drew, sz_drewN]; omega) | (simp; done) | (simp; omega))) 5).trans (by go_simp; exact rfl)
  have f39 := lcff hb (w2.heap.size + 1) (by (first | omega | (simp only [sz_alloc, sz_setCell, sz_drew, sz_drewN]; omega) | (simp; done) | (simp; omega))) (by intro o; go_simp)
  clear c33_0 c33_1 c33_2 c33_3 c33_4 c33_5 f33 c34_0 c34_1 c34_2 c34_3 c34_4 c34_5 f34 c35_0 c35_1 c35_2 c35_3 c35_4 c35_5 f35
  go_wp2_with fail
  refine (HN2.out _).mono ?_
  rintro e' w3 ⟨rfl, hb3⟩
  have s40 := lcs hb3 (w.heap.size + 1 + 1) (by (first | omega | (simp only [sz_alloc, sz_setCell, sz_drew, sz_drewN]; omega) | (simp; done) | (simp; omega)))
  have c40_0 := (lcc hb3 (w.heap.size + 1 + 1) (by (first | omega | (simp only [sz_alloc, sz_setCell, sz_drew, sz_drewN]; omega) | (simp; done) | (simp; omega))) 0).trans (by go_simp; exact rfl)
  have c40_1 := (lcc hb3 (w.heap.size + 1 + 1) (by (first | omega | (simp only [sz_alloc, sz_setCell, sz_drew, sz_drewN]; omega) | (simp; done) | (simp; omega))) 1).trans (by go_simp; exact rfl)
  have c40_2 := (lcc hb3 (w.heap.size + 1 + 1) (by (first | omega | (simp only [sz_alloc, sz_setCell, sz_drew, sz_drewN]; omega) | (simp; done) | (simp; omega))) 2).trans (by go_simp; exact rfl)
  have c40_3 := (lcc hb3 (w.heap.size + 1 + 1) (by (first | omega | (simp only [sz_alloc, sz_setCell, sz_drew, sz_drewN]; omega) | (simp; done) | (simp; omega))) 3).trans (by go_simp; exact rfl)
  have c40_4 := (lcc hb3 (w.heap.size + 1 + 1) (by (first | omega | (simp only [sz_alloc, sz_setCell, sz_drew, sz_drewN]; omega) | (simp; done) | (simp; omega))) 4).trans (by go_simp; exact rfl)
  have c40_5 := (lcc hb3 (w.heap.size + 1 + 1) (by (first | omega | (simp only [sz_alloc, sz_setCell, sz_drew, sz_drewN]; omega) | (simp; done) | (simp; omega))) 5).trans (by go_simp; exact rfl)
  have f40 := lcff hb3 (w.heap.size + 1 + 1) (by (first | omega | (simp only [sz_alloc, sz_setCell, sz_drew, sz_drewN]; omega) | (simp; done) | (simp; omega))) (by intro o; go_simp)
  have s41 := lcs hb3 (w2.heap.size) (by (first | omega | (simp only [sz_alloc, sz_setCell, sz_drew, sz_drewN]; omega) | (simp; done) | (simp; omega)))
  have c41_0 := (lcc hb3 (w2.heap.size) (by (first | omega | (simp only [sz_alloc, sz_setCell, sz_drew, sz_drewN]; omega) | (simp; done) | (simp; omega))) 0).trans (by go_simp; exact rfl)
  have c41_1 := (lcc hb3 (w2.heap.size) (by (first | omega | (simp only [sz_alloc, sz_setCell, sz_drew, sz_drewN]; omega) | (simp; done) | (simp; omega))) 1).trans (by go_simp; exact rfl)
  have f41 := lcff hb3 (w2.heap.size) (by (first | omega | (simp only [sz_alloc, sz_setCell, sz_drew, sz_drewN]; omega) | (simp; done) | (simp; omega))) (by intro o; go_simp)
  have s42 := lcs hb3 (w2.heap.size + 1) (by (first | omega | (simp only [sz_alloc, sz_setCell, sz_drew, sz_drewN]; omega) | (simp; done) | (simp; omega)))
  have c42_0 := (lcc hb3 (w2.heap.size + 1) (by (first | omega | (simp only [sz_alloc, sz_setCell, sz_drew, sz_drewN]; omega) | (simp; done) | (simp; omega))) 0).trans (by go_simp; exact rfl)
  have c42_1 := (lcc hb3 (w2.heap.size + 1) (by (first | omega | (simp only [sz_alloc, sz_setCell, sz_drew, sz_drewN]; omega) | (simp; done) | (simp; omega))) 1).trans (by go_simp; exact rfl)
  have c42_2 := (lcc hb3 (w2.heap.size + 1) (by (first | omega | (simp only [sz_alloc, sz_setCell, sz_drew, sz_drewN]; omega) | (simp; done) | (simp; omega))) 2).trans (by go_simp; exact rfl)
  have c42_3 := (lcc hb3 (w2.heap.size + 1) (by (first | omega | (simp only [sz_alloc, sz_setCell, sz_drew, sz_drewN]; omega) | (simp; done) | (simp; omega))) 3).trans (by go_simp; exact rfl)
  have c42_4 := (lcc hb3 (w2.heap.size + 1) (by (first | omega | (simp only [sz_alloc, sz_setCell, sz_drew, sz_drewN]; omega) | (simp; done) | (simp; omega))) 4).trans (by go_simp; exact rfl)
  have c42_5 := (lcc hb3 (w2.heap.size + 1) (by (first | omega | (simp only [sz_alloc, sz_setCell, sz_drew, sz_drewN]; omega) | (simp; done) | (simp; omega))) 5).trans (by go_simp; exact rfl)
  have f42 := lcff hb3 (w2.heap.size + 1) (by (first | omega | (simp only [sz_alloc, sz_setCell, sz_drew, sz_drewN]; omega) | (simp; done) | (simp; omega))) (by intro o; go_simp)
  clear c36_0 c36_1 c36_2 c36_3 c36_4 c36_5 f36 c37_0 c37_1 c37_2 c37_3 c37_4 c37_5 f37 c38_0 c38_1 f38 c39_0 c39_1 c39_2 c39_3 c39_4 c39_5 f39
  go_wp2_with fail
  refine (HR.out _).mono ?_
  rintro e' w4 ⟨rfl, hb4⟩
  have s43 := lcs hb4 (w.heap.size + 1 + 1) (by (first | omega | (simp only [sz_alloc, sz_setCell, sz_drew, sz_drewN]; omega) | (simp; done) | (simp; omega)))
  have c43_0 := (lcc hb4 (w.heap.size + 1 + 1) (by (first | omega | (simp only [sz_alloc, sz_setCell, sz_drew, sz_drewN]; omega) | (simp; done) | (simp; omega))) 0).trans (by go_simp; exact rfl)
  have c43_1 := (lcc hb4 (w.heap.size + 1 + 1) (by (first | omega | (simp only [sz_alloc, sz_setCell, sz_drew, sz_drewN]; omega) | (simp; done) | (simp; omega))) 1).trans (by go_simp; exact rfl)
  have c43_2 := (lcc hb4 (w.heap.size + 1 + 1) (by (first | omega | (simp only [sz_alloc, sz_setCell, sz_drew, sz_drewN]; omega) | (simp; done) | (simp; omega))) 2).trans (by go_simp; exact rfl)
  have c43_3 := (lcc hb4 (w.heap.size + 1 + 1) (by (first | omega | (simp only [sz_alloc, sz_setCell, sz_drew, sz_drewN]; omega) | (simp; done) | (simp; omega))) 3).trans (by go_simp; exact rfl)
  have c43_4 := (lcc hb4 (w.heap.size + 1 + 1) (by (first | omega | (simp only [sz_alloc, sz_setCell, sz_drew, sz_drewN]; omega) | (simp; done) | (simp; omega))) 4).trans (by go_simp; exact rfl)
  have c43_5 := (lcc hb4 (w.heap.size + 1 + 1) (by (first | omega | (simp only [sz_alloc, sz_setCell, sz_drew, sz_drewN]; omega) | (simp; done) | (simp; omega))) 5).trans (by go_simp; exact rfl)
  have f43 := lcff hb4 (w.heap.size + 1 + 1) (by (first | omega | (simp only [sz_alloc, sz_setCell, sz_drew, sz_drewN]; omega) | (simp; done) | (simp; omega))) (by intro o; go_simp)
  clear c40_0 c40_1 c40_2 c40_3 c40_4 c40_5 f40 c41_0 c41_1 f41 c42_0 c42_1 c42_2 c42_3 c42_4 c42_5 f42
  go_wp2
  refine bodyPost_ret (v := .agg #[.int .i64 (Q).k, .int .i64 (Q).n, .int .i64 (Q).d, .string (Q).t, .bool (Q).b, .int .i64 (Q).f]) (by simp [results, Tryz.results32, go_sem, c43_0, c43_1, c43_2, c43_3, c43_4, c43_5]) rfl ⟨rfl, ?_⟩
  repeat (first | with_reducible exact Below.refl _ _ | with_reducible refine below_drewN ?_ _ | with_reducible refine Below.drew ?_ | with_reducible refine Below.setCell ?_ (by (first | omega | (simp only [sz_alloc, sz_setCell, sz_drew, sz_drewN]; omega) | (simp; done) | (simp; omega))) _ | with_reducible refine Below.alloc ?_ (by (first | omega | (simp only [sz_alloc, sz_setCell, sz_drew, sz_drewN]; omega) | (simp; done) | (simp; omega))) _ | with_reducible refine below_then ?_ ?_ (by with_reducible assumption) | (first | omega | (simp only [sz_alloc, sz_setCell, sz_drew, sz_drewN]; omega) | (simp; done) | (simp; omega)))
set_option maxRecDepth 100000 in
set_option maxHeartbeats 2000000 in
theorem value_Bin13 (n d m e : Int) (w : World) (h1 : rightN n d = true) (h2 : rightN m e = true) :
    Calls Tryz.prog 32 #[.int .i64 13, .agg #[.int .i64 1, .int .i64 n, .int .i64 d, .string ⟨#[]⟩, .bool false, .int .i64 0], .agg #[.int .i64 1, .int .i64 m, .int .i64 e, .string ⟨#[]⟩, .bool false, .int .i64 0]] w fun e' w' => e' = .returned (.agg #[.int .i64 (toldB (mul n d m e)).k, .int .i64 (toldB (mul n d m e)).n, .int .i64 (toldB (mul n d m e)).d, .string (toldB (mul n d m e)).t, .bool (toldB (mul n d m e)).b, .int .i64 (toldB (mul n d m e)).f]) ∧ Below w.heap.size w w' := by
  have x1 : Vl.In ⟨1, n, d, ⟨#[]⟩, false, 0⟩ := right_in (rightV_num.trans h1)
  have x2 : Vl.In ⟨1, m, e, ⟨#[]⟩, false, 0⟩ := right_in (rightV_num.trans h2)
  have t1 : tkV ⟨1, n, d, ⟨#[]⟩, false, 0⟩ = ⟨1, n, d, ⟨#[]⟩, false, 0⟩ := tkV_of (rightV_num.trans h1)
  have t2 : tkV ⟨1, m, e, ⟨#[]⟩, false, 0⟩ = ⟨1, m, e, ⟨#[]⟩, false, 0⟩ := tkV_of (rightV_num.trans h2)
  have HT1 := Lib.hid fun wx => value_taken 1 n d ⟨#[]⟩ false 0 wx x1
  have HT2 := Lib.hid fun wx => value_taken 1 m e ⟨#[]⟩ false 0 wx x2
  rw [t1] at HT1
  rw [t2] at HT2
  have HN1 := Lib.hid fun wx => value_AsNumber 1 n d ⟨#[]⟩ false 0 wx x1
  have HN2 := Lib.hid fun wx => value_AsNumber 1 m e ⟨#[]⟩ false 0 wx x2
  have e1 : asNum ⟨1, n, d, ⟨#[]⟩, false, 0⟩ = ⟨n, d, blankV⟩ := asNum_num h1
  have e2 : asNum ⟨1, m, e, ⟨#[]⟩, false, 0⟩ = ⟨m, e, blankV⟩ := asNum_num h2
  rw [e1] at HN1
  rw [e2] at HN2
  simp only [blankV, noT] at HN1 HN2
  have b1 := rightN_iff.1 h1
  have b2 := rightN_iff.1 h2
  have HR := Lib.hid fun wx => value_reckon13 n d m e wx (I64.of b1.1 b1.2.1) (I64.of (by omega) (by omega)) (I64.of b2.1 b2.2.1) (I64.of (by omega) (by omega))
  generalize toldB (mul n d m e) = Q at *
  clear x1 x2 t1 t2 e1 e2 b1 b2 h1 h2
  go_enter Tryz.func32, Tryz.ntmps32
  go_wp2_with fail
  refine region_below 4 (by kernel_rfl) (by kernel_rfl) ?_
  simp only [List.take_succ_cons, List.take_zero, List.drop_succ_cons, List.drop_zero]
  repeat
    first | (refine q_run ?_ ?_; focus (go_simp; done)) | (refine q_skip ?_ ?_; focus (go_simp; done))
    try (apply Exists.intro; refine ⟨fun w' hw' => ?_, ?_⟩; focus (have hc := (bcell hw'.out).1; unfold Oper.quietAt; go_simp; (try go_ints); (first | rfl | (go_at_call 73; refine (HT1.out _).mono ?_; rintro e w2 ⟨rfl, hb⟩; exact ⟨rfl, hw'.chain hb⟩) | (go_at_call 73; refine (HT2.out _).mono ?_; rintro e w2 ⟨rfl, hb⟩; exact ⟨rfl, hw'.chain hb⟩))))
    intro K hK
    go_simp
    refine hK _ ?_
    clear hK K
  refine wpQuiet_nil ?_
  intro w1 hb'
  have hb := hb'.out
  clear hb'
  have s44 := lcs hb (w.heap.size) (by (first | omega | (simp only [sz_alloc, sz_setCell, sz_drew, sz_drewN]; omega) | (simp; done) | (simp; omega)))
  have c44_0 := (lcc hb (w.heap.size) (by (first | omega | (simp only [sz_alloc, sz_setCell, sz_drew, sz_drewN]; omega) | (simp; done) | (simp; omega))) 0).trans (by go_simp; exact rfl)
  have c44_1 := (lcc hb (w.heap.size) (by (first | omega | (simp only [sz_alloc, sz_setCell, sz_drew, sz_drewN]; omega) | (simp; done) | (simp; omega))) 1).trans (by go_simp; exact rfl)
  have c44_2 := (lcc hb (w.heap.size) (by (first | omega | (simp only [sz_alloc, sz_setCell, sz_drew, sz_drewN]; omega) | (simp; done) | (simp; omega))) 2).trans (by go_simp; exact rfl)
  have c44_3 := (lcc hb (w.heap.size) (by (first | omega | (simp only [sz_alloc, sz_setCell, sz_drew, sz_drewN]; omega) | (simp; done) | (simp; omega))) 3).trans (by go_simp; exact rfl)
  have c44_4 := (lcc hb (w.heap.size) (by (first | omega | (simp only [sz_alloc, sz_setCell, sz_drew, sz_drewN]; omega) | (simp; done) | (simp; omega))) 4).trans (by go_simp; exact rfl)
  have c44_5 := (lcc hb (w.heap.size) (by (first | omega | (simp only [sz_alloc, sz_setCell, sz_drew, sz_drewN]; omega) | (simp; done) | (simp; omega))) 5).trans (by go_simp; exact rfl)
  have f44 := lcff hb (w.heap.size) (by (first | omega | (simp only [sz_alloc, sz_setCell, sz_drew, sz_drewN]; omega) | (simp; done) | (simp; omega))) (by intro o; go_simp)
  have s45 := lcs hb (w.heap.size + 1) (by (first | omega | (simp only [sz_alloc, sz_setCell, sz_drew, sz_drewN]; omega) | (simp; done) | (simp; omega)))
  have c45_0 := (lcc hb (w.heap.size + 1) (by (first | omega | (simp only [sz_alloc, sz_setCell, sz_drew, sz_drewN]; omega) | (simp; done) | (simp; omega))) 0).trans (by go_simp; exact rfl)
  have c45_1 := (lcc hb (w.heap.size + 1) (by (first | omega | (simp only [sz_alloc, sz_setCell, sz_drew, sz_drewN]; omega) | (simp; done) | (simp; omega))) 1).trans (by go_simp; exact rfl)
  have c45_2 := (lcc hb (w.heap.size + 1) (by (first | omega | (simp only [sz_alloc, sz_setCell, sz_drew, sz_drewN]; omega) | (simp; done) | (simp; omega))) 2).trans (by go_simp; exact rfl)
  have c45_3 := (lcc hb (w.heap.size + 1) (by (first | omega | (simp only [sz_alloc, sz_setCell, sz_drew, sz_drewN]; omega) | (simp; done) | (simp; omega))) 3).trans (by go_simp; exact rfl)
  have c45_4 := (lcc hb (w.heap.size + 1) (by (first | omega | (simp only [sz_alloc, sz_setCell, sz_drew, sz_drewN]; omega) | (simp; done) | (simp; omega))) 4).trans (by go_simp; exact rfl)
  have c45_5 := (lcc hb (w.heap.size + 1) (by (first | omega | (simp only [sz_alloc, sz_setCell, sz_drew, sz_drewN]; omega) | (simp; done) | (simp; omega))) 5).trans (by go_simp; exact rfl)
  have f45 := lcff hb (w.heap.size + 1) (by (first | omega | (simp only [sz_alloc, sz_setCell, sz_drew, sz_drewN]; omega) | (simp; done) | (simp; omega))) (by intro o; go_simp)
  have s46 := lcs hb (w.heap.size + 1 + 1) (by (first | omega | (simp only [sz_alloc, sz_setCell, sz_drew, sz_drewN]; omega) | (simp; done) | (simp; omega)))
  have c46_0 := (lcc hb (w.heap.size + 1 + 1) (by (first | omega | (simp only [sz_alloc, sz_setCell, sz_drew, sz_drewN]; omega) | (simp; done) | (simp; omega))) 0).trans (by go_simp; exact rfl)
  have c46_1 := (lcc hb (w.heap.size + 1 + 1) (by (first | omega | (simp only [sz_alloc, sz_setCell, sz_drew, sz_drewN]; omega) | (simp; done) | (simp; omega))) 1).trans (by go_simp; exact rfl)
  have c46_2 := (lcc hb (w.heap.size + 1 + 1) (by (first | omega | (simp only [sz_alloc, sz_setCell, sz_drew, sz_drewN]; omega) | (simp; done) | (simp; omega))) 2).trans (by go_simp; exact rfl)
  have c46_3 := (lcc hb (w.heap.size + 1 + 1) (by (first | omega | (simp only [sz_alloc, sz_setCell, sz_drew, sz_drewN]; omega) | (simp; done) | (simp; omega))) 3).trans (by go_simp; exact rfl)
  have c46_4 := (lcc hb (w.heap.size + 1 + 1) (by (first | omega | (simp only [sz_alloc, sz_setCell, sz_drew, sz_drewN]; omega) | (simp; done) | (simp; omega))) 4).trans (by go_simp; exact rfl)
  have c46_5 := (lcc hb (w.heap.size + 1 + 1) (by (first | omega | (simp only [sz_alloc, sz_setCell, sz_drew, sz_drewN]; omega) | (simp; done) | (simp; omega))) 5).trans (by go_simp; exact rfl)
  have f46 := lcff hb (w.heap.size + 1 + 1) (by (first | omega | (simp only [sz_alloc, sz_setCell, sz_drew, sz_drewN]; omega) | (simp; done) | (simp; omega))) (by intro o; go_simp)
  go_upto_region 4 with (fail)
  first | with_reducible refine wp_rebase ?_ | with_reducible refine wpList_rebase ?_
  intro w1 hb'
  have hb := hb'.out
  clear hb'
  have s47 := lcs hb (w.heap.size) (by (first | omega | (simp only [sz_alloc, sz_setCell, sz_drew, sz_drewN]; omega) | (simp; done) | (simp; omega)))
  have c47_0 := (lcc hb (w.heap.size) (by (first | omega | (simp only [sz_alloc, sz_setCell, sz_drew, sz_drewN]; omega) | (simp; done) | (simp; omega))) 0).trans (by go_simp; exact rfl)
  have c47_1 := (lcc hb (w.heap.size) (by (first | omega | (simp only [sz_alloc, sz_setCell, sz_drew, sz_drewN]; omega) | (simp; done) | (simp; omega))) 1).trans (by go_simp; exact rfl)
  have c47_2 := (lcc hb (w.heap.size) (by (first | omega | (simp only [sz_alloc, sz_setCell, sz_drew, sz_drewN]; omega) | (simp; done) | (simp; omega))) 2).trans (by go_simp; exact rfl)
  have c47_3 := (lcc hb (w.heap.size) (by (first | omega | (simp only [sz_alloc, sz_setCell, sz_drew, sz_drewN]; omega) | (simp; done) | (simp; omega))) 3).trans (by go_simp; exact rfl)
  have c47_4 := (lcc hb (w.heap.size) (by (first | omega | (simp only [sz_alloc, sz_setCell, sz_drew, sz_drewN]; omega) | (simp; done) | (simp; omega))) 4).trans (by go_simp; exact rfl)
  have c47_5 := (lcc hb (w.heap.size) (by (first | omega | (simp only [sz_alloc, sz_setCell, sz_drew, sz_drewN]; omega) | (simp; done) | (simp; omega))) 5).trans (by go_simp; exact rfl)
  have f47 := lcff hb (w.heap.size) (by (first | omega | (simp only [sz_alloc, sz_setCell, sz_drew, sz_drewN]; omega) | (simp; done) | (simp; omega))) (by intro o; go_simp)
  have s48 := lcs hb (w.heap.size + 1) (by (first | omega | (simp only [sz_alloc, sz_setCell, sz_drew, sz_drewN]; omega) | (simp; done) | (simp; omega)))
  have c48_0 := (lcc hb (w.heap.size + 1) (by (first | omega | (simp only [sz_alloc, sz_setCell, sz_drew, sz_drewN]; omega) | (simp; done) | (simp; omega))) 0).trans (by go_simp; exact rfl)
  have c48_1 := (lcc hb (w.heap.size + 1) (by (first | omega | (simp only [sz_alloc, sz_setCell, sz_drew, sz_drewN]; omega) | (simp; done) | (simp; omega))) 1).trans (by go_simp; exact rfl)
  have c48_2 := (lcc hb (w.heap.size + 1) (by (first | omega | (simp only [sz_alloc, sz_setCell, sz_drew, sz_drewN]; omega) | (simp; done) | (simp; omega))) 2).trans (by go_simp; exact rfl)
  have c48_3 := (lcc hb (w.heap.size + 1) (by (first | omega | (simp only [sz_alloc, sz_setCell, sz_drew, sz_drewN]; omega) | (simp; done) | (simp; omega))) 3).trans (by go_simp; exact rfl)
  have c48_4 := (lcc hb (w.heap.size + 1) (by (first | omega | (simp only [sz_alloc, sz_setCell, sz_drew, sz_drewN]; omega) | (simp; done) | (simp; omega))) 4).trans (by go_simp; exact rfl)
  have c48_5 := (lcc hb (w.heap.size + 1) (by (first | omega | (simp only [sz_alloc, sz_setCell, sz_drew, sz_drewN]; omega) | (simp; done) | (simp; omega))) 5).trans (by go_simp; exact rfl)
  have f48 := lcff hb (w.heap.size + 1) (by (first | omega | (simp only [sz_alloc, sz_setCell, sz_drew, sz_drewN]; omega) | (simp; done) | (simp; omega))) (by intro o; go_simp)
  have s49 := lcs hb (w.heap.size + 1 + 1) (by (first | omega | (simp only [sz_alloc, sz_setCell, sz_drew, sz_drewN]; omega) | (simp; done) | (simp; omega)))
  have c49_0 := (lcc hb (w.heap.size + 1 + 1) (by (first | omega | (simp only [sz_alloc, sz_setCell, sz_drew, sz_drewN]; omega) | (simp; done) | (simp; omega))) 0).trans (by go_simp; exact rfl)
  have c49_1 := (lcc hb (w.heap.size + 1 + 1) (by (first | omega | (simp only [sz_alloc, sz_setCell, sz_drew, sz_drewN]; omega) | (simp; done) | (simp; omega))) 1).trans (by go_simp; exact rfl)
  have c49_2 := (lcc hb (w.heap.size + 1 + 1) (by (first | omega | (simp only [sz_alloc, sz_setCell, sz_drew, sz_drewN]; omega) | (simp; done) | (simp; omega))) 2).trans (by go_simp; exact rfl)
  have c49_3 := (lcc hb (w.heap.size + 1 + 1) (by (first | omega | (simp only [sz_alloc, sz_setCell, sz_drew, sz_drewN]; omega) | (simp; done) | (simp; omega))) 3).trans (by go_simp; exact rfl)
  have c49_4 := (lcc hb (w.heap.size + 1 + 1) (by (first | omega | (simp only [sz_alloc, sz_setCell, sz_drew, sz_drewN]; omega) | (simp; done) | (simp; omega))) 4).trans (by go_simp; exact rfl)
  have c49_5 := (lcc hb (w.heap.size + 1 + 1) (by (first | omega | (simp only [sz_alloc, sz_setCell, sz_drew, sz_drewN]; omega) | (simp; done) | (simp; omega))) 5).trans (by go_simp; exact rfl)
  have f49 := lcff hb (w.heap.size + 1 + 1) (by (first | omega | (simp only [sz_alloc, sz_setCell, sz_drew, sz_drewN]; omega) | (simp; done) | (simp; omega))) (by intro o; go_simp)
  clear c44_0 c44_1 c44_2 c44_3 c44_4 c44_5 f44 c45_0 c45_1 c45_2 c45_3 c45_4 c45_5 f45 c46_0 c46_1 c46_2 c46_3 c46_4 c46_5 f46
  go_wp2_with fail
  refine (HN1.out _).mono ?_
  rintro e' w2 ⟨rfl, hb2⟩
  have s50 := lcs hb2 (w.heap.size) (by (first | omega | (simp only [sz_alloc, sz_setCell, sz_drew, sz_drewN]; omega) | (simp; done) | (simp; omega)))
  have c50_0 := (lcc hb2 (w.heap.size) (by (first | omega | (simp only [sz_alloc, sz_setCell, sz_drew, sz_drewN]; omega) | (simp; done) | (simp; omega))) 0).trans (by go_simp; exact rfl)
  have c50_1 := (lcc hb2 (w.heap.size) (by (first | omega | (simp only [sz_alloc, sz_setCell, sz_drew, sz_drewN]; omega) | (simp; done) | (simp; omega))) 1).trans (by go_simp; exact rfl)
  have c50_2 := (lcc hb2 (w.heap.size) (by (first | omega | (simp only [sz_alloc, sz_setCell, sz_drew, sz_drewN]; omega) | (simp; done) | (simp; omega))) 2).trans (by go_simp; exact rfl)
  have c50_3 := (lcc hb2 (w.heap.size) (by (first | omega | (simp only [sz_alloc, sz_setCell, sz_drew, sz_drewN]; omega) | (simp; done) | (simp; omega))) 3).trans (by go_simp; exact rfl)
  have c50_4 := (lcc hb2 (w.heap.size) (by (first | omega | (simp only [sz_alloc, sz_setCell, sz_drew, sz_drewN]; omega) | (simp; done) | (simp; omega))) 4).trans (by go_simp; exact rfl)
  have c50_5 := (lcc hb2 (w.heap.size) (by (first | omega | (simp only [sz_alloc, sz_setCell, sz_drew, sz_drewN]; omega) | (simp; done) | (simp; omega))) 5).trans (by go_simp; exact rfl)
  have f50 := lcff hb2 (w.heap.size) (by (first | omega | (simp only [sz_alloc, sz_setCell, sz_drew, sz_drewN]; omega) | (simp; done) | (simp; omega))) (by intro o; go_simp)
  have s51 := lcs hb2 (w.heap.size + 1) (by (first | omega | (simp only [sz_alloc, sz_setCell, sz_drew, sz_drewN]; omega) | (simp; done) | (simp; omega)))
  have c51_0 := (lcc hb2 (w.heap.size + 1) (by (first | omega | (simp only [sz_alloc, sz_setCell, sz_drew, sz_drewN]; omega) | (simp; done) | (simp; omega))) 0).trans (by go_simp; exact rfl)
  have c51_1 := (lcc hb2 (w.heap.size + 1) (by (first | omega | (simp only [sz_alloc, sz_setCell, sz_drew, sz_drewN]; omega) | (simp; done) | (simp; omega))) 1).trans (by go_simp; exact rfl)
  have c51_2 := (lcc hb2 (w.heap.size + 1) (by (first | omega | (simp only [sz_alloc, sz_setCell, sz_drew, sz_drewN]; omega) | (simp; done) | (simp; omega))) 2).trans (by go_simp; exact rfl)
  have c51_3 := (lcc hb2 (w.heap.size + 1) (by (first | omega | (simp only [sz_alloc, sz_setCell, sz_drew, sz_drewN]; omega) | (simp; done) | (simp; omega))) 3).trans (by go_simp; exact rfl)
  have c51_4 := (lcc hb2 (w.heap.size + 1) (by (first | omega | (simp only [sz_alloc, sz_setCell, sz_drew, sz_drewN]; omega) | (simp; done) | (simp; omega))) 4).trans (by go_simp; exact rfl)
  have c51_5 := (lcc hb2 (w.heap.size + 1) (by (first | omega | (simp only [sz_alloc, sz_setCell, sz_drew, sz_drewN]; omega) | (simp; done) | (simp; omega))) 5).trans (by go_simp; exact rfl)
  have f51 := lcff hb2 (w.heap.size + 1) (by (first | omega | (simp only [sz_alloc, sz_setCell, sz_drew, sz_drewN]; omega) | (simp; done) | (simp; omega))) (by intro o; go_simp)
  have s52 := lcs hb2 (w.heap.size + 1 + 1) (by (first | omega | (simp only [sz_alloc, sz_setCell, sz_drew, sz_drewN]; omega) | (simp; done) | (simp; omega)))
  have c52_0 := (lcc hb2 (w.heap.size + 1 + 1) (by (first | omega | (simp only [sz_alloc, sz_setCell, sz_drew, sz_drewN]; omega) | (simp; done) | (simp; omega))) 0).trans (by go_simp; exact rfl)
  have c52_1 := (lcc hb2 (w.heap.size + 1 + 1) (by (first | omega | (simp only [sz_alloc, sz_setCell, sz_drew, sz_drewN]; omega) | (simp; done) | (simp; omega))) 1).trans (by go_simp; exact rfl)
  have c52_2 := (lcc hb2 (w.heap.size + 1 + 1) (by (first | omega | (simp only [sz_alloc, sz_setCell, sz_drew, sz_drewN]; omega) | (simp; done) | (simp; omega))) 2).trans (by go_simp; exact rfl)
  have c52_3 := (lcc hb2 (w.heap.size + 1 + 1) (by (first | omega | (simp only [sz_alloc, sz_setCell, sz_drew, sz_drewN]; omega) | (simp; done) | (simp; omega))) 3).trans (by go_simp; exact rfl)
  have c52_4 := (lcc hb2 (w.heap.size + 1 + 1) (by (first | omega | (simp only [sz_alloc, sz_setCell, sz_drew, sz_drewN]; omega) | (simp; done) | (simp; omega))) 4).trans (by go_simp; exact rfl)
  have c52_5 := (lcc hb2 (w.heap.size + 1 + 1) (by (first | omega | (simp only [sz_alloc, sz_setCell, sz_drew, sz_drewN]; omega) | (simp; done) | (simp; omega))) 5).trans (by go_simp; exact rfl)
  have f52 := lcff hb2 (w.heap.size + 1 + 1) (by (first | omega | (simp only [sz_alloc, sz_setCell, sz_drew, sz_drewN]; omega) | (simp; done) | (simp; omega))) (by intro o; go_simp)
  clear c47_0 c47_1 c47_2 c47_3 c47_4 c47_5 f47 c48_0 c48_1 c48_2 c48_3 c48_4 c48_5 f48 c49_0 c49_1 c49_2 c49_3 c49_4 c49_5 f49
  go_upto_region 15 with (fail)
  first | with_reducible refine wp_rebase ?_ | with_reducible refine wpList_rebase ?_
  intro w1 hb'
  have hb := hb'.out
  clear hb'
  have s53 := lcs hb (w.heap.size + 1) (by (first | omega | (simp only [sz_alloc, sz_setCell, sz_drew, sz_drewN]; omega) | (simp; done) | (simp; omega)))
  have c53_0 := (lcc hb (w.heap.size + 1) (by (first | omega | (simp only [sz_alloc, sz_setCell, sz_drew, sz_drewN]; omega) | (simp; done) | (simp; omega))) 0).trans (by go_simp; exact rfl)
  have c53_1 := (lcc hb (w.heap.size + 1) (by (first | omega | (simp only [sz_alloc, sz_setCell, sz_drew, sz_drewN]; omega) | (simp; done) | (simp; omega))) 1).trans (by go_simp; exact rfl)
  have c53_2 := (lcc hb (w.heap.size + 1) (by (first | omega | (simp only [sz_alloc, sz_setCell, sz_drew, sz_drewN]; omega) | (simp; done) | (simp; omega))) 2).trans (by go_simp; exact rfl)
  have c53_3 := (lcc hb (w.heap.size + 1) (by (first | omega | (simp only [sz_alloc, sz_setCell, sz_drew, sz_drewN]; omega) | (simp; done) | (simp; omega))) 3).trans (by go_simp; exact rfl)
  have c53_4 := (lcc hb (w.heap.size + 1) (by (first | omega | (simp only [sz_alloc, sz_setCell, sz_drew, sz_drewN]; omega) | (simp; done) | (simp; omega))) 4).trans (by go_simp; exact rfl)
  have c53_5 := (lcc hb (w.heap.size + 1) (by (first | omega | (simp only [sz_alloc, sz_setCell, sz_drew, sz_drewN]; omega) | (simp; done) | (simp; omega))) 5).trans (by go_simp; exact rfl)
  have f53 := lcff hb (w.heap.size + 1) (by (first | omega | (simp only [sz_alloc, sz_setCell, sz_drew, sz_drewN]; omega) | (simp; done) | (simp; omega))) (by intro o; go_simp)
  have s54 := lcs hb (w.heap.size + 1 + 1) (by (first | omega | (simp only [sz_alloc, sz_setCell, sz_drew, sz_drewN]; omega) | (simp; done) | (simp; omega)))
  have c54_0 := (lcc hb (w.heap.size + 1 + 1) (by (first | omega | (simp only [sz_alloc, sz_setCell, sz_drew, sz_drewN]; omega) | (simp; done) | (simp; omega))) 0).trans (by go_simp; exact rfl)
  have c54_1 := (lcc hb (w.heap.size + 1 + 1) (by (first | omega | (simp only [sz_alloc, sz_setCell, sz_drew, sz_drewN]; omega) | (simp; done) | (simp; omega))) 1).trans (by go_simp; exact rfl)
  have c54_2 := (lcc hb (w.heap.size + 1 + 1) (by (first | omega | (simp only [sz_alloc, sz_setCell, sz_drew, sz_drewN]; omega) | (simp; done) | (simp; omega))) 2).trans (by go_simp; exact rfl)
  have c54_3 := (lcc hb (w.heap.size + 1 + 1) (by (first | omega | (simp only [sz_alloc, sz_setCell, sz_drew, sz_drewN]; omega) | (simp; done) | (simp; omega))) 3).trans (by go_simp; exact rfl)
  have c54_4 := (lcc hb (w.heap.size + 1 + 1) (by (first | omega | (simp only [sz_alloc, sz_setCell, sz_drew, sz_drewN]; omega) | (simp; done) | (simp; omega))) 4).trans (by go_simp; exact rfl)
  have c54_5 := (lcc hb (w.heap.size + 1 + 1) (by (first | omega | (simp only [sz_alloc, sz_setCell, sz_drew, sz_drewN]; omega) | (simp; done) | (simp; omega))) 5).trans (by go_simp; exact rfl)
  have f54 := lcff hb (w.heap.size + 1 + 1) (by (first | omega | (simp only [sz_alloc, sz_setCell, sz_drew, sz_drewN]; omega) | (simp; done) | (simp; omega))) (by intro o; go_simp)
  have s55 := lcs hb (w2.heap.size) (by (first | omega | (simp only [sz_alloc, sz_setCell, sz_drew, sz_drewN]; omega) | (simp; done) | (simp; omega)))
  have c55_0 := (lcc hb (w2.heap.size) (by (first | omega | (simp only [sz_alloc, sz_setCell, sz_drew, sz_drewN]; omega) | (simp; done) | (simp; omega))) 0).trans (by go_simp; exact rfl)
  have c55_1 := (lcc hb (w2.heap.size) (by (first | omega | (simp only [sz_alloc, sz_setCell, sz_drew, sz_drewN]; omega) | (simp; done) | (simp; omega))) 1).trans (by go_simp; exact rfl)
  have f55 := lcff hb (w2.heap.size) (by (first | omega | (simp only [sz_alloc, sz_setCell, sz_drew, sz_drewN]; omega) | (simp; done) | (simp; omega))) (by intro o; go_simp)
  have s56 := lcs hb (w2.heap.size + 1) (by (first | omega | (simp only [sz_alloc, sz_setCell, sz_drew, sz_drewN]; omega) | (simp; done) | (simp; omega)))
  have c56_0 := (lcc hb (w2.heap.size + 1) (by (first | omega | (simp only [sz_alloc, sz_setCell, sz_drew, sz_drewN]; omega) | (simp; done) | (simp; omega))) 0).trans (by go_simp; exact rfl)
  have c56_1 := (lcc hb (w2.heap.size + 1) (by (first | omega | (simp only [sz_alloc, sz_setCell, sz_drew, sz_drewN]; omega) | (simp; done) | (simp; omega))) 1).trans (by go_simp; exact rfl)
  have c56_2 := (lcc hb (w2.heap.size + 1) (by (first | omega | (simp only [sz_alloc, sz_setCell, sz_drew, sz_drewN]; omega) | (simp; done) | (simp; omega))) 2).trans (by go_simp; exact rfl)
  have c56_3 := (lcc hb (w2.heap.size + 1) (by (first | omega | (simp only [sz_alloc, sz_setCell, sz_drew, sz_drewN]; omega) | (simp; done) | (simp; omega))) 3).trans (by go_simp; exact rfl)
  have c56_4 := (lcc hb (w2.heap.size + 1) (by (first | omega | (simp only [sz_alloc, sz_setCell, sz_drew, sz_drewN]; omega) | (simp; done) | (simp; omega))) 4).trans (by go_simp; exact rfl)
  have c56_5 := (lcc hb (w2.heap.size + 1) (by (first | omega | (simp only [sz_alloc, sz_setCell, sz_drew, sz_drewN]; omega) | (simp; done) | (simp; omega))) 5).trans (by go_simp; exact rfl)
  have f56 := lcff hb (w2.heap.size + 1) (by (first | omega | (simp only [sz_alloc, sz_setCell, sz_drew, sz_drewN]; omega) | (simp; done) | (simp; omega))) (by intro o; go_simp)
  clear c50_0 c50_1 c50_2 c50_3 c50_4 c50_5 f50 c51_0 c51_1 c51_2 c51_3 c51_4 c51_5 f51 c52_0 c52_1 c52_2 c52_3 c52_4 c52_5 f52
  go_wp2_with fail
  refine (HN2.out _).mono ?_
  rintro e' w3 ⟨rfl, hb3⟩
  have s57 := lcs hb3 (w.heap.size + 1 + 1) (by (first | omega | (simp only [sz_alloc, sz_setCell, sz_drew, sz_drewN]; omega) | (simp; done) | (simp; omega)))
  have c57_0 := (lcc hb3 (w.heap.size + 1 + 1) (by (first | omega | (simp only [sz_alloc, sz_setCell, sz_drew, sz_drewN]; omega) | (simp; done) | (simp; omega))) 0).trans (by go_simp; exact rfl)
  have c57_1 := (lcc hb3 (w.heap.size + 1 + 1) (by (first | omega | (simp only [sz_alloc, sz_setCell, sz_drew, sz_drewN]; omega) | (simp; done) | (simp; omega))) 1).trans (by go_simp; exact rfl)
  have c57_2 := (lcc hb3 (w.heap.size + 1 + 1) (by (first | omega | (simp only [sz_alloc, sz_setCell, sz_drew, sz_drewN]; omega) | (simp; done) | (simp; omega))) 2).trans (by go_simp; exact rfl)
  have c57_3 := (lcc hb3 (w.heap.size + 1 + 1) (by (first | omega | (simp only [sz_alloc, sz_setCell, sz_drew, sz_drewN]; omega) | (simp; done) | (simp; omega))) 3).trans (by go_simp; exact rfl)
  have c57_4 := (lcc hb3 (w.heap.size + 1 + 1) (by (first | omega | (simp only [sz_alloc, sz_setCell, sz_drew, sz_drewN]; omega) | (simp; done) | (simp; omega))) 4).trans (by go_simp; exact rfl)
  have c57_5 := (lcc hb3 (w.heap.size + 1 + 1) (by (first | omega | (simp only [sz_alloc, sz_setCell, sz_drew, sz_drewN]; omega) | (simp; done) | (simp; omega))) 5).trans (by go_simp; exact rfl)
  have f57 := lcff hb3 (w.heap.size + 1 + 1) (by (first | omega | (simp only [sz_alloc, sz_setCell, sz_drew, sz_drewN]; omega) | (simp; done) | (simp; omega))) (by intro o; go_simp)
  have s58 := lcs hb3 (w2.heap.size) (by (first | omega | (simp only [sz_alloc, sz_setCell, sz_drew, sz_drewN]; omega) | (simp; done) | (simp; omega)))
  have c58_0 := (lcc hb3 (w2.heap.size) (by (first | omega | (simp only [sz_alloc, sz_setCell, sz_drew, sz_drewN]; omega) | (simp; done) | (simp; omega))) 0).trans (by go_simp; exact rfl)
  have c58_1 := (lcc hb3 (w2.heap.size) (by (first | omega | (simp only [sz_alloc, sz_setCell, sz_drew, sz_drewN]; omega) | (simp; done) | (simp; omega))) 1).trans (by go_simp; exact rfl)
  have f58 := lcff hb3 (w2.heap.size) (by (first | omega | (simp only [sz_alloc, sz_setCell, sz_drew, sz_drewN]; omega) | (simp; done) | (simp; omega))) (by intro o; go_simp)
  have s59 := lcs hb3 (w2.heap.size + 1) (by (first | omega | (simp only [sz_alloc, sz_setCell, sz_drew, sz_drewN]; omega) | (simp; done) | (simp; omega)))
  have c59_0 := (lcc hb3 (w2.heap.size + 1) (by (first | omega | (simp only [sz_alloc, sz_setCell, sz_drew, sz_drewN]; omega) | (simp; done) | (simp; omega))) 0).trans (by go_simp; exact rfl)
  have c59_1 := (lcc hb3 (w2.heap.size + 1) (by (first | omega | (simp only [sz_alloc, sz_setCell, sz_drew, sz_drewN]; omega) | (simp; done) | (simp; omega))) 1).trans (by go_simp; exact rfl)
  have c59_2 := (lcc hb3 (w2.heap.size + 1) (by (first | omega | (simp only [sz_alloc, sz_setCell, sz_drew, sz_drewN]; omega) | (simp; done) | (simp; omega))) 2).trans (by go_simp; exact rfl)
  have c59_3 := (lcc hb3 (w2.heap.size + 1) (by (first | omega | (simp only [sz_alloc, sz_setCell, sz_drew, sz_drewN]; omega) | (simp; done) | (simp; omega))) 3).trans (by go_simp; exact rfl)
  have c59_4 := (lcc hb3 (w2.heap.size + 1) (by (first | omega | (simp only [sz_alloc, sz_setCell, sz_drew, sz_drewN]; omega) | (simp; done) | (simp; omega))) 4).trans (by go_simp; exact rfl)
  have c59_5 := (lcc hb3 (w2.heap.size + 1) (by (first | omega | (simp only [sz_alloc, sz_setCell, sz_drew, sz_drewN]; omega) | (simp; done) | (simp; omega))) 5).trans (by go_simp; exact rfl)
  have f59 := lcff hb3 (w2.heap.size + 1) (by (first | omega | (simp only [sz_alloc, sz_setCell, sz_drew, sz_drewN]; omega) | (simp; done) | (simp; omega))) (by intro o; go_simp)
  clear c53_0 c53_1 c53_2 c53_3 c53_4 c53_5 f53 c54_0 c54_1 c54_2 c54_3 c54_4 c54_5 f54 c55_0 c55_1 f55 c56_0 c56_1 c56_2 c56_3 c56_4 c56_5 f56
  go_wp2_with fail
  refine (HR.out _).mono ?_
  rintro e' w4 ⟨rfl, hb4⟩
  have s60 := lcs hb4 (w.heap.size + 1 + 1) (by (first | omega | (simp only [sz_alloc, sz_setCell, sz_drew, sz_drewN]; omega) | (simp; done) | (simp; omega)))
  have c60_0 := (lcc hb4 (w.heap.size + 1 + 1) (by (first | omega | (simp only [sz_alloc, sz_setCell, sz_drew, sz_drewN]; omega) | (simp; done) | (simp; omega))) 0).trans (by go_simp; exact rfl)
  have c60_1 := (lcc hb4 (w.heap.size + 1 + 1) (by (first | omega | (simp only [sz_alloc, sz_setCell, sz_drew, sz_drewN]; omega) | (simp; done) | (simp; omega))) 1).trans (by go_simp; exact rfl)
  have c60_2 := (lcc hb4 (w.heap.size + 1 + 1) (by (first | omega | (simp only [sz_alloc, sz_setCell, sz_drew, sz_drewN]; omega) | (simp; done) | (simp; omega))) 2).trans (by go_simp; exact rfl)
  have c60_3 := (lcc hb4 (w.heap.size + 1 + 1) (by (first | omega | (simp only [sz_alloc, sz_setCell, sz_drew, sz_drewN]; omega) | (simp; done) | (simp; omega))) 3).trans (by go_simp; exact rfl)
  have c60_4 := (lcc hb4 (w.heap.size + 1 + 1) (by (first | omega | (simp only [sz_alloc, sz_setCell, sz_drew, sz_drewN]; omega) | (simp; done) | (simp; omega))) 4).trans (by go_simp; exact rfl)
  have c60_5 := (lcc hb4 (w.heap.size + 1 + 1) (by (first | omega | (simp only [sz_alloc, sz_setCell, sz_drew, sz_drewN]; omega) | (simp; done) | (simp; omega))) 5).trans (by go_simp; exact rfl)
  have f60 := lcff hb4 (w.heap.size + 1 + 1) (by (first | omega | (simp only [sz_alloc, sz_setCell, sz_drew, sz_drewN]; omega) | (simp; done) | (simp; omega))) (by intro o; go_simp)
  clear c57_0 c57_1 c57_2 c57_3 c57_4 c57_5 f57 c58_0 c58_1 f58 c59_0 c59_1 c59_2 c59_3 c59_4 c59_5 f59
  go_wp2
  refine bodyPost_ret (v := .agg #[.int .i64 (Q).k, .int .i64 (Q).n, .int .i64 (Q).d, .string (Q).t, .bool (Q).b, .int .i64 (Q).f]) (by simp [results, Tryz.results32, go_sem, c60_0, c60_1, c60_2, c60_3, c60_4, c60_5]) rfl ⟨rfl, ?_⟩
  repeat (first | with_reducible exact Below.refl _ _ | with_reducible refine below_drewN ?_ _ | with_reducible refine Below.drew ?_ | with_reducible refine Below.setCell ?_ (by (first | omega | (simp only [sz_alloc, sz_setCell, sz_drew, sz_drewN]; omega) | (simp; done) | (simp; omega))) _ | with_reducible refine Below.alloc ?_ (by (first | omega | (simp only [sz_alloc, sz_setCell, sz_drew, sz_drewN]; omega) | (simp; done) | (simp; omega))) _ | with_reducible refine below_then ?_ ?_ (by with_reducible assumption) | (first | omega | (simp only [sz_alloc, sz_setCell, sz_drew, sz_drewN]; omega) | (simp; done) | (simp; omega)))
set_option maxRecDepth 100000 in
set_option maxHeartbeats 2000000 in
theorem value_Bin14 (n d m e : Int) (w : World) (h1 : rightN n d = true) (h2 : rightN m e = true) :
    Calls Tryz.prog 32 #[.int .i64 14, .agg #[.int .i64 1, .int .i64 n, .int .i64 d, .string ⟨#[]⟩, .bool false, .int .i64 0], .agg #[.int .i64 1, .int .i64 m, .int .i64 e, .string ⟨#[]⟩, .bool false, .int .i64 0]] w fun e' w' => e' = .returned (.agg #[.int .i64 (quoV n d m e).k, .int .i64 (quoV n d m e).n, .int .i64 (quoV n d m e).d, .string (quoV n d m e).t, .bool (quoV n d m e).b, .int .i64 (quoV n d m e).f]) ∧ Below w.heap.size w w' := by
  have x1 : Vl.In ⟨1, n, d, ⟨#[]⟩, false, 0⟩ := right_in (rightV_num.trans h1)
  have x2 : Vl.In ⟨1, m, e, ⟨#[]⟩, false, 0⟩ := right_in (rightV_num.trans h2)
  have t1 : tkV ⟨1, n, d, ⟨#[]⟩, false, 0⟩ = ⟨1, n, d, ⟨#[]⟩, false, 0⟩ := tkV_of (rightV_num.trans h1)
  have t2 : tkV ⟨1, m, e, ⟨#[]⟩, false, 0⟩ = ⟨1, m, e, ⟨#[]⟩, false, 0⟩ := tkV_of (rightV_num.trans h2)
  have HT1 := Lib.hid fun wx => value_taken 1 n d ⟨#[]⟩ false 0 wx x1
  have HT2 := Lib.hid fun wx => value_taken 1 m e ⟨#[]⟩ false 0 wx x2
  rw [t1] at HT1
  rw [t2] at HT2
  have HN1 := Lib.hid fun wx => value_AsNumber 1 n d ⟨#[]⟩ false 0 wx x1
  have HN2 := Lib.hid fun wx => value_AsNumber 1 m e ⟨#[]⟩ false 0 wx x2
  have e1 : asNum ⟨1, n, d, ⟨#[]⟩, false, 0⟩ = ⟨n, d, blankV⟩ := asNum_num h1
  have e2 : asNum ⟨1, m, e, ⟨#[]⟩, false, 0⟩ = ⟨m, e, blankV⟩ := asNum_num h2
  rw [e1] at HN1
  rw [e2] at HN2
  simp only [blankV, noT] at HN1 HN2
  have b1 := rightN_iff.1 h1
  have b2 := rightN_iff.1 h2
  have HR := Lib.hid fun wx => value_reckon14 n d m e wx (I64.of b1.1 b1.2.1) (I64.of (by omega) (by omega)) (I64.of b2.1 b2.2.1) (I64.of (by omega) (by omega))
  generalize quoV n d m e = Q at *
  clear x1 x2 t1 t2 e1 e2 b1 b2 h1 h2
  go_enter Tryz.func32, Tryz.ntmps32
  go_wp2_with fail
  refine region_below 4 (by kernel_rfl) (by kernel_rfl) ?_
  simp only [List.take_succ_cons, List.take_zero, List.drop_succ_cons, List.drop_zero]
  repeat
    first | (refine q_run ?_ ?_; focus (go_simp; done)) | (refine q_skip ?_ ?_; focus (go_simp; done))
    try (apply Exists.intro; refine ⟨fun w' hw' => ?_, ?_⟩; focus (have hc := (bcell hw'.out).1; unfold Oper.quietAt; go_simp; (try go_ints); (first | rfl | (go_at_call 73; refine (HT1.out _).mono ?_; rintro e w2 ⟨rfl, hb⟩; exact ⟨rfl, hw'.chain hb⟩) | (go_at_call 73; refine (HT2.out _).mono ?_; rintro e w2 ⟨rfl, hb⟩; exact ⟨rfl, hw'.chain hb⟩))))
    intro K hK
    go_simp
    refine hK _ ?_
    clear hK K
  refine wpQuiet_nil ?_
  intro w1 hb'
  have hb := hb'.out
  clear hb'
  have s61 := lcs hb (w.heap.size) (by (first | omega | (simp only [sz_alloc, sz_setCell, sz_drew, sz_drewN]; omega) | (simp; done) | (simp; omega)))
  have c61_0 := (lcc hb (w.heap.size) (by (first | omega | (simp only [sz_alloc, sz_setCell, sz_drew, sz_drewN]; omega) | (simp; done) | (simp; omega))) 0).trans (by go_simp; exact rfl)
  have c61_1 := (lcc hb (w.heap.size) (by (first | omega | (simp only [sz_alloc, sz_setCell, sz_drew, sz_drewN]; omega) | (simp; done) | (simp; omega))) 1).trans (by go_simp; exact rfl)
  have c61_2 := (lcc hb (w.heap.size) (by (first | omega | (simp only [sz_alloc, sz_setCell, sz_drew, sz_drewN]; omega) | (simp; done) | (simp; omega))) 2).trans (by go_simp; exact rfl)
  have c61_3 := (lcc hb (w.heap.size) (by (first | omega | (simp only [sz_alloc, sz_setCell, sz_drew, sz_drewN]; omega) | (simp; done) | (simp; omega))) 3).trans (by go_simp; exact rfl)
  have c61_4 := (lcc hb (w.heap.size) (by (first | omega | (simp only [sz_alloc, sz_setCell, sz_drew, sz_drewN]; omega) | (simp; done) | (simp; omega))) 4).trans (by go_simp; exact rfl)
  have c61_5 := (lcc hb (w.heap.size) (by (first | omega | (simp only [sz_alloc, sz_setCell, sz_drew, sz_drewN]; omega) | (simp; done) | (simp; omega))) 5).trans (by go_simp; exact rfl)
  have f61 := lcff hb (w.heap.size) (by (first | omega | (simp only [sz_alloc, sz_setCell, sz_drew, sz_drewN]; omega) | (simp; done) | (simp; omega))) (by intro o; go_simp)
  have s62 := lcs hb (w.heap.size + 1) (by (first | omega | (simp only [sz_alloc, sz_setCell, sz_drew, sz_drewN]; omega) | (simp; done) | (simp; omega)))
  have c62_0 := (lcc hb (w.heap.size + 1) (by (first | omega | (simp only [sz_alloc, sz_setCell, sz_drew, sz_drewN]; omega) | (simp; done) | (simp; omega))) 0).trans (by go_simp; exact rfl)
  have c62_1 := (lcc hb (w.heap.size + 1) (by (first | omega | (simp only [sz_alloc, sz_setCell, sz_drew, sz_drewN]; omega) | (simp; done) | (simp; omega))) 1).trans (by go_simp; exact rfl)
  have c62_2 := (lcc hb (w.heap.size + 1) (by (first | omega | (simp only [sz_alloc, sz_setCell, sz_drew, sz_drewN]; omega) | (simp; done) | (simp; omega))) 2).trans (by go_simp; exact rfl)
  have c62_3 := (lcc hb (w.heap.size + 1) (by (first | omega | (simp only [sz_alloc, sz_setCell, sz_drew, sz_drewN]; omega) | (simp; done) | (simp; omega))) 3).trans (by go_simp; exact rfl)
  have c62_4 := (lcc hb (w.heap.size + 1) (by (first | omega | (simp only [sz_alloc, sz_setCell, sz_drew, sz_drewN]; omega) | (simp; done) | (simp; omega))) 4).trans (by go_simp; exact rfl)
  have c62_5 := (lcc hb (w.heap.size + 1) (by (first | omega | (simp only [sz_alloc, sz_setCell, sz_drew, sz_drewN]; omega) | (simp; done) | (simp; omega))) 5).trans (by go_simp; exact rfl)
  have f62 := lcff hb (w.heap.size + 1) (by (first | omega | (simp only [sz_alloc, sz_setCell, sz_drew, sz_drewN]; omega) | (simp; done) | (simp; omega))) (by intro o; go_simp)
  have s63 := lcs hb (w.heap.size + 1 + 1) (by (first | omega | (simp only [sz_alloc, sz_setCell, sz_drew, sz_drewN]; omega) | (simp; done) | (simp; omega)))
  have c63_0 := (lcc hb (w.heap.size + 1 + 1) (by (first | omega | (simp only [sz_alloc, sz_setCell, sz_drew, sz_drewN]; omega) | (simp; done) | (simp; omega))) 0).trans (by go_simp; exact rfl)
  have c63_1 := (lcc hb (w.heap.size + 1 + 1) (by (first | omega | (simp only [sz_alloc, sz_setCell, sz_drew, sz_drewN]; omega) | (simp; done) | (simp; omega))) 1).trans (by go_simp; exact rfl)
  have c63_2 := (lcc hb (w.heap.size + 1 + 1) (by (first | omega | (simp only [sz_alloc, sz_setCell, sz_drew, sz_drewN]; omega) | (simp; done) | (simp; omega))) 2).trans (by go_simp; exact rfl)
  have c63_3 := (lcc hb (w.heap.size + 1 + 1) (by (first | omega | (simp only [sz_alloc, sz_setCell, sz_drew, sz_drewN]; omega) | (simp; done) | (simp; omega))) 3).trans (by go_simp; exact rfl)
  have c63_4 := (lcc hb (w.heap.size + 1 + 1) (by (first | omega | (simp only [sz_alloc, sz_setCell, sz_drew, sz_drewN]; omega) | (simp; done) | (simp; omega))) 4).trans (by go_simp; exact rfl)
  have c63_5 := (lcc hb (w.heap.size + 1 + 1) (by (first | omega | (simp only [sz_alloc, sz_setCell, sz_drew, sz_drewN]; omega) | (simp; done) | (simp; omega))) 5).trans (by go_simp; exact rfl)
  have f63 := lcff hb (w.heap.size + 1 + 1) (by (first | omega | (simp only [sz_alloc, sz_setCell, sz_drew, sz_drewN]; omega) | (simp; done) | (simp; omega))) (by intro o; go_simp)
  go_upto_region 4 with (fail)
  first | with_reducible refine wp_rebase ?_ | with_reducible refine wpList_rebase ?_
  intro w1 hb'
  have hb := hb'.out
  clear hb'
  have s64 := lcs hb (w.heap.size) (by (first | omega | (simp only [sz_alloc, sz_setCell, sz_drew, sz_drewN]; omega) | (simp; done) | (simp; omega)))
  have c64_0 := (lcc hb (w.heap.size) (by (first | omega | (simp only [sz_alloc, sz_setCell, sz_drew, sz_drewN]; omega) | (simp; done) | (simp; omega))) 0).trans (by go_simp; exact rfl)
  have c64_1 := (lcc hb (w.heap.size) (by (first | omega | (simp only [sz_alloc, sz_setCell, sz_drew, sz_drewN]; omega) | (simp; done) | (simp; omega))) 1).trans (by go_simp; exact rfl)
  have c64_2 := (lcc hb (w.heap.size) (by (first | omega | (simp only [sz_alloc, sz_setCell, sz_drew, sz_drewN]; omega) | (simp; done) | (simp; omega))) 2).trans (by go_simp; exact rfl)
  have c64_3 := (lcc hb (w.heap.size) (by (first | omega | (simp only [sz_alloc, sz_setCell, sz_drew, sz_drewN]; omega) | (simp; done) | (simp; omega))) 3).trans (by go_simp; exact rfl)
  have c64_4 := (lcc hb (w.heap.size) (by (first | omega | (simp only [sz_alloc, sz_setCell, sz_drew, sz_drewN]; omega) | (simp; done) | (simp; omega))) 4).trans (by go_simp; exact rfl)
  have c64_5 := (lcc hb (w.heap.size) (by (first | omega | (simp only [sz_alloc, sz_setCell, sz_drew, sz_drewN]; omega) | (simp; done) | (simp; omega))) 5).trans (by go_simp; exact rfl)
  have f64 := lcff hb (w.heap.size) (by (first | omega | (simp only [sz_alloc, sz_setCell, sz_drew, sz_drewN]; omega) | (simp; done) | (simp; omega))) (by intro o; go_simp)
  have s65 := lcs hb (w.heap.size + 1) (by (first | omega | (simp only [sz_alloc, sz_setCell, sz_drew, sz_drewN]; omega) | (simp; done) | (simp; omega)))
  have c65_0 := (lcc hb (w.heap.size + 1) (by (first | omega | (simp only [sz_alloc, sz_setCell, sz_drew, sz_drewN]; omega) | (simp; done) | (simp; omega))) 0).trans (by go_simp; exact rfl)
  have c65_1 := (lcc hb (w.heap.size + 1) (by (first | omega | (simp only [sz_alloc, sz_setCell, sz_drew, sz_drewN]; omega) | (simp; done) | (simp; omega))) 1).trans (by go_simp; exact rfl)
  have c65_2 := (lcc hb (w.heap.size + 1) (by (first | omega | (simp only [sz_alloc, sz_setCell, sz_drew, sz_drewN]; omega) | (simp; done) | (simp; omega))) 2).trans (by go_simp; exact rfl)
  have c65_3 := (lcc hb (w.heap.size + 1) (by (first | omega | (simp only [sz_alloc, sz_setCell, sz_drew, sz_drewN]; omega) | (simp; done) | (simp; omega))) 3).trans (by go_simp; exact rfl)
  have c65_4 := (lcc hb (w.heap.size + 1) (by (first | omega | (simp only [sz_alloc, sz_setCell, sz_drew, sz_drewN]; omega) | (simp; done) | (simp; omega))) 4).trans (by go_simp; exact rfl)
  have c65_5 := (lcc hb (w.heap.size + 1) (by (first | omega | (simp only [sz_alloc, sz_setCell, sz_drew, sz_drewN]; omega) | (simp; done) | (simp; omega))) 5).trans (by go_simp; exact rfl)
  have f65 := lcff hb (w.heap.size + 1) (by (first | omega | (simp only [sz_alloc, sz_setCell, sz_drew, sz_drewN]; omega) | (simp; done) | (simp; omega))) (by intro o; go_simp)
  have s66 := lcs hb (w.heap.size + 1 + 1) (by (first | omega | (simp only [sz_alloc, sz_setCell, sz_drew, sz_drewN]; omega) | (simp; done) | (simp; omega)))
  have c66_0 := (lcc hb (w.heap.size + 1 + 1) (by (first | omega | (simp only [sz_alloc, sz_setCell, sz_drew, sz_drewN]; omega) | (simp; done) | (simp; omega))) 0).trans (by go_simp; exact rfl)
  have c66_1 := (lcc hb (w.heap.size + 1 + 1) (by (first | omega | (simp only [sz_alloc, sz_setCell, sz_drew, sz_drewN]; omega) | (simp; done) | (simp; omega))) 1).trans (by go_simp; exact rfl)
  have c66_2 := (lcc hb (w.heap.size + 1 + 1) (by (first | omega | (simp only [sz_alloc, sz_setCell, sz_drew, sz_drewN]; omega) | (simp; done) | (simp; omega))) 2).trans (by go_simp; exact rfl)
  have c66_3 := (lcc hb (w.heap.size + 1 + 1) (by (first | omega | (simp only [sz_alloc, sz_setCell, sz_drew, sz_drewN]; omega) | (simp; done) | (simp; omega))) 3).trans (by go_simp; exact rfl)
  have c66_4 := (lcc hb (w.heap.size + 1 + 1) (by (first | omega | (simp only [sz_alloc, sz_setCell, sz_drew, sz_drewN]; omega) | (simp; done) | (simp; omega))) 4).trans (by go_simp; exact rfl)
  have c66_5 := (lcc hb (w.heap.size + 1 + 1) (by (first | omega | (simp only [sz_alloc, sz_setCell, sz_drew, sz_drewN]; omega) | (simp; done) | (simp; omega))) 5).trans (by go_simp; exact rfl)
  have f66 := lcff hb (w.heap.size + 1 + 1) (by (first | omega | (simp only [sz_alloc, sz_setCell, sz_drew, sz_drewN]; omega) | (simp; done) | (simp; omega))) (by intro o; go_simp)
  clear c61_0 c61_1 c61_2 c61_3 c61_4 c61_5 f61 c62_0 c62_1 c62_2 c62_3 c62_4 c62_5 f62 c63_0 c63_1 c63_2 c63_3 c63_4 c63_5 f63
  go_wp2_with fail
  refine (HN1.out _).mono ?_
  rintro e' w2 ⟨rfl, hb2⟩
  have s67 := lcs hb2 (w.heap.size) (by (first | omega | (simp only [sz_alloc, sz_setCell, sz_drew, sz_drewN]; omega) | (simp; done) | (simp; omega)))
  have c67_0 := (lcc hb2 (w.heap.size) (by (first | omega | (simp only [sz_alloc, sz_setCell, sz_drew, sz_drewN]; omega) | (simp; done) | (simp; omega))) 0).trans (by go_simp; exact rfl)
  have c67_1 := (lcc hb2 (w.heap.size) (by (first | omega | (simp only [sz_alloc, sz_setCell, sz_drew, sz_drewN]; omega) | (simp; done) | (simp; omega))) 1).trans (by go_simp; exact rfl)
  have c67_2 := (lcc hb2 (w.heap.size) (by (first | omega | (simp only [sz_alloc, sz_setCell, sz_drew, sz_drewN]; omega) | (simp; done) | (simp; omega))) 2).trans (by go_simp; exact rfl)
  have c67_3 := (lcc hb2 (w.heap.size) (by (first | omega | (simp only [sz_alloc, sz_setCell, sz_drew, sz_drewN]; omega) | (simp; done) | (simp; omega))) 3).trans (by go_simp; exact rfl)
  have c67_4 := (lcc hb2 (w.heap.size) (by (first | omega | (simp only [sz_alloc, sz_setCell, sz_drew, sz_drewN]; omega) | (simp; done) | (simp; omega))) 4).trans (by go_simp; exact rfl)
  have c67_5 := (lcc hb2 (w.heap.size) (by (first | omega | (simp only [sz_alloc, sz_setCell, sz_drew, sz_drewN]; omega) | (simp; done) | (simp; omega))) 5).trans (by go_simp; exact rfl)
  have f67 := lcff hb2 (w.heap.size) (by (first | omega | (simp only [sz_alloc, sz_setCell, sz_drew, sz_drewN]; omega) | (simp; done) | (simp; omega))) (by intro o; go_simp)
  have s68 := lcs hb2 (w.heap.size + 1) (by (first | omega | (simp only [sz_alloc, sz_setCell, sz_drew, sz_drewN]; omega) | (simp; done) | (simp; omega)))
  have c68_0 := (lcc hb2 (w.heap.size + 1) (by (first | omega | (simp only [sz_alloc, sz_setCell, sz_drew, sz_drewN]; omega) | (simp; done) | (simp; omega))) 0).trans (by go_simp; exact rfl)
  have c68_1 := (lcc hb2 (w.heap.size + 1) (by (first | omega | (simp only [sz_alloc, sz_setCell, sz_drew, sz_drewN]; omega) | (simp; done) | (simp; omega))) 1).trans (by go_simp; exact rfl)
  have c68_2 := (lcc hb2 (w.heap.size + 1) (by (first | omega | (simp only [sz_alloc, sz_setCell, sz_drew, sz_drewN]; omega) | (simp; done) | (simp; omega))) 2).trans (by go_simp; exact rfl)
  have c68_3 := (lcc hb2 (w.heap.size + 1) (by (first | omega | (simp only [sz_alloc, sz_setCell, sz_drew, sz_drewN]; omega) | (simp; done) | (simp; omega))) 3).trans (by go_simp; exact rfl)
  have c68_4 := (lcc hb2 (w.heap.size + 1) (by (first | omega | (simp only [sz_alloc, sz_setCell, sz_drew, sz_drewN]; omega) | (simp; done) | (simp; omega))) 4).trans (by go_simp; exact rfl)
  have c68_5 := (lcc hb2 (w.heap.size + 1) (by (first | omega | (simp only [sz_alloc, sz_setCell, sz_drew, sz_drewN]; omega) | (simp; done) | (simp; omega))) 5).trans (by go_simp; exact rfl)
  have f68 := lcff hb2 (w.heap.size + 1) (by (first | omega | (simp only [sz_alloc, sz_setCell, sz_drew, sz_drewN]; omega) | (simp; done) | (simp; omega))) (by intro o; go_simp)
  have s69 := lcs hb2 (w.heap.size + 1 + 1) (by (first | omega | (simp only [sz_alloc, sz_setCell, sz_drew, sz_drewN]; omega) | (simp; done) | (simp; omega)))
  have c69_0 := (lcc hb2 (w.heap.size + 1 + 1) (by (first | omega | (simp only [sz_alloc, sz_setCell, sz_drew, sz_drewN]; omega) | (simp; done) | (simp; omega))) 0).trans (by go_simp; exact rfl)
  have c69_1 := (lcc hb2 (w.heap.size + 1 + 1) (by (first | omega | (simp only [sz_alloc, sz_setCell, sz_drew, sz_drewN]; omega) | (simp; done) | (simp; omega))) 1).trans (by go_simp; exact rfl)
  have c69_2 := (lcc hb2 (w.heap.size + 1 + 1) (by (first | omega | (simp only [sz_alloc, sz_setCell, sz_drew, sz_drewN]; omega) | (simp; done) | (simp; omega))) 2).trans (by go_simp; exact rfl)
  have c69_3 := (lcc hb2 (w.heap.size + 1 + 1) (by (first | omega | (simp only [sz_alloc, sz_setCell, sz_drew, sz_drewN]; omega) | (simp; done) | (simp; omega))) 3).trans (by go_simp; exact rfl)
  have c69_4 := (lcc hb2 (w.heap.size + 1 + 1) (by (first | omega | (simp only [sz_alloc, sz_setCell, sz_drew, sz_drewN]; omega) | (simp; done) | (simp; omega))) 4).trans (by go_simp; exact rfl)
  have c69_5 := (lcc hb2 (w.heap.size + 1 + 1) (by (first | omega | (simp only [sz_alloc, sz_setCell, sz_drew, sz_drewN]; omega) | (simp; done) | (simp; omega))) 5).trans (by go_simp; exact rfl)
  have f69 := lcff hb2 (w.heap.size + 1 + 1) (by (first | omega | (simp only [sz_alloc, sz_setCell, sz_drew, sz_drewN]; omega) | (simp; done) | (simp; omega))) (by intro o; go_simp)
  clear c64_0 c64_1 c64_2 c64_3 c64_4 c64_5 f64 c65_0 c65_1 c65_2 c65_3 c65_4 c65_5 f65 c66_0 c66_1 c66_2 c66_3 c66_4 c66_5 f66
  go_upto_region 15 with (fail)
  first | with_reducible refine wp_rebase ?_ | with_reducible refine wpList_rebase ?_
  intro w1 hb'
  have hb := hb'.out
  clear hb'
  have s70 := lcs hb (w.heap.size + 1) (by (first | omega | (simp only [sz_alloc, sz_setCell, sz_drew, sz_drewN]; omega) | (simp; done) | (simp; omega)))
  have c70_0 := (lcc hb (w.heap.size + 1) (by (first | omega | (simp only [sz_alloc, sz_setCell, sz_drew, sz_drewN]; omega) | (simp; done) | (simp; omega))) 0).trans (by go_simp; exact rfl)
  have c70_1 := (lcc hb (w.heap.size + 1) (by (first | omega | (simp only [sz_alloc, sz_setCell, sz_drew, sz_drewN]; omega) | (simp; done) | (simp; omega))) 1).trans (by go_simp; exact rfl)
  have c70_2 := (lcc hb (w.heap.size + 1) (by (first | omega | (simp only [sz_alloc, sz_setCell, sz_drew, sz_drewN]; omega) | (simp; done) | (simp; omega))) 2).trans (by go_simp; exact rfl)
  have c70_3 := (lcc hb (w.heap.size + 1) (by (first | omega | (simp only [sz_alloc, sz_setCell, sz_drew, sz_drewN]; omega) | (simp; done) | (simp; omega))) 3).trans (by go_simp; exact rfl)
  have c70_4 := (lcc hb (w.heap.size + 1) (by (first | omega | (simp only [sz_alloc, sz_setCell, sz_drew, sz_drewN]; omega) | (simp; done) | (simp; omega))) 4).trans (by go_simp; exact rfl)
  have c70_5 := (lcc hb (w.heap.size + 1) (by (first | omega | (simp only [sz_alloc, sz_setCell, sz_drew, sz_drewN]; omega) | (simp; done) | (simp; omega))) 5).trans (by go_simp; exact rfl)
  have f70 := lcff hb (w.heap.size + 1) (by (first | omega | (simp only [sz_alloc, sz_setCell, sz_drew, sz_drewN]; omega) | (simp; done) | (simp; omega))) (by intro o; go_simp)
  have s71 := lcs hb (w.heap.size + 1 + 1) (by (first | omega | (simp only [sz_alloc, sz_setCell, sz_drew, sz_drewN]; omega) | (simp; done) | (simp; omega)))
  have c71_0 := (lcc hb (w.heap.size + 1 + 1) (by (first | omega | (simp only [sz_alloc, sz_setCell, sz_drew, sz_drewN]; omega) | (simp; done) | (simp; omega))) 0).trans (by go_simp; exact rfl)
  have c71_1 := (lcc hb (w.heap.size + 1 + 1) (by (first | omega | (simp only [sz_alloc, sz_setCell, sz_drew, sz_drewN]; omega) | (simp; done) | (simp; omega))) 1).trans (by go_simp; exact rfl)
  have c71_2 := (lcc hb (w.heap.size + 1 + 1) (by (first | omega | (simp only [sz_alloc, sz_setCell, sz_drew, sz_drewN]; omega) | (simp; done) | (simp; omega))) 2).trans (by go_simp; exact rfl)
  have c71_3 := (lcc hb (w.heap.size + 1 + 1) (by (first | omega | (simp only [sz_alloc, sz_setCell, sz_drew, sz_drewN]; omega) | (simp; done) | (simp; omega))) 3).trans (by go_simp; exact rfl)
  have c71_4 := (lcc hb (w.heap.size + 1 + 1) (by (first | omega | (simp only [sz_alloc, sz_setCell, sz_drew, sz_drewN]; omega) | (simp; done) | (simp; omega))) 4).trans (by go_simp; exact rfl)
  have c71_5 := (lcc hb (w.heap.size + 1 + 1) (by (first | omega | (simp only [sz_alloc, sz_setCell, sz_drew, sz_drewN]; omega) | (simp; done) | (simp; omega))) 5).trans (by go_simp; exact rfl)
  have f71 := lcff hb (w.heap.size + 1 + 1) (by (first | omega | (simp only [sz_alloc, sz_setCell, sz_drew, sz_drewN]; omega) | (simp; done) | (simp; omega))) (by intro o; go_simp)
  have s72 := lcs hb (w2.heap.size) (by (first | omega | (simp only [sz_alloc, sz_setCell, sz_drew, sz_drewN]; omega) | (simp; done) | (simp; omega)))
  have c72_0 := (lcc hb (w2.heap.size) (by (first | omega | (simp only [sz_alloc, sz_setCell, sz_drew, sz_drewN]; omega) | (simp; done) | (simp; omega))) 0).trans (by go_simp; exact rfl)
  have c72_1 := (lcc hb (w2.heap.size) (by (first | omega | (simp only [sz_alloc, sz_setCell, sz_drew, sz_drewN]; omega) | (simp; done) | (simp; omega))) 1).trans (by go_simp; exact rfl)
  have f72 := lcff hb (w2.heap.size) (by (first | omega | (simp only [sz_alloc, sz_setCell, sz_drew, sz_drewN]; omega) | (simp; done) | (simp; omega))) (by intro o; go_simp)
  have s73 := lcs hb (w2.heap.size + 1) (by (first | omega | (simp only [sz_alloc, sz_setCell, sz_drew, sz_drewN]; omega) | (simp; done) | (simp; omega)))
  have c73_0 := (lcc hb (w2.heap.size + 1) (by (first | omega | (simp only [sz_alloc, sz_setCell, sz_drew, sz_drewN]; omega) | (simp; done) | (simp; omega))) 0).trans (by go_simp; exact rfl)
  have c73_1 := (lcc hb (w2.heap.size + 1) (by (first | omega | (simp only [sz_alloc, sz_setCell, sz_drew, sz_drewN]; omega) | (simp; done) | (simp; omega))) 1).trans (by go_simp; exact rfl)
  have c73_2 := (lcc hb (w2.heap.size + 1) (by (first | omega | (simp only [sz_alloc, sz_setCell, sz_drew, sz_drewN]; omega) | (simp; done) | (simp; omega))) 2).trans (by go_simp; exact rfl)
  have c73_3 := (lcc hb (w2.heap.size + 1) (by (first | omega | (simp only [sz_alloc, sz_setCell, sz_drew, sz_drewN]; omega) | (simp; done) | (simp; omega))) 3).trans (by go_simp; exact rfl)
  have c73_4 := (lcc hb (w2.heap.size + 1) (by (first | omega | (simp only [sz_alloc, sz_setCell, sz_drew, sz_drewN]; omega) | (simp; done) | (simp; omega))) 4).trans (by go_simp; exact rfl)
  have c73_5 := (lcc hb (w2.heap.size + 1) (by (first | omega | (simp only [sz_alloc, sz_setCell, sz_drew, sz_drewN]; omega) | (simp; done) | (simp; omega))) 5).trans (by go_simp; exact rfl)
  have f73 := lcff hb (w2.heap.size + 1) (by (first | omega | (simp only [sz_alloc, sz_setCell, sz_drew, sz_drewN]; omega) | (simp; done) | (simp; omega))) (by intro o; go_simp)
  clear c67_0 c67_1 c67_2 c67_3 c67_4 c67_5 f67 c68_0 c68_1 c68_2 c68_3 c68_4 c68_5 f68 c69_0 c69_1 c69_2 c69_3 c69_4 c69_5 f69
  go_wp2_with fail
  refine (HN2.out _).mono ?_
  rintro e' w3 ⟨rfl, hb3⟩
  have s74 := lcs hb3 (w.heap.size + 1 + 1) (by (first | omega | (simp only [sz_alloc, sz_setCell, sz_drew, sz_drewN]; omega) | (simp; done) | (simp; omega)))
  have c74_0 := (lcc hb3 (w.heap.size + 1 + 1) (by (first | omega | (simp only [sz_alloc, sz_setCell, sz_drew, sz_drewN]; omega) | (simp; done) | (simp; omega))) 0).trans (by go_simp; exact rfl)
  have c74_1 := (lcc hb3 (w.heap.size + 1 + 1) (by (first | omega | (simp only [sz_alloc, sz_setCell, sz_drew, sz_drewN]; omega) | (simp; done) | (simp; omega))) 1).trans (by go_simp; exact rfl)
  have c74_2 := (lcc hb3 (w.heap.size + 1 + 1) (by (first | omega | (simp only [sz_alloc, sz_setCell, sz_drew, sz_drewN]; omega) | (simp; done) | (simp; omega))) 2).trans (by go_simp; exact rfl)
  have c74_3 := (lcc hb3 (w.heap.size + 1 + 1) (by (first | omega | (simp only [sz_alloc, sz_setCell, sz_drew, sz_drewN]; omega) | (simp; done) | (simp; omega))) 3).trans (by go_simp; exact rfl)
  have c74_4 := (lcc hb3 (w.heap.size + 1 + 1) (by (first | omega | (simp only [sz_alloc, sz_setCell, sz_drew, sz_drewN]; omega) | (simp; done) | (simp; omega))) 4).trans (by go_simp; exact rfl)
  have c74_5 := (lcc hb3 (w.heap.size + 1 + 1) (by (first | omega | (simp only [sz_alloc, sz_setCell, sz_drew, sz_drewN]; omega) | (simp; done) | (simp; omega))) 5).trans (by go_simp; exact rfl)
  have f74 := lcff hb3 (w.heap.size + 1 + 1) (by (first | omega | (simp only [sz_alloc, sz_setCell, sz_drew, sz_drewN]; omega) | (simp; done) | (simp; omega))) (by intro o; go_simp)
  have s75 := lcs hb3 (w2.heap.size) (by (first | omega | (simp only [sz_alloc, sz_setCell, sz_drew, sz_drewN]; omega) | (simp; done) | (simp; omega)))
  have c75_0 := (lcc hb3 (w2.heap.size) (by (first | omega | (simp only [sz_alloc, sz_setCell, sz_drew, sz_drewN]; omega) | (simp; done) | (simp; omega))) 0).trans (by go_simp; exact rfl)
  have c75_1 := (lcc hb3 (w2.heap.size) (by (first | omega | (simp only [sz_alloc, sz_setCell, sz_drew, sz_drewN]; omega) | (simp; done) | (simp; omega))) 1).trans (by go_simp; exact rfl)
  have f75 := lcff hb3 (w2.heap.size) (by (first | omega | (simp only [sz_alloc, sz_setCell, sz_drew, sz_drewN]; omega) | (simp; done) | (simp; omega))) (by intro o; go_simp)
  have s76 := lcs hb3 (w2.heap.size + 1) (by (first | omega | (simp only [sz_alloc, sz_setCell, sz_drew, sz_drewN]; omega) | (simp; done) | (simp; omega)))
  have c76_0 := (lcc hb3 (w2.heap.size + 1) (by (first | omega | (simp only [sz_alloc, sz_setCell, sz_drew, sz_drewN]; omega) | (simp; done) | (simp; omega))) 0).trans (by go_simp; exact rfl)
  have c76_1 := (lcc hb3 (w2.heap.size + 1) (by (first | omega | (simp only [sz_alloc, sz_setCell, sz_drew, sz_drewN]; omega) | (simp; done) | (simp; omega))) 1).trans (by go_simp; exact rfl)
  have c76_2 := (lcc hb3 (w2.heap.size + 1) (by (first | omega | (simp only [sz_alloc, sz_setCell, sz_drew, sz_drewN]; omega) | (simp; done) | (simp; omega))) 2).trans (by go_simp; exact rfl)
  have c76_3 := (lcc hb3 (w2.heap.size + 1) (by (first | omega | (simp only [sz_alloc, sz_setCell, sz_drew, sz_drewN]; omega) | (simp; done) | (simp; omega))) 3).trans (by go_simp; exact rfl)
  have c76_4 := (lcc hb3 (w2.heap.size + 1) (by (first | omega | (simp only [sz_alloc, sz_setCell, sz_drew, sz_drewN]; omega) | (simp; done) | (simp; omega))) 4).trans (by go_simp; exact rfl)
  have c76_5 := (lcc hb3 (w2.heap.size + 1) (by (first | omega | (simp only [sz_alloc, sz_setCell, sz_drew, sz_drewN]; omega) | (simp; done) | (simp; omega))) 5).trans (by go_simp; exact rfl)
  have f76 := lcff hb3 (w2.heap.size + 1) (by (first | omega | (simp only [sz_alloc, sz_setCell, sz_drew, sz_drewN]; omega) | (simp; done) | (simp; omega))) (by intro o; go_simp)
  clear c70_0 c70_1 c70_2 c70_3 c70_4 c70_5 f70 c71_0 c71_1 c71_2 c71_3 c71_4 c71_5 f71 c72_0 c72_1 f72 c73_0 c73_1 c73_2 c73_3 c73_4 c73_5 f73
  go_wp2_with fail
  refine (HR.out _).mono ?_
  rintro e' w4 ⟨rfl, hb4⟩
  have s77 := lcs hb4 (w.heap.size + 1 + 1) (by (first | omega | (simp only [sz_alloc, sz_setCell, sz_drew, sz_drewN]; omega) | (simp; done) | (simp; omega)))
  have c77_0 := (lcc hb4 (w.heap.size + 1 + 1) (by (first | omega | (simp only [sz_alloc, sz_setCell, sz_drew, sz_drewN]; omega) | (simp; done) | (simp; omega))) 0).trans (by go_simp; exact rfl)
  have c77_1 := (lcc hb4 (w.heap.size + 1 + 1) (by (first | omega | (simp only [sz_alloc, sz_setCell, sz_drew, sz_drewN]; omega) | (simp; done) | (simp; omega))) 1).trans (by go_simp; exact rfl)
  have c77_2 := (lcc hb4 (w.heap.size + 1 + 1) (by (first | omega | (simp only [sz_alloc, sz_setCell, sz_drew, sz_drewN]; omega) | (simp; done) | (simp; omega))) 2).trans (by go_simp; exact rfl)
  have c77_3 := (lcc hb4 (w.heap.size + 1 + 1) (by (first | omega | (simp only [sz_alloc, sz_setCell, sz_drew, sz_drewN]; omega) | (simp; done) | (simp; omega))) 3).trans (by go_simp; exact rfl)
  have c77_4 := (lcc hb4 (w.heap.size + 1 + 1) (by (first | omega | (simp only [sz_alloc, sz_setCell, sz_drew, sz_drewN]; omega) | (simp; done) | (simp; omega))) 4).trans (by go_simp; exact rfl)
  have c77_5 := (lcc hb4 (w.heap.size + 1 + 1) (by (first | omega | (simp only [sz_alloc, sz_setCell, sz_drew, sz_drewN]; omega) | (simp; done) | (simp; omega))) 5).trans (by go_simp; exact rfl)
  have f77 := lcff hb4 (w.heap.size + 1 + 1) (by (first | omega | (simp only [sz_alloc, sz_setCell, sz_drew, sz_drewN]; omega) | (simp; done) | (simp; omega))) (by intro o; go_simp)
  clear c74_0 c74_1 c74_2 c74_3 c74_4 c74_5 f74 c75_0 c75_1 f75 c76_0 c76_1 c76_2 c76_3 c76_4 c76_5 f76
  go_wp2
  refine bodyPost_ret (v := .agg #[.int .i64 (Q).k, .int .i64 (Q).n, .int .i64 (Q).d, .string (Q).t, .bool (Q).b, .int .i64 (Q).f]) (by simp [results, Tryz.results32, go_sem, c77_0, c77_1, c77_2, c77_3, c77_4, c77_5]) rfl ⟨rfl, ?_⟩
  repeat (first | with_reducible exact Below.refl _ _ | with_reducible refine below_drewN ?_ _ | with_reducible refine Below.drew ?_ | with_reducible refine Below.setCell ?_ (by (first | omega | (simp only [sz_alloc, sz_setCell, sz_drew, sz_drewN]; omega) | (simp; done) | (simp; omega))) _ | with_reducible refine Below.alloc ?_ (by (first | omega | (simp only [sz_alloc, sz_setCell, sz_drew, sz_drewN]; omega) | (simp; done) | (simp; omega))) _ | with_reducible refine below_then ?_ ?_ (by with_reducible assumption) | (first | omega | (simp only [sz_alloc, sz_setCell, sz_drew, sz_drewN]; omega) | (simp; done) | (simp; omega)))
end Go.Proofs.YtangdbjoflnobaaGreatDoor
