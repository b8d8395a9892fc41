/- Walks of package funcs: what AVERAGE comes to. -/
import Derived.Test.YtangdbjoflnobaaGreatDoorFoldG
import Derived.Test.YtangdbjoflnobaaGreatDoorBinA
namespace Go.Proofs.YtangdbjoflnobaaGreatDoor
open Go Go.RowKit
set_option linter.unusedSimpArgs false
set_option linter.unusedVariables false

set_option maxHeartbeats 2000000 in
theorem numbers_result7_0 (b : Nat) (S : AccS) (kd : Value) (w : World) (hA : Blk w b (accArr S kd) 104) (hf : S.fn = 7) (hc : S.count = 0) :
    Calls Tryz.prog 274 #[.agg #[], .pointer (some ⟨b, 0, none⟩)] w fun e w' => e = .returned (.agg #[.int .i64 (faultF 1).k, .int .i64 (faultF 1).n, .int .i64 (faultF 1).d, .string (faultF 1).t, .bool (faultF 1).b, .int .i64 (faultF 1).f]) ∧ Below w.heap.size w w' := by
  have hlt := hA.lt
  have hne : ¬ b = w.heap.size := by omega
  have hne' : ¬ w.heap.size = b := by omega
  have a1 : w.cell? ⟨b, 0, none⟩ = some (.int .i64 S.fn) := hA.cell 0
  have a2 : w.cell? ⟨b, 1, none⟩ = some (.int .i64 S.count) := hA.cell 1
  simp only [hf, hc] at *
  have HF := Lib.hid fun wx => value_Fault 1 wx
  generalize faultF 1 = Q at *
  clear hf hA hc
  go_enter Tryz.func274, Tryz.ntmps274
  go_wp2_with fail
  refine (HF.out _).mono ?_
  rintro e w1 ⟨rfl, hb⟩
  have s3 := lcs hb (w.heap.size + 1) (by (first | omega | (simp only [sz_alloc, sz_setCell, sz_drew, sz_drewN]; omega) | (simp; done) | (simp; omega)))
  have c3_0 := (lcc hb (w.heap.size + 1) (by (first | omega | (simp only [sz_alloc, sz_setCell, sz_drew, sz_drewN]; omega) | (simp; done) | (simp; omega))) 0).trans (by go_simp; exact rfl)
  have c3_1 := (lcc hb (w.heap.size + 1) (by (first | omega | (simp only [sz_alloc, sz_setCell, sz_drew, sz_drewN]; omega) | (simp; done) | (simp; omega))) 1).trans (by go_simp; exact rfl)
  have c3_2 := (lcc hb (w.heap.size + 1) (by (first | omega | (simp only [sz_alloc, sz_setCell, sz_drew, sz_drewN]; omega) | (simp; done) | (simp; omega))) 2).trans (by go_simp; exact rfl)
  have c3_3 := (lcc hb (w.heap.size + 1) (by (first | omega | (simp only [sz_alloc, sz_setCell, sz_drew, sz_drewN]; omega) | (simp; done) | (simp; omega))) 3).trans (by go_simp; exact rfl)
  have c3_4 := (lcc hb (w.heap.size + 1) (by (first | omega | (simp only [sz_alloc, sz_setCell, sz_drew, sz_drewN]; omega) | (simp; done) | (simp; omega))) 4).trans (by go_simp; exact rfl)
  have c3_5 := (lcc hb (w.heap.size + 1) (by (first | omega | (simp only [sz_alloc, sz_setCell, sz_drew, sz_drewN]; omega) | (simp; done) | (simp; omega))) 5).trans (by go_simp; exact rfl)
  have f3 := lcff hb (w.heap.size + 1) (by (first | omega | (simp only [sz_alloc, sz_setCell, sz_drew, sz_drewN]; omega) | (simp; done) | (simp; omega))) (by intro o; go_simp)
  go_wp2
  refine bodyPost_ret (v := .agg #[.int .i64 (Q).k, .int .i64 (Q).n, .int .i64 (Q).d, .string (Q).t, .bool (Q).b, .int .i64 (Q).f]) (by simp [results, Tryz.results274, go_sem, c3_0, c3_1, c3_2, c3_3, c3_4, c3_5]) rfl ⟨rfl, ?_⟩
  repeat (first | with_reducible exact Below.refl _ _ | with_reducible refine below_drewN ?_ _ | with_reducible refine Below.drew ?_ | with_reducible refine Below.setCell ?_ (by (first | omega | (simp only [sz_alloc, sz_setCell, sz_drew, sz_drewN]; omega) | (simp; done) | (simp; omega))) _ | with_reducible refine Below.alloc ?_ (by (first | omega | (simp only [sz_alloc, sz_setCell, sz_drew, sz_drewN]; omega) | (simp; done) | (simp; omega))) _ | with_reducible refine below_then ?_ ?_ (by with_reducible assumption) | (first | omega | (simp only [sz_alloc, sz_setCell, sz_drew, sz_drewN]; omega) | (simp; done) | (simp; omega)))
set_option maxHeartbeats 2000000 in
theorem numbers_result7_1 (b : Nat) (S : AccS) (kd : Value) (w : World) (hA : Blk w b (accArr S kd) 104) (hf : S.fn = 7) (hc0 : 0 < S.count) (hc1 : S.count ≤ 1000000) (h1 : I64 S.n) (h2 : I64 S.d) :
    Calls Tryz.prog 274 #[.agg #[], .pointer (some ⟨b, 0, none⟩)] w fun e w' => e = .returned (.agg #[.int .i64 (toldB (div S.n S.d S.count 1)).k, .int .i64 (toldB (div S.n S.d S.count 1)).n, .int .i64 (toldB (div S.n S.d S.count 1)).d, .string (toldB (div S.n S.d S.count 1)).t, .bool (toldB (div S.n S.d S.count 1)).b, .int .i64 (toldB (div S.n S.d S.count 1)).f]) ∧ Below w.heap.size w w' := by
  have hlt := hA.lt
  have hne : ¬ b = w.heap.size := by omega
  have hne' : ¬ w.heap.size = b := by omega
  have hne1 : ¬ b = w.heap.size + 1 := by omega
  have hne1' : ¬ w.heap.size + 1 = b := by omega
  have HA := Lib.hid ((hA.alloc (.cells #[] 148)).alloc (.cells #[.int .i64 0, .int .i64 0, .int .i64 0, .string ⟨#[]⟩, .bool false, .int .i64 0] 35))
  have a4 : w.cell? ⟨b, 0, none⟩ = some (.int .i64 S.fn) := hA.cell 0
  have a5 : w.cell? ⟨b, 1, none⟩ = some (.int .i64 S.count) := hA.cell 1
  have a6 : w.cell? ⟨b, 2, none⟩ = some (.int .i64 S.n) := hA.cell 2
  have a7 : w.cell? ⟨b, 3, none⟩ = some (.int .i64 S.d) := hA.cell 3
  simp only [hf] at *
  have k0 : (S.count == 0) = false := by simp; omega
  have i1 : I64 S.count := ⟨by omega, by omega⟩
  have HM := Lib.hid fun wx => num_Make S.count 1 wx i1 ⟨by decide, by decide⟩
  rw [mk_whole (by omega) (by omega)] at HM
  have hbd := div_bds S.n S.d S.count 1
  have HD := Lib.hid fun wx => num_Div S.n S.d S.count 1 wx h1 h2 i1 ⟨by decide, by decide⟩
  have HT := Lib.hid fun wx => funcs_told (div S.n S.d S.count 1).n (div S.n S.d S.count 1).d (div S.n S.d S.count 1).ok wx (I64.of hbd.1 hbd.2.1) (I64.of (by omega) (by omega))
  have HF : Hid (toldB (div S.n S.d S.count 1) = toldF (div S.n S.d S.count 1).n (div S.n S.d S.count 1).d (div S.n S.d S.count 1).ok) := rfl
  generalize div S.n S.d S.count 1 = R at *
  clear hf hA hc0 hbd i1 h1 h2
  go_enter Tryz.func274, Tryz.ntmps274
  go_wp2_with fail
  refine (HM.out _).mono ?_
  rintro e w1 ⟨rfl, hb⟩
  have s8 := lcs hb (w.heap.size + 1) (by (first | omega | (simp only [sz_alloc, sz_setCell, sz_drew, sz_drewN]; omega) | (simp; done) | (simp; omega)))
  have c8_0 := (lcc hb (w.heap.size + 1) (by (first | omega | (simp only [sz_alloc, sz_setCell, sz_drew, sz_drewN]; omega) | (simp; done) | (simp; omega))) 0).trans (by go_simp; exact rfl)
  have c8_1 := (lcc hb (w.heap.size + 1) (by (first | omega | (simp only [sz_alloc, sz_setCell, sz_drew, sz_drewN]; omega) | (simp; done) | (simp; omega))) 1).trans (by go_simp; exact rfl)
  have c8_2 := (lcc hb (w.heap.size + 1) (by (first | omega | (simp only [sz_alloc, sz_setCell, sz_drew, sz_drewN]; omega) | (simp; done) | (simp; omega))) 2).trans (by go_simp; exact rfl)
  have c8_3 := (lcc hb (w.heap.size + 1) (by (first | omega | (simp only [sz_alloc, sz_setCell, sz_drew, sz_drewN]; omega) | (simp; done) | (simp; omega))) 3).trans (by go_simp; exact rfl)
  have c8_4 := (lcc hb (w.heap.size + 1) (by (first | omega | (simp only [sz_alloc, sz_setCell, sz_drew, sz_drewN]; omega) | (simp; done) | (simp; omega))) 4).trans (by go_simp; exact rfl)
  have c8_5 := (lcc hb (w.heap.size + 1) (by (first | omega | (simp only [sz_alloc, sz_setCell, sz_drew, sz_drewN]; omega) | (simp; done) | (simp; omega))) 5).trans (by go_simp; exact rfl)
  have f8 := lcff hb (w.heap.size + 1) (by (first | omega | (simp only [sz_alloc, sz_setCell, sz_drew, sz_drewN]; omega) | (simp; done) | (simp; omega))) (by intro o; go_simp)
  have A1 := HA.out.below hb
  have L1 : w1.cell? ⟨b, 2, none⟩ = some (.int .i64 S.n) := A1.cell 2
  have L2 : w1.cell? ⟨b, 3, none⟩ = some (.int .i64 S.d) := A1.cell 3
  have hlb := A1.lt
  have hz1 := hb.size
  simp only [sz_alloc] at hz1
  have q1 : ¬ w.heap.size + 1 = w1.heap.size := by omega
  have q2 : ¬ w1.heap.size = w.heap.size + 1 := by omega
  have q3 : ¬ b = w1.heap.size := by omega
  have q4 : ¬ w1.heap.size = b := by omega
  clear A1
  go_upto_region 8 with (fail)
  refine region_below 10 (by kernel_rfl) (by kernel_rfl) ?_
  simp only [List.take_succ_cons, List.take_zero, List.drop_succ_cons, List.drop_zero]
  repeat
    first | (refine q_run ?_ ?_; focus (go_simp; done)) | (refine q_skip ?_ ?_; focus (go_simp; done))
    try (apply Exists.intro; refine ⟨fun w' hw' => ?_, ?_⟩; focus (have hc := (bcell hw'.out).1; unfold Oper.quietAt; go_simp; (try go_ints); (first | rfl | (go_at_call 136; refine (HD.out _).mono ?_; rintro e w2 ⟨rfl, hb⟩; exact ⟨rfl, hw'.chain hb⟩) | (go_at_call 83; refine (HT.out _).mono ?_; rintro e w2 ⟨rfl, hb⟩; exact ⟨rfl, hw'.chain hb⟩))))
    intro K hK
    go_simp
    refine hK _ ?_
    clear hK K
  refine wpQuiet_nil ?_
  intro w1 hb'
  have hb := hb'.out
  clear hb'
  have s9 := lcs hb (w.heap.size + 1) (by (first | omega | (simp only [sz_alloc, sz_setCell, sz_drew, sz_drewN]; omega) | (simp; done) | (simp; omega)))
  have c9_0 := (lcc hb (w.heap.size + 1) (by (first | omega | (simp only [sz_alloc, sz_setCell, sz_drew, sz_drewN]; omega) | (simp; done) | (simp; omega))) 0).trans (by go_simp; exact rfl)
  have c9_1 := (lcc hb (w.heap.size + 1) (by (first | omega | (simp only [sz_alloc, sz_setCell, sz_drew, sz_drewN]; omega) | (simp; done) | (simp; omega))) 1).trans (by go_simp; exact rfl)
  have c9_2 := (lcc hb (w.heap.size + 1) (by (first | omega | (simp only [sz_alloc, sz_setCell, sz_drew, sz_drewN]; omega) | (simp; done) | (simp; omega))) 2).trans (by go_simp; exact rfl)
  have c9_3 := (lcc hb (w.heap.size + 1) (by (first | omega | (simp only [sz_alloc, sz_setCell, sz_drew, sz_drewN]; omega) | (simp; done) | (simp; omega))) 3).trans (by go_simp; exact rfl)
  have c9_4 := (lcc hb (w.heap.size + 1) (by (first | omega | (simp only [sz_alloc, sz_setCell, sz_drew, sz_drewN]; omega) | (simp; done) | (simp; omega))) 4).trans (by go_simp; exact rfl)
  have c9_5 := (lcc hb (w.heap.size + 1) (by (first | omega | (simp only [sz_alloc, sz_setCell, sz_drew, sz_drewN]; omega) | (simp; done) | (simp; omega))) 5).trans (by go_simp; exact rfl)
  have f9 := lcff hb (w.heap.size + 1) (by (first | omega | (simp only [sz_alloc, sz_setCell, sz_drew, sz_drewN]; omega) | (simp; done) | (simp; omega))) (by intro o; go_simp)
  clear c8_0 c8_1 c8_2 c8_3 c8_4 c8_5 f8
  go_wp2
  refine bodyPost_ret (v := .agg #[.int .i64 (toldB R).k, .int .i64 (toldB R).n, .int .i64 (toldB R).d, .string (toldB R).t, .bool (toldB R).b, .int .i64 (toldB R).f]) (by rw [HF.out]; simp [results, Tryz.results274, go_sem, c9_0, c9_1, c9_2, c9_3, c9_4, c9_5]) rfl ⟨rfl, ?_⟩
  repeat (first | with_reducible exact Below.refl _ _ | with_reducible refine below_drewN ?_ _ | with_reducible refine Below.drew ?_ | with_reducible refine Below.setCell ?_ (by (first | omega | (simp only [sz_alloc, sz_setCell, sz_drew, sz_drewN]; omega) | (simp; done) | (simp; omega))) _ | with_reducible refine Below.alloc ?_ (by (first | omega | (simp only [sz_alloc, sz_setCell, sz_drew, sz_drewN]; omega) | (simp; done) | (simp; omega))) _ | with_reducible refine below_then ?_ ?_ (by with_reducible assumption) | (first | omega | (simp only [sz_alloc, sz_setCell, sz_drew, sz_drewN]; omega) | (simp; done) | (simp; omega)))
theorem numbers_result7 (b : Nat) (S : AccS) (kd : Value) (w : World) (hA : Blk w b (accArr S kd) 104) (hf : S.fn = 7) (hc0 : 0 ≤ S.count) (hc1 : S.count ≤ 1000000) (h1 : I64 S.n) (h2 : I64 S.d) :
    Calls Tryz.prog 274 #[.agg #[], .pointer (some ⟨b, 0, none⟩)] w fun e w' => e = .returned (.agg #[.int .i64 (meanF S).k, .int .i64 (meanF S).n, .int .i64 (meanF S).d, .string (meanF S).t, .bool (meanF S).b, .int .i64 (meanF S).f]) ∧ Below w.heap.size w w' := by
  unfold meanF
  by_cases h0 : S.count = 0
  · rw [if_pos h0]; exact numbers_result7_0 b S kd w hA hf h0
  · rw [if_neg h0]; exact numbers_result7_1 b S kd w hA hf (by omega) hc1 h1 h2
set_option maxHeartbeats 1000000 in
theorem acc_Result7 (b : Nat) (S : AccS) (w : World) (hA : Blk w b (accArr S kdN) 104) (hu : S.full = false) (hf : S.fn = 7) (hc0 : 0 ≤ S.count) (hc1 : S.count ≤ 1000000) (h1 : I64 S.n) (h2 : I64 S.d) :
    Calls Tryz.prog 28 #[.pointer (some ⟨b, 0, none⟩)] w fun e w' => e = .returned (.agg #[.int .i64 (meanF S).k, .int .i64 (meanF S).n, .int .i64 (meanF S).d, .string (meanF S).t, .bool (meanF S).b, .int .i64 (meanF S).f]) ∧ Below w.heap.size w w' := by
  have hlt := hA.lt
  have hne : ¬ b = w.heap.size := by omega
  have hne' : ¬ w.heap.size = b := by omega
  have HR := Lib.hid fun (wx : World) (hx : Blk wx b (accArr S kdN) 104) => numbers_result7 b S kdN wx hx hf hc0 hc1 h1 h2
  have HA := Lib.hid (hA.alloc (.cells #[.int .i64 0, .int .i64 0, .int .i64 0, .string ⟨#[]⟩, .bool false, .int .i64 0] 35))
  have a17 : w.cell? ⟨b, 17, none⟩ = some (.bool false) := (hA.cell 17).trans (by rw [← hu]; rfl)
  have a21 : w.cell? ⟨b, 21, none⟩ = some (.iface 148 (.agg #[])) := hA.cell 21
  generalize meanF S = Q at *
  clear h1 h2 hf hA hu hc0 hc1
  go_enter Tryz.func28, Tryz.ntmps28
  go_wp2_with fail
  refine (HR.out _ HA.out).mono ?_
  rintro e w1 ⟨rfl, hb⟩
  have s10 := lcs hb (w.heap.size) (by (first | omega | (simp only [sz_alloc, sz_setCell, sz_drew, sz_drewN]; omega) | (simp; done) | (simp; omega)))
  have c10_0 := (lcc hb (w.heap.size) (by (first | omega | (simp only [sz_alloc, sz_setCell, sz_drew, sz_drewN]; omega) | (simp; done) | (simp; omega))) 0).trans (by go_simp; exact rfl)
  have c10_1 := (lcc hb (w.heap.size) (by (first | omega | (simp only [sz_alloc, sz_setCell, sz_drew, sz_drewN]; omega) | (simp; done) | (simp; omega))) 1).trans (by go_simp; exact rfl)
  have c10_2 := (lcc hb (w.heap.size) (by (first | omega | (simp only [sz_alloc, sz_setCell, sz_drew, sz_drewN]; omega) | (simp; done) | (simp; omega))) 2).trans (by go_simp; exact rfl)
  have c10_3 := (lcc hb (w.heap.size) (by (first | omega | (simp only [sz_alloc, sz_setCell, sz_drew, sz_drewN]; omega) | (simp; done) | (simp; omega))) 3).trans (by go_simp; exact rfl)
  have c10_4 := (lcc hb (w.heap.size) (by (first | omega | (simp only [sz_alloc, sz_setCell, sz_drew, sz_drewN]; omega) | (simp; done) | (simp; omega))) 4).trans (by go_simp; exact rfl)
  have c10_5 := (lcc hb (w.heap.size) (by (first | omega | (simp only [sz_alloc, sz_setCell, sz_drew, sz_drewN]; omega) | (simp; done) | (simp; omega))) 5).trans (by go_simp; exact rfl)
  have f10 := lcff hb (w.heap.size) (by (first | omega | (simp only [sz_alloc, sz_setCell, sz_drew, sz_drewN]; omega) | (simp; done) | (simp; omega))) (by intro o; go_simp)
  go_wp2
  refine bodyPost_ret (v := .agg #[.int .i64 (Q).k, .int .i64 (Q).n, .int .i64 (Q).d, .string (Q).t, .bool (Q).b, .int .i64 (Q).f]) (by simp [results, Tryz.results28, go_sem, c10_0, c10_1, c10_2, c10_3, c10_4, c10_5]) rfl ⟨rfl, ?_⟩
  repeat (first | with_reducible exact Below.refl _ _ | with_reducible refine below_drewN ?_ _ | with_reducible refine Below.drew ?_ | with_reducible refine Below.setCell ?_ (by (first | omega | (simp only [sz_alloc, sz_setCell, sz_drew, sz_drewN]; omega) | (simp; done) | (simp; omega))) _ | with_reducible refine Below.alloc ?_ (by (first | omega | (simp only [sz_alloc, sz_setCell, sz_drew, sz_drewN]; omega) | (simp; done) | (simp; omega))) _ | with_reducible refine below_then ?_ ?_ (by with_reducible assumption) | (first | omega | (simp only [sz_alloc, sz_setCell, sz_drew, sz_drewN]; omega) | (simp; done) | (simp; omega)))
/-- The mean of a row. -/
def meanV (l : List Nm) : Vl := if (sumB l).ok then (if (l.length : Int) = 0 then faultF 1 else toldB (div (sumB l).n (sumB l).d l.length 1)) else faultF 4
theorem res7 (l : List Nm) (hl : l.length ≤ 1000000) (p : Nat) (w : World) (hA : Blk w p (accArr (accF st7 (acc0 7 0) l) kdN) 104) :
    Calls Tryz.prog 28 #[.pointer (some ⟨p, 0, none⟩)] w fun e w' => e = .returned (.agg #[.int .i64 (meanV l).k, .int .i64 (meanV l).n, .int .i64 (meanV l).d, .string (meanV l).t, .bool (meanV l).b, .int .i64 (meanV l).f]) ∧ Below w.heap.size w w' := by
  have h := acc7_ok l
  unfold meanV
  cases hk : (sumB l).ok
  · obtain ⟨hf, hv⟩ := h.2 hk
    have R := acc_Result_full p _ kdN w hA hf
    rw [hv] at R
    exact R
  · rw [h.1 hk] at hA
    have hb := sumB_bd l
    exact acc_Result7 p _ w hA rfl rfl (by simp only; omega) (by simp only; omega) (I64.of hb.1 hb.2.1) (I64.of (by simp only; omega) (by simp only; omega))
/-- It is the quotient of the sum by how many. -/
theorem mean_quo (l : List Nm) (h : (sumB l).ok = true) : meanV l = quoV (tk (sumB l).n (sumB l).d).n (tk (sumB l).n (sumB l).d).d l.length 1 := by
  unfold meanV quoV div
  rw [if_pos h, tk_tk]
end Go.Proofs.YtangdbjoflnobaaGreatDoor
