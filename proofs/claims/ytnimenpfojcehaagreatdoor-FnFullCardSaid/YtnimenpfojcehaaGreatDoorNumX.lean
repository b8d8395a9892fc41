/- Walks of package num, second part. Walks of package num, third part: sums, products, quotients. Walks of package num, fourth part: products and quotients. Walks of package num, fifth part: Mul, Div, Floor. -/
import Derived.Test.YtnimenpfojcehaaGreatDoorNumA
namespace Go.Proofs.YtnimenpfojcehaaGreatDoor
open Go.RowKit
set_option linter.unusedSimpArgs false
set_option linter.unusedVariables false

set_option maxHeartbeats 400000 in
theorem num_Abs (n d : Int) (w : World) (hn : I64 n) (hd : I64 d) :
    Calls Tryz.prog 66 #[.agg #[.int .i64 n, .int .i64 d]] w fun e w' => e = .returned (.agg #[.int .i64 (absN n d).n, .int .i64 (absN n d).d]) ∧ Below w.heap.size w w' := by
  obtain ⟨b1, b2, b3, b4⟩ := tk_bd n d
  by_cases hneg : (tk n d).n < 0
  · have HF : Hid (absN n d = ⟨-(tk n d).n, (tk n d).d⟩) := by unfold Hid absN; rw [if_pos hneg]
    go_enter Tryz.func66, Tryz.ntmps66
    go_wp2_with fail
    refine (num_taken _ _ _ hn hd).mono ?_
    rintro e w1 ⟨rfl, hb⟩
    have c3 := lcc hb (w.heap.size) (by (first | omega | (simp only [sz_alloc, sz_setCell, sz_drew, sz_drewN]; omega) | (simp; done) | (simp; omega)))
    have f3 := lcf hb (w.heap.size) (by (first | omega | (simp only [sz_alloc, sz_setCell, sz_drew, sz_drewN]; omega) | (simp; done) | (simp; omega)))
    have s3 := lcs hb (w.heap.size) (by (first | omega | (simp only [sz_alloc, sz_setCell, sz_drew, sz_drewN]; omega) | (simp; done) | (simp; omega)))
    have c4 := lcc hb (w.heap.size + 1) (by (first | omega | (simp only [sz_alloc, sz_setCell, sz_drew, sz_drewN]; omega) | (simp; done) | (simp; omega)))
    have f4 := lcf hb (w.heap.size + 1) (by (first | omega | (simp only [sz_alloc, sz_setCell, sz_drew, sz_drewN]; omega) | (simp; done) | (simp; omega)))
    have s4 := lcs hb (w.heap.size + 1) (by (first | omega | (simp only [sz_alloc, sz_setCell, sz_drew, sz_drewN]; omega) | (simp; done) | (simp; omega)))
    go_wp2
    refine bodyPost_ret (v := .agg #[.int .i64 (absN n d).n, .int .i64 (absN n d).d]) (by rw [HF.out]; simp [results, Tryz.results66, go_sem, c3, c4]) rfl ⟨rfl, ?_⟩
    focus
      repeat with_reducible first | exact Below.refl _ _ | refine below_drewN ?_ _ | refine Below.drew ?_ | refine Below.setCell ?_ ?_ _ | refine Below.alloc ?_ ?_ _ | refine below_then ?_ ?_ (by with_reducible assumption)
      all_goals first | omega | (simp only [sA, sC, sD, sE]; omega) | (simp; done) | (simp; omega)
  · have HF : Hid (absN n d = ⟨(tk n d).n, (tk n d).d⟩) := by unfold Hid absN; rw [if_neg hneg]
    go_enter Tryz.func66, Tryz.ntmps66
    go_wp2_with fail
    refine (num_taken _ _ _ hn hd).mono ?_
    rintro e w1 ⟨rfl, hb⟩
    have c5 := lcc hb (w.heap.size) (by (first | omega | (simp only [sz_alloc, sz_setCell, sz_drew, sz_drewN]; omega) | (simp; done) | (simp; omega)))
    have f5 := lcf hb (w.heap.size) (by (first | omega | (simp only [sz_alloc, sz_setCell, sz_drew, sz_drewN]; omega) | (simp; done) | (simp; omega)))
    have s5 := lcs hb (w.heap.size) (by (first | omega | (simp only [sz_alloc, sz_setCell, sz_drew, sz_drewN]; omega) | (simp; done) | (simp; omega)))
    have c6 := lcc hb (w.heap.size + 1) (by (first | omega | (simp only [sz_alloc, sz_setCell, sz_drew, sz_drewN]; omega) | (simp; done) | (simp; omega)))
    have f6 := lcf hb (w.heap.size + 1) (by (first | omega | (simp only [sz_alloc, sz_setCell, sz_drew, sz_drewN]; omega) | (simp; done) | (simp; omega)))
    have s6 := lcs hb (w.heap.size + 1) (by (first | omega | (simp only [sz_alloc, sz_setCell, sz_drew, sz_drewN]; omega) | (simp; done) | (simp; omega)))
    go_wp2
    refine bodyPost_ret (v := .agg #[.int .i64 (absN n d).n, .int .i64 (absN n d).d]) (by rw [HF.out]; simp [results, Tryz.results66, go_sem, c5, c6]) rfl ⟨rfl, ?_⟩
    focus
      repeat with_reducible first | exact Below.refl _ _ | refine below_drewN ?_ _ | refine Below.drew ?_ | refine Below.setCell ?_ ?_ _ | refine Below.alloc ?_ ?_ _ | refine below_then ?_ ?_ (by with_reducible assumption)
      all_goals first | omega | (simp only [sA, sC, sD, sE]; omega) | (simp; done) | (simp; omega)

set_option maxHeartbeats 400000 in
theorem num_Whole (n d : Int) (w : World) (hn : I64 n) (hd : I64 d) :
    Calls Tryz.prog 69 #[.agg #[.int .i64 n, .int .i64 d]] w fun e w' => e = .returned (.tuple #[.int .i64 (wholeN n d), .bool (wholeB n d)]) ∧ Below w.heap.size w w' := by
  obtain ⟨b1, b2, b3, b4⟩ := tk_bd n d
  by_cases h1 : (tk n d).d = 1
  · have HN : Hid (wholeN n d = (tk n d).n) := by unfold Hid wholeN; rw [if_pos h1]
    have HB : Hid (wholeB n d = true) := by unfold Hid wholeB; simp [h1]
    have h1' : ((tk n d).d == 1) = true := by simp [h1]
    have h1'' : ((tk n d).d != 1) = false := by simp [h1]
    clear h1
    go_enter Tryz.func69, Tryz.ntmps69
    go_wp2_with fail
    refine (num_taken _ _ _ hn hd).mono ?_
    rintro e w1 ⟨rfl, hb⟩
    have c7 := lcc hb (w.heap.size) (by (first | omega | (simp only [sz_alloc, sz_setCell, sz_drew, sz_drewN]; omega) | (simp; done) | (simp; omega)))
    have f7 := lcf hb (w.heap.size) (by (first | omega | (simp only [sz_alloc, sz_setCell, sz_drew, sz_drewN]; omega) | (simp; done) | (simp; omega)))
    have s7 := lcs hb (w.heap.size) (by (first | omega | (simp only [sz_alloc, sz_setCell, sz_drew, sz_drewN]; omega) | (simp; done) | (simp; omega)))
    go_wp2
    go_ret2
    refine ⟨by rw [HN.out, HB.out]; rfl, ?_⟩
    focus
      repeat with_reducible first | exact Below.refl _ _ | refine below_drewN ?_ _ | refine Below.drew ?_ | refine Below.setCell ?_ ?_ _ | refine Below.alloc ?_ ?_ _ | refine below_then ?_ ?_ (by with_reducible assumption)
      all_goals first | omega | (simp only [sA, sC, sD, sE]; omega) | (simp; done) | (simp; omega)
  · have HN : Hid (wholeN n d = 0) := by unfold Hid wholeN; rw [if_neg h1]
    have HB : Hid (wholeB n d = false) := by unfold Hid wholeB; simp [h1]
    have h1' : ((tk n d).d == 1) = false := by simp [h1]
    have h1'' : ((tk n d).d != 1) = true := by simp [h1]
    clear h1
    go_enter Tryz.func69, Tryz.ntmps69
    go_wp2_with fail
    refine (num_taken _ _ _ hn hd).mono ?_
    rintro e w1 ⟨rfl, hb⟩
    have c8 := lcc hb (w.heap.size) (by (first | omega | (simp only [sz_alloc, sz_setCell, sz_drew, sz_drewN]; omega) | (simp; done) | (simp; omega)))
    have f8 := lcf hb (w.heap.size) (by (first | omega | (simp only [sz_alloc, sz_setCell, sz_drew, sz_drewN]; omega) | (simp; done) | (simp; omega)))
    have s8 := lcs hb (w.heap.size) (by (first | omega | (simp only [sz_alloc, sz_setCell, sz_drew, sz_drewN]; omega) | (simp; done) | (simp; omega)))
    go_wp2
    go_ret2
    refine ⟨by rw [HN.out, HB.out]; rfl, ?_⟩
    focus
      repeat with_reducible first | exact Below.refl _ _ | refine below_drewN ?_ _ | refine Below.drew ?_ | refine Below.setCell ?_ ?_ _ | refine Below.alloc ?_ ?_ _ | refine below_then ?_ ?_ (by with_reducible assumption)
      all_goals first | omega | (simp only [sA, sC, sD, sE]; omega) | (simp; done) | (simp; omega)

set_option maxHeartbeats 400000 in
theorem num_Cmp (n d m e : Int) (w : World) (hn : I64 n) (hd : I64 d) (hm : I64 m) (he : I64 e) :
    Calls Tryz.prog 67 #[.agg #[.int .i64 n, .int .i64 d], .agg #[.int .i64 m, .int .i64 e]] w fun e' w' => e' = .returned (.int .i64 (cmpN n d m e)) ∧ Below w.heap.size w w' := by
  have HF : Hid (cmpN n d m e = cmpI ((tk n d).n * (tk m e).d) ((tk m e).n * (tk n d).d)) := rfl
  go_enter Tryz.func67, Tryz.ntmps67
  go_wp2_with fail
  refine region_below 4 (by kernel_rfl) (by kernel_rfl) ?_
  simp only [List.take_succ_cons, List.take_zero, List.drop_succ_cons, List.drop_zero]
  repeat
    first | (refine q_run ?_ ?_; focus (go_simp; done)) | (refine q_skip ?_ ?_; focus (go_simp; done))
    try (apply Exists.intro; refine ⟨fun w' hw' => ?_, ?_⟩; focus (have hc := (bcell hw'.out).1; unfold Oper.quietAt; go_simp; (try go_ints); (first | rfl | (go_at_call 45; refine (num_taken _ _ _ (by assumption) (by assumption)).mono ?_; rintro e w2 ⟨rfl, hb⟩; exact ⟨rfl, hw'.chain hb⟩))))
    intro K hK
    go_simp
    refine hK _ ?_
    clear hK K
  refine wpQuiet_nil ?_
  intro w1 hb'
  have hb := hb'.out
  clear hb'
  have c9 := lcc hb (w.heap.size) (by (first | omega | (simp only [sz_alloc, sz_setCell, sz_drew, sz_drewN]; omega) | (simp; done) | (simp; omega)))
  have f9 := lcf hb (w.heap.size) (by (first | omega | (simp only [sz_alloc, sz_setCell, sz_drew, sz_drewN]; omega) | (simp; done) | (simp; omega)))
  have s9 := lcs hb (w.heap.size) (by (first | omega | (simp only [sz_alloc, sz_setCell, sz_drew, sz_drewN]; omega) | (simp; done) | (simp; omega)))
  have c10 := lcc hb (w.heap.size + 1) (by (first | omega | (simp only [sz_alloc, sz_setCell, sz_drew, sz_drewN]; omega) | (simp; done) | (simp; omega)))
  have f10 := lcf hb (w.heap.size + 1) (by (first | omega | (simp only [sz_alloc, sz_setCell, sz_drew, sz_drewN]; omega) | (simp; done) | (simp; omega)))
  have s10 := lcs hb (w.heap.size + 1) (by (first | omega | (simp only [sz_alloc, sz_setCell, sz_drew, sz_drewN]; omega) | (simp; done) | (simp; omega)))
  go_wp2
  have hw1 := tk_wrap n d m e
  have hw2 := tk_wrap m e n d
  go_quiet (fail)
  go_wp2
  all_goals
    go_ret
    refine ⟨by rw [HF.out]; unfold cmpI; (repeat' split) <;> first | rfl | omega, ?_⟩
    focus
      repeat with_reducible first | exact Below.refl _ _ | refine below_drewN ?_ _ | refine Below.drew ?_ | refine Below.setCell ?_ ?_ _ | refine Below.alloc ?_ ?_ _ | refine below_then ?_ ?_ (by with_reducible assumption)
      all_goals first | omega | (simp only [sA, sC, sD, sE]; omega) | (simp; done) | (simp; omega)

set_option maxHeartbeats 400000 in
theorem num_Make (n d : Int) (w : World) (hn : I64 n) (hd : I64 d) :
    Calls Tryz.prog 58 #[.int .i64 n, .int .i64 d] w fun e w' => e = .returned (.tuple #[.agg #[.int .i64 (mk n d).n, .int .i64 (mk n d).d], .bool (mk n d).ok]) ∧ Below w.heap.size w w' := by
  by_cases h0 : d = 0
  · have HF : Hid (mk n d = badB) := by unfold Hid mk; rw [if_pos h0]
    subst h0
    go_enter Tryz.func58, Tryz.ntmps58
    go_wp2
    refine bodyPost_ret (v := .tuple #[.agg #[.int .i64 (mk n 0).n, .int .i64 (mk n 0).d], .bool (mk n 0).ok]) (by rw [HF.out]; simp [results, Tryz.results58, go_sem, badB]) rfl ⟨rfl, ?_⟩
    focus
      repeat with_reducible first | exact Below.refl _ _ | refine below_drewN ?_ _ | refine Below.drew ?_ | refine Below.setCell ?_ ?_ _ | refine Below.alloc ?_ ?_ _ | refine below_then ?_ ?_ (by with_reducible assumption)
      all_goals first | omega | (simp only [sA, sC, sD, sE]; omega) | (simp; done) | (simp; omega)
  · have hg : 0 < Nat.gcd n.natAbs d.natAbs := Nat.gcd_pos_of_pos_right _ (by omega)
    have hXl : n.natAbs / Nat.gcd n.natAbs d.natAbs ≤ n.natAbs := Nat.div_le_self _ _
    have hYl : d.natAbs / Nat.gcd n.natAbs d.natAbs ≤ d.natAbs := Nat.div_le_self _ _
    have hX0 : (n.natAbs : Int) / ((Nat.gcd n.natAbs d.natAbs : Nat) : Int) = ((n.natAbs / Nat.gcd n.natAbs d.natAbs : Nat) : Int) := rfl
    have hY0 : (d.natAbs : Int) / ((Nat.gcd n.natAbs d.natAbs : Nat) : Int) = ((d.natAbs / Nat.gcd n.natAbs d.natAbs : Nat) : Int) := rfl
    have hgcd := fun wx => num_gcd n.natAbs d.natAbs wx (by have := hn.lo; have := hn.hi; omega) (by have := hd.lo; have := hd.hi; omega)
    have hsz1 := fun wx => num_size n wx hn
    have hsz2 := fun wx => num_size d wx hd
    have HF : Hid (mk n d = signed (decide (n < 0) != decide (d < 0)) (n.natAbs / Nat.gcd n.natAbs d.natAbs) (d.natAbs / Nat.gcd n.natAbs d.natAbs)) := by unfold Hid mk; rw [if_neg h0]
    generalize n.natAbs / Nat.gcd n.natAbs d.natAbs = X at *
    generalize d.natAbs / Nat.gcd n.natAbs d.natAbs = Y at *
    have hn0 := hn.lo
    have hn1 := hn.hi
    have hd0 := hd.lo
    have hd1 := hd.hi
    have hnA : n.natAbs ≤ 9223372036854775808 := by omega
    have hdA : d.natAbs ≤ 9223372036854775808 := by omega
    have hgA : Nat.gcd n.natAbs d.natAbs ≤ 9223372036854775808 := Nat.le_trans (Nat.gcd_le_right _ (by omega)) hdA
    have h0b : (d == 0) = false := by simp [h0]
    have hgz : (((Nat.gcd n.natAbs d.natAbs : Nat) : Int) == 0) = false := by rw [beq_eq_false_iff_ne]; omega
    have HG := Lib.hid hgcd
    have HS1 := Lib.hid hsz1
    have HS2 := Lib.hid hsz2
    generalize Nat.gcd n.natAbs d.natAbs = G at *
    clear hgcd hsz1 hsz2
    by_cases hov : 1000000000000 < X ∨ 1000000 < Y
    · have HV : Hid (signed (decide (n < 0) != decide (d < 0)) X Y = badB) := by unfold Hid signed; rw [if_pos hov]
      have hcase : 1000000000000 < X ∨ (¬ 1000000000000 < X ∧ 1000000 < Y) := by omega
      clear hov
      rcases hcase with h | ⟨h, h2⟩
      all_goals
        go_enter Tryz.func58, Tryz.ntmps58
        go_wp2_with fail
        refine (HS1.out _).mono ?_
        rintro e w1 ⟨rfl, rfl⟩
        go_wp2_with fail
        refine (HS2.out _).mono ?_
        rintro e w1 ⟨rfl, rfl⟩
        go_wp2_with fail
        refine (HG.out _).mono ?_
        rintro e w1 ⟨rfl, nq, rfl⟩
        go_wp2_with fail
        go_quiet (fail)
        go_wp2
        refine bodyPost_ret (v := .tuple #[.agg #[.int .i64 (mk n d).n, .int .i64 (mk n d).d], .bool (mk n d).ok]) (by rw [HF.out, HV.out]; simp [results, Tryz.results58, go_sem, badB]) rfl ⟨rfl, ?_⟩
        focus
          repeat with_reducible first | exact Below.refl _ _ | refine below_drewN ?_ _ | refine Below.drew ?_ | refine Below.setCell ?_ ?_ _ | refine Below.alloc ?_ ?_ _ | refine below_then ?_ ?_ (by with_reducible assumption)
          all_goals first | omega | (simp only [sA, sC, sD, sE]; omega) | (simp; done) | (simp; omega)
    · have hX : ¬ 1000000000000 < X := by omega
      have hY : ¬ 1000000 < Y := by omega
      clear hov
      cases hns : decide (n < 0) <;> cases hds : decide (d < 0)
      all_goals
        have HV : Hid (signed (decide (n < 0) != decide (d < 0)) X Y = ⟨if decide (n < 0) != decide (d < 0) then -(X : Int) else X, Y, true⟩) := by unfold Hid signed; rw [if_neg (by omega)]
        rw [hns, hds] at HV HF
        go_enter Tryz.func58, Tryz.ntmps58
        go_wp2_with fail
        refine (HS1.out _).mono ?_
        rintro e w1 ⟨rfl, rfl⟩
        go_wp2_with fail
        refine (HS2.out _).mono ?_
        rintro e w1 ⟨rfl, rfl⟩
        go_wp2_with fail
        refine (HG.out _).mono ?_
        rintro e w1 ⟨rfl, nq, rfl⟩
        go_wp2_with fail
        go_quiet (fail)
        go_wp2
        refine bodyPost_ret (v := .tuple #[.agg #[.int .i64 (mk n d).n, .int .i64 (mk n d).d], .bool (mk n d).ok]) (by rw [HF.out, HV.out]; simp [results, Tryz.results58, go_sem, hns, hds]) rfl ⟨rfl, ?_⟩
        focus
          repeat with_reducible first | exact Below.refl _ _ | refine below_drewN ?_ _ | refine Below.drew ?_ | refine Below.setCell ?_ ?_ _ | refine Below.alloc ?_ ?_ _ | refine below_then ?_ ?_ (by with_reducible assumption)
          all_goals first | omega | (simp only [sA, sC, sD, sE]; omega) | (simp; done) | (simp; omega)
end Go.Proofs.YtnimenpfojcehaaGreatDoor
namespace Go.Proofs.YtnimenpfojcehaaGreatDoor
open Go.RowKit
set_option linter.unusedSimpArgs false
set_option linter.unusedVariables false

set_option maxHeartbeats 400000 in
theorem num_Add (n d m e : Int) (w : World) (hn : I64 n) (hd : I64 d) (hm : I64 m) (he : I64 e) :
    Calls Tryz.prog 82 #[.agg #[.int .i64 n, .int .i64 d], .agg #[.int .i64 m, .int .i64 e]] w fun e' w' => e' = .returned (.tuple #[.agg #[.int .i64 (add n d m e).n, .int .i64 (add n d m e).d], .bool (add n d m e).ok]) ∧ Below w.heap.size w w' := by
  have HF : Hid (add n d m e = mk ((tk n d).n * (tk m e).d + (tk m e).n * (tk n d).d) ((tk n d).d * (tk m e).d)) := rfl
  have p1 := tk_mul n d m e
  have p2 := tk_mul m e n d
  have p3 := tk_muld n d m e
  have hs : IntKind.i64.wrap ((tk n d).n * (tk m e).d + (tk m e).n * (tk n d).d) = (tk n d).n * (tk m e).d + (tk m e).n * (tk n d).d := w64 (by omega) (by omega)
  have i1 : I64 ((tk n d).n * (tk m e).d + (tk m e).n * (tk n d).d) := ⟨by omega, by omega⟩
  have i2 : I64 ((tk n d).d * (tk m e).d) := ⟨by omega, by omega⟩
  have HM := Lib.hid fun wx => num_Make _ _ wx i1 i2
  clear p1 p2 p3 i1 i2
  go_enter Tryz.func82, Tryz.ntmps82
  go_wp2_with fail
  refine region_below 4 (by kernel_rfl) (by kernel_rfl) ?_
  simp only [List.take_succ_cons, List.take_zero, List.drop_succ_cons, List.drop_zero]
  repeat
    first | (refine q_run ?_ ?_; focus (go_simp; done)) | (refine q_skip ?_ ?_; focus (go_simp; done))
    try (apply Exists.intro; refine ⟨fun w' hw' => ?_, ?_⟩; focus (have hc := (bcell hw'.out).1; unfold Oper.quietAt; go_simp; (try go_ints); (first | rfl | (go_at_call 45; refine (num_taken _ _ _ (by assumption) (by assumption)).mono ?_; rintro e w2 ⟨rfl, hb⟩; exact ⟨rfl, hw'.chain hb⟩))))
    intro K hK
    go_simp
    refine hK _ ?_
    clear hK K
  refine wpQuiet_nil ?_
  intro w1 hb'
  have hb := hb'.out
  clear hb'
  have c11 := lcc hb (w.heap.size) (by (first | omega | (simp only [sz_alloc, sz_setCell, sz_drew, sz_drewN]; omega) | (simp; done) | (simp; omega)))
  have f11 := lcf hb (w.heap.size) (by (first | omega | (simp only [sz_alloc, sz_setCell, sz_drew, sz_drewN]; omega) | (simp; done) | (simp; omega)))
  have s11 := lcs hb (w.heap.size) (by (first | omega | (simp only [sz_alloc, sz_setCell, sz_drew, sz_drewN]; omega) | (simp; done) | (simp; omega)))
  have c12 := lcc hb (w.heap.size + 1) (by (first | omega | (simp only [sz_alloc, sz_setCell, sz_drew, sz_drewN]; omega) | (simp; done) | (simp; omega)))
  have f12 := lcf hb (w.heap.size + 1) (by (first | omega | (simp only [sz_alloc, sz_setCell, sz_drew, sz_drewN]; omega) | (simp; done) | (simp; omega)))
  have s12 := lcs hb (w.heap.size + 1) (by (first | omega | (simp only [sz_alloc, sz_setCell, sz_drew, sz_drewN]; omega) | (simp; done) | (simp; omega)))
  have c13 := lcc hb (w.heap.size + 1 + 1) (by (first | omega | (simp only [sz_alloc, sz_setCell, sz_drew, sz_drewN]; omega) | (simp; done) | (simp; omega)))
  have f13 := lcf hb (w.heap.size + 1 + 1) (by (first | omega | (simp only [sz_alloc, sz_setCell, sz_drew, sz_drewN]; omega) | (simp; done) | (simp; omega)))
  have s13 := lcs hb (w.heap.size + 1 + 1) (by (first | omega | (simp only [sz_alloc, sz_setCell, sz_drew, sz_drewN]; omega) | (simp; done) | (simp; omega)))
  have hw1 := tk_wrap n d m e
  have hw2 := tk_wrap m e n d
  have hw3 := tk_wrapd n d m e
  go_wp2_with fail
  refine (HM.out _).mono ?_
  rintro e' w2 ⟨rfl, hb2⟩
  have c14 := lcc hb2 (w.heap.size + 1 + 1) (by (first | omega | (simp only [sz_alloc, sz_setCell, sz_drew, sz_drewN]; omega) | (simp; done) | (simp; omega)))
  have f14 := lcf hb2 (w.heap.size + 1 + 1) (by (first | omega | (simp only [sz_alloc, sz_setCell, sz_drew, sz_drewN]; omega) | (simp; done) | (simp; omega)))
  have s14 := lcs hb2 (w.heap.size + 1 + 1) (by (first | omega | (simp only [sz_alloc, sz_setCell, sz_drew, sz_drewN]; omega) | (simp; done) | (simp; omega)))
  go_wp2
  refine bodyPost_ret (v := .tuple #[.agg #[.int .i64 (add n d m e).n, .int .i64 (add n d m e).d], .bool (add n d m e).ok]) (by rw [HF.out]; simp [results, Tryz.results82, go_sem, c11, c12, c13, c14]) rfl ⟨rfl, ?_⟩
  focus
    repeat with_reducible first | exact Below.refl _ _ | refine below_drewN ?_ _ | refine Below.drew ?_ | refine Below.setCell ?_ ?_ _ | refine Below.alloc ?_ ?_ _ | refine below_then ?_ ?_ (by with_reducible assumption)
    all_goals first | omega | (simp only [sA, sC, sD, sE]; omega) | (simp; done) | (simp; omega)

end Go.Proofs.YtnimenpfojcehaaGreatDoor
namespace Go.Proofs.YtnimenpfojcehaaGreatDoor
open Go.RowKit
set_option linter.unusedSimpArgs false
set_option linter.unusedVariables false

theorem tdiv_nb (n : Int) (g : Nat) : (n.tdiv g).natAbs ≤ n.natAbs := by
  rw [Int.natAbs_tdiv]; exact Nat.div_le_self _ _
theorem natAbs_mul_le {a b : Int} {k : Nat} (hb : b ≠ 0) (h : ¬ k / b.natAbs < a.natAbs) : (a * b).natAbs ≤ k := by
  rw [Int.natAbs_mul]
  have : 0 < b.natAbs := by omega
  exact (Nat.le_div_iff_mul_le this).1 (by omega)

set_option maxHeartbeats 1000000 in
theorem num_product (n d m e : Int) (w : World) (hn0 : -1000000000000 ≤ n) (hn1 : n ≤ 1000000000000) (hm0 : -1000000000000 ≤ m) (hm1 : m ≤ 1000000000000) (hd0 : 1 ≤ d) (hd1 : d ≤ 1000000) (he0 : 1 ≤ e) (he1 : e ≤ 1000000000000) :
    Calls Tryz.prog 46 #[.int .i64 n, .int .i64 d, .int .i64 m, .int .i64 e] w fun e' w' => e' = .returned (.tuple #[.agg #[.int .i64 (prod n d m e).n, .int .i64 (prod n d m e).d], .bool (prod n d m e).ok]) ∧ Below w.heap.size w w' := by
  have hg : 0 < Nat.gcd n.natAbs e.natAbs := Nat.gcd_pos_of_pos_right _ (by omega)
  have hh : 0 < Nat.gcd m.natAbs d.natAbs := Nat.gcd_pos_of_pos_right _ (by omega)
  have hgl : Nat.gcd n.natAbs e.natAbs ≤ e.natAbs := Nat.gcd_le_right _ (by omega)
  have hhl : Nat.gcd m.natAbs d.natAbs ≤ d.natAbs := Nat.gcd_le_right _ (by omega)
  have he2 : (e.natAbs : Int) = e := by omega
  have hd2 : (d.natAbs : Int) = d := by omega
  have c1 := fun wx => num_gcd n.natAbs e.natAbs wx (by omega) (by omega)
  have c2 := fun wx => num_gcd m.natAbs d.natAbs wx (by omega) (by omega)
  rw [he2] at c1
  rw [hd2] at c2
  have s1 := fun wx => num_size n wx ⟨by omega, by omega⟩
  have s2 := fun wx => num_size m wx ⟨by omega, by omega⟩
  have HF : Hid (prod n d m e = prodQ (n.tdiv (Nat.gcd n.natAbs e.natAbs : Nat)) (d / (Nat.gcd m.natAbs d.natAbs : Nat)) (m.tdiv (Nat.gcd m.natAbs d.natAbs : Nat)) (e / (Nat.gcd n.natAbs e.natAbs : Nat))) := rfl
  have b1 := tdiv_nb n (Nat.gcd n.natAbs e.natAbs)
  have b2 := tdiv_nb m (Nat.gcd m.natAbs d.natAbs)
  have b3 : 0 ≤ d / ((Nat.gcd m.natAbs d.natAbs : Nat) : Int) := Int.ediv_nonneg (by omega) (by omega)
  have b4 : 0 ≤ e / ((Nat.gcd n.natAbs e.natAbs : Nat) : Int) := Int.ediv_nonneg (by omega) (by omega)
  have b5 : d / ((Nat.gcd m.natAbs d.natAbs : Nat) : Int) ≤ d := Int.ediv_le_self _ (by omega)
  have b6 : e / ((Nat.gcd n.natAbs e.natAbs : Nat) : Int) ≤ e := Int.ediv_le_self _ (by omega)
  have C1 := Lib.hid c1
  have C2 := Lib.hid c2
  have S1 := Lib.hid s1
  have S2 := Lib.hid s2
  clear c1 c2 s1 s2
  generalize hG : Nat.gcd n.natAbs e.natAbs = G at *
  generalize hH : Nat.gcd m.natAbs d.natAbs = H at *
  clear hG hH
  generalize hA : n.tdiv (G : Int) = A at *
  generalize hB : d / (H : Int) = B at *
  generalize hC : m.tdiv (H : Int) = C at *
  generalize hD : e / (G : Int) = D at *
  have g0 : ((G : Int) == 0) = false := by rw [beq_eq_false_iff_ne]; omega
  have h0 : ((H : Int) == 0) = false := by rw [beq_eq_false_iff_ne]; omega
  have hA1 : -1000000000000 ≤ A := by omega
  have hA2 : A ≤ 1000000000000 := by omega
  have hC1 : -1000000000000 ≤ C := by omega
  have hC2 : C ≤ 1000000000000 := by omega
  have hBD := mul_bd (x := B) (y := D) (a := 1000000) (b := 1000000000000) (by omega) (by omega) b4 (by omega)
  have wBD : IntKind.i64.wrap (B * D) = B * D := w64 (by omega) (by omega)
  have s3 := fun wx => num_size A wx ⟨by omega, by omega⟩
  have s4 := fun wx => num_size C wx ⟨by omega, by omega⟩
  have S3 := Lib.hid s3
  have S4 := Lib.hid s4
  clear s3 s4 he2 hd2 b1 b2 hBD
  go_enter Tryz.func46, Tryz.ntmps46
  go_wp2_with fail
  refine (S1.out _).mono ?_
  rintro e w1 ⟨rfl, rfl⟩
  go_wp2_with fail
  refine (C1.out _).mono ?_
  rintro e w1 ⟨rfl, n1, rfl⟩
  go_wp2_with fail
  refine (S2.out _).mono ?_
  rintro e w1 ⟨rfl, rfl⟩
  go_wp2_with fail
  refine (C2.out _).mono ?_
  rintro e w1 ⟨rfl, n2, rfl⟩
  go_wp2_with fail
  go_quiet (fail)
  by_cases hC0 : C = 0
  · subst hC0
    by_cases hBD : 1000000 < B * D
    · have HV : Hid (prodQ A B 0 D = badB) := by unfold Hid prodQ; rw [if_pos (Or.inr hBD)]
      go_wp2
      refine bodyPost_ret (v := .tuple #[.agg #[.int .i64 (prod n d m e).n, .int .i64 (prod n d m e).d], .bool (prod n d m e).ok]) (by rw [HF.out, HV.out]; simp [results, Tryz.results46, go_sem, badB]) rfl ⟨rfl, ?_⟩
      focus
        repeat with_reducible first | exact Below.refl _ _ | refine below_drewN ?_ _ | refine Below.drew ?_ | refine Below.setCell ?_ ?_ _ | refine Below.alloc ?_ ?_ _ | refine below_then ?_ ?_ (by with_reducible assumption)
        all_goals first | omega | (simp only [sA, sC, sD, sE]; omega) | (simp; done) | (simp; omega)
    · have HV : Hid (prodQ A B 0 D = ⟨0, 1, true⟩) := by unfold Hid prodQ; rw [if_neg (by omega), if_pos (by simp)]
      go_wp2
      refine bodyPost_ret (v := .tuple #[.agg #[.int .i64 (prod n d m e).n, .int .i64 (prod n d m e).d], .bool (prod n d m e).ok]) (by rw [HF.out, HV.out]; simp [results, Tryz.results46, go_sem, badB]) rfl ⟨rfl, ?_⟩
      focus
        repeat with_reducible first | exact Below.refl _ _ | refine below_drewN ?_ _ | refine Below.drew ?_ | refine Below.setCell ?_ ?_ _ | refine Below.alloc ?_ ?_ _ | refine below_then ?_ ?_ (by with_reducible assumption)
        all_goals first | omega | (simp only [sA, sC, sD, sE]; omega) | (simp; done) | (simp; omega)
  · have hC1' : (C != 0) = true := by simp [hC0]
    have hC2' : (C == 0) = false := by simp [hC0]
    have hCa : (((C.natAbs : Nat) : Int) == 0) = false := by rw [beq_eq_false_iff_ne]; omega
    have hCn : C.natAbs ≤ 1000000000000 := by omega
    have hAn : A.natAbs ≤ 1000000000000 := by omega
    have hq : (1000000000000 : Int) / ((C.natAbs : Nat) : Int) = ((1000000000000 / C.natAbs : Nat) : Int) := rfl
    have hQl : 1000000000000 / C.natAbs ≤ 1000000000000 := Nat.div_le_self _ _
    have hmul : ¬ 1000000000000 / C.natAbs < A.natAbs → (A * C).natAbs ≤ 1000000000000 := natAbs_mul_le hC0
    have HV0 : ∀ r, ((C ≠ 0 ∧ 1000000000000 / C.natAbs < A.natAbs) ∨ 1000000 < B * D → r = badB) → (¬ ((C ≠ 0 ∧ 1000000000000 / C.natAbs < A.natAbs) ∨ 1000000 < B * D) → r = if A * C = 0 then ⟨0, 1, true⟩ else ⟨A * C, B * D, true⟩) → prodQ A B C D = r := by
      intro r h1 h2
      unfold prodQ
      split
      · rename_i h; exact (h1 h).symm
      · rename_i h; exact (h2 h).symm
    have HV1 := Lib.hid HV0
    have HM := Lib.hid hmul
    clear HV0 hmul
    generalize 1000000000000 / C.natAbs = Q at *
    by_cases hov : Q < A.natAbs
    · have HV : Hid (prodQ A B C D = badB) := HV1.out _ (fun _ => rfl) (fun h => absurd (Or.inl ⟨hC0, hov⟩) h)

      go_wp2_with fail
      refine (S3.out _).mono ?_
      rintro e' w1 ⟨rfl, rfl⟩
      go_wp2_with fail
      refine (S4.out _).mono ?_
      rintro e' w1 ⟨rfl, rfl⟩
      go_wp2
      refine bodyPost_ret (v := .tuple #[.agg #[.int .i64 (prod n d m e).n, .int .i64 (prod n d m e).d], .bool (prod n d m e).ok]) (by rw [HF.out, HV.out]; simp [results, Tryz.results46, go_sem, badB]) rfl ⟨rfl, ?_⟩
      focus
        repeat with_reducible first | exact Below.refl _ _ | refine below_drewN ?_ _ | refine Below.drew ?_ | refine Below.setCell ?_ ?_ _ | refine Below.alloc ?_ ?_ _ | refine below_then ?_ ?_ (by with_reducible assumption)
        all_goals first | omega | (simp only [sA, sC, sD, sE]; omega) | (simp; done) | (simp; omega)
    by_cases hBD : 1000000 < B * D
    · have HV : Hid (prodQ A B C D = badB) := HV1.out _ (fun _ => rfl) (fun h => absurd (Or.inr hBD) h)

      go_wp2_with fail
      refine (S3.out _).mono ?_
      rintro e' w1 ⟨rfl, rfl⟩
      go_wp2_with fail
      refine (S4.out _).mono ?_
      rintro e' w1 ⟨rfl, rfl⟩
      go_wp2
      refine bodyPost_ret (v := .tuple #[.agg #[.int .i64 (prod n d m e).n, .int .i64 (prod n d m e).d], .bool (prod n d m e).ok]) (by rw [HF.out, HV.out]; simp [results, Tryz.results46, go_sem, badB]) rfl ⟨rfl, ?_⟩
      focus
        repeat with_reducible first | exact Below.refl _ _ | refine below_drewN ?_ _ | refine Below.drew ?_ | refine Below.setCell ?_ ?_ _ | refine Below.alloc ?_ ?_ _ | refine below_then ?_ ?_ (by with_reducible assumption)
        all_goals first | omega | (simp only [sA, sC, sD, sE]; omega) | (simp; done) | (simp; omega)
    have hb := HM.out hov
    have wAC : IntKind.i64.wrap (A * C) = A * C := w64 (by omega) (by omega)
    have HV2 : Hid (prodQ A B C D = if A * C = 0 then ⟨0, 1, true⟩ else ⟨A * C, B * D, true⟩) := HV1.out _ (fun h => by rcases h with h | h; exact absurd h.2 hov; exact absurd h hBD) (fun _ => rfl)
    clear hb
    by_cases hz : A * C = 0
    all_goals
      have HV := HV2.out
      first | rw [if_pos hz] at HV | rw [if_neg hz] at HV
      have HV := Lib.hid HV
      have hz1 := Lib.hid hz
      first | (have hz2 : (A * C == 0) = true := by simp only [hz, beq_self_eq_true]) | (have hz2 : (A * C == 0) = false := by rw [beq_eq_false_iff_ne]; exact hz)
      clear hz HV2
      go_wp2_with fail
      refine (S3.out _).mono ?_
      rintro e' w1 ⟨rfl, rfl⟩
      go_wp2_with fail
      refine (S4.out _).mono ?_
      rintro e' w1 ⟨rfl, rfl⟩
      go_wp2
      refine bodyPost_ret (v := .tuple #[.agg #[.int .i64 (prod n d m e).n, .int .i64 (prod n d m e).d], .bool (prod n d m e).ok]) (by rw [HF.out, HV.out]; simp [results, Tryz.results46, go_sem, hz1.out]) rfl ⟨rfl, ?_⟩
      focus
        repeat with_reducible first | exact Below.refl _ _ | refine below_drewN ?_ _ | refine Below.drew ?_ | refine Below.setCell ?_ ?_ _ | refine Below.alloc ?_ ?_ _ | refine below_then ?_ ?_ (by with_reducible assumption)
        all_goals first | omega | (simp only [sA, sC, sD, sE]; omega) | (simp; done) | (simp; omega)
end Go.Proofs.YtnimenpfojcehaaGreatDoor
namespace Go.Proofs.YtnimenpfojcehaaGreatDoor
open Go.RowKit
set_option linter.unusedSimpArgs false
set_option linter.unusedVariables false

set_option maxHeartbeats 400000 in
theorem num_Mul (n d m e : Int) (w : World) (hn : I64 n) (hd : I64 d) (hm : I64 m) (he : I64 e) :
    Calls Tryz.prog 28 #[.agg #[.int .i64 n, .int .i64 d], .agg #[.int .i64 m, .int .i64 e]] w fun e' w' => e' = .returned (.tuple #[.agg #[.int .i64 (mul n d m e).n, .int .i64 (mul n d m e).d], .bool (mul n d m e).ok]) ∧ Below w.heap.size w w' := by
  have HF : Hid (mul n d m e = prod (tk n d).n (tk n d).d (tk m e).n (tk m e).d) := rfl
  obtain ⟨a1, a2, a3, a4⟩ := tk_bd n d
  obtain ⟨b1, b2, b3, b4⟩ := tk_bd m e
  have HM := Lib.hid fun wx => num_product (tk n d).n (tk n d).d (tk m e).n (tk m e).d wx a1 a2 b1 b2 a3 a4 b3 (by omega)
  go_enter Tryz.func28, Tryz.ntmps28
  go_wp2_with fail
  refine region_below 4 (by kernel_rfl) (by kernel_rfl) ?_
  simp only [List.take_succ_cons, List.take_zero, List.drop_succ_cons, List.drop_zero]
  repeat
    first | (refine q_run ?_ ?_; focus (go_simp; done)) | (refine q_skip ?_ ?_; focus (go_simp; done))
    try (apply Exists.intro; refine ⟨fun w' hw' => ?_, ?_⟩; focus (have hc := (bcell hw'.out).1; unfold Oper.quietAt; go_simp; (try go_ints); (first | rfl | (go_at_call 45; refine (num_taken _ _ _ (by assumption) (by assumption)).mono ?_; rintro e w2 ⟨rfl, hb⟩; exact ⟨rfl, hw'.chain hb⟩))))
    intro K hK
    go_simp
    refine hK _ ?_
    clear hK K
  refine wpQuiet_nil ?_
  intro w1 hb'
  have hb := hb'.out
  clear hb'
  have c16 := lcc hb (w.heap.size) (by (first | omega | (simp only [sz_alloc, sz_setCell, sz_drew, sz_drewN]; omega) | (simp; done) | (simp; omega)))
  have f16 := lcf hb (w.heap.size) (by (first | omega | (simp only [sz_alloc, sz_setCell, sz_drew, sz_drewN]; omega) | (simp; done) | (simp; omega)))
  have s16 := lcs hb (w.heap.size) (by (first | omega | (simp only [sz_alloc, sz_setCell, sz_drew, sz_drewN]; omega) | (simp; done) | (simp; omega)))
  have c17 := lcc hb (w.heap.size + 1) (by (first | omega | (simp only [sz_alloc, sz_setCell, sz_drew, sz_drewN]; omega) | (simp; done) | (simp; omega)))
  have f17 := lcf hb (w.heap.size + 1) (by (first | omega | (simp only [sz_alloc, sz_setCell, sz_drew, sz_drewN]; omega) | (simp; done) | (simp; omega)))
  have s17 := lcs hb (w.heap.size + 1) (by (first | omega | (simp only [sz_alloc, sz_setCell, sz_drew, sz_drewN]; omega) | (simp; done) | (simp; omega)))
  have c18 := lcc hb (w.heap.size + 1 + 1) (by (first | omega | (simp only [sz_alloc, sz_setCell, sz_drew, sz_drewN]; omega) | (simp; done) | (simp; omega)))
  have f18 := lcf hb (w.heap.size + 1 + 1) (by (first | omega | (simp only [sz_alloc, sz_setCell, sz_drew, sz_drewN]; omega) | (simp; done) | (simp; omega)))
  have s18 := lcs hb (w.heap.size + 1 + 1) (by (first | omega | (simp only [sz_alloc, sz_setCell, sz_drew, sz_drewN]; omega) | (simp; done) | (simp; omega)))
  go_wp2_with fail
  refine (HM.out _).mono ?_
  rintro e' w2 ⟨rfl, hb2⟩
  have c19 := lcc hb2 (w.heap.size + 1 + 1) (by (first | omega | (simp only [sz_alloc, sz_setCell, sz_drew, sz_drewN]; omega) | (simp; done) | (simp; omega)))
  have f19 := lcf hb2 (w.heap.size + 1 + 1) (by (first | omega | (simp only [sz_alloc, sz_setCell, sz_drew, sz_drewN]; omega) | (simp; done) | (simp; omega)))
  have s19 := lcs hb2 (w.heap.size + 1 + 1) (by (first | omega | (simp only [sz_alloc, sz_setCell, sz_drew, sz_drewN]; omega) | (simp; done) | (simp; omega)))
  go_wp2
  refine bodyPost_ret (v := .tuple #[.agg #[.int .i64 (mul n d m e).n, .int .i64 (mul n d m e).d], .bool (mul n d m e).ok]) (by rw [HF.out]; simp [results, Tryz.results28, go_sem, c16, c17, c18, c19]) rfl ⟨rfl, ?_⟩
  focus
    repeat with_reducible first | exact Below.refl _ _ | refine below_drewN ?_ _ | refine Below.drew ?_ | refine Below.setCell ?_ ?_ _ | refine Below.alloc ?_ ?_ _ | refine below_then ?_ ?_ (by with_reducible assumption)
    all_goals first | omega | (simp only [sA, sC, sD, sE]; omega) | (simp; done) | (simp; omega)

set_option maxHeartbeats 800000 in
theorem num_Div (n d m e : Int) (w : World) (hn : I64 n) (hd : I64 d) (hm : I64 m) (he : I64 e) :
    Calls Tryz.prog 84 #[.agg #[.int .i64 n, .int .i64 d], .agg #[.int .i64 m, .int .i64 e]] w fun e' w' => e' = .returned (.tuple #[.agg #[.int .i64 (div n d m e).n, .int .i64 (div n d m e).d], .bool (div n d m e).ok]) ∧ Below w.heap.size w w' := by
  obtain ⟨a1, a2, a3, a4⟩ := tk_bd n d
  obtain ⟨b1, b2, b3, b4⟩ := tk_bd m e
  by_cases h0 : (tk m e).n = 0
  · have HF : Hid (div n d m e = badB) := by unfold Hid div; rw [if_pos h0]
    have k0 : ((tk m e).n == 0) = true := by simp [h0]
    clear h0
    go_enter Tryz.func84, Tryz.ntmps84
    go_wp2_with fail
    refine region_below 4 (by kernel_rfl) (by kernel_rfl) ?_
    simp only [List.take_succ_cons, List.take_zero, List.drop_succ_cons, List.drop_zero]
    repeat
      first | (refine q_run ?_ ?_; focus (go_simp; done)) | (refine q_skip ?_ ?_; focus (go_simp; done))
      try (apply Exists.intro; refine ⟨fun w' hw' => ?_, ?_⟩; focus (have hc := (bcell hw'.out).1; unfold Oper.quietAt; go_simp; (try go_ints); (first | rfl | (go_at_call 45; refine (num_taken _ _ _ (by assumption) (by assumption)).mono ?_; rintro e w2 ⟨rfl, hb⟩; exact ⟨rfl, hw'.chain hb⟩))))
      intro K hK
      go_simp
      refine hK _ ?_
      clear hK K
    refine wpQuiet_nil ?_
    intro w1 hb'
    have hb := hb'.out
    clear hb'
    have c20 := lcc hb (w.heap.size) (by (first | omega | (simp only [sz_alloc, sz_setCell, sz_drew, sz_drewN]; omega) | (simp; done) | (simp; omega)))
    have f20 := lcf hb (w.heap.size) (by (first | omega | (simp only [sz_alloc, sz_setCell, sz_drew, sz_drewN]; omega) | (simp; done) | (simp; omega)))
    have s20 := lcs hb (w.heap.size) (by (first | omega | (simp only [sz_alloc, sz_setCell, sz_drew, sz_drewN]; omega) | (simp; done) | (simp; omega)))
    have c21 := lcc hb (w.heap.size + 1) (by (first | omega | (simp only [sz_alloc, sz_setCell, sz_drew, sz_drewN]; omega) | (simp; done) | (simp; omega)))
    have f21 := lcf hb (w.heap.size + 1) (by (first | omega | (simp only [sz_alloc, sz_setCell, sz_drew, sz_drewN]; omega) | (simp; done) | (simp; omega)))
    have s21 := lcs hb (w.heap.size + 1) (by (first | omega | (simp only [sz_alloc, sz_setCell, sz_drew, sz_drewN]; omega) | (simp; done) | (simp; omega)))
    have c22 := lcc hb (w.heap.size + 1 + 1) (by (first | omega | (simp only [sz_alloc, sz_setCell, sz_drew, sz_drewN]; omega) | (simp; done) | (simp; omega)))
    have f22 := lcf hb (w.heap.size + 1 + 1) (by (first | omega | (simp only [sz_alloc, sz_setCell, sz_drew, sz_drewN]; omega) | (simp; done) | (simp; omega)))
    have s22 := lcs hb (w.heap.size + 1 + 1) (by (first | omega | (simp only [sz_alloc, sz_setCell, sz_drew, sz_drewN]; omega) | (simp; done) | (simp; omega)))
    go_wp2
    refine bodyPost_ret (v := .tuple #[.agg #[.int .i64 (div n d m e).n, .int .i64 (div n d m e).d], .bool (div n d m e).ok]) (by rw [HF.out]; simp [results, Tryz.results84, go_sem, c20, c21, c22, badB]) rfl ⟨rfl, ?_⟩
    focus
      repeat with_reducible first | exact Below.refl _ _ | refine below_drewN ?_ _ | refine Below.drew ?_ | refine Below.setCell ?_ ?_ _ | refine Below.alloc ?_ ?_ _ | refine below_then ?_ ?_ (by with_reducible assumption)
      all_goals first | omega | (simp only [sA, sC, sD, sE]; omega) | (simp; done) | (simp; omega)
  have k0 : ((tk m e).n == 0) = false := by simp [h0]
  by_cases h1 : (tk m e).n < 0
  · have HF : Hid (div n d m e = prod (tk n d).n (tk n d).d (-(tk m e).d) (-(tk m e).n)) := by unfold Hid div; rw [if_neg h0, if_pos h1]
    have HM := Lib.hid fun wx => num_product (tk n d).n (tk n d).d (-(tk m e).d) (-(tk m e).n) wx a1 a2 (by omega) (by omega) a3 a4 (by omega) (by omega)
    clear h0
    go_enter Tryz.func84, Tryz.ntmps84
    go_wp2_with fail
    refine region_below 4 (by kernel_rfl) (by kernel_rfl) ?_
    simp only [List.take_succ_cons, List.take_zero, List.drop_succ_cons, List.drop_zero]
    repeat
      first | (refine q_run ?_ ?_; focus (go_simp; done)) | (refine q_skip ?_ ?_; focus (go_simp; done))
      try (apply Exists.intro; refine ⟨fun w' hw' => ?_, ?_⟩; focus (have hc := (bcell hw'.out).1; unfold Oper.quietAt; go_simp; (try go_ints); (first | rfl | (go_at_call 45; refine (num_taken _ _ _ (by assumption) (by assumption)).mono ?_; rintro e w2 ⟨rfl, hb⟩; exact ⟨rfl, hw'.chain hb⟩))))
      intro K hK
      go_simp
      refine hK _ ?_
      clear hK K
    refine wpQuiet_nil ?_
    intro w1 hb'
    have hb := hb'.out
    clear hb'
    have c23 := lcc hb (w.heap.size) (by (first | omega | (simp only [sz_alloc, sz_setCell, sz_drew, sz_drewN]; omega) | (simp; done) | (simp; omega)))
    have f23 := lcf hb (w.heap.size) (by (first | omega | (simp only [sz_alloc, sz_setCell, sz_drew, sz_drewN]; omega) | (simp; done) | (simp; omega)))
    have s23 := lcs hb (w.heap.size) (by (first | omega | (simp only [sz_alloc, sz_setCell, sz_drew, sz_drewN]; omega) | (simp; done) | (simp; omega)))
    have c24 := lcc hb (w.heap.size + 1) (by (first | omega | (simp only [sz_alloc, sz_setCell, sz_drew, sz_drewN]; omega) | (simp; done) | (simp; omega)))
    have f24 := lcf hb (w.heap.size + 1) (by (first | omega | (simp only [sz_alloc, sz_setCell, sz_drew, sz_drewN]; omega) | (simp; done) | (simp; omega)))
    have s24 := lcs hb (w.heap.size + 1) (by (first | omega | (simp only [sz_alloc, sz_setCell, sz_drew, sz_drewN]; omega) | (simp; done) | (simp; omega)))
    have c25 := lcc hb (w.heap.size + 1 + 1) (by (first | omega | (simp only [sz_alloc, sz_setCell, sz_drew, sz_drewN]; omega) | (simp; done) | (simp; omega)))
    have f25 := lcf hb (w.heap.size + 1 + 1) (by (first | omega | (simp only [sz_alloc, sz_setCell, sz_drew, sz_drewN]; omega) | (simp; done) | (simp; omega)))
    have s25 := lcs hb (w.heap.size + 1 + 1) (by (first | omega | (simp only [sz_alloc, sz_setCell, sz_drew, sz_drewN]; omega) | (simp; done) | (simp; omega)))
    go_wp2_with fail
    refine (HM.out _).mono ?_
    rintro e' w2 ⟨rfl, hb2⟩
    have c26 := lcc hb2 (w.heap.size + 1 + 1) (by (first | omega | (simp only [sz_alloc, sz_setCell, sz_drew, sz_drewN]; omega) | (simp; done) | (simp; omega)))
    have f26 := lcf hb2 (w.heap.size + 1 + 1) (by (first | omega | (simp only [sz_alloc, sz_setCell, sz_drew, sz_drewN]; omega) | (simp; done) | (simp; omega)))
    have s26 := lcs hb2 (w.heap.size + 1 + 1) (by (first | omega | (simp only [sz_alloc, sz_setCell, sz_drew, sz_drewN]; omega) | (simp; done) | (simp; omega)))
    go_wp2
    refine bodyPost_ret (v := .tuple #[.agg #[.int .i64 (div n d m e).n, .int .i64 (div n d m e).d], .bool (div n d m e).ok]) (by rw [HF.out]; simp [results, Tryz.results84, go_sem, c23, c24, c25, c26]) rfl ⟨rfl, ?_⟩
    focus
      repeat with_reducible first | exact Below.refl _ _ | refine below_drewN ?_ _ | refine Below.drew ?_ | refine Below.setCell ?_ ?_ _ | refine Below.alloc ?_ ?_ _ | refine below_then ?_ ?_ (by with_reducible assumption)
      all_goals first | omega | (simp only [sA, sC, sD, sE]; omega) | (simp; done) | (simp; omega)
  · have HF : Hid (div n d m e = prod (tk n d).n (tk n d).d (tk m e).d (tk m e).n) := by unfold Hid div; rw [if_neg h0, if_neg h1]
    have HM := Lib.hid fun wx => num_product (tk n d).n (tk n d).d (tk m e).d (tk m e).n wx a1 a2 (by omega) (by omega) a3 a4 (by omega) (by omega)
    clear h0
    go_enter Tryz.func84, Tryz.ntmps84
    go_wp2_with fail
    refine region_below 4 (by kernel_rfl) (by kernel_rfl) ?_
    simp only [List.take_succ_cons, List.take_zero, List.drop_succ_cons, List.drop_zero]
    repeat
      first | (refine q_run ?_ ?_; focus (go_simp; done)) | (refine q_skip ?_ ?_; focus (go_simp; done))
      try (apply Exists.intro; refine ⟨fun w' hw' => ?_, ?_⟩; focus (have hc := (bcell hw'.out).1; unfold Oper.quietAt; go_simp; (try go_ints); (first | rfl | (go_at_call 45; refine (num_taken _ _ _ (by assumption) (by assumption)).mono ?_; rintro e w2 ⟨rfl, hb⟩; exact ⟨rfl, hw'.chain hb⟩))))
      intro K hK
      go_simp
      refine hK _ ?_
      clear hK K
    refine wpQuiet_nil ?_
    intro w1 hb'
    have hb := hb'.out
    clear hb'
    have c27 := lcc hb (w.heap.size) (by (first | omega | (simp only [sz_alloc, sz_setCell, sz_drew, sz_drewN]; omega) | (simp; done) | (simp; omega)))
    have f27 := lcf hb (w.heap.size) (by (first | omega | (simp only [sz_alloc, sz_setCell, sz_drew, sz_drewN]; omega) | (simp; done) | (simp; omega)))
    have s27 := lcs hb (w.heap.size) (by (first | omega | (simp only [sz_alloc, sz_setCell, sz_drew, sz_drewN]; omega) | (simp; done) | (simp; omega)))
    have c28 := lcc hb (w.heap.size + 1) (by (first | omega | (simp only [sz_alloc, sz_setCell, sz_drew, sz_drewN]; omega) | (simp; done) | (simp; omega)))
    have f28 := lcf hb (w.heap.size + 1) (by (first | omega | (simp only [sz_alloc, sz_setCell, sz_drew, sz_drewN]; omega) | (simp; done) | (simp; omega)))
    have s28 := lcs hb (w.heap.size + 1) (by (first | omega | (simp only [sz_alloc, sz_setCell, sz_drew, sz_drewN]; omega) | (simp; done) | (simp; omega)))
    have c29 := lcc hb (w.heap.size + 1 + 1) (by (first | omega | (simp only [sz_alloc, sz_setCell, sz_drew, sz_drewN]; omega) | (simp; done) | (simp; omega)))
    have f29 := lcf hb (w.heap.size + 1 + 1) (by (first | omega | (simp only [sz_alloc, sz_setCell, sz_drew, sz_drewN]; omega) | (simp; done) | (simp; omega)))
    have s29 := lcs hb (w.heap.size + 1 + 1) (by (first | omega | (simp only [sz_alloc, sz_setCell, sz_drew, sz_drewN]; omega) | (simp; done) | (simp; omega)))
    go_wp2_with fail
    refine (HM.out _).mono ?_
    rintro e' w2 ⟨rfl, hb2⟩
    have c30 := lcc hb2 (w.heap.size + 1 + 1) (by (first | omega | (simp only [sz_alloc, sz_setCell, sz_drew, sz_drewN]; omega) | (simp; done) | (simp; omega)))
    have f30 := lcf hb2 (w.heap.size + 1 + 1) (by (first | omega | (simp only [sz_alloc, sz_setCell, sz_drew, sz_drewN]; omega) | (simp; done) | (simp; omega)))
    have s30 := lcs hb2 (w.heap.size + 1 + 1) (by (first | omega | (simp only [sz_alloc, sz_setCell, sz_drew, sz_drewN]; omega) | (simp; done) | (simp; omega)))
    go_wp2
    refine bodyPost_ret (v := .tuple #[.agg #[.int .i64 (div n d m e).n, .int .i64 (div n d m e).d], .bool (div n d m e).ok]) (by rw [HF.out]; simp [results, Tryz.results84, go_sem, c27, c28, c29, c30]) rfl ⟨rfl, ?_⟩
    focus
      repeat with_reducible first | exact Below.refl _ _ | refine below_drewN ?_ _ | refine Below.drew ?_ | refine Below.setCell ?_ ?_ _ | refine Below.alloc ?_ ?_ _ | refine below_then ?_ ?_ (by with_reducible assumption)
      all_goals first | omega | (simp only [sA, sC, sD, sE]; omega) | (simp; done) | (simp; omega)

end Go.Proofs.YtnimenpfojcehaaGreatDoor
