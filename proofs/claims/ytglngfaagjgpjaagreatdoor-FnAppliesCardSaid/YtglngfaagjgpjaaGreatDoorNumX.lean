/- Walks of package num, second part. Walks of package num, third part: sums, products, quotients. Walks of package num, fourth part: products and quotients. Walks of package num, fifth part: Mul, Div, Floor. -/
import Derived.Test.YtglngfaagjgpjaaGreatDoorBx1
namespace Go.Proofs.YtglngfaagjgpjaaGreatDoor
open Go.RowKit
set_option linter.unusedSimpArgs false
set_option linter.unusedVariables false

set_option maxHeartbeats 400000 in
theorem num_Abs (n d : Int) (w : World) (hn : I64 n) (hd : I64 d) :
    Calls Tryz.prog 77 #[.agg #[.int .i64 n, .int .i64 d]] w fun e w' => e = .returned (.agg #[.int .i64 (absN n d).n, .int .i64 (absN n d).d]) ∧ Below w.heap.size w w' := by
  obtain ⟨b1, b2, b3, b4⟩ := tk_bd n d
  by_cases hneg : (tk n d).n < 0
  · have HF : Hid (absN n d = ⟨-(tk n d).n, (tk n d).d⟩) := by unfold Hid absN; rw [if_pos hneg]
    go_enter Tryz.func77, Tryz.ntmps77
    go_wp2_with fail
    refine (num_taken _ _ _ hn hd).mono ?_
    rintro e w1 ⟨rfl, hb⟩
    have c3 := lcc hb (w.heap.size) (by (first | omega | (simp only [sz_alloc, sz_setCell, sz_drew, sz_drewN]; omega) | (simp; done) | (simp; omega)))
    have f3 := lcf hb (w.heap.size) (by (first | omega | (simp only [sz_alloc, sz_setCell, sz_drew, sz_drewN]; omega) | (simp; done) | (simp; omega)))
    have s3 := lcs hb (w.heap.size) (by (first | omega | (simp only [sz_alloc, sz_setCell, sz_drew, sz_drewN]; omega) | (simp; done) | (simp; omega)))
    have c4 := lcc hb (w.heap.size + 1) (by (first | omega | (simp only [sz_alloc, sz_setCell, sz_drew, sz_drewN]; omega) | (simp; done) | (simp; omega)))
    have f4 := lcf hb (w.heap.size + 1) (by (first | omega | (simp only [sz_alloc, sz_setCell, sz_drew, sz_drewN]; omega) | (simp; done) | (simp; omega)))
    have s4 := lcs hb (w.heap.size + 1) (by (first | omega | (simp only [sz_alloc, sz_setCell, sz_drew, sz_drewN]; omega) | (simp; done) | (simp; omega)))
    go_wp2
    refine bodyPost_ret (v := .agg #[.int .i64 (absN n d).n, .int .i64 (absN n d).d]) (by rw [HF.out]; simp [results, Tryz.results77, go_sem, c3, c4]) rfl ⟨rfl, ?_⟩
    focus
      repeat with_reducible first | exact Below.refl _ _ | refine below_drewN ?_ _ | refine Below.drew ?_ | refine Below.setCell ?_ ?_ _ | refine Below.alloc ?_ ?_ _ | refine below_then ?_ ?_ (by with_reducible assumption)
      all_goals first | omega | (simp only [sA, sC, sD, sE]; omega) | (simp; done) | (simp; omega)
  · have HF : Hid (absN n d = ⟨(tk n d).n, (tk n d).d⟩) := by unfold Hid absN; rw [if_neg hneg]
    go_enter Tryz.func77, Tryz.ntmps77
    go_wp2_with fail
    refine (num_taken _ _ _ hn hd).mono ?_
    rintro e w1 ⟨rfl, hb⟩
    have c5 := lcc hb (w.heap.size) (by (first | omega | (simp only [sz_alloc, sz_setCell, sz_drew, sz_drewN]; omega) | (simp; done) | (simp; omega)))
    have f5 := lcf hb (w.heap.size) (by (first | omega | (simp only [sz_alloc, sz_setCell, sz_drew, sz_drewN]; omega) | (simp; done) | (simp; omega)))
    have s5 := lcs hb (w.heap.size) (by (first | omega | (simp only [sz_alloc, sz_setCell, sz_drew, sz_drewN]; omega) | (simp; done) | (simp; omega)))
    have c6 := lcc hb (w.heap.size + 1) (by (first | omega | (simp only [sz_alloc, sz_setCell, sz_drew, sz_drewN]; omega) | (simp; done) | (simp; omega)))
    have f6 := lcf hb (w.heap.size + 1) (by (first | omega | (simp only [sz_alloc, sz_setCell, sz_drew, sz_drewN]; omega) | (simp; done) | (simp; omega)))
    have s6 := lcs hb (w.heap.size + 1) (by (first | omega | (simp only [sz_alloc, sz_setCell, sz_drew, sz_drewN]; omega) | (simp; done) | (simp; omega)))
    go_wp2
    refine bodyPost_ret (v := .agg #[.int .i64 (absN n d).n, .int .i64 (absN n d).d]) (by rw [HF.out]; simp [results, Tryz.results77, go_sem, c5, c6]) rfl ⟨rfl, ?_⟩
    focus
      repeat with_reducible first | exact Below.refl _ _ | refine below_drewN ?_ _ | refine Below.drew ?_ | refine Below.setCell ?_ ?_ _ | refine Below.alloc ?_ ?_ _ | refine below_then ?_ ?_ (by with_reducible assumption)
      all_goals first | omega | (simp only [sA, sC, sD, sE]; omega) | (simp; done) | (simp; omega)

set_option maxHeartbeats 400000 in
theorem num_Whole (n d : Int) (w : World) (hn : I64 n) (hd : I64 d) :
    Calls Tryz.prog 80 #[.agg #[.int .i64 n, .int .i64 d]] w fun e w' => e = .returned (.tuple #[.int .i64 (wholeN n d), .bool (wholeB n d)]) ∧ Below w.heap.size w w' := by
  obtain ⟨b1, b2, b3, b4⟩ := tk_bd n d
  by_cases h1 : (tk n d).d = 1
  · have HN : Hid (wholeN n d = (tk n d).n) := by unfold Hid wholeN; rw [if_pos h1]
    have HB : Hid (wholeB n d = true) := by unfold Hid wholeB; simp [h1]
    have h1' : ((tk n d).d == 1) = true := by simp [h1]
    have h1'' : ((tk n d).d != 1) = false := by simp [h1]
    clear h1
    go_enter Tryz.func80, Tryz.ntmps80
    go_wp2_with fail
    refine (num_taken _ _ _ hn hd).mono ?_
    rintro e w1 ⟨rfl, hb⟩
    have c7 := lcc hb (w.heap.size) (by (first | omega | (simp only [sz_alloc, sz_setCell, sz_drew, sz_drewN]; omega) | (simp; done) | (simp; omega)))
    have f7 := lcf hb (w.heap.size) (by (first | omega | (simp only [sz_alloc, sz_setCell, sz_drew, sz_drewN]; omega) | (simp; done) | (simp; omega)))
    have s7 := lcs hb (w.heap.size) (by (first | omega | (simp only [sz_alloc, sz_setCell, sz_drew, sz_drewN]; omega) | (simp; done) | (simp; omega)))
    go_wp2
    go_ret2
    refine ⟨by rw [HN.out, HB.out]; rfl, ?_⟩
    focus
      repeat with_reducible first | exact Below.refl _ _ | refine below_drewN ?_ _ | refine Below.drew ?_ | refine Below.setCell ?_ ?_ _ | refine Below.alloc ?_ ?_ _ | refine below_then ?_ ?_ (by with_reducible assumption)
      all_goals first | omega | (simp only [sA, sC, sD, sE]; omega) | (simp; done) | (simp; omega)
  · have HN : Hid (wholeN n d = 0) := by unfold Hid wholeN; rw [if_neg h1]
    have HB : Hid (wholeB n d = false) := by unfold Hid wholeB; simp [h1]
    have h1' : ((tk n d).d == 1) = false := by simp [h1]
    have h1'' : ((tk n d).d != 1) = true := by simp [h1]
    clear h1
    go_enter Tryz.func80, Tryz.ntmps80
    go_wp2_with fail
    refine (num_taken _ _ _ hn hd).mono ?_
    rintro e w1 ⟨rfl, hb⟩
    have c8 := lcc hb (w.heap.size) (by (first | omega | (simp only [sz_alloc, sz_setCell, sz_drew, sz_drewN]; omega) | (simp; done) | (simp; omega)))
    have f8 := lcf hb (w.heap.size) (by (first | omega | (simp only [sz_alloc, sz_setCell, sz_drew, sz_drewN]; omega) | (simp; done) | (simp; omega)))
    have s8 := lcs hb (w.heap.size) (by (first | omega | (simp only [sz_alloc, sz_setCell, sz_drew, sz_drewN]; omega) | (simp; done) | (simp; omega)))
    go_wp2
    go_ret2
    refine ⟨by rw [HN.out, HB.out]; rfl, ?_⟩
    focus
      repeat with_reducible first | exact Below.refl _ _ | refine below_drewN ?_ _ | refine Below.drew ?_ | refine Below.setCell ?_ ?_ _ | refine Below.alloc ?_ ?_ _ | refine below_then ?_ ?_ (by with_reducible assumption)
      all_goals first | omega | (simp only [sA, sC, sD, sE]; omega) | (simp; done) | (simp; omega)

set_option maxHeartbeats 400000 in
theorem num_Cmp (n d m e : Int) (w : World) (hn : I64 n) (hd : I64 d) (hm : I64 m) (he : I64 e) :
    Calls Tryz.prog 78 #[.agg #[.int .i64 n, .int .i64 d], .agg #[.int .i64 m, .int .i64 e]] w fun e' w' => e' = .returned (.int .i64 (cmpN n d m e)) ∧ Below w.heap.size w w' := by
  have HF : Hid (cmpN n d m e = cmpI ((tk n d).n * (tk m e).d) ((tk m e).n * (tk n d).d)) := rfl
  go_enter Tryz.func78, Tryz.ntmps78
  go_wp2_with fail
  refine region_below 4 (by kernel_rfl) (by kernel_rfl) ?_
  simp only [List.take_succ_cons, List.take_zero, List.drop_succ_cons, List.drop_zero]
  repeat
    first | (refine q_run ?_ ?_; focus (go_simp; done)) | (refine q_skip ?_ ?_; focus (go_simp; done))
    try (apply Exists.intro; refine ⟨fun w' hw' => ?_, ?_⟩; focus (have hc := (bcell hw'.out).1; unfold Oper.quietAt; go_simp; (try go_ints); (first | rfl | (go_at_call 108; refine (num_taken _ _ _ (by assumption) (by assumption)).mono ?_; rintro e w2 ⟨rfl, hb⟩; exact ⟨rfl, hw'.chain hb⟩))))
    intro K hK
    go_simp
    refine hK _ ?_
    clear hK K
  refine wpQuiet_nil ?_
  intro w1 hb'
  have hb := hb'.out
  clear hb'
  have c9 := lcc hb (w.heap.size) (by (first | omega | (simp only [sz_alloc, sz_setCell, sz_drew, sz_drewN]; omega) | (simp; done) | (simp; omega)))
  have f9 := lcf hb (w.heap.size) (by (first | omega | (simp only [sz_alloc, sz_setCell, sz_drew, sz_drewN]; omega) | (simp; done) | (simp; omega)))
  have s9 := lcs hb (w.heap.size) (by (first | omega | (simp only [sz_alloc, sz_setCell, sz_drew, sz_drewN]; omega) | (simp; done) | (simp; omega)))
  have c10 := lcc hb (w.heap.size + 1) (by (first | omega | (simp only [sz_alloc, sz_setCell, sz_drew, sz_drewN]; omega) | (simp; done) | (simp; omega)))
  have f10 := lcf hb (w.heap.size + 1) (by (first | omega | (simp only [sz_alloc, sz_setCell, sz_drew, sz_drewN]; omega) | (simp; done) | (simp; omega)))
  have s10 := lcs hb (w.heap.size + 1) (by (first | omega | (simp only [sz_alloc, sz_setCell, sz_drew, sz_drewN]; omega) | (simp; done) | (simp; omega)))
  go_wp2
  have hw1 := tk_wrap n d m e
  have hw2 := tk_wrap m e n d
  go_quiet (fail)
  go_wp2
  all_goals
    go_ret
    refine ⟨by rw [HF.out]; unfold cmpI; (repeat' split) <;> first | rfl | omega, ?_⟩
    focus
      repeat with_reducible first | exact Below.refl _ _ | refine below_drewN ?_ _ | refine Below.drew ?_ | refine Below.setCell ?_ ?_ _ | refine Below.alloc ?_ ?_ _ | refine below_then ?_ ?_ (by with_reducible assumption)
      all_goals first | omega | (simp only [sA, sC, sD, sE]; omega) | (simp; done) | (simp; omega)

set_option maxHeartbeats 400000 in
theorem num_Make (n d : Int) (w : World) (hn : I64 n) (hd : I64 d) :
    Calls Tryz.prog 68 #[.int .i64 n, .int .i64 d] w fun e w' => e = .returned (.tuple #[.agg #[.int .i64 (mk n d).n, .int .i64 (mk n d).d], .bool (mk n d).ok]) ∧ Below w.heap.size w w' := by
  by_cases h0 : d = 0
  · have HF : Hid (mk n d = badB) := by unfold Hid mk; rw [if_pos h0]
    subst h0
    go_enter Tryz.func68, Tryz.ntmps68
    go_wp2
    refine bodyPost_ret (v := .tuple #[.agg #[.int .i64 (mk n 0).n, .int .i64 (mk n 0).d], .bool (mk n 0).ok]) (by rw [HF.out]; simp [results, Tryz.results68, go_sem, badB]) rfl ⟨rfl, ?_⟩
    focus
      repeat with_reducible first | exact Below.refl _ _ | refine below_drewN ?_ _ | refine Below.drew ?_ | refine Below.setCell ?_ ?_ _ | refine Below.alloc ?_ ?_ _ | refine below_then ?_ ?_ (by with_reducible assumption)
      all_goals first | omega | (simp only [sA, sC, sD, sE]; omega) | (simp; done) | (simp; omega)
  · have hg : 0 < Nat.gcd n.natAbs d.natAbs := Nat.gcd_pos_of_pos_right _ (by omega)
    have hXl : n.natAbs / Nat.gcd n.natAbs d.natAbs ≤ n.natAbs := Nat.div_le_self _ _
    have hYl : d.natAbs / Nat.gcd n.natAbs d.natAbs ≤ d.natAbs := Nat.div_le_self _ _
    have hX0 : (n.natAbs : Int) / ((Nat.gcd n.natAbs d.natAbs : Nat) : Int) = ((n.natAbs / Nat.gcd n.natAbs d.natAbs : Nat) : Int) := rfl
    have hY0 : (d.natAbs : Int) / ((Nat.gcd n.natAbs d.natAbs : Nat) : Int) = ((d.natAbs / Nat.gcd n.natAbs d.natAbs : Nat) : Int) := rfl
    have hgcd := fun wx => num_gcd n.natAbs d.natAbs wx (by have := hn.lo; have := hn.hi; omega) (by have := hd.lo; have := hd.hi; omega)
    have hsz1 := fun wx => num_size n wx hn
    have hsz2 := fun wx => num_size d wx hd
    have HF : Hid (mk n d = signed (decide (n < 0) != decide (d < 0)) (n.natAbs / Nat.gcd n.natAbs d.natAbs) (d.natAbs / Nat.gcd n.natAbs d.natAbs)) := by unfold Hid mk; rw [if_neg h0]
    generalize n.natAbs / Nat.gcd n.natAbs d.natAbs = X at *
    generalize d.natAbs / Nat.gcd n.natAbs d.natAbs = Y at *
    have hn0 := hn.lo
    have hn1 := hn.hi
    have hd0 := hd.lo
    have hd1 := hd.hi
    have hnA : n.natAbs ≤ 9223372036854775808 := by omega
    have hdA : d.natAbs ≤ 9223372036854775808 := by omega
    have hgA : Nat.gcd n.natAbs d.natAbs ≤ 9223372036854775808 := Nat.le_trans (Nat.gcd_le_right _ (by omega)) hdA
    have h0b : (d == 0) = false := by simp [h0]
    have hgz : (((Nat.gcd n.natAbs d.natAbs : Nat) : Int) == 0) = false := by rw [beq_eq_false_iff_ne]; omega
    have HG := Lib.hid hgcd
    have HS1 := Lib.hid hsz1
    have HS2 := Lib.hid hsz2
    generalize Nat.gcd n.natAbs d.natAbs = G at *
    clear hgcd hsz1 hsz2
    by_cases hov : 1000000000000 < X ∨ 1000000 < Y
    · have HV : Hid (signed (decide (n < 0) != decide (d < 0)) X Y = badB) := by unfold Hid signed; rw [if_pos hov]
      have hcase : 1000000000000 < X ∨ (¬ 1000000000000 < X ∧ 1000000 < Y) := by omega
      clear hov
      rcases hcase with h | ⟨h, h2⟩
      all_goals
        go_enter Tryz.func68, Tryz.ntmps68
        go_wp2_with fail
        refine (HS1.out _).mono ?_
        rintro e w1 ⟨rfl, rfl⟩
        go_wp2_with fail
        refine (HS2.out _).mono ?_
        rintro e w1 ⟨rfl, rfl⟩
        go_wp2_with fail
        refine (HG.out _).mono ?_
        rintro e w1 ⟨rfl, nq, rfl⟩
        go_wp2_with fail
        go_quiet (fail)
        go_wp2
        refine bodyPost_ret (v := .tuple #[.agg #[.int .i64 (mk n d).n, .int .i64 (mk n d).d], .bool (mk n d).ok]) (by rw [HF.out, HV.out]; simp [results, Tryz.results68, go_sem, badB]) rfl ⟨rfl, ?_⟩
        focus
          repeat with_reducible first | exact Below.refl _ _ | refine below_drewN ?_ _ | refine Below.drew ?_ | refine Below.setCell ?_ ?_ _ | refine Below.alloc ?_ ?_ _ | refine below_then ?_ ?_ (by with_reducible assumption)
          all_goals first | omega | (simp only [sA, sC, sD, sE]; omega) | (simp; done) | (simp; omega)
    · have hX : ¬ 1000000000000 < X := by omega
      have hY : ¬ 1000000 < Y := by omega
      clear hov
      cases hns : decide (n < 0) <;> cases hds : decide (d < 0)
      all_goals
        have HV : Hid (signed (decide (n < 0) != decide (d < 0)) X Y = ⟨if decide (n < 0) != decide (d < 0) then -(X : Int) else X, Y, true⟩) := by unfold Hid signed; rw [if_neg (by omega)]
        rw [hns, hds] at HV HF
        go_enter Tryz.func68, Tryz.ntmps68
        go_wp2_with fail
        refine (HS1.out _).mono ?_
        rintro e w1 ⟨rfl, rfl⟩
        go_wp2_with fail
        refine (HS2.out _).mono ?_
        rintro e w1 ⟨rfl, rfl⟩
        go_wp2_with fail
        refine (HG.out _).mono ?_
        rintro e w1 ⟨rfl, nq, rfl⟩
        go_wp2_with fail
        go_quiet (fail)
        go_wp2
        refine bodyPost_ret (v := .tuple #[.agg #[.int .i64 (mk n d).n, .int .i64 (mk n d).d], .bool (mk n d).ok]) (by rw [HF.out, HV.out]; simp [results, Tryz.results68, go_sem, hns, hds]) rfl ⟨rfl, ?_⟩
        focus
          repeat with_reducible first | exact Below.refl _ _ | refine below_drewN ?_ _ | refine Below.drew ?_ | refine Below.setCell ?_ ?_ _ | refine Below.alloc ?_ ?_ _ | refine below_then ?_ ?_ (by with_reducible assumption)
          all_goals first | omega | (simp only [sA, sC, sD, sE]; omega) | (simp; done) | (simp; omega)
end Go.Proofs.YtglngfaagjgpjaaGreatDoor
namespace Go.Proofs.YtglngfaagjgpjaaGreatDoor
open Go.RowKit
set_option linter.unusedSimpArgs false
set_option linter.unusedVariables false

set_option maxHeartbeats 400000 in
theorem num_Add (n d m e : Int) (w : World) (hn : I64 n) (hd : I64 d) (hm : I64 m) (he : I64 e) :
    Calls Tryz.prog 133 #[.agg #[.int .i64 n, .int .i64 d], .agg #[.int .i64 m, .int .i64 e]] w fun e' w' => e' = .returned (.tuple #[.agg #[.int .i64 (add n d m e).n, .int .i64 (add n d m e).d], .bool (add n d m e).ok]) ∧ Below w.heap.size w w' := by
  have HF : Hid (add n d m e = mk ((tk n d).n * (tk m e).d + (tk m e).n * (tk n d).d) ((tk n d).d * (tk m e).d)) := rfl
  have p1 := tk_mul n d m e
  have p2 := tk_mul m e n d
  have p3 := tk_muld n d m e
  have hs : IntKind.i64.wrap ((tk n d).n * (tk m e).d + (tk m e).n * (tk n d).d) = (tk n d).n * (tk m e).d + (tk m e).n * (tk n d).d := w64 (by omega) (by omega)
  have i1 : I64 ((tk n d).n * (tk m e).d + (tk m e).n * (tk n d).d) := ⟨by omega, by omega⟩
  have i2 : I64 ((tk n d).d * (tk m e).d) := ⟨by omega, by omega⟩
  have HM := Lib.hid fun wx => num_Make _ _ wx i1 i2
  clear p1 p2 p3 i1 i2
  go_enter Tryz.func133, Tryz.ntmps133
  go_wp2_with fail
  refine region_below 4 (by kernel_rfl) (by kernel_rfl) ?_
  simp only [List.take_succ_cons, List.take_zero, List.drop_succ_cons, List.drop_zero]
  repeat
    first | (refine q_run ?_ ?_; focus (go_simp; done)) | (refine q_skip ?_ ?_; focus (go_simp; done))
    try (apply Exists.intro; refine ⟨fun w' hw' => ?_, ?_⟩; focus (have hc := (bcell hw'.out).1; unfold Oper.quietAt; go_simp; (try go_ints); (first | rfl | (go_at_call 108; refine (num_taken _ _ _ (by assumption) (by assumption)).mono ?_; rintro e w2 ⟨rfl, hb⟩; exact ⟨rfl, hw'.chain hb⟩))))
    intro K hK
    go_simp
    refine hK _ ?_
    clear hK K
  refine wpQuiet_nil ?_
  intro w1 hb'
  have hb := hb'.out
  clear hb'
  have c11 := lcc hb (w.heap.size) (by (first | omega | (simp only [sz_alloc, sz_setCell, sz_drew, sz_drewN]; omega) | (simp; done) | (simp; omega)))
  have f11 := lcf hb (w.heap.size) (by (first | omega | (simp only [sz_alloc, sz_setCell, sz_drew, sz_drewN]; omega) | (simp; done) | (simp; omega)))
  have s11 := lcs hb (w.heap.size) (by (first | omega | (simp only [sz_alloc, sz_setCell, sz_drew, sz_drewN]; omega) | (simp; done) | (simp; omega)))
  have c12 := lcc hb (w.heap.size + 1) (by (first | omega | (simp only [sz_alloc, sz_setCell, sz_drew, sz_drewN]; omega) | (simp; done) | (simp; omega)))
  have f12 := lcf hb (w.heap.size + 1) (by (first | omega | (simp only [sz_alloc, sz_setCell, sz_drew, sz_drewN]; omega) | (simp; done) | (simp; omega)))
  have s12 := lcs hb (w.heap.size + 1) (by (first | omega | (simp only [sz_alloc, sz_setCell, sz_drew, sz_drewN]; omega) | (simp; done) | (simp; omega)))
  have c13 := lcc hb (w.heap.size + 1 + 1) (by (first | omega | (simp only [sz_alloc, sz_setCell, sz_drew, sz_drewN]; omega) | (simp; done) | (simp; omega)))
  have f13 := lcf hb (w.heap.size + 1 + 1) (by (first | omega | (simp only [sz_alloc, sz_setCell, sz_drew, sz_drewN]; omega) | (simp; done) | (simp; omega)))
  have s13 := lcs hb (w.heap.size + 1 + 1) (by (first | omega | (simp only [sz_alloc, sz_setCell, sz_drew, sz_drewN]; omega) | (simp; done) | (simp; omega)))
  have hw1 := tk_wrap n d m e
  have hw2 := tk_wrap m e n d
  have hw3 := tk_wrapd n d m e
  go_wp2_with fail
  refine (HM.out _).mono ?_
  rintro e' w2 ⟨rfl, hb2⟩
  have c14 := lcc hb2 (w.heap.size + 1 + 1) (by (first | omega | (simp only [sz_alloc, sz_setCell, sz_drew, sz_drewN]; omega) | (simp; done) | (simp; omega)))
  have f14 := lcf hb2 (w.heap.size + 1 + 1) (by (first | omega | (simp only [sz_alloc, sz_setCell, sz_drew, sz_drewN]; omega) | (simp; done) | (simp; omega)))
  have s14 := lcs hb2 (w.heap.size + 1 + 1) (by (first | omega | (simp only [sz_alloc, sz_setCell, sz_drew, sz_drewN]; omega) | (simp; done) | (simp; omega)))
  go_wp2
  refine bodyPost_ret (v := .tuple #[.agg #[.int .i64 (add n d m e).n, .int .i64 (add n d m e).d], .bool (add n d m e).ok]) (by rw [HF.out]; simp [results, Tryz.results133, go_sem, c11, c12, c13, c14]) rfl ⟨rfl, ?_⟩
  focus
    repeat with_reducible first | exact Below.refl _ _ | refine below_drewN ?_ _ | refine Below.drew ?_ | refine Below.setCell ?_ ?_ _ | refine Below.alloc ?_ ?_ _ | refine below_then ?_ ?_ (by with_reducible assumption)
    all_goals first | omega | (simp only [sA, sC, sD, sE]; omega) | (simp; done) | (simp; omega)

end Go.Proofs.YtglngfaagjgpjaaGreatDoor
namespace Go.Proofs.YtglngfaagjgpjaaGreatDoor
open Go.RowKit
set_option linter.unusedSimpArgs false
set_option linter.unusedVariables false

end Go.Proofs.YtglngfaagjgpjaaGreatDoor
namespace Go.Proofs.YtglngfaagjgpjaaGreatDoor
open Go.RowKit
set_option linter.unusedSimpArgs false
set_option linter.unusedVariables false

set_option maxHeartbeats 400000 in
theorem num_floor (n d : Int) (w : World) (hn0 : -1000000000000000000 ≤ n) (hn1 : n ≤ 1000000000000000000) (hd0 : 0 < d) (hd1 : d ≤ 1000000000000000000) :
    Calls Tryz.prog 149 #[.int .i64 n, .int .i64 d] w fun e w' => e = .returned (.int .i64 (n / d)) ∧ w = w' := by
  have hdz : (d == 0) = false := by rw [beq_eq_false_iff_ne]; omega
  have hdb : decide (d < 0) = false := decide_eq_false (by omega)
  by_cases hn : n < 0
  · obtain ⟨f1, f2⟩ := tdiv_floor hd0 hn
    obtain ⟨q1, q2⟩ := ediv_bd hd0 hn0 hn1 (by omega)
    by_cases hr : n.tmod d = 0
    · have HQ := Lib.hid (f2 hr)
      have hr1 : (n.tmod d == 0) = true := by simp [hr]
      have hr2 : (n.tmod d != 0) = false := by simp [hr]
      rw [f2 hr] at q1 q2
      clear f1 f2 hr
      go_enter Tryz.func149, Tryz.ntmps149
      go_wp2
      go_ret
      exact ⟨by rw [HQ.out]; rfl, rfl⟩
    · have HQ := Lib.hid (f1 hr)
      have hr1 : (n.tmod d == 0) = false := by simp [hr]
      have hr2 : (n.tmod d != 0) = true := by simp [hr]
      rw [f1 hr] at q1 q2
      clear f1 f2 hr
      go_enter Tryz.func149, Tryz.ntmps149
      go_wp2
      go_ret
      exact ⟨by rw [HQ.out]; rfl, rfl⟩
  · have hn' : 0 ≤ n := by omega
    have hnb : decide (n < 0) = false := decide_eq_false hn
    clear hn
    go_enter Tryz.func149, Tryz.ntmps149
    go_wp2
    all_goals
      go_ret
      exact ⟨rfl, rfl⟩

set_option maxHeartbeats 400000 in
theorem num_Floor (n d : Int) (w : World) (hn : I64 n) (hd : I64 d) :
    Calls Tryz.prog 79 #[.agg #[.int .i64 n, .int .i64 d]] w fun e w' => e = .returned (.agg #[.int .i64 (floorN n d).n, .int .i64 (floorN n d).d]) ∧ Below w.heap.size w w' := by
  have HF : Hid (floorN n d = ⟨(tk n d).n / (tk n d).d, 1⟩) := rfl
  obtain ⟨b1, b2, b3, b4⟩ := tk_bd n d
  have HL := Lib.hid fun wx => num_floor (tk n d).n (tk n d).d wx (by omega) (by omega) (by omega) (by omega)
  go_enter Tryz.func79, Tryz.ntmps79
  go_wp2_with fail
  refine (num_taken _ _ _ hn hd).mono ?_
  rintro e w1 ⟨rfl, hb⟩
  have c31 := lcc hb (w.heap.size) (by (first | omega | (simp only [sz_alloc, sz_setCell, sz_drew, sz_drewN]; omega) | (simp; done) | (simp; omega)))
  have f31 := lcf hb (w.heap.size) (by (first | omega | (simp only [sz_alloc, sz_setCell, sz_drew, sz_drewN]; omega) | (simp; done) | (simp; omega)))
  have s31 := lcs hb (w.heap.size) (by (first | omega | (simp only [sz_alloc, sz_setCell, sz_drew, sz_drewN]; omega) | (simp; done) | (simp; omega)))
  have c32 := lcc hb (w.heap.size + 1) (by (first | omega | (simp only [sz_alloc, sz_setCell, sz_drew, sz_drewN]; omega) | (simp; done) | (simp; omega)))
  have f32 := lcf hb (w.heap.size + 1) (by (first | omega | (simp only [sz_alloc, sz_setCell, sz_drew, sz_drewN]; omega) | (simp; done) | (simp; omega)))
  have s32 := lcs hb (w.heap.size + 1) (by (first | omega | (simp only [sz_alloc, sz_setCell, sz_drew, sz_drewN]; omega) | (simp; done) | (simp; omega)))
  go_wp2_with fail
  refine (HL.out _).mono ?_
  rintro e w2 ⟨rfl, rfl⟩
  go_wp2
  refine bodyPost_ret (v := .agg #[.int .i64 (floorN n d).n, .int .i64 (floorN n d).d]) (by rw [HF.out]; simp [results, Tryz.results79, go_sem, c31, c32]) rfl ⟨rfl, ?_⟩
  focus
    repeat with_reducible first | exact Below.refl _ _ | refine below_drewN ?_ _ | refine Below.drew ?_ | refine Below.setCell ?_ ?_ _ | refine Below.alloc ?_ ?_ _ | refine below_then ?_ ?_ (by with_reducible assumption)
    all_goals first | omega | (simp only [sA, sC, sD, sE]; omega) | (simp; done) | (simp; omega)
end Go.Proofs.YtglngfaagjgpjaaGreatDoor
