/- Walks of package value: AsText and AsTruth of any value. -/
import Derived.Test.YtnimenpfojcehaaGreatDoorVTA
import Derived.Test.YtnimenpfojcehaaGreatDoorTextN
import Derived.Deep.RegionHeld3
namespace Go.Proofs.YtnimenpfojcehaaGreatDoor
open Go Go.RowKit
set_option linter.unusedSimpArgs false
set_option linter.unusedVariables false

theorem tl_yes {x y : ByteArray} (h : x = y) : (x.toList == y.toList) = true := by subst h; simp
theorem tl_no {x y : ByteArray} (h : ¬ x = y) : (x.toList == y.toList) = false := by
  refine beq_eq_false_iff_ne.2 fun e => ?_
  rw [ByteArray.toList_eq, ByteArray.toList_eq] at e
  cases x; cases y
  simp only [ByteArray.mk.injEq] at h
  exact h (Array.toList_inj.1 e)
structure TxB where
  t : ByteArray
  e : Vl
/-- A value that counts, as a text, or the fault. -/
def asTxtT (v : Vl) : TxB :=
  if v.k = 4 then ⟨⟨#[]⟩, v⟩ else if v.k = 1 then ⟨textN v.n v.d, blankV⟩ else if v.k = 3 then ⟨wordT v.b, blankV⟩ else ⟨v.t, blankV⟩
def asTxt (v : Vl) : TxB := asTxtT (tkV v)
structure TruB where
  b : Bool
  e : Vl
/-- A value that counts, as a truth, or the fault. -/
def asTruT (v : Vl) : TruB :=
  if v.k = 4 then ⟨false, v⟩ else if v.k = 1 then ⟨v.n != 0, blankV⟩
  else if v.k = 2 then (if v.t = wordT true then ⟨true, blankV⟩ else if v.t = wordT false then ⟨false, blankV⟩ else ⟨false, faultV 2⟩)
  else ⟨v.b, blankV⟩
def asTru (v : Vl) : TruB := asTruT (tkV v)

set_option maxRecDepth 100000 in
set_option maxHeartbeats 1000000 in
theorem ast_num (k n d : Int) (t : ByteArray) (b : Bool) (f : Int) (w : World) (v : Vl) (HT : Hid (∀ wx, Calls Tryz.prog 52 #[.agg #[.int .i64 k, .int .i64 n, .int .i64 d, .string t, .bool b, .int .i64 f]] wx fun e w' => e = .returned (.agg #[.int .i64 (v).k, .int .i64 (v).n, .int .i64 (v).d, .string (v).t, .bool (v).b, .int .i64 (v).f]) ∧ Below wx.heap.size wx w')) (hin : v.In) (hk : v.k = 1) (hp : Pow10 w) :
    Calls Tryz.prog 55 #[.agg #[.int .i64 k, .int .i64 n, .int .i64 d, .string t, .bool b, .int .i64 f]] w fun e w' => e = .returned (.tuple #[.string (asTxtT v).t, .agg #[.int .i64 ((asTxtT v).e).k, .int .i64 ((asTxtT v).e).n, .int .i64 ((asTxtT v).e).d, .string ((asTxtT v).e).t, .bool ((asTxtT v).e).b, .int .i64 ((asTxtT v).e).f]]) ∧ Below w.heap.size w w' := by
  have HF : Hid (asTxtT v = ⟨textN v.n v.d, blankV⟩) := by unfold Hid asTxtT; rw [if_neg (by omega), if_pos hk]
  have k1 : (v.k == 1) = true := by simp [hk]
  have k2 : (v.k == 2) = false := by simp [hk]
  have k3 : (v.k == 3) = false := by simp [hk]
  have k4 : (v.k == 4) = false := by simp [hk]
  clear hk
  have HP := Lib.hid fun wx h => hp.below (w' := wx) h
  have hn := hin.n
  have hd := hin.d
  generalize asTxtT v = R at *
  go_enter Tryz.func55, Tryz.ntmps55
  go_wp2_with fail
  refine (HT.out _).mono ?_
  rintro e w1 ⟨rfl, hb⟩
  obtain ⟨s1, c1_0, c1_1, c1_2, c1_3, c1_4, c1_5, f1⟩ := L6 hb (w.heap.size) (by first | omega | (simp only [sA, sC, sD, sE]; omega) | (simp; done) | (simp; omega)) (by go_simp; exact ⟨rfl, rfl, rfl, rfl, rfl, rfl⟩) (by intro o; go_simp)
  obtain ⟨s2, c2_0, c2_1, c2_2, c2_3, c2_4, c2_5, f2⟩ := L6 hb (w.heap.size + 1) (by first | omega | (simp only [sA, sC, sD, sE]; omega) | (simp; done) | (simp; omega)) (by go_simp; exact ⟨rfl, rfl, rfl, rfl, rfl, rfl⟩) (by intro o; go_simp)
  go_wp2_with fail
  refine (num_Text v.n v.d _ hn hd ?_).mono ?_
  · refine HP.out _ ?_
    focus
      repeat with_reducible first | exact Below.refl _ _ | refine below_drewN ?_ _ | refine Below.drew ?_ | refine Below.setCell ?_ ?_ _ | refine Below.alloc ?_ ?_ _ | refine below_then ?_ ?_ (by with_reducible assumption)
      all_goals first | omega | (simp only [sA, sC, sD, sE]; omega) | (simp; done) | (simp; omega)
  rintro e w2 ⟨rfl, hb⟩
  obtain ⟨s3, c3_0, c3_1, c3_2, c3_3, c3_4, c3_5, f3⟩ := L6 hb (w.heap.size) (by first | omega | (simp only [sA, sC, sD, sE]; omega) | (simp; done) | (simp; omega)) (by go_simp; exact ⟨rfl, rfl, rfl, rfl, rfl, rfl⟩) (by intro o; go_simp)
  obtain ⟨s4, c4_0, c4_1, c4_2, c4_3, c4_4, c4_5, f4⟩ := L6 hb (w.heap.size + 1) (by first | omega | (simp only [sA, sC, sD, sE]; omega) | (simp; done) | (simp; omega)) (by go_simp; exact ⟨rfl, rfl, rfl, rfl, rfl, rfl⟩) (by intro o; go_simp)
  clear c1_0 c1_1 c1_2 c1_3 c1_4 c1_5 f1 c2_0 c2_1 c2_2 c2_3 c2_4 c2_5 f2
  go_wp2_with fail
  refine (value_Blank _).mono ?_
  rintro e w3 ⟨rfl, hb⟩
  obtain ⟨s5, c5_0, c5_1, c5_2, c5_3, c5_4, c5_5, f5⟩ := L6 hb (w.heap.size + 1) (by first | omega | (simp only [sA, sC, sD, sE]; omega) | (simp; done) | (simp; omega)) (by go_simp; exact ⟨rfl, rfl, rfl, rfl, rfl, rfl⟩) (by intro o; go_simp)
  clear c3_0 c3_1 c3_2 c3_3 c3_4 c3_5 f3 c4_0 c4_1 c4_2 c4_3 c4_4 c4_5 f4
  go_wp2
  refine bodyPost_ret (v := .tuple #[.string R.t, .agg #[.int .i64 (R.e).k, .int .i64 (R.e).n, .int .i64 (R.e).d, .string (R.e).t, .bool (R.e).b, .int .i64 (R.e).f]]) (by rw [HF.out]; simp [results, Tryz.results55, go_sem, c5_0, c5_1, c5_2, c5_3, c5_4, c5_5]) rfl ⟨rfl, ?_⟩
  focus
    repeat with_reducible first | exact Below.refl _ _ | refine below_drewN ?_ _ | refine Below.drew ?_ | refine Below.setCell ?_ ?_ _ | refine Below.alloc ?_ ?_ _ | refine below_then ?_ ?_ (by with_reducible assumption)
    all_goals first | omega | (simp only [sA, sC, sD, sE]; omega) | (simp; done) | (simp; omega)

set_option maxRecDepth 100000 in
set_option maxHeartbeats 1000000 in
theorem ast_word (k n d : Int) (t : ByteArray) (b : Bool) (f : Int) (w : World) (v : Vl) (HT : Hid (∀ wx, Calls Tryz.prog 52 #[.agg #[.int .i64 k, .int .i64 n, .int .i64 d, .string t, .bool b, .int .i64 f]] wx fun e w' => e = .returned (.agg #[.int .i64 (v).k, .int .i64 (v).n, .int .i64 (v).d, .string (v).t, .bool (v).b, .int .i64 (v).f]) ∧ Below wx.heap.size wx w')) (hin : v.In) (hk : v.k = 3) :
    Calls Tryz.prog 55 #[.agg #[.int .i64 k, .int .i64 n, .int .i64 d, .string t, .bool b, .int .i64 f]] w fun e w' => e = .returned (.tuple #[.string (asTxtT v).t, .agg #[.int .i64 ((asTxtT v).e).k, .int .i64 ((asTxtT v).e).n, .int .i64 ((asTxtT v).e).d, .string ((asTxtT v).e).t, .bool ((asTxtT v).e).b, .int .i64 ((asTxtT v).e).f]]) ∧ Below w.heap.size w w' := by
  have HF : Hid (asTxtT v = ⟨wordT v.b, blankV⟩) := by unfold Hid asTxtT; rw [if_neg (by omega), if_neg (by omega), if_pos hk]
  have k1 : (v.k == 1) = false := by simp [hk]
  have k2 : (v.k == 2) = false := by simp [hk]
  have k3 : (v.k == 3) = true := by simp [hk]
  have k4 : (v.k == 4) = false := by simp [hk]
  clear hk
  have hn := hin.n
  have hd := hin.d
  generalize asTxtT v = R at *
  go_enter Tryz.func55, Tryz.ntmps55
  go_wp2_with fail
  refine (HT.out _).mono ?_
  rintro e w1 ⟨rfl, hb⟩
  obtain ⟨s6, c6_0, c6_1, c6_2, c6_3, c6_4, c6_5, f6⟩ := L6 hb (w.heap.size) (by first | omega | (simp only [sA, sC, sD, sE]; omega) | (simp; done) | (simp; omega)) (by go_simp; exact ⟨rfl, rfl, rfl, rfl, rfl, rfl⟩) (by intro o; go_simp)
  obtain ⟨s7, c7_0, c7_1, c7_2, c7_3, c7_4, c7_5, f7⟩ := L6 hb (w.heap.size + 1) (by first | omega | (simp only [sA, sC, sD, sE]; omega) | (simp; done) | (simp; omega)) (by go_simp; exact ⟨rfl, rfl, rfl, rfl, rfl, rfl⟩) (by intro o; go_simp)
  go_wp2_with fail
  refine (value_word _ _).mono ?_
  rintro e w2 ⟨rfl, rfl⟩
  go_wp2_with fail
  refine (value_Blank _).mono ?_
  rintro e w3 ⟨rfl, hb⟩
  obtain ⟨s8, c8_0, c8_1, c8_2, c8_3, c8_4, c8_5, f8⟩ := L6 hb (w.heap.size + 1) (by first | omega | (simp only [sA, sC, sD, sE]; omega) | (simp; done) | (simp; omega)) (by go_simp; exact ⟨rfl, rfl, rfl, rfl, rfl, rfl⟩) (by intro o; go_simp)
  clear c6_0 c6_1 c6_2 c6_3 c6_4 c6_5 f6 c7_0 c7_1 c7_2 c7_3 c7_4 c7_5 f7
  go_wp2
  refine bodyPost_ret (v := .tuple #[.string R.t, .agg #[.int .i64 (R.e).k, .int .i64 (R.e).n, .int .i64 (R.e).d, .string (R.e).t, .bool (R.e).b, .int .i64 (R.e).f]]) (by rw [HF.out]; simp [results, Tryz.results55, go_sem, c8_0, c8_1, c8_2, c8_3, c8_4, c8_5]) rfl ⟨rfl, ?_⟩
  focus
    repeat with_reducible first | exact Below.refl _ _ | refine below_drewN ?_ _ | refine Below.drew ?_ | refine Below.setCell ?_ ?_ _ | refine Below.alloc ?_ ?_ _ | refine below_then ?_ ?_ (by with_reducible assumption)
    all_goals first | omega | (simp only [sA, sC, sD, sE]; omega) | (simp; done) | (simp; omega)

set_option maxRecDepth 100000 in
set_option maxHeartbeats 1000000 in
theorem ast_else (k n d : Int) (t : ByteArray) (b : Bool) (f : Int) (w : World) (v : Vl) (HT : Hid (∀ wx, Calls Tryz.prog 52 #[.agg #[.int .i64 k, .int .i64 n, .int .i64 d, .string t, .bool b, .int .i64 f]] wx fun e w' => e = .returned (.agg #[.int .i64 (v).k, .int .i64 (v).n, .int .i64 (v).d, .string (v).t, .bool (v).b, .int .i64 (v).f]) ∧ Below wx.heap.size wx w')) (hin : v.In) (h1 : ¬ v.k = 1) (h3 : ¬ v.k = 3) (h4 : ¬ v.k = 4) :
    Calls Tryz.prog 55 #[.agg #[.int .i64 k, .int .i64 n, .int .i64 d, .string t, .bool b, .int .i64 f]] w fun e w' => e = .returned (.tuple #[.string (asTxtT v).t, .agg #[.int .i64 ((asTxtT v).e).k, .int .i64 ((asTxtT v).e).n, .int .i64 ((asTxtT v).e).d, .string ((asTxtT v).e).t, .bool ((asTxtT v).e).b, .int .i64 ((asTxtT v).e).f]]) ∧ Below w.heap.size w w' := by
  have HF : Hid (asTxtT v = ⟨v.t, blankV⟩) := by unfold Hid asTxtT; rw [if_neg h4, if_neg h1, if_neg h3]
  have k1 : (v.k == 1) = false := by simp [h1]
  have k3 : (v.k == 3) = false := by simp [h3]
  have k4 : (v.k == 4) = false := by simp [h4]
  clear h1 h3 h4
  have hn := hin.n
  have hd := hin.d
  generalize asTxtT v = R at *
  go_enter Tryz.func55, Tryz.ntmps55
  go_wp2_with fail
  refine (HT.out _).mono ?_
  rintro e w1 ⟨rfl, hb⟩
  obtain ⟨s9, c9_0, c9_1, c9_2, c9_3, c9_4, c9_5, f9⟩ := L6 hb (w.heap.size) (by first | omega | (simp only [sA, sC, sD, sE]; omega) | (simp; done) | (simp; omega)) (by go_simp; exact ⟨rfl, rfl, rfl, rfl, rfl, rfl⟩) (by intro o; go_simp)
  obtain ⟨s10, c10_0, c10_1, c10_2, c10_3, c10_4, c10_5, f10⟩ := L6 hb (w.heap.size + 1) (by first | omega | (simp only [sA, sC, sD, sE]; omega) | (simp; done) | (simp; omega)) (by go_simp; exact ⟨rfl, rfl, rfl, rfl, rfl, rfl⟩) (by intro o; go_simp)
  go_upto_region 2 with (fail)
  first | with_reducible refine wp_rebase ?_ | with_reducible refine wpList_rebase ?_
  intro w1 hb'
  have hb := hb'.out
  clear hb'
  obtain ⟨s11, c11_0, c11_1, c11_2, c11_3, c11_4, c11_5, f11⟩ := L6 hb (w.heap.size) (by first | omega | (simp only [sA, sC, sD, sE]; omega) | (simp; done) | (simp; omega)) (by go_simp; exact ⟨rfl, rfl, rfl, rfl, rfl, rfl⟩) (by intro o; go_simp)
  obtain ⟨s12, c12_0, c12_1, c12_2, c12_3, c12_4, c12_5, f12⟩ := L6 hb (w.heap.size + 1) (by first | omega | (simp only [sA, sC, sD, sE]; omega) | (simp; done) | (simp; omega)) (by go_simp; exact ⟨rfl, rfl, rfl, rfl, rfl, rfl⟩) (by intro o; go_simp)
  clear c9_0 c9_1 c9_2 c9_3 c9_4 c9_5 f9 c10_0 c10_1 c10_2 c10_3 c10_4 c10_5 f10
  go_wp2_with fail
  refine region_below 3 (by kernel_rfl) (by kernel_rfl) ?_
  simp only [List.take_succ_cons, List.take_zero, List.drop_succ_cons, List.drop_zero]
  repeat
    first | (refine q_run ?_ ?_; focus (go_simp; done)) | (refine q_skip ?_ ?_; focus (go_simp; done))
    try (apply Exists.intro; refine ⟨fun w' hw' => ?_, ?_⟩; focus (have hc := (bcell hw'.out).1; unfold Oper.quietAt; go_simp; (try go_ints); (first | rfl | (go_at_call 77; refine (value_Blank _).mono ?_; rintro e w2 ⟨rfl, hb⟩; exact ⟨rfl, hw'.chain hb⟩))))
    intro K hK
    go_simp
    refine hK _ ?_
    clear hK K
  refine wpQuiet_nil ?_
  intro w1 hb'
  have hb := hb'.out
  clear hb'
  obtain ⟨s13, c13_0, c13_1, c13_2, c13_3, c13_4, c13_5, f13⟩ := L6 hb (w.heap.size + 1) (by first | omega | (simp only [sA, sC, sD, sE]; omega) | (simp; done) | (simp; omega)) (by go_simp; exact ⟨rfl, rfl, rfl, rfl, rfl, rfl⟩) (by intro o; go_simp)
  clear c11_0 c11_1 c11_2 c11_3 c11_4 c11_5 f11 c12_0 c12_1 c12_2 c12_3 c12_4 c12_5 f12
  go_wp2
  refine bodyPost_ret (v := .tuple #[.string R.t, .agg #[.int .i64 (R.e).k, .int .i64 (R.e).n, .int .i64 (R.e).d, .string (R.e).t, .bool (R.e).b, .int .i64 (R.e).f]]) (by rw [HF.out]; simp [results, Tryz.results55, go_sem, c13_0, c13_1, c13_2, c13_3, c13_4, c13_5]) rfl ⟨rfl, ?_⟩
  focus
    repeat with_reducible first | exact Below.refl _ _ | refine below_drewN ?_ _ | refine Below.drew ?_ | refine Below.setCell ?_ ?_ _ | refine Below.alloc ?_ ?_ _ | refine below_then ?_ ?_ (by with_reducible assumption)
    all_goals first | omega | (simp only [sA, sC, sD, sE]; omega) | (simp; done) | (simp; omega)

set_option maxRecDepth 100000 in
set_option maxHeartbeats 1000000 in
theorem ast_fault (k n d : Int) (t : ByteArray) (b : Bool) (f : Int) (w : World) (v : Vl) (HT : Hid (∀ wx, Calls Tryz.prog 52 #[.agg #[.int .i64 k, .int .i64 n, .int .i64 d, .string t, .bool b, .int .i64 f]] wx fun e w' => e = .returned (.agg #[.int .i64 (v).k, .int .i64 (v).n, .int .i64 (v).d, .string (v).t, .bool (v).b, .int .i64 (v).f]) ∧ Below wx.heap.size wx w')) (hin : v.In) (hk : v.k = 4) :
    Calls Tryz.prog 55 #[.agg #[.int .i64 k, .int .i64 n, .int .i64 d, .string t, .bool b, .int .i64 f]] w fun e w' => e = .returned (.tuple #[.string (asTxtT v).t, .agg #[.int .i64 ((asTxtT v).e).k, .int .i64 ((asTxtT v).e).n, .int .i64 ((asTxtT v).e).d, .string ((asTxtT v).e).t, .bool ((asTxtT v).e).b, .int .i64 ((asTxtT v).e).f]]) ∧ Below w.heap.size w w' := by
  have HF : Hid (asTxtT v = ⟨⟨#[]⟩, v⟩) := by unfold Hid asTxtT; rw [if_pos hk]
  have k1 : (v.k == 1) = false := by simp [hk]
  have k2 : (v.k == 2) = false := by simp [hk]
  have k3 : (v.k == 3) = false := by simp [hk]
  have k4 : (v.k == 4) = true := by simp [hk]
  clear hk
  have hn := hin.n
  have hd := hin.d
  generalize asTxtT v = R at *
  go_enter Tryz.func55, Tryz.ntmps55
  go_wp2_with fail
  refine (HT.out _).mono ?_
  rintro e w1 ⟨rfl, hb⟩
  obtain ⟨s14, c14_0, c14_1, c14_2, c14_3, c14_4, c14_5, f14⟩ := L6 hb (w.heap.size) (by first | omega | (simp only [sA, sC, sD, sE]; omega) | (simp; done) | (simp; omega)) (by go_simp; exact ⟨rfl, rfl, rfl, rfl, rfl, rfl⟩) (by intro o; go_simp)
  obtain ⟨s15, c15_0, c15_1, c15_2, c15_3, c15_4, c15_5, f15⟩ := L6 hb (w.heap.size + 1) (by first | omega | (simp only [sA, sC, sD, sE]; omega) | (simp; done) | (simp; omega)) (by go_simp; exact ⟨rfl, rfl, rfl, rfl, rfl, rfl⟩) (by intro o; go_simp)
  go_upto_region 4 with (fail)
  first | with_reducible refine wp_rebase ?_ | with_reducible refine wpList_rebase ?_
  intro w1 hb'
  have hb := hb'.out
  clear hb'
  obtain ⟨s16, c16_0, c16_1, c16_2, c16_3, c16_4, c16_5, f16⟩ := L6 hb (w.heap.size) (by first | omega | (simp only [sA, sC, sD, sE]; omega) | (simp; done) | (simp; omega)) (by go_simp; exact ⟨rfl, rfl, rfl, rfl, rfl, rfl⟩) (by intro o; go_simp)
  obtain ⟨s17, c17_0, c17_1, c17_2, c17_3, c17_4, c17_5, f17⟩ := L6 hb (w.heap.size + 1) (by first | omega | (simp only [sA, sC, sD, sE]; omega) | (simp; done) | (simp; omega)) (by go_simp; exact ⟨rfl, rfl, rfl, rfl, rfl, rfl⟩) (by intro o; go_simp)
  clear c14_0 c14_1 c14_2 c14_3 c14_4 c14_5 f14 c15_0 c15_1 c15_2 c15_3 c15_4 c15_5 f15
  go_region_held3 (fun w' => w'.cell? ⟨w.heap.size, 0, none⟩ = some (.int .i64 v.k) ∧ w'.cell? ⟨w.heap.size, 1, none⟩ = some (.int .i64 v.n) ∧ w'.cell? ⟨w.heap.size, 2, none⟩ = some (.int .i64 v.d) ∧ w'.cell? ⟨w.heap.size, 3, none⟩ = some (.string v.t) ∧ w'.cell? ⟨w.heap.size, 4, none⟩ = some (.bool v.b) ∧ w'.cell? ⟨w.heap.size, 5, none⟩ = some (.int .i64 v.f)) ((first | (refine ⟨?_, ?_, ?_, ?_, ?_, ?_⟩ <;> (go_simp; done)) | go_keep)) (fail)
  rename_i kK kA hHeld
  clear hHeld
  go_wp2
  refine bodyPost_ret (v := .tuple #[.string R.t, .agg #[.int .i64 (R.e).k, .int .i64 (R.e).n, .int .i64 (R.e).d, .string (R.e).t, .bool (R.e).b, .int .i64 (R.e).f]]) (by rw [HF.out]; simp [results, Tryz.results55, go_sem, c16_0, c16_1, c16_2, c16_3, c16_4, c16_5, c17_0, c17_1, c17_2, c17_3, c17_4, c17_5]) rfl ⟨rfl, ?_⟩
  focus
    repeat with_reducible first | exact Below.refl _ _ | refine below_drewN ?_ _ | refine Below.drew ?_ | refine Below.setCell ?_ ?_ _ | refine Below.alloc ?_ ?_ _ | refine below_then ?_ ?_ (by with_reducible assumption)
    all_goals first | omega | (simp only [sA, sC, sD, sE]; omega) | (simp; done) | (simp; omega)

set_option maxRecDepth 100000 in
set_option maxHeartbeats 1000000 in
theorem asu_num (k n d : Int) (t : ByteArray) (b : Bool) (f : Int) (w : World) (v : Vl) (HT : Hid (∀ wx, Calls Tryz.prog 52 #[.agg #[.int .i64 k, .int .i64 n, .int .i64 d, .string t, .bool b, .int .i64 f]] wx fun e w' => e = .returned (.agg #[.int .i64 (v).k, .int .i64 (v).n, .int .i64 (v).d, .string (v).t, .bool (v).b, .int .i64 (v).f]) ∧ Below wx.heap.size wx w')) (hin : v.In) (hk : v.k = 1) :
    Calls Tryz.prog 59 #[.agg #[.int .i64 k, .int .i64 n, .int .i64 d, .string t, .bool b, .int .i64 f]] w fun e w' => e = .returned (.tuple #[.bool (asTruT v).b, .agg #[.int .i64 ((asTruT v).e).k, .int .i64 ((asTruT v).e).n, .int .i64 ((asTruT v).e).d, .string ((asTruT v).e).t, .bool ((asTruT v).e).b, .int .i64 ((asTruT v).e).f]]) ∧ Below w.heap.size w w' := by
  have HF : Hid (asTruT v = ⟨v.n != 0, blankV⟩) := by unfold Hid asTruT; rw [if_neg (by omega), if_pos hk]
  have k1 : (v.k == 1) = true := by simp [hk]
  have k2 : (v.k == 2) = false := by simp [hk]
  have k3 : (v.k == 3) = false := by simp [hk]
  have k4 : (v.k == 4) = false := by simp [hk]
  clear hk
  have hn := hin.n
  have hd := hin.d
  generalize asTruT v = R at *
  go_enter Tryz.func59, Tryz.ntmps59
  go_wp2_with fail
  refine (HT.out _).mono ?_
  rintro e w1 ⟨rfl, hb⟩
  obtain ⟨s18, c18_0, c18_1, c18_2, c18_3, c18_4, c18_5, f18⟩ := L6 hb (w.heap.size) (by first | omega | (simp only [sA, sC, sD, sE]; omega) | (simp; done) | (simp; omega)) (by go_simp; exact ⟨rfl, rfl, rfl, rfl, rfl, rfl⟩) (by intro o; go_simp)
  obtain ⟨s19, c19_0, c19_1, c19_2, c19_3, c19_4, c19_5, f19⟩ := L6 hb (w.heap.size + 1) (by first | omega | (simp only [sA, sC, sD, sE]; omega) | (simp; done) | (simp; omega)) (by go_simp; exact ⟨rfl, rfl, rfl, rfl, rfl, rfl⟩) (by intro o; go_simp)
  go_upto_region 2 with (fail)
  first | with_reducible refine wp_rebase ?_ | with_reducible refine wpList_rebase ?_
  intro w1 hb'
  have hb := hb'.out
  clear hb'
  obtain ⟨s20, c20_0, c20_1, c20_2, c20_3, c20_4, c20_5, f20⟩ := L6 hb (w.heap.size) (by first | omega | (simp only [sA, sC, sD, sE]; omega) | (simp; done) | (simp; omega)) (by go_simp; exact ⟨rfl, rfl, rfl, rfl, rfl, rfl⟩) (by intro o; go_simp)
  obtain ⟨s21, c21_0, c21_1, c21_2, c21_3, c21_4, c21_5, f21⟩ := L6 hb (w.heap.size + 1) (by first | omega | (simp only [sA, sC, sD, sE]; omega) | (simp; done) | (simp; omega)) (by go_simp; exact ⟨rfl, rfl, rfl, rfl, rfl, rfl⟩) (by intro o; go_simp)
  clear c18_0 c18_1 c18_2 c18_3 c18_4 c18_5 f18 c19_0 c19_1 c19_2 c19_3 c19_4 c19_5 f19
  go_wp2_with fail
  refine region_below 5 (by kernel_rfl) (by kernel_rfl) ?_
  simp only [List.take_succ_cons, List.take_zero, List.drop_succ_cons, List.drop_zero]
  repeat
    first | (refine q_run ?_ ?_; focus (go_simp; done)) | (refine q_skip ?_ ?_; focus (go_simp; done))
    try (apply Exists.intro; refine ⟨fun w' hw' => ?_, ?_⟩; focus (have hc := (bcell hw'.out).1; unfold Oper.quietAt; go_simp; (try go_ints); (first | rfl | (go_at_call 77; refine (value_Blank _).mono ?_; rintro e w2 ⟨rfl, hb⟩; exact ⟨rfl, hw'.chain hb⟩))))
    intro K hK
    go_simp
    refine hK _ ?_
    clear hK K
  refine wpQuiet_nil ?_
  intro w1 hb'
  have hb := hb'.out
  clear hb'
  obtain ⟨s22, c22_0, c22_1, c22_2, c22_3, c22_4, c22_5, f22⟩ := L6 hb (w.heap.size + 1) (by first | omega | (simp only [sA, sC, sD, sE]; omega) | (simp; done) | (simp; omega)) (by go_simp; exact ⟨rfl, rfl, rfl, rfl, rfl, rfl⟩) (by intro o; go_simp)
  clear c20_0 c20_1 c20_2 c20_3 c20_4 c20_5 f20 c21_0 c21_1 c21_2 c21_3 c21_4 c21_5 f21
  go_wp2
  refine bodyPost_ret (v := .tuple #[.bool R.b, .agg #[.int .i64 (R.e).k, .int .i64 (R.e).n, .int .i64 (R.e).d, .string (R.e).t, .bool (R.e).b, .int .i64 (R.e).f]]) (by rw [HF.out]; simp [results, Tryz.results59, go_sem, c22_0, c22_1, c22_2, c22_3, c22_4, c22_5]) rfl ⟨rfl, ?_⟩
  focus
    repeat with_reducible first | exact Below.refl _ _ | refine below_drewN ?_ _ | refine Below.drew ?_ | refine Below.setCell ?_ ?_ _ | refine Below.alloc ?_ ?_ _ | refine below_then ?_ ?_ (by with_reducible assumption)
    all_goals first | omega | (simp only [sA, sC, sD, sE]; omega) | (simp; done) | (simp; omega)

set_option maxRecDepth 100000 in
set_option maxHeartbeats 1000000 in
theorem asu_else (k n d : Int) (t : ByteArray) (b : Bool) (f : Int) (w : World) (v : Vl) (HT : Hid (∀ wx, Calls Tryz.prog 52 #[.agg #[.int .i64 k, .int .i64 n, .int .i64 d, .string t, .bool b, .int .i64 f]] wx fun e w' => e = .returned (.agg #[.int .i64 (v).k, .int .i64 (v).n, .int .i64 (v).d, .string (v).t, .bool (v).b, .int .i64 (v).f]) ∧ Below wx.heap.size wx w')) (hin : v.In) (h1 : ¬ v.k = 1) (h2 : ¬ v.k = 2) (h4 : ¬ v.k = 4) :
    Calls Tryz.prog 59 #[.agg #[.int .i64 k, .int .i64 n, .int .i64 d, .string t, .bool b, .int .i64 f]] w fun e w' => e = .returned (.tuple #[.bool (asTruT v).b, .agg #[.int .i64 ((asTruT v).e).k, .int .i64 ((asTruT v).e).n, .int .i64 ((asTruT v).e).d, .string ((asTruT v).e).t, .bool ((asTruT v).e).b, .int .i64 ((asTruT v).e).f]]) ∧ Below w.heap.size w w' := by
  have HF : Hid (asTruT v = ⟨v.b, blankV⟩) := by unfold Hid asTruT; rw [if_neg h4, if_neg h1, if_neg h2]
  have k1 : (v.k == 1) = false := by simp [h1]
  have k2 : (v.k == 2) = false := by simp [h2]
  have k4 : (v.k == 4) = false := by simp [h4]
  clear h1 h2 h4
  have hn := hin.n
  have hd := hin.d
  generalize asTruT v = R at *
  go_enter Tryz.func59, Tryz.ntmps59
  go_wp2_with fail
  refine (HT.out _).mono ?_
  rintro e w1 ⟨rfl, hb⟩
  obtain ⟨s23, c23_0, c23_1, c23_2, c23_3, c23_4, c23_5, f23⟩ := L6 hb (w.heap.size) (by first | omega | (simp only [sA, sC, sD, sE]; omega) | (simp; done) | (simp; omega)) (by go_simp; exact ⟨rfl, rfl, rfl, rfl, rfl, rfl⟩) (by intro o; go_simp)
  obtain ⟨s24, c24_0, c24_1, c24_2, c24_3, c24_4, c24_5, f24⟩ := L6 hb (w.heap.size + 1) (by first | omega | (simp only [sA, sC, sD, sE]; omega) | (simp; done) | (simp; omega)) (by go_simp; exact ⟨rfl, rfl, rfl, rfl, rfl, rfl⟩) (by intro o; go_simp)
  go_upto_region 2 with (fail)
  first | with_reducible refine wp_rebase ?_ | with_reducible refine wpList_rebase ?_
  intro w1 hb'
  have hb := hb'.out
  clear hb'
  obtain ⟨s25, c25_0, c25_1, c25_2, c25_3, c25_4, c25_5, f25⟩ := L6 hb (w.heap.size) (by first | omega | (simp only [sA, sC, sD, sE]; omega) | (simp; done) | (simp; omega)) (by go_simp; exact ⟨rfl, rfl, rfl, rfl, rfl, rfl⟩) (by intro o; go_simp)
  obtain ⟨s26, c26_0, c26_1, c26_2, c26_3, c26_4, c26_5, f26⟩ := L6 hb (w.heap.size + 1) (by first | omega | (simp only [sA, sC, sD, sE]; omega) | (simp; done) | (simp; omega)) (by go_simp; exact ⟨rfl, rfl, rfl, rfl, rfl, rfl⟩) (by intro o; go_simp)
  clear c23_0 c23_1 c23_2 c23_3 c23_4 c23_5 f23 c24_0 c24_1 c24_2 c24_3 c24_4 c24_5 f24
  go_wp2_with fail
  refine region_below 3 (by kernel_rfl) (by kernel_rfl) ?_
  simp only [List.take_succ_cons, List.take_zero, List.drop_succ_cons, List.drop_zero]
  repeat
    first | (refine q_run ?_ ?_; focus (go_simp; done)) | (refine q_skip ?_ ?_; focus (go_simp; done))
    try (apply Exists.intro; refine ⟨fun w' hw' => ?_, ?_⟩; focus (have hc := (bcell hw'.out).1; unfold Oper.quietAt; go_simp; (try go_ints); (first | rfl | (go_at_call 77; refine (value_Blank _).mono ?_; rintro e w2 ⟨rfl, hb⟩; exact ⟨rfl, hw'.chain hb⟩))))
    intro K hK
    go_simp
    refine hK _ ?_
    clear hK K
  refine wpQuiet_nil ?_
  intro w1 hb'
  have hb := hb'.out
  clear hb'
  obtain ⟨s27, c27_0, c27_1, c27_2, c27_3, c27_4, c27_5, f27⟩ := L6 hb (w.heap.size + 1) (by first | omega | (simp only [sA, sC, sD, sE]; omega) | (simp; done) | (simp; omega)) (by go_simp; exact ⟨rfl, rfl, rfl, rfl, rfl, rfl⟩) (by intro o; go_simp)
  clear c25_0 c25_1 c25_2 c25_3 c25_4 c25_5 f25 c26_0 c26_1 c26_2 c26_3 c26_4 c26_5 f26
  go_wp2
  refine bodyPost_ret (v := .tuple #[.bool R.b, .agg #[.int .i64 (R.e).k, .int .i64 (R.e).n, .int .i64 (R.e).d, .string (R.e).t, .bool (R.e).b, .int .i64 (R.e).f]]) (by rw [HF.out]; simp [results, Tryz.results59, go_sem, c27_0, c27_1, c27_2, c27_3, c27_4, c27_5]) rfl ⟨rfl, ?_⟩
  focus
    repeat with_reducible first | exact Below.refl _ _ | refine below_drewN ?_ _ | refine Below.drew ?_ | refine Below.setCell ?_ ?_ _ | refine Below.alloc ?_ ?_ _ | refine below_then ?_ ?_ (by with_reducible assumption)
    all_goals first | omega | (simp only [sA, sC, sD, sE]; omega) | (simp; done) | (simp; omega)

set_option maxRecDepth 100000 in
set_option maxHeartbeats 1000000 in
theorem asu_fault (k n d : Int) (t : ByteArray) (b : Bool) (f : Int) (w : World) (v : Vl) (HT : Hid (∀ wx, Calls Tryz.prog 52 #[.agg #[.int .i64 k, .int .i64 n, .int .i64 d, .string t, .bool b, .int .i64 f]] wx fun e w' => e = .returned (.agg #[.int .i64 (v).k, .int .i64 (v).n, .int .i64 (v).d, .string (v).t, .bool (v).b, .int .i64 (v).f]) ∧ Below wx.heap.size wx w')) (hin : v.In) (hk : v.k = 4) :
    Calls Tryz.prog 59 #[.agg #[.int .i64 k, .int .i64 n, .int .i64 d, .string t, .bool b, .int .i64 f]] w fun e w' => e = .returned (.tuple #[.bool (asTruT v).b, .agg #[.int .i64 ((asTruT v).e).k, .int .i64 ((asTruT v).e).n, .int .i64 ((asTruT v).e).d, .string ((asTruT v).e).t, .bool ((asTruT v).e).b, .int .i64 ((asTruT v).e).f]]) ∧ Below w.heap.size w w' := by
  have HF : Hid (asTruT v = ⟨false, v⟩) := by unfold Hid asTruT; rw [if_pos hk]
  have k1 : (v.k == 1) = false := by simp [hk]
  have k2 : (v.k == 2) = false := by simp [hk]
  have k3 : (v.k == 3) = false := by simp [hk]
  have k4 : (v.k == 4) = true := by simp [hk]
  clear hk
  have hn := hin.n
  have hd := hin.d
  generalize asTruT v = R at *
  go_enter Tryz.func59, Tryz.ntmps59
  go_wp2_with fail
  refine (HT.out _).mono ?_
  rintro e w1 ⟨rfl, hb⟩
  obtain ⟨s28, c28_0, c28_1, c28_2, c28_3, c28_4, c28_5, f28⟩ := L6 hb (w.heap.size) (by first | omega | (simp only [sA, sC, sD, sE]; omega) | (simp; done) | (simp; omega)) (by go_simp; exact ⟨rfl, rfl, rfl, rfl, rfl, rfl⟩) (by intro o; go_simp)
  obtain ⟨s29, c29_0, c29_1, c29_2, c29_3, c29_4, c29_5, f29⟩ := L6 hb (w.heap.size + 1) (by first | omega | (simp only [sA, sC, sD, sE]; omega) | (simp; done) | (simp; omega)) (by go_simp; exact ⟨rfl, rfl, rfl, rfl, rfl, rfl⟩) (by intro o; go_simp)
  go_upto_region 4 with (fail)
  first | with_reducible refine wp_rebase ?_ | with_reducible refine wpList_rebase ?_
  intro w1 hb'
  have hb := hb'.out
  clear hb'
  obtain ⟨s30, c30_0, c30_1, c30_2, c30_3, c30_4, c30_5, f30⟩ := L6 hb (w.heap.size) (by first | omega | (simp only [sA, sC, sD, sE]; omega) | (simp; done) | (simp; omega)) (by go_simp; exact ⟨rfl, rfl, rfl, rfl, rfl, rfl⟩) (by intro o; go_simp)
  obtain ⟨s31, c31_0, c31_1, c31_2, c31_3, c31_4, c31_5, f31⟩ := L6 hb (w.heap.size + 1) (by first | omega | (simp only [sA, sC, sD, sE]; omega) | (simp; done) | (simp; omega)) (by go_simp; exact ⟨rfl, rfl, rfl, rfl, rfl, rfl⟩) (by intro o; go_simp)
  clear c28_0 c28_1 c28_2 c28_3 c28_4 c28_5 f28 c29_0 c29_1 c29_2 c29_3 c29_4 c29_5 f29
  go_region_held3 (fun w' => w'.cell? ⟨w.heap.size, 0, none⟩ = some (.int .i64 v.k) ∧ w'.cell? ⟨w.heap.size, 1, none⟩ = some (.int .i64 v.n) ∧ w'.cell? ⟨w.heap.size, 2, none⟩ = some (.int .i64 v.d) ∧ w'.cell? ⟨w.heap.size, 3, none⟩ = some (.string v.t) ∧ w'.cell? ⟨w.heap.size, 4, none⟩ = some (.bool v.b) ∧ w'.cell? ⟨w.heap.size, 5, none⟩ = some (.int .i64 v.f)) ((first | (refine ⟨?_, ?_, ?_, ?_, ?_, ?_⟩ <;> (go_simp; done)) | go_keep)) (fail)
  rename_i kK kA hHeld
  clear hHeld
  go_wp2
  refine bodyPost_ret (v := .tuple #[.bool R.b, .agg #[.int .i64 (R.e).k, .int .i64 (R.e).n, .int .i64 (R.e).d, .string (R.e).t, .bool (R.e).b, .int .i64 (R.e).f]]) (by rw [HF.out]; simp [results, Tryz.results59, go_sem, c30_0, c30_1, c30_2, c30_3, c30_4, c30_5, c31_0, c31_1, c31_2, c31_3, c31_4, c31_5]) rfl ⟨rfl, ?_⟩
  focus
    repeat with_reducible first | exact Below.refl _ _ | refine below_drewN ?_ _ | refine Below.drew ?_ | refine Below.setCell ?_ ?_ _ | refine Below.alloc ?_ ?_ _ | refine below_then ?_ ?_ (by with_reducible assumption)
    all_goals first | omega | (simp only [sA, sC, sD, sE]; omega) | (simp; done) | (simp; omega)

set_option maxRecDepth 100000 in
set_option maxHeartbeats 1000000 in
theorem asu_yes (k n d : Int) (t : ByteArray) (b : Bool) (f : Int) (w : World) (v : Vl) (HT : Hid (∀ wx, Calls Tryz.prog 52 #[.agg #[.int .i64 k, .int .i64 n, .int .i64 d, .string t, .bool b, .int .i64 f]] wx fun e w' => e = .returned (.agg #[.int .i64 (v).k, .int .i64 (v).n, .int .i64 (v).d, .string (v).t, .bool (v).b, .int .i64 (v).f]) ∧ Below wx.heap.size wx w')) (hin : v.In) (hk : v.k = 2) (ha : v.t = wordT true) :
    Calls Tryz.prog 59 #[.agg #[.int .i64 k, .int .i64 n, .int .i64 d, .string t, .bool b, .int .i64 f]] w fun e w' => e = .returned (.tuple #[.bool (asTruT v).b, .agg #[.int .i64 ((asTruT v).e).k, .int .i64 ((asTruT v).e).n, .int .i64 ((asTruT v).e).d, .string ((asTruT v).e).t, .bool ((asTruT v).e).b, .int .i64 ((asTruT v).e).f]]) ∧ Below w.heap.size w w' := by
  have HF : Hid (asTruT v = ⟨true, blankV⟩) := by unfold Hid asTruT; rw [if_neg (by omega), if_neg (by omega), if_pos hk, if_pos ha]
  have k1 : (v.k == 1) = false := by simp [hk]
  have k2 : (v.k == 2) = true := by simp [hk]
  have k3 : (v.k == 3) = false := by simp [hk]
  have k4 : (v.k == 4) = false := by simp [hk]
  clear hk
  have VF : Hid (∀ wx : World, Calls Tryz.prog 34 #[.int .i64 2] wx fun e w' => e = .returned (.agg #[.int .i64 (faultV 2).k, .int .i64 (faultV 2).n, .int .i64 (faultV 2).d, .string (faultV 2).t, .bool (faultV 2).b, .int .i64 (faultV 2).f]) ∧ Below wx.heap.size wx w') := fun wx => value_Fault 2 wx
  have W1 := Lib.hid fun wx => value_word true wx
  have W0 := Lib.hid fun wx => value_word false wx
  generalize wordT true = WT at *
  generalize wordT false = WF at *
  have fWT : (v.t.toList == WT.toList) = true := tl_yes (by assumption)
  clear ha
  have hn := hin.n
  have hd := hin.d
  generalize asTruT v = R at *
  go_enter Tryz.func59, Tryz.ntmps59
  go_wp2_with fail
  refine (HT.out _).mono ?_
  rintro e w1 ⟨rfl, hb⟩
  obtain ⟨s32, c32_0, c32_1, c32_2, c32_3, c32_4, c32_5, f32⟩ := L6 hb (w.heap.size) (by first | omega | (simp only [sA, sC, sD, sE]; omega) | (simp; done) | (simp; omega)) (by go_simp; exact ⟨rfl, rfl, rfl, rfl, rfl, rfl⟩) (by intro o; go_simp)
  obtain ⟨s33, c33_0, c33_1, c33_2, c33_3, c33_4, c33_5, f33⟩ := L6 hb (w.heap.size + 1) (by first | omega | (simp only [sA, sC, sD, sE]; omega) | (simp; done) | (simp; omega)) (by go_simp; exact ⟨rfl, rfl, rfl, rfl, rfl, rfl⟩) (by intro o; go_simp)
  go_upto_region 8 with (fail)
  first | with_reducible refine wp_rebase ?_ | with_reducible refine wpList_rebase ?_
  intro w1 hb'
  have hb := hb'.out
  clear hb'
  obtain ⟨s34, c34_0, c34_1, c34_2, c34_3, c34_4, c34_5, f34⟩ := L6 hb (w.heap.size) (by first | omega | (simp only [sA, sC, sD, sE]; omega) | (simp; done) | (simp; omega)) (by go_simp; exact ⟨rfl, rfl, rfl, rfl, rfl, rfl⟩) (by intro o; go_simp)
  obtain ⟨s35, c35_0, c35_1, c35_2, c35_3, c35_4, c35_5, f35⟩ := L6 hb (w.heap.size + 1) (by first | omega | (simp only [sA, sC, sD, sE]; omega) | (simp; done) | (simp; omega)) (by go_simp; exact ⟨rfl, rfl, rfl, rfl, rfl, rfl⟩) (by intro o; go_simp)
  clear c32_0 c32_1 c32_2 c32_3 c32_4 c32_5 f32 c33_0 c33_1 c33_2 c33_3 c33_4 c33_5 f33
  refine region_below_all (by kernel_rfl) (by kernel_rfl) ?_
  repeat
    first | (refine q_run ?_ ?_; focus (go_simp; done)) | (refine q_skip ?_ ?_; focus (go_simp; done))
    try (apply Exists.intro; refine ⟨fun w' hw' => ?_, ?_⟩; focus (have hc := (bcell hw'.out).1; unfold Oper.quietAt; go_simp; (try go_ints); (first | rfl | (go_at_call 78; refine (W1.out _).mono ?_; rintro e w2 ⟨rfl, hb⟩; exact ⟨rfl, hw'.same hb⟩) | (go_at_call 78; refine (W0.out _).mono ?_; rintro e w2 ⟨rfl, hb⟩; exact ⟨rfl, hw'.same hb⟩))))
    intro K hK
    go_simp
    refine hK _ ?_
    clear hK K
  refine wpQuiet_nil ?_
  intro w1 hb'
  have hb := hb'.out
  clear hb'
  obtain ⟨s36, c36_0, c36_1, c36_2, c36_3, c36_4, c36_5, f36⟩ := L6 hb (w.heap.size) (by first | omega | (simp only [sA, sC, sD, sE]; omega) | (simp; done) | (simp; omega)) (by go_simp; exact ⟨rfl, rfl, rfl, rfl, rfl, rfl⟩) (by intro o; go_simp)
  obtain ⟨s37, c37_0, c37_1, c37_2, c37_3, c37_4, c37_5, f37⟩ := L6 hb (w.heap.size + 1) (by first | omega | (simp only [sA, sC, sD, sE]; omega) | (simp; done) | (simp; omega)) (by go_simp; exact ⟨rfl, rfl, rfl, rfl, rfl, rfl⟩) (by intro o; go_simp)
  clear c34_0 c34_1 c34_2 c34_3 c34_4 c34_5 f34 c35_0 c35_1 c35_2 c35_3 c35_4 c35_5 f35
  go_upto_region 10 with (fail)
  first | with_reducible refine wp_rebase ?_ | with_reducible refine wpList_rebase ?_
  intro w1 hb'
  have hb := hb'.out
  clear hb'
  obtain ⟨s38, c38_0, c38_1, c38_2, c38_3, c38_4, c38_5, f38⟩ := L6 hb (w.heap.size) (by first | omega | (simp only [sA, sC, sD, sE]; omega) | (simp; done) | (simp; omega)) (by go_simp; exact ⟨rfl, rfl, rfl, rfl, rfl, rfl⟩) (by intro o; go_simp)
  obtain ⟨s39, c39_0, c39_1, c39_2, c39_3, c39_4, c39_5, f39⟩ := L6 hb (w.heap.size + 1) (by first | omega | (simp only [sA, sC, sD, sE]; omega) | (simp; done) | (simp; omega)) (by go_simp; exact ⟨rfl, rfl, rfl, rfl, rfl, rfl⟩) (by intro o; go_simp)
  clear c36_0 c36_1 c36_2 c36_3 c36_4 c36_5 f36 c37_0 c37_1 c37_2 c37_3 c37_4 c37_5 f37
  refine region_below 5 (by kernel_rfl) (by kernel_rfl) ?_
  simp only [List.take_succ_cons, List.take_zero, List.drop_succ_cons, List.drop_zero]
  repeat
    first | (refine q_run ?_ ?_; focus (go_simp; done)) | (refine q_skip ?_ ?_; focus (go_simp; done))
    try (apply Exists.intro; refine ⟨fun w' hw' => ?_, ?_⟩; focus (have hc := (bcell hw'.out).1; unfold Oper.quietAt; go_simp; (try go_ints); (first | rfl | (go_at_call 78; refine (W1.out _).mono ?_; rintro e w2 ⟨rfl, hb⟩; exact ⟨rfl, hw'.same hb⟩) | (go_at_call 77; refine (value_Blank _).mono ?_; rintro e w2 ⟨rfl, hb⟩; exact ⟨rfl, hw'.chain hb⟩))))
    intro K hK
    go_simp
    refine hK _ ?_
    clear hK K
  refine wpQuiet_nil ?_
  intro w1 hb'
  have hb := hb'.out
  clear hb'
  obtain ⟨s40, c40_0, c40_1, c40_2, c40_3, c40_4, c40_5, f40⟩ := L6 hb (w.heap.size + 1) (by first | omega | (simp only [sA, sC, sD, sE]; omega) | (simp; done) | (simp; omega)) (by go_simp; exact ⟨rfl, rfl, rfl, rfl, rfl, rfl⟩) (by intro o; go_simp)
  clear c38_0 c38_1 c38_2 c38_3 c38_4 c38_5 f38 c39_0 c39_1 c39_2 c39_3 c39_4 c39_5 f39
  go_wp2
  refine bodyPost_ret (v := .tuple #[.bool R.b, .agg #[.int .i64 (R.e).k, .int .i64 (R.e).n, .int .i64 (R.e).d, .string (R.e).t, .bool (R.e).b, .int .i64 (R.e).f]]) (by rw [HF.out]; simp [results, Tryz.results59, go_sem, c40_0, c40_1, c40_2, c40_3, c40_4, c40_5]) rfl ⟨rfl, ?_⟩
  focus
    repeat with_reducible first | exact Below.refl _ _ | refine below_drewN ?_ _ | refine Below.drew ?_ | refine Below.setCell ?_ ?_ _ | refine Below.alloc ?_ ?_ _ | refine below_then ?_ ?_ (by with_reducible assumption)
    all_goals first | omega | (simp only [sA, sC, sD, sE]; omega) | (simp; done) | (simp; omega)

set_option maxRecDepth 100000 in
set_option maxHeartbeats 1000000 in
theorem asu_no (k n d : Int) (t : ByteArray) (b : Bool) (f : Int) (w : World) (v : Vl) (HT : Hid (∀ wx, Calls Tryz.prog 52 #[.agg #[.int .i64 k, .int .i64 n, .int .i64 d, .string t, .bool b, .int .i64 f]] wx fun e w' => e = .returned (.agg #[.int .i64 (v).k, .int .i64 (v).n, .int .i64 (v).d, .string (v).t, .bool (v).b, .int .i64 (v).f]) ∧ Below wx.heap.size wx w')) (hin : v.In) (hk : v.k = 2) (ha : ¬ v.t = wordT true) (hb0 : v.t = wordT false) :
    Calls Tryz.prog 59 #[.agg #[.int .i64 k, .int .i64 n, .int .i64 d, .string t, .bool b, .int .i64 f]] w fun e w' => e = .returned (.tuple #[.bool (asTruT v).b, .agg #[.int .i64 ((asTruT v).e).k, .int .i64 ((asTruT v).e).n, .int .i64 ((asTruT v).e).d, .string ((asTruT v).e).t, .bool ((asTruT v).e).b, .int .i64 ((asTruT v).e).f]]) ∧ Below w.heap.size w w' := by
  have HF : Hid (asTruT v = ⟨false, blankV⟩) := by unfold Hid asTruT; rw [if_neg (by omega), if_neg (by omega), if_pos hk, if_neg ha, if_pos hb0]
  have k1 : (v.k == 1) = false := by simp [hk]
  have k2 : (v.k == 2) = true := by simp [hk]
  have k3 : (v.k == 3) = false := by simp [hk]
  have k4 : (v.k == 4) = false := by simp [hk]
  clear hk
  have VF : Hid (∀ wx : World, Calls Tryz.prog 34 #[.int .i64 2] wx fun e w' => e = .returned (.agg #[.int .i64 (faultV 2).k, .int .i64 (faultV 2).n, .int .i64 (faultV 2).d, .string (faultV 2).t, .bool (faultV 2).b, .int .i64 (faultV 2).f]) ∧ Below wx.heap.size wx w') := fun wx => value_Fault 2 wx
  have W1 := Lib.hid fun wx => value_word true wx
  have W0 := Lib.hid fun wx => value_word false wx
  generalize wordT true = WT at *
  generalize wordT false = WF at *
  have fWT : (v.t.toList == WT.toList) = false := tl_no (by assumption)
  have fWF : (v.t.toList == WF.toList) = true := tl_yes (by assumption)
  clear ha hb0
  have hn := hin.n
  have hd := hin.d
  generalize asTruT v = R at *
  go_enter Tryz.func59, Tryz.ntmps59
  go_wp2_with fail
  refine (HT.out _).mono ?_
  rintro e w1 ⟨rfl, hb⟩
  obtain ⟨s41, c41_0, c41_1, c41_2, c41_3, c41_4, c41_5, f41⟩ := L6 hb (w.heap.size) (by first | omega | (simp only [sA, sC, sD, sE]; omega) | (simp; done) | (simp; omega)) (by go_simp; exact ⟨rfl, rfl, rfl, rfl, rfl, rfl⟩) (by intro o; go_simp)
  obtain ⟨s42, c42_0, c42_1, c42_2, c42_3, c42_4, c42_5, f42⟩ := L6 hb (w.heap.size + 1) (by first | omega | (simp only [sA, sC, sD, sE]; omega) | (simp; done) | (simp; omega)) (by go_simp; exact ⟨rfl, rfl, rfl, rfl, rfl, rfl⟩) (by intro o; go_simp)
  go_upto_region 8 with (fail)
  first | with_reducible refine wp_rebase ?_ | with_reducible refine wpList_rebase ?_
  intro w1 hb'
  have hb := hb'.out
  clear hb'
  obtain ⟨s43, c43_0, c43_1, c43_2, c43_3, c43_4, c43_5, f43⟩ := L6 hb (w.heap.size) (by first | omega | (simp only [sA, sC, sD, sE]; omega) | (simp; done) | (simp; omega)) (by go_simp; exact ⟨rfl, rfl, rfl, rfl, rfl, rfl⟩) (by intro o; go_simp)
  obtain ⟨s44, c44_0, c44_1, c44_2, c44_3, c44_4, c44_5, f44⟩ := L6 hb (w.heap.size + 1) (by first | omega | (simp only [sA, sC, sD, sE]; omega) | (simp; done) | (simp; omega)) (by go_simp; exact ⟨rfl, rfl, rfl, rfl, rfl, rfl⟩) (by intro o; go_simp)
  clear c41_0 c41_1 c41_2 c41_3 c41_4 c41_5 f41 c42_0 c42_1 c42_2 c42_3 c42_4 c42_5 f42
  refine region_below_all (by kernel_rfl) (by kernel_rfl) ?_
  repeat
    first | (refine q_run ?_ ?_; focus (go_simp; done)) | (refine q_skip ?_ ?_; focus (go_simp; done))
    try (apply Exists.intro; refine ⟨fun w' hw' => ?_, ?_⟩; focus (have hc := (bcell hw'.out).1; unfold Oper.quietAt; go_simp; (try go_ints); (first | rfl | (go_at_call 78; refine (W1.out _).mono ?_; rintro e w2 ⟨rfl, hb⟩; exact ⟨rfl, hw'.same hb⟩) | (go_at_call 78; refine (W0.out _).mono ?_; rintro e w2 ⟨rfl, hb⟩; exact ⟨rfl, hw'.same hb⟩))))
    intro K hK
    go_simp
    refine hK _ ?_
    clear hK K
  refine wpQuiet_nil ?_
  intro w1 hb'
  have hb := hb'.out
  clear hb'
  obtain ⟨s45, c45_0, c45_1, c45_2, c45_3, c45_4, c45_5, f45⟩ := L6 hb (w.heap.size) (by first | omega | (simp only [sA, sC, sD, sE]; omega) | (simp; done) | (simp; omega)) (by go_simp; exact ⟨rfl, rfl, rfl, rfl, rfl, rfl⟩) (by intro o; go_simp)
  obtain ⟨s46, c46_0, c46_1, c46_2, c46_3, c46_4, c46_5, f46⟩ := L6 hb (w.heap.size + 1) (by first | omega | (simp only [sA, sC, sD, sE]; omega) | (simp; done) | (simp; omega)) (by go_simp; exact ⟨rfl, rfl, rfl, rfl, rfl, rfl⟩) (by intro o; go_simp)
  clear c43_0 c43_1 c43_2 c43_3 c43_4 c43_5 f43 c44_0 c44_1 c44_2 c44_3 c44_4 c44_5 f44
  go_upto_region 10 with (fail)
  first | with_reducible refine wp_rebase ?_ | with_reducible refine wpList_rebase ?_
  intro w1 hb'
  have hb := hb'.out
  clear hb'
  obtain ⟨s47, c47_0, c47_1, c47_2, c47_3, c47_4, c47_5, f47⟩ := L6 hb (w.heap.size) (by first | omega | (simp only [sA, sC, sD, sE]; omega) | (simp; done) | (simp; omega)) (by go_simp; exact ⟨rfl, rfl, rfl, rfl, rfl, rfl⟩) (by intro o; go_simp)
  obtain ⟨s48, c48_0, c48_1, c48_2, c48_3, c48_4, c48_5, f48⟩ := L6 hb (w.heap.size + 1) (by first | omega | (simp only [sA, sC, sD, sE]; omega) | (simp; done) | (simp; omega)) (by go_simp; exact ⟨rfl, rfl, rfl, rfl, rfl, rfl⟩) (by intro o; go_simp)
  clear c45_0 c45_1 c45_2 c45_3 c45_4 c45_5 f45 c46_0 c46_1 c46_2 c46_3 c46_4 c46_5 f46
  refine region_below 5 (by kernel_rfl) (by kernel_rfl) ?_
  simp only [List.take_succ_cons, List.take_zero, List.drop_succ_cons, List.drop_zero]
  repeat
    first | (refine q_run ?_ ?_; focus (go_simp; done)) | (refine q_skip ?_ ?_; focus (go_simp; done))
    try (apply Exists.intro; refine ⟨fun w' hw' => ?_, ?_⟩; focus (have hc := (bcell hw'.out).1; unfold Oper.quietAt; go_simp; (try go_ints); (first | rfl | (go_at_call 78; refine (W1.out _).mono ?_; rintro e w2 ⟨rfl, hb⟩; exact ⟨rfl, hw'.same hb⟩) | (go_at_call 77; refine (value_Blank _).mono ?_; rintro e w2 ⟨rfl, hb⟩; exact ⟨rfl, hw'.chain hb⟩))))
    intro K hK
    go_simp
    refine hK _ ?_
    clear hK K
  refine wpQuiet_nil ?_
  intro w1 hb'
  have hb := hb'.out
  clear hb'
  obtain ⟨s49, c49_0, c49_1, c49_2, c49_3, c49_4, c49_5, f49⟩ := L6 hb (w.heap.size + 1) (by first | omega | (simp only [sA, sC, sD, sE]; omega) | (simp; done) | (simp; omega)) (by go_simp; exact ⟨rfl, rfl, rfl, rfl, rfl, rfl⟩) (by intro o; go_simp)
  clear c47_0 c47_1 c47_2 c47_3 c47_4 c47_5 f47 c48_0 c48_1 c48_2 c48_3 c48_4 c48_5 f48
  go_wp2
  refine bodyPost_ret (v := .tuple #[.bool R.b, .agg #[.int .i64 (R.e).k, .int .i64 (R.e).n, .int .i64 (R.e).d, .string (R.e).t, .bool (R.e).b, .int .i64 (R.e).f]]) (by rw [HF.out]; simp [results, Tryz.results59, go_sem, c49_0, c49_1, c49_2, c49_3, c49_4, c49_5]) rfl ⟨rfl, ?_⟩
  focus
    repeat with_reducible first | exact Below.refl _ _ | refine below_drewN ?_ _ | refine Below.drew ?_ | refine Below.setCell ?_ ?_ _ | refine Below.alloc ?_ ?_ _ | refine below_then ?_ ?_ (by with_reducible assumption)
    all_goals first | omega | (simp only [sA, sC, sD, sE]; omega) | (simp; done) | (simp; omega)

set_option maxRecDepth 100000 in
set_option maxHeartbeats 1000000 in
theorem asu_odd (k n d : Int) (t : ByteArray) (b : Bool) (f : Int) (w : World) (v : Vl) (HT : Hid (∀ wx, Calls Tryz.prog 52 #[.agg #[.int .i64 k, .int .i64 n, .int .i64 d, .string t, .bool b, .int .i64 f]] wx fun e w' => e = .returned (.agg #[.int .i64 (v).k, .int .i64 (v).n, .int .i64 (v).d, .string (v).t, .bool (v).b, .int .i64 (v).f]) ∧ Below wx.heap.size wx w')) (hin : v.In) (hk : v.k = 2) (ha : ¬ v.t = wordT true) (hb0 : ¬ v.t = wordT false) :
    Calls Tryz.prog 59 #[.agg #[.int .i64 k, .int .i64 n, .int .i64 d, .string t, .bool b, .int .i64 f]] w fun e w' => e = .returned (.tuple #[.bool (asTruT v).b, .agg #[.int .i64 ((asTruT v).e).k, .int .i64 ((asTruT v).e).n, .int .i64 ((asTruT v).e).d, .string ((asTruT v).e).t, .bool ((asTruT v).e).b, .int .i64 ((asTruT v).e).f]]) ∧ Below w.heap.size w w' := by
  have HF : Hid (asTruT v = ⟨false, faultV 2⟩) := by unfold Hid asTruT; rw [if_neg (by omega), if_neg (by omega), if_pos hk, if_neg ha, if_neg hb0]
  have k1 : (v.k == 1) = false := by simp [hk]
  have k2 : (v.k == 2) = true := by simp [hk]
  have k3 : (v.k == 3) = false := by simp [hk]
  have k4 : (v.k == 4) = false := by simp [hk]
  clear hk
  have VF : Hid (∀ wx : World, Calls Tryz.prog 34 #[.int .i64 2] wx fun e w' => e = .returned (.agg #[.int .i64 (faultV 2).k, .int .i64 (faultV 2).n, .int .i64 (faultV 2).d, .string (faultV 2).t, .bool (faultV 2).b, .int .i64 (faultV 2).f]) ∧ Below wx.heap.size wx w') := fun wx => value_Fault 2 wx
  have W1 := Lib.hid fun wx => value_word true wx
  have W0 := Lib.hid fun wx => value_word false wx
  generalize wordT true = WT at *
  generalize wordT false = WF at *
  have fWT : (v.t.toList == WT.toList) = false := tl_no (by assumption)
  have fWF : (v.t.toList == WF.toList) = false := tl_no (by assumption)
  clear ha hb0
  have hn := hin.n
  have hd := hin.d
  generalize asTruT v = R at *
  go_enter Tryz.func59, Tryz.ntmps59
  go_wp2_with fail
  refine (HT.out _).mono ?_
  rintro e w1 ⟨rfl, hb⟩
  obtain ⟨s50, c50_0, c50_1, c50_2, c50_3, c50_4, c50_5, f50⟩ := L6 hb (w.heap.size) (by first | omega | (simp only [sA, sC, sD, sE]; omega) | (simp; done) | (simp; omega)) (by go_simp; exact ⟨rfl, rfl, rfl, rfl, rfl, rfl⟩) (by intro o; go_simp)
  obtain ⟨s51, c51_0, c51_1, c51_2, c51_3, c51_4, c51_5, f51⟩ := L6 hb (w.heap.size + 1) (by first | omega | (simp only [sA, sC, sD, sE]; omega) | (simp; done) | (simp; omega)) (by go_simp; exact ⟨rfl, rfl, rfl, rfl, rfl, rfl⟩) (by intro o; go_simp)
  go_upto_region 8 with (fail)
  first | with_reducible refine wp_rebase ?_ | with_reducible refine wpList_rebase ?_
  intro w1 hb'
  have hb := hb'.out
  clear hb'
  obtain ⟨s52, c52_0, c52_1, c52_2, c52_3, c52_4, c52_5, f52⟩ := L6 hb (w.heap.size) (by first | omega | (simp only [sA, sC, sD, sE]; omega) | (simp; done) | (simp; omega)) (by go_simp; exact ⟨rfl, rfl, rfl, rfl, rfl, rfl⟩) (by intro o; go_simp)
  obtain ⟨s53, c53_0, c53_1, c53_2, c53_3, c53_4, c53_5, f53⟩ := L6 hb (w.heap.size + 1) (by first | omega | (simp only [sA, sC, sD, sE]; omega) | (simp; done) | (simp; omega)) (by go_simp; exact ⟨rfl, rfl, rfl, rfl, rfl, rfl⟩) (by intro o; go_simp)
  clear c50_0 c50_1 c50_2 c50_3 c50_4 c50_5 f50 c51_0 c51_1 c51_2 c51_3 c51_4 c51_5 f51
  refine region_below_all (by kernel_rfl) (by kernel_rfl) ?_
  repeat
    first | (refine q_run ?_ ?_; focus (go_simp; done)) | (refine q_skip ?_ ?_; focus (go_simp; done))
    try (apply Exists.intro; refine ⟨fun w' hw' => ?_, ?_⟩; focus (have hc := (bcell hw'.out).1; unfold Oper.quietAt; go_simp; (try go_ints); (first | rfl | (go_at_call 78; refine (W1.out _).mono ?_; rintro e w2 ⟨rfl, hb⟩; exact ⟨rfl, hw'.same hb⟩) | (go_at_call 78; refine (W0.out _).mono ?_; rintro e w2 ⟨rfl, hb⟩; exact ⟨rfl, hw'.same hb⟩))))
    intro K hK
    go_simp
    refine hK _ ?_
    clear hK K
  refine wpQuiet_nil ?_
  intro w1 hb'
  have hb := hb'.out
  clear hb'
  obtain ⟨s54, c54_0, c54_1, c54_2, c54_3, c54_4, c54_5, f54⟩ := L6 hb (w.heap.size) (by first | omega | (simp only [sA, sC, sD, sE]; omega) | (simp; done) | (simp; omega)) (by go_simp; exact ⟨rfl, rfl, rfl, rfl, rfl, rfl⟩) (by intro o; go_simp)
  obtain ⟨s55, c55_0, c55_1, c55_2, c55_3, c55_4, c55_5, f55⟩ := L6 hb (w.heap.size + 1) (by first | omega | (simp only [sA, sC, sD, sE]; omega) | (simp; done) | (simp; omega)) (by go_simp; exact ⟨rfl, rfl, rfl, rfl, rfl, rfl⟩) (by intro o; go_simp)
  clear c52_0 c52_1 c52_2 c52_3 c52_4 c52_5 f52 c53_0 c53_1 c53_2 c53_3 c53_4 c53_5 f53
  go_wp2_with fail
  refine (VF.out _).mono ?_
  rintro e w3 ⟨rfl, hb⟩
  obtain ⟨s56, c56_0, c56_1, c56_2, c56_3, c56_4, c56_5, f56⟩ := L6 hb (w.heap.size + 1) (by first | omega | (simp only [sA, sC, sD, sE]; omega) | (simp; done) | (simp; omega)) (by go_simp; exact ⟨rfl, rfl, rfl, rfl, rfl, rfl⟩) (by intro o; go_simp)
  clear c54_0 c54_1 c54_2 c54_3 c54_4 c54_5 f54 c55_0 c55_1 c55_2 c55_3 c55_4 c55_5 f55
  go_wp2
  refine bodyPost_ret (v := .tuple #[.bool R.b, .agg #[.int .i64 (R.e).k, .int .i64 (R.e).n, .int .i64 (R.e).d, .string (R.e).t, .bool (R.e).b, .int .i64 (R.e).f]]) (by rw [HF.out]; simp [results, Tryz.results59, go_sem, c56_0, c56_1, c56_2, c56_3, c56_4, c56_5]) rfl ⟨rfl, ?_⟩
  focus
    repeat with_reducible first | exact Below.refl _ _ | refine below_drewN ?_ _ | refine Below.drew ?_ | refine Below.setCell ?_ ?_ _ | refine Below.alloc ?_ ?_ _ | refine below_then ?_ ?_ (by with_reducible assumption)
    all_goals first | omega | (simp only [sA, sC, sD, sE]; omega) | (simp; done) | (simp; omega)

theorem value_AsText (k n d : Int) (t : ByteArray) (b : Bool) (f : Int) (w : World) (hx : Vl.In ⟨k, n, d, t, b, f⟩) (hp : Pow10 w) :
    Calls Tryz.prog 55 #[.agg #[.int .i64 k, .int .i64 n, .int .i64 d, .string t, .bool b, .int .i64 f]] w fun e w' => e = .returned (.tuple #[.string (asTxt ⟨k, n, d, t, b, f⟩).t, .agg #[.int .i64 ((asTxt ⟨k, n, d, t, b, f⟩).e).k, .int .i64 ((asTxt ⟨k, n, d, t, b, f⟩).e).n, .int .i64 ((asTxt ⟨k, n, d, t, b, f⟩).e).d, .string ((asTxt ⟨k, n, d, t, b, f⟩).e).t, .bool ((asTxt ⟨k, n, d, t, b, f⟩).e).b, .int .i64 ((asTxt ⟨k, n, d, t, b, f⟩).e).f]]) ∧ Below w.heap.size w w' := by
  have hv := tkV_right ⟨k, n, d, t, b, f⟩
  have HT := Lib.hid fun wx => value_taken k n d t b f wx hx
  show Calls _ _ _ _ fun e w' => e = .returned (.tuple #[.string (asTxtT (tkV ⟨k, n, d, t, b, f⟩)).t, .agg #[.int .i64 ((asTxtT (tkV ⟨k, n, d, t, b, f⟩)).e).k, .int .i64 ((asTxtT (tkV ⟨k, n, d, t, b, f⟩)).e).n, .int .i64 ((asTxtT (tkV ⟨k, n, d, t, b, f⟩)).e).d, .string ((asTxtT (tkV ⟨k, n, d, t, b, f⟩)).e).t, .bool ((asTxtT (tkV ⟨k, n, d, t, b, f⟩)).e).b, .int .i64 ((asTxtT (tkV ⟨k, n, d, t, b, f⟩)).e).f]]) ∧ _
  generalize tkV ⟨k, n, d, t, b, f⟩ = v at *
  have hin := right_in hv
  by_cases h1 : v.k = 1
  · exact ast_num _ _ _ _ _ _ _ _ HT hin h1 hp
  by_cases h3 : v.k = 3
  · exact ast_word _ _ _ _ _ _ _ _ HT hin h3
  by_cases h4 : v.k = 4
  · exact ast_fault _ _ _ _ _ _ _ _ HT hin h4
  exact ast_else _ _ _ _ _ _ _ _ HT hin h1 h3 h4
theorem value_AsTruth (k n d : Int) (t : ByteArray) (b : Bool) (f : Int) (w : World) (hx : Vl.In ⟨k, n, d, t, b, f⟩) :
    Calls Tryz.prog 59 #[.agg #[.int .i64 k, .int .i64 n, .int .i64 d, .string t, .bool b, .int .i64 f]] w fun e w' => e = .returned (.tuple #[.bool (asTru ⟨k, n, d, t, b, f⟩).b, .agg #[.int .i64 ((asTru ⟨k, n, d, t, b, f⟩).e).k, .int .i64 ((asTru ⟨k, n, d, t, b, f⟩).e).n, .int .i64 ((asTru ⟨k, n, d, t, b, f⟩).e).d, .string ((asTru ⟨k, n, d, t, b, f⟩).e).t, .bool ((asTru ⟨k, n, d, t, b, f⟩).e).b, .int .i64 ((asTru ⟨k, n, d, t, b, f⟩).e).f]]) ∧ Below w.heap.size w w' := by
  have hv := tkV_right ⟨k, n, d, t, b, f⟩
  have HT := Lib.hid fun wx => value_taken k n d t b f wx hx
  show Calls _ _ _ _ fun e w' => e = .returned (.tuple #[.bool (asTruT (tkV ⟨k, n, d, t, b, f⟩)).b, .agg #[.int .i64 ((asTruT (tkV ⟨k, n, d, t, b, f⟩)).e).k, .int .i64 ((asTruT (tkV ⟨k, n, d, t, b, f⟩)).e).n, .int .i64 ((asTruT (tkV ⟨k, n, d, t, b, f⟩)).e).d, .string ((asTruT (tkV ⟨k, n, d, t, b, f⟩)).e).t, .bool ((asTruT (tkV ⟨k, n, d, t, b, f⟩)).e).b, .int .i64 ((asTruT (tkV ⟨k, n, d, t, b, f⟩)).e).f]]) ∧ _
  generalize tkV ⟨k, n, d, t, b, f⟩ = v at *
  have hin := right_in hv
  by_cases h1 : v.k = 1
  · exact asu_num _ _ _ _ _ _ _ _ HT hin h1
  by_cases h4 : v.k = 4
  · exact asu_fault _ _ _ _ _ _ _ _ HT hin h4
  by_cases h2 : v.k = 2
  · by_cases ha : v.t = wordT true
    · exact asu_yes _ _ _ _ _ _ _ _ HT hin h2 ha
    · by_cases hb : v.t = wordT false
      · exact asu_no _ _ _ _ _ _ _ _ HT hin h2 ha hb
      · exact asu_odd _ _ _ _ _ _ _ _ HT hin h2 ha hb
  exact asu_else _ _ _ _ _ _ _ _ HT hin h1 h2 h4
end Go.Proofs.YtnimenpfojcehaaGreatDoor
