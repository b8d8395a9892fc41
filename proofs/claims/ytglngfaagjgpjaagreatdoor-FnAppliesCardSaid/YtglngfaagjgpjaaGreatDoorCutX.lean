/- Walks of package funcs: count; the pieces of a text. Walks of package funcs: the middle piece of a text; piece of any kind. -/
import Derived.Test.YtglngfaagjgpjaaGreatDoorBx5
import Derived.Test.YtglngfaagjgpjaaGreatDoorVX
import Derived.Test.YtglngfaagjgpjaaGreatDoorShelfV
import Derived.Lib.Repeat
namespace Go.Proofs.YtglngfaagjgpjaaGreatDoor
open Go Go.RowKit
set_option linter.unusedSimpArgs false
set_option linter.unusedVariables false
theorem num_Whole' (n d : Int) (w : World) (hn : I64 n) (hd : I64 d) :
    Calls Tryz.prog 80 #[.agg #[.int .i64 n, .int .i64 d]] w fun e w' => e = .returned (.tuple #[.int .i64 (wholeN n d), .bool (wholeB n d)]) ∧ Below w.heap.size w w' := num_Whole n d w hn hd
def cntB (x : Nm) (least : Int) : Bool := wholeB x.n x.d && decide (least ≤ wholeN x.n x.d)
set_option maxHeartbeats 1000000 in
theorem funcs_count (n d least : Int) (w : World) (hn : I64 n) (hd : I64 d) (hl : I64 least) :
    Calls Tryz.prog 147 #[.agg #[.int .i64 n, .int .i64 d], .int .i64 least] w fun e w' => e = .returned (.tuple #[.int .i64 (wholeN n d), .bool (wholeB n d && decide (least ≤ wholeN n d))]) ∧ Below w.heap.size w w' := by
  have HW := Lib.hid fun wx => num_Whole' n d wx hn hd
  generalize wholeN n d = k at *
  cases hb : wholeB n d
  · rw [hb] at HW
    clear hb
    go_enter Tryz.func147, Tryz.ntmps147
    go_wp2_with fail
    refine (HW.out _).mono ?_
    rintro e w1 ⟨rfl, hb⟩
    go_wp2
    go_ret2
    refine ⟨rfl, ?_⟩
    focus
      repeat with_reducible first | exact Below.refl _ _ | refine below_drewN ?_ _ | refine Below.drew ?_ | refine Below.setCell ?_ ?_ _ | refine Below.alloc ?_ ?_ _ | refine below_then ?_ ?_ (by with_reducible assumption)
      all_goals first | omega | (simp only [sA, sC, sD, sE]; omega) | (simp; done) | (simp; omega)
  · rw [hb] at HW
    clear hb
    go_enter Tryz.func147, Tryz.ntmps147
    go_wp2_with fail
    refine (HW.out _).mono ?_
    rintro e w1 ⟨rfl, hb⟩
    go_wp2
    go_ret2
    refine ⟨?_, ?_⟩
    · first | rfl | simp
    focus
      repeat with_reducible first | exact Below.refl _ _ | refine below_drewN ?_ _ | refine Below.drew ?_ | refine Below.setCell ?_ ?_ _ | refine Below.alloc ?_ ?_ _ | refine below_then ?_ ?_ (by with_reducible assumption)
      all_goals first | omega | (simp only [sA, sC, sD, sE]; omega) | (simp; done) | (simp; omega)
theorem funcs_cnt (x : Nm) (least : Int) (w : World) (hx : I64 x.n ∧ I64 x.d) (hl : I64 least) :
    Calls Tryz.prog 147 #[.agg #[.int .i64 x.n, .int .i64 x.d], .int .i64 least] w fun e w' => e = .returned (.tuple #[.int .i64 (wholeN x.n x.d), .bool (cntB x least)]) ∧ Below w.heap.size w w' :=
  funcs_count x.n x.d least w hx.1 hx.2 hl

/-- A row of numbers in a slice. -/
def NmAt (w : World) (a : Option Addr) (ns : List Nm) : Prop := 0 < ns.length → ∃ g off, a = some ⟨g, off, none⟩ ∧ g < w.heap.size ∧ ∀ k x, ns[k]? = some x →
  w.cell? ⟨g, off + k * 2, none⟩ = some (.int .i64 x.n) ∧ w.cell? ⟨g, off + k * 2 + 1, none⟩ = some (.int .i64 x.d)
theorem NmAt.below {w w' : World} {a : Option Addr} {ns : List Nm} (h : NmAt w a ns) (hb : Below w.heap.size w w') : NmAt w' a ns := by
  intro h0
  obtain ⟨g, off, e, hg, hc⟩ := h h0
  exact ⟨g, off, e, lcs hb g hg, fun k x hx => ⟨(lcc hb g hg _).trans (hc k x hx).1, (lcc hb g hg _).trans (hc k x hx).2⟩⟩
def cntN (x : Nm) : Nat := (wholeN x.n x.d).toNat
theorem cntN_of {x : Nm} {l : Int} (h : cntB x l = true) (hl : 0 ≤ l) : wholeN x.n x.d = (cntN x : Int) ∧ l ≤ wholeN x.n x.d ∧ wholeN x.n x.d ≤ 1000000000000 := by
  have hb := tk_bd x.n x.d
  unfold cntB at h
  simp only [Bool.and_eq_true, decide_eq_true_eq] at h
  unfold cntN
  refine ⟨by omega, h.2, ?_⟩
  unfold wholeN
  split <;> omega
def repT (s : ByteArray) (k : Nat) : ByteArray := ⟨(Lib.repeatL s.data.toList k).toArray⟩
/-- A piece: from a place on, so many. -/
def cutT (s : ByteArray) (a k : Nat) : ByteArray := (s.extract (min a s.size) s.size).extract 0 (min k (s.size - min a s.size))
def endT (s : ByteArray) (k : Nat) : ByteArray := s.extract (s.size - min k s.size) s.size
theorem cut_size (s : ByteArray) (a k : Nat) : (cutT s a k).size ≤ s.size := by
  unfold cutT
  rw [ByteArray.size_extract, ByteArray.size_extract]
  omega

theorem cut_eq (s : ByteArray) (a k : Nat) : (s.extract (min (a : Int) (s.size : Int)).toNat s.size).extract 0 (min (k : Int) ((s.size - (min (a : Int) (s.size : Int)).toNat : Nat) : Int)).toNat = cutT s a k := by
  have e1 : (min (a : Int) (s.size : Int)).toNat = min a s.size := by omega
  rw [e1]
  have e2 : (min (k : Int) ((s.size - min a s.size : Nat) : Int)).toNat = min k (s.size - min a s.size) := by omega
  rw [e2]
  rfl
theorem cut_eq0 (s : ByteArray) (k : Nat) : (s.extract (min (0 : Int) (s.size : Int)).toNat s.size).extract 0 (min (k : Int) ((s.size - (min (0 : Int) (s.size : Int)).toNat : Nat) : Int)).toNat = cutT s 0 k := cut_eq s 0 k
set_option maxHeartbeats 1000000 in
theorem piece49_bad (s : ByteArray) (g off n c : Nat) (x : Nm) (w : World) (hn : 1 ≤ n) (hc : n ≤ c) (hg : g < w.heap.size) (c0 : w.cell? ⟨g, off, none⟩ = some (.int .i64 x.n)) (c1 : w.cell? ⟨g, off + 1, none⟩ = some (.int .i64 x.d)) (hx : I64 x.n ∧ I64 x.d) (hb : cntB x 0 = false) :
    Calls Tryz.prog 75 #[.int .i64 49, .string s, .slice (some ⟨g, off, none⟩) n c] w fun e w' => e = .returned (.agg #[.int .i64 (faultF 8).k, .int .i64 (faultF 8).n, .int .i64 (faultF 8).d, .string (faultF 8).t, .bool (faultF 8).b, .int .i64 (faultF 8).f]) ∧ Below w.heap.size w w' := by
  have hne : ¬ g = w.heap.size := by omega
  have hne' : ¬ w.heap.size = g := by omega
  have HC := Lib.hid fun wx => funcs_cnt x 0 wx hx ⟨by decide, by decide⟩
  rw [hb] at HC
  have HF := Lib.hid fun wx => value_Fault 8 wx
  generalize faultF 8 = Q at *
  generalize wholeN x.n x.d = k at *
  clear hb hx
  go_enter Tryz.func75, Tryz.ntmps75
  go_wp2_with fail
  refine (HC.out _).mono ?_
  rintro e w1 ⟨rfl, hb⟩
  obtain ⟨s1, c1_0, c1_1, c1_2, c1_3, c1_4, c1_5, f1⟩ := L6 hb (w.heap.size) (by first | omega | (simp only [sA, sC, sD, sE]; omega) | (simp; done) | (simp; omega)) (by go_simp; exact ⟨rfl, rfl, rfl, rfl, rfl, rfl⟩) (by intro o; go_simp)
  go_wp2_with fail
  refine (HF.out _).mono ?_
  rintro e w2 ⟨rfl, hb2⟩
  obtain ⟨s2, c2_0, c2_1, c2_2, c2_3, c2_4, c2_5, f2⟩ := L6 hb2 (w.heap.size) (by first | omega | (simp only [sA, sC, sD, sE]; omega) | (simp; done) | (simp; omega)) (by go_simp; exact ⟨rfl, rfl, rfl, rfl, rfl, rfl⟩) (by intro o; go_simp)
  clear c1_0 c1_1 c1_2 c1_3 c1_4 c1_5 f1
  go_wp2
  refine bodyPost_ret (v := .agg #[.int .i64 (Q).k, .int .i64 (Q).n, .int .i64 (Q).d, .string (Q).t, .bool (Q).b, .int .i64 (Q).f]) (by simp [results, Tryz.results75, go_sem, c2_0, c2_1, c2_2, c2_3, c2_4, c2_5]) rfl ⟨rfl, ?_⟩
  focus
    repeat with_reducible first | exact Below.refl _ _ | refine below_drewN ?_ _ | refine Below.drew ?_ | refine Below.setCell ?_ ?_ _ | refine Below.alloc ?_ ?_ _ | refine below_then ?_ ?_ (by with_reducible assumption)
    all_goals first | omega | (simp only [sA, sC, sD, sE]; omega) | (simp; done) | (simp; omega)
set_option maxHeartbeats 1000000 in
theorem piece50_bad (s : ByteArray) (g off n c : Nat) (x : Nm) (w : World) (hn : 1 ≤ n) (hc : n ≤ c) (hg : g < w.heap.size) (c0 : w.cell? ⟨g, off, none⟩ = some (.int .i64 x.n)) (c1 : w.cell? ⟨g, off + 1, none⟩ = some (.int .i64 x.d)) (hx : I64 x.n ∧ I64 x.d) (hb : cntB x 0 = false) :
    Calls Tryz.prog 75 #[.int .i64 50, .string s, .slice (some ⟨g, off, none⟩) n c] w fun e w' => e = .returned (.agg #[.int .i64 (faultF 8).k, .int .i64 (faultF 8).n, .int .i64 (faultF 8).d, .string (faultF 8).t, .bool (faultF 8).b, .int .i64 (faultF 8).f]) ∧ Below w.heap.size w w' := by
  have hne : ¬ g = w.heap.size := by omega
  have hne' : ¬ w.heap.size = g := by omega
  have HC := Lib.hid fun wx => funcs_cnt x 0 wx hx ⟨by decide, by decide⟩
  rw [hb] at HC
  have HF := Lib.hid fun wx => value_Fault 8 wx
  generalize faultF 8 = Q at *
  generalize wholeN x.n x.d = k at *
  clear hb hx
  go_enter Tryz.func75, Tryz.ntmps75
  go_wp2_with fail
  refine (HC.out _).mono ?_
  rintro e w1 ⟨rfl, hb⟩
  obtain ⟨s3, c3_0, c3_1, c3_2, c3_3, c3_4, c3_5, f3⟩ := L6 hb (w.heap.size) (by first | omega | (simp only [sA, sC, sD, sE]; omega) | (simp; done) | (simp; omega)) (by go_simp; exact ⟨rfl, rfl, rfl, rfl, rfl, rfl⟩) (by intro o; go_simp)
  go_wp2_with fail
  refine (HF.out _).mono ?_
  rintro e w2 ⟨rfl, hb2⟩
  obtain ⟨s4, c4_0, c4_1, c4_2, c4_3, c4_4, c4_5, f4⟩ := L6 hb2 (w.heap.size) (by first | omega | (simp only [sA, sC, sD, sE]; omega) | (simp; done) | (simp; omega)) (by go_simp; exact ⟨rfl, rfl, rfl, rfl, rfl, rfl⟩) (by intro o; go_simp)
  clear c3_0 c3_1 c3_2 c3_3 c3_4 c3_5 f3
  go_wp2
  refine bodyPost_ret (v := .agg #[.int .i64 (Q).k, .int .i64 (Q).n, .int .i64 (Q).d, .string (Q).t, .bool (Q).b, .int .i64 (Q).f]) (by simp [results, Tryz.results75, go_sem, c4_0, c4_1, c4_2, c4_3, c4_4, c4_5]) rfl ⟨rfl, ?_⟩
  focus
    repeat with_reducible first | exact Below.refl _ _ | refine below_drewN ?_ _ | refine Below.drew ?_ | refine Below.setCell ?_ ?_ _ | refine Below.alloc ?_ ?_ _ | refine below_then ?_ ?_ (by with_reducible assumption)
    all_goals first | omega | (simp only [sA, sC, sD, sE]; omega) | (simp; done) | (simp; omega)
set_option maxHeartbeats 1000000 in
theorem piece52_bad (s : ByteArray) (g off n c : Nat) (x : Nm) (w : World) (hn : 1 ≤ n) (hc : n ≤ c) (hg : g < w.heap.size) (c0 : w.cell? ⟨g, off, none⟩ = some (.int .i64 x.n)) (c1 : w.cell? ⟨g, off + 1, none⟩ = some (.int .i64 x.d)) (hx : I64 x.n ∧ I64 x.d) (hb : cntB x 0 = false) :
    Calls Tryz.prog 75 #[.int .i64 52, .string s, .slice (some ⟨g, off, none⟩) n c] w fun e w' => e = .returned (.agg #[.int .i64 (faultF 8).k, .int .i64 (faultF 8).n, .int .i64 (faultF 8).d, .string (faultF 8).t, .bool (faultF 8).b, .int .i64 (faultF 8).f]) ∧ Below w.heap.size w w' := by
  have hne : ¬ g = w.heap.size := by omega
  have hne' : ¬ w.heap.size = g := by omega
  have HC := Lib.hid fun wx => funcs_cnt x 0 wx hx ⟨by decide, by decide⟩
  rw [hb] at HC
  have HF := Lib.hid fun wx => value_Fault 8 wx
  generalize faultF 8 = Q at *
  generalize wholeN x.n x.d = k at *
  clear hb hx
  go_enter Tryz.func75, Tryz.ntmps75
  go_wp2_with fail
  refine (HC.out _).mono ?_
  rintro e w1 ⟨rfl, hb⟩
  obtain ⟨s5, c5_0, c5_1, c5_2, c5_3, c5_4, c5_5, f5⟩ := L6 hb (w.heap.size) (by first | omega | (simp only [sA, sC, sD, sE]; omega) | (simp; done) | (simp; omega)) (by go_simp; exact ⟨rfl, rfl, rfl, rfl, rfl, rfl⟩) (by intro o; go_simp)
  go_wp2_with fail
  refine (HF.out _).mono ?_
  rintro e w2 ⟨rfl, hb2⟩
  obtain ⟨s6, c6_0, c6_1, c6_2, c6_3, c6_4, c6_5, f6⟩ := L6 hb2 (w.heap.size) (by first | omega | (simp only [sA, sC, sD, sE]; omega) | (simp; done) | (simp; omega)) (by go_simp; exact ⟨rfl, rfl, rfl, rfl, rfl, rfl⟩) (by intro o; go_simp)
  clear c5_0 c5_1 c5_2 c5_3 c5_4 c5_5 f5
  go_wp2
  refine bodyPost_ret (v := .agg #[.int .i64 (Q).k, .int .i64 (Q).n, .int .i64 (Q).d, .string (Q).t, .bool (Q).b, .int .i64 (Q).f]) (by simp [results, Tryz.results75, go_sem, c6_0, c6_1, c6_2, c6_3, c6_4, c6_5]) rfl ⟨rfl, ?_⟩
  focus
    repeat with_reducible first | exact Below.refl _ _ | refine below_drewN ?_ _ | refine Below.drew ?_ | refine Below.setCell ?_ ?_ _ | refine Below.alloc ?_ ?_ _ | refine below_then ?_ ?_ (by with_reducible assumption)
    all_goals first | omega | (simp only [sA, sC, sD, sE]; omega) | (simp; done) | (simp; omega)
set_option maxHeartbeats 1000000 in
theorem piece49_ok (s : ByteArray) (g off n c : Nat) (x : Nm) (w : World) (hn : 1 ≤ n) (hc : n ≤ c) (hg : g < w.heap.size) (c0 : w.cell? ⟨g, off, none⟩ = some (.int .i64 x.n)) (c1 : w.cell? ⟨g, off + 1, none⟩ = some (.int .i64 x.d)) (hx : I64 x.n ∧ I64 x.d) (hb : cntB x 0 = true) (hs : s.size ≤ 256) :
    Calls Tryz.prog 75 #[.int .i64 49, .string s, .slice (some ⟨g, off, none⟩) n c] w fun e w' => e = .returned (.agg #[.int .i64 (textF (cutT s 0 (cntN x))).k, .int .i64 (textF (cutT s 0 (cntN x))).n, .int .i64 (textF (cutT s 0 (cntN x))).d, .string (textF (cutT s 0 (cntN x))).t, .bool (textF (cutT s 0 (cntN x))).b, .int .i64 (textF (cutT s 0 (cntN x))).f]) ∧ Below w.heap.size w w' := by
  have hne : ¬ g = w.heap.size := by omega
  have hne' : ¬ w.heap.size = g := by omega
  have HC := Lib.hid fun wx => funcs_cnt x 0 wx hx ⟨by decide, by decide⟩
  rw [hb] at HC
  obtain ⟨e1, e2, e3⟩ := cntN_of hb (by decide)
  rw [e1] at HC e2 e3
  have HX := Lib.hid fun wx => value_Text (cutT s 0 (cntN x)) wx (by have := cut_size s 0 (cntN x); omega)
  have HE := Lib.hid (cut_eq0 s (cntN x))
  generalize cutT s 0 (cntN x) = U at *
  generalize cntN x = k at *
  clear hb hx e1
  go_enter Tryz.func75, Tryz.ntmps75
  go_wp2_with fail
  refine (HC.out _).mono ?_
  rintro e w1 ⟨rfl, hb⟩
  obtain ⟨s7, c7_0, c7_1, c7_2, c7_3, c7_4, c7_5, f7⟩ := L6 hb (w.heap.size) (by first | omega | (simp only [sA, sC, sD, sE]; omega) | (simp; done) | (simp; omega)) (by go_simp; exact ⟨rfl, rfl, rfl, rfl, rfl, rfl⟩) (by intro o; go_simp)
  go_wp2_with fail
  rw [HE.out]
  refine (HX.out _).mono ?_
  rintro e w2 ⟨rfl, hb2⟩
  obtain ⟨s8, c8_0, c8_1, c8_2, c8_3, c8_4, c8_5, f8⟩ := L6 hb2 (w.heap.size) (by first | omega | (simp only [sA, sC, sD, sE]; omega) | (simp; done) | (simp; omega)) (by go_simp; exact ⟨rfl, rfl, rfl, rfl, rfl, rfl⟩) (by intro o; go_simp)
  clear c7_0 c7_1 c7_2 c7_3 c7_4 c7_5 f7
  go_wp2
  refine bodyPost_ret (v := .agg #[.int .i64 (textF U).k, .int .i64 (textF U).n, .int .i64 (textF U).d, .string (textF U).t, .bool (textF U).b, .int .i64 (textF U).f]) (by simp [results, Tryz.results75, go_sem, c8_0, c8_1, c8_2, c8_3, c8_4, c8_5]) rfl ⟨rfl, ?_⟩
  focus
    repeat with_reducible first | exact Below.refl _ _ | refine below_drewN ?_ _ | refine Below.drew ?_ | refine Below.setCell ?_ ?_ _ | refine Below.alloc ?_ ?_ _ | refine below_then ?_ ?_ (by with_reducible assumption)
    all_goals first | omega | (simp only [sA, sC, sD, sE]; omega) | (simp; done) | (simp; omega)
set_option maxHeartbeats 1000000 in
theorem piece50_ok (s : ByteArray) (g off n c : Nat) (x : Nm) (w : World) (hn : 1 ≤ n) (hc : n ≤ c) (hg : g < w.heap.size) (c0 : w.cell? ⟨g, off, none⟩ = some (.int .i64 x.n)) (c1 : w.cell? ⟨g, off + 1, none⟩ = some (.int .i64 x.d)) (hx : I64 x.n ∧ I64 x.d) (hb : cntB x 0 = true) (hs : s.size ≤ 256) :
    Calls Tryz.prog 75 #[.int .i64 50, .string s, .slice (some ⟨g, off, none⟩) n c] w fun e w' => e = .returned (.agg #[.int .i64 (textF (endT s (cntN x))).k, .int .i64 (textF (endT s (cntN x))).n, .int .i64 (textF (endT s (cntN x))).d, .string (textF (endT s (cntN x))).t, .bool (textF (endT s (cntN x))).b, .int .i64 (textF (endT s (cntN x))).f]) ∧ Below w.heap.size w w' := by
  have hne : ¬ g = w.heap.size := by omega
  have hne' : ¬ w.heap.size = g := by omega
  have HC := Lib.hid fun wx => funcs_cnt x 0 wx hx ⟨by decide, by decide⟩
  rw [hb] at HC
  obtain ⟨e1, e2, e3⟩ := cntN_of hb (by decide)
  rw [e1] at HC e2 e3
  have HX := Lib.hid fun wx => value_Text (endT s (cntN x)) wx (by unfold endT; rw [ByteArray.size_extract]; omega)
  have HE : Hid (s.extract ((s.size : Int) - min (cntN x : Int) (s.size : Int)).toNat s.size = endT s (cntN x)) := by unfold Hid endT; congr 1; omega
  generalize endT s (cntN x) = U at *
  generalize cntN x = k at *
  clear hb hx e1
  go_enter Tryz.func75, Tryz.ntmps75
  go_wp2_with fail
  refine (HC.out _).mono ?_
  rintro e w1 ⟨rfl, hb⟩
  obtain ⟨s9, c9_0, c9_1, c9_2, c9_3, c9_4, c9_5, f9⟩ := L6 hb (w.heap.size) (by first | omega | (simp only [sA, sC, sD, sE]; omega) | (simp; done) | (simp; omega)) (by go_simp; exact ⟨rfl, rfl, rfl, rfl, rfl, rfl⟩) (by intro o; go_simp)
  go_wp2_with fail
  rw [HE.out]
  refine (HX.out _).mono ?_
  rintro e w2 ⟨rfl, hb2⟩
  obtain ⟨s10, c10_0, c10_1, c10_2, c10_3, c10_4, c10_5, f10⟩ := L6 hb2 (w.heap.size) (by first | omega | (simp only [sA, sC, sD, sE]; omega) | (simp; done) | (simp; omega)) (by go_simp; exact ⟨rfl, rfl, rfl, rfl, rfl, rfl⟩) (by intro o; go_simp)
  clear c9_0 c9_1 c9_2 c9_3 c9_4 c9_5 f9
  go_wp2
  refine bodyPost_ret (v := .agg #[.int .i64 (textF U).k, .int .i64 (textF U).n, .int .i64 (textF U).d, .string (textF U).t, .bool (textF U).b, .int .i64 (textF U).f]) (by simp [results, Tryz.results75, go_sem, c10_0, c10_1, c10_2, c10_3, c10_4, c10_5]) rfl ⟨rfl, ?_⟩
  focus
    repeat with_reducible first | exact Below.refl _ _ | refine below_drewN ?_ _ | refine Below.drew ?_ | refine Below.setCell ?_ ?_ _ | refine Below.alloc ?_ ?_ _ | refine below_then ?_ ?_ (by with_reducible assumption)
    all_goals first | omega | (simp only [sA, sC, sD, sE]; omega) | (simp; done) | (simp; omega)
set_option maxHeartbeats 1000000 in
theorem piece52_long (s : ByteArray) (g off n c : Nat) (x : Nm) (w : World) (hn : 1 ≤ n) (hc : n ≤ c) (hg : g < w.heap.size) (c0 : w.cell? ⟨g, off, none⟩ = some (.int .i64 x.n)) (c1 : w.cell? ⟨g, off + 1, none⟩ = some (.int .i64 x.d)) (hx : I64 x.n ∧ I64 x.d) (hb : cntB x 0 = true) (hs : s.size ≤ 256) (hl : 256 < s.size * cntN x) :
    Calls Tryz.prog 75 #[.int .i64 52, .string s, .slice (some ⟨g, off, none⟩) n c] w fun e w' => e = .returned (.agg #[.int .i64 (faultF 7).k, .int .i64 (faultF 7).n, .int .i64 (faultF 7).d, .string (faultF 7).t, .bool (faultF 7).b, .int .i64 (faultF 7).f]) ∧ Below w.heap.size w w' := by
  have hne : ¬ g = w.heap.size := by omega
  have hne' : ¬ w.heap.size = g := by omega
  have HC := Lib.hid fun wx => funcs_cnt x 0 wx hx ⟨by decide, by decide⟩
  rw [hb] at HC
  obtain ⟨e1, e2, e3⟩ := cntN_of hb (by decide)
  rw [e1] at HC e2 e3
  have hm : s.size * cntN x ≤ 256 * 1000000000000 := Nat.mul_le_mul hs (by omega)
  have wm : IntKind.i64.wrap ((s.size : Int) * (cntN x : Int)) = ((s.size * cntN x : Nat) : Int) := by rw [w64 (by have := Int.mul_nonneg (Int.natCast_nonneg s.size) (Int.natCast_nonneg (cntN x)); omega) (by rw [← Int.natCast_mul]; omega), Int.natCast_mul]
  have HF := Lib.hid fun wx => value_Fault 7 wx
  generalize faultF 7 = Q at *
  generalize s.size * cntN x = z at *
  generalize cntN x = k at *
  clear hb hx e1
  go_enter Tryz.func75, Tryz.ntmps75
  go_wp2_with fail
  refine (HC.out _).mono ?_
  rintro e w1 ⟨rfl, hb⟩
  obtain ⟨s11, c11_0, c11_1, c11_2, c11_3, c11_4, c11_5, f11⟩ := L6 hb (w.heap.size) (by first | omega | (simp only [sA, sC, sD, sE]; omega) | (simp; done) | (simp; omega)) (by go_simp; exact ⟨rfl, rfl, rfl, rfl, rfl, rfl⟩) (by intro o; go_simp)
  go_wp2_with fail
  refine (HF.out _).mono ?_
  rintro e w2 ⟨rfl, hb2⟩
  obtain ⟨s12, c12_0, c12_1, c12_2, c12_3, c12_4, c12_5, f12⟩ := L6 hb2 (w.heap.size) (by first | omega | (simp only [sA, sC, sD, sE]; omega) | (simp; done) | (simp; omega)) (by go_simp; exact ⟨rfl, rfl, rfl, rfl, rfl, rfl⟩) (by intro o; go_simp)
  clear c11_0 c11_1 c11_2 c11_3 c11_4 c11_5 f11
  go_wp2
  refine bodyPost_ret (v := .agg #[.int .i64 (Q).k, .int .i64 (Q).n, .int .i64 (Q).d, .string (Q).t, .bool (Q).b, .int .i64 (Q).f]) (by simp [results, Tryz.results75, go_sem, c12_0, c12_1, c12_2, c12_3, c12_4, c12_5]) rfl ⟨rfl, ?_⟩
  focus
    repeat with_reducible first | exact Below.refl _ _ | refine below_drewN ?_ _ | refine Below.drew ?_ | refine Below.setCell ?_ ?_ _ | refine Below.alloc ?_ ?_ _ | refine below_then ?_ ?_ (by with_reducible assumption)
    all_goals first | omega | (simp only [sA, sC, sD, sE]; omega) | (simp; done) | (simp; omega)
set_option maxHeartbeats 1000000 in
theorem piece52_none (s : ByteArray) (g off n c : Nat) (x : Nm) (w : World) (hn : 1 ≤ n) (hc : n ≤ c) (hg : g < w.heap.size) (c0 : w.cell? ⟨g, off, none⟩ = some (.int .i64 x.n)) (c1 : w.cell? ⟨g, off + 1, none⟩ = some (.int .i64 x.d)) (hx : I64 x.n ∧ I64 x.d) (hb : cntB x 0 = true) (hs : s = ⟨#[]⟩) :
    Calls Tryz.prog 75 #[.int .i64 52, .string s, .slice (some ⟨g, off, none⟩) n c] w fun e w' => e = .returned (.agg #[.int .i64 (textF ⟨#[]⟩).k, .int .i64 (textF ⟨#[]⟩).n, .int .i64 (textF ⟨#[]⟩).d, .string (textF ⟨#[]⟩).t, .bool (textF ⟨#[]⟩).b, .int .i64 (textF ⟨#[]⟩).f]) ∧ Below w.heap.size w w' := by
  subst hs
  have hne : ¬ g = w.heap.size := by omega
  have hne' : ¬ w.heap.size = g := by omega
  have HC := Lib.hid fun wx => funcs_cnt x 0 wx hx ⟨by decide, by decide⟩
  rw [hb] at HC
  obtain ⟨e1, e2, e3⟩ := cntN_of hb (by decide)
  rw [e1] at HC e2 e3
  have HX := Lib.hid fun wx => value_Text ⟨#[]⟩ wx (by decide)
  generalize cntN x = k at *
  generalize textF ⟨#[]⟩ = Q at *
  clear hb hx e1
  go_enter Tryz.func75, Tryz.ntmps75
  go_wp2_with fail
  refine (HC.out _).mono ?_
  rintro e w1 ⟨rfl, hb⟩
  obtain ⟨s13, c13_0, c13_1, c13_2, c13_3, c13_4, c13_5, f13⟩ := L6 hb (w.heap.size) (by first | omega | (simp only [sA, sC, sD, sE]; omega) | (simp; done) | (simp; omega)) (by go_simp; exact ⟨rfl, rfl, rfl, rfl, rfl, rfl⟩) (by intro o; go_simp)
  go_wp2_with fail
  refine (HX.out _).mono ?_
  rintro e w2 ⟨rfl, hb2⟩
  obtain ⟨s14, c14_0, c14_1, c14_2, c14_3, c14_4, c14_5, f14⟩ := L6 hb2 (w.heap.size) (by first | omega | (simp only [sA, sC, sD, sE]; omega) | (simp; done) | (simp; omega)) (by go_simp; exact ⟨rfl, rfl, rfl, rfl, rfl, rfl⟩) (by intro o; go_simp)
  clear c13_0 c13_1 c13_2 c13_3 c13_4 c13_5 f13
  go_wp2
  refine bodyPost_ret (v := .agg #[.int .i64 (Q).k, .int .i64 (Q).n, .int .i64 (Q).d, .string (Q).t, .bool (Q).b, .int .i64 (Q).f]) (by simp [results, Tryz.results75, go_sem, c14_0, c14_1, c14_2, c14_3, c14_4, c14_5]) rfl ⟨rfl, ?_⟩
  focus
    repeat with_reducible first | exact Below.refl _ _ | refine below_drewN ?_ _ | refine Below.drew ?_ | refine Below.setCell ?_ ?_ _ | refine Below.alloc ?_ ?_ _ | refine below_then ?_ ?_ (by with_reducible assumption)
    all_goals first | omega | (simp only [sA, sC, sD, sE]; omega) | (simp; done) | (simp; omega)
set_option maxHeartbeats 1000000 in
theorem piece52_ok (s : ByteArray) (g off n c : Nat) (x : Nm) (w : World) (hn : 1 ≤ n) (hc : n ≤ c) (hg : g < w.heap.size) (c0 : w.cell? ⟨g, off, none⟩ = some (.int .i64 x.n)) (c1 : w.cell? ⟨g, off + 1, none⟩ = some (.int .i64 x.d)) (hx : I64 x.n ∧ I64 x.d) (hb : cntB x 0 = true) (hs : s.size ≤ 256) (hl : ¬ 256 < s.size * cntN x) (h0 : ¬ s = ⟨#[]⟩) :
    Calls Tryz.prog 75 #[.int .i64 52, .string s, .slice (some ⟨g, off, none⟩) n c] w fun e w' => e = .returned (.agg #[.int .i64 (textF (repT s (cntN x))).k, .int .i64 (textF (repT s (cntN x))).n, .int .i64 (textF (repT s (cntN x))).d, .string (textF (repT s (cntN x))).t, .bool (textF (repT s (cntN x))).b, .int .i64 (textF (repT s (cntN x))).f]) ∧ Below w.heap.size w w' := by
  have hne : ¬ g = w.heap.size := by omega
  have hne' : ¬ w.heap.size = g := by omega
  have HC := Lib.hid fun wx => funcs_cnt x 0 wx hx ⟨by decide, by decide⟩
  rw [hb] at HC
  obtain ⟨e1, e2, e3⟩ := cntN_of hb (by decide)
  rw [e1] at HC e2 e3
  have wm : IntKind.i64.wrap ((s.size : Int) * (cntN x : Int)) = ((s.size * cntN x : Nat) : Int) := by rw [w64 (by have := Int.mul_nonneg (Int.natCast_nonneg s.size) (Int.natCast_nonneg (cntN x)); omega) (by rw [← Int.natCast_mul]; omega), Int.natCast_mul]
  have t0 : ¬ s.toList = [] := by rw [ByteArray.toList_eq]; intro h; apply h0; cases s; simp at h; rw [h]
  have t1 : (s.toList == ([] : List UInt8)) = false := beq_eq_false_iff_ne.2 t0
  have HR := Lib.hid fun wx => Tryz.strings_Repeat s (cntN x) wx (by omega) (by omega)
  have hsz : (repT s (cntN x)).size = cntN x * s.size := by
    have e : (repT s (cntN x)).size = (Lib.repeatL s.data.toList (cntN x)).length := by show ((Lib.repeatL s.data.toList (cntN x)).toArray).size = _; exact List.size_toArray
    rw [e, Lib.repeatL_length, Array.length_toList]; rfl
  have HX := Lib.hid fun wx => value_Text (repT s (cntN x)) wx (by rw [hsz, Nat.mul_comm]; omega)
  have HU : Hid (repT s (cntN x) = ⟨(Lib.repeatL s.data.toList (cntN x)).toArray⟩) := rfl
  rw [← HU.out] at HR
  clear HU hsz
  generalize repT s (cntN x) = U at *
  generalize s.size * cntN x = z at *
  generalize cntN x = k at *
  clear hb hx e1 h0
  go_enter Tryz.func75, Tryz.ntmps75
  go_wp2_with fail
  refine (HC.out _).mono ?_
  rintro e w1 ⟨rfl, hb⟩
  obtain ⟨s15, c15_0, c15_1, c15_2, c15_3, c15_4, c15_5, f15⟩ := L6 hb (w.heap.size) (by first | omega | (simp only [sA, sC, sD, sE]; omega) | (simp; done) | (simp; omega)) (by go_simp; exact ⟨rfl, rfl, rfl, rfl, rfl, rfl⟩) (by intro o; go_simp)
  go_wp2_with fail
  refine (HR.out _).mono ?_
  rintro e w2 ⟨rfl, hb2⟩
  obtain ⟨s16, c16_0, c16_1, c16_2, c16_3, c16_4, c16_5, f16⟩ := L6 hb2 (w.heap.size) (by first | omega | (simp only [sA, sC, sD, sE]; omega) | (simp; done) | (simp; omega)) (by go_simp; exact ⟨rfl, rfl, rfl, rfl, rfl, rfl⟩) (by intro o; go_simp)
  clear c15_0 c15_1 c15_2 c15_3 c15_4 c15_5 f15
  go_wp2_with fail
  refine (HX.out _).mono ?_
  rintro e w3 ⟨rfl, hb3⟩
  obtain ⟨s17, c17_0, c17_1, c17_2, c17_3, c17_4, c17_5, f17⟩ := L6 hb3 (w.heap.size) (by first | omega | (simp only [sA, sC, sD, sE]; omega) | (simp; done) | (simp; omega)) (by go_simp; exact ⟨rfl, rfl, rfl, rfl, rfl, rfl⟩) (by intro o; go_simp)
  clear c16_0 c16_1 c16_2 c16_3 c16_4 c16_5 f16
  go_wp2
  refine bodyPost_ret (v := .agg #[.int .i64 (textF U).k, .int .i64 (textF U).n, .int .i64 (textF U).d, .string (textF U).t, .bool (textF U).b, .int .i64 (textF U).f]) (by simp [results, Tryz.results75, go_sem, c17_0, c17_1, c17_2, c17_3, c17_4, c17_5]) rfl ⟨rfl, ?_⟩
  focus
    repeat with_reducible first | exact Below.refl _ _ | refine below_drewN ?_ _ | refine Below.drew ?_ | refine Below.setCell ?_ ?_ _ | refine Below.alloc ?_ ?_ _ | refine below_then ?_ ?_ (by with_reducible assumption)
    all_goals first | omega | (simp only [sA, sC, sD, sE]; omega) | (simp; done) | (simp; omega)
end Go.Proofs.YtglngfaagjgpjaaGreatDoor
namespace Go.Proofs.YtglngfaagjgpjaaGreatDoor
open Go Go.RowKit
set_option linter.unusedSimpArgs false
set_option linter.unusedVariables false

set_option maxHeartbeats 1000000 in
theorem piece51_bad (s : ByteArray) (g off n c : Nat) (x y : Nm) (w : World) (hn : 2 ≤ n) (hc : n ≤ c) (hg : g < w.heap.size) (c0 : w.cell? ⟨g, off, none⟩ = some (.int .i64 x.n)) (c1 : w.cell? ⟨g, off + 1, none⟩ = some (.int .i64 x.d)) (c2 : w.cell? ⟨g, off + 2, none⟩ = some (.int .i64 y.n)) (c3 : w.cell? ⟨g, off + 2 + 1, none⟩ = some (.int .i64 y.d)) (hx : I64 x.n ∧ I64 x.d) (hy : I64 y.n ∧ I64 y.d) (hb : (cntB x 1 && cntB y 0) = false) :
    Calls Tryz.prog 75 #[.int .i64 51, .string s, .slice (some ⟨g, off, none⟩) n c] w fun e w' => e = .returned (.agg #[.int .i64 (faultF 8).k, .int .i64 (faultF 8).n, .int .i64 (faultF 8).d, .string (faultF 8).t, .bool (faultF 8).b, .int .i64 (faultF 8).f]) ∧ Below w.heap.size w w' := by
  have hne : ¬ g = w.heap.size := by omega
  have hne' : ¬ w.heap.size = g := by omega
  have HC := Lib.hid fun wx => funcs_cnt x 1 wx hx ⟨by decide, by decide⟩
  have HD := Lib.hid fun wx => funcs_cnt y 0 wx hy ⟨by decide, by decide⟩
  have HF := Lib.hid fun wx => value_Fault 8 wx
  have hw1 : cntB x 1 = true → wholeN x.n x.d ≤ 1000000000000 := fun h => (cntN_of h (by decide)).2.2
  generalize faultF 8 = Q at *
  generalize wholeN x.n x.d = k at *
  generalize wholeN y.n y.d = l at *
  clear hx hy hw1
  cases h1 : cntB x 1 <;> cases h2 : cntB y 0
  all_goals
    first
      | (exfalso; rw [h1, h2] at hb; cases hb; done)
      | skip
  all_goals
    rw [h1] at HC
    rw [h2] at HD
    clear hb h1 h2
    go_enter Tryz.func75, Tryz.ntmps75
    go_wp2_with fail
    refine (HC.out _).mono ?_
    rintro e w1 ⟨rfl, hb⟩
    obtain ⟨s18, c18_0, c18_1, c18_2, c18_3, c18_4, c18_5, f18⟩ := L6 hb (w.heap.size) (by first | omega | (simp only [sA, sC, sD, sE]; omega) | (simp; done) | (simp; omega)) (by go_simp; exact ⟨rfl, rfl, rfl, rfl, rfl, rfl⟩) (by intro o; go_simp)
    have c19 := lcc hb (g) (by (first | omega | (simp only [sz_alloc, sz_setCell, sz_drew, sz_drewN]; omega) | (simp; done) | (simp; omega)))
    have f19 := lcf hb (g) (by (first | omega | (simp only [sz_alloc, sz_setCell, sz_drew, sz_drewN]; omega) | (simp; done) | (simp; omega)))
    have s19 := lcs hb (g) (by (first | omega | (simp only [sz_alloc, sz_setCell, sz_drew, sz_drewN]; omega) | (simp; done) | (simp; omega)))
    go_wp2_with fail
    refine (HD.out _).mono ?_
    rintro e w2 ⟨rfl, hb2⟩
    obtain ⟨s20, c20_0, c20_1, c20_2, c20_3, c20_4, c20_5, f20⟩ := L6 hb2 (w.heap.size) (by first | omega | (simp only [sA, sC, sD, sE]; omega) | (simp; done) | (simp; omega)) (by go_simp; exact ⟨rfl, rfl, rfl, rfl, rfl, rfl⟩) (by intro o; go_simp)
    clear c18_0 c18_1 c18_2 c18_3 c18_4 c18_5 f18
    go_wp2_with fail
    refine (HF.out _).mono ?_
    rintro e w3 ⟨rfl, hb3⟩
    obtain ⟨s21, c21_0, c21_1, c21_2, c21_3, c21_4, c21_5, f21⟩ := L6 hb3 (w.heap.size) (by first | omega | (simp only [sA, sC, sD, sE]; omega) | (simp; done) | (simp; omega)) (by go_simp; exact ⟨rfl, rfl, rfl, rfl, rfl, rfl⟩) (by intro o; go_simp)
    clear c20_0 c20_1 c20_2 c20_3 c20_4 c20_5 f20
    go_wp2
    refine bodyPost_ret (v := .agg #[.int .i64 (Q).k, .int .i64 (Q).n, .int .i64 (Q).d, .string (Q).t, .bool (Q).b, .int .i64 (Q).f]) (by simp [results, Tryz.results75, go_sem, c21_0, c21_1, c21_2, c21_3, c21_4, c21_5]) rfl ⟨rfl, ?_⟩
    focus
      repeat with_reducible first | exact Below.refl _ _ | refine below_drewN ?_ _ | refine Below.drew ?_ | refine Below.setCell ?_ ?_ _ | refine Below.alloc ?_ ?_ _ | refine below_then ?_ ?_ (by with_reducible assumption)
      all_goals first | omega | (simp only [sA, sC, sD, sE]; omega) | (simp; done) | (simp; omega)
set_option maxHeartbeats 1000000 in
theorem piece51_ok (s : ByteArray) (g off n c : Nat) (x y : Nm) (w : World) (hn : 2 ≤ n) (hc : n ≤ c) (hg : g < w.heap.size) (c0 : w.cell? ⟨g, off, none⟩ = some (.int .i64 x.n)) (c1 : w.cell? ⟨g, off + 1, none⟩ = some (.int .i64 x.d)) (c2 : w.cell? ⟨g, off + 2, none⟩ = some (.int .i64 y.n)) (c3 : w.cell? ⟨g, off + 2 + 1, none⟩ = some (.int .i64 y.d)) (hx : I64 x.n ∧ I64 x.d) (hy : I64 y.n ∧ I64 y.d) (h1 : cntB x 1 = true) (h2 : cntB y 0 = true) (hs : s.size ≤ 256) :
    Calls Tryz.prog 75 #[.int .i64 51, .string s, .slice (some ⟨g, off, none⟩) n c] w fun e w' => e = .returned (.agg #[.int .i64 (textF (cutT s (cntN x - 1) (cntN y))).k, .int .i64 (textF (cutT s (cntN x - 1) (cntN y))).n, .int .i64 (textF (cutT s (cntN x - 1) (cntN y))).d, .string (textF (cutT s (cntN x - 1) (cntN y))).t, .bool (textF (cutT s (cntN x - 1) (cntN y))).b, .int .i64 (textF (cutT s (cntN x - 1) (cntN y))).f]) ∧ Below w.heap.size w w' := by
  have hne : ¬ g = w.heap.size := by omega
  have hne' : ¬ w.heap.size = g := by omega
  have HC := Lib.hid fun wx => funcs_cnt x 1 wx hx ⟨by decide, by decide⟩
  have HD := Lib.hid fun wx => funcs_cnt y 0 wx hy ⟨by decide, by decide⟩
  rw [h1] at HC
  rw [h2] at HD
  obtain ⟨e1, e2, e3⟩ := cntN_of h1 (by decide)
  obtain ⟨d1, d2, d3⟩ := cntN_of h2 (by decide)
  rw [e1] at HC e2 e3
  rw [d1] at HD d2 d3
  have HX := Lib.hid fun wx => value_Text (cutT s (cntN x - 1) (cntN y)) wx (by have := cut_size s (cntN x - 1) (cntN y); omega)
  have HE := cut_eq s (cntN x - 1) (cntN y)
  have e4 : ((cntN x - 1 : Nat) : Int) = (cntN x : Int) - 1 := by omega
  rw [e4] at HE
  replace HE := Lib.hid HE
  generalize cutT s (cntN x - 1) (cntN y) = U at *
  generalize cntN x = k at *
  generalize cntN y = l at *
  clear hx hy e1 d1 h1 h2 e4
  go_enter Tryz.func75, Tryz.ntmps75
  go_wp2_with fail
  refine (HC.out _).mono ?_
  rintro e w1 ⟨rfl, hb⟩
  obtain ⟨s22, c22_0, c22_1, c22_2, c22_3, c22_4, c22_5, f22⟩ := L6 hb (w.heap.size) (by first | omega | (simp only [sA, sC, sD, sE]; omega) | (simp; done) | (simp; omega)) (by go_simp; exact ⟨rfl, rfl, rfl, rfl, rfl, rfl⟩) (by intro o; go_simp)
  have c23 := lcc hb (g) (by (first | omega | (simp only [sz_alloc, sz_setCell, sz_drew, sz_drewN]; omega) | (simp; done) | (simp; omega)))
  have f23 := lcf hb (g) (by (first | omega | (simp only [sz_alloc, sz_setCell, sz_drew, sz_drewN]; omega) | (simp; done) | (simp; omega)))
  have s23 := lcs hb (g) (by (first | omega | (simp only [sz_alloc, sz_setCell, sz_drew, sz_drewN]; omega) | (simp; done) | (simp; omega)))
  go_wp2_with fail
  refine (HD.out _).mono ?_
  rintro e w2 ⟨rfl, hb2⟩
  obtain ⟨s24, c24_0, c24_1, c24_2, c24_3, c24_4, c24_5, f24⟩ := L6 hb2 (w.heap.size) (by first | omega | (simp only [sA, sC, sD, sE]; omega) | (simp; done) | (simp; omega)) (by go_simp; exact ⟨rfl, rfl, rfl, rfl, rfl, rfl⟩) (by intro o; go_simp)
  clear c22_0 c22_1 c22_2 c22_3 c22_4 c22_5 f22
  go_wp2_with fail
  rw [HE.out]
  refine (HX.out _).mono ?_
  rintro e w3 ⟨rfl, hb3⟩
  obtain ⟨s25, c25_0, c25_1, c25_2, c25_3, c25_4, c25_5, f25⟩ := L6 hb3 (w.heap.size) (by first | omega | (simp only [sA, sC, sD, sE]; omega) | (simp; done) | (simp; omega)) (by go_simp; exact ⟨rfl, rfl, rfl, rfl, rfl, rfl⟩) (by intro o; go_simp)
  clear c24_0 c24_1 c24_2 c24_3 c24_4 c24_5 f24
  go_wp2
  refine bodyPost_ret (v := .agg #[.int .i64 (textF U).k, .int .i64 (textF U).n, .int .i64 (textF U).d, .string (textF U).t, .bool (textF U).b, .int .i64 (textF U).f]) (by simp [results, Tryz.results75, go_sem, c25_0, c25_1, c25_2, c25_3, c25_4, c25_5]) rfl ⟨rfl, ?_⟩
  focus
    repeat with_reducible first | exact Below.refl _ _ | refine below_drewN ?_ _ | refine Below.drew ?_ | refine Below.setCell ?_ ?_ _ | refine Below.alloc ?_ ?_ _ | refine below_then ?_ ?_ (by with_reducible assumption)
    all_goals first | omega | (simp only [sA, sC, sD, sE]; omega) | (simp; done) | (simp; omega)

def nmAt (ns : List Nm) (i : Nat) : Nm := ns.getD i ⟨0, 0⟩
def pieceP (id : Int) (s : ByteArray) (ns : List Nm) : Vl :=
  if id = 51 then (if cntB (nmAt ns 0) 1 && cntB (nmAt ns 1) 0 then textF (cutT s (cntN (nmAt ns 0) - 1) (cntN (nmAt ns 1))) else faultF 8)
  else if cntB (nmAt ns 0) 0 = false then faultF 8
  else if id = 52 then (if 256 < s.size * cntN (nmAt ns 0) then faultF 7 else textF (repT s (cntN (nmAt ns 0))))
  else if id = 50 then textF (endT s (cntN (nmAt ns 0)))
  else textF (cutT s 0 (cntN (nmAt ns 0)))
theorem rep_none (k : Nat) : repT ⟨#[]⟩ k = ⟨#[]⟩ := by
  unfold repT
  rw [show (⟨#[]⟩ : ByteArray).data.toList = [] from rfl, Lib.repeatL_nil]
theorem funcs_piece (id : Int) (s : ByteArray) (ns : List Nm) (a : Option Addr) (n c : Nat) (w : World) (hid : id = 49 ∨ id = 50 ∨ id = 51 ∨ id = 52) (hn : ns.length = n) (h1 : 1 ≤ n) (h51 : id = 51 → 2 ≤ n) (hc : n ≤ c) (hin : ∀ x ∈ ns, I64 x.n ∧ I64 x.d) (hr : NmAt w a ns) (hs : s.size ≤ 256) :
    Calls Tryz.prog 75 #[.int .i64 id, .string s, .slice a n c] w fun e w' => e = .returned (.agg #[.int .i64 (pieceP id s ns).k, .int .i64 (pieceP id s ns).n, .int .i64 (pieceP id s ns).d, .string (pieceP id s ns).t, .bool (pieceP id s ns).b, .int .i64 (pieceP id s ns).f]) ∧ Below w.heap.size w w' := by
  obtain ⟨g, off, rfl, hg, hcell⟩ := hr (by omega)
  match ns, hn with
  | [], hn => simp at hn; omega
  | x :: ns, hn =>
    obtain ⟨c0, c1⟩ := hcell 0 x (by simp)
    simp only [Nat.zero_mul, Nat.add_zero] at c0 c1
    have hx := hin x (by simp)
    have e0 : nmAt (x :: ns) 0 = x := rfl
    unfold pieceP
    rw [e0]
    rcases hid with rfl | rfl | rfl | rfl
    · rw [if_neg (by decide)]
      cases hb : cntB x 0
      · rw [if_pos rfl]; exact piece49_bad s g off n c x w h1 hc hg c0 c1 hx hb
      · rw [if_neg (by simp), if_neg (by decide), if_neg (by decide)]; exact piece49_ok s g off n c x w h1 hc hg c0 c1 hx hb hs
    · rw [if_neg (by decide)]
      cases hb : cntB x 0
      · rw [if_pos rfl]; exact piece50_bad s g off n c x w h1 hc hg c0 c1 hx hb
      · rw [if_neg (by simp), if_neg (by decide), if_pos rfl]; exact piece50_ok s g off n c x w h1 hc hg c0 c1 hx hb hs
    · rw [if_pos rfl]
      have h2 := h51 rfl
      match ns, hn with
      | [], hn => simp at hn; omega
      | y :: ns, hn =>
        obtain ⟨c2, c3⟩ := hcell 1 y (by simp)
        simp only [Nat.one_mul] at c2 c3
        have hy := hin y (by simp)
        have e1 : nmAt (x :: y :: ns) 1 = y := rfl
        rw [e1]
        cases hb : (cntB x 1 && cntB y 0)
        · rw [if_neg (by simp)]; exact piece51_bad s g off n c x y w h2 hc hg c0 c1 c2 c3 hx hy hb
        · rw [if_pos rfl]
          rw [Bool.and_eq_true] at hb
          exact piece51_ok s g off n c x y w h2 hc hg c0 c1 c2 c3 hx hy hb.1 hb.2 hs
    · rw [if_neg (by decide)]
      cases hb : cntB x 0
      · rw [if_pos rfl]; exact piece52_bad s g off n c x w h1 hc hg c0 c1 hx hb
      · rw [if_neg (by simp), if_pos rfl]
        by_cases hl : 256 < s.size * cntN x
        · rw [if_pos hl]; exact piece52_long s g off n c x w h1 hc hg c0 c1 hx hb hs hl
        · rw [if_neg hl]
          by_cases h0 : s = ⟨#[]⟩
          · have := piece52_none s g off n c x w h1 hc hg c0 c1 hx hb h0
            rw [h0, rep_none]
            rwa [h0] at this
          · exact piece52_ok s g off n c x w h1 hc hg c0 c1 hx hb hs hl h0
end Go.Proofs.YtglngfaagjgpjaaGreatDoor
