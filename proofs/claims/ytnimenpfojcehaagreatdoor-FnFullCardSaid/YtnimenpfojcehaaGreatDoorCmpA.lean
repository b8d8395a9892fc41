/- Walks of package value: beside, Cmp, Same. -/
import Derived.Test.YtnimenpfojcehaaGreatDoorBase
import Derived.Test.YtnimenpfojcehaaGreatDoorVTA
import Derived.Test.YtnimenpfojcehaaGreatDoorEach
import Derived.Test.YtnimenpfojcehaaGreatDoorShelfV
import Derived.Deep.QuietTactic
import Derived.BigQuiet
import Derived.Deep.Cut
namespace Go.Proofs.YtnimenpfojcehaaGreatDoor
open Go Go.RowKit
set_option linter.unusedSimpArgs false
set_option linter.unusedVariables false

/-- What Blank counts as against a value of a kind. -/
def besideV (k : Int) : Vl := if k = 1 then numF 0 1 else if k = 2 then textV noT else if k = 3 then truthV false else blankV
set_option maxHeartbeats 1000000 in
theorem value_beside (k : Int) (w : World) :
    Calls Tryz.prog 74 #[.int .i64 k] w fun e w' => e = .returned (.agg #[.int .i64 (besideV k).k, .int .i64 (besideV k).n, .int .i64 (besideV k).d, .string (besideV k).t, .bool (besideV k).b, .int .i64 (besideV k).f]) ∧ Below w.heap.size w w' := by
  have HN := Lib.hid fun wx => value_Number 0 1 wx ⟨by decide, by decide⟩ ⟨by decide, by decide⟩
  have HT := Lib.hid fun wx => value_Text noT wx (by decide)
  have et : textF noT = textV noT := by decide
  rw [et] at HT
  have HB := Lib.hid fun wx => value_Truth false wx
  have HF : Hid (besideV k = if k = 1 then numF 0 1 else if k = 2 then textV noT else if k = 3 then truthV false else blankV) := rfl
  clear et
  generalize besideV k = Q at *
  by_cases h1 : k = 1
  · have k1 : (k == 1) = true := by simp [h1]
    have HQ : Hid (Q = numF 0 1) := by unfold Hid; rw [HF.out, if_pos h1]
    generalize numF 0 1 = Z at *
    clear h1 HF
    go_enter Tryz.func74, Tryz.ntmps74
    go_wp2_with fail
    refine (value_number 0 _).mono ?_
    rintro e w1 ⟨rfl, hb⟩
    obtain ⟨s1, c1_0, c1_1, c1_2, c1_3, c1_4, c1_5, f1⟩ := L6 hb (w.heap.size) (by first | omega | (simp only [sA, sC, sD, sE]; omega) | (simp; done) | (simp; omega)) (by go_simp; exact ⟨rfl, rfl, rfl, rfl, rfl, rfl⟩) (by intro o; go_simp)
    go_wp2_with fail
    refine (HN.out _).mono ?_
    rintro e w2 ⟨rfl, hb2⟩
    obtain ⟨s2, c2_0, c2_1, c2_2, c2_3, c2_4, c2_5, f2⟩ := L6 hb2 (w.heap.size) (by first | omega | (simp only [sA, sC, sD, sE]; omega) | (simp; done) | (simp; omega)) (by go_simp; exact ⟨rfl, rfl, rfl, rfl, rfl, rfl⟩) (by intro o; go_simp)
    clear c1_0 c1_1 c1_2 c1_3 c1_4 c1_5 f1
    go_wp2
    refine bodyPost_ret (v := .agg #[.int .i64 (Q).k, .int .i64 (Q).n, .int .i64 (Q).d, .string (Q).t, .bool (Q).b, .int .i64 (Q).f]) (by rw [HQ.out]; simp [results, Tryz.results74, go_sem, c2_0, c2_1, c2_2, c2_3, c2_4, c2_5]) rfl ⟨rfl, ?_⟩
    focus
      repeat with_reducible first | exact Below.refl _ _ | refine below_drewN ?_ _ | refine Below.drew ?_ | refine Below.setCell ?_ ?_ _ | refine Below.alloc ?_ ?_ _ | refine below_then ?_ ?_ (by with_reducible assumption)
      all_goals first | omega | (simp only [sA, sC, sD, sE]; omega) | (simp; done) | (simp; omega)
  · have k1 : (k == 1) = false := by simp [h1]
    by_cases h2 : k = 2
    · have k2 : (k == 2) = true := by simp [h2]
      have HQ : Hid (Q = textV noT) := by unfold Hid; rw [HF.out, if_neg h1, if_pos h2]
      generalize textV noT = Z at *
      clear h1 h2 HF
      go_enter Tryz.func74, Tryz.ntmps74
      go_wp2_with fail
      refine (HT.out _).mono ?_
      rintro e w1 ⟨rfl, hb⟩
      obtain ⟨s3, c3_0, c3_1, c3_2, c3_3, c3_4, c3_5, f3⟩ := L6 hb (w.heap.size) (by first | omega | (simp only [sA, sC, sD, sE]; omega) | (simp; done) | (simp; omega)) (by go_simp; exact ⟨rfl, rfl, rfl, rfl, rfl, rfl⟩) (by intro o; go_simp)
      go_wp2
      refine bodyPost_ret (v := .agg #[.int .i64 (Q).k, .int .i64 (Q).n, .int .i64 (Q).d, .string (Q).t, .bool (Q).b, .int .i64 (Q).f]) (by rw [HQ.out]; simp [results, Tryz.results74, go_sem, c3_0, c3_1, c3_2, c3_3, c3_4, c3_5]) rfl ⟨rfl, ?_⟩
      focus
        repeat with_reducible first | exact Below.refl _ _ | refine below_drewN ?_ _ | refine Below.drew ?_ | refine Below.setCell ?_ ?_ _ | refine Below.alloc ?_ ?_ _ | refine below_then ?_ ?_ (by with_reducible assumption)
        all_goals first | omega | (simp only [sA, sC, sD, sE]; omega) | (simp; done) | (simp; omega)
    · have k2 : (k == 2) = false := by simp [h2]
      by_cases h3 : k = 3
      · have k3 : (k == 3) = true := by simp [h3]
        have HQ : Hid (Q = truthV false) := by unfold Hid; rw [HF.out, if_neg h1, if_neg h2, if_pos h3]
        generalize truthV false = Z at *
        clear h1 h2 h3 HF
        go_enter Tryz.func74, Tryz.ntmps74
        go_wp2_with fail
        refine (HB.out _).mono ?_
        rintro e w1 ⟨rfl, hb⟩
        obtain ⟨s4, c4_0, c4_1, c4_2, c4_3, c4_4, c4_5, f4⟩ := L6 hb (w.heap.size) (by first | omega | (simp only [sA, sC, sD, sE]; omega) | (simp; done) | (simp; omega)) (by go_simp; exact ⟨rfl, rfl, rfl, rfl, rfl, rfl⟩) (by intro o; go_simp)
        go_wp2
        refine bodyPost_ret (v := .agg #[.int .i64 (Q).k, .int .i64 (Q).n, .int .i64 (Q).d, .string (Q).t, .bool (Q).b, .int .i64 (Q).f]) (by rw [HQ.out]; simp [results, Tryz.results74, go_sem, c4_0, c4_1, c4_2, c4_3, c4_4, c4_5]) rfl ⟨rfl, ?_⟩
        focus
          repeat with_reducible first | exact Below.refl _ _ | refine below_drewN ?_ _ | refine Below.drew ?_ | refine Below.setCell ?_ ?_ _ | refine Below.alloc ?_ ?_ _ | refine below_then ?_ ?_ (by with_reducible assumption)
          all_goals first | omega | (simp only [sA, sC, sD, sE]; omega) | (simp; done) | (simp; omega)
      · have k3 : (k == 3) = false := by simp [h3]
        have HQ : Hid (Q = blankV) := by unfold Hid; rw [HF.out, if_neg h1, if_neg h2, if_neg h3]
        have HBL := Lib.hid fun wx => value_Blank wx
        generalize blankV = Z at *
        clear h1 h2 h3 HF
        go_enter Tryz.func74, Tryz.ntmps74
        go_wp2_with fail
        refine (HBL.out _).mono ?_
        rintro e w1 ⟨rfl, hb⟩
        obtain ⟨s5, c5_0, c5_1, c5_2, c5_3, c5_4, c5_5, f5⟩ := L6 hb (w.heap.size) (by first | omega | (simp only [sA, sC, sD, sE]; omega) | (simp; done) | (simp; omega)) (by go_simp; exact ⟨rfl, rfl, rfl, rfl, rfl, rfl⟩) (by intro o; go_simp)
        go_wp2
        refine bodyPost_ret (v := .agg #[.int .i64 (Q).k, .int .i64 (Q).n, .int .i64 (Q).d, .string (Q).t, .bool (Q).b, .int .i64 (Q).f]) (by rw [HQ.out]; simp [results, Tryz.results74, go_sem, c5_0, c5_1, c5_2, c5_3, c5_4, c5_5]) rfl ⟨rfl, ?_⟩
        focus
          repeat with_reducible first | exact Below.refl _ _ | refine below_drewN ?_ _ | refine Below.drew ?_ | refine Below.setCell ?_ ?_ _ | refine Below.alloc ?_ ?_ _ | refine below_then ?_ ?_ (by with_reducible assumption)
          all_goals first | omega | (simp only [sA, sC, sD, sE]; omega) | (simp; done) | (simp; omega)

/-- The order of two texts, byte by byte. -/
def cmpB (a b : ByteArray) : Int := Lib.compareBytes a.data.toList b.data.toList
def cmpT (x y : Vl) : Int :=
  if x.k < y.k then -1 else if y.k < x.k then 1 else if x.k = 1 then cmpN x.n x.d y.n y.d else if x.k = 2 then cmpB x.t y.t else
  if x.k = 4 then (if x.f < y.f then -1 else if y.f < x.f then 1 else 0) else if x.b = y.b then 0 else if y.b then -1 else 1
def fillA (x y : Vl) : Vl := if x.k = 0 then besideV y.k else x
def cmpV (a b : Vl) : Int := cmpT (fillA (tkV a) (tkV b)) (fillA (tkV b) (fillA (tkV a) (tkV b)))
theorem cg {a b : Int} (h : a = b) : Ending.returned (.int .i64 b) = Ending.returned (.int .i64 a) := by rw [h]
theorem beside_right (k : Int) : rightV (besideV k) = true := by
  unfold besideV
  split
  · decide
  · split
    · decide
    · split <;> decide
theorem fillA_right {x y : Vl} (h : rightV x = true) : rightV (fillA x y) = true := by
  unfold fillA
  split
  · exact beside_right _
  · exact h
set_option maxRecDepth 100000 in
set_option maxHeartbeats 4000000 in
theorem value_Cmp (k n d : Int) (t : ByteArray) (b : Bool) (f k' n' d' : Int) (t' : ByteArray) (b' : Bool) (f' : Int) (w : World) (hx : Vl.In ⟨k, n, d, t, b, f⟩) (hy : Vl.In ⟨k', n', d', t', b', f'⟩) :
    Calls Tryz.prog 54 #[.agg #[.int .i64 k, .int .i64 n, .int .i64 d, .string t, .bool b, .int .i64 f], .agg #[.int .i64 k', .int .i64 n', .int .i64 d', .string t', .bool b', .int .i64 f']] w fun e w' => e = .returned (.int .i64 (cmpV ⟨k, n, d, t, b, f⟩ ⟨k', n', d', t', b', f'⟩)) ∧ Below w.heap.size w w' := by
  have HT1 := Lib.hid fun wx => value_taken k n d t b f wx hx
  have HT2 := Lib.hid fun wx => value_taken k' n' d' t' b' f' wx hy
  have hx2 := tkV_right ⟨k, n, d, t, b, f⟩
  have hy2 := tkV_right ⟨k', n', d', t', b', f'⟩
  have HV : Hid (cmpV ⟨k, n, d, t, b, f⟩ ⟨k', n', d', t', b', f'⟩ = cmpT (fillA (tkV ⟨k, n, d, t, b, f⟩) (tkV ⟨k', n', d', t', b', f'⟩)) (fillA (tkV ⟨k', n', d', t', b', f'⟩) (fillA (tkV ⟨k, n, d, t, b, f⟩) (tkV ⟨k', n', d', t', b', f'⟩)))) := rfl
  generalize cmpV ⟨k, n, d, t, b, f⟩ ⟨k', n', d', t', b', f'⟩ = RES at *
  generalize tkV ⟨k, n, d, t, b, f⟩ = x at *
  generalize tkV ⟨k', n', d', t', b', f'⟩ = y at *
  have A0 := Lib.hid (show Blk ((w.alloc (.cells #[.int .i64 k, .int .i64 n, .int .i64 d, .string t, .bool b, .int .i64 f] 33)).alloc (.cells #[.int .i64 k', .int .i64 n', .int .i64 d', .string t', .bool b', .int .i64 f'] 33)) w.heap.size (vArr ⟨k, n, d, t, b, f⟩) 33 from Blk.alloc (heap_alloc_new _ _) _)
  have B0 : Hid (Blk ((w.alloc (.cells #[.int .i64 k, .int .i64 n, .int .i64 d, .string t, .bool b, .int .i64 f] 33)).alloc (.cells #[.int .i64 k', .int .i64 n', .int .i64 d', .string t', .bool b', .int .i64 f'] 33)) (w.heap.size + 1) (vArr ⟨k', n', d', t', b', f'⟩) 33) := by
    have h := heap_alloc_new (w.alloc (.cells #[.int .i64 k, .int .i64 n, .int .i64 d, .string t, .bool b, .int .i64 f] 33)) (.cells #[.int .i64 k', .int .i64 n', .int .i64 d', .string t', .bool b', .int .i64 f'] 33)
    rw [sz_alloc] at h
    exact h
  have W0 := Lib.hid (show Below w.heap.size w ((w.alloc (.cells #[.int .i64 k, .int .i64 n, .int .i64 d, .string t, .bool b, .int .i64 f] 33)).alloc (.cells #[.int .i64 k', .int .i64 n', .int .i64 d', .string t', .bool b', .int .i64 f'] 33)) from ((Below.refl _ _).alloc (Nat.le_refl _) _).alloc (by simp only [sz_alloc]; omega) _)
  go_enter Tryz.func54, Tryz.ntmps54
  go_wp2_with fail
  refine region_below 4 (by kernel_rfl) (by kernel_rfl) ?_
  simp only [List.take_succ_cons, List.take_zero, List.drop_succ_cons, List.drop_zero]
  repeat
    first | (refine q_run ?_ ?_; focus (go_simp; done)) | (refine q_skip ?_ ?_; focus (go_simp; done))
    try (apply Exists.intro; refine ⟨fun w' hw' => ?_, ?_⟩; focus (have hc := (bcell hw'.out).1; unfold Oper.quietAt; go_simp; (try go_ints); (first | rfl | (go_at_call 52; refine (HT1.out _).mono ?_; rintro e w2 ⟨rfl, hb⟩; exact ⟨rfl, hw'.chain hb⟩) | (go_at_call 52; refine (HT2.out _).mono ?_; rintro e w2 ⟨rfl, hb⟩; exact ⟨rfl, hw'.chain hb⟩))))
    intro K hK
    go_simp
    refine hK _ ?_
    clear hK K
  refine wpQuiet_nil ?_
  intro w1 hb'
  have hb := hb'.out
  clear hb'
  have A1 := A0.out.below hb
  have B1 := B0.out.below hb
  have W1 := W0.out.trans (hb.mono W0.out.size)
  have n1 : ¬ w.heap.size = w.heap.size + 1 := by omega
  have n2 : ¬ w.heap.size + 1 = w.heap.size := by omega
  obtain ⟨_, _, _, _, _, _⟩ := A1.v6
  have fa := A1.free
  have la := A1.lt
  have H1 := Lib.hid (And.intro A1 (And.intro B1 W1))
  clear A0 B0 W0 A1 B1 W1 hb
  refine wpList_cut ?_
  go_wp2
  unfold ThenL
  refine wpList_rebase ?_
  intro wS hb'
  have hbS := hb'.out
  clear hb'
  obtain ⟨A1, B1, W1⟩ := H1.out
  have A2 : Blk wS w.heap.size (vArr x) 33 := (Blk.cast ((((((A1.set 0 _).set 1 _).set 2 _).set 3 _).set 4 _).set 5 _) rfl).below hbS
  have B2 : Blk wS (w.heap.size + 1) (vArr ⟨k', n', d', t', b', f'⟩) 33 := ((((((B1.set_ne n2 _).set_ne n2 _).set_ne n2 _).set_ne n2 _).set_ne n2 _).set_ne n2 _).below hbS
  have g1 : w.heap.size ≤ w.heap.size := Nat.le_refl _
  have g2 : w.heap.size ≤ w.heap.size + 1 := Nat.le_succ _
  have W2 := ((((((W1.setCell g1 _).setCell g1 _).setCell g1 _).setCell g1 _).setCell g1 _).setCell g1 _).trans (hbS.mono (by have := W1.size; simp only [sz_setCell]; omega))
  clear H1 A1 B1 W1 hbS fa la
  obtain ⟨_, _, _, _, _, _⟩ := B2.v6
  have fb := B2.free
  have lb := B2.lt
  have H2 := Lib.hid (And.intro A2 (And.intro B2 W2))
  clear A2 B2 W2
  refine wpList_cut ?_
  go_wp2
  unfold ThenL
  refine wpList_rebase ?_
  intro wT hb'
  have hbS := hb'.out
  clear hb'
  obtain ⟨A2, B2, W2⟩ := H2.out
  have A3 : Blk wT w.heap.size (vArr x) 33 := ((((((A2.set_ne n1 _).set_ne n1 _).set_ne n1 _).set_ne n1 _).set_ne n1 _).set_ne n1 _).below hbS
  have B3 : Blk wT (w.heap.size + 1) (vArr y) 33 := (Blk.cast ((((((B2.set 0 _).set 1 _).set 2 _).set 3 _).set 4 _).set 5 _) rfl).below hbS
  have W3 := ((((((W2.setCell g2 _).setCell g2 _).setCell g2 _).setCell g2 _).setCell g2 _).setCell g2 _).trans (hbS.mono (by have := W2.size; simp only [sz_setCell]; omega))
  clear H2 A2 B2 W2 hbS fb lb
  obtain ⟨_, _, _, _, _, _⟩ := A3.v6
  obtain ⟨_, _, _, _, _, _⟩ := B3.v6
  have H3 := Lib.hid (And.intro A3 (And.intro B3 W3))
  have fa := A3.free
  have la := A3.lt
  clear A3 B3 W3
  go_upto_if 11 with (fail)
  go_cut [] from 11 (fun wx => Below w.heap.size w wx ∧ Blk wx w.heap.size (vArr (fillA x y)) 33 ∧ Blk wx (w.heap.size + 1) (vArr y) 33)
  case first =>
    by_cases h0 : x.k = 0
    · have e0 : (x.k == 0) = true := by simp [h0]
      have HE : Hid (fillA x y = besideV y.k) := if_pos h0
      clear h0
      go_wp2_with fail
      refine (value_beside _ _).mono ?_
      rintro e w4 ⟨rfl, hb4⟩
      have A4 := H3.out.1.below hb4
      have B4 := H3.out.2.1.below hb4
      have W4 := H3.out.2.2.trans (hb4.mono H3.out.2.2.size)
      obtain ⟨_, _, _, _, _, _⟩ := A4.v6
      have fa4 := A4.free
      have la4 := A4.lt
      have H4 := Lib.hid (And.intro A4 (And.intro B4 W4))
      clear A4 B4 W4 hb4
      go_wp2
      go_meet
      obtain ⟨A4, B4, W4⟩ := H4.out
      refine ⟨(((((W4.setCell g1 _).setCell g1 _).setCell g1 _).setCell g1 _).setCell g1 _).setCell g1 _, ?_, ?_⟩
      · rw [HE.out]; exact Blk.cast ((((((A4.set 0 _).set 1 _).set 2 _).set 3 _).set 4 _).set 5 _) rfl
      · exact ((((((B4.set_ne n2 _).set_ne n2 _).set_ne n2 _).set_ne n2 _).set_ne n2 _).set_ne n2 _)
    · have e0 : (x.k == 0) = false := by simp [h0]
      have HE : Hid (fillA x y = x) := if_neg h0
      clear h0
      go_wp2
      go_meet
      exact ⟨H3.out.2.2, by rw [HE.out]; exact H3.out.1, H3.out.2.1⟩
  case rest =>
    obtain ⟨W5, A5, B5⟩ := hcut
    have hfx := fillA_right (y := y) hx2
    generalize fillA x y = x' at *
    obtain ⟨_, _, _, _, _, _⟩ := A5.v6
    obtain ⟨_, _, _, _, _, _⟩ := B5.v6
    have fb := B5.free
    have lb := B5.lt
    have H5 := Lib.hid (And.intro A5 (And.intro B5 W5))
    clear A5 B5 W5 H3 fa la
    go_upto_if 17 with (fail)
    go_cut [] from 17 (fun wx => Below w.heap.size w wx ∧ Blk wx w.heap.size (vArr x') 33 ∧ Blk wx (w.heap.size + 1) (vArr (fillA y x')) 33)
    case first =>
      by_cases h0 : y.k = 0
      · have e0 : (y.k == 0) = true := by simp [h0]
        have HE : Hid (fillA y x' = besideV x'.k) := if_pos h0
        clear h0
        go_wp2_with fail
        refine (value_beside _ _).mono ?_
        rintro e w4 ⟨rfl, hb4⟩
        have A4 := H5.out.1.below hb4
        have B4 := H5.out.2.1.below hb4
        have W4 := H5.out.2.2.trans (hb4.mono H5.out.2.2.size)
        obtain ⟨_, _, _, _, _, _⟩ := B4.v6
        have fb4 := B4.free
        have lb4 := B4.lt
        have H4 := Lib.hid (And.intro A4 (And.intro B4 W4))
        clear A4 B4 W4 hb4
        go_wp2
        go_meet
        obtain ⟨A4, B4, W4⟩ := H4.out
        refine ⟨(((((W4.setCell g2 _).setCell g2 _).setCell g2 _).setCell g2 _).setCell g2 _).setCell g2 _, ?_, ?_⟩
        · exact ((((((A4.set_ne n1 _).set_ne n1 _).set_ne n1 _).set_ne n1 _).set_ne n1 _).set_ne n1 _)
        · rw [HE.out]; exact Blk.cast ((((((B4.set 0 _).set 1 _).set 2 _).set 3 _).set 4 _).set 5 _) rfl
      · have e0 : (y.k == 0) = false := by simp [h0]
        have HE : Hid (fillA y x' = y) := if_neg h0
        clear h0
        go_wp2
        go_meet
        exact ⟨H5.out.2.2, H5.out.1, by rw [HE.out]; exact H5.out.2.1⟩
    case rest =>
      obtain ⟨W6, A6, B6⟩ := hcut
      have hfy := fillA_right (y := x') hy2
      generalize fillA y x' = y' at *
      obtain ⟨_, _, _, _, _, _⟩ := A6.v6
      obtain ⟨_, _, _, _, _, _⟩ := B6.v6
      have W6h := Lib.hid W6
      clear A6 B6 W6 H5 fb lb
      have HR : Hid (RES = cmpT x' y') := HV.out
      have hix := right_in hfx
      have hiy := right_in hfy
      have hi1 := hix.k
      have hi2 := hiy.k
      clear HV
      by_cases c1 : x'.k < y'.k
      · have HQ : Hid (RES = -1) := by unfold Hid; rw [HR.out]; unfold cmpT; rw [if_pos c1]
        go_wp2
        go_ret
        exact ⟨cg HQ.out, W6h.out⟩
      by_cases c2 : y'.k < x'.k
      · have HQ : Hid (RES = 1) := by unfold Hid; rw [HR.out]; unfold cmpT; rw [if_neg c1, if_pos c2]
        go_wp2
        go_ret
        exact ⟨cg HQ.out, W6h.out⟩
      by_cases c3 : x'.k = 1
      · have HQ : Hid (RES = cmpN x'.n x'.d y'.n y'.d) := by unfold Hid; rw [HR.out]; unfold cmpT; rw [if_neg c1, if_neg c2, if_pos c3]
        have e3 : (x'.k == 1) = true := by simp [c3]
        have HC := Lib.hid fun wx => num_Cmp x'.n x'.d y'.n y'.d wx hix.n hix.d hiy.n hiy.d
        clear c3
        go_wp2_with fail
        refine (HC.out _).mono ?_
        rintro e w4 ⟨rfl, hb4⟩
        go_wp2
        go_ret
        exact ⟨cg HQ.out, W6h.out.trans (hb4.mono W6h.out.size)⟩
      have e3 : (x'.k == 1) = false := by simp [c3]
      by_cases c4 : x'.k = 2
      · have HQ : Hid (RES = cmpB x'.t y'.t) := by unfold Hid; rw [HR.out]; unfold cmpT; rw [if_neg c1, if_neg c2, if_neg c3, if_pos c4]
        have e4 : (x'.k == 2) = true := by simp [c4]
        clear c4 c3
        go_wp2_with fail
        refine (Tryz.strings_Compare _ _ _).mono ?_
        rintro e w4 ⟨rfl, rfl⟩
        go_wp2
        go_ret
        exact ⟨cg HQ.out, W6h.out⟩
      have e4 : (x'.k == 2) = false := by simp [c4]
      by_cases c5 : x'.k = 4
      · have HQ : Hid (RES = if x'.f < y'.f then -1 else if y'.f < x'.f then 1 else 0) := by unfold Hid; rw [HR.out]; unfold cmpT; rw [if_neg c1, if_neg c2, if_neg c3, if_neg c4, if_pos c5]
        have e5 : (x'.k == 4) = true := by simp [c5]
        have hb1 : 1 ≤ x'.f ∧ x'.f ≤ 8 := by
          rcases rightV_cases hfx with e | ⟨_, e⟩ | ⟨_, _, e⟩ | e | ⟨h1, h2, _⟩
          · rw [e] at c5; cases c5
          · rw [e] at c5; cases c5
          · rw [e] at c5; cases c5
          · rw [e] at c5; cases c5
          · exact ⟨h1, h2⟩
        have hb2 : 1 ≤ y'.f ∧ y'.f ≤ 8 := by
          have c7 : y'.k = 4 := by omega
          rcases rightV_cases hfy with e | ⟨_, e⟩ | ⟨_, _, e⟩ | e | ⟨h1, h2, _⟩
          · rw [e] at c7; cases c7
          · rw [e] at c7; cases c7
          · rw [e] at c7; cases c7
          · rw [e] at c7; cases c7
          · exact ⟨h1, h2⟩
        have hw : wrap64 (x'.f - y'.f) = x'.f - y'.f := IntWalk.wrap64_in _ ⟨by omega, by omega⟩
        have hv : max (-1) (min 1 (x'.f - y'.f)) = if x'.f < y'.f then -1 else if y'.f < x'.f then 1 else 0 := by
          split
          · omega
          · split <;> omega
        have HQ2 : Hid (RES = max (-1) (min 1 (x'.f - y'.f))) := by unfold Hid; rw [HQ.out, hv]
        clear c3 c4 c5 hv
        go_wp2_with fail
        go_ret
        exact ⟨cg HQ2.out, W6h.out⟩
      have e5 : (x'.k == 4) = false := by simp [c5]
      have HQ : Hid (RES = if x'.b = y'.b then 0 else if y'.b then -1 else 1) := by unfold Hid; rw [HR.out]; unfold cmpT; rw [if_neg c1, if_neg c2, if_neg c3, if_neg c4, if_neg c5]
      clear c3 c4 c5 HR
      cases hb1 : x'.b
      · cases hb2 : y'.b
        · rw [hb1, hb2] at HQ
          go_wp2
          go_ret
          exact ⟨cg HQ.out, W6h.out⟩
        · rw [hb1, hb2] at HQ
          go_wp2
          go_ret
          exact ⟨cg HQ.out, W6h.out⟩
      · cases hb2 : y'.b
        · rw [hb1, hb2] at HQ
          go_wp2
          go_ret
          exact ⟨cg HQ.out, W6h.out⟩
        · rw [hb1, hb2] at HQ
          go_wp2
          go_ret
          exact ⟨cg HQ.out, W6h.out⟩
end Go.Proofs.YtnimenpfojcehaaGreatDoor
