/- Walks of package funcs: meets, with any needle, whatever the table of the faults' names holds. -/
import Derived.Test.YtnimenpfojcehaaGreatDoorSeekA
import Derived.Test.YtnimenpfojcehaaGreatDoorFolR
import Derived.Test.YtnimenpfojcehaaGreatDoorRightN
namespace Go.Proofs.YtnimenpfojcehaaGreatDoor
open Go Go.RowKit
set_option linter.unusedSimpArgs false
set_option linter.unusedVariables false

theorem value_Read (N : NmS) (s : ByteArray) (w : World) (hs : s.size ≤ 140737488351232) (hN : Names w N) :
    Calls Tryz.prog 207 #[.string s] w fun e w' => e = .returned (.agg #[.int .i64 (readV N s).k, .int .i64 (readV N s).n, .int .i64 (readV N s).d, .string (readV N s).t, .bool (readV N s).b, .int .i64 (readV N s).f]) ∧ Below w.heap.size w w' := by
  unfold readV
  cases h : Lib.hasPrefix s.data.toList [39]
  · rw [if_neg (by simp)]
    cases h1 : (readN s.data.toList).ok
    · rw [if_neg (by simp)]
      by_cases h2 : s = noT
      · rw [if_pos h2]; exact read_blank s w hs h h1 h2
      rw [if_neg h2]
      by_cases h3 : s = wordT true
      · rw [if_pos h3]; exact read_true s w hs h h1 h2 h3
      rw [if_neg h3]
      by_cases h4 : s = wordT false
      · rw [if_pos h4]; exact read_false s w hs h h1 h2 h3 h4
      rw [if_neg h4]; exact read_name s w hs h h1 h2 h3 h4 N hN
    · rw [if_pos rfl]
      have hb := rightN_iff.1 (readN_right h1)
      exact read_num s w hs h h1 ⟨by omega, by omega⟩ ⟨by omega, by omega⟩
  · rw [if_pos rfl]; exact read_quote s w hs h
theorem right_if {c : Prop} [Decidable c] {x y : Vl} (hx : rightV x = true) (hy : rightV y = true) : rightV (if c then x else y) = true := by
  by_cases h : c
  · rw [if_pos h]; exact hx
  · rw [if_neg h]; exact hy
theorem readV_right (N : NmS) (s : ByteArray) : rightV (readV N s) = true := by
  unfold readV hitV
  repeat' (with_reducible apply right_if)
  all_goals first | exact right_text _ | exact right_fault _ | exact right_num _ _ | exact right_truth _ | exact (by decide : rightV blankV = true)
theorem prefix_size {s : ByteArray} {l : List UInt8} (h : Lib.hasPrefix s.data.toList l = true) : l.length ≤ s.size := by
  unfold Lib.hasPrefix at h
  have h2 := (List.isPrefixOf_iff_prefix.1 h).length_le
  simpa using h2
/-- What a mark asks of a value and of what stands behind the mark. -/
def markO (k : Nat) (v A : Vl) : Bool :=
  match k with
  | 0 => (v.k == A.k) && decide (cmpV v A ≤ 0)
  | 1 => (v.k == A.k) && decide (0 ≤ cmpV v A)
  | 2 => !sameV v A
  | 3 => (v.k == A.k) && decide (cmpV v A < 0)
  | 4 => (v.k == A.k) && decide (0 < cmpV v A)
  | _ => sameV v A
def markB (k : Nat) (N : NmS) (t : ByteArray) (v : Vl) : Bool := markO k v (readV N (t.extract (if k ≤ 2 then 2 else 1) t.size))

set_option maxRecDepth 100000 in
set_option maxHeartbeats 4000000 in
theorem meets_mark0 (b : Nat) (S : AccS) (kd : Value) (v : Vl) (w : World) (hA : Blk w b (accArr S kd) 57) (hs : S.has = true) (hn : S.needle.In) (hv : v.In) (h0 : ¬ v.k = 0) (h4 : ¬ v.k = 4) (hk : S.needle.k = 2) (N : NmS) (hN : Names w N)
    (p0 : Lib.hasPrefix S.needle.t.data.toList [60, 61] = true) :
    Calls Tryz.prog 206 #[.pointer (some ⟨b, 0, none⟩), .agg #[.int .i64 (v).k, .int .i64 (v).n, .int .i64 (v).d, .string (v).t, .bool (v).b, .int .i64 (v).f]] w fun e w' => e = .returned (.bool (markB 0 N S.needle.t v)) ∧ Below w.heap.size w w' := by
  have hlt := hA.lt
  have hne : ¬ b = w.heap.size := by omega
  have hne' : ¬ w.heap.size = b := by omega
  have hne1 : ¬ b = w.heap.size + 1 := by omega
  have hne1' : ¬ w.heap.size + 1 = b := by omega
  have a16 : w.cell? ⟨b, 16, none⟩ = some (.bool true) := (hA.cell 16).trans (by rw [← hs]; rfl)
  have a1 : w.cell? ⟨b, 10, none⟩ = some (.int .i64 S.needle.k) := hA.cell 10
  have a2 : w.cell? ⟨b, 11, none⟩ = some (.int .i64 S.needle.n) := hA.cell 11
  have a3 : w.cell? ⟨b, 12, none⟩ = some (.int .i64 S.needle.d) := hA.cell 12
  have a4 : w.cell? ⟨b, 13, none⟩ = some (.string S.needle.t) := hA.cell 13
  have a5 : w.cell? ⟨b, 14, none⟩ = some (.bool S.needle.b) := hA.cell 14
  have a6 : w.cell? ⟨b, 15, none⟩ = some (.int .i64 S.needle.f) := hA.cell 15
  have hL := prefix_size p0
  simp only [List.length_cons, List.length_nil] at hL
  have HRD := Lib.hid fun (wx : World) (hb : Below w.heap.size w wx) => value_Read N (S.needle.t.extract 2 S.needle.t.size) wx (by rw [ByteArray.size_extract]; have := hn.t; omega) (hN.below hb)
  have hR := readV_right N (S.needle.t.extract 2 S.needle.t.size)
  have HB : Hid (markB 0 N S.needle.t v = markO 0 v (readV N (S.needle.t.extract 2 S.needle.t.size))) := rfl
  generalize markB 0 N S.needle.t v = RES at *
  generalize readV N (S.needle.t.extract 2 S.needle.t.size) = A at *
  have HC := Lib.hid fun wx => value_Cmp v.k v.n v.d v.t v.b v.f A.k A.n A.d A.t A.b A.f wx hv (right_in hR)
  have ec : cmpV ⟨v.k, v.n, v.d, v.t, v.b, v.f⟩ ⟨A.k, A.n, A.d, A.t, A.b, A.f⟩ = cmpV v A := rfl
  rw [ec] at HC
  have HS := Lib.hid fun wx => value_Same v.k v.n v.d v.t v.b v.f A.k A.n A.d A.t A.b A.f wx hv (right_in hR)
  have es : sameV ⟨v.k, v.n, v.d, v.t, v.b, v.f⟩ ⟨A.k, A.n, A.d, A.t, A.b, A.f⟩ = sameV v A := rfl
  rw [es] at HS
  simp only [markO] at HB
  generalize cmpV v A = C at *
  generalize sameV v A = q at *
  have k0 : (v.k == 0) = false := by simp [h0]
  have k4 : (v.k == 4) = false := by simp [h4]
  have kn : (S.needle.k == 2) = true := by simp [hk]
  clear es ec hA hs hn hv h0 h4 hk hN hR
  go_enter Tryz.func206, Tryz.ntmps206
  go_wp2
  refine wp_loop_rounds 7 ?_
  rw [rounds_succ]
  go_wp2_with fail
  refine (Tryz.strings_HasPrefix _ _ _).mono ?_
  rintro e u0 ⟨rfl, rfl⟩
  go_wp2_with fail
  refine (HRD.out _ ?_).mono ?_
  · focus
      repeat with_reducible first | exact Below.refl _ _ | refine below_drewN ?_ _ | refine Below.drew ?_ | refine Below.setCell ?_ ?_ _ | refine Below.alloc ?_ ?_ _ | refine below_then ?_ ?_ (by with_reducible assumption)
      all_goals first | omega | (simp only [sA, sC, sD, sE]; omega) | (simp; done) | (simp; omega)
  rintro e w2 ⟨rfl, hb⟩
  obtain ⟨s7, c7_0, c7_1, c7_2, c7_3, c7_4, c7_5, f7⟩ := L6 hb (w.heap.size) (by first | omega | (simp only [sA, sC, sD, sE]; omega) | (simp; done) | (simp; omega)) (by go_simp; exact ⟨rfl, rfl, rfl, rfl, rfl, rfl⟩) (by intro o; go_simp)
  have z8 := Below.size hb
  try simp only [sz_alloc, sz_setCell, sz_drew, sz_drewN] at z8
  go_wp2_with fail
  refine (HC.out _).mono ?_
  rintro e w3 ⟨rfl, hb3⟩
  obtain ⟨s9, c9_0, c9_1, c9_2, c9_3, c9_4, c9_5, f9⟩ := L6 hb3 (w.heap.size) (by first | omega | (simp only [sA, sC, sD, sE]; omega) | (simp; done) | (simp; omega)) (by go_simp; exact ⟨rfl, rfl, rfl, rfl, rfl, rfl⟩) (by intro o; go_simp)
  obtain ⟨s10, c10_0, c10_1, c10_2, c10_3, c10_4, c10_5, f10⟩ := L6 hb3 (w2.heap.size) (by first | omega | (simp only [sA, sC, sD, sE]; omega) | (simp; done) | (simp; omega)) (by go_simp; exact ⟨rfl, rfl, rfl, rfl, rfl, rfl⟩) (by intro o; go_simp)
  clear c7_0 c7_1 c7_2 c7_3 c7_4 c7_5 f7
  have hbw : Below w.heap.size w w3 := by
    focus
      repeat with_reducible first | exact Below.refl _ _ | refine below_drewN ?_ _ | refine Below.drew ?_ | refine Below.setCell ?_ ?_ _ | refine Below.alloc ?_ ?_ _ | refine below_then ?_ ?_ (by with_reducible assumption)
      all_goals first | omega | (simp only [sA, sC, sD, sE]; omega) | (simp; done) | (simp; omega)
  have HW := Lib.hid hbw
  clear hbw
  go_upto_region 19 with (fail)
  cases hkk : (v.k == A.k)
  · rw [hkk] at HB
    simp only [Bool.false_and] at HB
    go_wp2
    go_ret
    refine ⟨cgB HB.out.symm, ?_⟩
    have hbw := HW.out
    focus
      repeat with_reducible first | exact Below.refl _ _ | refine below_drewN ?_ _ | refine Below.drew ?_ | refine Below.setCell ?_ ?_ _ | refine Below.alloc ?_ ?_ _ | refine below_then ?_ ?_ (by with_reducible assumption)
      all_goals first | omega | (simp only [sA, sC, sD, sE]; omega) | (simp; done) | (simp; omega)
  rw [hkk] at HB
  simp only [Bool.true_and] at HB
  rcases Int.lt_trichotomy C 0 with hc | hc | hc
  · have d1 : (decide (C < 0)) = true := by simp; omega
    have d2 : (C == 0) = false := by simp; omega
    have d3 : (decide (C > 0)) = false := by simp; omega
    have d4 : (decide (0 < C)) = false := by simp; omega
    have HQ : Hid (true = RES) := by unfold Hid; rw [HB.out]; simp; omega
    clear HB
    go_wp2
    go_ret
    refine ⟨cgB HQ.out, ?_⟩
    have hbw := HW.out
    focus
      repeat with_reducible first | exact Below.refl _ _ | refine below_drewN ?_ _ | refine Below.drew ?_ | refine Below.setCell ?_ ?_ _ | refine Below.alloc ?_ ?_ _ | refine below_then ?_ ?_ (by with_reducible assumption)
      all_goals first | omega | (simp only [sA, sC, sD, sE]; omega) | (simp; done) | (simp; omega)
  · have d1 : (decide (C < 0)) = false := by simp; omega
    have d2 : (C == 0) = true := by simp; omega
    have d3 : (decide (C > 0)) = false := by simp; omega
    have d4 : (decide (0 < C)) = false := by simp; omega
    have HQ : Hid (true = RES) := by unfold Hid; rw [HB.out]; simp; omega
    clear HB
    go_wp2
    go_ret
    refine ⟨cgB HQ.out, ?_⟩
    have hbw := HW.out
    focus
      repeat with_reducible first | exact Below.refl _ _ | refine below_drewN ?_ _ | refine Below.drew ?_ | refine Below.setCell ?_ ?_ _ | refine Below.alloc ?_ ?_ _ | refine below_then ?_ ?_ (by with_reducible assumption)
      all_goals first | omega | (simp only [sA, sC, sD, sE]; omega) | (simp; done) | (simp; omega)
  · have d1 : (decide (C < 0)) = false := by simp; omega
    have d2 : (C == 0) = false := by simp; omega
    have d3 : (decide (C > 0)) = true := by simp; omega
    have d4 : (decide (0 < C)) = true := by simp; omega
    have HQ : Hid (false = RES) := by unfold Hid; rw [HB.out]; simp; omega
    clear HB
    go_wp2
    go_ret
    refine ⟨cgB HQ.out, ?_⟩
    have hbw := HW.out
    focus
      repeat with_reducible first | exact Below.refl _ _ | refine below_drewN ?_ _ | refine Below.drew ?_ | refine Below.setCell ?_ ?_ _ | refine Below.alloc ?_ ?_ _ | refine below_then ?_ ?_ (by with_reducible assumption)
      all_goals first | omega | (simp only [sA, sC, sD, sE]; omega) | (simp; done) | (simp; omega)
set_option maxRecDepth 100000 in
set_option maxHeartbeats 4000000 in
theorem meets_mark1 (b : Nat) (S : AccS) (kd : Value) (v : Vl) (w : World) (hA : Blk w b (accArr S kd) 57) (hs : S.has = true) (hn : S.needle.In) (hv : v.In) (h0 : ¬ v.k = 0) (h4 : ¬ v.k = 4) (hk : S.needle.k = 2) (N : NmS) (hN : Names w N)
    (p0 : Lib.hasPrefix S.needle.t.data.toList [60, 61] = false)
    (p1 : Lib.hasPrefix S.needle.t.data.toList [62, 61] = true) :
    Calls Tryz.prog 206 #[.pointer (some ⟨b, 0, none⟩), .agg #[.int .i64 (v).k, .int .i64 (v).n, .int .i64 (v).d, .string (v).t, .bool (v).b, .int .i64 (v).f]] w fun e w' => e = .returned (.bool (markB 1 N S.needle.t v)) ∧ Below w.heap.size w w' := by
  have hlt := hA.lt
  have hne : ¬ b = w.heap.size := by omega
  have hne' : ¬ w.heap.size = b := by omega
  have hne1 : ¬ b = w.heap.size + 1 := by omega
  have hne1' : ¬ w.heap.size + 1 = b := by omega
  have a16 : w.cell? ⟨b, 16, none⟩ = some (.bool true) := (hA.cell 16).trans (by rw [← hs]; rfl)
  have a11 : w.cell? ⟨b, 10, none⟩ = some (.int .i64 S.needle.k) := hA.cell 10
  have a12 : w.cell? ⟨b, 11, none⟩ = some (.int .i64 S.needle.n) := hA.cell 11
  have a13 : w.cell? ⟨b, 12, none⟩ = some (.int .i64 S.needle.d) := hA.cell 12
  have a14 : w.cell? ⟨b, 13, none⟩ = some (.string S.needle.t) := hA.cell 13
  have a15 : w.cell? ⟨b, 14, none⟩ = some (.bool S.needle.b) := hA.cell 14
  have a16 : w.cell? ⟨b, 15, none⟩ = some (.int .i64 S.needle.f) := hA.cell 15
  have hL := prefix_size p1
  simp only [List.length_cons, List.length_nil] at hL
  have HRD := Lib.hid fun (wx : World) (hb : Below w.heap.size w wx) => value_Read N (S.needle.t.extract 2 S.needle.t.size) wx (by rw [ByteArray.size_extract]; have := hn.t; omega) (hN.below hb)
  have hR := readV_right N (S.needle.t.extract 2 S.needle.t.size)
  have HB : Hid (markB 1 N S.needle.t v = markO 1 v (readV N (S.needle.t.extract 2 S.needle.t.size))) := rfl
  generalize markB 1 N S.needle.t v = RES at *
  generalize readV N (S.needle.t.extract 2 S.needle.t.size) = A at *
  have HC := Lib.hid fun wx => value_Cmp v.k v.n v.d v.t v.b v.f A.k A.n A.d A.t A.b A.f wx hv (right_in hR)
  have ec : cmpV ⟨v.k, v.n, v.d, v.t, v.b, v.f⟩ ⟨A.k, A.n, A.d, A.t, A.b, A.f⟩ = cmpV v A := rfl
  rw [ec] at HC
  have HS := Lib.hid fun wx => value_Same v.k v.n v.d v.t v.b v.f A.k A.n A.d A.t A.b A.f wx hv (right_in hR)
  have es : sameV ⟨v.k, v.n, v.d, v.t, v.b, v.f⟩ ⟨A.k, A.n, A.d, A.t, A.b, A.f⟩ = sameV v A := rfl
  rw [es] at HS
  simp only [markO] at HB
  generalize cmpV v A = C at *
  generalize sameV v A = q at *
  have k0 : (v.k == 0) = false := by simp [h0]
  have k4 : (v.k == 4) = false := by simp [h4]
  have kn : (S.needle.k == 2) = true := by simp [hk]
  clear es ec hA hs hn hv h0 h4 hk hN hR
  go_enter Tryz.func206, Tryz.ntmps206
  go_wp2
  refine wp_loop_rounds 7 ?_
  rw [rounds_succ]
  go_wp2_with fail
  refine (Tryz.strings_HasPrefix _ _ _).mono ?_
  rintro e u0 ⟨rfl, rfl⟩
  go_wp2
  rw [rounds_succ]
  go_wp2_with fail
  refine (Tryz.strings_HasPrefix _ _ _).mono ?_
  rintro e u1 ⟨rfl, rfl⟩
  go_wp2_with fail
  refine (HRD.out _ ?_).mono ?_
  · focus
      repeat with_reducible first | exact Below.refl _ _ | refine below_drewN ?_ _ | refine Below.drew ?_ | refine Below.setCell ?_ ?_ _ | refine Below.alloc ?_ ?_ _ | refine below_then ?_ ?_ (by with_reducible assumption)
      all_goals first | omega | (simp only [sA, sC, sD, sE]; omega) | (simp; done) | (simp; omega)
  rintro e w2 ⟨rfl, hb⟩
  obtain ⟨s17, c17_0, c17_1, c17_2, c17_3, c17_4, c17_5, f17⟩ := L6 hb (w.heap.size) (by first | omega | (simp only [sA, sC, sD, sE]; omega) | (simp; done) | (simp; omega)) (by go_simp; exact ⟨rfl, rfl, rfl, rfl, rfl, rfl⟩) (by intro o; go_simp)
  have z18 := Below.size hb
  try simp only [sz_alloc, sz_setCell, sz_drew, sz_drewN] at z18
  go_wp2_with fail
  refine (HC.out _).mono ?_
  rintro e w3 ⟨rfl, hb3⟩
  obtain ⟨s19, c19_0, c19_1, c19_2, c19_3, c19_4, c19_5, f19⟩ := L6 hb3 (w.heap.size) (by first | omega | (simp only [sA, sC, sD, sE]; omega) | (simp; done) | (simp; omega)) (by go_simp; exact ⟨rfl, rfl, rfl, rfl, rfl, rfl⟩) (by intro o; go_simp)
  obtain ⟨s20, c20_0, c20_1, c20_2, c20_3, c20_4, c20_5, f20⟩ := L6 hb3 (w2.heap.size) (by first | omega | (simp only [sA, sC, sD, sE]; omega) | (simp; done) | (simp; omega)) (by go_simp; exact ⟨rfl, rfl, rfl, rfl, rfl, rfl⟩) (by intro o; go_simp)
  clear c17_0 c17_1 c17_2 c17_3 c17_4 c17_5 f17
  have hbw : Below w.heap.size w w3 := by
    focus
      repeat with_reducible first | exact Below.refl _ _ | refine below_drewN ?_ _ | refine Below.drew ?_ | refine Below.setCell ?_ ?_ _ | refine Below.alloc ?_ ?_ _ | refine below_then ?_ ?_ (by with_reducible assumption)
      all_goals first | omega | (simp only [sA, sC, sD, sE]; omega) | (simp; done) | (simp; omega)
  have HW := Lib.hid hbw
  clear hbw
  go_upto_region 19 with (fail)
  cases hkk : (v.k == A.k)
  · rw [hkk] at HB
    simp only [Bool.false_and] at HB
    go_wp2
    go_ret
    refine ⟨cgB HB.out.symm, ?_⟩
    have hbw := HW.out
    focus
      repeat with_reducible first | exact Below.refl _ _ | refine below_drewN ?_ _ | refine Below.drew ?_ | refine Below.setCell ?_ ?_ _ | refine Below.alloc ?_ ?_ _ | refine below_then ?_ ?_ (by with_reducible assumption)
      all_goals first | omega | (simp only [sA, sC, sD, sE]; omega) | (simp; done) | (simp; omega)
  rw [hkk] at HB
  simp only [Bool.true_and] at HB
  rcases Int.lt_trichotomy C 0 with hc | hc | hc
  · have d1 : (decide (C < 0)) = true := by simp; omega
    have d2 : (C == 0) = false := by simp; omega
    have d3 : (decide (C > 0)) = false := by simp; omega
    have d4 : (decide (0 < C)) = false := by simp; omega
    have HQ : Hid (false = RES) := by unfold Hid; rw [HB.out]; simp; omega
    clear HB
    go_wp2
    go_ret
    refine ⟨cgB HQ.out, ?_⟩
    have hbw := HW.out
    focus
      repeat with_reducible first | exact Below.refl _ _ | refine below_drewN ?_ _ | refine Below.drew ?_ | refine Below.setCell ?_ ?_ _ | refine Below.alloc ?_ ?_ _ | refine below_then ?_ ?_ (by with_reducible assumption)
      all_goals first | omega | (simp only [sA, sC, sD, sE]; omega) | (simp; done) | (simp; omega)
  · have d1 : (decide (C < 0)) = false := by simp; omega
    have d2 : (C == 0) = true := by simp; omega
    have d3 : (decide (C > 0)) = false := by simp; omega
    have d4 : (decide (0 < C)) = false := by simp; omega
    have HQ : Hid (true = RES) := by unfold Hid; rw [HB.out]; simp; omega
    clear HB
    go_wp2
    go_ret
    refine ⟨cgB HQ.out, ?_⟩
    have hbw := HW.out
    focus
      repeat with_reducible first | exact Below.refl _ _ | refine below_drewN ?_ _ | refine Below.drew ?_ | refine Below.setCell ?_ ?_ _ | refine Below.alloc ?_ ?_ _ | refine below_then ?_ ?_ (by with_reducible assumption)
      all_goals first | omega | (simp only [sA, sC, sD, sE]; omega) | (simp; done) | (simp; omega)
  · have d1 : (decide (C < 0)) = false := by simp; omega
    have d2 : (C == 0) = false := by simp; omega
    have d3 : (decide (C > 0)) = true := by simp; omega
    have d4 : (decide (0 < C)) = true := by simp; omega
    have HQ : Hid (true = RES) := by unfold Hid; rw [HB.out]; simp; omega
    clear HB
    go_wp2
    go_ret
    refine ⟨cgB HQ.out, ?_⟩
    have hbw := HW.out
    focus
      repeat with_reducible first | exact Below.refl _ _ | refine below_drewN ?_ _ | refine Below.drew ?_ | refine Below.setCell ?_ ?_ _ | refine Below.alloc ?_ ?_ _ | refine below_then ?_ ?_ (by with_reducible assumption)
      all_goals first | omega | (simp only [sA, sC, sD, sE]; omega) | (simp; done) | (simp; omega)
set_option maxRecDepth 100000 in
set_option maxHeartbeats 4000000 in
theorem meets_mark2 (b : Nat) (S : AccS) (kd : Value) (v : Vl) (w : World) (hA : Blk w b (accArr S kd) 57) (hs : S.has = true) (hn : S.needle.In) (hv : v.In) (h0 : ¬ v.k = 0) (h4 : ¬ v.k = 4) (hk : S.needle.k = 2) (N : NmS) (hN : Names w N)
    (p0 : Lib.hasPrefix S.needle.t.data.toList [60, 61] = false)
    (p1 : Lib.hasPrefix S.needle.t.data.toList [62, 61] = false)
    (p2 : Lib.hasPrefix S.needle.t.data.toList [60, 62] = true) :
    Calls Tryz.prog 206 #[.pointer (some ⟨b, 0, none⟩), .agg #[.int .i64 (v).k, .int .i64 (v).n, .int .i64 (v).d, .string (v).t, .bool (v).b, .int .i64 (v).f]] w fun e w' => e = .returned (.bool (markB 2 N S.needle.t v)) ∧ Below w.heap.size w w' := by
  have hlt := hA.lt
  have hne : ¬ b = w.heap.size := by omega
  have hne' : ¬ w.heap.size = b := by omega
  have hne1 : ¬ b = w.heap.size + 1 := by omega
  have hne1' : ¬ w.heap.size + 1 = b := by omega
  have a16 : w.cell? ⟨b, 16, none⟩ = some (.bool true) := (hA.cell 16).trans (by rw [← hs]; rfl)
  have a21 : w.cell? ⟨b, 10, none⟩ = some (.int .i64 S.needle.k) := hA.cell 10
  have a22 : w.cell? ⟨b, 11, none⟩ = some (.int .i64 S.needle.n) := hA.cell 11
  have a23 : w.cell? ⟨b, 12, none⟩ = some (.int .i64 S.needle.d) := hA.cell 12
  have a24 : w.cell? ⟨b, 13, none⟩ = some (.string S.needle.t) := hA.cell 13
  have a25 : w.cell? ⟨b, 14, none⟩ = some (.bool S.needle.b) := hA.cell 14
  have a26 : w.cell? ⟨b, 15, none⟩ = some (.int .i64 S.needle.f) := hA.cell 15
  have hL := prefix_size p2
  simp only [List.length_cons, List.length_nil] at hL
  have HRD := Lib.hid fun (wx : World) (hb : Below w.heap.size w wx) => value_Read N (S.needle.t.extract 2 S.needle.t.size) wx (by rw [ByteArray.size_extract]; have := hn.t; omega) (hN.below hb)
  have hR := readV_right N (S.needle.t.extract 2 S.needle.t.size)
  have HB : Hid (markB 2 N S.needle.t v = markO 2 v (readV N (S.needle.t.extract 2 S.needle.t.size))) := rfl
  generalize markB 2 N S.needle.t v = RES at *
  generalize readV N (S.needle.t.extract 2 S.needle.t.size) = A at *
  have HC := Lib.hid fun wx => value_Cmp v.k v.n v.d v.t v.b v.f A.k A.n A.d A.t A.b A.f wx hv (right_in hR)
  have ec : cmpV ⟨v.k, v.n, v.d, v.t, v.b, v.f⟩ ⟨A.k, A.n, A.d, A.t, A.b, A.f⟩ = cmpV v A := rfl
  rw [ec] at HC
  have HS := Lib.hid fun wx => value_Same v.k v.n v.d v.t v.b v.f A.k A.n A.d A.t A.b A.f wx hv (right_in hR)
  have es : sameV ⟨v.k, v.n, v.d, v.t, v.b, v.f⟩ ⟨A.k, A.n, A.d, A.t, A.b, A.f⟩ = sameV v A := rfl
  rw [es] at HS
  simp only [markO] at HB
  generalize cmpV v A = C at *
  generalize sameV v A = q at *
  have k0 : (v.k == 0) = false := by simp [h0]
  have k4 : (v.k == 4) = false := by simp [h4]
  have kn : (S.needle.k == 2) = true := by simp [hk]
  clear es ec hA hs hn hv h0 h4 hk hN hR
  go_enter Tryz.func206, Tryz.ntmps206
  go_wp2
  refine wp_loop_rounds 7 ?_
  rw [rounds_succ]
  go_wp2_with fail
  refine (Tryz.strings_HasPrefix _ _ _).mono ?_
  rintro e u0 ⟨rfl, rfl⟩
  go_wp2
  rw [rounds_succ]
  go_wp2_with fail
  refine (Tryz.strings_HasPrefix _ _ _).mono ?_
  rintro e u1 ⟨rfl, rfl⟩
  go_wp2
  rw [rounds_succ]
  go_wp2_with fail
  refine (Tryz.strings_HasPrefix _ _ _).mono ?_
  rintro e u2 ⟨rfl, rfl⟩
  go_wp2_with fail
  refine (HRD.out _ ?_).mono ?_
  · focus
      repeat with_reducible first | exact Below.refl _ _ | refine below_drewN ?_ _ | refine Below.drew ?_ | refine Below.setCell ?_ ?_ _ | refine Below.alloc ?_ ?_ _ | refine below_then ?_ ?_ (by with_reducible assumption)
      all_goals first | omega | (simp only [sA, sC, sD, sE]; omega) | (simp; done) | (simp; omega)
  rintro e w2 ⟨rfl, hb⟩
  obtain ⟨s27, c27_0, c27_1, c27_2, c27_3, c27_4, c27_5, f27⟩ := L6 hb (w.heap.size) (by first | omega | (simp only [sA, sC, sD, sE]; omega) | (simp; done) | (simp; omega)) (by go_simp; exact ⟨rfl, rfl, rfl, rfl, rfl, rfl⟩) (by intro o; go_simp)
  have z28 := Below.size hb
  try simp only [sz_alloc, sz_setCell, sz_drew, sz_drewN] at z28
  go_wp2_with fail
  refine (HC.out _).mono ?_
  rintro e w3 ⟨rfl, hb3⟩
  obtain ⟨s29, c29_0, c29_1, c29_2, c29_3, c29_4, c29_5, f29⟩ := L6 hb3 (w.heap.size) (by first | omega | (simp only [sA, sC, sD, sE]; omega) | (simp; done) | (simp; omega)) (by go_simp; exact ⟨rfl, rfl, rfl, rfl, rfl, rfl⟩) (by intro o; go_simp)
  obtain ⟨s30, c30_0, c30_1, c30_2, c30_3, c30_4, c30_5, f30⟩ := L6 hb3 (w2.heap.size) (by first | omega | (simp only [sA, sC, sD, sE]; omega) | (simp; done) | (simp; omega)) (by go_simp; exact ⟨rfl, rfl, rfl, rfl, rfl, rfl⟩) (by intro o; go_simp)
  clear c27_0 c27_1 c27_2 c27_3 c27_4 c27_5 f27
  go_wp2_with fail
  refine (HS.out _).mono ?_
  rintro e w4 ⟨rfl, hb4⟩
  go_wp2
  go_ret
  refine ⟨cgB HB.out.symm, ?_⟩
  focus
    repeat with_reducible first | exact Below.refl _ _ | refine below_drewN ?_ _ | refine Below.drew ?_ | refine Below.setCell ?_ ?_ _ | refine Below.alloc ?_ ?_ _ | refine below_then ?_ ?_ (by with_reducible assumption)
    all_goals first | omega | (simp only [sA, sC, sD, sE]; omega) | (simp; done) | (simp; omega)
set_option maxRecDepth 100000 in
set_option maxHeartbeats 4000000 in
theorem meets_mark3 (b : Nat) (S : AccS) (kd : Value) (v : Vl) (w : World) (hA : Blk w b (accArr S kd) 57) (hs : S.has = true) (hn : S.needle.In) (hv : v.In) (h0 : ¬ v.k = 0) (h4 : ¬ v.k = 4) (hk : S.needle.k = 2) (N : NmS) (hN : Names w N)
    (p0 : Lib.hasPrefix S.needle.t.data.toList [60, 61] = false)
    (p1 : Lib.hasPrefix S.needle.t.data.toList [62, 61] = false)
    (p2 : Lib.hasPrefix S.needle.t.data.toList [60, 62] = false)
    (p3 : Lib.hasPrefix S.needle.t.data.toList [60] = true) :
    Calls Tryz.prog 206 #[.pointer (some ⟨b, 0, none⟩), .agg #[.int .i64 (v).k, .int .i64 (v).n, .int .i64 (v).d, .string (v).t, .bool (v).b, .int .i64 (v).f]] w fun e w' => e = .returned (.bool (markB 3 N S.needle.t v)) ∧ Below w.heap.size w w' := by
  have hlt := hA.lt
  have hne : ¬ b = w.heap.size := by omega
  have hne' : ¬ w.heap.size = b := by omega
  have hne1 : ¬ b = w.heap.size + 1 := by omega
  have hne1' : ¬ w.heap.size + 1 = b := by omega
  have a16 : w.cell? ⟨b, 16, none⟩ = some (.bool true) := (hA.cell 16).trans (by rw [← hs]; rfl)
  have a31 : w.cell? ⟨b, 10, none⟩ = some (.int .i64 S.needle.k) := hA.cell 10
  have a32 : w.cell? ⟨b, 11, none⟩ = some (.int .i64 S.needle.n) := hA.cell 11
  have a33 : w.cell? ⟨b, 12, none⟩ = some (.int .i64 S.needle.d) := hA.cell 12
  have a34 : w.cell? ⟨b, 13, none⟩ = some (.string S.needle.t) := hA.cell 13
  have a35 : w.cell? ⟨b, 14, none⟩ = some (.bool S.needle.b) := hA.cell 14
  have a36 : w.cell? ⟨b, 15, none⟩ = some (.int .i64 S.needle.f) := hA.cell 15
  have hL := prefix_size p3
  simp only [List.length_cons, List.length_nil] at hL
  have HRD := Lib.hid fun (wx : World) (hb : Below w.heap.size w wx) => value_Read N (S.needle.t.extract 1 S.needle.t.size) wx (by rw [ByteArray.size_extract]; have := hn.t; omega) (hN.below hb)
  have hR := readV_right N (S.needle.t.extract 1 S.needle.t.size)
  have HB : Hid (markB 3 N S.needle.t v = markO 3 v (readV N (S.needle.t.extract 1 S.needle.t.size))) := rfl
  generalize markB 3 N S.needle.t v = RES at *
  generalize readV N (S.needle.t.extract 1 S.needle.t.size) = A at *
  have HC := Lib.hid fun wx => value_Cmp v.k v.n v.d v.t v.b v.f A.k A.n A.d A.t A.b A.f wx hv (right_in hR)
  have ec : cmpV ⟨v.k, v.n, v.d, v.t, v.b, v.f⟩ ⟨A.k, A.n, A.d, A.t, A.b, A.f⟩ = cmpV v A := rfl
  rw [ec] at HC
  have HS := Lib.hid fun wx => value_Same v.k v.n v.d v.t v.b v.f A.k A.n A.d A.t A.b A.f wx hv (right_in hR)
  have es : sameV ⟨v.k, v.n, v.d, v.t, v.b, v.f⟩ ⟨A.k, A.n, A.d, A.t, A.b, A.f⟩ = sameV v A := rfl
  rw [es] at HS
  simp only [markO] at HB
  generalize cmpV v A = C at *
  generalize sameV v A = q at *
  have k0 : (v.k == 0) = false := by simp [h0]
  have k4 : (v.k == 4) = false := by simp [h4]
  have kn : (S.needle.k == 2) = true := by simp [hk]
  clear es ec hA hs hn hv h0 h4 hk hN hR
  go_enter Tryz.func206, Tryz.ntmps206
  go_wp2
  refine wp_loop_rounds 7 ?_
  rw [rounds_succ]
  go_wp2_with fail
  refine (Tryz.strings_HasPrefix _ _ _).mono ?_
  rintro e u0 ⟨rfl, rfl⟩
  go_wp2
  rw [rounds_succ]
  go_wp2_with fail
  refine (Tryz.strings_HasPrefix _ _ _).mono ?_
  rintro e u1 ⟨rfl, rfl⟩
  go_wp2
  rw [rounds_succ]
  go_wp2_with fail
  refine (Tryz.strings_HasPrefix _ _ _).mono ?_
  rintro e u2 ⟨rfl, rfl⟩
  go_wp2
  rw [rounds_succ]
  go_wp2_with fail
  refine (Tryz.strings_HasPrefix _ _ _).mono ?_
  rintro e u3 ⟨rfl, rfl⟩
  go_wp2_with fail
  refine (HRD.out _ ?_).mono ?_
  · focus
      repeat with_reducible first | exact Below.refl _ _ | refine below_drewN ?_ _ | refine Below.drew ?_ | refine Below.setCell ?_ ?_ _ | refine Below.alloc ?_ ?_ _ | refine below_then ?_ ?_ (by with_reducible assumption)
      all_goals first | omega | (simp only [sA, sC, sD, sE]; omega) | (simp; done) | (simp; omega)
  rintro e w2 ⟨rfl, hb⟩
  obtain ⟨s37, c37_0, c37_1, c37_2, c37_3, c37_4, c37_5, f37⟩ := L6 hb (w.heap.size) (by first | omega | (simp only [sA, sC, sD, sE]; omega) | (simp; done) | (simp; omega)) (by go_simp; exact ⟨rfl, rfl, rfl, rfl, rfl, rfl⟩) (by intro o; go_simp)
  have z38 := Below.size hb
  try simp only [sz_alloc, sz_setCell, sz_drew, sz_drewN] at z38
  go_wp2_with fail
  refine (HC.out _).mono ?_
  rintro e w3 ⟨rfl, hb3⟩
  obtain ⟨s39, c39_0, c39_1, c39_2, c39_3, c39_4, c39_5, f39⟩ := L6 hb3 (w.heap.size) (by first | omega | (simp only [sA, sC, sD, sE]; omega) | (simp; done) | (simp; omega)) (by go_simp; exact ⟨rfl, rfl, rfl, rfl, rfl, rfl⟩) (by intro o; go_simp)
  obtain ⟨s40, c40_0, c40_1, c40_2, c40_3, c40_4, c40_5, f40⟩ := L6 hb3 (w2.heap.size) (by first | omega | (simp only [sA, sC, sD, sE]; omega) | (simp; done) | (simp; omega)) (by go_simp; exact ⟨rfl, rfl, rfl, rfl, rfl, rfl⟩) (by intro o; go_simp)
  clear c37_0 c37_1 c37_2 c37_3 c37_4 c37_5 f37
  have hbw : Below w.heap.size w w3 := by
    focus
      repeat with_reducible first | exact Below.refl _ _ | refine below_drewN ?_ _ | refine Below.drew ?_ | refine Below.setCell ?_ ?_ _ | refine Below.alloc ?_ ?_ _ | refine below_then ?_ ?_ (by with_reducible assumption)
      all_goals first | omega | (simp only [sA, sC, sD, sE]; omega) | (simp; done) | (simp; omega)
  have HW := Lib.hid hbw
  clear hbw
  go_upto_region 19 with (fail)
  cases hkk : (v.k == A.k)
  · rw [hkk] at HB
    simp only [Bool.false_and] at HB
    go_wp2
    go_ret
    refine ⟨cgB HB.out.symm, ?_⟩
    have hbw := HW.out
    focus
      repeat with_reducible first | exact Below.refl _ _ | refine below_drewN ?_ _ | refine Below.drew ?_ | refine Below.setCell ?_ ?_ _ | refine Below.alloc ?_ ?_ _ | refine below_then ?_ ?_ (by with_reducible assumption)
      all_goals first | omega | (simp only [sA, sC, sD, sE]; omega) | (simp; done) | (simp; omega)
  rw [hkk] at HB
  simp only [Bool.true_and] at HB
  rcases Int.lt_trichotomy C 0 with hc | hc | hc
  · have d1 : (decide (C < 0)) = true := by simp; omega
    have d2 : (C == 0) = false := by simp; omega
    have d3 : (decide (C > 0)) = false := by simp; omega
    have d4 : (decide (0 < C)) = false := by simp; omega
    have HQ : Hid (true = RES) := by unfold Hid; rw [HB.out]; simp; omega
    clear HB
    go_wp2
    go_ret
    refine ⟨cgB HQ.out, ?_⟩
    have hbw := HW.out
    focus
      repeat with_reducible first | exact Below.refl _ _ | refine below_drewN ?_ _ | refine Below.drew ?_ | refine Below.setCell ?_ ?_ _ | refine Below.alloc ?_ ?_ _ | refine below_then ?_ ?_ (by with_reducible assumption)
      all_goals first | omega | (simp only [sA, sC, sD, sE]; omega) | (simp; done) | (simp; omega)
  · have d1 : (decide (C < 0)) = false := by simp; omega
    have d2 : (C == 0) = true := by simp; omega
    have d3 : (decide (C > 0)) = false := by simp; omega
    have d4 : (decide (0 < C)) = false := by simp; omega
    have HQ : Hid (false = RES) := by unfold Hid; rw [HB.out]; simp; omega
    clear HB
    go_wp2
    go_ret
    refine ⟨cgB HQ.out, ?_⟩
    have hbw := HW.out
    focus
      repeat with_reducible first | exact Below.refl _ _ | refine below_drewN ?_ _ | refine Below.drew ?_ | refine Below.setCell ?_ ?_ _ | refine Below.alloc ?_ ?_ _ | refine below_then ?_ ?_ (by with_reducible assumption)
      all_goals first | omega | (simp only [sA, sC, sD, sE]; omega) | (simp; done) | (simp; omega)
  · have d1 : (decide (C < 0)) = false := by simp; omega
    have d2 : (C == 0) = false := by simp; omega
    have d3 : (decide (C > 0)) = true := by simp; omega
    have d4 : (decide (0 < C)) = true := by simp; omega
    have HQ : Hid (false = RES) := by unfold Hid; rw [HB.out]; simp; omega
    clear HB
    go_wp2
    go_ret
    refine ⟨cgB HQ.out, ?_⟩
    have hbw := HW.out
    focus
      repeat with_reducible first | exact Below.refl _ _ | refine below_drewN ?_ _ | refine Below.drew ?_ | refine Below.setCell ?_ ?_ _ | refine Below.alloc ?_ ?_ _ | refine below_then ?_ ?_ (by with_reducible assumption)
      all_goals first | omega | (simp only [sA, sC, sD, sE]; omega) | (simp; done) | (simp; omega)
set_option maxRecDepth 100000 in
set_option maxHeartbeats 4000000 in
theorem meets_mark4 (b : Nat) (S : AccS) (kd : Value) (v : Vl) (w : World) (hA : Blk w b (accArr S kd) 57) (hs : S.has = true) (hn : S.needle.In) (hv : v.In) (h0 : ¬ v.k = 0) (h4 : ¬ v.k = 4) (hk : S.needle.k = 2) (N : NmS) (hN : Names w N)
    (p0 : Lib.hasPrefix S.needle.t.data.toList [60, 61] = false)
    (p1 : Lib.hasPrefix S.needle.t.data.toList [62, 61] = false)
    (p2 : Lib.hasPrefix S.needle.t.data.toList [60, 62] = false)
    (p3 : Lib.hasPrefix S.needle.t.data.toList [60] = false)
    (p4 : Lib.hasPrefix S.needle.t.data.toList [62] = true) :
    Calls Tryz.prog 206 #[.pointer (some ⟨b, 0, none⟩), .agg #[.int .i64 (v).k, .int .i64 (v).n, .int .i64 (v).d, .string (v).t, .bool (v).b, .int .i64 (v).f]] w fun e w' => e = .returned (.bool (markB 4 N S.needle.t v)) ∧ Below w.heap.size w w' := by
  have hlt := hA.lt
  have hne : ¬ b = w.heap.size := by omega
  have hne' : ¬ w.heap.size = b := by omega
  have hne1 : ¬ b = w.heap.size + 1 := by omega
  have hne1' : ¬ w.heap.size + 1 = b := by omega
  have a16 : w.cell? ⟨b, 16, none⟩ = some (.bool true) := (hA.cell 16).trans (by rw [← hs]; rfl)
  have a41 : w.cell? ⟨b, 10, none⟩ = some (.int .i64 S.needle.k) := hA.cell 10
  have a42 : w.cell? ⟨b, 11, none⟩ = some (.int .i64 S.needle.n) := hA.cell 11
  have a43 : w.cell? ⟨b, 12, none⟩ = some (.int .i64 S.needle.d) := hA.cell 12
  have a44 : w.cell? ⟨b, 13, none⟩ = some (.string S.needle.t) := hA.cell 13
  have a45 : w.cell? ⟨b, 14, none⟩ = some (.bool S.needle.b) := hA.cell 14
  have a46 : w.cell? ⟨b, 15, none⟩ = some (.int .i64 S.needle.f) := hA.cell 15
  have hL := prefix_size p4
  simp only [List.length_cons, List.length_nil] at hL
  have HRD := Lib.hid fun (wx : World) (hb : Below w.heap.size w wx) => value_Read N (S.needle.t.extract 1 S.needle.t.size) wx (by rw [ByteArray.size_extract]; have := hn.t; omega) (hN.below hb)
  have hR := readV_right N (S.needle.t.extract 1 S.needle.t.size)
  have HB : Hid (markB 4 N S.needle.t v = markO 4 v (readV N (S.needle.t.extract 1 S.needle.t.size))) := rfl
  generalize markB 4 N S.needle.t v = RES at *
  generalize readV N (S.needle.t.extract 1 S.needle.t.size) = A at *
  have HC := Lib.hid fun wx => value_Cmp v.k v.n v.d v.t v.b v.f A.k A.n A.d A.t A.b A.f wx hv (right_in hR)
  have ec : cmpV ⟨v.k, v.n, v.d, v.t, v.b, v.f⟩ ⟨A.k, A.n, A.d, A.t, A.b, A.f⟩ = cmpV v A := rfl
  rw [ec] at HC
  have HS := Lib.hid fun wx => value_Same v.k v.n v.d v.t v.b v.f A.k A.n A.d A.t A.b A.f wx hv (right_in hR)
  have es : sameV ⟨v.k, v.n, v.d, v.t, v.b, v.f⟩ ⟨A.k, A.n, A.d, A.t, A.b, A.f⟩ = sameV v A := rfl
  rw [es] at HS
  simp only [markO] at HB
  generalize cmpV v A = C at *
  generalize sameV v A = q at *
  have k0 : (v.k == 0) = false := by simp [h0]
  have k4 : (v.k == 4) = false := by simp [h4]
  have kn : (S.needle.k == 2) = true := by simp [hk]
  clear es ec hA hs hn hv h0 h4 hk hN hR
  go_enter Tryz.func206, Tryz.ntmps206
  go_wp2
  refine wp_loop_rounds 7 ?_
  rw [rounds_succ]
  go_wp2_with fail
  refine (Tryz.strings_HasPrefix _ _ _).mono ?_
  rintro e u0 ⟨rfl, rfl⟩
  go_wp2
  rw [rounds_succ]
  go_wp2_with fail
  refine (Tryz.strings_HasPrefix _ _ _).mono ?_
  rintro e u1 ⟨rfl, rfl⟩
  go_wp2
  rw [rounds_succ]
  go_wp2_with fail
  refine (Tryz.strings_HasPrefix _ _ _).mono ?_
  rintro e u2 ⟨rfl, rfl⟩
  go_wp2
  rw [rounds_succ]
  go_wp2_with fail
  refine (Tryz.strings_HasPrefix _ _ _).mono ?_
  rintro e u3 ⟨rfl, rfl⟩
  go_wp2
  rw [rounds_succ]
  go_wp2_with fail
  refine (Tryz.strings_HasPrefix _ _ _).mono ?_
  rintro e u4 ⟨rfl, rfl⟩
  go_wp2_with fail
  refine (HRD.out _ ?_).mono ?_
  · focus
      repeat with_reducible first | exact Below.refl _ _ | refine below_drewN ?_ _ | refine Below.drew ?_ | refine Below.setCell ?_ ?_ _ | refine Below.alloc ?_ ?_ _ | refine below_then ?_ ?_ (by with_reducible assumption)
      all_goals first | omega | (simp only [sA, sC, sD, sE]; omega) | (simp; done) | (simp; omega)
  rintro e w2 ⟨rfl, hb⟩
  obtain ⟨s47, c47_0, c47_1, c47_2, c47_3, c47_4, c47_5, f47⟩ := L6 hb (w.heap.size) (by first | omega | (simp only [sA, sC, sD, sE]; omega) | (simp; done) | (simp; omega)) (by go_simp; exact ⟨rfl, rfl, rfl, rfl, rfl, rfl⟩) (by intro o; go_simp)
  have z48 := Below.size hb
  try simp only [sz_alloc, sz_setCell, sz_drew, sz_drewN] at z48
  go_wp2_with fail
  refine (HC.out _).mono ?_
  rintro e w3 ⟨rfl, hb3⟩
  obtain ⟨s49, c49_0, c49_1, c49_2, c49_3, c49_4, c49_5, f49⟩ := L6 hb3 (w.heap.size) (by first | omega | (simp only [sA, sC, sD, sE]; omega) | (simp; done) | (simp; omega)) (by go_simp; exact ⟨rfl, rfl, rfl, rfl, rfl, rfl⟩) (by intro o; go_simp)
  obtain ⟨s50, c50_0, c50_1, c50_2, c50_3, c50_4, c50_5, f50⟩ := L6 hb3 (w2.heap.size) (by first | omega | (simp only [sA, sC, sD, sE]; omega) | (simp; done) | (simp; omega)) (by go_simp; exact ⟨rfl, rfl, rfl, rfl, rfl, rfl⟩) (by intro o; go_simp)
  clear c47_0 c47_1 c47_2 c47_3 c47_4 c47_5 f47
  have hbw : Below w.heap.size w w3 := by
    focus
      repeat with_reducible first | exact Below.refl _ _ | refine below_drewN ?_ _ | refine Below.drew ?_ | refine Below.setCell ?_ ?_ _ | refine Below.alloc ?_ ?_ _ | refine below_then ?_ ?_ (by with_reducible assumption)
      all_goals first | omega | (simp only [sA, sC, sD, sE]; omega) | (simp; done) | (simp; omega)
  have HW := Lib.hid hbw
  clear hbw
  go_upto_region 19 with (fail)
  cases hkk : (v.k == A.k)
  · rw [hkk] at HB
    simp only [Bool.false_and] at HB
    go_wp2
    go_ret
    refine ⟨cgB HB.out.symm, ?_⟩
    have hbw := HW.out
    focus
      repeat with_reducible first | exact Below.refl _ _ | refine below_drewN ?_ _ | refine Below.drew ?_ | refine Below.setCell ?_ ?_ _ | refine Below.alloc ?_ ?_ _ | refine below_then ?_ ?_ (by with_reducible assumption)
      all_goals first | omega | (simp only [sA, sC, sD, sE]; omega) | (simp; done) | (simp; omega)
  rw [hkk] at HB
  simp only [Bool.true_and] at HB
  rcases Int.lt_trichotomy C 0 with hc | hc | hc
  · have d1 : (decide (C < 0)) = true := by simp; omega
    have d2 : (C == 0) = false := by simp; omega
    have d3 : (decide (C > 0)) = false := by simp; omega
    have d4 : (decide (0 < C)) = false := by simp; omega
    have HQ : Hid (false = RES) := by unfold Hid; rw [HB.out]; simp; omega
    clear HB
    go_wp2
    go_ret
    refine ⟨cgB HQ.out, ?_⟩
    have hbw := HW.out
    focus
      repeat with_reducible first | exact Below.refl _ _ | refine below_drewN ?_ _ | refine Below.drew ?_ | refine Below.setCell ?_ ?_ _ | refine Below.alloc ?_ ?_ _ | refine below_then ?_ ?_ (by with_reducible assumption)
      all_goals first | omega | (simp only [sA, sC, sD, sE]; omega) | (simp; done) | (simp; omega)
  · have d1 : (decide (C < 0)) = false := by simp; omega
    have d2 : (C == 0) = true := by simp; omega
    have d3 : (decide (C > 0)) = false := by simp; omega
    have d4 : (decide (0 < C)) = false := by simp; omega
    have HQ : Hid (false = RES) := by unfold Hid; rw [HB.out]; simp; omega
    clear HB
    go_wp2
    go_ret
    refine ⟨cgB HQ.out, ?_⟩
    have hbw := HW.out
    focus
      repeat with_reducible first | exact Below.refl _ _ | refine below_drewN ?_ _ | refine Below.drew ?_ | refine Below.setCell ?_ ?_ _ | refine Below.alloc ?_ ?_ _ | refine below_then ?_ ?_ (by with_reducible assumption)
      all_goals first | omega | (simp only [sA, sC, sD, sE]; omega) | (simp; done) | (simp; omega)
  · have d1 : (decide (C < 0)) = false := by simp; omega
    have d2 : (C == 0) = false := by simp; omega
    have d3 : (decide (C > 0)) = true := by simp; omega
    have d4 : (decide (0 < C)) = true := by simp; omega
    have HQ : Hid (true = RES) := by unfold Hid; rw [HB.out]; simp; omega
    clear HB
    go_wp2
    go_ret
    refine ⟨cgB HQ.out, ?_⟩
    have hbw := HW.out
    focus
      repeat with_reducible first | exact Below.refl _ _ | refine below_drewN ?_ _ | refine Below.drew ?_ | refine Below.setCell ?_ ?_ _ | refine Below.alloc ?_ ?_ _ | refine below_then ?_ ?_ (by with_reducible assumption)
      all_goals first | omega | (simp only [sA, sC, sD, sE]; omega) | (simp; done) | (simp; omega)
set_option maxRecDepth 100000 in
set_option maxHeartbeats 4000000 in
theorem meets_mark5 (b : Nat) (S : AccS) (kd : Value) (v : Vl) (w : World) (hA : Blk w b (accArr S kd) 57) (hs : S.has = true) (hn : S.needle.In) (hv : v.In) (h0 : ¬ v.k = 0) (h4 : ¬ v.k = 4) (hk : S.needle.k = 2) (N : NmS) (hN : Names w N)
    (p0 : Lib.hasPrefix S.needle.t.data.toList [60, 61] = false)
    (p1 : Lib.hasPrefix S.needle.t.data.toList [62, 61] = false)
    (p2 : Lib.hasPrefix S.needle.t.data.toList [60, 62] = false)
    (p3 : Lib.hasPrefix S.needle.t.data.toList [60] = false)
    (p4 : Lib.hasPrefix S.needle.t.data.toList [62] = false)
    (p5 : Lib.hasPrefix S.needle.t.data.toList [61] = true) :
    Calls Tryz.prog 206 #[.pointer (some ⟨b, 0, none⟩), .agg #[.int .i64 (v).k, .int .i64 (v).n, .int .i64 (v).d, .string (v).t, .bool (v).b, .int .i64 (v).f]] w fun e w' => e = .returned (.bool (markB 5 N S.needle.t v)) ∧ Below w.heap.size w w' := by
  have hlt := hA.lt
  have hne : ¬ b = w.heap.size := by omega
  have hne' : ¬ w.heap.size = b := by omega
  have hne1 : ¬ b = w.heap.size + 1 := by omega
  have hne1' : ¬ w.heap.size + 1 = b := by omega
  have a16 : w.cell? ⟨b, 16, none⟩ = some (.bool true) := (hA.cell 16).trans (by rw [← hs]; rfl)
  have a51 : w.cell? ⟨b, 10, none⟩ = some (.int .i64 S.needle.k) := hA.cell 10
  have a52 : w.cell? ⟨b, 11, none⟩ = some (.int .i64 S.needle.n) := hA.cell 11
  have a53 : w.cell? ⟨b, 12, none⟩ = some (.int .i64 S.needle.d) := hA.cell 12
  have a54 : w.cell? ⟨b, 13, none⟩ = some (.string S.needle.t) := hA.cell 13
  have a55 : w.cell? ⟨b, 14, none⟩ = some (.bool S.needle.b) := hA.cell 14
  have a56 : w.cell? ⟨b, 15, none⟩ = some (.int .i64 S.needle.f) := hA.cell 15
  have hL := prefix_size p5
  simp only [List.length_cons, List.length_nil] at hL
  have HRD := Lib.hid fun (wx : World) (hb : Below w.heap.size w wx) => value_Read N (S.needle.t.extract 1 S.needle.t.size) wx (by rw [ByteArray.size_extract]; have := hn.t; omega) (hN.below hb)
  have hR := readV_right N (S.needle.t.extract 1 S.needle.t.size)
  have HB : Hid (markB 5 N S.needle.t v = markO 5 v (readV N (S.needle.t.extract 1 S.needle.t.size))) := rfl
  generalize markB 5 N S.needle.t v = RES at *
  generalize readV N (S.needle.t.extract 1 S.needle.t.size) = A at *
  have HC := Lib.hid fun wx => value_Cmp v.k v.n v.d v.t v.b v.f A.k A.n A.d A.t A.b A.f wx hv (right_in hR)
  have ec : cmpV ⟨v.k, v.n, v.d, v.t, v.b, v.f⟩ ⟨A.k, A.n, A.d, A.t, A.b, A.f⟩ = cmpV v A := rfl
  rw [ec] at HC
  have HS := Lib.hid fun wx => value_Same v.k v.n v.d v.t v.b v.f A.k A.n A.d A.t A.b A.f wx hv (right_in hR)
  have es : sameV ⟨v.k, v.n, v.d, v.t, v.b, v.f⟩ ⟨A.k, A.n, A.d, A.t, A.b, A.f⟩ = sameV v A := rfl
  rw [es] at HS
  simp only [markO] at HB
  generalize cmpV v A = C at *
  generalize sameV v A = q at *
  have k0 : (v.k == 0) = false := by simp [h0]
  have k4 : (v.k == 4) = false := by simp [h4]
  have kn : (S.needle.k == 2) = true := by simp [hk]
  clear es ec hA hs hn hv h0 h4 hk hN hR
  go_enter Tryz.func206, Tryz.ntmps206
  go_wp2
  refine wp_loop_rounds 7 ?_
  rw [rounds_succ]
  go_wp2_with fail
  refine (Tryz.strings_HasPrefix _ _ _).mono ?_
  rintro e u0 ⟨rfl, rfl⟩
  go_wp2
  rw [rounds_succ]
  go_wp2_with fail
  refine (Tryz.strings_HasPrefix _ _ _).mono ?_
  rintro e u1 ⟨rfl, rfl⟩
  go_wp2
  rw [rounds_succ]
  go_wp2_with fail
  refine (Tryz.strings_HasPrefix _ _ _).mono ?_
  rintro e u2 ⟨rfl, rfl⟩
  go_wp2
  rw [rounds_succ]
  go_wp2_with fail
  refine (Tryz.strings_HasPrefix _ _ _).mono ?_
  rintro e u3 ⟨rfl, rfl⟩
  go_wp2
  rw [rounds_succ]
  go_wp2_with fail
  refine (Tryz.strings_HasPrefix _ _ _).mono ?_
  rintro e u4 ⟨rfl, rfl⟩
  go_wp2
  rw [rounds_succ]
  go_wp2_with fail
  refine (Tryz.strings_HasPrefix _ _ _).mono ?_
  rintro e u5 ⟨rfl, rfl⟩
  go_wp2_with fail
  refine (HRD.out _ ?_).mono ?_
  · focus
      repeat with_reducible first | exact Below.refl _ _ | refine below_drewN ?_ _ | refine Below.drew ?_ | refine Below.setCell ?_ ?_ _ | refine Below.alloc ?_ ?_ _ | refine below_then ?_ ?_ (by with_reducible assumption)
      all_goals first | omega | (simp only [sA, sC, sD, sE]; omega) | (simp; done) | (simp; omega)
  rintro e w2 ⟨rfl, hb⟩
  obtain ⟨s57, c57_0, c57_1, c57_2, c57_3, c57_4, c57_5, f57⟩ := L6 hb (w.heap.size) (by first | omega | (simp only [sA, sC, sD, sE]; omega) | (simp; done) | (simp; omega)) (by go_simp; exact ⟨rfl, rfl, rfl, rfl, rfl, rfl⟩) (by intro o; go_simp)
  have z58 := Below.size hb
  try simp only [sz_alloc, sz_setCell, sz_drew, sz_drewN] at z58
  go_wp2_with fail
  refine (HC.out _).mono ?_
  rintro e w3 ⟨rfl, hb3⟩
  obtain ⟨s59, c59_0, c59_1, c59_2, c59_3, c59_4, c59_5, f59⟩ := L6 hb3 (w.heap.size) (by first | omega | (simp only [sA, sC, sD, sE]; omega) | (simp; done) | (simp; omega)) (by go_simp; exact ⟨rfl, rfl, rfl, rfl, rfl, rfl⟩) (by intro o; go_simp)
  obtain ⟨s60, c60_0, c60_1, c60_2, c60_3, c60_4, c60_5, f60⟩ := L6 hb3 (w2.heap.size) (by first | omega | (simp only [sA, sC, sD, sE]; omega) | (simp; done) | (simp; omega)) (by go_simp; exact ⟨rfl, rfl, rfl, rfl, rfl, rfl⟩) (by intro o; go_simp)
  clear c57_0 c57_1 c57_2 c57_3 c57_4 c57_5 f57
  go_wp2_with fail
  refine (HS.out _).mono ?_
  rintro e w4 ⟨rfl, hb4⟩
  go_wp2
  go_ret
  refine ⟨cgB HB.out.symm, ?_⟩
  focus
    repeat with_reducible first | exact Below.refl _ _ | refine below_drewN ?_ _ | refine Below.drew ?_ | refine Below.setCell ?_ ?_ _ | refine Below.alloc ?_ ?_ _ | refine below_then ?_ ?_ (by with_reducible assumption)
    all_goals first | omega | (simp only [sA, sC, sD, sE]; omega) | (simp; done) | (simp; omega)
end Go.Proofs.YtnimenpfojcehaaGreatDoor
