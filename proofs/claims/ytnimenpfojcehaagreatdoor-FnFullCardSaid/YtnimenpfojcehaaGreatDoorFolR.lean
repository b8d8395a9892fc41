/- Walks of package value: Read, whatever the table of the faults' names holds. -/
import Derived.Test.YtnimenpfojcehaaGreatDoorNumG
import Derived.Test.YtnimenpfojcehaaGreatDoorValB
import Derived.Test.YtnimenpfojcehaaGreatDoorVX
import Derived.Test.YtnimenpfojcehaaGreatDoorShelf
namespace Go.Proofs.YtnimenpfojcehaaGreatDoor
open Go Go.RowKit
set_option linter.unusedSimpArgs false
set_option linter.unusedVariables false

/-- Eight names. -/
structure NmS where
  n0 : ByteArray
  n1 : ByteArray
  n2 : ByteArray
  n3 : ByteArray
  n4 : ByteArray
  n5 : ByteArray
  n6 : ByteArray
  n7 : ByteArray
/-- What the table of the faults' names holds. -/
structure Names (w : World) (N : NmS) : Prop where
  lt : 10 < w.heap.size
  c0 : w.cell? ⟨10, 0, none⟩ = some (.string N.n0)
  c1 : w.cell? ⟨10, 1, none⟩ = some (.string N.n1)
  c2 : w.cell? ⟨10, 2, none⟩ = some (.string N.n2)
  c3 : w.cell? ⟨10, 3, none⟩ = some (.string N.n3)
  c4 : w.cell? ⟨10, 4, none⟩ = some (.string N.n4)
  c5 : w.cell? ⟨10, 5, none⟩ = some (.string N.n5)
  c6 : w.cell? ⟨10, 6, none⟩ = some (.string N.n6)
  c7 : w.cell? ⟨10, 7, none⟩ = some (.string N.n7)
theorem Names.below {w w' : World} {N : NmS} (h : Names w N) (hb : Below w.heap.size w w') : Names w' N := by
  have hc : ∀ o, w'.cell? ⟨10, o, none⟩ = w.cell? ⟨10, o, none⟩ := fun o => World.cell?_of_block (w := w) (a := ⟨10, o, none⟩) (hb.block _ h.lt)
  have hs := hb.size
  have hl := h.lt
  exact ⟨by omega, (hc 0).trans h.c0, (hc 1).trans h.c1, (hc 2).trans h.c2, (hc 3).trans h.c3, (hc 4).trans h.c4, (hc 5).trans h.c5, (hc 6).trans h.c6, (hc 7).trans h.c7⟩

def hitV (N : NmS) (s : ByteArray) : Vl :=
  if s = N.n0 then faultF 1 else if s = N.n1 then faultF 2 else if s = N.n2 then faultF 3 else if s = N.n3 then faultF 4
  else if s = N.n4 then faultF 5 else if s = N.n5 then faultF 6 else if s = N.n6 then faultF 7 else if s = N.n7 then faultF 8 else textF s
/-- What Read answers. -/
def readV (N : NmS) (s : ByteArray) : Vl :=
  if Lib.hasPrefix s.data.toList [39] = true then textF (txt (Lib.trimPrefix s.data.toList [39]))
  else if (readN s.data.toList).ok = true then numF (readN s.data.toList).n (readN s.data.toList).d
  else if s = noT then blankV else if s = wordT true then truthV true else if s = wordT false then truthV false else hitV N s

set_option maxHeartbeats 1000000 in
theorem read_quote (s : ByteArray) (w : World) (hs : s.size ≤ 140737488351232) (h : Lib.hasPrefix s.data.toList [39] = true) :
    Calls Tryz.prog 207 #[.string s] w fun e w' => e = .returned (.agg #[.int .i64 (textF (txt (Lib.trimPrefix s.data.toList [39]))).k, .int .i64 (textF (txt (Lib.trimPrefix s.data.toList [39]))).n, .int .i64 (textF (txt (Lib.trimPrefix s.data.toList [39]))).d, .string (textF (txt (Lib.trimPrefix s.data.toList [39]))).t, .bool (textF (txt (Lib.trimPrefix s.data.toList [39]))).b, .int .i64 (textF (txt (Lib.trimPrefix s.data.toList [39]))).f]) ∧ Below w.heap.size w w' := by
  have HC := Lib.hid fun wx => Tryz.strings_CutPrefix s ⟨#[39]⟩ wx
  have e39 : (ByteArray.mk #[39]).data.toList = [39] := rfl
  rw [e39, h] at HC
  have hl := trimPrefix_le s.data.toList [39]
  have hl2 : s.data.toList.length = s.size := by simp
  have HT := Lib.hid fun wx => value_Text (txt (Lib.trimPrefix s.data.toList [39])) wx (by show (Lib.trimPrefix s.data.toList [39]).toArray.size ≤ _; simp only [List.size_toArray]; omega)
  change Hid (∀ wx, Calls _ _ _ wx fun e w' => e = .returned (.tuple #[.string (txt (Lib.trimPrefix s.data.toList [39])), _]) ∧ _) at HC
  generalize textF (txt (Lib.trimPrefix s.data.toList [39])) = Q at *
  generalize txt (Lib.trimPrefix s.data.toList [39]) = T at *
  clear h e39 hl hl2
  go_enter Tryz.func207, Tryz.ntmps207
  go_wp2_with fail
  refine (HC.out _).mono ?_
  rintro e w1 ⟨rfl, rfl⟩
  go_wp2_with fail
  refine (HT.out _).mono ?_
  rintro e w2 ⟨rfl, hb⟩
  obtain ⟨s1, c1_0, c1_1, c1_2, c1_3, c1_4, c1_5, f1⟩ := L6 hb (w.heap.size) (by first | omega | (simp only [sA, sC, sD, sE]; omega) | (simp; done) | (simp; omega)) (by go_simp; exact ⟨rfl, rfl, rfl, rfl, rfl, rfl⟩) (by intro o; go_simp)
  go_wp2
  refine bodyPost_ret (v := .agg #[.int .i64 (Q).k, .int .i64 (Q).n, .int .i64 (Q).d, .string (Q).t, .bool (Q).b, .int .i64 (Q).f]) (by simp [results, Tryz.results207, go_sem, c1_0, c1_1, c1_2, c1_3, c1_4, c1_5]) rfl ⟨rfl, ?_⟩
  focus
    repeat with_reducible first | exact Below.refl _ _ | refine below_drewN ?_ _ | refine Below.drew ?_ | refine Below.setCell ?_ ?_ _ | refine Below.alloc ?_ ?_ _ | refine below_then ?_ ?_ (by with_reducible assumption)
    all_goals first | omega | (simp only [sA, sC, sD, sE]; omega) | (simp; done) | (simp; omega)
set_option maxHeartbeats 1000000 in
theorem read_num (s : ByteArray) (w : World) (hs : s.size ≤ 140737488351232) (h : Lib.hasPrefix s.data.toList [39] = false) (h1 : (readN s.data.toList).ok = true) (hi : I64 (readN s.data.toList).n) (hj : I64 (readN s.data.toList).d) :
    Calls Tryz.prog 207 #[.string s] w fun e w' => e = .returned (.agg #[.int .i64 (numF (readN s.data.toList).n (readN s.data.toList).d).k, .int .i64 (numF (readN s.data.toList).n (readN s.data.toList).d).n, .int .i64 (numF (readN s.data.toList).n (readN s.data.toList).d).d, .string (numF (readN s.data.toList).n (readN s.data.toList).d).t, .bool (numF (readN s.data.toList).n (readN s.data.toList).d).b, .int .i64 (numF (readN s.data.toList).n (readN s.data.toList).d).f]) ∧ Below w.heap.size w w' := by
  have HC := Lib.hid fun wx => Tryz.strings_CutPrefix s ⟨#[39]⟩ wx
  have e39 : (ByteArray.mk #[39]).data.toList = [39] := rfl
  rw [e39, h] at HC
  have HR := Lib.hid fun wx => num_Read s wx hs
  have HN := Lib.hid fun wx => value_Number (readN s.data.toList).n (readN s.data.toList).d wx hi hj
  rw [h1] at HR
  generalize numF (readN s.data.toList).n (readN s.data.toList).d = Q at *
  generalize (readN s.data.toList).n = x at *
  generalize (readN s.data.toList).d = y at *
  clear h e39 h1
  go_enter Tryz.func207, Tryz.ntmps207
  go_wp2_with fail
  refine (HC.out _).mono ?_
  rintro e w1 ⟨rfl, rfl⟩
  go_wp2_with fail
  refine (HR.out _).mono ?_
  rintro e w2 ⟨rfl, hb⟩
  obtain ⟨s2, c2_0, c2_1, c2_2, c2_3, c2_4, c2_5, f2⟩ := L6 hb (w.heap.size) (by first | omega | (simp only [sA, sC, sD, sE]; omega) | (simp; done) | (simp; omega)) (by go_simp; exact ⟨rfl, rfl, rfl, rfl, rfl, rfl⟩) (by intro o; go_simp)
  have hz1 := hb.size
  simp only [sz_alloc] at hz1
  have q1 : ¬ w.heap.size = w2.heap.size := by omega
  have q2 : ¬ w2.heap.size = w.heap.size := by omega
  go_wp2_with fail
  refine (HN.out _).mono ?_
  rintro e w3 ⟨rfl, hb⟩
  obtain ⟨s3, c3_0, c3_1, c3_2, c3_3, c3_4, c3_5, f3⟩ := L6 hb (w.heap.size) (by first | omega | (simp only [sA, sC, sD, sE]; omega) | (simp; done) | (simp; omega)) (by go_simp; exact ⟨rfl, rfl, rfl, rfl, rfl, rfl⟩) (by intro o; go_simp)
  clear c2_0 c2_1 c2_2 c2_3 c2_4 c2_5 f2
  go_wp2
  refine bodyPost_ret (v := .agg #[.int .i64 (Q).k, .int .i64 (Q).n, .int .i64 (Q).d, .string (Q).t, .bool (Q).b, .int .i64 (Q).f]) (by simp [results, Tryz.results207, go_sem, c3_0, c3_1, c3_2, c3_3, c3_4, c3_5]) rfl ⟨rfl, ?_⟩
  focus
    repeat with_reducible first | exact Below.refl _ _ | refine below_drewN ?_ _ | refine Below.drew ?_ | refine Below.setCell ?_ ?_ _ | refine Below.alloc ?_ ?_ _ | refine below_then ?_ ?_ (by with_reducible assumption)
    all_goals first | omega | (simp only [sA, sC, sD, sE]; omega) | (simp; done) | (simp; omega)
set_option maxHeartbeats 1000000 in
theorem read_blank (s : ByteArray) (w : World) (hs : s.size ≤ 140737488351232) (h : Lib.hasPrefix s.data.toList [39] = false) (h1 : (readN s.data.toList).ok = false) (h2 : s = noT) :
    Calls Tryz.prog 207 #[.string s] w fun e w' => e = .returned (.agg #[.int .i64 (blankV).k, .int .i64 (blankV).n, .int .i64 (blankV).d, .string (blankV).t, .bool (blankV).b, .int .i64 (blankV).f]) ∧ Below w.heap.size w w' := by
  have HC := Lib.hid fun wx => Tryz.strings_CutPrefix s ⟨#[39]⟩ wx
  have e39 : (ByteArray.mk #[39]).data.toList = [39] := rfl
  rw [e39, h] at HC
  have HR := Lib.hid fun wx => num_Read s wx hs
  rw [h1] at HR
  generalize (readN s.data.toList).n = x at *
  generalize (readN s.data.toList).d = y at *
  have HN := Lib.hid fun wx => value_Blank wx
  generalize blankV = Q at *
  have f0 : (s.toList == ([] : List UInt8)) = true := by rw [h2, ByteArray.toList_eq]; rfl
  have f1 : s.toList = [] := by rw [h2, ByteArray.toList_eq]; rfl
  clear h e39 h1 h2
  go_enter Tryz.func207, Tryz.ntmps207
  go_wp2_with fail
  refine (HC.out _).mono ?_
  rintro e w1 ⟨rfl, rfl⟩
  go_wp2_with fail
  refine (HR.out _).mono ?_
  rintro e w2 ⟨rfl, hb⟩
  obtain ⟨s4, c4_0, c4_1, c4_2, c4_3, c4_4, c4_5, f4⟩ := L6 hb (w.heap.size) (by first | omega | (simp only [sA, sC, sD, sE]; omega) | (simp; done) | (simp; omega)) (by go_simp; exact ⟨rfl, rfl, rfl, rfl, rfl, rfl⟩) (by intro o; go_simp)
  have hz1 := hb.size
  simp only [sz_alloc] at hz1
  have q1 : ¬ w.heap.size = w2.heap.size := by omega
  have q2 : ¬ w2.heap.size = w.heap.size := by omega
  go_wp2_with fail
  refine (HN.out _).mono ?_
  rintro e w3 ⟨rfl, hb⟩
  obtain ⟨s5, c5_0, c5_1, c5_2, c5_3, c5_4, c5_5, f5⟩ := L6 hb (w.heap.size) (by first | omega | (simp only [sA, sC, sD, sE]; omega) | (simp; done) | (simp; omega)) (by go_simp; exact ⟨rfl, rfl, rfl, rfl, rfl, rfl⟩) (by intro o; go_simp)
  clear c4_0 c4_1 c4_2 c4_3 c4_4 c4_5 f4
  go_wp2
  refine bodyPost_ret (v := .agg #[.int .i64 (Q).k, .int .i64 (Q).n, .int .i64 (Q).d, .string (Q).t, .bool (Q).b, .int .i64 (Q).f]) (by simp [results, Tryz.results207, go_sem, c5_0, c5_1, c5_2, c5_3, c5_4, c5_5]) rfl ⟨rfl, ?_⟩
  focus
    repeat with_reducible first | exact Below.refl _ _ | refine below_drewN ?_ _ | refine Below.drew ?_ | refine Below.setCell ?_ ?_ _ | refine Below.alloc ?_ ?_ _ | refine below_then ?_ ?_ (by with_reducible assumption)
    all_goals first | omega | (simp only [sA, sC, sD, sE]; omega) | (simp; done) | (simp; omega)
set_option maxHeartbeats 1000000 in
theorem read_true (s : ByteArray) (w : World) (hs : s.size ≤ 140737488351232) (h : Lib.hasPrefix s.data.toList [39] = false) (h1 : (readN s.data.toList).ok = false) (h2 : ¬ s = noT) (h3 : s = wordT true) :
    Calls Tryz.prog 207 #[.string s] w fun e w' => e = .returned (.agg #[.int .i64 (truthV true).k, .int .i64 (truthV true).n, .int .i64 (truthV true).d, .string (truthV true).t, .bool (truthV true).b, .int .i64 (truthV true).f]) ∧ Below w.heap.size w w' := by
  have HC := Lib.hid fun wx => Tryz.strings_CutPrefix s ⟨#[39]⟩ wx
  have e39 : (ByteArray.mk #[39]).data.toList = [39] := rfl
  rw [e39, h] at HC
  have HR := Lib.hid fun wx => num_Read s wx hs
  rw [h1] at HR
  generalize (readN s.data.toList).n = x at *
  generalize (readN s.data.toList).d = y at *
  have f0 : (s.toList == ([] : List UInt8)) = false := by
    have hq := tl_no (y := noT) h2
    rwa [show noT.toList = [] from by rw [ByteArray.toList_eq]; rfl] at hq
  have f1 : ¬ s.toList = [] := by
    rw [ByteArray.toList_eq]; intro h'
    refine h2 ?_
    cases s; simp only [noT, ByteArray.mk.injEq]; exact Array.toList_inj.1 h'
  have W1 := Lib.hid fun wx => value_word true wx
  have W0 := Lib.hid fun wx => value_word false wx
  have ft : (s.toList == (wordT true).toList) = true := tl_yes h3
  have HT := Lib.hid fun wx => value_Truth true wx
  generalize truthV true = Q at *
  generalize wordT true = WT at *
  clear h e39 h1 h2 h3 W0
  go_enter Tryz.func207, Tryz.ntmps207
  go_wp2_with fail
  refine (HC.out _).mono ?_
  rintro e w1 ⟨rfl, rfl⟩
  go_wp2_with fail
  refine (HR.out _).mono ?_
  rintro e w2 ⟨rfl, hb⟩
  obtain ⟨s6, c6_0, c6_1, c6_2, c6_3, c6_4, c6_5, f6⟩ := L6 hb (w.heap.size) (by first | omega | (simp only [sA, sC, sD, sE]; omega) | (simp; done) | (simp; omega)) (by go_simp; exact ⟨rfl, rfl, rfl, rfl, rfl, rfl⟩) (by intro o; go_simp)
  have hz1 := hb.size
  simp only [sz_alloc] at hz1
  have q1 : ¬ w.heap.size = w2.heap.size := by omega
  have q2 : ¬ w2.heap.size = w.heap.size := by omega
  have hb2 := hb
  clear hb
  go_wp2_with fail
  refine (W1.out _).mono ?_
  rintro e w3 ⟨rfl, rfl⟩
  go_wp2_with fail
  refine (W1.out _).mono ?_
  rintro e w4 ⟨rfl, rfl⟩
  go_wp2_with fail
  refine (HT.out _).mono ?_
  rintro e w5 ⟨rfl, hb⟩
  obtain ⟨s7, c7_0, c7_1, c7_2, c7_3, c7_4, c7_5, f7⟩ := L6 hb (w.heap.size) (by first | omega | (simp only [sA, sC, sD, sE]; omega) | (simp; done) | (simp; omega)) (by go_simp; exact ⟨rfl, rfl, rfl, rfl, rfl, rfl⟩) (by intro o; go_simp)
  clear c6_0 c6_1 c6_2 c6_3 c6_4 c6_5 f6
  go_wp2
  refine bodyPost_ret (v := .agg #[.int .i64 (Q).k, .int .i64 (Q).n, .int .i64 (Q).d, .string (Q).t, .bool (Q).b, .int .i64 (Q).f]) (by simp [results, Tryz.results207, go_sem, c7_0, c7_1, c7_2, c7_3, c7_4, c7_5]) rfl ⟨rfl, ?_⟩
  focus
    repeat with_reducible first | exact Below.refl _ _ | refine below_drewN ?_ _ | refine Below.drew ?_ | refine Below.setCell ?_ ?_ _ | refine Below.alloc ?_ ?_ _ | refine below_then ?_ ?_ (by with_reducible assumption)
    all_goals first | omega | (simp only [sA, sC, sD, sE]; omega) | (simp; done) | (simp; omega)
set_option maxHeartbeats 1000000 in
theorem read_false (s : ByteArray) (w : World) (hs : s.size ≤ 140737488351232) (h : Lib.hasPrefix s.data.toList [39] = false) (h1 : (readN s.data.toList).ok = false) (h2 : ¬ s = noT) (h3 : ¬ s = wordT true) (h4 : s = wordT false) :
    Calls Tryz.prog 207 #[.string s] w fun e w' => e = .returned (.agg #[.int .i64 (truthV false).k, .int .i64 (truthV false).n, .int .i64 (truthV false).d, .string (truthV false).t, .bool (truthV false).b, .int .i64 (truthV false).f]) ∧ Below w.heap.size w w' := by
  have HC := Lib.hid fun wx => Tryz.strings_CutPrefix s ⟨#[39]⟩ wx
  have e39 : (ByteArray.mk #[39]).data.toList = [39] := rfl
  rw [e39, h] at HC
  have HR := Lib.hid fun wx => num_Read s wx hs
  rw [h1] at HR
  generalize (readN s.data.toList).n = x at *
  generalize (readN s.data.toList).d = y at *
  have f0 : (s.toList == ([] : List UInt8)) = false := by
    have hq := tl_no (y := noT) h2
    rwa [show noT.toList = [] from by rw [ByteArray.toList_eq]; rfl] at hq
  have f1 : ¬ s.toList = [] := by
    rw [ByteArray.toList_eq]; intro h'
    refine h2 ?_
    cases s; simp only [noT, ByteArray.mk.injEq]; exact Array.toList_inj.1 h'
  have W1 := Lib.hid fun wx => value_word true wx
  have W0 := Lib.hid fun wx => value_word false wx
  have ft : (s.toList == (wordT true).toList) = false := tl_no h3
  have ff : (s.toList == (wordT false).toList) = true := tl_yes h4
  have HT := Lib.hid fun wx => value_Truth false wx
  generalize truthV false = Q at *
  generalize wordT true = WT at *
  generalize wordT false = WF at *
  clear h e39 h1 h2 h3 h4
  go_enter Tryz.func207, Tryz.ntmps207
  go_wp2_with fail
  refine (HC.out _).mono ?_
  rintro e w1 ⟨rfl, rfl⟩
  go_wp2_with fail
  refine (HR.out _).mono ?_
  rintro e w2 ⟨rfl, hb⟩
  obtain ⟨s8, c8_0, c8_1, c8_2, c8_3, c8_4, c8_5, f8⟩ := L6 hb (w.heap.size) (by first | omega | (simp only [sA, sC, sD, sE]; omega) | (simp; done) | (simp; omega)) (by go_simp; exact ⟨rfl, rfl, rfl, rfl, rfl, rfl⟩) (by intro o; go_simp)
  have hz1 := hb.size
  simp only [sz_alloc] at hz1
  have q1 : ¬ w.heap.size = w2.heap.size := by omega
  have q2 : ¬ w2.heap.size = w.heap.size := by omega
  have hb2 := hb
  clear hb
  go_wp2_with fail
  refine (W1.out _).mono ?_
  rintro e w3 ⟨rfl, rfl⟩
  go_wp2_with fail
  refine (W0.out _).mono ?_
  rintro e w4 ⟨rfl, rfl⟩
  go_wp2_with fail
  refine (W1.out _).mono ?_
  rintro e w4 ⟨rfl, rfl⟩
  go_wp2_with fail
  refine (HT.out _).mono ?_
  rintro e w5 ⟨rfl, hb⟩
  obtain ⟨s9, c9_0, c9_1, c9_2, c9_3, c9_4, c9_5, f9⟩ := L6 hb (w.heap.size) (by first | omega | (simp only [sA, sC, sD, sE]; omega) | (simp; done) | (simp; omega)) (by go_simp; exact ⟨rfl, rfl, rfl, rfl, rfl, rfl⟩) (by intro o; go_simp)
  clear c8_0 c8_1 c8_2 c8_3 c8_4 c8_5 f8
  go_wp2
  refine bodyPost_ret (v := .agg #[.int .i64 (Q).k, .int .i64 (Q).n, .int .i64 (Q).d, .string (Q).t, .bool (Q).b, .int .i64 (Q).f]) (by simp [results, Tryz.results207, go_sem, c9_0, c9_1, c9_2, c9_3, c9_4, c9_5]) rfl ⟨rfl, ?_⟩
  focus
    repeat with_reducible first | exact Below.refl _ _ | refine below_drewN ?_ _ | refine Below.drew ?_ | refine Below.setCell ?_ ?_ _ | refine Below.alloc ?_ ?_ _ | refine below_then ?_ ?_ (by with_reducible assumption)
    all_goals first | omega | (simp only [sA, sC, sD, sE]; omega) | (simp; done) | (simp; omega)
set_option maxRecDepth 100000 in
set_option maxHeartbeats 4000000 in
theorem read_name (s : ByteArray) (w : World) (hs : s.size ≤ 140737488351232) (h : Lib.hasPrefix s.data.toList [39] = false) (h1 : (readN s.data.toList).ok = false) (h2 : ¬ s = noT) (h3 : ¬ s = wordT true) (h4 : ¬ s = wordT false) (N : NmS) (hN : Names w N) :
    Calls Tryz.prog 207 #[.string s] w fun e w' => e = .returned (.agg #[.int .i64 (hitV N s).k, .int .i64 (hitV N s).n, .int .i64 (hitV N s).d, .string (hitV N s).t, .bool (hitV N s).b, .int .i64 (hitV N s).f]) ∧ Below w.heap.size w w' := by
  have HC := Lib.hid fun wx => Tryz.strings_CutPrefix s ⟨#[39]⟩ wx
  have e39 : (ByteArray.mk #[39]).data.toList = [39] := rfl
  rw [e39, h] at HC
  have HR := Lib.hid fun wx => num_Read s wx hs
  rw [h1] at HR
  generalize (readN s.data.toList).n = x at *
  generalize (readN s.data.toList).d = y at *
  have f0 : (s.toList == ([] : List UInt8)) = false := by
    have hq := tl_no (y := noT) h2
    rwa [show noT.toList = [] from by rw [ByteArray.toList_eq]; rfl] at hq
  have f1 : ¬ s.toList = [] := by
    rw [ByteArray.toList_eq]; intro h'
    refine h2 ?_
    cases s; simp only [noT, ByteArray.mk.injEq]; exact Array.toList_inj.1 h'
  have W1 := Lib.hid fun wx => value_word true wx
  have W0 := Lib.hid fun wx => value_word false wx
  have ft : (s.toList == (wordT true).toList) = false := tl_no h3
  have ff : (s.toList == (wordT false).toList) = false := tl_no h4
  generalize wordT true = WT at *
  generalize wordT false = WF at *
  have HNb := Lib.hid fun (wx : World) (hb : Below w.heap.size w wx) => hN.below hb
  have HTx := Lib.hid fun wx => value_Text s wx hs
  have HRES : Hid (hitV N s = if s = N.n0 then faultF 1 else if s = N.n1 then faultF 2 else if s = N.n2 then faultF 3 else if s = N.n3 then faultF 4 else if s = N.n4 then faultF 5 else if s = N.n5 then faultF 6 else if s = N.n6 then faultF 7 else if s = N.n7 then faultF 8 else textF s) := rfl
  generalize hitV N s = RES at *
  clear h e39 h1 h2 h3 h4
  go_enter Tryz.func207, Tryz.ntmps207
  go_wp2_with fail
  refine (HC.out _).mono ?_
  rintro e w1 ⟨rfl, rfl⟩
  go_wp2_with fail
  refine (HR.out _).mono ?_
  rintro e w2 ⟨rfl, hb⟩
  obtain ⟨s10, c10_0, c10_1, c10_2, c10_3, c10_4, c10_5, f10⟩ := L6 hb (w.heap.size) (by first | omega | (simp only [sA, sC, sD, sE]; omega) | (simp; done) | (simp; omega)) (by go_simp; exact ⟨rfl, rfl, rfl, rfl, rfl, rfl⟩) (by intro o; go_simp)
  have hz1 := hb.size
  simp only [sz_alloc] at hz1
  have q1 : ¬ w.heap.size = w2.heap.size := by omega
  have q2 : ¬ w2.heap.size = w.heap.size := by omega
  have hb2 := hb
  clear hb
  go_wp2_with fail
  refine (W1.out _).mono ?_
  rintro e w3 ⟨rfl, rfl⟩
  go_wp2_with fail
  refine (W0.out _).mono ?_
  rintro e w4 ⟨rfl, rfl⟩
  have hbw : Below w.heap.size w w2 := by
    have hb := hb2
    focus
      repeat with_reducible first | exact Below.refl _ _ | refine below_drewN ?_ _ | refine Below.drew ?_ | refine Below.setCell ?_ ?_ _ | refine Below.alloc ?_ ?_ _ | refine below_then ?_ ?_ (by with_reducible assumption)
      all_goals first | omega | (simp only [sA, sC, sD, sE]; omega) | (simp; done) | (simp; omega)
  have hn := HNb.out _ hbw
  have l0 := hn.lt
  have c0 := hn.c0
  have c1 := hn.c1
  have c2 := hn.c2
  have c3 := hn.c3
  have c4 := hn.c4
  have c5 := hn.c5
  have c6 := hn.c6
  have c7 := hn.c7
  have g1 : ¬ w2.heap.size = 10 := by omega
  have g2 : ¬ 10 = w2.heap.size := by omega
  obtain ⟨n0, n1, n2, n3, n4, n5, n6, n7⟩ := N
  simp only at HRES c0 c1 c2 c3 c4 c5 c6 c7
  clear hn hN HNb hbw
  have ix0 : ∀ w, (Instr.index 253 (.agg #[.string n0, .string n1, .string n2, .string n3, .string n4, .string n5, .string n6, .string n7]) (.int .i64 0)).run Tryz.prog w = .ok (.string n0) w := fun _ => by kernel_rfl
  have ix1 : ∀ w, (Instr.index 253 (.agg #[.string n0, .string n1, .string n2, .string n3, .string n4, .string n5, .string n6, .string n7]) (.int .i64 1)).run Tryz.prog w = .ok (.string n1) w := fun _ => by kernel_rfl
  have ix2 : ∀ w, (Instr.index 253 (.agg #[.string n0, .string n1, .string n2, .string n3, .string n4, .string n5, .string n6, .string n7]) (.int .i64 2)).run Tryz.prog w = .ok (.string n2) w := fun _ => by kernel_rfl
  have ix3 : ∀ w, (Instr.index 253 (.agg #[.string n0, .string n1, .string n2, .string n3, .string n4, .string n5, .string n6, .string n7]) (.int .i64 3)).run Tryz.prog w = .ok (.string n3) w := fun _ => by kernel_rfl
  have ix4 : ∀ w, (Instr.index 253 (.agg #[.string n0, .string n1, .string n2, .string n3, .string n4, .string n5, .string n6, .string n7]) (.int .i64 4)).run Tryz.prog w = .ok (.string n4) w := fun _ => by kernel_rfl
  have ix5 : ∀ w, (Instr.index 253 (.agg #[.string n0, .string n1, .string n2, .string n3, .string n4, .string n5, .string n6, .string n7]) (.int .i64 5)).run Tryz.prog w = .ok (.string n5) w := fun _ => by kernel_rfl
  have ix6 : ∀ w, (Instr.index 253 (.agg #[.string n0, .string n1, .string n2, .string n3, .string n4, .string n5, .string n6, .string n7]) (.int .i64 6)).run Tryz.prog w = .ok (.string n6) w := fun _ => by kernel_rfl
  have ix7 : ∀ w, (Instr.index 253 (.agg #[.string n0, .string n1, .string n2, .string n3, .string n4, .string n5, .string n6, .string n7]) (.int .i64 7)).run Tryz.prog w = .ok (.string n7) w := fun _ => by kernel_rfl
  go_upto_region 14 with (fail)
  refine wp_loop_rounds 9 ?_
  rw [rounds_succ]
  by_cases x0 : s = n0
  · have y0 : (s.toList == n0.toList) = true := tl_yes x0
    have HF := Lib.hid fun wx => value_Fault 1 wx
    have HQ : Hid (RES = faultF 1) := by unfold Hid; rw [HRES.out, if_pos x0]
    generalize faultF 1 = Q at *
    clear x0 HRES
    go_wp2_with fail
    refine (HF.out _).mono ?_
    rintro e w5 ⟨rfl, hb⟩
    obtain ⟨s11, c11_0, c11_1, c11_2, c11_3, c11_4, c11_5, f11⟩ := L6 hb (w.heap.size) (by first | omega | (simp only [sA, sC, sD, sE]; omega) | (simp; done) | (simp; omega)) (by go_simp; exact ⟨rfl, rfl, rfl, rfl, rfl, rfl⟩) (by intro o; go_simp)
    go_wp2
    refine bodyPost_ret (v := .agg #[.int .i64 (RES).k, .int .i64 (RES).n, .int .i64 (RES).d, .string (RES).t, .bool (RES).b, .int .i64 (RES).f]) (by rw [HQ.out]; simp [results, Tryz.results207, go_sem, c11_0, c11_1, c11_2, c11_3, c11_4, c11_5]) rfl ⟨rfl, ?_⟩
    focus
      repeat with_reducible first | exact Below.refl _ _ | refine below_drewN ?_ _ | refine Below.drew ?_ | refine Below.setCell ?_ ?_ _ | refine Below.alloc ?_ ?_ _ | refine below_then ?_ ?_ (by with_reducible assumption)
      all_goals first | omega | (simp only [sA, sC, sD, sE]; omega) | (simp; done) | (simp; omega)
  have y0 : (s.toList == n0.toList) = false := tl_no x0
  go_wp2
  rw [rounds_succ]
  by_cases x1 : s = n1
  · have y1 : (s.toList == n1.toList) = true := tl_yes x1
    have HF := Lib.hid fun wx => value_Fault 2 wx
    have HQ : Hid (RES = faultF 2) := by unfold Hid; rw [HRES.out, if_neg x0, if_pos x1]
    generalize faultF 2 = Q at *
    clear x1 HRES
    go_wp2_with fail
    refine (HF.out _).mono ?_
    rintro e w5 ⟨rfl, hb⟩
    obtain ⟨s12, c12_0, c12_1, c12_2, c12_3, c12_4, c12_5, f12⟩ := L6 hb (w.heap.size) (by first | omega | (simp only [sA, sC, sD, sE]; omega) | (simp; done) | (simp; omega)) (by go_simp; exact ⟨rfl, rfl, rfl, rfl, rfl, rfl⟩) (by intro o; go_simp)
    go_wp2
    refine bodyPost_ret (v := .agg #[.int .i64 (RES).k, .int .i64 (RES).n, .int .i64 (RES).d, .string (RES).t, .bool (RES).b, .int .i64 (RES).f]) (by rw [HQ.out]; simp [results, Tryz.results207, go_sem, c12_0, c12_1, c12_2, c12_3, c12_4, c12_5]) rfl ⟨rfl, ?_⟩
    focus
      repeat with_reducible first | exact Below.refl _ _ | refine below_drewN ?_ _ | refine Below.drew ?_ | refine Below.setCell ?_ ?_ _ | refine Below.alloc ?_ ?_ _ | refine below_then ?_ ?_ (by with_reducible assumption)
      all_goals first | omega | (simp only [sA, sC, sD, sE]; omega) | (simp; done) | (simp; omega)
  have y1 : (s.toList == n1.toList) = false := tl_no x1
  go_wp2
  rw [rounds_succ]
  by_cases x2 : s = n2
  · have y2 : (s.toList == n2.toList) = true := tl_yes x2
    have HF := Lib.hid fun wx => value_Fault 3 wx
    have HQ : Hid (RES = faultF 3) := by unfold Hid; rw [HRES.out, if_neg x0, if_neg x1, if_pos x2]
    generalize faultF 3 = Q at *
    clear x2 HRES
    go_wp2_with fail
    refine (HF.out _).mono ?_
    rintro e w5 ⟨rfl, hb⟩
    obtain ⟨s13, c13_0, c13_1, c13_2, c13_3, c13_4, c13_5, f13⟩ := L6 hb (w.heap.size) (by first | omega | (simp only [sA, sC, sD, sE]; omega) | (simp; done) | (simp; omega)) (by go_simp; exact ⟨rfl, rfl, rfl, rfl, rfl, rfl⟩) (by intro o; go_simp)
    go_wp2
    refine bodyPost_ret (v := .agg #[.int .i64 (RES).k, .int .i64 (RES).n, .int .i64 (RES).d, .string (RES).t, .bool (RES).b, .int .i64 (RES).f]) (by rw [HQ.out]; simp [results, Tryz.results207, go_sem, c13_0, c13_1, c13_2, c13_3, c13_4, c13_5]) rfl ⟨rfl, ?_⟩
    focus
      repeat with_reducible first | exact Below.refl _ _ | refine below_drewN ?_ _ | refine Below.drew ?_ | refine Below.setCell ?_ ?_ _ | refine Below.alloc ?_ ?_ _ | refine below_then ?_ ?_ (by with_reducible assumption)
      all_goals first | omega | (simp only [sA, sC, sD, sE]; omega) | (simp; done) | (simp; omega)
  have y2 : (s.toList == n2.toList) = false := tl_no x2
  go_wp2
  rw [rounds_succ]
  by_cases x3 : s = n3
  · have y3 : (s.toList == n3.toList) = true := tl_yes x3
    have HF := Lib.hid fun wx => value_Fault 4 wx
    have HQ : Hid (RES = faultF 4) := by unfold Hid; rw [HRES.out, if_neg x0, if_neg x1, if_neg x2, if_pos x3]
    generalize faultF 4 = Q at *
    clear x3 HRES
    go_wp2_with fail
    refine (HF.out _).mono ?_
    rintro e w5 ⟨rfl, hb⟩
    obtain ⟨s14, c14_0, c14_1, c14_2, c14_3, c14_4, c14_5, f14⟩ := L6 hb (w.heap.size) (by first | omega | (simp only [sA, sC, sD, sE]; omega) | (simp; done) | (simp; omega)) (by go_simp; exact ⟨rfl, rfl, rfl, rfl, rfl, rfl⟩) (by intro o; go_simp)
    go_wp2
    refine bodyPost_ret (v := .agg #[.int .i64 (RES).k, .int .i64 (RES).n, .int .i64 (RES).d, .string (RES).t, .bool (RES).b, .int .i64 (RES).f]) (by rw [HQ.out]; simp [results, Tryz.results207, go_sem, c14_0, c14_1, c14_2, c14_3, c14_4, c14_5]) rfl ⟨rfl, ?_⟩
    focus
      repeat with_reducible first | exact Below.refl _ _ | refine below_drewN ?_ _ | refine Below.drew ?_ | refine Below.setCell ?_ ?_ _ | refine Below.alloc ?_ ?_ _ | refine below_then ?_ ?_ (by with_reducible assumption)
      all_goals first | omega | (simp only [sA, sC, sD, sE]; omega) | (simp; done) | (simp; omega)
  have y3 : (s.toList == n3.toList) = false := tl_no x3
  go_wp2
  rw [rounds_succ]
  by_cases x4 : s = n4
  · have y4 : (s.toList == n4.toList) = true := tl_yes x4
    have HF := Lib.hid fun wx => value_Fault 5 wx
    have HQ : Hid (RES = faultF 5) := by unfold Hid; rw [HRES.out, if_neg x0, if_neg x1, if_neg x2, if_neg x3, if_pos x4]
    generalize faultF 5 = Q at *
    clear x4 HRES
    go_wp2_with fail
    refine (HF.out _).mono ?_
    rintro e w5 ⟨rfl, hb⟩
    obtain ⟨s15, c15_0, c15_1, c15_2, c15_3, c15_4, c15_5, f15⟩ := L6 hb (w.heap.size) (by first | omega | (simp only [sA, sC, sD, sE]; omega) | (simp; done) | (simp; omega)) (by go_simp; exact ⟨rfl, rfl, rfl, rfl, rfl, rfl⟩) (by intro o; go_simp)
    go_wp2
    refine bodyPost_ret (v := .agg #[.int .i64 (RES).k, .int .i64 (RES).n, .int .i64 (RES).d, .string (RES).t, .bool (RES).b, .int .i64 (RES).f]) (by rw [HQ.out]; simp [results, Tryz.results207, go_sem, c15_0, c15_1, c15_2, c15_3, c15_4, c15_5]) rfl ⟨rfl, ?_⟩
    focus
      repeat with_reducible first | exact Below.refl _ _ | refine below_drewN ?_ _ | refine Below.drew ?_ | refine Below.setCell ?_ ?_ _ | refine Below.alloc ?_ ?_ _ | refine below_then ?_ ?_ (by with_reducible assumption)
      all_goals first | omega | (simp only [sA, sC, sD, sE]; omega) | (simp; done) | (simp; omega)
  have y4 : (s.toList == n4.toList) = false := tl_no x4
  go_wp2
  rw [rounds_succ]
  by_cases x5 : s = n5
  · have y5 : (s.toList == n5.toList) = true := tl_yes x5
    have HF := Lib.hid fun wx => value_Fault 6 wx
    have HQ : Hid (RES = faultF 6) := by unfold Hid; rw [HRES.out, if_neg x0, if_neg x1, if_neg x2, if_neg x3, if_neg x4, if_pos x5]
    generalize faultF 6 = Q at *
    clear x5 HRES
    go_wp2_with fail
    refine (HF.out _).mono ?_
    rintro e w5 ⟨rfl, hb⟩
    obtain ⟨s16, c16_0, c16_1, c16_2, c16_3, c16_4, c16_5, f16⟩ := L6 hb (w.heap.size) (by first | omega | (simp only [sA, sC, sD, sE]; omega) | (simp; done) | (simp; omega)) (by go_simp; exact ⟨rfl, rfl, rfl, rfl, rfl, rfl⟩) (by intro o; go_simp)
    go_wp2
    refine bodyPost_ret (v := .agg #[.int .i64 (RES).k, .int .i64 (RES).n, .int .i64 (RES).d, .string (RES).t, .bool (RES).b, .int .i64 (RES).f]) (by rw [HQ.out]; simp [results, Tryz.results207, go_sem, c16_0, c16_1, c16_2, c16_3, c16_4, c16_5]) rfl ⟨rfl, ?_⟩
    focus
      repeat with_reducible first | exact Below.refl _ _ | refine below_drewN ?_ _ | refine Below.drew ?_ | refine Below.setCell ?_ ?_ _ | refine Below.alloc ?_ ?_ _ | refine below_then ?_ ?_ (by with_reducible assumption)
      all_goals first | omega | (simp only [sA, sC, sD, sE]; omega) | (simp; done) | (simp; omega)
  have y5 : (s.toList == n5.toList) = false := tl_no x5
  go_wp2
  rw [rounds_succ]
  by_cases x6 : s = n6
  · have y6 : (s.toList == n6.toList) = true := tl_yes x6
    have HF := Lib.hid fun wx => value_Fault 7 wx
    have HQ : Hid (RES = faultF 7) := by unfold Hid; rw [HRES.out, if_neg x0, if_neg x1, if_neg x2, if_neg x3, if_neg x4, if_neg x5, if_pos x6]
    generalize faultF 7 = Q at *
    clear x6 HRES
    go_wp2_with fail
    refine (HF.out _).mono ?_
    rintro e w5 ⟨rfl, hb⟩
    obtain ⟨s17, c17_0, c17_1, c17_2, c17_3, c17_4, c17_5, f17⟩ := L6 hb (w.heap.size) (by first | omega | (simp only [sA, sC, sD, sE]; omega) | (simp; done) | (simp; omega)) (by go_simp; exact ⟨rfl, rfl, rfl, rfl, rfl, rfl⟩) (by intro o; go_simp)
    go_wp2
    refine bodyPost_ret (v := .agg #[.int .i64 (RES).k, .int .i64 (RES).n, .int .i64 (RES).d, .string (RES).t, .bool (RES).b, .int .i64 (RES).f]) (by rw [HQ.out]; simp [results, Tryz.results207, go_sem, c17_0, c17_1, c17_2, c17_3, c17_4, c17_5]) rfl ⟨rfl, ?_⟩
    focus
      repeat with_reducible first | exact Below.refl _ _ | refine below_drewN ?_ _ | refine Below.drew ?_ | refine Below.setCell ?_ ?_ _ | refine Below.alloc ?_ ?_ _ | refine below_then ?_ ?_ (by with_reducible assumption)
      all_goals first | omega | (simp only [sA, sC, sD, sE]; omega) | (simp; done) | (simp; omega)
  have y6 : (s.toList == n6.toList) = false := tl_no x6
  go_wp2
  rw [rounds_succ]
  by_cases x7 : s = n7
  · have y7 : (s.toList == n7.toList) = true := tl_yes x7
    have HF := Lib.hid fun wx => value_Fault 8 wx
    have HQ : Hid (RES = faultF 8) := by unfold Hid; rw [HRES.out, if_neg x0, if_neg x1, if_neg x2, if_neg x3, if_neg x4, if_neg x5, if_neg x6, if_pos x7]
    generalize faultF 8 = Q at *
    clear x7 HRES
    go_wp2_with fail
    refine (HF.out _).mono ?_
    rintro e w5 ⟨rfl, hb⟩
    obtain ⟨s18, c18_0, c18_1, c18_2, c18_3, c18_4, c18_5, f18⟩ := L6 hb (w.heap.size) (by first | omega | (simp only [sA, sC, sD, sE]; omega) | (simp; done) | (simp; omega)) (by go_simp; exact ⟨rfl, rfl, rfl, rfl, rfl, rfl⟩) (by intro o; go_simp)
    go_wp2
    refine bodyPost_ret (v := .agg #[.int .i64 (RES).k, .int .i64 (RES).n, .int .i64 (RES).d, .string (RES).t, .bool (RES).b, .int .i64 (RES).f]) (by rw [HQ.out]; simp [results, Tryz.results207, go_sem, c18_0, c18_1, c18_2, c18_3, c18_4, c18_5]) rfl ⟨rfl, ?_⟩
    focus
      repeat with_reducible first | exact Below.refl _ _ | refine below_drewN ?_ _ | refine Below.drew ?_ | refine Below.setCell ?_ ?_ _ | refine Below.alloc ?_ ?_ _ | refine below_then ?_ ?_ (by with_reducible assumption)
      all_goals first | omega | (simp only [sA, sC, sD, sE]; omega) | (simp; done) | (simp; omega)
  have y7 : (s.toList == n7.toList) = false := tl_no x7
  go_wp2
  have HQ : Hid (RES = textF s) := by unfold Hid; rw [HRES.out, if_neg x0, if_neg x1, if_neg x2, if_neg x3, if_neg x4, if_neg x5, if_neg x6, if_neg x7]
  generalize textF s = Q at *
  rw [rounds_succ]
  go_wp2_with fail
  refine (HTx.out _).mono ?_
  rintro e w5 ⟨rfl, hb⟩
  obtain ⟨s19, c19_0, c19_1, c19_2, c19_3, c19_4, c19_5, f19⟩ := L6 hb (w.heap.size) (by first | omega | (simp only [sA, sC, sD, sE]; omega) | (simp; done) | (simp; omega)) (by go_simp; exact ⟨rfl, rfl, rfl, rfl, rfl, rfl⟩) (by intro o; go_simp)
  go_wp2
  refine bodyPost_ret (v := .agg #[.int .i64 (RES).k, .int .i64 (RES).n, .int .i64 (RES).d, .string (RES).t, .bool (RES).b, .int .i64 (RES).f]) (by rw [HQ.out]; simp [results, Tryz.results207, go_sem, c19_0, c19_1, c19_2, c19_3, c19_4, c19_5]) rfl ⟨rfl, ?_⟩
  focus
    repeat with_reducible first | exact Below.refl _ _ | refine below_drewN ?_ _ | refine Below.drew ?_ | refine Below.setCell ?_ ?_ _ | refine Below.alloc ?_ ?_ _ | refine below_then ?_ ?_ (by with_reducible assumption)
    all_goals first | omega | (simp only [sA, sC, sD, sE]; omega) | (simp; done) | (simp; omega)
end Go.Proofs.YtnimenpfojcehaaGreatDoor
