/- Walks of package funcs: one text is taken; a function of one text. -/
import Derived.Test.YtnimenpfojcehaaGreatDoorVTA
import Derived.Test.YtnimenpfojcehaaGreatDoorTabX
import Derived.RegionTactic
import Derived.ChangeAlike
import Derived.Deep.RegionHeld3
namespace Go.Proofs.YtnimenpfojcehaaGreatDoor
open Go Go.RowKit
set_option linter.unusedSimpArgs false
set_option linter.unusedVariables false

theorem zero_str : ∃ i, Tryz.prog.info? 9 = some i ∧ i.zero = some (.string ByteArray.empty) ∧ i.size = 1 ∧ i.bytes = 16 := by
  have h : (Tryz.prog.info? 9).map (fun i => (i.zero, i.size, i.bytes)) = some (some (.string ByteArray.empty), 1, 16) := by kernel_rfl
  cases hi : Tryz.prog.info? 9 with
  | none => rw [hi] at h; cases h
  | some i => rw [hi] at h; simp only [Option.map_some, Option.some.injEq, Prod.mk.injEq] at h; exact ⟨i, rfl, h.1, h.2.1, h.2.2⟩
theorem below_of_grown {w w' : World} (h : w.grownBy w' none) : Below w.heap.size w w' := ⟨h.os, h.tape, h.output, h.size, fun k hk => h.block k hk (by simp)⟩

set_option maxRecDepth 100000 in
set_option maxHeartbeats 1000000 in
theorem funcs_take_s (t : ByteArray) (g c : Nat) (w : World) (hp : plainT t = true) (hs : t.size ≤ 256) (hg : g < w.heap.size)
    (c0 : w.cell? ⟨g, 0, none⟩ = some (.int .i64 2)) (c1 : w.cell? ⟨g, 1, none⟩ = some (.int .i64 0)) (c2 : w.cell? ⟨g, 2, none⟩ = some (.int .i64 0)) (c3 : w.cell? ⟨g, 3, none⟩ = some (.string t)) (c4 : w.cell? ⟨g, 4, none⟩ = some (.bool false)) (c5 : w.cell? ⟨g, 5, none⟩ = some (.int .i64 0)) :
    Calls Tryz.prog 39 #[.string ⟨#[115]⟩, .slice (some ⟨g, 0, none⟩) 1 c] w fun e w' => ∃ gt cap, e = .returned (.tuple #[.agg #[.slice none 0 0, .slice (some ⟨gt, 0, none⟩) 1 cap, .bool false], .agg #[.int .i64 (blankV).k, .int .i64 (blankV).n, .int .i64 (blankV).d, .string (blankV).t, .bool (blankV).b, .int .i64 (blankV).f]]) ∧ Below w.heap.size w w' ∧ w'.ownsRow w.heap.size 9 1 (.slice (some ⟨gt, 0, none⟩) 1 cap) 1 [.string t] := by
  have HT := Lib.hid fun wx => value_AsText_text t wx hp hs
  have hne : ¬ g = w.heap.size := by omega
  have hne' : ¬ w.heap.size = g := by omega
  go_enter Tryz.func39, Tryz.ntmps39
  go_wp2
  refine wp_loop_rounds 2 ?_
  rw [rounds_succ]
  go_wp2_with fail
  refine (HT.out _).mono ?_
  rintro e w1 ⟨rfl, hb⟩
  have hs0 := hb.size
  simp only [sz_alloc] at hs0
  have s1 := lcs hb (w.heap.size) (by (first | omega | (simp only [sz_alloc, sz_setCell, sz_drew, sz_drewN]; omega) | (simp; done) | (simp; omega)))
  have c1_0 := (lcc hb (w.heap.size) (by (first | omega | (simp only [sz_alloc, sz_setCell, sz_drew, sz_drewN]; omega) | (simp; done) | (simp; omega))) 0).trans (by go_simp; exact rfl)
  have c1_1 := (lcc hb (w.heap.size) (by (first | omega | (simp only [sz_alloc, sz_setCell, sz_drew, sz_drewN]; omega) | (simp; done) | (simp; omega))) 1).trans (by go_simp; exact rfl)
  have c1_2 := (lcc hb (w.heap.size) (by (first | omega | (simp only [sz_alloc, sz_setCell, sz_drew, sz_drewN]; omega) | (simp; done) | (simp; omega))) 2).trans (by go_simp; exact rfl)
  have f1 := lcff hb (w.heap.size) (by (first | omega | (simp only [sz_alloc, sz_setCell, sz_drew, sz_drewN]; omega) | (simp; done) | (simp; omega))) (by intro o; go_simp)
  obtain ⟨s2, c2_0, c2_1, c2_2, c2_3, c2_4, c2_5, f2⟩ := L6 hb (w.heap.size + 1) (by first | omega | (simp only [sA, sC, sD, sE]; omega) | (simp; done) | (simp; omega)) (by go_simp; exact ⟨rfl, rfl, rfl, rfl, rfl, rfl⟩) (by intro o; go_simp)
  obtain ⟨i0, hi, hz, hsz, hby⟩ := zero_str
  go_upto_region 13 with (fail)
  first | with_reducible refine wp_rebase ?_ | with_reducible refine wpList_rebase ?_
  intro w1 hb'
  have hb := hb'.out
  clear hb'
  have s3 := lcs hb (w.heap.size) (by (first | omega | (simp only [sz_alloc, sz_setCell, sz_drew, sz_drewN]; omega) | (simp; done) | (simp; omega)))
  have c3_0 := (lcc hb (w.heap.size) (by (first | omega | (simp only [sz_alloc, sz_setCell, sz_drew, sz_drewN]; omega) | (simp; done) | (simp; omega))) 0).trans (by go_simp; exact rfl)
  have c3_1 := (lcc hb (w.heap.size) (by (first | omega | (simp only [sz_alloc, sz_setCell, sz_drew, sz_drewN]; omega) | (simp; done) | (simp; omega))) 1).trans (by go_simp; exact rfl)
  have c3_2 := (lcc hb (w.heap.size) (by (first | omega | (simp only [sz_alloc, sz_setCell, sz_drew, sz_drewN]; omega) | (simp; done) | (simp; omega))) 2).trans (by go_simp; exact rfl)
  have f3 := lcff hb (w.heap.size) (by (first | omega | (simp only [sz_alloc, sz_setCell, sz_drew, sz_drewN]; omega) | (simp; done) | (simp; omega))) (by intro o; go_simp)
  obtain ⟨s4, c4_0, c4_1, c4_2, c4_3, c4_4, c4_5, f4⟩ := L6 hb (w.heap.size + 1) (by first | omega | (simp only [sA, sC, sD, sE]; omega) | (simp; done) | (simp; omega)) (by go_simp; exact ⟨rfl, rfl, rfl, rfl, rfl, rfl⟩) (by intro o; go_simp)
  clear c1_0 c1_1 c1_2 f1 c2_0 c2_1 c2_2 c2_3 c2_4 c2_5 f2
  have hs1 := hb.size
  simp only [sz_alloc, sz_setCell] at hs1
  have hwB : w.heap.size + 2 ≤ (w1.alloc (.cells #[.string t] 9)).heap.size := by rw [sz_alloc]; omega
  go_wp2_with (first
    | (at_builtin
       refine wpList_append_lies _ rfl _ _ 77 rfl (w.heap.size + 2) 9 i0 _ 1 16 Tryz.underlying77 hi hz hsz hby rfl (by decide) _ 0 [] rfl (World.ownsRow_nil _ _ _ _) ⟨w1.heap.size, 0, none⟩ 1 1 [.string t] rfl rfl (World.news_of_block (heap_alloc_new _ _)) (by intro u hu; simp at hu; subst hu; rfl) (by decide) (by decide) (by decide) hwB _ rfl ?_
       intro gt cap w3 hown3 hgrow3 hat3 hlt3
       have hb3 := below_of_grown hgrow3
       have s5 := lcs hb3 (w.heap.size) (by (first | omega | (simp only [sz_alloc, sz_setCell, sz_drew, sz_drewN]; omega) | (simp; done) | (simp; omega)))
       have c5_0 := (lcc hb3 (w.heap.size) (by (first | omega | (simp only [sz_alloc, sz_setCell, sz_drew, sz_drewN]; omega) | (simp; done) | (simp; omega))) 0).trans (by go_simp; exact rfl)
       have c5_1 := (lcc hb3 (w.heap.size) (by (first | omega | (simp only [sz_alloc, sz_setCell, sz_drew, sz_drewN]; omega) | (simp; done) | (simp; omega))) 1).trans (by go_simp; exact rfl)
       have c5_2 := (lcc hb3 (w.heap.size) (by (first | omega | (simp only [sz_alloc, sz_setCell, sz_drew, sz_drewN]; omega) | (simp; done) | (simp; omega))) 2).trans (by go_simp; exact rfl)
       have f5 := lcff hb3 (w.heap.size) (by (first | omega | (simp only [sz_alloc, sz_setCell, sz_drew, sz_drewN]; omega) | (simp; done) | (simp; omega))) (by intro o; go_simp)
       obtain ⟨s6, c6_0, c6_1, c6_2, c6_3, c6_4, c6_5, f6⟩ := L6 hb3 (w.heap.size + 1) (by first | omega | (simp only [sA, sC, sD, sE]; omega) | (simp; done) | (simp; omega)) (by go_simp; exact ⟨rfl, rfl, rfl, rfl, rfl, rfl⟩) (by intro o; go_simp)
       clear c3_0 c3_1 c3_2 f3 c4_0 c4_1 c4_2 c4_3 c4_4 c4_5 f4
       )
    | fail)
  rw [rounds_succ]
  have hlt3' := Lib.hid hlt3
  have hown3' := Lib.hid hown3
  have hs3 := hb3.size
  simp only [sz_alloc] at hs3
  clear hgrow3 hat3 hown3
  go_upto_region 16 with (fail)
  first | with_reducible refine wp_rebase ?_ | with_reducible refine wpList_rebase ?_
  intro w1 hb'
  have hb := hb'.out
  clear hb'
  have s7 := lcs hb (w.heap.size) (by (first | omega | (simp only [sz_alloc, sz_setCell, sz_drew, sz_drewN]; omega) | (simp; done) | (simp; omega)))
  have c7_0 := (lcc hb (w.heap.size) (by (first | omega | (simp only [sz_alloc, sz_setCell, sz_drew, sz_drewN]; omega) | (simp; done) | (simp; omega))) 0).trans (by go_simp; exact rfl)
  have c7_1 := (lcc hb (w.heap.size) (by (first | omega | (simp only [sz_alloc, sz_setCell, sz_drew, sz_drewN]; omega) | (simp; done) | (simp; omega))) 1).trans (by go_simp; exact rfl)
  have c7_2 := (lcc hb (w.heap.size) (by (first | omega | (simp only [sz_alloc, sz_setCell, sz_drew, sz_drewN]; omega) | (simp; done) | (simp; omega))) 2).trans (by go_simp; exact rfl)
  have f7 := lcff hb (w.heap.size) (by (first | omega | (simp only [sz_alloc, sz_setCell, sz_drew, sz_drewN]; omega) | (simp; done) | (simp; omega))) (by intro o; go_simp)
  obtain ⟨s8, c8_0, c8_1, c8_2, c8_3, c8_4, c8_5, f8⟩ := L6 hb (w.heap.size + 1) (by first | omega | (simp only [sA, sC, sD, sE]; omega) | (simp; done) | (simp; omega)) (by go_simp; exact ⟨rfl, rfl, rfl, rfl, rfl, rfl⟩) (by intro o; go_simp)
  clear c5_0 c5_1 c5_2 f5 c6_0 c6_1 c6_2 c6_3 c6_4 c6_5 f6
  go_region_held3 (fun w' => w'.cell? ⟨w.heap.size, 0, none⟩ = some (.slice none 0 0) ∧ w'.cell? ⟨w.heap.size, 1, none⟩ = some (.slice (some ⟨gt, 0, none⟩) 1 cap) ∧ w'.cell? ⟨w.heap.size, 2, none⟩ = some (.bool false) ∧ w'.cell? ⟨w.heap.size + 1, 0, none⟩ = some (.int .i64 blankV.k) ∧ w'.cell? ⟨w.heap.size + 1, 1, none⟩ = some (.int .i64 blankV.n) ∧ w'.cell? ⟨w.heap.size + 1, 2, none⟩ = some (.int .i64 blankV.d) ∧ w'.cell? ⟨w.heap.size + 1, 3, none⟩ = some (.string blankV.t) ∧ w'.cell? ⟨w.heap.size + 1, 4, none⟩ = some (.bool blankV.b) ∧ w'.cell? ⟨w.heap.size + 1, 5, none⟩ = some (.int .i64 blankV.f)) ((first | (refine ⟨?_, ?_, ?_, ?_, ?_, ?_, ?_, ?_, ?_⟩ <;> (go_simp; done)) | go_keep)) (fail)
  rename_i kK kA hHeld
  clear hHeld
  have ho1 := own_below (ownsRow_setCell_below hown3'.out (a := ⟨w.heap.size, 1, none⟩) (by show w.heap.size < _; omega) (.slice (some ⟨gt, 0, none⟩) 1 cap)) hb
  have ho2 := Lib.hid ho1
  clear ho1
  go_wp2
  refine bodyPost_ret (v := .tuple #[.agg #[.slice none 0 0, .slice (some ⟨gt, 0, none⟩) 1 cap, .bool false], .agg #[.int .i64 (blankV).k, .int .i64 (blankV).n, .int .i64 (blankV).d, .string (blankV).t, .bool (blankV).b, .int .i64 (blankV).f]]) (by simp [results, Tryz.results39, go_sem, c7_0, c7_1, c7_2, c8_0, c8_1, c8_2, c8_3, c8_4, c8_5]) rfl ⟨gt, cap, rfl, ?_, ?_⟩
  · focus
      repeat with_reducible first | exact Below.refl _ _ | refine below_drewN ?_ _ | refine Below.drew ?_ | refine Below.setCell ?_ ?_ _ | refine Below.alloc ?_ ?_ _ | refine below_then ?_ ?_ (by with_reducible assumption)
      all_goals first | omega | (simp only [sA, sC, sD, sE]; omega) | (simp; done) | (simp; omega)
  · refine own_mono (base := w.heap.size + 2) ?_ (by omega)
    refine World.ownsRow.drew ?_
    repeat (with_reducible refine ownsRow_setCell_below ?_ (by first | (show w.heap.size < _; omega) | (show w.heap.size + 1 < _; omega)) _)
    exact ho2.out

set_option maxRecDepth 100000 in
set_option maxHeartbeats 1000000 in
theorem funcs_ofTexts48 (t : ByteArray) (gt cap : Nat) (w : World) (hs : t.size ≤ 256) (hg : gt < w.heap.size) (c0 : w.cell? ⟨gt, 0, none⟩ = some (.string t)) :
    Calls Tryz.prog 41 #[.int .i64 48, .agg #[.slice none 0 0, .slice (some ⟨gt, 0, none⟩) 1 cap, .bool false]] w fun e w' => e = .returned (.agg #[.int .i64 (wholeF t.size).k, .int .i64 (wholeF t.size).n, .int .i64 (wholeF t.size).d, .string (wholeF t.size).t, .bool (wholeF t.size).b, .int .i64 (wholeF t.size).f]) ∧ Below w.heap.size w w' := by
  have hne : ¬ gt = w.heap.size := by omega
  have hne' : ¬ w.heap.size = gt := by omega
  have HW := Lib.hid fun wx => funcs_whole (t.size : Int) wx ⟨by omega, by omega⟩
  go_enter Tryz.func41, Tryz.ntmps41
  go_wp2_with fail
  refine (HW.out _).mono ?_
  rintro e w1 ⟨rfl, hb⟩
  obtain ⟨s9, c9_0, c9_1, c9_2, c9_3, c9_4, c9_5, f9⟩ := L6 hb (w.heap.size + 1) (by first | omega | (simp only [sA, sC, sD, sE]; omega) | (simp; done) | (simp; omega)) (by go_simp; exact ⟨rfl, rfl, rfl, rfl, rfl, rfl⟩) (by intro o; go_simp)
  go_wp2
  refine bodyPost_ret (v := .agg #[.int .i64 (wholeF t.size).k, .int .i64 (wholeF t.size).n, .int .i64 (wholeF t.size).d, .string (wholeF t.size).t, .bool (wholeF t.size).b, .int .i64 (wholeF t.size).f]) (by simp [results, Tryz.results41, go_sem, c9_0, c9_1, c9_2, c9_3, c9_4, c9_5]) rfl ⟨rfl, ?_⟩
  focus
    repeat with_reducible first | exact Below.refl _ _ | refine below_drewN ?_ _ | refine Below.drew ?_ | refine Below.setCell ?_ ?_ _ | refine Below.alloc ?_ ?_ _ | refine below_then ?_ ?_ (by with_reducible assumption)
    all_goals first | omega | (simp only [sA, sC, sD, sE]; omega) | (simp; done) | (simp; omega)
end Go.Proofs.YtnimenpfojcehaaGreatDoor
