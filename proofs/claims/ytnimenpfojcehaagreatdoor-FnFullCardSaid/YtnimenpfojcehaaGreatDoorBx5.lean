/- Walks of package funcs: the table's scalars. Walks of package funcs: Apply at LEN. -/
import Derived.Test.YtnimenpfojcehaaGreatDoorTabX
import Derived.Test.YtnimenpfojcehaaGreatDoorAppB
import Derived.Test.YtnimenpfojcehaaGreatDoorTabC
namespace Go.Proofs.YtnimenpfojcehaaGreatDoor
open Go Go.RowKit
set_option linter.unusedSimpArgs false
set_option linter.unusedVariables false

set_option maxRecDepth 100000 in
set_option maxHeartbeats 8000000 in
theorem funcs_scalars (w : World) :
    Calls Tryz.prog 51 #[] w fun e w' => ∃ g, e = .returned (.slice (some ⟨g, 0, none⟩) 23 23) ∧ Below w.heap.size w w' ∧ w.heap.size ≤ g ∧ w'.heap[g]? = some (.cells (scalarsL.flatMap SigS.cells).toArray 49 (0, 0)) := by
  have hb := Below.refl w.heap.size w
  go_enter Tryz.func51, Tryz.ntmps51
  repeat (go_wp2_with fail; refine (funcs_scalar _ _ _ _ _).mono ?_; rintro e wn ⟨rfl, hn⟩; replace hb := hb.trans (hn.mono hb.size); clear hn)
  go_wp2
  go_ret
  refine ⟨_, rfl, ?_, hb.size, heap_alloc_new _ _⟩
  exact hb.alloc hb.size _

end Go.Proofs.YtnimenpfojcehaaGreatDoor
namespace Go.Proofs.YtnimenpfojcehaaGreatDoor
open Go Go.RowKit
set_option linter.unusedSimpArgs false
set_option linter.unusedVariables false

theorem zero_val : ∃ i, Tryz.prog.info? 33 = some i ∧ i.zero = some (.agg #[.int .i64 0, .int .i64 0, .int .i64 0, .string ⟨#[]⟩, .bool false, .int .i64 0]) ∧ i.size = 6 ∧ i.bytes = 56 := by
  have h : (Tryz.prog.info? 33).map (fun i => (i.zero, i.size, i.bytes)) = some (some (.agg #[.int .i64 0, .int .i64 0, .int .i64 0, .string ⟨#[]⟩, .bool false, .int .i64 0]), 6, 56) := by kernel_rfl
  cases hi : Tryz.prog.info? 33 with
  | none => rw [hi] at h; cases h
  | some i => rw [hi] at h; simp only [Option.map_some, Option.some.injEq, Prod.mk.injEq] at h; exact ⟨i, rfl, h.1, h.2.1, h.2.2⟩
def Vl.cells (v : Vl) : List Value := [.int .i64 v.k, .int .i64 v.n, .int .i64 v.d, .string v.t, .bool v.b, .int .i64 v.f]
theorem Vl.one (v : Vl) : ∀ u ∈ v.cells, u.oneCell' = true := by
  intro u hu
  simp only [Vl.cells, List.mem_cons, List.mem_nil_iff, or_false] at hu
  rcases hu with rfl | rfl | rfl | rfl | rfl | rfl <;> rfl
theorem byId48 (w : World) : Calls Tryz.prog 33 #[.int .i64 48] w fun e w' => e = .returned (.tuple #[.agg #[.int .i64 48, .int .i64 4, .string ⟨#[76, 69, 78]⟩, .int .i64 1, .int .i64 1, .string ⟨#[118]⟩], .bool true]) ∧ Below w.heap.size w w' := by
  have h := funcs_ById 48 w funcs_scalars
  have e : byIdL 48 = some ⟨48, 4, ⟨#[76, 69, 78]⟩, 1, 1, ⟨#[118]⟩⟩ := rfl
  rw [e] at h
  exact h

set_option maxRecDepth 100000 in
set_option maxHeartbeats 4000000 in
theorem funcs_Apply48 (t : ByteArray) (g c : Nat) (w : World) (hp : plainT t = true) (hs : t.size ≤ 256) (hg : g < w.heap.size)
    (c0 : w.cell? ⟨g, 0, none⟩ = some (.int .i64 2)) (c1 : w.cell? ⟨g, 1, none⟩ = some (.int .i64 0)) (c2 : w.cell? ⟨g, 2, none⟩ = some (.int .i64 0)) (c3 : w.cell? ⟨g, 3, none⟩ = some (.string t)) (c4 : w.cell? ⟨g, 4, none⟩ = some (.bool false)) (c5 : w.cell? ⟨g, 5, none⟩ = some (.int .i64 0)) :
    Calls Tryz.prog 22 #[.int .i64 48, .slice (some ⟨g, 0, none⟩) 1 c] w fun e w' => e = .returned (.agg #[.int .i64 (wholeF t.size).k, .int .i64 (wholeF t.size).n, .int .i64 (wholeF t.size).d, .string (wholeF t.size).t, .bool (wholeF t.size).b, .int .i64 (wholeF t.size).f]) ∧ Below w.heap.size w w' := by
  have hr : rightV (textV t) = true := by unfold rightV; simp [textV, hp, hs, veq_true.2]
  have HT : Hid (∀ wx : World, Calls Tryz.prog 27 #[.agg #[.int .i64 2, .int .i64 0, .int .i64 0, .string t, .bool false, .int .i64 0]] wx fun e w' => e = .returned (.agg #[.int .i64 2, .int .i64 0, .int .i64 0, .string t, .bool false, .int .i64 0]) ∧ Below wx.heap.size wx w') := by
    intro wx
    have h := funcs_taken 2 0 0 t false 0 wx (right_in hr)
    rw [tkV_of (x := ⟨2, 0, 0, t, false, 0⟩) hr] at h
    exact h
  have hne : ¬ g = w.heap.size := by omega
  have hne' : ¬ w.heap.size = g := by omega
  obtain ⟨i0, hi, hz, hsz, hby⟩ := zero_val
  clear hr
  go_enter Tryz.func22, Tryz.ntmps22
  go_wp2_with fail
  refine (byId48 _).mono ?_
  rintro e wA ⟨rfl, hb⟩
  have hsA := hb.size
  simp only [sz_alloc] at hsA
  obtain ⟨s1, c1_0, c1_1, c1_2, c1_3, c1_4, c1_5, f1⟩ := L6 hb (w.heap.size) (by first | omega | (simp only [sA, sC, sD, sE]; omega) | (simp; done) | (simp; omega)) (by go_simp; exact ⟨rfl, rfl, rfl, rfl, rfl, rfl⟩) (by intro o; go_simp)
  obtain ⟨s2, c2_0, c2_1, c2_2, c2_3, c2_4, c2_5⟩ := L6r hb (g) (by first | omega | (simp only [sA, sC, sD, sE]; omega) | (simp; done) | (simp; omega)) (by go_simp; exact ⟨rfl, rfl, rfl, rfl, rfl, rfl⟩)
  have q1 : ¬ g = wA.heap.size := by omega
  have q2 : ¬ wA.heap.size = g := by omega
  have q3 : ¬ w.heap.size = wA.heap.size := by omega
  have q4 : ¬ wA.heap.size = w.heap.size := by omega
  go_wp2
  refine wp_loop_rounds 2 ?_
  rw [rounds_succ]
  go_wp2_with fail
  refine (HT.out _).mono ?_
  rintro e wB ⟨rfl, hb⟩
  have hsB := hb.size
  simp only [sz_alloc] at hsB
  obtain ⟨s3, c3_0, c3_1, c3_2, c3_3, c3_4, c3_5, f3⟩ := L6 hb (w.heap.size) (by first | omega | (simp only [sA, sC, sD, sE]; omega) | (simp; done) | (simp; omega)) (by go_simp; exact ⟨rfl, rfl, rfl, rfl, rfl, rfl⟩) (by intro o; go_simp)
  obtain ⟨s4, c4_0, c4_1, c4_2, c4_3, c4_4, c4_5, f4⟩ := L6 hb (wA.heap.size) (by first | omega | (simp only [sA, sC, sD, sE]; omega) | (simp; done) | (simp; omega)) (by go_simp; exact ⟨rfl, rfl, rfl, rfl, rfl, rfl⟩) (by intro o; go_simp)
  clear c1_0 c1_1 c1_2 c1_3 c1_4 c1_5 f1 c2_0 c2_1 c2_2 c2_3 c2_4 c2_5
  have hwB : wA.heap.size + 2 ≤ (wB.alloc (.cells (Vl.cells ⟨2, 0, 0, t, false, 0⟩).toArray 33)).heap.size := by rw [sz_alloc]; omega
  go_wp2_with (first
    | (at_builtin
       refine wpList_append_lies _ rfl _ _ 22 rfl (wA.heap.size + 2) 33 i0 _ 6 56 Tryz.underlying22 hi hz hsz hby rfl (by decide) _ 0 [] rfl (World.ownsRow_nil _ _ _ _) ⟨wB.heap.size, 0, none⟩ 1 1 (Vl.cells ⟨2, 0, 0, t, false, 0⟩) rfl rfl (World.news_of_block (heap_alloc_new _ _)) (Vl.one _) (by decide) (by decide) (by decide) hwB _ rfl ?_
       intro gv cap w3 hown3 hgrow3 hat3 hlt3
       have hb3 := below_of_grown hgrow3
       obtain ⟨s5, c5_0, c5_1, c5_2, c5_3, c5_4, c5_5, f5⟩ := L6 hb3 (w.heap.size) (by first | omega | (simp only [sA, sC, sD, sE]; omega) | (simp; done) | (simp; omega)) (by go_simp; exact ⟨rfl, rfl, rfl, rfl, rfl, rfl⟩) (by intro o; go_simp)
       obtain ⟨s6, c6_0, c6_1, c6_2, c6_3, c6_4, c6_5, f6⟩ := L6 hb3 (wA.heap.size) (by first | omega | (simp only [sA, sC, sD, sE]; omega) | (simp; done) | (simp; omega)) (by go_simp; exact ⟨rfl, rfl, rfl, rfl, rfl, rfl⟩) (by intro o; go_simp)
       clear c3_0 c3_1 c3_2 c3_3 c3_4 c3_5 f3 c4_0 c4_1 c4_2 c4_3 c4_4 c4_5 f4
       )
    | fail)
  have hs3 := hb3.size
  simp only [sz_alloc] at hs3
  have e0 : w3.cell? ⟨gv, 0, none⟩ = some (.int .i64 2) := hown3.cellAt 0 (by decide)
  have e1 : w3.cell? ⟨gv, 1, none⟩ = some (.int .i64 0) := hown3.cellAt 1 (by decide)
  have e2 : w3.cell? ⟨gv, 2, none⟩ = some (.int .i64 0) := hown3.cellAt 2 (by decide)
  have e3 : w3.cell? ⟨gv, 3, none⟩ = some (.string t) := hown3.cellAt 3 (by decide)
  have e4 : w3.cell? ⟨gv, 4, none⟩ = some (.bool false) := hown3.cellAt 4 (by decide)
  have e5 : w3.cell? ⟨gv, 5, none⟩ = some (.int .i64 0) := hown3.cellAt 5 (by decide)
  have hgv := (hown3.lt gv rfl).1
  clear hgrow3 hat3 hown3
  rw [rounds_succ]
  go_upto_region 12 with (fail)
  first | with_reducible refine wp_rebase ?_ | with_reducible refine wpList_rebase ?_
  intro w1 hb'
  have hb := hb'.out
  clear hb'
  obtain ⟨s7, c7_0, c7_1, c7_2, c7_3, c7_4, c7_5, f7⟩ := L6 hb (w.heap.size) (by first | omega | (simp only [sA, sC, sD, sE]; omega) | (simp; done) | (simp; omega)) (by go_simp; exact ⟨rfl, rfl, rfl, rfl, rfl, rfl⟩) (by intro o; go_simp)
  obtain ⟨s8, c8_0, c8_1, c8_2, c8_3, c8_4, c8_5, f8⟩ := L6 hb (wA.heap.size) (by first | omega | (simp only [sA, sC, sD, sE]; omega) | (simp; done) | (simp; omega)) (by go_simp; exact ⟨rfl, rfl, rfl, rfl, rfl, rfl⟩) (by intro o; go_simp)
  obtain ⟨s9, c9_0, c9_1, c9_2, c9_3, c9_4, c9_5⟩ := L6r hb (gv) (by first | omega | (simp only [sA, sC, sD, sE]; omega) | (simp; done) | (simp; omega)) (by go_simp; exact ⟨rfl, rfl, rfl, rfl, rfl, rfl⟩)
  clear c5_0 c5_1 c5_2 c5_3 c5_4 c5_5 f5 c6_0 c6_1 c6_2 c6_3 c6_4 c6_5 f6
  go_wp2_with fail
  refine (funcs_asked48 _ _ _ _ _ _ _).mono ?_
  rintro e wC ⟨rfl, hb⟩
  obtain ⟨s10, c10_0, c10_1, c10_2, c10_3, c10_4, c10_5, f10⟩ := L6 hb (w.heap.size) (by first | omega | (simp only [sA, sC, sD, sE]; omega) | (simp; done) | (simp; omega)) (by go_simp; exact ⟨rfl, rfl, rfl, rfl, rfl, rfl⟩) (by intro o; go_simp)
  obtain ⟨s11, c11_0, c11_1, c11_2, c11_3, c11_4, c11_5, f11⟩ := L6 hb (wA.heap.size) (by first | omega | (simp only [sA, sC, sD, sE]; omega) | (simp; done) | (simp; omega)) (by go_simp; exact ⟨rfl, rfl, rfl, rfl, rfl, rfl⟩) (by intro o; go_simp)
  obtain ⟨s12, c12_0, c12_1, c12_2, c12_3, c12_4, c12_5⟩ := L6r hb (gv) (by first | omega | (simp only [sA, sC, sD, sE]; omega) | (simp; done) | (simp; omega)) (by go_simp; exact ⟨rfl, rfl, rfl, rfl, rfl, rfl⟩)
  clear c7_0 c7_1 c7_2 c7_3 c7_4 c7_5 f7 c8_0 c8_1 c8_2 c8_3 c8_4 c8_5 f8 c9_0 c9_1 c9_2 c9_3 c9_4 c9_5
  have hsC := hb.size
  go_wp2
  refine wp_loop_rounds 2 ?_
  rw [rounds_succ]
  go_wp2
  rw [rounds_succ]
  go_upto_region 21 with (fail)
  first | with_reducible refine wp_rebase ?_ | with_reducible refine wpList_rebase ?_
  intro w1 hb'
  have hb := hb'.out
  clear hb'
  obtain ⟨s13, c13_0, c13_1, c13_2, c13_3, c13_4, c13_5, f13⟩ := L6 hb (w.heap.size) (by first | omega | (simp only [sA, sC, sD, sE]; omega) | (simp; done) | (simp; omega)) (by go_simp; exact ⟨rfl, rfl, rfl, rfl, rfl, rfl⟩) (by intro o; go_simp)
  obtain ⟨s14, c14_0, c14_1, c14_2, c14_3, c14_4, c14_5, f14⟩ := L6 hb (wA.heap.size) (by first | omega | (simp only [sA, sC, sD, sE]; omega) | (simp; done) | (simp; omega)) (by go_simp; exact ⟨rfl, rfl, rfl, rfl, rfl, rfl⟩) (by intro o; go_simp)
  obtain ⟨s15, c15_0, c15_1, c15_2, c15_3, c15_4, c15_5⟩ := L6r hb (gv) (by first | omega | (simp only [sA, sC, sD, sE]; omega) | (simp; done) | (simp; omega)) (by go_simp; exact ⟨rfl, rfl, rfl, rfl, rfl, rfl⟩)
  clear c10_0 c10_1 c10_2 c10_3 c10_4 c10_5 f10 c11_0 c11_1 c11_2 c11_3 c11_4 c11_5 f11 c12_0 c12_1 c12_2 c12_3 c12_4 c12_5
  go_wp2_with fail
  refine (funcs_shape48 _).mono ?_
  rintro e wD ⟨rfl, rfl⟩
  go_wp2_with fail
  refine (funcs_take_s t gv cap _ hp hs (by assumption) (by assumption) (by assumption) (by assumption) (by assumption) (by assumption) (by assumption)).mono ?_
  rintro e wD ⟨gt, capt, rfl, hb, hownt⟩
  have ht0 : wD.cell? ⟨gt, 0, none⟩ = some (.string t) := hownt.cellAt 0 (by decide)
  have hgt := (hownt.lt gt rfl).2
  clear hownt
  obtain ⟨s16, c16_0, c16_1, c16_2, c16_3, c16_4, c16_5, f16⟩ := L6 hb (w.heap.size) (by first | omega | (simp only [sA, sC, sD, sE]; omega) | (simp; done) | (simp; omega)) (by go_simp; exact ⟨rfl, rfl, rfl, rfl, rfl, rfl⟩) (by intro o; go_simp)
  clear c13_0 c13_1 c13_2 c13_3 c13_4 c13_5 f13 c14_0 c14_1 c14_2 c14_3 c14_4 c14_5 f14 c15_0 c15_1 c15_2 c15_3 c15_4 c15_5
  have q5 : ¬ gt = wD.heap.size := by omega
  have q6 : ¬ wD.heap.size = gt := by omega
  go_upto_region 33 with (fail)
  first | with_reducible refine wp_rebase ?_ | with_reducible refine wpList_rebase ?_
  intro w1 hb'
  have hb := hb'.out
  clear hb'
  obtain ⟨s17, c17_0, c17_1, c17_2, c17_3, c17_4, c17_5, f17⟩ := L6 hb (w.heap.size) (by first | omega | (simp only [sA, sC, sD, sE]; omega) | (simp; done) | (simp; omega)) (by go_simp; exact ⟨rfl, rfl, rfl, rfl, rfl, rfl⟩) (by intro o; go_simp)
  obtain ⟨s18, c18_0⟩ := L1r hb (gt) (by first | omega | (simp only [sA, sC, sD, sE]; omega) | (simp; done) | (simp; omega)) (by go_simp; exact rfl)
  have s19 := lcs hb (wD.heap.size) (by (first | omega | (simp only [sz_alloc, sz_setCell, sz_drew, sz_drewN]; omega) | (simp; done) | (simp; omega)))
  have c19_0 := (lcc hb (wD.heap.size) (by (first | omega | (simp only [sz_alloc, sz_setCell, sz_drew, sz_drewN]; omega) | (simp; done) | (simp; omega))) 0).trans (by go_simp; exact rfl)
  have c19_1 := (lcc hb (wD.heap.size) (by (first | omega | (simp only [sz_alloc, sz_setCell, sz_drew, sz_drewN]; omega) | (simp; done) | (simp; omega))) 1).trans (by go_simp; exact rfl)
  have c19_2 := (lcc hb (wD.heap.size) (by (first | omega | (simp only [sz_alloc, sz_setCell, sz_drew, sz_drewN]; omega) | (simp; done) | (simp; omega))) 2).trans (by go_simp; exact rfl)
  clear c16_0 c16_1 c16_2 c16_3 c16_4 c16_5 f16
  go_wp2_with fail
  refine (funcs_ofTexts48 t gt capt _ hs (by assumption) (by assumption)).mono ?_
  rintro e wE ⟨rfl, hb⟩
  obtain ⟨s20, c20_0, c20_1, c20_2, c20_3, c20_4, c20_5, f20⟩ := L6 hb (w.heap.size) (by first | omega | (simp only [sA, sC, sD, sE]; omega) | (simp; done) | (simp; omega)) (by go_simp; exact ⟨rfl, rfl, rfl, rfl, rfl, rfl⟩) (by intro o; go_simp)
  clear c17_0 c17_1 c17_2 c17_3 c17_4 c17_5 f17 c18_0 c19_0 c19_1 c19_2
  go_wp2
  refine bodyPost_ret (v := .agg #[.int .i64 (wholeF t.size).k, .int .i64 (wholeF t.size).n, .int .i64 (wholeF t.size).d, .string (wholeF t.size).t, .bool (wholeF t.size).b, .int .i64 (wholeF t.size).f]) (by simp [results, Tryz.results22, go_sem, c20_0, c20_1, c20_2, c20_3, c20_4, c20_5]) rfl ⟨rfl, ?_⟩
  focus
    repeat with_reducible first | exact Below.refl _ _ | refine below_drewN ?_ _ | refine Below.drew ?_ | refine Below.setCell ?_ ?_ _ | refine Below.alloc ?_ ?_ _ | refine below_then ?_ ?_ (by with_reducible assumption)
    all_goals first | omega | (simp only [sA, sC, sD, sE]; omega) | (simp; done) | (simp; omega)
end Go.Proofs.YtnimenpfojcehaaGreatDoor
