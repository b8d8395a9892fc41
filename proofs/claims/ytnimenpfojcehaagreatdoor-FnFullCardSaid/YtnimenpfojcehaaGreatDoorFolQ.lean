/- Walks of package funcs: pairs, Back of a state that may be. -/
import Derived.Test.YtnimenpfojcehaaGreatDoorFolK
import Derived.Test.YtnimenpfojcehaaGreatDoorBx3
namespace Go.Proofs.YtnimenpfojcehaaGreatDoor
open Go Go.RowKit
set_option linter.unusedSimpArgs false
set_option linter.unusedVariables false

@[go_sem high] theorem run_eqN (w : World) (n d n' d' : Int) : (binOp .eql 31 (.agg #[.int .i64 n, .int .i64 d]) (.agg #[.int .i64 n', .int .i64 d'])).run Tryz.prog w = .ok (.bool (n == n' && d == d')) w := by
  simp only [binOp, Op.equal, Op.maxDepth]
  simp [eqN]
/-- What a block that holds a state holds, cell by cell. -/
theorem accC_cells {S : AccS} {w : World} {b : Nat} (h : Blk w b (accC S) 35) :
    (w.cell? ⟨b, 0, none⟩ = some (.int .i64 S.fn) ∧ w.cell? ⟨b, 1, none⟩ = some (.int .i64 S.count) ∧ w.cell? ⟨b, 2, none⟩ = some (.int .i64 S.n) ∧ w.cell? ⟨b, 3, none⟩ = some (.int .i64 S.d)) ∧
    (w.cell? ⟨b, 4, none⟩ = some (.int .i64 S.v.k) ∧ w.cell? ⟨b, 5, none⟩ = some (.int .i64 S.v.n) ∧ w.cell? ⟨b, 6, none⟩ = some (.int .i64 S.v.d) ∧ w.cell? ⟨b, 7, none⟩ = some (.string S.v.t) ∧ w.cell? ⟨b, 8, none⟩ = some (.bool S.v.b) ∧ w.cell? ⟨b, 9, none⟩ = some (.int .i64 S.v.f)) ∧
    (w.cell? ⟨b, 10, none⟩ = some (.int .i64 S.needle.k) ∧ w.cell? ⟨b, 11, none⟩ = some (.int .i64 S.needle.n) ∧ w.cell? ⟨b, 12, none⟩ = some (.int .i64 S.needle.d) ∧ w.cell? ⟨b, 13, none⟩ = some (.string S.needle.t) ∧ w.cell? ⟨b, 14, none⟩ = some (.bool S.needle.b) ∧ w.cell? ⟨b, 15, none⟩ = some (.int .i64 S.needle.f)) ∧
    (w.cell? ⟨b, 16, none⟩ = some (.bool S.has) ∧ w.cell? ⟨b, 17, none⟩ = some (.bool S.full) ∧ w.cell? ⟨b, 18, none⟩ = some (.bool S.wants) ∧ w.cell? ⟨b, 19, none⟩ = some (.int .i64 S.hn) ∧ w.cell? ⟨b, 20, none⟩ = some (.int .i64 S.hd)) :=
  ⟨⟨h.cell 0, h.cell 1, h.cell 2, h.cell 3⟩, ⟨h.cell 4, h.cell 5, h.cell 6, h.cell 7, h.cell 8, h.cell 9⟩, ⟨h.cell 10, h.cell 11, h.cell 12, h.cell 13, h.cell 14, h.cell 15⟩, h.cell 16, h.cell 17, h.cell 18, h.cell 19, h.cell 20⟩
set_option maxRecDepth 100000 in
set_option maxHeartbeats 4000000 in
theorem funcs_pairs (S : AccS) (m : Int) (w : World) (h : OkS S m) :
    Calls Tryz.prog 26 #[accV S] w fun e w' => e = .returned (.bool true) ∧ Below w.heap.size w w' := by
  have hw0 := h.w0
  have hw1 := h.w1
  have HA := Lib.hid (show Blk (w.alloc (.cells (accC S) 35)) w.heap.size (accC S) 35 from heap_alloc_new _ _)
  unfold accV accC
  cases hw : S.wants
  · obtain ⟨e1, e2⟩ := hw0 hw
    clear hw0 hw1 h
    have e1' : (S.hn == 0) = true := by rw [e1]; rfl
    have e2' : (S.hd == 0) = true := by rw [e2]; rfl
    clear e1 e2
    go_enter Tryz.func26, Tryz.ntmps26
    go_wp2
    refine bodyPost_ret (v := .bool true) (by simp [results, Tryz.results26, go_sem]) rfl ⟨rfl, ?_⟩
    focus
      repeat with_reducible first | exact Below.refl _ _ | refine below_drewN ?_ _ | refine Below.drew ?_ | refine Below.setCell ?_ ?_ _ | refine Below.alloc ?_ ?_ _ | refine below_then ?_ ?_ (by with_reducible assumption)
      all_goals first | omega | (simp only [sA, sC, sD, sE]; omega) | (simp; done) | (simp; omega)
  · obtain ⟨hu, hc⟩ := hw1 hw
    clear hw0 hw1 h
    rcases hc with ⟨hf, hr⟩ | ⟨hf, e1, e2⟩
    · have hf1 : (S.fn == 24) = true := by simp [hf]
      obtain ⟨j1, j2⟩ := rightN_i64 hr
      have HR := Lib.hid fun wx => num_Right S.hn S.hd wx j1 j2
      rw [hr] at HR
      clear hf hr j1 j2
      go_enter Tryz.func26, Tryz.ntmps26
      go_wp2_with fail
      refine (HR.out _).mono ?_
      rintro e w1 ⟨rfl, hb⟩
      go_wp2
      refine bodyPost_ret (v := .bool true) (by simp [results, Tryz.results26, go_sem]) rfl ⟨rfl, ?_⟩
      focus
        repeat with_reducible first | exact Below.refl _ _ | refine below_drewN ?_ _ | refine Below.drew ?_ | refine Below.setCell ?_ ?_ _ | refine Below.alloc ?_ ?_ _ | refine below_then ?_ ?_ (by with_reducible assumption)
        all_goals first | omega | (simp only [sA, sC, sD, sE]; omega) | (simp; done) | (simp; omega)
    · have e1' : (S.hn == 0) = true := by rw [e1]; rfl
      have e2' : (S.hd == 0) = true := by rw [e2]; rfl
      have hf1 : (S.fn == 24) = false := by simp; omega
      rcases hf with hf | hf
      · have hf2 : (S.fn == 22) = true := by simp [hf]
        clear hf e1 e2
        go_enter Tryz.func26, Tryz.ntmps26
        go_wp2
        refine bodyPost_ret (v := .bool true) (by simp [results, Tryz.results26, go_sem]) rfl ⟨rfl, ?_⟩
        focus
          repeat with_reducible first | exact Below.refl _ _ | refine below_drewN ?_ _ | refine Below.drew ?_ | refine Below.setCell ?_ ?_ _ | refine Below.alloc ?_ ?_ _ | refine below_then ?_ ?_ (by with_reducible assumption)
          all_goals first | omega | (simp only [sA, sC, sD, sE]; omega) | (simp; done) | (simp; omega)
      · have hf2 : (S.fn == 22) = false := by simp [hf]
        have hf3 : (S.fn == 23) = true := by simp [hf]
        clear hf e1 e2
        go_enter Tryz.func26, Tryz.ntmps26
        go_wp2
        refine bodyPost_ret (v := .bool true) (by simp [results, Tryz.results26, go_sem]) rfl ⟨rfl, ?_⟩
        focus
          repeat with_reducible first | exact Below.refl _ _ | refine below_drewN ?_ _ | refine Below.drew ?_ | refine Below.setCell ?_ ?_ _ | refine Below.alloc ?_ ?_ _ | refine below_then ?_ ?_ (by with_reducible assumption)
          all_goals first | omega | (simp only [sA, sC, sD, sE]; omega) | (simp; done) | (simp; omega)
set_option maxRecDepth 100000 in
set_option maxHeartbeats 8000000 in
theorem funcs_Back (S : AccS) (m : Int) (w : World) (h : OkS S m) (hm : m ≤ 1000000000000) :
    Calls Tryz.prog 11 #[accV S] w fun e w' => e = .returned (.tuple #[.pointer (some ⟨w.heap.size + 1, 0, none⟩), .int .i64 0]) ∧ Blk w' (w.heap.size + 1) (accArr S (kdOf S.fn)) 57 ∧ Below w.heap.size w w' := by
  have h0 := h.c0
  have h1 := h.c1
  have c1 : decide (S.count < 0) = false := by simp; omega
  have c2 : decide (1000000000000 < S.count) = false := by simp; omega
  obtain ⟨j1, j2⟩ := rightN_i64 h.nd
  have HR := Lib.hid fun wx => num_Right S.n S.d wx j1 j2
  rw [h.nd] at HR
  have HV := Lib.hid fun wx => value_Right S.v.k S.v.n S.v.d S.v.t S.v.b S.v.f wx (right_in h.v)
  have ev : rightV ⟨S.v.k, S.v.n, S.v.d, S.v.t, S.v.b, S.v.f⟩ = true := h.v
  rw [ev] at HV
  have HN := Lib.hid fun wx => value_Right S.needle.k S.needle.n S.needle.d S.needle.t S.needle.b S.needle.f wx (right_in h.nl)
  have en : rightV ⟨S.needle.k, S.needle.n, S.needle.d, S.needle.t, S.needle.b, S.needle.f⟩ = true := h.nl
  rw [en] at HN
  clear ev en
  have HO := Lib.hid fun wx => funcs_OpenG S.fn wx h.fn
  have HP := Lib.hid fun wx => funcs_pairs S m wx h
  have HG := Lib.hid h.gcd
  generalize openS S.fn = S0 at *
  have HA := Lib.hid (show Blk (w.alloc (.cells (accC S) 35)) w.heap.size (accC S) 35 from heap_alloc_new _ _)
  clear h h0 h1 hm j1 j2
  have ev : accV S = .agg #[.int .i64 S.fn, .int .i64 S.count, .int .i64 S.n, .int .i64 S.d, .int .i64 S.v.k, .int .i64 S.v.n, .int .i64 S.v.d, .string S.v.t, .bool S.v.b, .int .i64 S.v.f, .int .i64 S.needle.k, .int .i64 S.needle.n, .int .i64 S.needle.d, .string S.needle.t, .bool S.needle.b, .int .i64 S.needle.f, .bool S.has, .bool S.full, .bool S.wants, .int .i64 S.hn, .int .i64 S.hd] := rfl
  rw [ev]
  clear ev
  go_enter Tryz.func11, Tryz.ntmps11
  go_wp2_with fail
  refine (HO.out _).mono ?_
  rintro e w1 ⟨rfl, B1, hb1⟩
  simp only [sz_alloc] at B1
  have A1 := HA.out.below hb1
  have s1 := hb1.size
  simp only [sz_alloc] at s1
  obtain ⟨⟨_, _, _, _⟩, ⟨_, _, _, _, _, _⟩, ⟨_, _, _, _, _, _⟩, _, _, _, _, _⟩ := accC_cells A1
  go_wp2_with fail
  refine (HR.out _).mono ?_
  rintro e w2 ⟨rfl, hb2⟩
  have A2 := A1.below hb2
  have B2 := B1.below hb2
  obtain ⟨⟨_, _, _, _⟩, ⟨_, _, _, _, _, _⟩, ⟨_, _, _, _, _, _⟩, _, _, _, _, _⟩ := accC_cells A2
  clear A1 B1
  go_wp2_with fail
  refine (HV.out _).mono ?_
  rintro e w3 ⟨rfl, hb3⟩
  have A3 := A2.below hb3
  have B3 := B2.below hb3
  obtain ⟨⟨_, _, _, _⟩, ⟨_, _, _, _, _, _⟩, ⟨_, _, _, _, _, _⟩, _, _, _, _, _⟩ := accC_cells A3
  clear A2 B2
  go_wp2_with fail
  refine (HN.out _).mono ?_
  rintro e w4 ⟨rfl, hb4⟩
  have A4 := A3.below hb4
  have B4 := B3.below hb4
  clear A3 B3
  dsimp only
  rename_i hK
  refine hK _ _ ?_
  refine wpList_cut ?_
  go_wp2
  unfold ThenL
  refine wpList_cut ?_
  go_wp2
  unfold ThenL
  refine wpList_cut ?_
  go_wp2
  unfold ThenL
  refine wpList_load_accG S rfl rfl rfl (range_accC A4) ?_
  simp only [Act.put]
  go_wp2_with fail
  refine (HP.out _).mono ?_
  rintro e w5 ⟨rfl, hb5⟩
  have A5 := A4.below hb5
  have B := B4.below hb5
  have W5 : Below w.heap.size w w5 := by
    have q1 := ((Below.refl w.heap.size w).alloc (Nat.le_refl _) _).trans (hb1.mono (by simp only [sz_alloc]; omega))
    have q2 := q1.trans (hb2.mono q1.size)
    have q3 := q2.trans (hb3.mono q2.size)
    have q4 := q3.trans (hb4.mono q3.size)
    exact q4.trans (hb5.mono q4.size)
  clear A4 B4
  obtain ⟨⟨_, _, _, _⟩, ⟨_, _, _, _, _, _⟩, ⟨_, _, _, _, _, _⟩, _, _, _, _, _⟩ := accC_cells A5
  have key : True := trivial
  by_cases hf : S.fn = 13
  · have hf1 : (S.fn == 13) = true := by simp [hf]
    obtain ⟨g1, g2⟩ := HG.out hf
    have hf2 : (S.d != 1) = false := by simp [g1]
    have hf3 : decide (S.n < 0) = false := by simp; omega
    clear hf g1 g2
    go_upto_region 6 with (fail)
    refine wp_region_lit ?_
    refine wpList_cut ?_
    go_wp2
    unfold ThenL
    refine wpList_load_acc S rfl rfl rfl (range_accC A5) ?_
    simp only [Act.put]
    refine wpList_cut ?_
    go_wp2
    unfold ThenL
    refine wpList_cut ?_
    go_wp2
    unfold ThenL
    refine wpList_store_head S B rfl rfl rfl rfl ?_
    simp only [Act.put]
    have B6 := Lib.hid (blk_head S B)
    have W6 := Lib.hid (W5.trans (below_setCells (Nat.le_succ w.heap.size) (accC S).toList 0 w5))
    generalize w5.setCells (w.heap.size + 1) 0 (accC S).toList = w6 at *
    clear A5 B W5
    go_wp2
    go_ret2
    exact ⟨rfl, B6.out, W6.out⟩
  · have hf1 : (S.fn == 13) = false := by simp [hf]
    clear hf
    go_upto_region 6 with (fail)
    refine wp_region_lit ?_
    refine wpList_cut ?_
    go_wp2
    unfold ThenL
    refine wpList_load_acc S rfl rfl rfl (range_accC A5) ?_
    simp only [Act.put]
    refine wpList_cut ?_
    go_wp2
    unfold ThenL
    refine wpList_cut ?_
    go_wp2
    unfold ThenL
    refine wpList_store_head S B rfl rfl rfl rfl ?_
    simp only [Act.put]
    have B6 := Lib.hid (blk_head S B)
    have W6 := Lib.hid (W5.trans (below_setCells (Nat.le_succ w.heap.size) (accC S).toList 0 w5))
    generalize w5.setCells (w.heap.size + 1) 0 (accC S).toList = w6 at *
    clear A5 B W5
    go_wp2
    go_ret2
    exact ⟨rfl, B6.out, W6.out⟩
end Go.Proofs.YtnimenpfojcehaaGreatDoor
