/- Walks of package funcs: a function by its number, by its name. -/
import Derived.Test.YtnimenpfojcehaaGreatDoorTabX
import Derived.Test.YtnimenpfojcehaaGreatDoorAccQ
namespace Go.Proofs.YtnimenpfojcehaaGreatDoor
open Go Go.RowKit
set_option linter.unusedSimpArgs false
set_option linter.unusedVariables false

theorem table_cell {w : World} {B g cap : Nat} (h : w.ownsRow B 49 6 (.slice (some ⟨g, 0, none⟩) 49 cap) 49 (tableL.flatMap SigS.cells)) {k : Nat} (hk : k < 49) {S : SigS} (hS : tableL[k]? = some S) :
    w.cell? ⟨g, k * 6, none⟩ = some (.int .i64 S.id) ∧ w.cell? ⟨g, k * 6 + 1, none⟩ = some (.int .i64 S.cl) ∧ w.cell? ⟨g, k * 6 + 2, none⟩ = some (.string S.name) ∧
    w.cell? ⟨g, k * 6 + 3, none⟩ = some (.int .i64 S.least) ∧ w.cell? ⟨g, k * 6 + 4, none⟩ = some (.int .i64 S.most) ∧ w.cell? ⟨g, k * 6 + 5, none⟩ = some (.string S.params) := by
  have hl : k < tableL.length := by rw [tableL_len]; exact hk
  have e : tableL[k] = S := by rw [List.getElem?_eq_getElem hl] at hS; exact Option.some.inj hS
  have key : ∀ j, j < 6 → w.cell? ⟨g, k * 6 + j, none⟩ = (SigS.cells S)[j]? := fun j hj => by
    rw [h.cellAt (k * 6 + j) (by omega), flat6 SigS.cells SigS.len _ _ _ hl hj, e]
  exact ⟨key 0 (by decide), key 1 (by decide), key 2 (by decide), key 3 (by decide), key 4 (by decide), key 5 (by decide)⟩

theorem funcs_All (w : World) (HSc : ∀ wx : World, Calls Tryz.prog 51 #[] wx fun e w' => ∃ g, e = .returned (.slice (some ⟨g, 0, none⟩) 23 23) ∧ Below wx.heap.size wx w' ∧ wx.heap.size ≤ g ∧ w'.heap[g]? = some (.cells (scalarsL.flatMap SigS.cells).toArray 49 (0, 0))) :
    Calls Tryz.prog 32 #[] w fun e w' => ∃ g cap, e = .returned (.slice (some ⟨g, 0, none⟩) 49 cap) ∧ Below w.heap.size w w' ∧ w'.ownsRow w.heap.size 49 6 (.slice (some ⟨g, 0, none⟩) 49 cap) 49 (tableL.flatMap SigS.cells) := funcs_All0 w HSc

/-- What is known behind k rounds of the search. -/
structure SeekRel (w : World) (g cap : Nat) (p : SigS → Bool) (i : Value) (k : Nat) (wr : World) : Prop where
  le : k ≤ 49
  i : i = .int .i64 k
  below : Below w.heap.size w wr
  own : wr.ownsRow (w.heap.size + 1) 49 6 (.slice (some ⟨g, 0, none⟩) 49 cap) 49 (tableL.flatMap SigS.cells)
  res : wr.heap[w.heap.size]? = some (.cells sigZ.cells.toArray 49 (0, 0))
  no : ∀ j (hj : j < tableL.length), j < k → p tableL[j] = false

def optSig (o : Option SigS) : Value := .tuple #[(o.getD sigZ).val, .bool o.isSome]

set_option maxHeartbeats 1000000 in
theorem funcs_ById (id : Int) (w : World) (HSc : ∀ wx : World, Calls Tryz.prog 51 #[] wx fun e w' => ∃ g, e = .returned (.slice (some ⟨g, 0, none⟩) 23 23) ∧ Below wx.heap.size wx w' ∧ wx.heap.size ≤ g ∧ w'.heap[g]? = some (.cells (scalarsL.flatMap SigS.cells).toArray 49 (0, 0))) :
    Calls Tryz.prog 33 #[.int .i64 id] w fun e w' => e = .returned (optSig (byIdL id)) ∧ Below w.heap.size w w' := by
  have HA := Lib.hid fun wx => funcs_All wx HSc
  clear HSc
  go_enter Tryz.func33, Tryz.ntmps33
  go_wp2_with fail
  refine (HA.out _).mono ?_
  rintro e w1 ⟨g, cap, rfl, hb, hown⟩
  clear HA
  have hr := (hb.block w.heap.size (by simp)).trans (heap_alloc_new _ _)
  rw [sz_alloc] at hown hb
  have hb1 : Below w.heap.size w w1 := ((Below.refl _ _).alloc (Nat.le_refl _) _).trans (hb.mono (by omega))
  go_wp2
  go_loopw [8] (fun i wr => ∃ k, SeekRel w g cap (isId id) i k wr) (fun i _ => 49 - (intOf i).toNat)
  case atStart => exact ⟨0, by omega, rfl, hb1, hown, hr, fun _ _ h => by omega⟩
  case round =>
    clear hb hown hr hb1
    obtain ⟨k, hk, rfl, hbk, hownk, hres, hno⟩ := hrel
    by_cases hlt : k < 49
    · have hl : k < tableL.length := by rw [tableL_len]; exact hlt
      obtain ⟨S, hS⟩ : ∃ S, tableL[k]? = some S := ⟨_, List.getElem?_eq_getElem hl⟩
      have c0 := (table_cell hownk hlt hS).1
      have c1 := (table_cell hownk hlt hS).2.1
      have c2 := (table_cell hownk hlt hS).2.2.1
      have c3 := (table_cell hownk hlt hS).2.2.2.1
      have c4 := (table_cell hownk hlt hS).2.2.2.2.1
      have c5 := (table_cell hownk hlt hS).2.2.2.2.2
      have hgB := (hownk.lt g rfl)
      have hsk := hbk.size
      have hltr := lt_of_block hres
      have hne1 : ¬ w.heap.size = wr.heap.size := by omega
      have hne2 : ¬ wr.heap.size = w.heap.size := by omega
      have B : Blk wr w.heap.size sigZ.cells.toArray 49 := hres
      have r0 : wr.cell? ⟨w.heap.size, 0, none⟩ = some (.int .i64 0) := B.cell 0
      have r1 : wr.cell? ⟨w.heap.size, 1, none⟩ = some (.int .i64 0) := B.cell 1
      have r2 : wr.cell? ⟨w.heap.size, 2, none⟩ = some (.string ⟨#[]⟩) := B.cell 2
      have r3 : wr.cell? ⟨w.heap.size, 3, none⟩ = some (.int .i64 0) := B.cell 3
      have r4 : wr.cell? ⟨w.heap.size, 4, none⟩ = some (.int .i64 0) := B.cell 4
      have r5 : wr.cell? ⟨w.heap.size, 5, none⟩ = some (.string ⟨#[]⟩) := B.cell 5
      have rf := B.free
      have hno' := Lib.hid hno
      have hown' := Lib.hid hownk
      have hbk' := Lib.hid hbk
      have hres' := Lib.hid hres
      clear hno hownk B hres hbk
      cases hm : isId id S
      · have hmw : (S.id == id) = false := hm
        go_wp2
        go_roundw
        case rel =>
          refine ⟨k + 1, by omega, by go_num, hbk'.out.alloc hsk _, hown'.out.alloc _, ?_, ?_⟩
          · rw [heap_alloc_old _ _ hltr]; exact hres'.out
          · intro j hj hjk
            by_cases hjk' : j < k
            · exact hno'.out j hj hjk'
            · obtain rfl : j = k := by omega
              rw [List.getElem?_eq_getElem hj] at hS
              rw [Option.some.inj hS]; exact hm
        case measure => simp [intOf]; omega
      · have HF : Hid (byIdL id = some S) := by
          rw [List.getElem?_eq_getElem hl] at hS
          have e := Option.some.inj hS
          unfold Hid byIdL
          rw [find_at (p := isId id) hl (by rw [e]; exact hm) hno'.out, e]
        have hmw : (S.id == id) = true := hm
        go_upto_region 5 with (fail)
        first | with_reducible refine wp_rebase ?_ | with_reducible refine wpList_rebase ?_
        intro w1 hb'
        have hb := hb'.out
        clear hb'
        obtain ⟨s1, c1_0, c1_1, c1_2, c1_3, c1_4, c1_5, f1⟩ := L6 hb (w.heap.size) (by first | omega | (simp only [sA, sC, sD, sE]; omega) | (simp; done) | (simp; omega)) (by go_simp; exact ⟨rfl, rfl, rfl, rfl, rfl, rfl⟩) (by intro o; go_simp)
        obtain ⟨s2, c2_0, c2_1, c2_2, c2_3, c2_4, c2_5, f2⟩ := L6 hb (wr.heap.size) (by first | omega | (simp only [sA, sC, sD, sE]; omega) | (simp; done) | (simp; omega)) (by go_simp; exact ⟨rfl, rfl, rfl, rfl, rfl, rfl⟩) (by intro o; go_simp)
        have hB1 : Below w.heap.size w w1 := below_then (hbk'.out.alloc hsk _) (by simp only [sz_alloc]; omega) hb
        go_wp2
        refine bodyPost_ret (v := .tuple #[.agg #[.int .i64 S.id, .int .i64 S.cl, .string S.name, .int .i64 S.least, .int .i64 S.most, .string S.params], .bool true]) (by simp [results, Tryz.results33, go_sem, c1_0, c1_1, c1_2, c1_3, c1_4, c1_5, c2_0, c2_1, c2_2, c2_3, c2_4, c2_5]) rfl ⟨by rw [HF.out]; rfl, ?_⟩
        repeat (with_reducible refine Below.setCell ?_ (by (first | omega | (simp only [sz_alloc, sz_setCell, sz_drew, sz_drewN]; omega) | (simp; done) | (simp; omega))) _)
        exact hB1
    · obtain rfl : k = 49 := by omega
      have HF : Hid (byIdL id = none) := by
        unfold Hid byIdL
        exact find_no fun j hj => hno j hj (by rw [tableL_len] at hj; exact hj)
      have B : Blk wr w.heap.size sigZ.cells.toArray 49 := hres
      have r0 : wr.cell? ⟨w.heap.size, 0, none⟩ = some (.int .i64 0) := B.cell 0
      have r1 : wr.cell? ⟨w.heap.size, 1, none⟩ = some (.int .i64 0) := B.cell 1
      have r2 : wr.cell? ⟨w.heap.size, 2, none⟩ = some (.string ⟨#[]⟩) := B.cell 2
      have r3 : wr.cell? ⟨w.heap.size, 3, none⟩ = some (.int .i64 0) := B.cell 3
      have r4 : wr.cell? ⟨w.heap.size, 4, none⟩ = some (.int .i64 0) := B.cell 4
      have r5 : wr.cell? ⟨w.heap.size, 5, none⟩ = some (.string ⟨#[]⟩) := B.cell 5
      have rf := B.free
      have hbk' := Lib.hid hbk
      clear hno hownk B hres hbk
      go_wp2
      refine bodyPost_ret (v := .tuple #[.agg #[.int .i64 0, .int .i64 0, .string ⟨#[]⟩, .int .i64 0, .int .i64 0, .string ⟨#[]⟩], .bool false]) (by simp [results, Tryz.results33, go_sem, r0, r1, r2, r3, r4, r5]) rfl ⟨by rw [HF.out]; rfl, ?_⟩
      repeat (with_reducible refine Below.setCell ?_ (by (first | omega | (simp only [sz_alloc, sz_setCell, sz_drew, sz_drewN]; omega) | (simp; done) | (simp; omega))) _)
      exact hbk'.out

set_option maxHeartbeats 1000000 in
theorem funcs_Of (name : ByteArray) (w : World) (HSc : ∀ wx : World, Calls Tryz.prog 51 #[] wx fun e w' => ∃ g, e = .returned (.slice (some ⟨g, 0, none⟩) 23 23) ∧ Below wx.heap.size wx w' ∧ wx.heap.size ≤ g ∧ w'.heap[g]? = some (.cells (scalarsL.flatMap SigS.cells).toArray 49 (0, 0))) :
    Calls Tryz.prog 20 #[.string name] w fun e w' => e = .returned (optSig (ofL name)) ∧ Below w.heap.size w w' := by
  have HA := Lib.hid fun wx => funcs_All wx HSc
  clear HSc
  go_enter Tryz.func20, Tryz.ntmps20
  go_wp2_with fail
  refine (HA.out _).mono ?_
  rintro e w1 ⟨g, cap, rfl, hb, hown⟩
  clear HA
  have hr := (hb.block w.heap.size (by simp)).trans (heap_alloc_new _ _)
  rw [sz_alloc] at hown hb
  have hb1 : Below w.heap.size w w1 := ((Below.refl _ _).alloc (Nat.le_refl _) _).trans (hb.mono (by omega))
  go_wp2
  go_loopw [8] (fun i wr => ∃ k, SeekRel w g cap (isName name) i k wr) (fun i _ => 49 - (intOf i).toNat)
  case atStart => exact ⟨0, by omega, rfl, hb1, hown, hr, fun _ _ h => by omega⟩
  case round =>
    clear hb hown hr hb1
    obtain ⟨k, hk, rfl, hbk, hownk, hres, hno⟩ := hrel
    by_cases hlt : k < 49
    · have hl : k < tableL.length := by rw [tableL_len]; exact hlt
      obtain ⟨S, hS⟩ : ∃ S, tableL[k]? = some S := ⟨_, List.getElem?_eq_getElem hl⟩
      have c0 := (table_cell hownk hlt hS).1
      have c1 := (table_cell hownk hlt hS).2.1
      have c2 := (table_cell hownk hlt hS).2.2.1
      have c3 := (table_cell hownk hlt hS).2.2.2.1
      have c4 := (table_cell hownk hlt hS).2.2.2.2.1
      have c5 := (table_cell hownk hlt hS).2.2.2.2.2
      have hgB := (hownk.lt g rfl)
      have hsk := hbk.size
      have hltr := lt_of_block hres
      have hne1 : ¬ w.heap.size = wr.heap.size := by omega
      have hne2 : ¬ wr.heap.size = w.heap.size := by omega
      have B : Blk wr w.heap.size sigZ.cells.toArray 49 := hres
      have r0 : wr.cell? ⟨w.heap.size, 0, none⟩ = some (.int .i64 0) := B.cell 0
      have r1 : wr.cell? ⟨w.heap.size, 1, none⟩ = some (.int .i64 0) := B.cell 1
      have r2 : wr.cell? ⟨w.heap.size, 2, none⟩ = some (.string ⟨#[]⟩) := B.cell 2
      have r3 : wr.cell? ⟨w.heap.size, 3, none⟩ = some (.int .i64 0) := B.cell 3
      have r4 : wr.cell? ⟨w.heap.size, 4, none⟩ = some (.int .i64 0) := B.cell 4
      have r5 : wr.cell? ⟨w.heap.size, 5, none⟩ = some (.string ⟨#[]⟩) := B.cell 5
      have rf := B.free
      have hno' := Lib.hid hno
      have hown' := Lib.hid hownk
      have hbk' := Lib.hid hbk
      have hres' := Lib.hid hres
      clear hno hownk B hres hbk
      cases hm : isName name S
      · have hmw : (S.name.toList == name.toList) = false := hm
        go_wp2
        go_roundw
        case rel =>
          refine ⟨k + 1, by omega, by go_num, hbk'.out.alloc hsk _, hown'.out.alloc _, ?_, ?_⟩
          · rw [heap_alloc_old _ _ hltr]; exact hres'.out
          · intro j hj hjk
            by_cases hjk' : j < k
            · exact hno'.out j hj hjk'
            · obtain rfl : j = k := by omega
              rw [List.getElem?_eq_getElem hj] at hS
              rw [Option.some.inj hS]; exact hm
        case measure => simp [intOf]; omega
      · have HF : Hid (ofL name = some S) := by
          rw [List.getElem?_eq_getElem hl] at hS
          have e := Option.some.inj hS
          unfold Hid ofL
          rw [find_at (p := isName name) hl (by rw [e]; exact hm) hno'.out, e]
        have hmw : (S.name.toList == name.toList) = true := hm
        go_upto_region 5 with (fail)
        first | with_reducible refine wp_rebase ?_ | with_reducible refine wpList_rebase ?_
        intro w1 hb'
        have hb := hb'.out
        clear hb'
        obtain ⟨s3, c3_0, c3_1, c3_2, c3_3, c3_4, c3_5, f3⟩ := L6 hb (w.heap.size) (by first | omega | (simp only [sA, sC, sD, sE]; omega) | (simp; done) | (simp; omega)) (by go_simp; exact ⟨rfl, rfl, rfl, rfl, rfl, rfl⟩) (by intro o; go_simp)
        obtain ⟨s4, c4_0, c4_1, c4_2, c4_3, c4_4, c4_5, f4⟩ := L6 hb (wr.heap.size) (by first | omega | (simp only [sA, sC, sD, sE]; omega) | (simp; done) | (simp; omega)) (by go_simp; exact ⟨rfl, rfl, rfl, rfl, rfl, rfl⟩) (by intro o; go_simp)
        have hB1 : Below w.heap.size w w1 := below_then (hbk'.out.alloc hsk _) (by simp only [sz_alloc]; omega) hb
        go_wp2
        refine bodyPost_ret (v := .tuple #[.agg #[.int .i64 S.id, .int .i64 S.cl, .string S.name, .int .i64 S.least, .int .i64 S.most, .string S.params], .bool true]) (by simp [results, Tryz.results20, go_sem, c3_0, c3_1, c3_2, c3_3, c3_4, c3_5, c4_0, c4_1, c4_2, c4_3, c4_4, c4_5]) rfl ⟨by rw [HF.out]; rfl, ?_⟩
        repeat (with_reducible refine Below.setCell ?_ (by (first | omega | (simp only [sz_alloc, sz_setCell, sz_drew, sz_drewN]; omega) | (simp; done) | (simp; omega))) _)
        exact hB1
    · obtain rfl : k = 49 := by omega
      have HF : Hid (ofL name = none) := by
        unfold Hid ofL
        exact find_no fun j hj => hno j hj (by rw [tableL_len] at hj; exact hj)
      have B : Blk wr w.heap.size sigZ.cells.toArray 49 := hres
      have r0 : wr.cell? ⟨w.heap.size, 0, none⟩ = some (.int .i64 0) := B.cell 0
      have r1 : wr.cell? ⟨w.heap.size, 1, none⟩ = some (.int .i64 0) := B.cell 1
      have r2 : wr.cell? ⟨w.heap.size, 2, none⟩ = some (.string ⟨#[]⟩) := B.cell 2
      have r3 : wr.cell? ⟨w.heap.size, 3, none⟩ = some (.int .i64 0) := B.cell 3
      have r4 : wr.cell? ⟨w.heap.size, 4, none⟩ = some (.int .i64 0) := B.cell 4
      have r5 : wr.cell? ⟨w.heap.size, 5, none⟩ = some (.string ⟨#[]⟩) := B.cell 5
      have rf := B.free
      have hbk' := Lib.hid hbk
      clear hno hownk B hres hbk
      go_wp2
      refine bodyPost_ret (v := .tuple #[.agg #[.int .i64 0, .int .i64 0, .string ⟨#[]⟩, .int .i64 0, .int .i64 0, .string ⟨#[]⟩], .bool false]) (by simp [results, Tryz.results20, go_sem, r0, r1, r2, r3, r4, r5]) rfl ⟨by rw [HF.out]; rfl, ?_⟩
      repeat (with_reducible refine Below.setCell ?_ (by (first | omega | (simp only [sz_alloc, sz_setCell, sz_drew, sz_drewN]; omega) | (simp; done) | (simp; omega))) _)
      exact hbk'.out

end Go.Proofs.YtnimenpfojcehaaGreatDoor
