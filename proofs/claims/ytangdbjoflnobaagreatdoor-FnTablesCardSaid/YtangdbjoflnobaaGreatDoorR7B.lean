/- The reference's functions by number, by name. -/
import Derived.Test.YtangdbjoflnobaaGreatDoorTabC
namespace Go.Proofs.YtangdbjoflnobaaGreatDoor
open Go Go.RowKit
set_option linter.unusedSimpArgs false
set_option linter.unusedVariables false

set_option maxHeartbeats 1000000 in
theorem r7_ById (id : Int) (w : World) (HAll : ∀ wx : World, Calls Tryz.prog 21 #[] wx fun e w' => ∃ g cap, e = .returned (.slice (some ⟨g, 0, none⟩) 49 cap) ∧ Below wx.heap.size wx w' ∧ w'.ownsRow wx.heap.size 23 6 (.slice (some ⟨g, 0, none⟩) 49 cap) 49 (tableL.flatMap SigS.cells)) :
    Calls Tryz.prog 19 #[.int .i64 id] w fun e w' => e = .returned (optSig (byIdL id)) ∧ Below w.heap.size w w' := by
  have HA := Lib.hid HAll
  clear HAll
  go_enter Tryz.func19, Tryz.ntmps19
  go_wp2_with fail
  refine (HA.out _).mono ?_
  rintro e w1 ⟨g, cap, rfl, hb, hown⟩
  clear HA
  have hr := (hb.block w.heap.size (by simp)).trans (heap_alloc_new _ _)
  rw [sz_alloc] at hown hb
  have hb1 : Below w.heap.size w w1 := ((Below.refl _ _).alloc (Nat.le_refl _) _).trans (hb.mono (by omega))
  go_wp2
  go_loopw [5] (fun i wr => ∃ k, SeekRel w g cap (isId id) i k wr) (fun i _ => 49 - (intOf i).toNat)
  case atStart => exact ⟨0, by omega, rfl, hb1, hown, hr, fun _ _ h => by omega⟩
  case round =>
    clear hb hown hr hb1
    obtain ⟨k, hk, rfl, hbk, hownk, hres, hno⟩ := hrel
    by_cases hlt : k < 49
    · have hl : k < tableL.length := by rw [tableL_len]; exact hlt
      obtain ⟨S, hS⟩ : ∃ S, tableL[k]? = some S := ⟨_, List.getElem?_eq_getElem hl⟩
      have c0 := (table_cell hownk hlt hS).1
      have c1 := (table_cell hownk hlt hS).2.1
      have c2 := (table_cell hownk hlt hS).2.2.1
      have c3 := (table_cell hownk hlt hS).2.2.2.1
      have c4 := (table_cell hownk hlt hS).2.2.2.2.1
      have c5 := (table_cell hownk hlt hS).2.2.2.2.2
      have hgB := (hownk.lt g rfl)
      have hsk := hbk.size
      have hltr := lt_of_block hres
      have hne1 : ¬ w.heap.size = wr.heap.size := by omega
      have hne2 : ¬ wr.heap.size = w.heap.size := by omega
      have B : Blk wr w.heap.size sigZ.cells.toArray 23 := hres
      have r0 : wr.cell? ⟨w.heap.size, 0, none⟩ = some (.int .i64 0) := B.cell 0
      have r1 : wr.cell? ⟨w.heap.size, 1, none⟩ = some (.int .i64 0) := B.cell 1
      have r2 : wr.cell? ⟨w.heap.size, 2, none⟩ = some (.string ⟨#[]⟩) := B.cell 2
      have r3 : wr.cell? ⟨w.heap.size, 3, none⟩ = some (.int .i64 0) := B.cell 3
      have r4 : wr.cell? ⟨w.heap.size, 4, none⟩ = some (.int .i64 0) := B.cell 4
      have r5 : wr.cell? ⟨w.heap.size, 5, none⟩ = some (.string ⟨#[]⟩) := B.cell 5
      have rf := B.free
      have hno' := Lib.hid hno
      have hown' := Lib.hid hownk
      have hbk' := Lib.hid hbk
      have hres' := Lib.hid hres
      clear hno hownk B hres hbk
      cases hm : isId id S
      · have hmw : (S.id == id) = false := hm
        go_wp2
        go_roundw
        case rel =>
          refine ⟨k + 1, by omega, by go_num, hbk'.out, hown'.out, hres'.out, ?_⟩
          · intro j hj hjk
            by_cases hjk' : j < k
            · exact hno'.out j hj hjk'
            · obtain rfl : j = k := by omega
              rw [List.getElem?_eq_getElem hj] at hS
              rw [Option.some.inj hS]; exact hm
        case measure => simp [intOf]; omega
      · have HF : Hid (byIdL id = some S) := by
          rw [List.getElem?_eq_getElem hl] at hS
          have e := Option.some.inj hS
          unfold Hid byIdL
          rw [find_at (p := isId id) hl (by rw [e]; exact hm) hno'.out, e]
        have hmw : (S.id == id) = true := hm
        go_wp2
        refine bodyPost_ret (v := .tuple #[.agg #[.int .i64 S.id, .int .i64 S.cl, .string S.name, .int .i64 S.least, .int .i64 S.most, .string S.params], .bool true]) (by simp [results, Tryz.results19, go_sem, r0, r1, r2, r3, r4, r5]) rfl ⟨by rw [HF.out]; rfl, ?_⟩
        repeat (with_reducible refine Below.setCell ?_ (by (first | omega | (simp only [sz_alloc, sz_setCell, sz_drew, sz_drewN]; omega) | (simp; done) | (simp; omega))) _)
        exact hbk'.out
    · obtain rfl : k = 49 := by omega
      have HF : Hid (byIdL id = none) := by
        unfold Hid byIdL
        exact find_no fun j hj => hno j hj (by rw [tableL_len] at hj; exact hj)
      have B : Blk wr w.heap.size sigZ.cells.toArray 23 := hres
      have r0 : wr.cell? ⟨w.heap.size, 0, none⟩ = some (.int .i64 0) := B.cell 0
      have r1 : wr.cell? ⟨w.heap.size, 1, none⟩ = some (.int .i64 0) := B.cell 1
      have r2 : wr.cell? ⟨w.heap.size, 2, none⟩ = some (.string ⟨#[]⟩) := B.cell 2
      have r3 : wr.cell? ⟨w.heap.size, 3, none⟩ = some (.int .i64 0) := B.cell 3
      have r4 : wr.cell? ⟨w.heap.size, 4, none⟩ = some (.int .i64 0) := B.cell 4
      have r5 : wr.cell? ⟨w.heap.size, 5, none⟩ = some (.string ⟨#[]⟩) := B.cell 5
      have rf := B.free
      have hbk' := Lib.hid hbk
      clear hno hownk B hres hbk
      go_wp2
      refine bodyPost_ret (v := .tuple #[.agg #[.int .i64 0, .int .i64 0, .string ⟨#[]⟩, .int .i64 0, .int .i64 0, .string ⟨#[]⟩], .bool false]) (by simp [results, Tryz.results19, go_sem, r0, r1, r2, r3, r4, r5]) rfl ⟨by rw [HF.out]; rfl, ?_⟩
      repeat (with_reducible refine Below.setCell ?_ (by (first | omega | (simp only [sz_alloc, sz_setCell, sz_drew, sz_drewN]; omega) | (simp; done) | (simp; omega))) _)
      exact hbk'.out

set_option maxHeartbeats 1000000 in
theorem r7_Of (name : ByteArray) (w : World) (HAll : ∀ wx : World, Calls Tryz.prog 21 #[] wx fun e w' => ∃ g cap, e = .returned (.slice (some ⟨g, 0, none⟩) 49 cap) ∧ Below wx.heap.size wx w' ∧ w'.ownsRow wx.heap.size 23 6 (.slice (some ⟨g, 0, none⟩) 49 cap) 49 (tableL.flatMap SigS.cells)) :
    Calls Tryz.prog 17 #[.string name] w fun e w' => e = .returned (optSig (ofL name)) ∧ Below w.heap.size w w' := by
  have HA := Lib.hid HAll
  clear HAll
  go_enter Tryz.func17, Tryz.ntmps17
  go_wp2_with fail
  refine (HA.out _).mono ?_
  rintro e w1 ⟨g, cap, rfl, hb, hown⟩
  clear HA
  have hr := (hb.block w.heap.size (by simp)).trans (heap_alloc_new _ _)
  rw [sz_alloc] at hown hb
  have hb1 : Below w.heap.size w w1 := ((Below.refl _ _).alloc (Nat.le_refl _) _).trans (hb.mono (by omega))
  go_wp2
  go_loopw [5] (fun i wr => ∃ k, SeekRel w g cap (isName name) i k wr) (fun i _ => 49 - (intOf i).toNat)
  case atStart => exact ⟨0, by omega, rfl, hb1, hown, hr, fun _ _ h => by omega⟩
  case round =>
    clear hb hown hr hb1
    obtain ⟨k, hk, rfl, hbk, hownk, hres, hno⟩ := hrel
    by_cases hlt : k < 49
    · have hl : k < tableL.length := by rw [tableL_len]; exact hlt
      obtain ⟨S, hS⟩ : ∃ S, tableL[k]? = some S := ⟨_, List.getElem?_eq_getElem hl⟩
      have c0 := (table_cell hownk hlt hS).1
      have c1 := (table_cell hownk hlt hS).2.1
      have c2 := (table_cell hownk hlt hS).2.2.1
      have c3 := (table_cell hownk hlt hS).2.2.2.1
      have c4 := (table_cell hownk hlt hS).2.2.2.2.1
      have c5 := (table_cell hownk hlt hS).2.2.2.2.2
      have hgB := (hownk.lt g rfl)
      have hsk := hbk.size
      have hltr := lt_of_block hres
      have hne1 : ¬ w.heap.size = wr.heap.size := by omega
      have hne2 : ¬ wr.heap.size = w.heap.size := by omega
      have B : Blk wr w.heap.size sigZ.cells.toArray 23 := hres
      have r0 : wr.cell? ⟨w.heap.size, 0, none⟩ = some (.int .i64 0) := B.cell 0
      have r1 : wr.cell? ⟨w.heap.size, 1, none⟩ = some (.int .i64 0) := B.cell 1
      have r2 : wr.cell? ⟨w.heap.size, 2, none⟩ = some (.string ⟨#[]⟩) := B.cell 2
      have r3 : wr.cell? ⟨w.heap.size, 3, none⟩ = some (.int .i64 0) := B.cell 3
      have r4 : wr.cell? ⟨w.heap.size, 4, none⟩ = some (.int .i64 0) := B.cell 4
      have r5 : wr.cell? ⟨w.heap.size, 5, none⟩ = some (.string ⟨#[]⟩) := B.cell 5
      have rf := B.free
      have hno' := Lib.hid hno
      have hown' := Lib.hid hownk
      have hbk' := Lib.hid hbk
      have hres' := Lib.hid hres
      clear hno hownk B hres hbk
      cases hm : isName name S
      · have hmw : (S.name.toList == name.toList) = false := hm
        go_wp2
        go_roundw
        case rel =>
          refine ⟨k + 1, by omega, by go_num, hbk'.out, hown'.out, hres'.out, ?_⟩
          · intro j hj hjk
            by_cases hjk' : j < k
            · exact hno'.out j hj hjk'
            · obtain rfl : j = k := by omega
              rw [List.getElem?_eq_getElem hj] at hS
              rw [Option.some.inj hS]; exact hm
        case measure => simp [intOf]; omega
      · have HF : Hid (ofL name = some S) := by
          rw [List.getElem?_eq_getElem hl] at hS
          have e := Option.some.inj hS
          unfold Hid ofL
          rw [find_at (p := isName name) hl (by rw [e]; exact hm) hno'.out, e]
        have hmw : (S.name.toList == name.toList) = true := hm
        go_wp2
        refine bodyPost_ret (v := .tuple #[.agg #[.int .i64 S.id, .int .i64 S.cl, .string S.name, .int .i64 S.least, .int .i64 S.most, .string S.params], .bool true]) (by simp [results, Tryz.results17, go_sem, r0, r1, r2, r3, r4, r5]) rfl ⟨by rw [HF.out]; rfl, ?_⟩
        repeat (with_reducible refine Below.setCell ?_ (by (first | omega | (simp only [sz_alloc, sz_setCell, sz_drew, sz_drewN]; omega) | (simp; done) | (simp; omega))) _)
        exact hbk'.out
    · obtain rfl : k = 49 := by omega
      have HF : Hid (ofL name = none) := by
        unfold Hid ofL
        exact find_no fun j hj => hno j hj (by rw [tableL_len] at hj; exact hj)
      have B : Blk wr w.heap.size sigZ.cells.toArray 23 := hres
      have r0 : wr.cell? ⟨w.heap.size, 0, none⟩ = some (.int .i64 0) := B.cell 0
      have r1 : wr.cell? ⟨w.heap.size, 1, none⟩ = some (.int .i64 0) := B.cell 1
      have r2 : wr.cell? ⟨w.heap.size, 2, none⟩ = some (.string ⟨#[]⟩) := B.cell 2
      have r3 : wr.cell? ⟨w.heap.size, 3, none⟩ = some (.int .i64 0) := B.cell 3
      have r4 : wr.cell? ⟨w.heap.size, 4, none⟩ = some (.int .i64 0) := B.cell 4
      have r5 : wr.cell? ⟨w.heap.size, 5, none⟩ = some (.string ⟨#[]⟩) := B.cell 5
      have rf := B.free
      have hbk' := Lib.hid hbk
      clear hno hownk B hres hbk
      go_wp2
      refine bodyPost_ret (v := .tuple #[.agg #[.int .i64 0, .int .i64 0, .string ⟨#[]⟩, .int .i64 0, .int .i64 0, .string ⟨#[]⟩], .bool false]) (by simp [results, Tryz.results17, go_sem, r0, r1, r2, r3, r4, r5]) rfl ⟨by rw [HF.out]; rfl, ?_⟩
      repeat (with_reducible refine Below.setCell ?_ (by (first | omega | (simp only [sz_alloc, sz_setCell, sz_drew, sz_drewN]; omega) | (simp; done) | (simp; omega))) _)
      exact hbk'.out

end Go.Proofs.YtangdbjoflnobaaGreatDoor
