/- Walks of package funcs: the whole table. -/
import Derived.Test.YtangdbjoflnobaaGreatDoorTabP
import Derived.Lib.Hide
import Derived.Handy
namespace Go.Proofs.YtangdbjoflnobaaGreatDoor
open Go Go.RowKit
set_option linter.unusedSimpArgs false
set_option linter.unusedVariables false

theorem zero_sig : ∃ i, Tryz.prog.info? 23 = some i ∧ i.zero = some (.agg #[.int .i64 0, .int .i64 0, .string ⟨#[]⟩, .int .i64 0, .int .i64 0, .string ⟨#[]⟩]) ∧ i.size = 6 ∧ i.bytes = 64 := by
  have h : (Tryz.prog.info? 23).map (fun i => (i.zero, i.size, i.bytes)) = some (some (.agg #[.int .i64 0, .int .i64 0, .string ⟨#[]⟩, .int .i64 0, .int .i64 0, .string ⟨#[]⟩]), 6, 64) := by kernel_rfl
  cases hi : Tryz.prog.info? 23 with
  | none => rw [hi] at h; cases h
  | some i => rw [hi] at h; simp only [Option.map_some, Option.some.injEq, Prod.mk.injEq] at h; exact ⟨i, rfl, h.1, h.2.1, h.2.2⟩

/-- What is known behind i rounds of the table's loop. -/
def AllRel (w : World) (g0 : Nat) (x i : Value) (wr : World) : Prop :=
  ∃ k : Nat, k ≤ 15 ∧ i = .int .i64 k ∧ Below w.heap.size w wr ∧ wr.heap[g0]? = some (.cells (foldNames.map Value.string).toArray 9 (0, 0)) ∧
    wr.ownsRow (g0 + 1) 23 6 x k ((foldsL.take k).flatMap SigS.cells)

theorem SigS.one (s : SigS) : ∀ u ∈ s.cells, u.oneCell' = true := by
  intro u hu
  simp only [SigS.cells, List.mem_cons, List.mem_nil_iff, or_false] at hu
  rcases hu with rfl | rfl | rfl | rfl | rfl | rfl <;> rfl
theorem sigs_one (l : List SigS) : ∀ u ∈ l.flatMap SigS.cells, u.oneCell' = true := by
  intro u hu
  obtain ⟨s, _, hs⟩ := List.mem_flatMap.1 hu
  exact s.one u hs
theorem below_grownBy {B : Nat} {w w1 w2 : World} {v : Value} {e : TypeId} {z n : Nat} {xs : List Value} (h : Below B w w1) (hg : w1.grownBy w2 v.ownBlock) (hown : w1.ownsRow B e z v n xs) (hs : B ≤ w1.heap.size) : Below B w w2 :=
  h.trans ⟨hg.os, hg.tape, hg.output, hg.size, fun k hk => hg.block k (by omega) (by
    intro he
    have := (hown.lt k he.symm).1
    omega)⟩
theorem own_below {B : Nat} {w1 w2 : World} {v : Value} {e : TypeId} {z n : Nat} {xs : List Value} (hown : w1.ownsRow B e z v n xs) (h : Below w1.heap.size w1 w2) : w2.ownsRow B e z v n xs :=
  hown.kept (row := none) ⟨h.os, h.tape, h.output, h.size, fun k hk _ => h.block k hk⟩ (by cases hv : v.ownBlock <;> simp)

theorem own_mono {w : World} {base base' : Nat} {v : Value} {e : TypeId} {z n : Nat} {xs : List Value} (h : w.ownsRow base e z v n xs) (hb : base' ≤ base) : w.ownsRow base' e z v n xs :=
  ⟨h.1, h.2.imp id fun ⟨g, cap, cur, he, hb', r⟩ => ⟨g, cap, cur, he, Nat.le_trans hb hb', r⟩⟩
theorem own_ne {w : World} {base : Nat} {v : Value} {e : TypeId} {z n : Nat} {xs : List Value} {k : Nat} (h : w.ownsRow base e z v n xs) (hk : k < base) : some k ≠ v.ownBlock := by
  intro he
  have := (h.lt k he.symm).1
  omega

set_option maxRecDepth 100000 in
set_option maxHeartbeats 1000000 in
theorem funcs_All0 (w : World) (HSc : ∀ wx : World, Calls Tryz.prog 53 #[] wx fun e w' => ∃ g, e = .returned (.slice (some ⟨g, 0, none⟩) 23 23) ∧ Below wx.heap.size wx w' ∧ wx.heap.size ≤ g ∧ w'.heap[g]? = some (.cells (scalarsL.flatMap SigS.cells).toArray 23 (0, 0))) :
    Calls Tryz.prog 20 #[] w fun e w' => ∃ g cap, e = .returned (.slice (some ⟨g, 0, none⟩) 49 cap) ∧ Below w.heap.size w w' ∧ w'.ownsRow w.heap.size 23 6 (.slice (some ⟨g, 0, none⟩) 49 cap) 49 (tableL.flatMap SigS.cells) := by
  have HS := Lib.hid HSc
  clear HSc
  go_enter Tryz.func20, Tryz.ntmps20
  go_wp2_with fail
  refine (funcs_folds _).mono ?_
  rintro e w1 ⟨rfl, hb, hF⟩
  go_wp2
  go_loopw [1, 6] (fun x i wr => AllRel w w.heap.size x i wr) (fun _ i _ => 15 - (intOf i).toNat)
  case atStart => exact ⟨0, by omega, rfl, hb, hF, World.ownsRow_nil _ _ _ _⟩
  case round =>
    obtain ⟨k, hk, rfl, hbk, hFk, hown⟩ := hrel
    by_cases hlt : k < 15
    · obtain ⟨i0, hi, hz, hsz, hby⟩ := zero_sig
      obtain ⟨nm, hnm⟩ : ∃ nm, nm = foldNames.getD k ⟨#[]⟩ := ⟨_, rfl⟩
      have cN : wr.cell? ⟨w.heap.size, k, none⟩ = some (.string nm) := by
        rw [hnm]; exact (cell_of_row wr w.heap.size k _ _ (0, 0) hFk).trans (foldNames_at hlt)
      have HN := Lib.hid hnm
      clear hnm
      have hsw := hbk.size
      have hltF := lt_of_block hFk
      go_wp2_with fail
      refine (funcs_row _ _ _ _ _ _ _).mono ?_
      rintro e w2 ⟨rfl, hb2⟩
      have hown2 := own_below hown hb2
      have hbk2 := hbk.trans (hb2.mono hsw)
      have hF2 := (hb2.block _ hltF).trans hFk
      have hs2 := hb2.size
      go_wp2_with (first
        | (at_builtin; refine wpList_append_lies _ rfl _ _ 27 rfl (w.heap.size + 1) 23 i0 _ 6 64 Tryz.underlying27 hi hz hsz hby rfl (by decide) _ k _ rfl (hown2.alloc _) ⟨w2.heap.size, 0, none⟩ 1 1 (foldRow k nm).cells rfl rfl (World.news_of_block (heap_alloc_new _ _)) (SigS.one _) (by decide) (by unfold maxLen; omega) (by omega) (by simp; omega) _ rfl ?_; intro g cap w3 hown3 hgrow3 hat3 hlt3)
        | go_in)
      go_roundw
      case rel =>
        refine ⟨k + 1, by omega, by go_num, below_grownBy (hbk2.alloc (by omega) _) hgrow3 (own_mono (hown2.alloc _) (by omega)) (by simp; omega), ?_, ?_⟩
        · rw [hgrow3.block _ (by simp; omega) (own_ne (hown2.alloc (.cells (foldRow k nm).cells.toArray 23)) (by omega)), heap_alloc_old _ _ (by omega)]; exact hF2
        · rw [foldsL_step hlt, ← HN.out]; exact hown3
      case measure => simp [intOf]; omega
    · obtain rfl : k = 15 := by omega
      obtain ⟨i0, hi, hz, hsz, hby⟩ := zero_sig
      have hsw := hbk.size
      have hltF := lt_of_block hFk
      go_wp2_with fail
      refine (funcs_others _).mono ?_
      rintro e w2 ⟨g1, rfl, hb2, hg1, hB1⟩
      have hown2 := own_below hown hb2
      have hbk2 := hbk.trans (hb2.mono hsw)
      have hs2 := hb2.size
      have hB1' : g1 < w2.heap.size := lt_of_block hB1
      go_wp2_with (first
        | (at_builtin; refine wpList_append_lies _ rfl _ _ 27 rfl (w.heap.size + 1) 23 i0 _ 6 64 Tryz.underlying27 hi hz hsz hby rfl (by decide) _ 15 _ rfl hown2 ⟨g1, 0, none⟩ 11 11 (othersL.flatMap SigS.cells) rfl rfl (World.news_of_block hB1) (sigs_one _) (by decide) (by unfold maxLen; omega) (by omega) (by omega) _ rfl ?_; intro g cap w3 hown3 hgrow3 hat3 hlt3)
        | fail)
      have hbk3 := below_grownBy hbk2 hgrow3 (own_mono hown2 (by omega)) (by omega)
      have hs3 := hbk3.size
      refine (HS.out _).mono ?_
      rintro e w4 ⟨g2, rfl, hb4, hg2, hB2⟩
      have hown4 := own_below hown3 hb4
      have hbk4 := hbk3.trans (hb4.mono hs3)
      have hs4 := hb4.size
      have hs3' := hgrow3.size
      have hB2' : g2 < w4.heap.size := lt_of_block hB2
      go_wp2_with (first
        | (at_builtin; refine wpList_append_lies _ rfl _ _ 27 rfl (w.heap.size + 1) 23 i0 _ 6 64 Tryz.underlying27 hi hz hsz hby rfl (by decide) _ (15 + 11) _ rfl hown4 ⟨g2, 0, none⟩ 23 23 (scalarsL.flatMap SigS.cells) rfl rfl (World.news_of_block hB2) (sigs_one _) (by decide) (by unfold maxLen; omega) (by omega) (by omega) _ rfl ?_; intro g' cap' w5 hown5 hgrow5 hat5 hlt5)
        | fail)
      go_ret
      refine ⟨_, _, rfl, below_grownBy hbk4 hgrow5 (own_mono hown4 (by omega)) (by omega), ?_⟩
      have e1 : tableL.flatMap SigS.cells = (foldsL.take 15).flatMap SigS.cells ++ othersL.flatMap SigS.cells ++ scalarsL.flatMap SigS.cells := rfl
      rw [e1]
      exact own_mono hown5 (by omega)

end Go.Proofs.YtangdbjoflnobaaGreatDoor
