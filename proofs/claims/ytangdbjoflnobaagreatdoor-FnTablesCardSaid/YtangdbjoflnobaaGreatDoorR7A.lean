/- The reference's table of functions. -/
import Derived.Test.YtangdbjoflnobaaGreatDoorTabC
namespace Go.Proofs.YtangdbjoflnobaaGreatDoor
open Go Go.RowKit
set_option linter.unusedSimpArgs false
set_option linter.unusedVariables false

def scalNames : List ByteArray := scalarsL.map SigS.name
def scalLeast : List Int := scalarsL.map SigS.least
def isTwo (nm : ByteArray) : Bool := (nm.toList == (⟨#[82, 79, 85, 78, 68]⟩ : ByteArray).toList || nm.toList == (⟨#[76, 69, 70, 84]⟩ : ByteArray).toList) || nm.toList == (⟨#[82, 73, 71, 72, 84]⟩ : ByteArray).toList
def scalRow (k : Nat) (nm : ByteArray) (l : Int) : SigS := ⟨40 + (k : Int), 4, nm, l, if isTwo nm then 2 else l, ⟨#[118]⟩⟩
theorem scal_eq : scalarsL = (List.range 23).map fun k => scalRow k (scalNames.getD k ⟨#[]⟩) (scalLeast.getD k 0) := by kernel_rfl
theorem scal_step {k : Nat} (h : k < 23) : (foldsL ++ othersL ++ scalarsL.take (k + 1)).flatMap SigS.cells = (foldsL ++ othersL ++ scalarsL.take k).flatMap SigS.cells ++ (scalRow k (scalNames.getD k ⟨#[]⟩) (scalLeast.getD k 0)).cells := by
  have hl : scalarsL.length = 23 := rfl
  have e : scalarsL[k]'(by rw [hl]; exact h) = scalRow k (scalNames.getD k ⟨#[]⟩) (scalLeast.getD k 0) := by
    have : scalarsL[k]? = ((List.range 23).map fun k => scalRow k (scalNames.getD k ⟨#[]⟩) (scalLeast.getD k 0))[k]? := by rw [← scal_eq]
    rw [List.getElem?_map, List.getElem?_range h, List.getElem?_eq_getElem (by rw [hl]; exact h)] at this
    exact Option.some.inj this
  rw [List.take_succ_eq_append_getElem (by rw [hl]; exact h), ← List.append_assoc, flat6_snoc, e]
theorem scalNames_at {k : Nat} (h : k < 23) : (scalNames.map Value.string).toArray[k]? = some (.string (scalNames.getD k ⟨#[]⟩)) := by
  have hk : k < scalNames.length := h
  rw [List.getElem?_toArray, List.getElem?_map, List.getElem?_eq_getElem hk, List.getD_eq_getElem?_getD, List.getElem?_eq_getElem hk]
  rfl
theorem scalLeast_at {k : Nat} (h : k < 23) : (scalLeast.map (Value.int .i64)).toArray[k]? = some (.int .i64 (scalLeast.getD k 0)) := by
  have hk : k < scalLeast.length := h
  rw [List.getElem?_toArray, List.getElem?_map, List.getElem?_eq_getElem hk, List.getD_eq_getElem?_getD, List.getElem?_eq_getElem hk]
  rfl
theorem own_ne_type {w : World} {B : Nat} {v : Value} {e e' : TypeId} {z n g : Nat} {xs : List Value} {arr : Array Value} {fr : Nat × Nat} (h : w.ownsRow B e z v n xs) (hg : w.heap[g]? = some (.cells arr e' fr)) (hne : e ≠ e') : some g ≠ v.ownBlock := by
  intro he
  rcases h.2 with ⟨rfl, _⟩ | ⟨g', cap, cur, rfl, _, hgg, _⟩
  · cases he
  · simp only [Value.ownBlock, Option.some.injEq] at he
    subst he
    rw [hgg] at hg
    simp only [Option.some.injEq, Obj.cells.injEq] at hg
    exact hne hg.2.1

/-- What is known behind k rounds of the second loop. -/
def AllRel2 (w : World) (gN gL : Nat) (x i : Value) (wr : World) : Prop :=
  ∃ k : Nat, k ≤ 23 ∧ i = .int .i64 k ∧ Below w.heap.size w wr ∧ wr.heap[gN]? = some (.cells (scalNames.map Value.string).toArray 9 (0, 0)) ∧ wr.heap[gL]? = some (.cells (scalLeast.map (Value.int .i64)).toArray 3 (0, 0)) ∧
    wr.ownsRow (w.heap.size + 1) 23 6 x (26 + k) ((foldsL ++ othersL ++ scalarsL.take k).flatMap SigS.cells)

set_option maxRecDepth 100000 in
set_option maxHeartbeats 2000000 in
theorem r7_All (w : World) :
    Calls Tryz.prog 21 #[] w fun e w' => ∃ g cap, e = .returned (.slice (some ⟨g, 0, none⟩) 49 cap) ∧ Below w.heap.size w w' ∧ w'.ownsRow w.heap.size 23 6 (.slice (some ⟨g, 0, none⟩) 49 cap) 49 (tableL.flatMap SigS.cells) := by
  obtain ⟨i0, hi, hz, hsz, hby⟩ := zero_sig
  go_enter Tryz.func21, Tryz.ntmps21
  go_wp2
  go_loopw [1, 3] (fun x i wr => AllRel w w.heap.size x i wr) (fun _ i _ => 15 - (intOf i).toNat)
  case atStart => exact ⟨0, by omega, rfl, (Below.refl _ _).alloc (Nat.le_refl _) _, heap_alloc_new _ _, World.ownsRow_nil _ _ _ _⟩
  case round =>
    obtain ⟨k, hk, rfl, hbk, hFk, hown⟩ := hrel
    by_cases hlt : k < 15
    · obtain ⟨nm, hnm⟩ : ∃ nm, nm = foldNames.getD k ⟨#[]⟩ := ⟨_, rfl⟩
      have cN : wr.cell? ⟨w.heap.size, k, none⟩ = some (.string nm) := by
        rw [hnm]; exact (cell_of_row wr w.heap.size k _ _ (0, 0) hFk).trans (foldNames_at hlt)
      have HN := Lib.hid hnm
      clear hnm
      have hsw := hbk.size
      have hltF := lt_of_block hFk
      go_wp2_with (first
        | (at_builtin; refine wpList_append_lies _ rfl _ _ 27 rfl (w.heap.size + 1) 23 i0 _ 6 64 Tryz.underlying27 hi hz hsz hby rfl (by decide) _ k _ rfl (hown.alloc _) ⟨wr.heap.size, 0, none⟩ 1 1 (foldRow k nm).cells rfl rfl (World.news_of_block (heap_alloc_new _ _)) (SigS.one _) (by decide) (by unfold maxLen; omega) (by omega) (by simp; omega) _ rfl ?_; intro g cap w3 hown3 hgrow3 hat3 hlt3)
        | fail)
      go_roundw
      case rel =>
        refine ⟨k + 1, by omega, by go_num, below_grownBy (hbk.alloc (by omega) _) hgrow3 (own_mono (hown.alloc _) (by omega)) (by simp; omega), ?_, ?_⟩
        · rw [hgrow3.block _ (by simp; omega) (own_ne (hown.alloc (.cells (foldRow k nm).cells.toArray 23)) (by omega)), heap_alloc_old _ _ (by omega)]; exact hFk
        · rw [foldsL_step hlt, ← HN.out]; exact hown3
      case measure => simp [intOf]; omega
    · obtain rfl : k = 15 := by omega
      have hsw := hbk.size
      have hltF := lt_of_block hFk
      go_wp2_with (first
        | (at_builtin; refine wpList_append_lies _ rfl _ _ 27 rfl (w.heap.size + 1) 23 i0 _ 6 64 Tryz.underlying27 hi hz hsz hby rfl (by decide) _ 15 _ rfl (hown.alloc _) ⟨wr.heap.size, 0, none⟩ 11 11 (othersL.flatMap SigS.cells) rfl rfl (World.news_of_block (heap_alloc_new _ _)) (sigs_one _) (by decide) (by unfold maxLen; omega) (by omega) (by simp; omega) _ rfl ?_; intro g cap w3 hown3 hgrow3 hat3 hlt3)
        | fail)
      have hbk3 := below_grownBy (hbk.alloc (by omega) _) hgrow3 (own_mono (hown.alloc _) (by omega)) (by simp; omega)
      have hs3 := hbk3.size
      have e26 : (foldsL.take 15).flatMap SigS.cells ++ othersL.flatMap SigS.cells = (foldsL ++ othersL ++ scalarsL.take 0).flatMap SigS.cells := rfl
      rw [e26] at hown3
      clear hown hFk hgrow3 hat3 hbk
      go_loopw [1, 6] (fun x i wr => AllRel2 w w3.heap.size (w3.heap.size + 1) x i wr) (fun _ i _ => 23 - (intOf i).toNat)
      case atStart =>
        refine ⟨0, by omega, rfl, (hbk3.alloc (by omega) _).alloc (by simp; omega) _, ?_, ?_, (hown3.alloc _).alloc _⟩
        · rw [heap_alloc_old _ _ (by simp)]; exact heap_alloc_new _ _
        · have := heap_alloc_new (w3.alloc (.cells (scalNames.map Value.string).toArray 9 (0, 0))) (.cells (scalLeast.map (Value.int .i64)).toArray 3 (0, 0))
          rw [sz_alloc] at this
          exact this
      case round =>
        clear hown3 hbk3
        obtain ⟨k, hk, rfl, hbk, hN, hL, hown⟩ := hrel
        by_cases hlt : k < 23
        · obtain ⟨nm, hnm⟩ : ∃ nm, nm = scalNames.getD k ⟨#[]⟩ := ⟨_, rfl⟩
          obtain ⟨l, hl⟩ : ∃ l, l = scalLeast.getD k 0 := ⟨_, rfl⟩
          have cN : wr.cell? ⟨w3.heap.size, k, none⟩ = some (.string nm) := by
            rw [hnm]; exact (cell_of_row wr _ k _ _ (0, 0) hN).trans (scalNames_at hlt)
          have cL : wr.cell? ⟨w3.heap.size + 1, k, none⟩ = some (.int .i64 l) := by
            rw [hl]; exact (cell_of_row wr _ k _ _ (0, 0) hL).trans (scalLeast_at hlt)
          have HN := Lib.hid hnm
          have HL := Lib.hid hl
          clear hnm hl
          have hn1 := lt_of_block hN
          have hn2 := lt_of_block hL
          have q1 : ¬ w3.heap.size = wr.heap.size := by omega
          have q2 : ¬ wr.heap.size = w3.heap.size := by omega
          have q3 : ¬ w3.heap.size + 1 = wr.heap.size := by omega
          have q4 : ¬ wr.heap.size = w3.heap.size + 1 := by omega
          have hsw := hbk.size
          have hc : nm.toList = [82, 79, 85, 78, 68] ∨ (¬ nm.toList = [82, 79, 85, 78, 68] ∧ nm.toList = [76, 69, 70, 84]) ∨ (¬ nm.toList = [82, 79, 85, 78, 68] ∧ ¬ nm.toList = [76, 69, 70, 84] ∧ nm.toList = [82, 73, 71, 72, 84]) ∨
              (¬ nm.toList = [82, 79, 85, 78, 68] ∧ ¬ nm.toList = [76, 69, 70, 84] ∧ ¬ nm.toList = [82, 73, 71, 72, 84]) := by
            by_cases a1 : nm.toList = [82, 79, 85, 78, 68]
            · exact Or.inl a1
            · by_cases a2 : nm.toList = [76, 69, 70, 84]
              · exact Or.inr (Or.inl ⟨a1, a2⟩)
              · by_cases a3 : nm.toList = [82, 73, 71, 72, 84]
                · exact Or.inr (Or.inr (Or.inl ⟨a1, a2, a3⟩))
                · exact Or.inr (Or.inr (Or.inr ⟨a1, a2, a3⟩))
          have hH := Lib.hid (And.intro hN hL)
          have hO := Lib.hid hown
          clear hN hL hown
          rcases hc with h1 | ⟨h1, h2⟩ | ⟨h1, h2, h3⟩ | ⟨h1, h2, h3⟩
          · have HT : Hid (scalRow k nm l = ⟨40 + (k : Int), 4, nm, l, 2, ⟨#[118]⟩⟩) := by unfold Hid scalRow isTwo; simp [*]
            try have b3 : (nm.toList == ([82, 73, 71, 72, 84] : List UInt8)) = false := by simp [h3]
            try have b1 : (nm.toList == ([82, 79, 85, 78, 68] : List UInt8)) = false := by simp [h1]
            try have b2 : (nm.toList == ([76, 69, 70, 84] : List UInt8)) = false := by simp [h2]
            go_wp2_with fail
            go_region
            go_upto_region 16 with (fail)
            first | with_reducible refine wp_rebase ?_ | with_reducible refine wpList_rebase ?_
            intro w1 hb'
            have hb := hb'.out
            clear hb'
            have s1 := lcs hb (wr.heap.size) (by (first | omega | (simp only [sz_alloc, sz_setCell, sz_drew, sz_drewN]; omega) | (simp; done) | (simp; omega)))
            have c1_0 := (lcc hb (wr.heap.size) (by (first | omega | (simp only [sz_alloc, sz_setCell, sz_drew, sz_drewN]; omega) | (simp; done) | (simp; omega))) 0).trans (by go_simp; exact rfl)
            have c1_1 := (lcc hb (wr.heap.size) (by (first | omega | (simp only [sz_alloc, sz_setCell, sz_drew, sz_drewN]; omega) | (simp; done) | (simp; omega))) 1).trans (by go_simp; exact rfl)
            have c1_2 := (lcc hb (wr.heap.size) (by (first | omega | (simp only [sz_alloc, sz_setCell, sz_drew, sz_drewN]; omega) | (simp; done) | (simp; omega))) 2).trans (by go_simp; exact rfl)
            have c1_3 := (lcc hb (wr.heap.size) (by (first | omega | (simp only [sz_alloc, sz_setCell, sz_drew, sz_drewN]; omega) | (simp; done) | (simp; omega))) 3).trans (by go_simp; exact rfl)
            have c1_4 := (lcc hb (wr.heap.size) (by (first | omega | (simp only [sz_alloc, sz_setCell, sz_drew, sz_drewN]; omega) | (simp; done) | (simp; omega))) 4).trans (by go_simp; exact rfl)
            have c1_5 := (lcc hb (wr.heap.size) (by (first | omega | (simp only [sz_alloc, sz_setCell, sz_drew, sz_drewN]; omega) | (simp; done) | (simp; omega))) 5).trans (by go_simp; exact rfl)
            have f1 := lcff hb (wr.heap.size) (by (first | omega | (simp only [sz_alloc, sz_setCell, sz_drew, sz_drewN]; omega) | (simp; done) | (simp; omega))) (by intro o; go_simp)
            have hbX : Below wr.heap.size wr w1 := by
              repeat (first | with_reducible exact Below.refl _ _ | with_reducible refine below_drewN ?_ _ | with_reducible refine Below.drew ?_ | with_reducible refine Below.setCell ?_ (by (first | omega | (simp only [sz_alloc, sz_setCell, sz_drew, sz_drewN]; omega) | (simp; done) | (simp; omega))) _ | with_reducible refine Below.alloc ?_ (by (first | omega | (simp only [sz_alloc, sz_setCell, sz_drew, sz_drewN]; omega) | (simp; done) | (simp; omega))) _ | with_reducible refine below_then ?_ ?_ (by with_reducible assumption) | (first | omega | (simp only [sz_alloc, sz_setCell, sz_drew, sz_drewN]; omega) | (simp; done) | (simp; omega)))
            have hsX := hbX.size
            have hO1 := own_below hO.out hbX
            go_wp2_with (first
              | (at_builtin; refine wpList_append_lies _ rfl _ _ 27 rfl (w.heap.size + 1) 23 i0 _ 6 64 Tryz.underlying27 hi hz hsz hby rfl (by decide) _ (26 + k) _ rfl (hO1.alloc _) ⟨w1.heap.size, 0, none⟩ 1 1 [.int .i64 (40 + (k : Int)), .int .i64 4, .string nm, .int .i64 l, .int .i64 2, .string ⟨#[118]⟩] rfl rfl (World.news_of_block (heap_alloc_new _ _)) (SigS.one ⟨40 + (k : Int), 4, nm, l, 2, ⟨#[118]⟩⟩) (by decide) (by unfold maxLen; omega) (by omega) (by simp; omega) _ rfl ?_; intro g cap w5 hown5 hgrow5 hat5 hlt5)
              | fail)
            go_roundw
            case rel =>
              have hN1 := (hbX.block _ hn1).trans hH.out.1
              have hL1 := (hbX.block _ hn2).trans hH.out.2
              have hN2 := (heap_alloc_old (w := w1) (.cells [.int .i64 (40 + (k : Int)), .int .i64 4, .string nm, .int .i64 l, .int .i64 2, .string ⟨#[118]⟩].toArray 23) (by omega)).trans hN1
              have hL2 := (heap_alloc_old (w := w1) (.cells [.int .i64 (40 + (k : Int)), .int .i64 4, .string nm, .int .i64 l, .int .i64 2, .string ⟨#[118]⟩].toArray 23) (by omega)).trans hL1
              refine ⟨k + 1, by omega, by go_num, below_grownBy ((below_then hbk hsw hbX).alloc (by omega) _) hgrow5 (own_mono (hO1.alloc _) (by omega)) (by simp; omega), ?_, ?_, ?_⟩
              · rw [hgrow5.block _ (by simp; omega) (own_ne_type (hO1.alloc _) hN2 (by decide))]; exact hN2
              · rw [hgrow5.block _ (by simp; omega) (own_ne_type (hO1.alloc _) hL2 (by decide))]; exact hL2
              · rw [scal_step hlt, ← HN.out, ← HL.out, HT.out]; exact hown5
            case measure => simp [intOf]; omega
          · have HT : Hid (scalRow k nm l = ⟨40 + (k : Int), 4, nm, l, 2, ⟨#[118]⟩⟩) := by unfold Hid scalRow isTwo; simp [*]
            try have b3 : (nm.toList == ([82, 73, 71, 72, 84] : List UInt8)) = false := by simp [h3]
            try have b1 : (nm.toList == ([82, 79, 85, 78, 68] : List UInt8)) = false := by simp [h1]
            try have b2 : (nm.toList == ([76, 69, 70, 84] : List UInt8)) = false := by simp [h2]
            go_wp2_with fail
            go_region
            go_upto_region 16 with (fail)
            first | with_reducible refine wp_rebase ?_ | with_reducible refine wpList_rebase ?_
            intro w1 hb'
            have hb := hb'.out
            clear hb'
            have s2 := lcs hb (wr.heap.size) (by (first | omega | (simp only [sz_alloc, sz_setCell, sz_drew, sz_drewN]; omega) | (simp; done) | (simp; omega)))
            have c2_0 := (lcc hb (wr.heap.size) (by (first | omega | (simp only [sz_alloc, sz_setCell, sz_drew, sz_drewN]; omega) | (simp; done) | (simp; omega))) 0).trans (by go_simp; exact rfl)
            have c2_1 := (lcc hb (wr.heap.size) (by (first | omega | (simp only [sz_alloc, sz_setCell, sz_drew, sz_drewN]; omega) | (simp; done) | (simp; omega))) 1).trans (by go_simp; exact rfl)
            have c2_2 := (lcc hb (wr.heap.size) (by (first | omega | (simp only [sz_alloc, sz_setCell, sz_drew, sz_drewN]; omega) | (simp; done) | (simp; omega))) 2).trans (by go_simp; exact rfl)
            have c2_3 := (lcc hb (wr.heap.size) (by (first | omega | (simp only [sz_alloc, sz_setCell, sz_drew, sz_drewN]; omega) | (simp; done) | (simp; omega))) 3).trans (by go_simp; exact rfl)
            have c2_4 := (lcc hb (wr.heap.size) (by (first | omega | (simp only [sz_alloc, sz_setCell, sz_drew, sz_drewN]; omega) | (simp; done) | (simp; omega))) 4).trans (by go_simp; exact rfl)
            have c2_5 := (lcc hb (wr.heap.size) (by (first | omega | (simp only [sz_alloc, sz_setCell, sz_drew, sz_drewN]; omega) | (simp; done) | (simp; omega))) 5).trans (by go_simp; exact rfl)
            have f2 := lcff hb (wr.heap.size) (by (first | omega | (simp only [sz_alloc, sz_setCell, sz_drew, sz_drewN]; omega) | (simp; done) | (simp; omega))) (by intro o; go_simp)
            have hbX : Below wr.heap.size wr w1 := by
              repeat (first | with_reducible exact Below.refl _ _ | with_reducible refine below_drewN ?_ _ | with_reducible refine Below.drew ?_ | with_reducible refine Below.setCell ?_ (by (first | omega | (simp only [sz_alloc, sz_setCell, sz_drew, sz_drewN]; omega) | (simp; done) | (simp; omega))) _ | with_reducible refine Below.alloc ?_ (by (first | omega | (simp only [sz_alloc, sz_setCell, sz_drew, sz_drewN]; omega) | (simp; done) | (simp; omega))) _ | with_reducible refine below_then ?_ ?_ (by with_reducible assumption) | (first | omega | (simp only [sz_alloc, sz_setCell, sz_drew, sz_drewN]; omega) | (simp; done) | (simp; omega)))
            have hsX := hbX.size
            have hO1 := own_below hO.out hbX
            go_wp2_with (first
              | (at_builtin; refine wpList_append_lies _ rfl _ _ 27 rfl (w.heap.size + 1) 23 i0 _ 6 64 Tryz.underlying27 hi hz hsz hby rfl (by decide) _ (26 + k) _ rfl (hO1.alloc _) ⟨w1.heap.size, 0, none⟩ 1 1 [.int .i64 (40 + (k : Int)), .int .i64 4, .string nm, .int .i64 l, .int .i64 2, .string ⟨#[118]⟩] rfl rfl (World.news_of_block (heap_alloc_new _ _)) (SigS.one ⟨40 + (k : Int), 4, nm, l, 2, ⟨#[118]⟩⟩) (by decide) (by unfold maxLen; omega) (by omega) (by simp; omega) _ rfl ?_; intro g cap w5 hown5 hgrow5 hat5 hlt5)
              | fail)
            go_roundw
            case rel =>
              have hN1 := (hbX.block _ hn1).trans hH.out.1
              have hL1 := (hbX.block _ hn2).trans hH.out.2
              have hN2 := (heap_alloc_old (w := w1) (.cells [.int .i64 (40 + (k : Int)), .int .i64 4, .string nm, .int .i64 l, .int .i64 2, .string ⟨#[118]⟩].toArray 23) (by omega)).trans hN1
              have hL2 := (heap_alloc_old (w := w1) (.cells [.int .i64 (40 + (k : Int)), .int .i64 4, .string nm, .int .i64 l, .int .i64 2, .string ⟨#[118]⟩].toArray 23) (by omega)).trans hL1
              refine ⟨k + 1, by omega, by go_num, below_grownBy ((below_then hbk hsw hbX).alloc (by omega) _) hgrow5 (own_mono (hO1.alloc _) (by omega)) (by simp; omega), ?_, ?_, ?_⟩
              · rw [hgrow5.block _ (by simp; omega) (own_ne_type (hO1.alloc _) hN2 (by decide))]; exact hN2
              · rw [hgrow5.block _ (by simp; omega) (own_ne_type (hO1.alloc _) hL2 (by decide))]; exact hL2
              · rw [scal_step hlt, ← HN.out, ← HL.out, HT.out]; exact hown5
            case measure => simp [intOf]; omega
          · have HT : Hid (scalRow k nm l = ⟨40 + (k : Int), 4, nm, l, 2, ⟨#[118]⟩⟩) := by unfold Hid scalRow isTwo; simp [*]
            try have b3 : (nm.toList == ([82, 73, 71, 72, 84] : List UInt8)) = false := by simp [h3]
            try have b1 : (nm.toList == ([82, 79, 85, 78, 68] : List UInt8)) = false := by simp [h1]
            try have b2 : (nm.toList == ([76, 69, 70, 84] : List UInt8)) = false := by simp [h2]
            go_wp2_with fail
            go_region
            go_upto_region 16 with (fail)
            first | with_reducible refine wp_rebase ?_ | with_reducible refine wpList_rebase ?_
            intro w1 hb'
            have hb := hb'.out
            clear hb'
            have s3 := lcs hb (wr.heap.size) (by (first | omega | (simp only [sz_alloc, sz_setCell, sz_drew, sz_drewN]; omega) | (simp; done) | (simp; omega)))
            have c3_0 := (lcc hb (wr.heap.size) (by (first | omega | (simp only [sz_alloc, sz_setCell, sz_drew, sz_drewN]; omega) | (simp; done) | (simp; omega))) 0).trans (by go_simp; exact rfl)
            have c3_1 := (lcc hb (wr.heap.size) (by (first | omega | (simp only [sz_alloc, sz_setCell, sz_drew, sz_drewN]; omega) | (simp; done) | (simp; omega))) 1).trans (by go_simp; exact rfl)
            have c3_2 := (lcc hb (wr.heap.size) (by (first | omega | (simp only [sz_alloc, sz_setCell, sz_drew, sz_drewN]; omega) | (simp; done) | (simp; omega))) 2).trans (by go_simp; exact rfl)
            have c3_3 := (lcc hb (wr.heap.size) (by (first | omega | (simp only [sz_alloc, sz_setCell, sz_drew, sz_drewN]; omega) | (simp; done) | (simp; omega))) 3).trans (by go_simp; exact rfl)
            have c3_4 := (lcc hb (wr.heap.size) (by (first | omega | (simp only [sz_alloc, sz_setCell, sz_drew, sz_drewN]; omega) | (simp; done) | (simp; omega))) 4).trans (by go_simp; exact rfl)
            have c3_5 := (lcc hb (wr.heap.size) (by (first | omega | (simp only [sz_alloc, sz_setCell, sz_drew, sz_drewN]; omega) | (simp; done) | (simp; omega))) 5).trans (by go_simp; exact rfl)
            have f3 := lcff hb (wr.heap.size) (by (first | omega | (simp only [sz_alloc, sz_setCell, sz_drew, sz_drewN]; omega) | (simp; done) | (simp; omega))) (by intro o; go_simp)
            have hbX : Below wr.heap.size wr w1 := by
              repeat (first | with_reducible exact Below.refl _ _ | with_reducible refine below_drewN ?_ _ | with_reducible refine Below.drew ?_ | with_reducible refine Below.setCell ?_ (by (first | omega | (simp only [sz_alloc, sz_setCell, sz_drew, sz_drewN]; omega) | (simp; done) | (simp; omega))) _ | with_reducible refine Below.alloc ?_ (by (first | omega | (simp only [sz_alloc, sz_setCell, sz_drew, sz_drewN]; omega) | (simp; done) | (simp; omega))) _ | with_reducible refine below_then ?_ ?_ (by with_reducible assumption) | (first | omega | (simp only [sz_alloc, sz_setCell, sz_drew, sz_drewN]; omega) | (simp; done) | (simp; omega)))
            have hsX := hbX.size
            have hO1 := own_below hO.out hbX
            go_wp2_with (first
              | (at_builtin; refine wpList_append_lies _ rfl _ _ 27 rfl (w.heap.size + 1) 23 i0 _ 6 64 Tryz.underlying27 hi hz hsz hby rfl (by decide) _ (26 + k) _ rfl (hO1.alloc _) ⟨w1.heap.size, 0, none⟩ 1 1 [.int .i64 (40 + (k : Int)), .int .i64 4, .string nm, .int .i64 l, .int .i64 2, .string ⟨#[118]⟩] rfl rfl (World.news_of_block (heap_alloc_new _ _)) (SigS.one ⟨40 + (k : Int), 4, nm, l, 2, ⟨#[118]⟩⟩) (by decide) (by unfold maxLen; omega) (by omega) (by simp; omega) _ rfl ?_; intro g cap w5 hown5 hgrow5 hat5 hlt5)
              | fail)
            go_roundw
            case rel =>
              have hN1 := (hbX.block _ hn1).trans hH.out.1
              have hL1 := (hbX.block _ hn2).trans hH.out.2
              have hN2 := (heap_alloc_old (w := w1) (.cells [.int .i64 (40 + (k : Int)), .int .i64 4, .string nm, .int .i64 l, .int .i64 2, .string ⟨#[118]⟩].toArray 23) (by omega)).trans hN1
              have hL2 := (heap_alloc_old (w := w1) (.cells [.int .i64 (40 + (k : Int)), .int .i64 4, .string nm, .int .i64 l, .int .i64 2, .string ⟨#[118]⟩].toArray 23) (by omega)).trans hL1
              refine ⟨k + 1, by omega, by go_num, below_grownBy ((below_then hbk hsw hbX).alloc (by omega) _) hgrow5 (own_mono (hO1.alloc _) (by omega)) (by simp; omega), ?_, ?_, ?_⟩
              · rw [hgrow5.block _ (by simp; omega) (own_ne_type (hO1.alloc _) hN2 (by decide))]; exact hN2
              · rw [hgrow5.block _ (by simp; omega) (own_ne_type (hO1.alloc _) hL2 (by decide))]; exact hL2
              · rw [scal_step hlt, ← HN.out, ← HL.out, HT.out]; exact hown5
            case measure => simp [intOf]; omega
          · have HT : Hid (scalRow k nm l = ⟨40 + (k : Int), 4, nm, l, l, ⟨#[118]⟩⟩) := by unfold Hid scalRow isTwo; simp [*]
            try have b3 : (nm.toList == ([82, 73, 71, 72, 84] : List UInt8)) = false := by simp [h3]
            try have b1 : (nm.toList == ([82, 79, 85, 78, 68] : List UInt8)) = false := by simp [h1]
            try have b2 : (nm.toList == ([76, 69, 70, 84] : List UInt8)) = false := by simp [h2]
            go_wp2_with fail
            go_region
            go_upto_region 16 with (fail)
            first | with_reducible refine wp_rebase ?_ | with_reducible refine wpList_rebase ?_
            intro w1 hb'
            have hb := hb'.out
            clear hb'
            have s4 := lcs hb (wr.heap.size) (by (first | omega | (simp only [sz_alloc, sz_setCell, sz_drew, sz_drewN]; omega) | (simp; done) | (simp; omega)))
            have c4_0 := (lcc hb (wr.heap.size) (by (first | omega | (simp only [sz_alloc, sz_setCell, sz_drew, sz_drewN]; omega) | (simp; done) | (simp; omega))) 0).trans (by go_simp; exact rfl)
            have c4_1 := (lcc hb (wr.heap.size) (by (first | omega | (simp only [sz_alloc, sz_setCell, sz_drew, sz_drewN]; omega) | (simp; done) | (simp; omega))) 1).trans (by go_simp; exact rfl)
            have c4_2 := (lcc hb (wr.heap.size) (by (first | omega | (simp only [sz_alloc, sz_setCell, sz_drew, sz_drewN]; omega) | (simp; done) | (simp; omega))) 2).trans (by go_simp; exact rfl)
            have c4_3 := (lcc hb (wr.heap.size) (by (first | omega | (simp only [sz_alloc, sz_setCell, sz_drew, sz_drewN]; omega) | (simp; done) | (simp; omega))) 3).trans (by go_simp; exact rfl)
            have c4_4 := (lcc hb (wr.heap.size) (by (first | omega | (simp only [sz_alloc, sz_setCell, sz_drew, sz_drewN]; omega) | (simp; done) | (simp; omega))) 4).trans (by go_simp; exact rfl)
            have c4_5 := (lcc hb (wr.heap.size) (by (first | omega | (simp only [sz_alloc, sz_setCell, sz_drew, sz_drewN]; omega) | (simp; done) | (simp; omega))) 5).trans (by go_simp; exact rfl)
            have f4 := lcff hb (wr.heap.size) (by (first | omega | (simp only [sz_alloc, sz_setCell, sz_drew, sz_drewN]; omega) | (simp; done) | (simp; omega))) (by intro o; go_simp)
            have hbX : Below wr.heap.size wr w1 := by
              repeat (first | with_reducible exact Below.refl _ _ | with_reducible refine below_drewN ?_ _ | with_reducible refine Below.drew ?_ | with_reducible refine Below.setCell ?_ (by (first | omega | (simp only [sz_alloc, sz_setCell, sz_drew, sz_drewN]; omega) | (simp; done) | (simp; omega))) _ | with_reducible refine Below.alloc ?_ (by (first | omega | (simp only [sz_alloc, sz_setCell, sz_drew, sz_drewN]; omega) | (simp; done) | (simp; omega))) _ | with_reducible refine below_then ?_ ?_ (by with_reducible assumption) | (first | omega | (simp only [sz_alloc, sz_setCell, sz_drew, sz_drewN]; omega) | (simp; done) | (simp; omega)))
            have hsX := hbX.size
            have hO1 := own_below hO.out hbX
            go_wp2_with (first
              | (at_builtin; refine wpList_append_lies _ rfl _ _ 27 rfl (w.heap.size + 1) 23 i0 _ 6 64 Tryz.underlying27 hi hz hsz hby rfl (by decide) _ (26 + k) _ rfl (hO1.alloc _) ⟨w1.heap.size, 0, none⟩ 1 1 [.int .i64 (40 + (k : Int)), .int .i64 4, .string nm, .int .i64 l, .int .i64 l, .string ⟨#[118]⟩] rfl rfl (World.news_of_block (heap_alloc_new _ _)) (SigS.one ⟨40 + (k : Int), 4, nm, l, l, ⟨#[118]⟩⟩) (by decide) (by unfold maxLen; omega) (by omega) (by simp; omega) _ rfl ?_; intro g cap w5 hown5 hgrow5 hat5 hlt5)
              | fail)
            go_roundw
            case rel =>
              have hN1 := (hbX.block _ hn1).trans hH.out.1
              have hL1 := (hbX.block _ hn2).trans hH.out.2
              have hN2 := (heap_alloc_old (w := w1) (.cells [.int .i64 (40 + (k : Int)), .int .i64 4, .string nm, .int .i64 l, .int .i64 l, .string ⟨#[118]⟩].toArray 23) (by omega)).trans hN1
              have hL2 := (heap_alloc_old (w := w1) (.cells [.int .i64 (40 + (k : Int)), .int .i64 4, .string nm, .int .i64 l, .int .i64 l, .string ⟨#[118]⟩].toArray 23) (by omega)).trans hL1
              refine ⟨k + 1, by omega, by go_num, below_grownBy ((below_then hbk hsw hbX).alloc (by omega) _) hgrow5 (own_mono (hO1.alloc _) (by omega)) (by simp; omega), ?_, ?_, ?_⟩
              · rw [hgrow5.block _ (by simp; omega) (own_ne_type (hO1.alloc _) hN2 (by decide))]; exact hN2
              · rw [hgrow5.block _ (by simp; omega) (own_ne_type (hO1.alloc _) hL2 (by decide))]; exact hL2
              · rw [scal_step hlt, ← HN.out, ← HL.out, HT.out]; exact hown5
            case measure => simp [intOf]; omega
        · obtain rfl : k = 23 := by omega
          obtain ⟨g', cap', rfl, _, _⟩ := hown.form (by decide)
          go_wp2
          go_ret
          exact ⟨_, _, rfl, hbk, own_mono hown (by omega)⟩
end Go.Proofs.YtangdbjoflnobaaGreatDoor
