/- The reference's table of functions. The reference's functions by number. The reference's Apply: by number, what it refuses, NA. -/
import Derived.Test.YtglngfaagjgpjaaGreatDoorBx10
import Derived.Test.YtglngfaagjgpjaaGreatDoorRefI
import Derived.Test.YtglngfaagjgpjaaGreatDoorRefN
import Derived.Test.YtglngfaagjgpjaaGreatDoorApX
namespace Go.Proofs.YtglngfaagjgpjaaGreatDoor
open Go Go.RowKit
set_option linter.unusedSimpArgs false
set_option linter.unusedVariables false

def scalNames : List ByteArray := scalarsL.map SigS.name
def scalLeast : List Int := scalarsL.map SigS.least
def isTwo (nm : ByteArray) : Bool := (nm.toList == (⟨#[82, 79, 85, 78, 68]⟩ : ByteArray).toList || nm.toList == (⟨#[76, 69, 70, 84]⟩ : ByteArray).toList) || nm.toList == (⟨#[82, 73, 71, 72, 84]⟩ : ByteArray).toList
def scalRow (k : Nat) (nm : ByteArray) (l : Int) : SigS := ⟨40 + (k : Int), 4, nm, l, if isTwo nm then 2 else l, ⟨#[118]⟩⟩
theorem scal_eq : scalarsL = (List.range 23).map fun k => scalRow k (scalNames.getD k ⟨#[]⟩) (scalLeast.getD k 0) := by kernel_rfl
theorem scal_step {k : Nat} (h : k < 23) : (foldsL ++ othersL ++ scalarsL.take (k + 1)).flatMap SigS.cells = (foldsL ++ othersL ++ scalarsL.take k).flatMap SigS.cells ++ (scalRow k (scalNames.getD k ⟨#[]⟩) (scalLeast.getD k 0)).cells := by
  have hl : scalarsL.length = 23 := rfl
  have e : scalarsL[k]'(by rw [hl]; exact h) = scalRow k (scalNames.getD k ⟨#[]⟩) (scalLeast.getD k 0) := by
    have : scalarsL[k]? = ((List.range 23).map fun k => scalRow k (scalNames.getD k ⟨#[]⟩) (scalLeast.getD k 0))[k]? := by rw [← scal_eq]
    rw [List.getElem?_map, List.getElem?_range h, List.getElem?_eq_getElem (by rw [hl]; exact h)] at this
    exact Option.some.inj this
  rw [List.take_succ_eq_append_getElem (by rw [hl]; exact h), ← List.append_assoc, flat6_snoc, e]
theorem scalNames_at {k : Nat} (h : k < 23) : (scalNames.map Value.string).toArray[k]? = some (.string (scalNames.getD k ⟨#[]⟩)) := by
  have hk : k < scalNames.length := h
  rw [List.getElem?_toArray, List.getElem?_map, List.getElem?_eq_getElem hk, List.getD_eq_getElem?_getD, List.getElem?_eq_getElem hk]
  rfl
theorem scalLeast_at {k : Nat} (h : k < 23) : (scalLeast.map (Value.int .i64)).toArray[k]? = some (.int .i64 (scalLeast.getD k 0)) := by
  have hk : k < scalLeast.length := h
  rw [List.getElem?_toArray, List.getElem?_map, List.getElem?_eq_getElem hk, List.getD_eq_getElem?_getD, List.getElem?_eq_getElem hk]
  rfl
theorem own_ne_type {w : World} {B : Nat} {v : Value} {e e' : TypeId} {z n g : Nat} {xs : List Value} {arr : Array Value} {fr : Nat × Nat} (h : w.ownsRow B e z v n xs) (hg : w.heap[g]? = some (.cells arr e' fr)) (hne : e ≠ e') : some g ≠ v.ownBlock := by
  intro he
  rcases h.2 with ⟨rfl, _⟩ | ⟨g', cap, cur, rfl, _, hgg, _⟩
  · cases he
  · simp only [Value.ownBlock, Option.some.injEq] at he
    subst he
    rw [hgg] at hg
    simp only [Option.some.injEq, Obj.cells.injEq] at hg
    exact hne hg.2.1

/-- What is known behind k rounds of the second loop. -/
def AllRel2 (w : World) (gN gL : Nat) (x i : Value) (wr : World) : Prop :=
  ∃ k : Nat, k ≤ 23 ∧ i = .int .i64 k ∧ Below w.heap.size w wr ∧ wr.heap[gN]? = some (.cells (scalNames.map Value.string).toArray 9 (0, 0)) ∧ wr.heap[gL]? = some (.cells (scalLeast.map (Value.int .i64)).toArray 3 (0, 0)) ∧
    wr.ownsRow (w.heap.size + 1) 56 6 x (26 + k) ((foldsL ++ othersL ++ scalarsL.take k).flatMap SigS.cells)

set_option maxRecDepth 100000 in
set_option maxHeartbeats 2000000 in
theorem r7_All (w : World) :
    Calls Tryz.prog 84 #[] w fun e w' => ∃ g cap, e = .returned (.slice (some ⟨g, 0, none⟩) 49 cap) ∧ Below w.heap.size w w' ∧ w'.ownsRow w.heap.size 56 6 (.slice (some ⟨g, 0, none⟩) 49 cap) 49 (tableL.flatMap SigS.cells) := by
  obtain ⟨i0, hi, hz, hsz, hby⟩ := zero_sig
  go_enter Tryz.func84, Tryz.ntmps84
  go_wp2
  go_loopw [1, 3] (fun x i wr => AllRel w w.heap.size x i wr) (fun _ i _ => 15 - (intOf i).toNat)
  case atStart => exact ⟨0, by omega, rfl, (Below.refl _ _).alloc (Nat.le_refl _) _, heap_alloc_new _ _, World.ownsRow_nil _ _ _ _⟩
  case round =>
    obtain ⟨k, hk, rfl, hbk, hFk, hown⟩ := hrel
    by_cases hlt : k < 15
    · obtain ⟨nm, hnm⟩ : ∃ nm, nm = foldNames.getD k ⟨#[]⟩ := ⟨_, rfl⟩
      have cN : wr.cell? ⟨w.heap.size, k, none⟩ = some (.string nm) := by
        rw [hnm]; exact (cell_of_row wr w.heap.size k _ _ (0, 0) hFk).trans (foldNames_at hlt)
      have HN := Lib.hid hnm
      clear hnm
      have hsw := hbk.size
      have hltF := lt_of_block hFk
      go_wp2_with (first
        | (at_builtin; refine wpList_append_lies _ rfl _ _ 96 rfl (w.heap.size + 1) 56 i0 _ 6 64 Tryz.underlying96 hi hz hsz hby rfl (by decide) _ k _ rfl (hown.alloc _) ⟨wr.heap.size, 0, none⟩ 1 1 (foldRow k nm).cells rfl rfl (World.news_of_block (heap_alloc_new _ _)) (SigS.one _) (by decide) (by unfold maxLen; omega) (by omega) (by simp; omega) _ rfl ?_; intro g cap w3 hown3 hgrow3 hat3 hlt3)
        | fail)
      go_roundw
      case rel =>
        refine ⟨k + 1, by omega, by go_num, below_grownBy (hbk.alloc (by omega) _) hgrow3 (own_mono (hown.alloc _) (by omega)) (by simp; omega), ?_, ?_⟩
        · rw [hgrow3.block _ (by simp; omega) (own_ne (hown.alloc (.cells (foldRow k nm).cells.toArray 56)) (by omega)), heap_alloc_old _ _ (by omega)]; exact hFk
        · rw [foldsL_step hlt, ← HN.out]; exact hown3
      case measure => simp [intOf]; omega
    · obtain rfl : k = 15 := by omega
      have hsw := hbk.size
      have hltF := lt_of_block hFk
      go_wp2_with (first
        | (at_builtin; refine wpList_append_lies _ rfl _ _ 96 rfl (w.heap.size + 1) 56 i0 _ 6 64 Tryz.underlying96 hi hz hsz hby rfl (by decide) _ 15 _ rfl (hown.alloc _) ⟨wr.heap.size, 0, none⟩ 11 11 (othersL.flatMap SigS.cells) rfl rfl (World.news_of_block (heap_alloc_new _ _)) (sigs_one _) (by decide) (by unfold maxLen; omega) (by omega) (by simp; omega) _ rfl ?_; intro g cap w3 hown3 hgrow3 hat3 hlt3)
        | fail)
      have hbk3 := below_grownBy (hbk.alloc (by omega) _) hgrow3 (own_mono (hown.alloc _) (by omega)) (by simp; omega)
      have hs3 := hbk3.size
      have e26 : (foldsL.take 15).flatMap SigS.cells ++ othersL.flatMap SigS.cells = (foldsL ++ othersL ++ scalarsL.take 0).flatMap SigS.cells := rfl
      rw [e26] at hown3
      clear hown hFk hgrow3 hat3 hbk
      go_loopw [1, 6] (fun x i wr => AllRel2 w w3.heap.size (w3.heap.size + 1) x i wr) (fun _ i _ => 23 - (intOf i).toNat)
      case atStart =>
        refine ⟨0, by omega, rfl, (hbk3.alloc (by omega) _).alloc (by simp; omega) _, ?_, ?_, (hown3.alloc _).alloc _⟩
        · rw [heap_alloc_old _ _ (by simp)]; exact heap_alloc_new _ _
        · have := heap_alloc_new (w3.alloc (.cells (scalNames.map Value.string).toArray 9 (0, 0))) (.cells (scalLeast.map (Value.int .i64)).toArray 3 (0, 0))
          rw [sz_alloc] at this
          exact this
      case round =>
        clear hown3 hbk3
        obtain ⟨k, hk, rfl, hbk, hN, hL, hown⟩ := hrel
        by_cases hlt : k < 23
        · obtain ⟨nm, hnm⟩ : ∃ nm, nm = scalNames.getD k ⟨#[]⟩ := ⟨_, rfl⟩
          obtain ⟨l, hl⟩ : ∃ l, l = scalLeast.getD k 0 := ⟨_, rfl⟩
          have cN : wr.cell? ⟨w3.heap.size, k, none⟩ = some (.string nm) := by
            rw [hnm]; exact (cell_of_row wr _ k _ _ (0, 0) hN).trans (scalNames_at hlt)
          have cL : wr.cell? ⟨w3.heap.size + 1, k, none⟩ = some (.int .i64 l) := by
            rw [hl]; exact (cell_of_row wr _ k _ _ (0, 0) hL).trans (scalLeast_at hlt)
          have HN := Lib.hid hnm
          have HL := Lib.hid hl
          clear hnm hl
          have hn1 := lt_of_block hN
          have hn2 := lt_of_block hL
          have q1 : ¬ w3.heap.size = wr.heap.size := by omega
          have q2 : ¬ wr.heap.size = w3.heap.size := by omega
          have q3 : ¬ w3.heap.size + 1 = wr.heap.size := by omega
          have q4 : ¬ wr.heap.size = w3.heap.size + 1 := by omega
          have hsw := hbk.size
          have hc : nm.toList = [82, 79, 85, 78, 68] ∨ (¬ nm.toList = [82, 79, 85, 78, 68] ∧ nm.toList = [76, 69, 70, 84]) ∨ (¬ nm.toList = [82, 79, 85, 78, 68] ∧ ¬ nm.toList = [76, 69, 70, 84] ∧ nm.toList = [82, 73, 71, 72, 84]) ∨
              (¬ nm.toList = [82, 79, 85, 78, 68] ∧ ¬ nm.toList = [76, 69, 70, 84] ∧ ¬ nm.toList = [82, 73, 71, 72, 84]) := by
            by_cases a1 : nm.toList = [82, 79, 85, 78, 68]
            · exact Or.inl a1
            · by_cases a2 : nm.toList = [76, 69, 70, 84]
              · exact Or.inr (Or.inl ⟨a1, a2⟩)
              · by_cases a3 : nm.toList = [82, 73, 71, 72, 84]
                · exact Or.inr (Or.inr (Or.inl ⟨a1, a2, a3⟩))
                · exact Or.inr (Or.inr (Or.inr ⟨a1, a2, a3⟩))
          have hH := Lib.hid (And.intro hN hL)
          have hO := Lib.hid hown
          clear hN hL hown
          rcases hc with h1 | ⟨h1, h2⟩ | ⟨h1, h2, h3⟩ | ⟨h1, h2, h3⟩
          · have HT : Hid (scalRow k nm l = ⟨40 + (k : Int), 4, nm, l, 2, ⟨#[118]⟩⟩) := by unfold Hid scalRow isTwo; simp [*]
            try have b3 : (nm.toList == ([82, 73, 71, 72, 84] : List UInt8)) = false := by simp [h3]
            try have b1 : (nm.toList == ([82, 79, 85, 78, 68] : List UInt8)) = false := by simp [h1]
            try have b2 : (nm.toList == ([76, 69, 70, 84] : List UInt8)) = false := by simp [h2]
            go_wp2_with fail
            go_region
            go_upto_region 16 with (fail)
            first | with_reducible refine wp_rebase ?_ | with_reducible refine wpList_rebase ?_
            intro w1 hb'
            have hb := hb'.out
            clear hb'
            obtain ⟨s1, c1_0, c1_1, c1_2, c1_3, c1_4, c1_5, f1⟩ := L6 hb (wr.heap.size) (by first | omega | (simp only [sA, sC, sD, sE]; omega) | (simp; done) | (simp; omega)) (by go_simp; exact ⟨rfl, rfl, rfl, rfl, rfl, rfl⟩) (by intro o; go_simp)
            have hbX : Below wr.heap.size wr w1 := by
              focus
                repeat with_reducible first | exact Below.refl _ _ | refine below_drewN ?_ _ | refine Below.drew ?_ | refine Below.setCell ?_ ?_ _ | refine Below.alloc ?_ ?_ _ | refine below_then ?_ ?_ (by with_reducible assumption)
                all_goals first | omega | (simp only [sA, sC, sD, sE]; omega) | (simp; done) | (simp; omega)
            have hsX := hbX.size
            have hO1 := own_below hO.out hbX
            go_wp2_with (first
              | (at_builtin; refine wpList_append_lies _ rfl _ _ 96 rfl (w.heap.size + 1) 56 i0 _ 6 64 Tryz.underlying96 hi hz hsz hby rfl (by decide) _ (26 + k) _ rfl (hO1.alloc _) ⟨w1.heap.size, 0, none⟩ 1 1 [.int .i64 (40 + (k : Int)), .int .i64 4, .string nm, .int .i64 l, .int .i64 2, .string ⟨#[118]⟩] rfl rfl (World.news_of_block (heap_alloc_new _ _)) (SigS.one ⟨40 + (k : Int), 4, nm, l, 2, ⟨#[118]⟩⟩) (by decide) (by unfold maxLen; omega) (by omega) (by simp; omega) _ rfl ?_; intro g cap w5 hown5 hgrow5 hat5 hlt5)
              | fail)
            go_roundw
            case rel =>
              have hN1 := (hbX.block _ hn1).trans hH.out.1
              have hL1 := (hbX.block _ hn2).trans hH.out.2
              have hN2 := (heap_alloc_old (w := w1) (.cells [.int .i64 (40 + (k : Int)), .int .i64 4, .string nm, .int .i64 l, .int .i64 2, .string ⟨#[118]⟩].toArray 56) (by omega)).trans hN1
              have hL2 := (heap_alloc_old (w := w1) (.cells [.int .i64 (40 + (k : Int)), .int .i64 4, .string nm, .int .i64 l, .int .i64 2, .string ⟨#[118]⟩].toArray 56) (by omega)).trans hL1
              refine ⟨k + 1, by omega, by go_num, below_grownBy ((below_then hbk hsw hbX).alloc (by omega) _) hgrow5 (own_mono (hO1.alloc _) (by omega)) (by simp; omega), ?_, ?_, ?_⟩
              · rw [hgrow5.block _ (by simp; omega) (own_ne_type (hO1.alloc _) hN2 (by decide))]; exact hN2
              · rw [hgrow5.block _ (by simp; omega) (own_ne_type (hO1.alloc _) hL2 (by decide))]; exact hL2
              · rw [scal_step hlt, ← HN.out, ← HL.out, HT.out]; exact hown5
            case measure => simp [intOf]; omega
          · have HT : Hid (scalRow k nm l = ⟨40 + (k : Int), 4, nm, l, 2, ⟨#[118]⟩⟩) := by unfold Hid scalRow isTwo; simp [*]
            try have b3 : (nm.toList == ([82, 73, 71, 72, 84] : List UInt8)) = false := by simp [h3]
            try have b1 : (nm.toList == ([82, 79, 85, 78, 68] : List UInt8)) = false := by simp [h1]
            try have b2 : (nm.toList == ([76, 69, 70, 84] : List UInt8)) = false := by simp [h2]
            go_wp2_with fail
            go_region
            go_upto_region 16 with (fail)
            first | with_reducible refine wp_rebase ?_ | with_reducible refine wpList_rebase ?_
            intro w1 hb'
            have hb := hb'.out
            clear hb'
            obtain ⟨s2, c2_0, c2_1, c2_2, c2_3, c2_4, c2_5, f2⟩ := L6 hb (wr.heap.size) (by first | omega | (simp only [sA, sC, sD, sE]; omega) | (simp; done) | (simp; omega)) (by go_simp; exact ⟨rfl, rfl, rfl, rfl, rfl, rfl⟩) (by intro o; go_simp)
            have hbX : Below wr.heap.size wr w1 := by
              focus
                repeat with_reducible first | exact Below.refl _ _ | refine below_drewN ?_ _ | refine Below.drew ?_ | refine Below.setCell ?_ ?_ _ | refine Below.alloc ?_ ?_ _ | refine below_then ?_ ?_ (by with_reducible assumption)
                all_goals first | omega | (simp only [sA, sC, sD, sE]; omega) | (simp; done) | (simp; omega)
            have hsX := hbX.size
            have hO1 := own_below hO.out hbX
            go_wp2_with (first
              | (at_builtin; refine wpList_append_lies _ rfl _ _ 96 rfl (w.heap.size + 1) 56 i0 _ 6 64 Tryz.underlying96 hi hz hsz hby rfl (by decide) _ (26 + k) _ rfl (hO1.alloc _) ⟨w1.heap.size, 0, none⟩ 1 1 [.int .i64 (40 + (k : Int)), .int .i64 4, .string nm, .int .i64 l, .int .i64 2, .string ⟨#[118]⟩] rfl rfl (World.news_of_block (heap_alloc_new _ _)) (SigS.one ⟨40 + (k : Int), 4, nm, l, 2, ⟨#[118]⟩⟩) (by decide) (by unfold maxLen; omega) (by omega) (by simp; omega) _ rfl ?_; intro g cap w5 hown5 hgrow5 hat5 hlt5)
              | fail)
            go_roundw
            case rel =>
              have hN1 := (hbX.block _ hn1).trans hH.out.1
              have hL1 := (hbX.block _ hn2).trans hH.out.2
              have hN2 := (heap_alloc_old (w := w1) (.cells [.int .i64 (40 + (k : Int)), .int .i64 4, .string nm, .int .i64 l, .int .i64 2, .string ⟨#[118]⟩].toArray 56) (by omega)).trans hN1
              have hL2 := (heap_alloc_old (w := w1) (.cells [.int .i64 (40 + (k : Int)), .int .i64 4, .string nm, .int .i64 l, .int .i64 2, .string ⟨#[118]⟩].toArray 56) (by omega)).trans hL1
              refine ⟨k + 1, by omega, by go_num, below_grownBy ((below_then hbk hsw hbX).alloc (by omega) _) hgrow5 (own_mono (hO1.alloc _) (by omega)) (by simp; omega), ?_, ?_, ?_⟩
              · rw [hgrow5.block _ (by simp; omega) (own_ne_type (hO1.alloc _) hN2 (by decide))]; exact hN2
              · rw [hgrow5.block _ (by simp; omega) (own_ne_type (hO1.alloc _) hL2 (by decide))]; exact hL2
              · rw [scal_step hlt, ← HN.out, ← HL.out, HT.out]; exact hown5
            case measure => simp [intOf]; omega
          · have HT : Hid (scalRow k nm l = ⟨40 + (k : Int), 4, nm, l, 2, ⟨#[118]⟩⟩) := by unfold Hid scalRow isTwo; simp [*]
            try have b3 : (nm.toList == ([82, 73, 71, 72, 84] : List UInt8)) = false := by simp [h3]
            try have b1 : (nm.toList == ([82, 79, 85, 78, 68] : List UInt8)) = false := by simp [h1]
            try have b2 : (nm.toList == ([76, 69, 70, 84] : List UInt8)) = false := by simp [h2]
            go_wp2_with fail
            go_region
            go_upto_region 16 with (fail)
            first | with_reducible refine wp_rebase ?_ | with_reducible refine wpList_rebase ?_
            intro w1 hb'
            have hb := hb'.out
            clear hb'
            obtain ⟨s3, c3_0, c3_1, c3_2, c3_3, c3_4, c3_5, f3⟩ := L6 hb (wr.heap.size) (by first | omega | (simp only [sA, sC, sD, sE]; omega) | (simp; done) | (simp; omega)) (by go_simp; exact ⟨rfl, rfl, rfl, rfl, rfl, rfl⟩) (by intro o; go_simp)
            have hbX : Below wr.heap.size wr w1 := by
              focus
                repeat with_reducible first | exact Below.refl _ _ | refine below_drewN ?_ _ | refine Below.drew ?_ | refine Below.setCell ?_ ?_ _ | refine Below.alloc ?_ ?_ _ | refine below_then ?_ ?_ (by with_reducible assumption)
                all_goals first | omega | (simp only [sA, sC, sD, sE]; omega) | (simp; done) | (simp; omega)
            have hsX := hbX.size
            have hO1 := own_below hO.out hbX
            go_wp2_with (first
              | (at_builtin; refine wpList_append_lies _ rfl _ _ 96 rfl (w.heap.size + 1) 56 i0 _ 6 64 Tryz.underlying96 hi hz hsz hby rfl (by decide) _ (26 + k) _ rfl (hO1.alloc _) ⟨w1.heap.size, 0, none⟩ 1 1 [.int .i64 (40 + (k : Int)), .int .i64 4, .string nm, .int .i64 l, .int .i64 2, .string ⟨#[118]⟩] rfl rfl (World.news_of_block (heap_alloc_new _ _)) (SigS.one ⟨40 + (k : Int), 4, nm, l, 2, ⟨#[118]⟩⟩) (by decide) (by unfold maxLen; omega) (by omega) (by simp; omega) _ rfl ?_; intro g cap w5 hown5 hgrow5 hat5 hlt5)
              | fail)
            go_roundw
            case rel =>
              have hN1 := (hbX.block _ hn1).trans hH.out.1
              have hL1 := (hbX.block _ hn2).trans hH.out.2
              have hN2 := (heap_alloc_old (w := w1) (.cells [.int .i64 (40 + (k : Int)), .int .i64 4, .string nm, .int .i64 l, .int .i64 2, .string ⟨#[118]⟩].toArray 56) (by omega)).trans hN1
              have hL2 := (heap_alloc_old (w := w1) (.cells [.int .i64 (40 + (k : Int)), .int .i64 4, .string nm, .int .i64 l, .int .i64 2, .string ⟨#[118]⟩].toArray 56) (by omega)).trans hL1
              refine ⟨k + 1, by omega, by go_num, below_grownBy ((below_then hbk hsw hbX).alloc (by omega) _) hgrow5 (own_mono (hO1.alloc _) (by omega)) (by simp; omega), ?_, ?_, ?_⟩
              · rw [hgrow5.block _ (by simp; omega) (own_ne_type (hO1.alloc _) hN2 (by decide))]; exact hN2
              · rw [hgrow5.block _ (by simp; omega) (own_ne_type (hO1.alloc _) hL2 (by decide))]; exact hL2
              · rw [scal_step hlt, ← HN.out, ← HL.out, HT.out]; exact hown5
            case measure => simp [intOf]; omega
          · have HT : Hid (scalRow k nm l = ⟨40 + (k : Int), 4, nm, l, l, ⟨#[118]⟩⟩) := by unfold Hid scalRow isTwo; simp [*]
            try have b3 : (nm.toList == ([82, 73, 71, 72, 84] : List UInt8)) = false := by simp [h3]
            try have b1 : (nm.toList == ([82, 79, 85, 78, 68] : List UInt8)) = false := by simp [h1]
            try have b2 : (nm.toList == ([76, 69, 70, 84] : List UInt8)) = false := by simp [h2]
            go_wp2_with fail
            go_region
            go_upto_region 16 with (fail)
            first | with_reducible refine wp_rebase ?_ | with_reducible refine wpList_rebase ?_
            intro w1 hb'
            have hb := hb'.out
            clear hb'
            obtain ⟨s4, c4_0, c4_1, c4_2, c4_3, c4_4, c4_5, f4⟩ := L6 hb (wr.heap.size) (by first | omega | (simp only [sA, sC, sD, sE]; omega) | (simp; done) | (simp; omega)) (by go_simp; exact ⟨rfl, rfl, rfl, rfl, rfl, rfl⟩) (by intro o; go_simp)
            have hbX : Below wr.heap.size wr w1 := by
              focus
                repeat with_reducible first | exact Below.refl _ _ | refine below_drewN ?_ _ | refine Below.drew ?_ | refine Below.setCell ?_ ?_ _ | refine Below.alloc ?_ ?_ _ | refine below_then ?_ ?_ (by with_reducible assumption)
                all_goals first | omega | (simp only [sA, sC, sD, sE]; omega) | (simp; done) | (simp; omega)
            have hsX := hbX.size
            have hO1 := own_below hO.out hbX
            go_wp2_with (first
              | (at_builtin; refine wpList_append_lies _ rfl _ _ 96 rfl (w.heap.size + 1) 56 i0 _ 6 64 Tryz.underlying96 hi hz hsz hby rfl (by decide) _ (26 + k) _ rfl (hO1.alloc _) ⟨w1.heap.size, 0, none⟩ 1 1 [.int .i64 (40 + (k : Int)), .int .i64 4, .string nm, .int .i64 l, .int .i64 l, .string ⟨#[118]⟩] rfl rfl (World.news_of_block (heap_alloc_new _ _)) (SigS.one ⟨40 + (k : Int), 4, nm, l, l, ⟨#[118]⟩⟩) (by decide) (by unfold maxLen; omega) (by omega) (by simp; omega) _ rfl ?_; intro g cap w5 hown5 hgrow5 hat5 hlt5)
              | fail)
            go_roundw
            case rel =>
              have hN1 := (hbX.block _ hn1).trans hH.out.1
              have hL1 := (hbX.block _ hn2).trans hH.out.2
              have hN2 := (heap_alloc_old (w := w1) (.cells [.int .i64 (40 + (k : Int)), .int .i64 4, .string nm, .int .i64 l, .int .i64 l, .string ⟨#[118]⟩].toArray 56) (by omega)).trans hN1
              have hL2 := (heap_alloc_old (w := w1) (.cells [.int .i64 (40 + (k : Int)), .int .i64 4, .string nm, .int .i64 l, .int .i64 l, .string ⟨#[118]⟩].toArray 56) (by omega)).trans hL1
              refine ⟨k + 1, by omega, by go_num, below_grownBy ((below_then hbk hsw hbX).alloc (by omega) _) hgrow5 (own_mono (hO1.alloc _) (by omega)) (by simp; omega), ?_, ?_, ?_⟩
              · rw [hgrow5.block _ (by simp; omega) (own_ne_type (hO1.alloc _) hN2 (by decide))]; exact hN2
              · rw [hgrow5.block _ (by simp; omega) (own_ne_type (hO1.alloc _) hL2 (by decide))]; exact hL2
              · rw [scal_step hlt, ← HN.out, ← HL.out, HT.out]; exact hown5
            case measure => simp [intOf]; omega
        · obtain rfl : k = 23 := by omega
          obtain ⟨g', cap', rfl, _, _⟩ := hown.form (by decide)
          go_wp2
          go_ret
          exact ⟨_, _, rfl, hbk, own_mono hown (by omega)⟩
end Go.Proofs.YtglngfaagjgpjaaGreatDoor
namespace Go.Proofs.YtglngfaagjgpjaaGreatDoor
open Go Go.RowKit
set_option linter.unusedSimpArgs false
set_option linter.unusedVariables false

set_option maxHeartbeats 1000000 in
theorem r7_ById (id : Int) (w : World) (HAll : ∀ wx : World, Calls Tryz.prog 84 #[] wx fun e w' => ∃ g cap, e = .returned (.slice (some ⟨g, 0, none⟩) 49 cap) ∧ Below wx.heap.size wx w' ∧ w'.ownsRow wx.heap.size 56 6 (.slice (some ⟨g, 0, none⟩) 49 cap) 49 (tableL.flatMap SigS.cells)) :
    Calls Tryz.prog 39 #[.int .i64 id] w fun e w' => e = .returned (optSig (byIdL id)) ∧ Below w.heap.size w w' := by
  have HA := Lib.hid HAll
  clear HAll
  go_enter Tryz.func39, Tryz.ntmps39
  go_wp2_with fail
  refine (HA.out _).mono ?_
  rintro e w1 ⟨g, cap, rfl, hb, hown⟩
  clear HA
  have hr := (hb.block w.heap.size (by simp)).trans (heap_alloc_new _ _)
  rw [sz_alloc] at hown hb
  have hb1 : Below w.heap.size w w1 := ((Below.refl _ _).alloc (Nat.le_refl _) _).trans (hb.mono (by omega))
  go_wp2
  go_loopw [5] (fun i wr => ∃ k, SeekRel w g cap (isId id) i k wr) (fun i _ => 49 - (intOf i).toNat)
  case atStart => exact ⟨0, by omega, rfl, hb1, hown, hr, fun _ _ h => by omega⟩
  case round =>
    clear hb hown hr hb1
    obtain ⟨k, hk, rfl, hbk, hownk, hres, hno⟩ := hrel
    by_cases hlt : k < 49
    · have hl : k < tableL.length := by rw [tableL_len]; exact hlt
      obtain ⟨S, hS⟩ : ∃ S, tableL[k]? = some S := ⟨_, List.getElem?_eq_getElem hl⟩
      have c0 := (table_cell hownk hlt hS).1
      have c1 := (table_cell hownk hlt hS).2.1
      have c2 := (table_cell hownk hlt hS).2.2.1
      have c3 := (table_cell hownk hlt hS).2.2.2.1
      have c4 := (table_cell hownk hlt hS).2.2.2.2.1
      have c5 := (table_cell hownk hlt hS).2.2.2.2.2
      have hgB := (hownk.lt g rfl)
      have hsk := hbk.size
      have hltr := lt_of_block hres
      have hne1 : ¬ w.heap.size = wr.heap.size := by omega
      have hne2 : ¬ wr.heap.size = w.heap.size := by omega
      have B : Blk wr w.heap.size sigZ.cells.toArray 56 := hres
      have r0 : wr.cell? ⟨w.heap.size, 0, none⟩ = some (.int .i64 0) := B.cell 0
      have r1 : wr.cell? ⟨w.heap.size, 1, none⟩ = some (.int .i64 0) := B.cell 1
      have r2 : wr.cell? ⟨w.heap.size, 2, none⟩ = some (.string ⟨#[]⟩) := B.cell 2
      have r3 : wr.cell? ⟨w.heap.size, 3, none⟩ = some (.int .i64 0) := B.cell 3
      have r4 : wr.cell? ⟨w.heap.size, 4, none⟩ = some (.int .i64 0) := B.cell 4
      have r5 : wr.cell? ⟨w.heap.size, 5, none⟩ = some (.string ⟨#[]⟩) := B.cell 5
      have rf := B.free
      have hno' := Lib.hid hno
      have hown' := Lib.hid hownk
      have hbk' := Lib.hid hbk
      have hres' := Lib.hid hres
      clear hno hownk B hres hbk
      cases hm : isId id S
      · have hmw : (S.id == id) = false := hm
        go_wp2
        go_roundw
        case rel =>
          refine ⟨k + 1, by omega, by go_num, hbk'.out, hown'.out, hres'.out, ?_⟩
          · intro j hj hjk
            by_cases hjk' : j < k
            · exact hno'.out j hj hjk'
            · obtain rfl : j = k := by omega
              rw [List.getElem?_eq_getElem hj] at hS
              rw [Option.some.inj hS]; exact hm
        case measure => simp [intOf]; omega
      · have HF : Hid (byIdL id = some S) := by
          rw [List.getElem?_eq_getElem hl] at hS
          have e := Option.some.inj hS
          unfold Hid byIdL
          rw [find_at (p := isId id) hl (by rw [e]; exact hm) hno'.out, e]
        have hmw : (S.id == id) = true := hm
        go_wp2
        refine bodyPost_ret (v := .tuple #[.agg #[.int .i64 S.id, .int .i64 S.cl, .string S.name, .int .i64 S.least, .int .i64 S.most, .string S.params], .bool true]) (by simp [results, Tryz.results39, go_sem, r0, r1, r2, r3, r4, r5]) rfl ⟨by rw [HF.out]; rfl, ?_⟩
        repeat (with_reducible refine Below.setCell ?_ (by (first | omega | (simp only [sz_alloc, sz_setCell, sz_drew, sz_drewN]; omega) | (simp; done) | (simp; omega))) _)
        exact hbk'.out
    · obtain rfl : k = 49 := by omega
      have HF : Hid (byIdL id = none) := by
        unfold Hid byIdL
        exact find_no fun j hj => hno j hj (by rw [tableL_len] at hj; exact hj)
      have B : Blk wr w.heap.size sigZ.cells.toArray 56 := hres
      have r0 : wr.cell? ⟨w.heap.size, 0, none⟩ = some (.int .i64 0) := B.cell 0
      have r1 : wr.cell? ⟨w.heap.size, 1, none⟩ = some (.int .i64 0) := B.cell 1
      have r2 : wr.cell? ⟨w.heap.size, 2, none⟩ = some (.string ⟨#[]⟩) := B.cell 2
      have r3 : wr.cell? ⟨w.heap.size, 3, none⟩ = some (.int .i64 0) := B.cell 3
      have r4 : wr.cell? ⟨w.heap.size, 4, none⟩ = some (.int .i64 0) := B.cell 4
      have r5 : wr.cell? ⟨w.heap.size, 5, none⟩ = some (.string ⟨#[]⟩) := B.cell 5
      have rf := B.free
      have hbk' := Lib.hid hbk
      clear hno hownk B hres hbk
      go_wp2
      refine bodyPost_ret (v := .tuple #[.agg #[.int .i64 0, .int .i64 0, .string ⟨#[]⟩, .int .i64 0, .int .i64 0, .string ⟨#[]⟩], .bool false]) (by simp [results, Tryz.results39, go_sem, r0, r1, r2, r3, r4, r5]) rfl ⟨by rw [HF.out]; rfl, ?_⟩
      repeat (with_reducible refine Below.setCell ?_ (by (first | omega | (simp only [sz_alloc, sz_setCell, sz_drew, sz_drewN]; omega) | (simp; done) | (simp; omega))) _)
      exact hbk'.out

end Go.Proofs.YtglngfaagjgpjaaGreatDoor
namespace Go.Proofs.YtglngfaagjgpjaaGreatDoor
open Go Go.RowKit
set_option linter.unusedSimpArgs false
set_option linter.unusedVariables false
theorem rById_some {id : Int} {S : SigS} (h : byIdL id = some S) (w : World) : Calls Tryz.prog 39 #[.int .i64 id] w fun e w' => e = .returned (.tuple #[.agg #[.int .i64 S.id, .int .i64 S.cl, .string S.name, .int .i64 S.least, .int .i64 S.most, .string S.params], .bool true]) ∧ Below w.heap.size w w' := by
  have := r7_ById id w (fun wx => r7_All wx)
  rw [h] at this
  exact this
theorem rById_none {id : Int} (h : byIdL id = none) (w : World) : Calls Tryz.prog 39 #[.int .i64 id] w fun e w' => e = .returned (.tuple #[.agg #[.int .i64 0, .int .i64 0, .string ⟨#[]⟩, .int .i64 0, .int .i64 0, .string ⟨#[]⟩], .bool false]) ∧ Below w.heap.size w w' := by
  have := r7_ById id w (fun wx => r7_All wx)
  rw [h] at this
  exact this
set_option maxRecDepth 100000 in
set_option maxHeartbeats 1000000 in
theorem ra_none (id : Int) (la : Option Addr) (n lc : Nat) (w : World) (h : byIdL id = none) :
    Calls Tryz.prog 10 #[.int .i64 id, .slice la n lc] w fun e w' => e = .returned (.agg #[.int .i64 (faultF 2).k, .int .i64 (faultF 2).n, .int .i64 (faultF 2).d, .string (faultF 2).t, .bool (faultF 2).b, .int .i64 (faultF 2).f]) ∧ Below w.heap.size w w' := by
  have HB := Lib.hid fun wx => rById_none h wx
  have HF := Lib.hid fun wx => r2_Fault 2 wx
  generalize faultF 2 = Q at *
  clear h
  go_enter Tryz.func10, Tryz.ntmps10
  go_wp2_with fail
  refine (HB.out _).mono ?_
  rintro e wA ⟨rfl, hb⟩
  obtain ⟨s1, c1_0, c1_1, c1_2, c1_3, c1_4, c1_5, f1⟩ := L6 hb (w.heap.size) (by first | omega | (simp only [sA, sC, sD, sE]; omega) | (simp; done) | (simp; omega)) (by go_simp; exact ⟨rfl, rfl, rfl, rfl, rfl, rfl⟩) (by intro o; go_simp)
  go_upto_region 2 with (fail)
  first | with_reducible refine wp_rebase ?_ | with_reducible refine wpList_rebase ?_
  intro w1 hb'
  have hb := hb'.out
  clear hb'
  obtain ⟨s2, c2_0, c2_1, c2_2, c2_3, c2_4, c2_5, f2⟩ := L6 hb (w.heap.size) (by first | omega | (simp only [sA, sC, sD, sE]; omega) | (simp; done) | (simp; omega)) (by go_simp; exact ⟨rfl, rfl, rfl, rfl, rfl, rfl⟩) (by intro o; go_simp)
  obtain ⟨s3, c3_0, c3_1, c3_2, c3_3, c3_4, c3_5⟩ := L6r hb (wA.heap.size) (by first | omega | (simp only [sA, sC, sD, sE]; omega) | (simp; done) | (simp; omega)) (by go_simp; exact ⟨rfl, rfl, rfl, rfl, rfl, rfl⟩)
  clear c1_0 c1_1 c1_2 c1_3 c1_4 c1_5 f1
  go_wp2_with fail
  refine (HF.out _).mono ?_
  rintro e w2 ⟨rfl, hb⟩
  obtain ⟨s4, c4_0, c4_1, c4_2, c4_3, c4_4, c4_5, f4⟩ := L6 hb (w.heap.size) (by first | omega | (simp only [sA, sC, sD, sE]; omega) | (simp; done) | (simp; omega)) (by go_simp; exact ⟨rfl, rfl, rfl, rfl, rfl, rfl⟩) (by intro o; go_simp)
  clear c2_0 c2_1 c2_2 c2_3 c2_4 c2_5 f2 c3_0 c3_1 c3_2 c3_3 c3_4 c3_5
  go_wp2
  refine bodyPost_ret (v := .agg #[.int .i64 (Q).k, .int .i64 (Q).n, .int .i64 (Q).d, .string (Q).t, .bool (Q).b, .int .i64 (Q).f]) (by simp [results, Tryz.results10, go_sem, c4_0, c4_1, c4_2, c4_3, c4_4, c4_5]) rfl ⟨rfl, ?_⟩
  focus
    repeat with_reducible first | exact Below.refl _ _ | refine below_drewN ?_ _ | refine Below.drew ?_ | refine Below.setCell ?_ ?_ _ | refine Below.alloc ?_ ?_ _ | refine below_then ?_ ?_ (by with_reducible assumption)
    all_goals first | omega | (simp only [sA, sC, sD, sE]; omega) | (simp; done) | (simp; omega)
set_option maxRecDepth 100000 in
set_option maxHeartbeats 1000000 in
theorem ra_refuse (id : Int) (S : SigS) (la : Option Addr) (n lc : Nat) (w : World) (h : byIdL id = some S) (hno : ¬ S.cl = 4 ∨ (S.cl = 4 ∧ (n : Int) < S.least) ∨ (S.cl = 4 ∧ ¬ (n : Int) < S.least ∧ S.most < (n : Int))) :
    Calls Tryz.prog 10 #[.int .i64 id, .slice la n lc] w fun e w' => e = .returned (.agg #[.int .i64 (faultF 2).k, .int .i64 (faultF 2).n, .int .i64 (faultF 2).d, .string (faultF 2).t, .bool (faultF 2).b, .int .i64 (faultF 2).f]) ∧ Below w.heap.size w w' := by
  have HB := Lib.hid fun wx => rById_some h wx
  have HF := Lib.hid fun wx => r2_Fault 2 wx
  generalize faultF 2 = Q at *
  clear h
  have hno2 : ((S.cl != 4) = true) ∨ ((S.cl != 4) = false ∧ (n : Int) < S.least) ∨ ((S.cl != 4) = false ∧ ¬ (n : Int) < S.least ∧ S.most < (n : Int)) := by
    rcases hno with h1 | ⟨h1, h2⟩ | ⟨h1, h2, h3⟩
    · exact .inl (by simp [h1])
    · exact .inr (.inl ⟨by simp [h1], h2⟩)
    · exact .inr (.inr ⟨by simp [h1], h2, h3⟩)
  clear hno
  rcases hno2 with k1 | ⟨k1, h2⟩ | ⟨k1, h2, h3⟩
  all_goals
    go_enter Tryz.func10, Tryz.ntmps10
    go_wp2_with fail
    refine (HB.out _).mono ?_
    rintro e wA ⟨rfl, hb⟩
    obtain ⟨s5, c5_0, c5_1, c5_2, c5_3, c5_4, c5_5, f5⟩ := L6 hb (w.heap.size) (by first | omega | (simp only [sA, sC, sD, sE]; omega) | (simp; done) | (simp; omega)) (by go_simp; exact ⟨rfl, rfl, rfl, rfl, rfl, rfl⟩) (by intro o; go_simp)
    go_upto_region 2 with (fail)
    first | with_reducible refine wp_rebase ?_ | with_reducible refine wpList_rebase ?_
    intro w1 hb'
    have hb := hb'.out
    clear hb'
    obtain ⟨s6, c6_0, c6_1, c6_2, c6_3, c6_4, c6_5, f6⟩ := L6 hb (w.heap.size) (by first | omega | (simp only [sA, sC, sD, sE]; omega) | (simp; done) | (simp; omega)) (by go_simp; exact ⟨rfl, rfl, rfl, rfl, rfl, rfl⟩) (by intro o; go_simp)
    obtain ⟨s7, c7_0, c7_1, c7_2, c7_3, c7_4, c7_5⟩ := L6r hb (wA.heap.size) (by first | omega | (simp only [sA, sC, sD, sE]; omega) | (simp; done) | (simp; omega)) (by go_simp; exact ⟨rfl, rfl, rfl, rfl, rfl, rfl⟩)
    clear c5_0 c5_1 c5_2 c5_3 c5_4 c5_5 f5
    go_wp2_with fail
    refine (HF.out _).mono ?_
    rintro e w2 ⟨rfl, hb⟩
    obtain ⟨s8, c8_0, c8_1, c8_2, c8_3, c8_4, c8_5, f8⟩ := L6 hb (w.heap.size) (by first | omega | (simp only [sA, sC, sD, sE]; omega) | (simp; done) | (simp; omega)) (by go_simp; exact ⟨rfl, rfl, rfl, rfl, rfl, rfl⟩) (by intro o; go_simp)
    clear c6_0 c6_1 c6_2 c6_3 c6_4 c6_5 f6 c7_0 c7_1 c7_2 c7_3 c7_4 c7_5
    go_wp2
    refine bodyPost_ret (v := .agg #[.int .i64 (Q).k, .int .i64 (Q).n, .int .i64 (Q).d, .string (Q).t, .bool (Q).b, .int .i64 (Q).f]) (by simp [results, Tryz.results10, go_sem, c8_0, c8_1, c8_2, c8_3, c8_4, c8_5]) rfl ⟨rfl, ?_⟩
    focus
      repeat with_reducible first | exact Below.refl _ _ | refine below_drewN ?_ _ | refine Below.drew ?_ | refine Below.setCell ?_ ?_ _ | refine Below.alloc ?_ ?_ _ | refine below_then ?_ ?_ (by with_reducible assumption)
      all_goals first | omega | (simp only [sA, sC, sD, sE]; omega) | (simp; done) | (simp; omega)
set_option maxRecDepth 100000 in
set_option maxHeartbeats 1000000 in
theorem ra_NA (la : Option Addr) (lc : Nat) (w : World) :
    Calls Tryz.prog 10 #[.int .i64 62, .slice la 0 lc] w fun e w' => e = .returned (.agg #[.int .i64 (faultF 5).k, .int .i64 (faultF 5).n, .int .i64 (faultF 5).d, .string (faultF 5).t, .bool (faultF 5).b, .int .i64 (faultF 5).f]) ∧ Below w.heap.size w w' := by
  have HB := Lib.hid fun wx => rById_some byId62 wx
  have HF := Lib.hid fun wx => r2_Fault 5 wx
  generalize faultF 5 = Q at *
  go_enter Tryz.func10, Tryz.ntmps10
  go_wp2_with fail
  refine (HB.out _).mono ?_
  rintro e wA ⟨rfl, hb⟩
  obtain ⟨s9, c9_0, c9_1, c9_2, c9_3, c9_4, c9_5, f9⟩ := L6 hb (w.heap.size) (by first | omega | (simp only [sA, sC, sD, sE]; omega) | (simp; done) | (simp; omega)) (by go_simp; exact ⟨rfl, rfl, rfl, rfl, rfl, rfl⟩) (by intro o; go_simp)
  go_upto_region 2 with (fail)
  first | with_reducible refine wp_rebase ?_ | with_reducible refine wpList_rebase ?_
  intro w1 hb'
  have hb := hb'.out
  clear hb'
  obtain ⟨s10, c10_0, c10_1, c10_2, c10_3, c10_4, c10_5, f10⟩ := L6 hb (w.heap.size) (by first | omega | (simp only [sA, sC, sD, sE]; omega) | (simp; done) | (simp; omega)) (by go_simp; exact ⟨rfl, rfl, rfl, rfl, rfl, rfl⟩) (by intro o; go_simp)
  obtain ⟨s11, c11_0, c11_1, c11_2, c11_3, c11_4, c11_5⟩ := L6r hb (wA.heap.size) (by first | omega | (simp only [sA, sC, sD, sE]; omega) | (simp; done) | (simp; omega)) (by go_simp; exact ⟨rfl, rfl, rfl, rfl, rfl, rfl⟩)
  clear c9_0 c9_1 c9_2 c9_3 c9_4 c9_5 f9
  have HB2 : Hid (Below w.heap.size w w1) := by
    unfold Hid
    focus
      repeat with_reducible first | exact Below.refl _ _ | refine below_drewN ?_ _ | refine Below.drew ?_ | refine Below.setCell ?_ ?_ _ | refine Below.alloc ?_ ?_ _ | refine below_then ?_ ?_ (by with_reducible assumption)
      all_goals first | omega | (simp only [sA, sC, sD, sE]; omega) | (simp; done) | (simp; omega)
  go_wp2
  go_loop [7, 8] (fun sv i => sv = .slice none 0 0 ∧ i = .int .i64 0) (fun _ _ => 0)
  case atStart => exact ⟨rfl, rfl⟩
  case round =>
    obtain ⟨rfl, rfl⟩ := hrel
    go_wp2_with fail
    refine (HF.out _).mono ?_
    rintro e w2 ⟨rfl, hb⟩
    obtain ⟨s12, c12_0, c12_1, c12_2, c12_3, c12_4, c12_5, f12⟩ := L6 hb (w.heap.size) (by first | omega | (simp only [sA, sC, sD, sE]; omega) | (simp; done) | (simp; omega)) (by go_simp; exact ⟨rfl, rfl, rfl, rfl, rfl, rfl⟩) (by intro o; go_simp)
    clear c10_0 c10_1 c10_2 c10_3 c10_4 c10_5 f10 c11_0 c11_1 c11_2 c11_3 c11_4 c11_5
    have hb8 := HB2.out
    go_wp2
    refine bodyPost_ret (v := .agg #[.int .i64 (Q).k, .int .i64 (Q).n, .int .i64 (Q).d, .string (Q).t, .bool (Q).b, .int .i64 (Q).f]) (by simp [results, Tryz.results10, go_sem, c12_0, c12_1, c12_2, c12_3, c12_4, c12_5]) rfl ⟨rfl, ?_⟩
    focus
      repeat with_reducible first | exact Below.refl _ _ | refine below_drewN ?_ _ | refine Below.drew ?_ | refine Below.setCell ?_ ?_ _ | refine Below.alloc ?_ ?_ _ | refine below_then ?_ ?_ (by with_reducible assumption)
      all_goals first | omega | (simp only [sA, sC, sD, sE]; omega) | (simp; done) | (simp; omega)
/-! the table's rows: how many arguments -/
def lmOf (id : Int) : Int × Int := if id = 43 ∨ id = 49 ∨ id = 50 then (1, 2) else if id = 44 ∨ id = 45 ∨ id = 46 ∨ id = 52 ∨ id = 53 then (2, 2) else if id = 51 then (3, 3) else if id = 62 then (0, 0) else (1, 1)
theorem rows_lm : (tableL.all fun S => !(S.cl == 4) || (decide (S.least = (lmOf S.id).1) && decide (S.most = (lmOf S.id).2))) = true := by decide
theorem lm_of {S : SigS} (hm : S ∈ tableL) (hc : S.cl = 4) : S.least = (lmOf S.id).1 ∧ S.most = (lmOf S.id).2 := by
  have := List.all_eq_true.1 rows_lm S hm
  simpa [hc] using this
end Go.Proofs.YtglngfaagjgpjaaGreatDoor
