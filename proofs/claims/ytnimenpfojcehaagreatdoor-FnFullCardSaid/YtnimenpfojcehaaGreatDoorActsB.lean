/- A slice of acts that was handed in: what it holds, and how much. -/
import Derived.Test.YtnimenpfojcehaaGreatDoorValsB
import Derived.Test.YtnimenpfojcehaaGreatDoorHeavyA
namespace Go.Proofs.YtnimenpfojcehaaGreatDoor
open Go Go.ChangeShapes Go.WideShapes Go.RowKit Go.Deep
set_option linter.unusedSimpArgs false
set_option linter.unusedVariables false

theorem acts_cells : Tryz.prog.cellsOf 44 = 7 := by kernel_rfl
theorem acts_bytes : Tryz.prog.bytesOf 44 = 64 := by kernel_rfl
/-- An act's cells. -/
def AcV.cells (x : AcV) : List Value := .int .i64 x.a :: x.v.cells
set_option maxRecDepth 100000 in
/-- One act, from its seven cells. -/
theorem open_act {H : Type} {enc : TypeId × Value → H} {w : World} {base fuel : Nat} {sp : Nat → Bool} {held : Bool} {cs : List Value} {x : DataW H × List MemPlace} (h : DataW.trod enc Tryz.prog w base sp held fuel 44 cs = some x) :
    ∃ a : AcV, cs = a.cells ∧ I64 a.a ∧ I64 a.v.k ∧ I64 a.v.n ∧ I64 a.v.d ∧ I64 a.v.f ∧ (a.v.t.size ≤ maxLen) ∧ a.v.t.size ∈ x.1.weights Tryz.prog 44 := by
  obtain ⟨xs, n, _, rfl, hl, hlen, hf⟩ := DataW.trod_struct Tryz.underlying44 h
  rw [acts_cells] at hl
  match xs, hlen, cs, hl with
  | [y0, y1], _, [v0, v1, v2, v3, v4, v5, v6], _ =>
    have g0 : DataW.trod enc Tryz.prog w base sp held n 3 (([v0, v1, v2, v3, v4, v5, v6].drop 0).take (Tryz.prog.cellsOf 3)) = some y0 := hf 0 _ rfl
    rw [vals_cellsInt] at g0
    simp only [List.drop_succ_cons, List.drop_zero, List.take_succ_cons, List.take_zero] at g0
    have g1 : DataW.trod enc Tryz.prog w base sp held n 33 (([v0, v1, v2, v3, v4, v5, v6].drop 1).take (Tryz.prog.cellsOf 33)) = some y1 := hf 1 _ rfl
    rw [vals_cells] at g1
    simp only [List.drop_succ_cons, List.drop_zero, List.take_succ_cons, List.take_zero] at g1
    obtain ⟨a, e0, rfl, b0⟩ := DataW.trod_int Tryz.underlying3 g0
    obtain ⟨v, e1, i1, i2, i3, i4, i5, i6⟩ := open_val g1
    simp only [List.cons.injEq, and_true] at e0
    subst e0
    refine ⟨⟨a, v⟩, ?_, ⟨(bounds_i64 b0).1, (bounds_i64 b0).2⟩, i1, i2, i3, i4, i5, ?_⟩
    · show _ = _ :: v.cells
      rw [← e1]
    · show v.t.size ∈ _
      unfold DataW.weights
      rw [Tryz.underlying44]
      simp only [DataW.weightsEach, List.map_cons, List.map_nil, List.append_nil]
      first | exact List.mem_append_right _ i6 | (simp [i6]; done) | (simp only [List.mem_append, List.mem_cons]; exact Or.inr i6)
/-- The slice. -/
theorem open_acts {H : Type} {enc : TypeId × Value → H} {W : World} {fuel : Nat} {la : Option Addr} {len cap : Nat} {d : DataW H} {ps : List MemPlace}
    (h : DataW.trod enc Tryz.prog W 0 (fun _ => true) true fuel 41 [.slice la len cap] = some (d, ps)) (hw : (d.weights Tryz.prog 41).all (· ≤ reachBytes) = true) :
    ∃ vs : List AcV, vs.length = len ∧ len * 64 ≤ 140737488351232 ∧ (∀ x ∈ vs, x.v.In) ∧ ActAt W la vs := by
  rcases open_slice Tryz.underlying41 h with ⟨hcs, _⟩ | ⟨a, len', cap', m, n, D, Pl, hcs, _, hl, hm, hmm, hx, hall⟩
  · simp at hcs
    obtain ⟨rfl, rfl, rfl⟩ := hcs
    exact ⟨[], rfl, by decide, fun v hv => (by cases hv), fun h0 => (by simp at h0)⟩
  · simp at hcs
    obtain ⟨rfl, rfl, rfl⟩ := hcs
    simp only [if_true] at hmm
    subst hmm
    simp only [Prod.mk.injEq] at hx
    obtain ⟨rfl, _⟩ := hx
    rw [acts_cells] at hall
    have hwt : ∀ x ∈ (DataW.slice ((List.range len).map D) ((List.range (m - len)).map fun j => D (len + j)) : DataW H).weights Tryz.prog 41, x ≤ reachBytes := by
      intro x hx
      have := List.all_eq_true.1 hw x hx
      simpa using this
    have hb : len * 64 ≤ 140737488351232 := by
      have h1 := hwt (((List.range len).map D).length * 64 + ((List.range (m - len)).map fun j => D (len + j)).length * 64) (by
        unfold DataW.weights
        rw [Tryz.underlying41]
        simp only [acts_bytes, Nat.add_mul]
        exact List.mem_cons_self)
      simp [reachBytes] at h1
      omega
    have key : ∀ i, i < len → ∃ x : AcV, x.v.In ∧ ∀ j, j < 7 → W.cell? (a.add (i * 7 + j)) = x.cells[j]? := by
      intro i hi
      obtain ⟨cs', h1, h2⟩ := hall i (by omega)
      obtain ⟨_, hlen, hcell⟩ := World.cells?_some h1
      obtain ⟨v, rfl, i0, i1, i2, i3, i4, _, hm2⟩ := open_act h2
      refine ⟨v, ⟨i1, i2, i3, i4, ?_⟩, fun j hj => ?_⟩
      · refine hwt _ ?_
        unfold DataW.weights
        rw [Tryz.underlying41]
        exact List.mem_cons_of_mem _ (List.mem_append_left _ (weightsAll_mem (List.mem_map.2 ⟨i, List.mem_range.2 hi, rfl⟩) hm2))
      · have := hcell j hj
        rw [add_add] at this
        exact this
    let U : Nat → AcV := fun i => if h : i < len then (key i h).choose else ⟨0, blankV⟩
    have hU : ∀ i (hi : i < len), (U i).v.In ∧ ∀ j, j < 7 → W.cell? (a.add (i * 7 + j)) = (U i).cells[j]? := fun i hi => by
      have e : U i = (key i hi).choose := by show (if h : i < len then _ else _) = _; rw [dif_pos hi]
      rw [e]
      exact (key i hi).choose_spec
    refine ⟨(List.range len).map U, by simp, hb, ?_, ?_⟩
    · intro v hv
      obtain ⟨i, hi, rfl⟩ := List.mem_map.1 hv
      exact (hU i (List.mem_range.1 hi)).1
    · intro h0
      have h0' : 0 < len := by simpa using h0
      obtain ⟨b, off, spot⟩ := a
      have c00 : W.cell? ((⟨b, off, spot⟩ : Addr).add (0 * 7 + 0)) = some (.int .i64 (U 0).a) := (hU 0 h0').2 0 (by decide)
      have hspot : spot = none := by simpa [Addr.add] using World.cell?_spot c00
      subst hspot
      refine ⟨b, off, rfl, ?_, ?_⟩
      · rw [add_plain] at c00
        exact World.block_lt_of_cell? W _ c00
      · intro i v hv
        rw [List.getElem?_map] at hv
        have hi : i < len := by
          rcases Nat.lt_or_ge i len with h | h
          · exact h
          · rw [List.getElem?_eq_none (by simpa using h)] at hv; cases hv
        rw [List.getElem?_range hi] at hv
        obtain rfl := Option.some.inj hv
        have hc := (hU i hi).2
        have q : ∀ j, j < 7 → W.cell? ⟨b, off + i * 7 + j, none⟩ = (U i).cells[j]? := fun j hj => by
          have := hc j hj
          rw [add_plain, ← Nat.add_assoc] at this
          exact this
        exact ⟨q 0 (by decide), q 1 (by decide), q 2 (by decide), q 3 (by decide), q 4 (by decide), q 5 (by decide), q 6 (by decide)⟩
end Go.Proofs.YtnimenpfojcehaaGreatDoor
