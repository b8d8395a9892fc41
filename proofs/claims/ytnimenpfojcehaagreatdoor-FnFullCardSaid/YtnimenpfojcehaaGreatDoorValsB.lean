/- A slice of values that was handed in: what it holds, and how much. -/
import Derived.Test.YtnimenpfojcehaaGreatDoorBx1
import Derived.Test.YtnimenpfojcehaaGreatDoorBx5
import Derived.ProofKit
import Derived.OpenShut
import Derived.Deep.SlicePairs
import Derived.Handed
namespace Go.Proofs.YtnimenpfojcehaaGreatDoor
open Go Go.ChangeShapes Go.WideShapes Go.RowKit Go.Deep
set_option linter.unusedSimpArgs false
set_option linter.unusedVariables false

theorem vals_cells : Tryz.prog.cellsOf 33 = 6 := by kernel_rfl
theorem vals_cellsNum : Tryz.prog.cellsOf 31 = 2 := by kernel_rfl
theorem vals_cellsInt : Tryz.prog.cellsOf 3 = 1 := by kernel_rfl
theorem vals_cellsStr : Tryz.prog.cellsOf 9 = 1 := by kernel_rfl
theorem vals_cellsBool : Tryz.prog.cellsOf 4 = 1 := by kernel_rfl
theorem vals_bytes : Tryz.prog.bytesOf 33 = 56 := by kernel_rfl

set_option maxRecDepth 100000 in
/-- One value, from its six cells. -/
theorem open_val {H : Type} {enc : TypeId × Value → H} {w : World} {base fuel : Nat} {sp : Nat → Bool} {held : Bool} {cs : List Value} {x : DataW H × List MemPlace} (h : DataW.trod enc Tryz.prog w base sp held fuel 33 cs = some x) :
    ∃ v : Vl, cs = v.cells ∧ I64 v.k ∧ I64 v.n ∧ I64 v.d ∧ I64 v.f ∧ (v.t.size ≤ maxLen) ∧ v.t.size ∈ x.1.weights Tryz.prog 33 := by
  obtain ⟨xs, n, _, rfl, hl, hlen, hf⟩ := DataW.trod_struct Tryz.underlying33 h
  rw [vals_cells] at hl
  match xs, hlen, cs, hl with
  | [y0, y1, y2, y3, y4], _, [v0, v1, v2, v3, v4, v5], _ =>
    have g0 : DataW.trod enc Tryz.prog w base sp held n 3 (([v0, v1, v2, v3, v4, v5].drop 0).take (Tryz.prog.cellsOf 3)) = some y0 := hf 0 _ rfl
    rw [vals_cellsInt] at g0
    simp only [List.drop_succ_cons, List.drop_zero, List.take_succ_cons, List.take_zero] at g0
    have g1 : DataW.trod enc Tryz.prog w base sp held n 31 (([v0, v1, v2, v3, v4, v5].drop 1).take (Tryz.prog.cellsOf 31)) = some y1 := hf 1 _ rfl
    rw [vals_cellsNum] at g1
    simp only [List.drop_succ_cons, List.drop_zero, List.take_succ_cons, List.take_zero] at g1
    have g2 : DataW.trod enc Tryz.prog w base sp held n 9 (([v0, v1, v2, v3, v4, v5].drop 3).take (Tryz.prog.cellsOf 9)) = some y2 := hf 2 _ rfl
    rw [vals_cellsStr] at g2
    simp only [List.drop_succ_cons, List.drop_zero, List.take_succ_cons, List.take_zero] at g2
    have g3 : DataW.trod enc Tryz.prog w base sp held n 4 (([v0, v1, v2, v3, v4, v5].drop 4).take (Tryz.prog.cellsOf 4)) = some y3 := hf 3 _ rfl
    rw [vals_cellsBool] at g3
    simp only [List.drop_succ_cons, List.drop_zero, List.take_succ_cons, List.take_zero] at g3
    have g4 : DataW.trod enc Tryz.prog w base sp held n 3 (([v0, v1, v2, v3, v4, v5].drop 5).take (Tryz.prog.cellsOf 3)) = some y4 := hf 4 _ rfl
    rw [vals_cellsInt] at g4
    simp only [List.drop_succ_cons, List.drop_zero, List.take_succ_cons, List.take_zero] at g4
    obtain ⟨a, e0, rfl, b0⟩ := DataW.trod_int Tryz.underlying3 g0
    obtain ⟨s, e2, rfl, b2⟩ := DataW.trod_string Tryz.underlying9 g2
    obtain ⟨t, e3, rfl⟩ := DataW.trod_bool Tryz.underlying4 g3
    obtain ⟨f, e4, rfl, b4⟩ := DataW.trod_int Tryz.underlying3 g4
    obtain ⟨z0, z1, n', rfl, _, k0, k1⟩ := trod_struct2 Tryz.underlying31 g1
    change DataW.trod enc Tryz.prog w base sp held n' 3 (([v1, v2].drop 0).take (Tryz.prog.cellsOf 3)) = some z0 at k0
    change DataW.trod enc Tryz.prog w base sp held n' 3 (([v1, v2].drop 1).take (Tryz.prog.cellsOf 3)) = some z1 at k1
    rw [vals_cellsInt] at k0 k1
    simp only [List.drop_succ_cons, List.drop_zero, List.take_succ_cons, List.take_zero] at k0 k1
    obtain ⟨p, e5, rfl, b5⟩ := DataW.trod_int Tryz.underlying3 k0
    obtain ⟨q, e6, rfl, b6⟩ := DataW.trod_int Tryz.underlying3 k1
    simp only [List.cons.injEq, and_true] at e0 e2 e3 e4 e5 e6
    subst e0; subst e2; subst e3; subst e4; subst e5; subst e6
    have h0 := bounds_i64 b0
    have h4 := bounds_i64 b4
    have h5 := bounds_i64 b5
    have h6 := bounds_i64 b6
    refine ⟨⟨a, p, q, s, t, f⟩, rfl, ⟨h0.1, h0.2⟩, ⟨h5.1, h5.2⟩, ⟨h6.1, h6.2⟩, ⟨h4.1, h4.2⟩, b2, ?_⟩
    have e2 : s.size = s.data.toList.length := Array.length_toList.symm
    show s.size ∈ _
    rw [e2]
    simp [DataW.weights, DataW.weightsEach, Tryz.underlying33, Tryz.underlying31]

theorem weightsAll_mem {H : Type} {P : Program} {e : TypeId} {n : Nat} : ∀ {l : List (DataW H)} {x : DataW H}, x ∈ l → n ∈ x.weights P e → n ∈ DataW.weightsAll P e l
  | [], _, h, _ => by cases h
  | y :: r, x, h, hn => by
    unfold DataW.weightsAll
    rcases List.mem_cons.1 h with rfl | h
    · exact List.mem_append_left _ hn
    · exact List.mem_append_right _ (weightsAll_mem h hn)

/-- The slice. -/
theorem open_vals56 {H : Type} {enc : TypeId × Value → H} {W : World} {fuel : Nat} {la : Option Addr} {len cap : Nat} {d : DataW H} {ps : List MemPlace}
    (h : DataW.trod enc Tryz.prog W 0 (fun _ => true) true fuel 22 [.slice la len cap] = some (d, ps)) (hw : (d.weights Tryz.prog 22).all (· ≤ reachBytes) = true) :
    ∃ vs : List Vl, vs.length = len ∧ len * 56 ≤ 140737488351232 ∧ (∀ v ∈ vs, v.In) ∧ ValAt W la vs := by
  rcases open_slice Tryz.underlying22 h with ⟨hcs, _⟩ | ⟨a, len', cap', m, n, D, Pl, hcs, _, hl, hm, hmm, hx, hall⟩
  · simp at hcs
    obtain ⟨rfl, rfl, rfl⟩ := hcs
    exact ⟨[], rfl, by decide, fun v hv => (by cases hv), fun h0 => (by simp at h0)⟩
  · simp at hcs
    obtain ⟨rfl, rfl, rfl⟩ := hcs
    simp only [if_true] at hmm
    subst hmm
    simp only [Prod.mk.injEq] at hx
    obtain ⟨rfl, _⟩ := hx
    rw [vals_cells] at hall
    have hwt : ∀ x ∈ (DataW.slice ((List.range len).map D) ((List.range (m - len)).map fun j => D (len + j)) : DataW H).weights Tryz.prog 22, x ≤ reachBytes := by
      intro x hx
      have := List.all_eq_true.1 hw x hx
      simpa using this
    have hb : len * 56 ≤ 140737488351232 := by
      have h1 := hwt (((List.range len).map D).length * 56 + ((List.range (m - len)).map fun j => D (len + j)).length * 56) (by
        unfold DataW.weights
        rw [Tryz.underlying22]
        simp only [vals_bytes, Nat.add_mul]
        exact List.mem_cons_self)
      simp [reachBytes] at h1
      omega
    have key : ∀ i, i < len → ∃ v : Vl, v.In ∧ ∀ j, j < 6 → W.cell? (a.add (i * 6 + j)) = v.cells[j]? := by
      intro i hi
      obtain ⟨cs', h1, h2⟩ := hall i (by omega)
      obtain ⟨_, hlen, hcell⟩ := World.cells?_some h1
      obtain ⟨v, rfl, i1, i2, i3, i4, _, hm2⟩ := open_val h2
      refine ⟨v, ⟨i1, i2, i3, i4, ?_⟩, fun j hj => ?_⟩
      · refine hwt _ ?_
        unfold DataW.weights
        rw [Tryz.underlying22]
        exact List.mem_cons_of_mem _ (List.mem_append_left _ (weightsAll_mem (List.mem_map.2 ⟨i, List.mem_range.2 hi, rfl⟩) hm2))
      · have := hcell j hj
        rw [add_add] at this
        exact this
    let U : Nat → Vl := fun i => if h : i < len then (key i h).choose else blankV
    have hU : ∀ i (hi : i < len), (U i).In ∧ ∀ j, j < 6 → W.cell? (a.add (i * 6 + j)) = (U i).cells[j]? := fun i hi => by
      have e : U i = (key i hi).choose := by show (if h : i < len then _ else _) = _; rw [dif_pos hi]
      rw [e]
      exact (key i hi).choose_spec
    refine ⟨(List.range len).map U, by simp, hb, ?_, ?_⟩
    · intro v hv
      obtain ⟨i, hi, rfl⟩ := List.mem_map.1 hv
      exact (hU i (List.mem_range.1 hi)).1
    · intro h0
      have h0' : 0 < len := by simpa using h0
      obtain ⟨b, off, spot⟩ := a
      have c00 : W.cell? ((⟨b, off, spot⟩ : Addr).add (0 * 6 + 0)) = some (.int .i64 (U 0).k) := (hU 0 h0').2 0 (by decide)
      have hspot : spot = none := by simpa [Addr.add] using World.cell?_spot c00
      subst hspot
      refine ⟨b, off, rfl, ?_, ?_⟩
      · rw [add_plain] at c00
        exact World.block_lt_of_cell? W _ c00
      · intro i v hv
        rw [List.getElem?_map] at hv
        have hi : i < len := by
          rcases Nat.lt_or_ge i len with h | h
          · exact h
          · rw [List.getElem?_eq_none (by simpa using h)] at hv; cases hv
        rw [List.getElem?_range hi] at hv
        obtain rfl := Option.some.inj hv
        have hc := (hU i hi).2
        have q : ∀ j, j < 6 → W.cell? ⟨b, off + i * 6 + j, none⟩ = (U i).cells[j]? := fun j hj => by
          have := hc j hj
          rw [add_plain, ← Nat.add_assoc] at this
          exact this
        exact ⟨q 0 (by decide), q 1 (by decide), q 2 (by decide), q 3 (by decide), q 4 (by decide), q 5 (by decide)⟩
end Go.Proofs.YtnimenpfojcehaaGreatDoor
