/- FnSums answers true for every list of numbers, in every world in which the listed tables lie; no other condition. -/
import Derived.Test.YtangdbjoflnobaaGreatDoorSumsR
import Derived.Test.YtangdbjoflnobaaGreatDoorSums
import Derived.ProofKit
import Derived.OpenShut
import Derived.LaidMore
import Derived.Lay
import Derived.SevenTiedAt
import Derived.Stop.Joined
import Derived.Deep.SlicePairs
import Derived.Carry
namespace Go.Proofs.YtangdbjoflnobaaGreatDoor
open Go Go.ChangeMaps Go.ChangeShapes Go.WideShapes Go.ChangeAt Go.RowKit Go.Deep
set_option linter.unusedVariables false

theorem sums_knob : ownKnob Tryz.prog.godebug = none := by kernel_rfl
theorem sums_cellsNum : Tryz.prog.cellsOf 33 = 2 := by kernel_rfl
theorem sums_cellsInt : Tryz.prog.cellsOf 3 = 1 := by kernel_rfl
theorem sums_laid_out : laidOutB Tryz.prog = true := by kernel_rfl
set_option maxRecDepth 100000 in
theorem sums_lifted (os : Os) (started : os.Started) (H : Type) (enc : TypeId × Value → H) :
    ReturnsInHanded {} Tryz.checked os 9 .any (fun w args => (Rows.fnSumsSpec.pre enc Tryz.prog Tryz.f9 [] false w args ∧ laidMetH Tryz.prog Rows.fnSumsRow.laid w) ∧ sizedMet enc Tryz.prog Tryz.f9 (OpenSpec.ofChange Rows.fnSumsSpec) false w args)
      (Rows.fnSumsSpec.post enc Tryz.prog Tryz.f9 false true false false) := by
  refine returnsInHanded_of_change_and (C := Tryz.checked) (X := fun w _ => laidMetH Tryz.prog Rows.fnSumsRow.laid w) (fun _ _ _ hh h => h.of_heap hh) sums_knob started (by kernel_rfl) Tryz.func9
    (ChangeSpec.witness_shaped (enc := enc) (C := Tryz.checked) (os := os) (X := fun w _ => laidMetH Tryz.prog Rows.fnSumsRow.laid w) false (World.laidAll Tryz.prog os Rows.fnSumsRow.laid) #[.slice none 0 0] 8 (World.laidAll_os _ _ _)
      (World.shaped_of_ZipB (by kernel_rfl) (by kernel_rfl)) (by kernel_rfl) (by kernel_rfl) (by kernel_rfl)
      (by rw [MakeChecks.laidMetH_plain _ _ _ (by kernel_rfl)]; exact laidMet_laidAll _ (by kernel_rfl) (by kernel_rfl))) ?_
  intro W base args ds gs before hval0 hW hc _ hL _
  have hval : ∀ (j : Nat) t v, Tryz.f9.params[j]? = some t → args[j]? = some v → Value.okWide Tryz.prog W .any base t v := hval0
  have hW' := hW
  obtain ⟨p, q, hA0, hV, rfl, _, _⟩ := hW
  have hA : DataW.TrodAll enc Tryz.prog W 0 (fun _ => true) true Tryz.f9.params.toList args.toList ds p := hA0
  rw [Tryz.params9] at hA hval
  obtain ⟨v0, d0, rfl, rfl, h0⟩ := trodAll_one hA
  obtain ⟨rfl, rfl⟩ := trodVars_none hV
  obtain ⟨a0, len, cap, rfl⟩ := okWide_slice Tryz.underlying39 (hval 0 39 v0 rfl rfl)
  have h0k := h0
  obtain ⟨fuel, hf⟩ := h0
  have hlt : ∀ y ∈ p, y.block < W.heap.size := fun y hy => by simpa using hW'.lt y (by simp [hy])
  have fin : ∀ e W', (e = Ending.returned (.bool true) ∧ Below W.heap.size W W') → ∃ v, e = Ending.returned v ∧ Rows.fnSumsSpec.post enc Tryz.checked.prog Tryz.f9 false true false false W #[.slice a0 len cap] v W' := by
    rintro e W' ⟨rfl, hb⟩
    have e1 : Rows.fnSumsSpec.fn H ([d0] ++ []) = { results := [.lit (.bool true)], args := [d0] } := rfl
    refine ⟨_, rfl, _, _, _, [], p, [], hW', ?_, ?_, ?_, hb.frame _, fun h => by cases h⟩
    · rw [e1]; exact trodAll_mk1 (shut_bool Tryz.underlying4 true)
    · rw [e1]
      exact trodAll_mk1 (Below.trod sums_laid_out (by kernel_rfl) (of_decide_eq_true (by kernel_rfl)) h0k hb hlt)
    · rw [e1]; rfl
  rcases open_slice_pairs Tryz.underlying39 Tryz.underlying33 sums_cellsNum rfl rfl sums_cellsInt sums_cellsInt hf with ⟨hcs, hx⟩ | ⟨a, len', cap', m, n', V0, V1, D0, D1, P0, P1, hcs, _, hl, hm, hmm, hx, hall⟩
  · simp [Value.cells] at hcs
    obtain ⟨rfl, rfl, rfl⟩ := hcs
    exact (law_FnSums0 [] none 0 W (by simp) (fun x hx => by cases hx) (fun h => by simp at h)).mono fin
  · simp [Value.cells] at hcs
    obtain ⟨rfl, rfl, rfl⟩ := hcs
    simp only [if_true] at hmm
    subst hmm
    by_cases hl0 : len = 0
    · subst hl0
      exact (law_FnSums0 [] (some a) m W (by simp) (fun x hx => by cases hx) (fun h => by simp at h)).mono fin
    · obtain ⟨b, off, spot⟩ := a
      have hspot : spot = none := by simpa [Addr.add] using World.cell?_spot (hall 0 (by omega)).1
      subst hspot
      have key : ∀ i, i < m → ∃ u v : Int, W.cell? ⟨b, off + i * 2, none⟩ = some (.int .i64 u) ∧ W.cell? ⟨b, off + i * 2 + 1, none⟩ = some (.int .i64 v) ∧ I64 u ∧ I64 v := fun i hi => by
        obtain ⟨k0, k1, t0, t1⟩ := hall i hi
        obtain ⟨u, e0, _, w0⟩ := DataW.trod_int Tryz.underlying3 t0
        obtain ⟨v, e1, _, w1⟩ := DataW.trod_int Tryz.underlying3 t1
        simp only [List.cons.injEq, and_true] at e0 e1
        rw [e0, add_plain] at k0
        rw [e1, add_plain] at k1
        have i0 := bounds_i64 w0
        have i1 := bounds_i64 w1
        exact ⟨u, v, k0, by rw [← Nat.add_assoc] at k1; exact k1, ⟨i0.1, i0.2⟩, ⟨i1.1, i1.2⟩⟩
      have hbW : b < W.heap.size := by
        have := (key 0 (by omega))
        obtain ⟨u, v, k0, _⟩ := this
        exact World.block_lt_of_cell? W _ k0
      let U : Nat → Nm := fun i => if h : i < m then ⟨(key i h).choose, (key i h).choose_spec.choose⟩ else ⟨0, 1⟩
      have hU : ∀ i, i < m → W.cell? ⟨b, off + i * 2, none⟩ = some (.int .i64 (U i).n) ∧ W.cell? ⟨b, off + i * 2 + 1, none⟩ = some (.int .i64 (U i).d) ∧ I64 (U i).n ∧ I64 (U i).d := fun i hi => by
        have e : U i = ⟨(key i hi).choose, (key i hi).choose_spec.choose⟩ := by show (if h : i < m then _ else _) = _; rw [dif_pos hi]
        rw [e]
        exact (key i hi).choose_spec.choose_spec
      have hlen : ((List.range len).map U).length = len := by simp
      have hW0 := law_FnSums0 ((List.range len).map U) (some ⟨b, off, none⟩) m W (by rw [hlen]; unfold maxLen at hm; omega)
        (fun y hy => by
          obtain ⟨i, hi, rfl⟩ := List.mem_map.1 hy
          exact (hU i (by have := List.mem_range.1 hi; omega)).2.2)
        (fun _ => ⟨b, off, rfl, hbW, fun i y hy => by
          rw [List.getElem?_map] at hy
          have hi : i < len := by
            rcases Nat.lt_or_ge i len with h | h
            · exact h
            · rw [List.getElem?_eq_none (by simpa using h)] at hy; cases hy
          rw [List.getElem?_range hi] at hy
          obtain rfl := Option.some.inj hy
          exact ⟨(hU i (by omega)).1, (hU i (by omega)).2.1⟩⟩)
      rw [hlen] at hW0
      exact hW0.mono fin

theorem sums_holds : Rows.FnSumsSaid :=
  OpenClaim.holds_of_wide 9 Tryz.f9 rfl rfl rfl rfl rfl rfl rfl ⟨rfl, rfl, rfl, rfl, rfl⟩ rfl rfl rfl rfl rfl sums_named Tryz.func9 sums_joined sums_inst sums_wrap
    (fun os started H enc _ => sums_lifted os started H enc)
theorem sums_card : Rows.FnSumsCardSaid :=
  Claim7.holds_tied_plain_at .later [] Rows.fnSumsCard.laidKinds true Rows.fnSumsCard.stood.harness false sums_holds (fun _ h => by cases h) sums_wf (fun _ h => by cases h) fnSums_row_tie rfl ⟨rfl, rfl⟩ sums_main rfl
    (fun f fn hf hfn => by
      obtain rfl : f = 9 := Option.some.inj (sums_named.symm.trans hf) |>.symm
      obtain rfl : fn = Tryz.f9 := (Option.some.inj (Tryz.func9.symm.trans hfn)).symm
      exact ⟨sums_looks, fun j t ht => by
        rw [Tryz.params9] at ht
        have hm : t ∈ [39] := by simpa using Array.mem_of_getElem? ht
        exact (show Tryz.prog.wantsStandIn t = false by simpa using List.all_eq_true.1 sums_stand t hm)⟩)
    sums_goes
#print axioms sums_card
end Go.Proofs.YtangdbjoflnobaaGreatDoor
