/- FnLeast answers true for every list of numbers and every turn, in every world in which the listed tables lie; no other condition. -/
import Derived.Test.YtangdbjoflnobaaGreatDoorLeastR
import Derived.Test.YtangdbjoflnobaaGreatDoorLeast
import Derived.ProofKit
import Derived.OpenShut
import Derived.LaidMore
import Derived.Lay
import Derived.SevenTiedAt
import Derived.Stop.Joined
import Derived.Deep.SlicePairs
import Derived.Carry
namespace Go.Proofs.YtangdbjoflnobaaGreatDoor
open Go Go.ChangeMaps Go.ChangeShapes Go.WideShapes Go.ChangeAt Go.RowKit Go.Deep
set_option linter.unusedVariables false

theorem own_knob' : ownKnob Tryz.prog.godebug = none := by kernel_rfl
theorem cellsNum : Tryz.prog.cellsOf 33 = 2 := by kernel_rfl
theorem cellsInt : Tryz.prog.cellsOf 3 = 1 := by kernel_rfl
theorem laid_out : laidOutB Tryz.prog = true := by kernel_rfl
set_option maxRecDepth 100000 in
theorem least_lifted (os : Os) (started : os.Started) (H : Type) (enc : TypeId × Value → H) :
    ReturnsInHanded {} Tryz.checked os 5 .any (fun w args => (Rows.fnLeastSpec.pre enc Tryz.prog Tryz.f5 [] false w args ∧ laidMetH Tryz.prog Rows.fnLeastRow.laid w) ∧ sizedMet enc Tryz.prog Tryz.f5 (OpenSpec.ofChange Rows.fnLeastSpec) false w args)
      (Rows.fnLeastSpec.post enc Tryz.prog Tryz.f5 false true false false) := by
  refine returnsInHanded_of_change_and (C := Tryz.checked) (X := fun w _ => laidMetH Tryz.prog Rows.fnLeastRow.laid w) (fun _ _ _ hh h => h.of_heap hh) own_knob' started (by kernel_rfl) Tryz.func5
    (ChangeSpec.witness_shaped (enc := enc) (C := Tryz.checked) (os := os) (X := fun w _ => laidMetH Tryz.prog Rows.fnLeastRow.laid w) false (World.laidAll Tryz.prog os Rows.fnLeastRow.laid) #[.slice none 0 0, .int .i64 0] 8 (World.laidAll_os _ _ _)
      (World.shaped_of_ZipB (by kernel_rfl) (by kernel_rfl)) (by kernel_rfl) (by kernel_rfl) (by kernel_rfl)
      (by rw [MakeChecks.laidMetH_plain _ _ _ (by kernel_rfl)]; exact laidMet_laidAll _ (by kernel_rfl) (by kernel_rfl))) ?_
  intro W base args ds gs before hval0 hW hc _ hL _
  have hval : ∀ (j : Nat) t v, Tryz.f5.params[j]? = some t → args[j]? = some v → Value.okWide Tryz.prog W .any base t v := hval0
  have hW' := hW
  obtain ⟨p, q, hA0, hV, rfl, _, _⟩ := hW
  have hA : DataW.TrodAll enc Tryz.prog W 0 (fun _ => true) true Tryz.f5.params.toList args.toList ds p := hA0
  rw [Tryz.params5] at hA hval
  obtain ⟨v0, v1, d0, d1, p0, p1, rfl, rfl, rfl, h0, h1⟩ := trodAll_two hA
  obtain ⟨rfl, rfl⟩ := trodVars_none hV
  obtain ⟨x, rfl, rfl, rfl, wx⟩ := open_int Tryz.underlying3 (hval 1 3 v1 rfl rfl) h1
  obtain ⟨a0, len, cap, rfl⟩ := okWide_slice Tryz.underlying39 (hval 0 39 v0 rfl rfl)
  have h0k := h0
  obtain ⟨fuel, hf⟩ := h0
  have hlt : ∀ y ∈ p0, y.block < W.heap.size := fun y hy => by simpa using hW'.lt y (by simp [hy])
  have hx64 : I64 x := by
    have := bounds_i64 wx
    exact ⟨this.1, this.2⟩
  have fin : ∀ e W', (e = Ending.returned (.bool true) ∧ Below W.heap.size W W') → ∃ v, e = Ending.returned v ∧ Rows.fnLeastSpec.post enc Tryz.checked.prog Tryz.f5 false true false false W #[.slice a0 len cap, .int .i64 x] v W' := by
    rintro e W' ⟨rfl, hb⟩
    have e1 : Rows.fnLeastSpec.fn H ([d0, .lit (.int .i64 x)] ++ []) = { results := [.lit (.bool true)], args := [d0, .lit (.int .i64 x)] } := rfl
    refine ⟨_, rfl, _, _, _, [], p0, [], hW', ?_, ?_, ?_, hb.frame _, fun h => by cases h⟩
    · rw [e1]; exact trodAll_mk1 (shut_bool Tryz.underlying4 true)
    · rw [e1]
      have := trodAll_mk2 (Below.trod laid_out (by kernel_rfl) (of_decide_eq_true (by kernel_rfl)) h0k hb hlt) (show DataW.Trod enc Tryz.prog W' 0 (fun b => decide (b < W.heap.size)) true 3 (.int .i64 x) (.lit (.int .i64 x)) [] from shut_int Tryz.underlying3 wx)
      rw [List.append_nil] at this
      exact this
    · rw [e1]; rfl
  rcases open_slice_pairs Tryz.underlying39 Tryz.underlying33 cellsNum rfl rfl cellsInt cellsInt hf with ⟨hcs, hx⟩ | ⟨a, len', cap', m, n', V0, V1, D0, D1, P0, P1, hcs, _, hl, hm, hmm, hx, hall⟩
  · simp [Value.cells] at hcs
    obtain ⟨rfl, rfl, rfl⟩ := hcs
    exact (law_FnLeast_nil none 0 x W).mono fin
  · simp [Value.cells] at hcs
    obtain ⟨rfl, rfl, rfl⟩ := hcs
    simp only [if_true] at hmm
    subst hmm
    by_cases hl0 : len = 0
    · subst hl0
      exact (law_FnLeast_nil (some a) m x W).mono fin
    · obtain ⟨b, off, spot⟩ := a
      have hspot : spot = none := by simpa [Addr.add] using World.cell?_spot (hall 0 (by omega)).1
      subst hspot
      have key : ∀ i, i < m → ∃ u v : Int, W.cell? ⟨b, off + i * 2, none⟩ = some (.int .i64 u) ∧ W.cell? ⟨b, off + i * 2 + 1, none⟩ = some (.int .i64 v) ∧ I64 u ∧ I64 v := fun i hi => by
        obtain ⟨k0, k1, t0, t1⟩ := hall i hi
        obtain ⟨u, e0, _, w0⟩ := DataW.trod_int Tryz.underlying3 t0
        obtain ⟨v, e1, _, w1⟩ := DataW.trod_int Tryz.underlying3 t1
        simp only [List.cons.injEq, and_true] at e0 e1
        rw [e0, add_plain] at k0
        rw [e1, add_plain] at k1
        have i0 := bounds_i64 w0
        have i1 := bounds_i64 w1
        exact ⟨u, v, k0, by rw [← Nat.add_assoc] at k1; exact k1, ⟨i0.1, i0.2⟩, ⟨i1.1, i1.2⟩⟩
      have hbW : b < W.heap.size := by
        have := (key 0 (by omega))
        obtain ⟨u, v, k0, _⟩ := this
        exact World.block_lt_of_cell? W _ k0
      let U : Nat → Nm := fun i => if h : i < m then ⟨(key i h).choose, (key i h).choose_spec.choose⟩ else ⟨0, 1⟩
      have hU : ∀ i, i < m → W.cell? ⟨b, off + i * 2, none⟩ = some (.int .i64 (U i).n) ∧ W.cell? ⟨b, off + i * 2 + 1, none⟩ = some (.int .i64 (U i).d) ∧ I64 (U i).n ∧ I64 (U i).d := fun i hi => by
        have e : U i = ⟨(key i hi).choose, (key i hi).choose_spec.choose⟩ := by show (if h : i < m then _ else _) = _; rw [dif_pos hi]
        rw [e]
        exact (key i hi).choose_spec.choose_spec
      have hlen : ((List.range len).map U).length = len := by simp
      have hW0 := law_FnLeast0 ((List.range len).map U) b off m x W hbW (by rw [hlen]; unfold maxLen at hm; omega) hx64
        (fun y hy => by
          obtain ⟨i, hi, rfl⟩ := List.mem_map.1 hy
          exact (hU i (by have := List.mem_range.1 hi; omega)).2.2)
        (fun i y hy => by
          rw [List.getElem?_map] at hy
          have hi : i < len := by
            rcases Nat.lt_or_ge i len with h | h
            · exact h
            · rw [List.getElem?_eq_none (by simpa using h)] at hy; cases hy
          rw [List.getElem?_range hi] at hy
          obtain rfl := Option.some.inj hy
          exact ⟨(hU i (by omega)).1, (hU i (by omega)).2.1⟩)
      rw [hlen] at hW0
      exact hW0.mono fin

theorem least_holds : Rows.FnLeastSaid :=
  OpenClaim.holds_of_wide 5 Tryz.f5 rfl rfl rfl rfl rfl rfl rfl ⟨rfl, rfl, rfl, rfl, rfl⟩ rfl rfl rfl rfl rfl least_named Tryz.func5 least_joined least_inst least_wrap
    (fun os started H enc _ => least_lifted os started H enc)
theorem least_card : Rows.FnLeastCardSaid :=
  Claim7.holds_tied_plain_at .later [] Rows.fnLeastCard.laidKinds true Rows.fnLeastCard.stood.harness false least_holds (fun _ h => by cases h) least_wf (fun _ h => by cases h) fnLeast_row_tie rfl ⟨rfl, rfl⟩ least_main rfl
    (fun f fn hf hfn => by
      obtain rfl : f = 5 := Option.some.inj (least_named.symm.trans hf) |>.symm
      obtain rfl : fn = Tryz.f5 := (Option.some.inj (Tryz.func5.symm.trans hfn)).symm
      exact ⟨least_looks, fun j t ht => by
        rw [Tryz.params5] at ht
        have hm : t ∈ [39, 3] := by simpa using Array.mem_of_getElem? ht
        exact (show Tryz.prog.wantsStandIn t = false by simpa using List.all_eq_true.1 least_stand t hm)⟩)
    least_goes
#print axioms least_card
end Go.Proofs.YtangdbjoflnobaaGreatDoor
