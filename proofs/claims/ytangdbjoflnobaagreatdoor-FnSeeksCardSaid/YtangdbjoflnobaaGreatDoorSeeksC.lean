/- FnSeeks answers true for every needle and every two lists of values, in every world in which the listed tables lie; no other condition. -/
import Derived.Test.YtangdbjoflnobaaGreatDoorSeeksR
import Derived.Test.YtangdbjoflnobaaGreatDoorSeeks
import Derived.Test.YtangdbjoflnobaaGreatDoorValsB
import Derived.ProofKit
import Derived.OpenShut
import Derived.LaidMore
import Derived.Lay
import Derived.SevenTiedAt
import Derived.Stop.Joined
import Derived.Deep.SlicePairs
import Derived.Carry
import Derived.Handed
namespace Go.Proofs.YtangdbjoflnobaaGreatDoor
open Go Go.ChangeMaps Go.ChangeShapes Go.WideShapes Go.ChangeAt Go.RowKit Go.Deep
set_option linter.unusedVariables false

theorem seeks_knob : ownKnob Tryz.prog.godebug = none := by kernel_rfl
theorem seeks_laid_out : laidOutB Tryz.prog = true := by kernel_rfl
set_option maxRecDepth 100000 in
theorem seeks_lifted (os : Os) (started : os.Started) (H : Type) (enc : TypeId × Value → H) :
    ReturnsInHanded {} Tryz.checked os 12 .any (fun w args => (Rows.fnSeeksSpec.pre enc Tryz.prog Tryz.f12 [] false w args ∧ laidMetH Tryz.prog Rows.fnSeeksRow.laid w) ∧ sizedMet enc Tryz.prog Tryz.f12 (OpenSpec.ofChange Rows.fnSeeksSpec) false w args)
      (Rows.fnSeeksSpec.post enc Tryz.prog Tryz.f12 false true false false) := by
  refine returnsInHanded_of_change_and (C := Tryz.checked) (X := fun w _ => laidMetH Tryz.prog Rows.fnSeeksRow.laid w) (fun _ _ _ hh h => h.of_heap hh) seeks_knob started (by kernel_rfl) Tryz.func12
    (ChangeSpec.witness_shaped (enc := enc) (C := Tryz.checked) (os := os) (X := fun w _ => laidMetH Tryz.prog Rows.fnSeeksRow.laid w) false (World.laidAll Tryz.prog os Rows.fnSeeksRow.laid) #[.agg #[.int .i64 0, .int .i64 0, .int .i64 0, .string ⟨#[]⟩, .bool false, .int .i64 0], .slice none 0 0, .slice none 0 0] 8 (World.laidAll_os _ _ _)
      (World.shaped_of_ZipB (by kernel_rfl) (by kernel_rfl)) (by kernel_rfl) (by kernel_rfl) (by kernel_rfl)
      (by rw [MakeChecks.laidMetH_plain _ _ _ (by kernel_rfl)]; exact laidMet_laidAll _ (by kernel_rfl) (by kernel_rfl))) ?_
  intro W base args ds gs before hval0 hW hc hwt0 hL _
  have hval : ∀ (j : Nat) t v, Tryz.f12.params[j]? = some t → args[j]? = some v → Value.okWide Tryz.prog W .any base t v := hval0
  have hW' := hW
  obtain ⟨p, q, hA0, hV, rfl, _, _⟩ := hW
  have hA : DataW.TrodAll enc Tryz.prog W 0 (fun _ => true) true Tryz.f12.params.toList args.toList ds p := hA0
  rw [Tryz.params12] at hA hval
  have hwt : (DataW.weightsEach Tryz.prog (Tryz.f12.params.toList ++ _) (ds ++ gs)).all (· ≤ reachBytes) = true := hwt0
  rw [Tryz.params12] at hwt
  obtain ⟨v0, v1, v2, d0, d1, d2, p0, p1, p2, rfl, rfl, rfl, h0, h1, h2⟩ := trodAll_three hA
  obtain ⟨rfl, rfl⟩ := trodVars_none hV
  obtain ⟨cs, rfl, hcs⟩ := okWide_struct Tryz.underlying35 (hval 0 35 v0 rfl rfl)
  obtain ⟨a1, len1, cap1, rfl⟩ := okWide_slice Tryz.underlying31 (hval 1 31 v1 rfl rfl)
  obtain ⟨a2, len2, cap2, rfl⟩ := okWide_slice Tryz.underlying31 (hval 2 31 v2 rfl rfl)
  have h0k := h0
  have h1k := h1
  have h2k := h2
  obtain ⟨fuel0, hf0⟩ := h0
  obtain ⟨fuel1, hf1⟩ := h1
  obtain ⟨fuel2, hf2⟩ := h2
  have hlt0 : ∀ y ∈ p0, y.block < W.heap.size := fun y hy => by simpa using hW'.lt y (by simp [hy])
  have hlt1 : ∀ y ∈ p1, y.block < W.heap.size := fun y hy => by simpa using hW'.lt y (by simp [hy])
  have hlt2 : ∀ y ∈ p2, y.block < W.heap.size := fun y hy => by simpa using hW'.lt y (by simp [hy])
  have hw3 := hwt
  simp only [List.cons_append, List.nil_append, DataW.weightsEach, List.all_append, Bool.and_eq_true] at hw3
  obtain ⟨vs, n1, b1, i1, c1⟩ := open_vals (by simpa [Value.cells] using hf1) hw3.2.1
  obtain ⟨us, n2, b2, i2, c2⟩ := open_vals (by simpa [Value.cells] using hf2) hw3.2.2.1
  have hf0' : DataW.trod enc Tryz.prog W 0 (fun _ => true) true fuel0 35 cs.toList = some (d0, p0) := by simpa [Value.cells] using hf0
  obtain ⟨nd, hnd, j1, j2, j3, j4, _, hm⟩ := open_val hf0'
  have hin : nd.In := ⟨j1, j2, j3, j4, by
    have h5 := List.all_eq_true.1 hw3.1 _ hm
    simp [reachBytes] at h5
    exact of_decide_eq_true h5⟩
  have hcs2 : cs = nd.cells.toArray := by rw [← hnd]
  subst hcs2
  refine (law_FnSeeks0 nd vs us a1 a2 cap1 cap2 len1 len2 W n1 n2 b1 b2 hin i1 i2 c1 c2).mono ?_
  rintro e W' ⟨rfl, hb⟩
  have e1 : Rows.fnSeeksSpec.fn H ([d0, d1, d2] ++ []) = { results := [.lit (.bool true)], args := [d0, d1, d2] } := rfl
  refine ⟨_, rfl, _, _, _, [], p0 ++ (p1 ++ p2), [], hW', ?_, ?_, ?_, hb.frame _, fun h => by cases h⟩
  · rw [e1]; exact trodAll_mk1 (shut_bool Tryz.underlying4 true)
  · rw [e1]
    exact trodAll_mk3 (Below.trod seeks_laid_out (by kernel_rfl) (of_decide_eq_true (by kernel_rfl)) h0k hb hlt0) (Below.trod seeks_laid_out (by kernel_rfl) (of_decide_eq_true (by kernel_rfl)) h1k hb hlt1) (Below.trod seeks_laid_out (by kernel_rfl) (of_decide_eq_true (by kernel_rfl)) h2k hb hlt2)
  · rw [e1]; rfl

theorem seeks_holds : Rows.FnSeeksSaid :=
  OpenClaim.holds_of_wide 12 Tryz.f12 rfl rfl rfl rfl rfl rfl rfl ⟨rfl, rfl, rfl, rfl, rfl⟩ rfl rfl rfl rfl rfl seeks_named Tryz.func12 seeks_joined seeks_inst seeks_wrap
    (fun os started H enc _ => seeks_lifted os started H enc)
theorem seeks_card : Rows.FnSeeksCardSaid :=
  Claim7.holds_tied_plain_at .later [] Rows.fnSeeksCard.laidKinds true Rows.fnSeeksCard.stood.harness false seeks_holds (fun _ h => by cases h) seeks_wf (fun _ h => by cases h) fnSeeks_row_tie rfl ⟨rfl, rfl⟩ seeks_main rfl
    (fun f fn hf hfn => by
      obtain rfl : f = 12 := Option.some.inj (seeks_named.symm.trans hf) |>.symm
      obtain rfl : fn = Tryz.f12 := (Option.some.inj (Tryz.func12.symm.trans hfn)).symm
      exact ⟨seeks_looks, fun j t ht => by
        rw [Tryz.params12] at ht
        have hm : t ∈ [35, 31] := by simpa using Array.mem_of_getElem? ht
        exact (show Tryz.prog.wantsStandIn t = false by simpa using List.all_eq_true.1 seeks_stand t hm)⟩)
    seeks_goes
#print axioms seeks_card
end Go.Proofs.YtangdbjoflnobaaGreatDoor
