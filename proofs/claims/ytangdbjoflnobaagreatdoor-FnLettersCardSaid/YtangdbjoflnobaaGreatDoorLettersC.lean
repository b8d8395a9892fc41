/- FnLetters answers true for every string, in every world in which the listed tables lie; no other condition. -/
import Derived.Test.YtangdbjoflnobaaGreatDoorLettersR
import Derived.Test.YtangdbjoflnobaaGreatDoorLetters
import Derived.ProofKit
import Derived.OpenShut
import Derived.LaidMore
import Derived.Lay
import Derived.SevenTiedAt
import Derived.Stop.Joined
import Derived.Lib.LaidTab
namespace Go.Proofs.YtangdbjoflnobaaGreatDoor
open Go Go.ChangeMaps Go.ChangeShapes Go.WideShapes Go.ChangeAt Go.RowKit
set_option linter.unusedVariables false

theorem letters_own : ownKnob Tryz.prog.godebug = none := by kernel_rfl
theorem laidMet_drop {P : Program} {w : World} : ∀ (n : Nat) {l : List (String × DataW Unit)}, laidMet P l w → laidMet P (l.drop n) w
  | 0, _, h => h
  | n + 1, [], h => h
  | n + 1, x :: r, h => by
    rw [List.drop_succ_cons]
    refine laidMet_drop n ?_
    obtain ⟨ps, hv, hnd, hrows⟩ := h
    obtain ⟨m, d⟩ := x
    obtain ⟨g, t, cs, fuel, p, q, _, _, _, _, hq, rfl⟩ := hv
    exact ⟨q, hq, List.Nodup.sublist (List.sublist_append_right _ _) hnd, fun b off hm => hrows b off (List.mem_append_right _ hm)⟩
theorem letters_sp_at : Rows.fnLettersRow.laid.drop 5 = ("strings.asciiSpace", Lib.tabData .u8 Lib.asciiSpaceTab) :: Rows.fnLettersRow.laid.drop 6 := by kernel_rfl
theorem letters_sp {W : World} (h : laidMet Tryz.prog Rows.fnLettersRow.laid W) : SpTab W := by
  have h5 := laidMet_drop 5 h
  rw [letters_sp_at] at h5
  exact Lib.tabIs_of_head (g := 0) (t := 175) (e := 5) (n := 256) (by kernel_rfl) (by kernel_rfl) (by kernel_rfl) (by kernel_rfl) (by kernel_rfl) (by kernel_rfl) h5
set_option maxRecDepth 100000 in
theorem letters_lifted (os : Os) (started : os.Started) (H : Type) (enc : TypeId × Value → H) :
    ReturnsInHanded {} Tryz.checked os 7 .any (fun w args => (Rows.fnLettersSpec.pre enc Tryz.prog Tryz.f7 [] false w args ∧ laidMetH Tryz.prog Rows.fnLettersRow.laid w) ∧ sizedMet enc Tryz.prog Tryz.f7 (OpenSpec.ofChange Rows.fnLettersSpec) false w args)
      (Rows.fnLettersSpec.post enc Tryz.prog Tryz.f7 false true false false) := by
  refine returnsInHanded_of_change_and (C := Tryz.checked) (X := fun w _ => laidMetH Tryz.prog Rows.fnLettersRow.laid w) (fun _ _ _ hh h => h.of_heap hh) letters_own started (by kernel_rfl) Tryz.func7
    (ChangeSpec.witness_shaped (enc := enc) (C := Tryz.checked) (os := os) (X := fun w _ => laidMetH Tryz.prog Rows.fnLettersRow.laid w) false (World.laidAll Tryz.prog os Rows.fnLettersRow.laid) #[.string ⟨#[]⟩] 8 (World.laidAll_os _ _ _)
      (World.shaped_of_ZipB (by kernel_rfl) (by kernel_rfl)) (by kernel_rfl) (by kernel_rfl) (by kernel_rfl)
      (by rw [MakeChecks.laidMetH_plain _ _ _ (by kernel_rfl)]; exact laidMet_laidAll _ (by kernel_rfl) (by kernel_rfl))) ?_
  intro W base args ds gs before hval0 hW hc hwt0 hL _
  have hval : ∀ (j : Nat) t v, Tryz.f7.params[j]? = some t → args[j]? = some v → Value.okWide Tryz.prog W .any base t v := hval0
  have hW' := hW
  have hwt : (DataW.weightsEach Tryz.prog (Tryz.f7.params.toList ++ _) (ds ++ gs)).all (· ≤ reachBytes) = true := hwt0
  obtain ⟨p, q, hA0, hV, rfl, _, _⟩ := hW
  have hA : DataW.TrodAll enc Tryz.prog W 0 (fun _ => true) true Tryz.f7.params.toList args.toList ds p := hA0
  rw [Tryz.params7] at hA hval hwt
  obtain ⟨v0, d0, rfl, rfl, h0⟩ := trodAll_one hA
  obtain ⟨rfl, rfl⟩ := trodVars_none hV
  obtain ⟨s, rfl, rfl, rfl, hs⟩ := open_string Tryz.underlying9 (hval 0 9 v0 rfl rfl) h0
  have hsz : s.size ≤ 140737488351232 := by
    have h2 := hwt
    simp [DataW.weightsEach, DataW.weights, reachBytes] at h2
    exact of_decide_eq_true h2
  rw [MakeChecks.laidMetH_plain _ _ _ (by kernel_rfl)] at hL
  have htab := letters_sp hL
  have h0w : 0 < W.heap.size := World.block_lt_of_cell? W _ (htab.cell (by kernel_rfl) 0 (by decide))
  refine (law_FnLetters0 s W hsz h0w htab).mono fun e W' ⟨he, hb⟩ => ?_
  subst he
  have e1 : Rows.fnLettersSpec.fn H ([.lit (.string s.data.toList)] ++ []) = { results := [.lit (.bool true)], args := [.lit (.string s.data.toList)] } := rfl
  refine ⟨_, rfl, _, _, _, [], [], [], hW', ?_, ?_, ?_, hb.frame _, fun h => by cases h⟩
  · rw [e1]; exact trodAll_mk1 (shut_bool Tryz.underlying4 true)
  · rw [e1]; exact trodAll_mk1 (shut_string Tryz.underlying9 hs)
  · rw [e1]; rfl

theorem letters_holds : Rows.FnLettersSaid :=
  OpenClaim.holds_of_wide 7 Tryz.f7 rfl rfl rfl rfl rfl rfl rfl ⟨rfl, rfl, rfl, rfl, rfl⟩ rfl rfl rfl rfl rfl letters_named Tryz.func7 letters_joined letters_inst letters_wrap
    (fun os started H enc _ => letters_lifted os started H enc)
theorem letters_card : Rows.FnLettersCardSaid :=
  Claim7.holds_tied_plain_at .later [] Rows.fnLettersCard.laidKinds true Rows.fnLettersCard.stood.harness false letters_holds (fun _ h => by cases h) letters_wf (fun _ h => by cases h) fnLetters_row_tie rfl ⟨rfl, rfl⟩ letters_main rfl
    (fun f fn hf hfn => by
      obtain rfl : f = 7 := Option.some.inj (letters_named.symm.trans hf) |>.symm
      obtain rfl : fn = Tryz.f7 := (Option.some.inj (Tryz.func7.symm.trans hfn)).symm
      exact ⟨letters_looks, fun j t ht => by
        rw [Tryz.params7] at ht
        have hm : t ∈ [9] := by simpa using Array.mem_of_getElem? ht
        exact (show Tryz.prog.wantsStandIn t = false by simpa using List.all_eq_true.1 letters_stand t hm)⟩)
    letters_goes
#print axioms letters_card
end Go.Proofs.YtangdbjoflnobaaGreatDoor
