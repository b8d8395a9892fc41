/- FnCuts answers true for every text and every two numbers, in every world in which the listed tables lie; no other condition. -/
import Derived.Test.YtodopbdngikpcaaGreatDoorCutsR
import Derived.Test.YtodopbdngikpcaaGreatDoorCutsA
import Derived.Test.YtodopbdngikpcaaGreatDoorValsB
import Derived.Test.YtodopbdngikpcaaGreatDoorLaidC
import Derived.ProofKit
import Derived.OpenShut
import Derived.LaidMore
import Derived.Lay
import Derived.SevenTiedAt
import Derived.Stop.Joined
import Derived.Deep.SlicePairs
import Derived.Carry
import Derived.Handed
namespace Go.Proofs.YtodopbdngikpcaaGreatDoor
open Go Go.ChangeMaps Go.ChangeShapes Go.WideShapes Go.ChangeAt Go.RowKit Go.Deep
set_option linter.unusedVariables false

theorem cuts_knob : ownKnob Tryz.prog.godebug = none := by kernel_rfl
theorem cuts_laid_out : laidOutB Tryz.prog = true := by kernel_rfl
theorem cuts_at5 : Rows.fnCutsRow.laid.drop 5 = ("strings.asciiSpace", Lib.tabData .u8 Lib.asciiSpaceTab) :: Rows.fnCutsRow.laid.drop 6 := by kernel_rfl
theorem cuts_at2 : Rows.fnCutsRow.laid.drop 2 = ("internal/strconv.uint64pow10", Lib.tabData .u64 Lib.pow10Tab) :: Rows.fnCutsRow.laid.drop 3 := by kernel_rfl
theorem cuts_laid {W : World} (h : laidMet Tryz.prog Rows.fnCutsRow.laid W) (hs : W.ShapedOpen Tryz.prog) : Laid W := by
  have h5 := laidMet_drop 5 h
  have h2 := laidMet_drop 2 h
  rw [cuts_at5] at h5
  rw [cuts_at2] at h2
  exact ⟨sp_of h5, max_of hs, p10_of h2⟩
set_option maxRecDepth 100000 in
theorem cuts_lifted (os : Os) (started : os.Started) (H : Type) (enc : TypeId × Value → H) :
    ReturnsInHanded {} Tryz.checked os 5 .any (fun w args => (Rows.fnCutsSpec.pre enc Tryz.prog Tryz.f5 [] false w args ∧ laidMetH Tryz.prog Rows.fnCutsRow.laid w) ∧ sizedMet enc Tryz.prog Tryz.f5 (OpenSpec.ofChange Rows.fnCutsSpec) false w args)
      (Rows.fnCutsSpec.post enc Tryz.prog Tryz.f5 false true false false) := by
  refine returnsInHanded_of_calls cuts_knob started (by kernel_rfl)
    (ChangeSpec.witness_shaped (enc := enc) (C := Tryz.checked) (os := os) (X := fun w _ => laidMetH Tryz.prog Rows.fnCutsRow.laid w) false (World.laidAll Tryz.prog os Rows.fnCutsRow.laid) #[.string ⟨#[]⟩, .int .i64 0, .int .i64 0] 8 (World.laidAll_os _ _ _)
      (World.shaped_of_ZipB (by kernel_rfl) (by kernel_rfl)) (by kernel_rfl) (by kernel_rfl) (by kernel_rfl)
      (by rw [MakeChecks.laidMetH_plain _ _ _ (by kernel_rfl)]; exact laidMet_laidAll _ (by kernel_rfl) (by kernel_rfl))) ?_
  intro w tape i _ hsh _ hok hpre _
  obtain ⟨_, _, _, fn', hfn', _, _, _, _, hval0⟩ := hok
  obtain rfl : fn' = Tryz.f5 := Option.some.inj (hfn'.symm.trans Tryz.func5)
  obtain ⟨⟨⟨ds, gs, before, hw, _⟩, hx⟩, hz⟩ := hpre
  have hW := DataW.Whole.of_heap (w' := w.forCall tape i) (by rfl) hw
  have hwt0 := hz.weights hw
  have hL : laidMetH Tryz.prog Rows.fnCutsRow.laid (w.forCall tape i) := laidMetH.of_heap (by rfl) hx
  clear hw hx hz hfn'
  generalize w.forCall tape i = W at *
  generalize i.args = args at *
  have key : Calls Tryz.prog 5 args W fun e W' => ∃ v, e = .returned v ∧ Rows.fnCutsSpec.post enc Tryz.prog Tryz.f5 false true false false W args v W' := by
    have hval : ∀ (j : Nat) t v, Tryz.f5.params[j]? = some t → args[j]? = some v → Value.okWide Tryz.prog W .any w.heap.size t v := hval0
    have hW' := hW
    obtain ⟨p, q, hA0, hV, rfl, _, _⟩ := hW
    have hA : DataW.TrodAll enc Tryz.prog W 0 (fun _ => true) true Tryz.f5.params.toList args.toList ds p := hA0
    rw [Tryz.params5] at hA hval
    have hwt : (DataW.weightsEach Tryz.prog (Tryz.f5.params.toList ++ _) (ds ++ gs)).all (· ≤ reachBytes) = true := hwt0
    rw [Tryz.params5] at hwt
    obtain ⟨v0, v1, v2, d0, d1, d2, p0, p1, p2, rfl, rfl, rfl, h0, h1, h2⟩ := trodAll_three hA
    obtain ⟨rfl, rfl⟩ := trodVars_none hV
    obtain ⟨t, rfl, rfl, rfl, ht⟩ := open_string Tryz.underlying9 (hval 0 9 v0 rfl rfl) h0
    obtain ⟨x, rfl, rfl, rfl, wx⟩ := open_int Tryz.underlying3 (hval 1 3 v1 rfl rfl) h1
    obtain ⟨y, rfl, rfl, rfl, wy⟩ := open_int Tryz.underlying3 (hval 2 3 v2 rfl rfl) h2
    have hsz : t.size ≤ 140737488351232 := by
      have h3 := hwt
      simp [DataW.weightsEach, DataW.weights, reachBytes] at h3
      exact of_decide_eq_true h3
    have hx64 : I64 x := by
      have := bounds_i64 wx
      exact ⟨this.1, this.2⟩
    have hy64 : I64 y := by
      have := bounds_i64 wy
      exact ⟨this.1, this.2⟩
    rw [MakeChecks.laidMetH_plain _ _ _ (by kernel_rfl)] at hL
    refine (law_FnCuts0 t x y W hsz hx64 hy64 (cuts_laid hL hsh)).mono ?_
    rintro e W' ⟨rfl, hb⟩
    have e1 : Rows.fnCutsSpec.fn H ([.lit (.string t.data.toList), .lit (.int .i64 x), .lit (.int .i64 y)] ++ []) = { results := [.lit (.bool true)], args := [.lit (.string t.data.toList), .lit (.int .i64 x), .lit (.int .i64 y)] } := rfl
    refine ⟨_, rfl, _, _, _, [], [], [], hW', ?_, ?_, ?_, hb.frame _, fun h => by cases h⟩
    · rw [e1]; exact trodAll_mk1 (shut_bool Tryz.underlying4 true)
    · rw [e1]; exact trodAll_mk3 (shut_string Tryz.underlying9 ht) (shut_int Tryz.underlying3 wx) (shut_int Tryz.underlying3 wy)
    · rw [e1]; rfl
  refine key.mono fun e W' ⟨v, he, hp⟩ => ?_
  subst he
  exact ChangeSpec.post_blind hp

theorem cuts_holds : Rows.FnCutsSaid :=
  OpenClaim.holds_of_wide 5 Tryz.f5 rfl rfl rfl rfl rfl rfl rfl ⟨rfl, rfl, rfl, rfl, rfl⟩ rfl rfl rfl rfl rfl cuts_named Tryz.func5 cuts_joined cuts_inst cuts_wrap
    (fun os started H enc _ => cuts_lifted os started H enc)
theorem cuts_card : Rows.FnCutsCardSaid :=
  Claim7.holds_tied_plain_at .later [] Rows.fnCutsCard.laidKinds true Rows.fnCutsCard.stood.harness false cuts_holds (fun _ h => by cases h) cuts_wf (fun _ h => by cases h) fnCuts_row_tie rfl ⟨rfl, rfl⟩ cuts_main rfl
    (fun f fn hf hfn => by
      obtain rfl : f = 5 := Option.some.inj (cuts_named.symm.trans hf) |>.symm
      obtain rfl : fn = Tryz.f5 := (Option.some.inj (Tryz.func5.symm.trans hfn)).symm
      exact ⟨cuts_looks, fun j t ht => by
        rw [Tryz.params5] at ht
        have hm : t ∈ [9, 3] := by simpa using Array.mem_of_getElem? ht
        exact (show Tryz.prog.wantsStandIn t = false by simpa using List.all_eq_true.1 cuts_stand t hm)⟩)
    cuts_goes
#print axioms cuts_card
end Go.Proofs.YtodopbdngikpcaaGreatDoor
