/- FnFull answers true for every number and every script of acts, in every world in which the listed tables lie; no other condition. -/
import Derived.Test.YtnimenpfojcehaaGreatDoorFullR
import Derived.Test.YtnimenpfojcehaaGreatDoorFull
import Derived.Test.YtnimenpfojcehaaGreatDoorActsB
import Derived.Test.YtnimenpfojcehaaGreatDoorBx6
import Derived.ProofKit
import Derived.OpenShut
import Derived.LaidMore
import Derived.Lay
import Derived.SevenTiedAt
import Derived.Stop.Joined
import Derived.Deep.SlicePairs
import Derived.Carry
import Derived.Handed
namespace Go.Proofs.YtnimenpfojcehaaGreatDoor
open Go Go.ChangeMaps Go.ChangeShapes Go.WideShapes Go.ChangeAt Go.RowKit Go.Deep
set_option linter.unusedVariables false

theorem full_knob : ownKnob Tryz.prog.godebug = none := by kernel_rfl
theorem full_laid_out : laidOutB Tryz.prog = true := by kernel_rfl
theorem full_at2 : Rows.fnFullRow.laid.drop 2 = ("internal/strconv.uint64pow10", Lib.tabData .u64 Lib.pow10Tab) :: Rows.fnFullRow.laid.drop 3 := by kernel_rfl
theorem full_laid {W : World} (h : laidMet Tryz.prog Rows.fnFullRow.laid W) (hs : W.ShapedOpen Tryz.prog) : ∃ N, Tabs N W := by
  have h2 := laidMet_drop 2 h
  rw [full_at2] at h2
  obtain ⟨N, hN⟩ := names_of hs
  exact ⟨N, hN, p10_of h2⟩
set_option maxRecDepth 100000 in
theorem full_lifted (os : Os) (started : os.Started) (H : Type) (enc : TypeId × Value → H) :
    ReturnsInHanded {} Tryz.checked os 4 .any (fun w args => (Rows.fnFullSpec.pre enc Tryz.prog Tryz.f4 [] false w args ∧ laidMetH Tryz.prog Rows.fnFullRow.laid w) ∧ sizedMet enc Tryz.prog Tryz.f4 (OpenSpec.ofChange Rows.fnFullSpec) false w args)
      (Rows.fnFullSpec.post enc Tryz.prog Tryz.f4 false true false false) := by
  refine returnsInHanded_of_calls full_knob started (by kernel_rfl)
    (ChangeSpec.witness_shaped (enc := enc) (C := Tryz.checked) (os := os) (X := fun w _ => laidMetH Tryz.prog Rows.fnFullRow.laid w) false (World.laidAll Tryz.prog os Rows.fnFullRow.laid) #[.int .i64 0, .slice none 0 0] 8 (World.laidAll_os _ _ _)
      (World.shaped_of_ZipB (by kernel_rfl) (by kernel_rfl)) (by kernel_rfl) (by kernel_rfl) (by kernel_rfl)
      (by rw [MakeChecks.laidMetH_plain _ _ _ (by kernel_rfl)]; exact laidMet_laidAll _ (by kernel_rfl) (by kernel_rfl))) ?_
  intro w tape i _ hsh _ hok hpre _
  obtain ⟨_, _, _, fn', hfn', _, _, _, _, hval0⟩ := hok
  obtain rfl : fn' = Tryz.f4 := Option.some.inj (hfn'.symm.trans Tryz.func4)
  obtain ⟨⟨⟨ds, gs, before, hw, _⟩, hx⟩, hz⟩ := hpre
  have hW := DataW.Whole.of_heap (w' := w.forCall tape i) (by rfl) hw
  have hwt0 := hz.weights hw
  have hL : laidMetH Tryz.prog Rows.fnFullRow.laid (w.forCall tape i) := laidMetH.of_heap (by rfl) hx
  clear hw hx hz hfn'
  generalize w.forCall tape i = W at *
  generalize i.args = args at *
  have key : Calls Tryz.prog 4 args W fun e W' => ∃ v, e = .returned v ∧ Rows.fnFullSpec.post enc Tryz.prog Tryz.f4 false true false false W args v W' := by
    have hval : ∀ (j : Nat) t v, Tryz.f4.params[j]? = some t → args[j]? = some v → Value.okWide Tryz.prog W .any w.heap.size t v := hval0
    have hW' := hW
    obtain ⟨p, q, hA0, hV, rfl, _, _⟩ := hW
    have hA : DataW.TrodAll enc Tryz.prog W 0 (fun _ => true) true Tryz.f4.params.toList args.toList ds p := hA0
    rw [Tryz.params4] at hA hval
    have hwt : (DataW.weightsEach Tryz.prog (Tryz.f4.params.toList ++ _) (ds ++ gs)).all (· ≤ reachBytes) = true := hwt0
    rw [Tryz.params4] at hwt
    obtain ⟨v0, v1, d0, d1, p0, p1, rfl, rfl, rfl, h0, h1⟩ := trodAll_two hA
    obtain ⟨rfl, rfl⟩ := trodVars_none hV
    obtain ⟨x, rfl, rfl, rfl, wx⟩ := open_int Tryz.underlying3 (hval 0 3 v0 rfl rfl) h0
    obtain ⟨a1, len1, cap1, rfl⟩ := okWide_slice Tryz.underlying41 (hval 1 41 v1 rfl rfl)
    have h1k := h1
    obtain ⟨fuel1, hf1⟩ := h1
    have hlt1 : ∀ y ∈ p1, y.block < W.heap.size := fun y hy => by simpa using hW'.lt y (by simp [hy])
    have hw3 := hwt
    simp only [List.cons_append, List.nil_append, DataW.weightsEach, List.all_append, Bool.and_eq_true] at hw3
    obtain ⟨vs, n1, b1, i1, c1⟩ := open_acts (by simpa [Value.cells] using hf1) hw3.2.1
    rw [MakeChecks.laidMetH_plain _ _ _ (by kernel_rfl)] at hL
    obtain ⟨N, hT⟩ := full_laid hL hsh
    refine (law_FnFull0 N x vs a1 cap1 len1 W ⟨(bounds_i64 wx).1, (bounds_i64 wx).2⟩ n1 (by omega) i1 c1 hT).mono ?_
    rintro e W' ⟨rfl, hb⟩
    have e1 : Rows.fnFullSpec.fn H ([.lit (.int .i64 x), d1] ++ []) = { results := [.lit (.bool true)], args := [.lit (.int .i64 x), d1] } := rfl
    refine ⟨_, rfl, _, _, _, [], [] ++ p1, [], hW', ?_, ?_, ?_, hb.frame _, fun h => by cases h⟩
    · rw [e1]; exact trodAll_mk1 (shut_bool Tryz.underlying4 true)
    · rw [e1]
      exact trodAll_mk2 (show DataW.Trod enc Tryz.prog W' 0 (fun b => decide (b < W.heap.size)) true 3 (.int .i64 x) (.lit (.int .i64 x)) [] from shut_int Tryz.underlying3 wx) (Below.trod full_laid_out (by kernel_rfl) (of_decide_eq_true (by kernel_rfl)) h1k hb hlt1)
    · rw [e1]; rfl
  refine key.mono fun e W' ⟨v, he, hp⟩ => ?_
  subst he
  exact ChangeSpec.post_blind hp

theorem full_holds : Rows.FnFullSaid :=
  OpenClaim.holds_of_wide 4 Tryz.f4 rfl rfl rfl rfl rfl rfl rfl ⟨rfl, rfl, rfl, rfl, rfl⟩ rfl rfl rfl rfl rfl full_named Tryz.func4 full_joined full_inst full_wrap
    (fun os started H enc _ => full_lifted os started H enc)
theorem full_card : Rows.FnFullCardSaid :=
  Claim7.holds_tied_plain_at .later [] Rows.fnFullCard.laidKinds true Rows.fnFullCard.stood.harness false full_holds (fun _ h => by cases h) full_wf (fun _ h => by cases h) fnFull_row_tie rfl ⟨rfl, rfl⟩ full_main rfl
    (fun f fn hf hfn => by
      obtain rfl : f = 4 := Option.some.inj (full_named.symm.trans hf) |>.symm
      obtain rfl : fn = Tryz.f4 := (Option.some.inj (Tryz.func4.symm.trans hfn)).symm
      exact ⟨full_looks, fun j t ht => by
        rw [Tryz.params4] at ht
        have hm : t ∈ [3, 41] := by simpa using Array.mem_of_getElem? ht
        exact (show Tryz.prog.wantsStandIn t = false by simpa using List.all_eq_true.1 full_stand t hm)⟩)
    full_goes
#print axioms full_card
end Go.Proofs.YtnimenpfojcehaaGreatDoor
