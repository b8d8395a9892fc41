/- FnRests answers true for every number, every list of values and every place, in every world in which the listed tables lie; no other condition. -/
import Derived.Test.YtnimenpfojcehaaGreatDoorRestsR
import Derived.Test.YtnimenpfojcehaaGreatDoorRests
import Derived.Test.YtnimenpfojcehaaGreatDoorValsB
import Derived.Test.YtnimenpfojcehaaGreatDoorBx6
import Derived.ProofKit
import Derived.OpenShut
import Derived.LaidMore
import Derived.Lay
import Derived.SevenTiedAt
import Derived.Stop.Joined
import Derived.Deep.SlicePairs
import Derived.Carry
import Derived.Handed
namespace Go.Proofs.YtnimenpfojcehaaGreatDoor
open Go Go.ChangeMaps Go.ChangeShapes Go.WideShapes Go.ChangeAt Go.RowKit Go.Deep
set_option linter.unusedVariables false

theorem rests_knob : ownKnob Tryz.prog.godebug = none := by kernel_rfl
theorem rests_laid_out : laidOutB Tryz.prog = true := by kernel_rfl
theorem rests_at2 : Rows.fnRestsRow.laid.drop 2 = ("internal/strconv.uint64pow10", Lib.tabData .u64 Lib.pow10Tab) :: Rows.fnRestsRow.laid.drop 3 := by kernel_rfl
theorem rests_laid {W : World} (h : laidMet Tryz.prog Rows.fnRestsRow.laid W) (hs : W.ShapedOpen Tryz.prog) : ∃ N, Tabs N W := by
  have h2 := laidMet_drop 2 h
  rw [rests_at2] at h2
  obtain ⟨N, hN⟩ := names_of hs
  exact ⟨N, hN, p10_of h2⟩
theorem rests_form {H : Type} {enc : TypeId × Value → H} {W : World} {fuel : Nat} {la : Option Addr} {len cap : Nat} {d : DataW H} {ps : List MemPlace}
    (h : DataW.trod enc Tryz.prog W 0 (fun _ => true) true fuel 22 [.slice la len cap] = some (d, ps)) : (la = none ∧ len = 0 ∧ cap = 0) ∨ (∃ a, la = some a) ∧ len ≤ cap := by
  rcases open_slice Tryz.underlying22 h with ⟨hcs, _⟩ | ⟨a, len', cap', m, n, D, Pl, hcs, _, hl, hm, hmm, hx, hall⟩
  · simp at hcs
    exact Or.inl hcs
  · simp at hcs
    obtain ⟨rfl, rfl, rfl⟩ := hcs
    exact Or.inr ⟨⟨_, rfl⟩, by omega⟩
set_option maxRecDepth 100000 in
theorem rests_lifted (os : Os) (started : os.Started) (H : Type) (enc : TypeId × Value → H) :
    ReturnsInHanded {} Tryz.checked os 3 .any (fun w args => (Rows.fnRestsSpec.pre enc Tryz.prog Tryz.f3 [] false w args ∧ laidMetH Tryz.prog Rows.fnRestsRow.laid w) ∧ sizedMet enc Tryz.prog Tryz.f3 (OpenSpec.ofChange Rows.fnRestsSpec) false w args)
      (Rows.fnRestsSpec.post enc Tryz.prog Tryz.f3 false true false false) := by
  refine returnsInHanded_of_calls rests_knob started (by kernel_rfl)
    (ChangeSpec.witness_shaped (enc := enc) (C := Tryz.checked) (os := os) (X := fun w _ => laidMetH Tryz.prog Rows.fnRestsRow.laid w) false (World.laidAll Tryz.prog os Rows.fnRestsRow.laid) #[.int .i64 0, .slice none 0 0, .int .i64 0] 8 (World.laidAll_os _ _ _)
      (World.shaped_of_ZipB (by kernel_rfl) (by kernel_rfl)) (by kernel_rfl) (by kernel_rfl) (by kernel_rfl)
      (by rw [MakeChecks.laidMetH_plain _ _ _ (by kernel_rfl)]; exact laidMet_laidAll _ (by kernel_rfl) (by kernel_rfl))) ?_
  intro w tape i _ hsh _ hok hpre _
  obtain ⟨_, _, _, fn', hfn', _, _, _, _, hval0⟩ := hok
  obtain rfl : fn' = Tryz.f3 := Option.some.inj (hfn'.symm.trans Tryz.func3)
  obtain ⟨⟨⟨ds, gs, before, hw, _⟩, hx⟩, hz⟩ := hpre
  have hW := DataW.Whole.of_heap (w' := w.forCall tape i) (by rfl) hw
  have hwt0 := hz.weights hw
  have hL : laidMetH Tryz.prog Rows.fnRestsRow.laid (w.forCall tape i) := laidMetH.of_heap (by rfl) hx
  clear hw hx hz hfn'
  generalize w.forCall tape i = W at *
  generalize i.args = args at *
  have key : Calls Tryz.prog 3 args W fun e W' => ∃ v, e = .returned v ∧ Rows.fnRestsSpec.post enc Tryz.prog Tryz.f3 false true false false W args v W' := by
    have hval : ∀ (j : Nat) t v, Tryz.f3.params[j]? = some t → args[j]? = some v → Value.okWide Tryz.prog W .any w.heap.size t v := hval0
    have hW' := hW
    obtain ⟨p, q, hA0, hV, rfl, _, _⟩ := hW
    have hA : DataW.TrodAll enc Tryz.prog W 0 (fun _ => true) true Tryz.f3.params.toList args.toList ds p := hA0
    rw [Tryz.params3] at hA hval
    have hwt : (DataW.weightsEach Tryz.prog (Tryz.f3.params.toList ++ _) (ds ++ gs)).all (· ≤ reachBytes) = true := hwt0
    rw [Tryz.params3] at hwt
    obtain ⟨v0, v1, v2, d0, d1, d2, p0, p1, p2, rfl, rfl, rfl, h0, h1, h2⟩ := trodAll_three hA
    obtain ⟨rfl, rfl⟩ := trodVars_none hV
    obtain ⟨x, rfl, rfl, rfl, wx⟩ := open_int Tryz.underlying3 (hval 0 3 v0 rfl rfl) h0
    obtain ⟨a1, len1, cap1, rfl⟩ := okWide_slice Tryz.underlying22 (hval 1 22 v1 rfl rfl)
    obtain ⟨y, rfl, rfl, rfl, wy⟩ := open_int Tryz.underlying3 (hval 2 3 v2 rfl rfl) h2
    have h1k := h1
    obtain ⟨fuel1, hf1⟩ := h1
    have hlt1 : ∀ y ∈ p1, y.block < W.heap.size := fun y hy => by simpa using hW'.lt y (by simp [hy])
    have hw3 := hwt
    simp only [List.cons_append, List.nil_append, DataW.weightsEach, List.all_append, Bool.and_eq_true] at hw3
    have hf1' : DataW.trod enc Tryz.prog W 0 (fun _ => true) true fuel1 22 [.slice a1 len1 cap1] = some (d1, p1) := by simpa [Value.cells] using hf1
    obtain ⟨vs, n1, b1, i1, c1⟩ := open_vals56 hf1' hw3.2.1
    rw [MakeChecks.laidMetH_plain _ _ _ (by kernel_rfl)] at hL
    obtain ⟨N, hT⟩ := rests_laid hL hsh
    refine (law_FnRests0 N x y vs a1 cap1 len1 W ⟨(bounds_i64 wx).1, (bounds_i64 wx).2⟩ ⟨(bounds_i64 wy).1, (bounds_i64 wy).2⟩ n1 (by omega) (rests_form hf1') i1 c1 hT).mono ?_
    rintro e W' ⟨rfl, hb⟩
    have e1 : Rows.fnRestsSpec.fn H ([.lit (.int .i64 x), d1, .lit (.int .i64 y)] ++ []) = { results := [.lit (.bool true)], args := [.lit (.int .i64 x), d1, .lit (.int .i64 y)] } := rfl
    refine ⟨_, rfl, _, _, _, [], [] ++ (p1 ++ []), [], hW', ?_, ?_, ?_, hb.frame _, fun h => by cases h⟩
    · rw [e1]; exact trodAll_mk1 (shut_bool Tryz.underlying4 true)
    · rw [e1]
      exact trodAll_mk3 (show DataW.Trod enc Tryz.prog W' 0 (fun b => decide (b < W.heap.size)) true 3 (.int .i64 x) (.lit (.int .i64 x)) [] from shut_int Tryz.underlying3 wx) (Below.trod rests_laid_out (by kernel_rfl) (of_decide_eq_true (by kernel_rfl)) h1k hb hlt1) (show DataW.Trod enc Tryz.prog W' 0 (fun b => decide (b < W.heap.size)) true 3 (.int .i64 y) (.lit (.int .i64 y)) [] from shut_int Tryz.underlying3 wy)
    · rw [e1]; rfl
  refine key.mono fun e W' ⟨v, he, hp⟩ => ?_
  subst he
  exact ChangeSpec.post_blind hp

theorem rests_holds : Rows.FnRestsSaid :=
  OpenClaim.holds_of_wide 3 Tryz.f3 rfl rfl rfl rfl rfl rfl rfl ⟨rfl, rfl, rfl, rfl, rfl⟩ rfl rfl rfl rfl rfl rests_named Tryz.func3 rests_joined rests_inst rests_wrap
    (fun os started H enc _ => rests_lifted os started H enc)
theorem rests_card : Rows.FnRestsCardSaid :=
  Claim7.holds_tied_plain_at .later [] Rows.fnRestsCard.laidKinds true Rows.fnRestsCard.stood.harness false rests_holds (fun _ h => by cases h) rests_wf (fun _ h => by cases h) fnRests_row_tie rfl ⟨rfl, rfl⟩ rests_main rfl
    (fun f fn hf hfn => by
      obtain rfl : f = 3 := Option.some.inj (rests_named.symm.trans hf) |>.symm
      obtain rfl : fn = Tryz.f3 := (Option.some.inj (Tryz.func3.symm.trans hfn)).symm
      exact ⟨rests_looks, fun j t ht => by
        rw [Tryz.params3] at ht
        have hm : t ∈ [3, 22] := by
          have h := Array.mem_of_getElem? ht
          simp at h ⊢
          rcases h with h | h | h <;> simp [h]
        exact (show Tryz.prog.wantsStandIn t = false by simpa using List.all_eq_true.1 rests_stand t hm)⟩)
    rests_goes
#print axioms rests_card
end Go.Proofs.YtnimenpfojcehaaGreatDoor
