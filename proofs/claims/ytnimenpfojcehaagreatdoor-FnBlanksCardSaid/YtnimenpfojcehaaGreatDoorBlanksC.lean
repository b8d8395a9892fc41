/- FnBlanks answers true for every number, every needle, every list of values, every place and how many blanks, in every world in which the listed tables lie; no other condition. -/
import Derived.Test.YtnimenpfojcehaaGreatDoorBlanksR
import Derived.Test.YtnimenpfojcehaaGreatDoorBlanks
import Derived.Test.YtnimenpfojcehaaGreatDoorValsB
import Derived.Test.YtnimenpfojcehaaGreatDoorBx6
import Derived.ProofKit
import Derived.OpenShut
import Derived.LaidMore
import Derived.Lay
import Derived.SevenTiedAt
import Derived.Stop.Joined
import Derived.Deep.SlicePairs
import Derived.Carry
import Derived.Handed
namespace Go.Proofs.YtnimenpfojcehaaGreatDoor
open Go Go.ChangeMaps Go.ChangeShapes Go.WideShapes Go.ChangeAt Go.RowKit Go.Deep
set_option linter.unusedVariables false

theorem blanks_knob : ownKnob Tryz.prog.godebug = none := by kernel_rfl
theorem blanks_laid_out : laidOutB Tryz.prog = true := by kernel_rfl
theorem blanks_at2 : Rows.fnBlanksRow.laid.drop 2 = ("internal/strconv.uint64pow10", Lib.tabData .u64 Lib.pow10Tab) :: Rows.fnBlanksRow.laid.drop 3 := by kernel_rfl
theorem blanks_laid {W : World} (h : laidMet Tryz.prog Rows.fnBlanksRow.laid W) (hs : W.ShapedOpen Tryz.prog) : ∃ N, Tabs N W := by
  have h2 := laidMet_drop 2 h
  rw [blanks_at2] at h2
  obtain ⟨N, hN⟩ := names_of hs
  exact ⟨N, hN, p10_of h2⟩
section
variable {H : Type} {enc : TypeId × Value → H} {P : Program} {w : World} {base : Nat} {spare : Nat → Bool} {held : Bool}
theorem trodAll_five {t t1 t2 t3 t4 : TypeId} {args : Array Value} {ds : List (DataW H)} {ps : List MemPlace} (h : DataW.TrodAll enc P w base spare held [t, t1, t2, t3, t4] args.toList ds ps) :
    ∃ v v1 v2 v3 v4 d d1 d2 d3 d4 p p1 p2 p3 p4, args = #[v, v1, v2, v3, v4] ∧ ds = [d, d1, d2, d3, d4] ∧ ps = p ++ p1 ++ p2 ++ p3 ++ p4 ∧ DataW.Trod enc P w base spare held t v d p ∧ DataW.Trod enc P w base spare held t1 v1 d1 p1 ∧ DataW.Trod enc P w base spare held t2 v2 d2 p2 ∧ DataW.Trod enc P w base spare held t3 v3 d3 p3 ∧ DataW.Trod enc P w base spare held t4 v4 d4 p4 := by
  obtain ⟨v, vs, d, ds0, p, q, hargs, rfl, rfl, hd, hrest⟩ := trodAll_cons h
  obtain ⟨v1, vs1, d1, ds1, p1, q1, rfl, rfl, rfl, hd1, hrest1⟩ := trodAll_cons hrest
  obtain ⟨v2, vs2, d2, ds2, p2, q2, rfl, rfl, rfl, hd2, hrest2⟩ := trodAll_cons hrest1
  obtain ⟨v3, vs3, d3, ds3, p3, q3, rfl, rfl, rfl, hd3, hrest3⟩ := trodAll_cons hrest2
  obtain ⟨v4, vs4, d4, ds4, p4, q4, rfl, rfl, rfl, hd4, hrest4⟩ := trodAll_cons hrest3
  obtain ⟨rfl, rfl, rfl⟩ := trodAll_nil hrest4
  exact ⟨v, v1, v2, v3, v4, d, d1, d2, d3, d4, p, p1, p2, p3, p4, by cases args; simp_all, rfl, by simp, hd, hd1, hd2, hd3, hd4⟩
theorem trodAll_mk5 {t t1 t2 t3 t4 : TypeId} {v v1 v2 v3 v4 : Value} {d d1 d2 d3 d4 : DataW H} {p p1 p2 p3 p4 : List MemPlace} (h : DataW.Trod enc P w base spare held t v d p) (h1 : DataW.Trod enc P w base spare held t1 v1 d1 p1)
    (h2 : DataW.Trod enc P w base spare held t2 v2 d2 p2) (h3 : DataW.Trod enc P w base spare held t3 v3 d3 p3) (h4 : DataW.Trod enc P w base spare held t4 v4 d4 p4) : DataW.TrodAll enc P w base spare held [t, t1, t2, t3, t4] [v, v1, v2, v3, v4] [d, d1, d2, d3, d4] (p ++ (p1 ++ (p2 ++ (p3 ++ p4)))) := ⟨p, p1 ++ (p2 ++ (p3 ++ p4)), h, trodAll_mk4 h1 h2 h3 h4, rfl⟩
end
set_option maxRecDepth 100000 in
theorem blanks_lifted (os : Os) (started : os.Started) (H : Type) (enc : TypeId × Value → H) :
    ReturnsInHanded {} Tryz.checked os 5 .any (fun w args => (Rows.fnBlanksSpec.pre enc Tryz.prog Tryz.f5 [] false w args ∧ laidMetH Tryz.prog Rows.fnBlanksRow.laid w) ∧ sizedMet enc Tryz.prog Tryz.f5 (OpenSpec.ofChange Rows.fnBlanksSpec) false w args)
      (Rows.fnBlanksSpec.post enc Tryz.prog Tryz.f5 false true false false) := by
  refine returnsInHanded_of_calls blanks_knob started (by kernel_rfl)
    (ChangeSpec.witness_shaped (enc := enc) (C := Tryz.checked) (os := os) (X := fun w _ => laidMetH Tryz.prog Rows.fnBlanksRow.laid w) false (World.laidAll Tryz.prog os Rows.fnBlanksRow.laid) #[.int .i64 0, .agg #[.int .i64 0, .int .i64 0, .int .i64 0, .string ⟨#[]⟩, .bool false, .int .i64 0], .slice none 0 0, .int .i64 0, .int .i64 0] 8 (World.laidAll_os _ _ _)
      (World.shaped_of_ZipB (by kernel_rfl) (by kernel_rfl)) (by kernel_rfl) (by kernel_rfl) (by kernel_rfl)
      (by rw [MakeChecks.laidMetH_plain _ _ _ (by kernel_rfl)]; exact laidMet_laidAll _ (by kernel_rfl) (by kernel_rfl))) ?_
  intro w tape i _ hsh _ hok hpre _
  obtain ⟨_, _, _, fn', hfn', _, _, _, _, hval0⟩ := hok
  obtain rfl : fn' = Tryz.f5 := Option.some.inj (hfn'.symm.trans Tryz.func5)
  obtain ⟨⟨⟨ds, gs, before, hw, _⟩, hx⟩, hz⟩ := hpre
  have hW := DataW.Whole.of_heap (w' := w.forCall tape i) (by rfl) hw
  have hwt0 := hz.weights hw
  have hL : laidMetH Tryz.prog Rows.fnBlanksRow.laid (w.forCall tape i) := laidMetH.of_heap (by rfl) hx
  clear hw hx hz hfn'
  generalize w.forCall tape i = W at *
  generalize i.args = args at *
  have key : Calls Tryz.prog 5 args W fun e W' => ∃ v, e = .returned v ∧ Rows.fnBlanksSpec.post enc Tryz.prog Tryz.f5 false true false false W args v W' := by
    have hval : ∀ (j : Nat) t v, Tryz.f5.params[j]? = some t → args[j]? = some v → Value.okWide Tryz.prog W .any w.heap.size t v := hval0
    have hW' := hW
    obtain ⟨p, q, hA0, hV, rfl, _, _⟩ := hW
    have hA : DataW.TrodAll enc Tryz.prog W 0 (fun _ => true) true Tryz.f5.params.toList args.toList ds p := hA0
    rw [Tryz.params5] at hA hval
    have hwt : (DataW.weightsEach Tryz.prog (Tryz.f5.params.toList ++ _) (ds ++ gs)).all (· ≤ reachBytes) = true := hwt0
    rw [Tryz.params5] at hwt
    obtain ⟨v0, v1, v2, v3, v4, d0, d1, d2, d3, d4, p0, p1, p2, p3, p4, rfl, rfl, rfl, h0, h1, h2, h3, h4⟩ := trodAll_five hA
    obtain ⟨rfl, rfl⟩ := trodVars_none hV
    obtain ⟨x, rfl, rfl, rfl, wx⟩ := open_int Tryz.underlying3 (hval 0 3 v0 rfl rfl) h0
    obtain ⟨cs, rfl, hcs⟩ := okWide_struct Tryz.underlying33 (hval 1 33 v1 rfl rfl)
    obtain ⟨a2, len2, cap2, rfl⟩ := okWide_slice Tryz.underlying22 (hval 2 22 v2 rfl rfl)
    obtain ⟨y, rfl, rfl, rfl, wy⟩ := open_int Tryz.underlying3 (hval 3 3 v3 rfl rfl) h3
    obtain ⟨z, rfl, rfl, rfl, wz⟩ := open_int Tryz.underlying3 (hval 4 3 v4 rfl rfl) h4
    have h1k := h1
    have h2k := h2
    obtain ⟨fuel1, hf1⟩ := h1
    obtain ⟨fuel2, hf2⟩ := h2
    have hlt1 : ∀ y ∈ p1, y.block < W.heap.size := fun y hy => by simpa using hW'.lt y (by simp [hy])
    have hlt2 : ∀ y ∈ p2, y.block < W.heap.size := fun y hy => by simpa using hW'.lt y (by simp [hy])
    have hw3 := hwt
    simp only [List.cons_append, List.nil_append, DataW.weightsEach, List.all_append, Bool.and_eq_true] at hw3
    obtain ⟨vs, n2, b2, i2, c2⟩ := open_vals56 (by simpa [Value.cells] using hf2) hw3.2.2.1
    have hf1' : DataW.trod enc Tryz.prog W 0 (fun _ => true) true fuel1 33 cs.toList = some (d1, p1) := by simpa [Value.cells] using hf1
    obtain ⟨nd, hnd, j1, j2, j3, j4, _, hm⟩ := open_val hf1'
    have hin : nd.In := ⟨j1, j2, j3, j4, by
      have h5 := List.all_eq_true.1 hw3.2.1 _ hm
      simp [reachBytes] at h5
      exact of_decide_eq_true h5⟩
    have hcs2 : cs = nd.cells.toArray := by rw [← hnd]
    subst hcs2
    rw [MakeChecks.laidMetH_plain _ _ _ (by kernel_rfl)] at hL
    obtain ⟨N, hT⟩ := blanks_laid hL hsh
    refine (law_FnBlanks0 N x y z nd vs a2 cap2 len2 W ⟨(bounds_i64 wx).1, (bounds_i64 wx).2⟩ ⟨(bounds_i64 wy).1, (bounds_i64 wy).2⟩ ⟨(bounds_i64 wz).1, (bounds_i64 wz).2⟩ hin n2 (by omega) i2 c2 hT).mono ?_
    rintro e W' ⟨rfl, hb⟩
    have e1 : Rows.fnBlanksSpec.fn H ([.lit (.int .i64 x), d1, d2, .lit (.int .i64 y), .lit (.int .i64 z)] ++ []) = { results := [.lit (.bool true)], args := [.lit (.int .i64 x), d1, d2, .lit (.int .i64 y), .lit (.int .i64 z)] } := rfl
    refine ⟨_, rfl, _, _, _, [], [] ++ (p1 ++ (p2 ++ ([] ++ []))), [], hW', ?_, ?_, ?_, hb.frame _, fun h => by cases h⟩
    · rw [e1]; exact trodAll_mk1 (shut_bool Tryz.underlying4 true)
    · rw [e1]
      exact trodAll_mk5 (show DataW.Trod enc Tryz.prog W' 0 (fun b => decide (b < W.heap.size)) true 3 (.int .i64 x) (.lit (.int .i64 x)) [] from shut_int Tryz.underlying3 wx) (Below.trod blanks_laid_out (by kernel_rfl) (of_decide_eq_true (by kernel_rfl)) h1k hb hlt1) (Below.trod blanks_laid_out (by kernel_rfl) (of_decide_eq_true (by kernel_rfl)) h2k hb hlt2) (show DataW.Trod enc Tryz.prog W' 0 (fun b => decide (b < W.heap.size)) true 3 (.int .i64 y) (.lit (.int .i64 y)) [] from shut_int Tryz.underlying3 wy) (show DataW.Trod enc Tryz.prog W' 0 (fun b => decide (b < W.heap.size)) true 3 (.int .i64 z) (.lit (.int .i64 z)) [] from shut_int Tryz.underlying3 wz)
    · rw [e1]; rfl
  refine key.mono fun e W' ⟨v, he, hp⟩ => ?_
  subst he
  exact ChangeSpec.post_blind hp

theorem blanks_holds : Rows.FnBlanksSaid :=
  OpenClaim.holds_of_wide 5 Tryz.f5 rfl rfl rfl rfl rfl rfl rfl ⟨rfl, rfl, rfl, rfl, rfl⟩ rfl rfl rfl rfl rfl blanks_named Tryz.func5 blanks_joined blanks_inst blanks_wrap
    (fun os started H enc _ => blanks_lifted os started H enc)
theorem blanks_card : Rows.FnBlanksCardSaid :=
  Claim7.holds_tied_plain_at .later [] Rows.fnBlanksCard.laidKinds true Rows.fnBlanksCard.stood.harness false blanks_holds (fun _ h => by cases h) blanks_wf (fun _ h => by cases h) fnBlanks_row_tie rfl ⟨rfl, rfl⟩ blanks_main rfl
    (fun f fn hf hfn => by
      obtain rfl : f = 5 := Option.some.inj (blanks_named.symm.trans hf) |>.symm
      obtain rfl : fn = Tryz.f5 := (Option.some.inj (Tryz.func5.symm.trans hfn)).symm
      exact ⟨blanks_looks, fun j t ht => by
        rw [Tryz.params5] at ht
        have hm : t ∈ [3, 33, 22] := by
          have h := Array.mem_of_getElem? ht
          simp at h ⊢
          first | omega | (rcases h with h | h | h | h <;> simp [h])
        exact (show Tryz.prog.wantsStandIn t = false by simpa using List.all_eq_true.1 blanks_stand t hm)⟩)
    blanks_goes
#print axioms blanks_card
end Go.Proofs.YtnimenpfojcehaaGreatDoor
