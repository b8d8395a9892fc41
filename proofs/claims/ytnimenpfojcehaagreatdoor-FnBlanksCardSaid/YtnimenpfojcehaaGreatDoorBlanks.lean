/- The walk of FnBlanks. -/
import Derived.Test.YtnimenpfojcehaaGreatDoorBx4
import Derived.Test.YtnimenpfojcehaaGreatDoorAble
import Derived.Test.YtnimenpfojcehaaGreatDoorEach
import Derived.Deep.QuietTactic
import Derived.BigQuiet
import Derived.Deep.Cut
namespace Go.Proofs.YtnimenpfojcehaaGreatDoor
open Go Go.RowKit
set_option linter.unusedSimpArgs false
set_option linter.unusedVariables false

/-- What is between the two folds ahead of place k. -/
def Pairs2 (at' many : Int) (k : Nat) (S T : AccS) : Prop := T = S ∨ (at' < k ∧ Ahead many S T)
theorem pairs2_here {many : Int} {m : Int} {k : Nat} {S T : AccS} (h : Pairs2 k many k S T) (hS : OkS S m) : T.skip many = S ∨ Ahead many S (T.skip many) := by
  rcases h with rfl | ⟨h1, _⟩
  · exact ahead_skip hS
  · omega
theorem pairs2_wants {at' many : Int} {k : Nat} {S T : AccS} (h : Pairs2 at' many k S T) : T.wants = S.wants := by
  rcases h with rfl | ⟨_, h2⟩
  · rfl
  · exact ahead_wants h2
theorem pairs2_par {at' many : Int} {k : Nat} {S T : AccS} (v : Vl) (h : Pairs2 at' many k S T) (hw : S.wants = true) : T = S := by
  rcases h with rfl | ⟨_, h2⟩
  · rfl
  · obtain ⟨_, h3, _⟩ := h2; rw [hw] at h3; cases h3
theorem pairs2_step {at' many : Int} {k : Nat} {S T : AccS} (N : NmS) (v : Vl) (h : Pairs2 at' many k S T) : Pairs2 at' many k (S.celG N v) (T.celG N v) := by
  rcases h with rfl | ⟨h1, h2⟩
  · exact Or.inl rfl
  · exact Or.inr ⟨h1, ahead_cel N v h2⟩
theorem pairs2_up {at' many : Int} {k : Nat} {S T : AccS} (h : Pairs2 at' many k S T) : Pairs2 at' many (k + 1) S T := by
  rcases h with rfl | ⟨h1, h2⟩
  · exact Or.inl rfl
  · exact Or.inr ⟨by omega, h2⟩
theorem and63 (n : Int) : ∃ N : Nat, N ≤ 63 ∧ bits .and .i64 n 63 = (N : Int) := by
  have h : (BitVec.ofInt 64 n &&& BitVec.ofInt 64 63).toNat ≤ 63 := by
    rw [BitVec.toNat_and]
    exact Nat.le_trans Nat.and_le_right (by decide)
  refine ⟨(BitVec.ofInt 64 n &&& BitVec.ofInt 64 63).toNat, h, ?_⟩
  show IntKind.i64.wrap ((BitVec.ofInt 64 n &&& BitVec.ofInt 64 63).toNat : Int) = _
  exact IntWalk.i64_in _ (by omega)
/-- What stands between two rounds. -/
structure BlR (N : NmS) (id at' many : Int) (pa pb : Nat) (w : World) (k : Nat) (S T : AccS) (wr : World) : Prop where
  a : Blk wr pa (accArr S (kdOf id)) 57
  b : Blk wr pb (accArr T (kdOf id)) 57
  below : Below w.heap.size w wr
  oa : OkS S (1 + 100 * k)
  ob : OkS T (1 + 100 * k)
  fa : S.fn = id
  fb : T.fn = id
  two : Pairs2 at' many k S T
set_option maxRecDepth 100000 in
set_option maxHeartbeats 40000000 in
theorem law_FnBlanks0 (N : NmS) (id at' many0 : Int) (nd : Vl) (vs : List Vl) (la : Option Addr) (lc n : Nat) (w : World) (hid : I64 id) (hat : I64 at') (hmany : I64 many0) (hnd : nd.In) (hn : vs.length = n) (hbig : n ≤ 140737488355328) (hin : ∀ v ∈ vs, v.In) (hc : ValAt w la vs) (ht : Tabs N w) :
    Calls Tryz.prog 5 #[.int .i64 id, .agg #[.int .i64 (nd).k, .int .i64 (nd).n, .int .i64 (nd).d, .string (nd).t, .bool (nd).b, .int .i64 (nd).f], .slice la n lc, .int .i64 at', .int .i64 many0] w fun e w' => e = .returned (.bool true) ∧ Below w.heap.size w w' := by
  have HI := Lib.hid hin
  have HC := Lib.hid hc
  have HN := Lib.hid hn
  have HT := Lib.hid ht
  have HND := Lib.hid hnd
  obtain ⟨many, hmb, em⟩ := and63 many0
  have W0 := Lib.hid (show Below w.heap.size w (w.alloc (.cells (vArr nd) 33)) from (Below.refl _ _).alloc (Nat.le_refl _) _)
  have N0 := Lib.hid (show Blk (w.alloc (.cells (vArr nd) 33)) w.heap.size (vArr nd) 33 from heap_alloc_new _ _)
  clear hin hc hn ht hnd
  go_enter Tryz.func5, Tryz.ntmps5
  go_wp2_with fail
  refine (law_able _).mono ?_
  rintro e w1 ⟨rfl, hb1⟩
  have W1 := Lib.hid (W0.out.trans (hb1.mono W0.out.size))
  have N1 := Lib.hid (N0.out.below hb1)
  clear hb1 W0 N0
  go_wp2_with fail
  refine (law_texts vs la lc n _ HN.out hbig HI.out (HC.out.below W1.out)).mono ?_
  rintro e w2 ⟨h1, rfl, hl1, hb2⟩
  have W2 := Lib.hid (W1.out.trans (hb2.mono W1.out.size))
  have N2 := Lib.hid (N1.out.below hb2)
  clear hb2 W1 N1
  cases h1
  case true =>
    go_wp2
    go_ret
    exact ⟨rfl, W2.out⟩
  case false =>
  have hn2 := hl1 rfl
  clear hl1
  by_cases hf : IsFold id
  case neg =>
    have HO := Lib.hid fun wx => funcs_Open_no id wx hid hf
    clear hf
    go_wp2_with fail
    refine (HO.out _).mono ?_
    rintro e w3 ⟨rfl, hb3⟩
    go_wp2_with fail
    refine (HO.out _).mono ?_
    rintro e w4 ⟨rfl, hb4⟩
    go_wp2
    go_ret
    exact ⟨rfl, (W2.out.trans (hb3.mono W2.out.size)).trans (hb4.mono (Nat.le_trans W2.out.size hb3.size))⟩
  case pos =>
  have HO := Lib.hid fun wx => funcs_OpenG id wx hf
  have HK := Lib.hid (okS_open hf)
  have HFn := Lib.hid (fn_open id)
  clear hf
  generalize openS id = S0 at *
  go_wp2_with fail
  refine (HO.out _).mono ?_
  rintro e w3 ⟨rfl, A3, hb3⟩
  have A3h := Lib.hid A3
  have W3 := Lib.hid (W2.out.trans (hb3.mono W2.out.size))
  have N3 := Lib.hid (N2.out.below hb3)
  have l3 := A3.lt
  have s2 := W2.out.size
  have sn := N2.out.lt
  clear A3 hb3 N2
  go_wp2_with fail
  refine (HO.out _).mono ?_
  rintro e w4 ⟨rfl, B4, hb4⟩
  have A4h := Lib.hid (A3h.out.below hb4)
  have B4h := Lib.hid B4
  have W4 := Lib.hid (W3.out.trans (hb4.mono W3.out.size))
  have N4 := Lib.hid (N3.out.below hb4)
  have s4 := hb4.size
  clear A3h B4 hb4 N3 W3 HO
  generalize hpa : w2.heap.size = pa at *
  generalize hpb : w3.heap.size = pb at *
  have nab : pa ≠ pb := by omega
  have nba : pb ≠ pa := by omega
  have nna : w.heap.size ≠ pa := by omega
  have nnb : w.heap.size ≠ pb := by omega
  have ga : w.heap.size ≤ pa := by omega
  have gb : w.heap.size ≤ pb := by omega
  clear hpa hpb l3 s2 sn s4
  have T4 := Lib.hid (tabs_keeps N _ _ W4.out HT.out)
  obtain ⟨_, _, _, _, _, _⟩ := N4.out.v6
  have HFa := Lib.hid (fed_at N pa S0 nd 0 id HK.out HFn.out (by decide) HND.out)
  have HFb := Lib.hid (fed_at N pb S0 nd 0 id HK.out HFn.out (by decide) HND.out)
  have HK1 := Lib.hid (HK.out.fed nd)
  have HF1 := Lib.hid ((fn_fed S0 nd).trans HFn.out)
  generalize S0.fedG nd = S1 at *
  go_wp2_with fail
  refine (HFa.out.out _ T4.out A4h.out).mono ?_
  rintro e w5 ⟨rfl, A5, hb5⟩
  have A5h := Lib.hid A5
  have B5h := Lib.hid (B4h.out.but hb5 nba)
  have N5 := Lib.hid (N4.out.but hb5 nna)
  have W5 := Lib.hid (W4.out.trans (but_below3 hb5 W4.out.size ga))
  clear A5 hb5 A4h B4h N4 W4 T4
  have T5 := Lib.hid (tabs_keeps N _ _ W5.out HT.out)
  obtain ⟨_, _, _, _, _, _⟩ := N5.out.v6
  go_wp2_with fail
  refine (HFb.out.out _ T5.out B5h.out).mono ?_
  rintro e w6 ⟨rfl, B6, hb6⟩
  have A6h := Lib.hid (A5h.out.but hb6 nab)
  have B6h := Lib.hid B6
  have W6 := Lib.hid (W5.out.trans (but_below3 hb6 W5.out.size gb))
  clear B6 hb6 A5h B5h N5 W5 T5 HFa HFb
  have R0 := Lib.hid (show BlR N id at' many pa pb w 0 S1 S1 w6 from ⟨A6h.out, B6h.out, W6.out, HK1.out.up (by decide), HK1.out.up (by decide), HF1.out, HF1.out, Or.inl rfl⟩)
  clear A6h B6h W6 HK1 HF1 HK HFn
  go_wp2
  go_loopw [15, 16] (fun i q wr => ∃ (k : Nat) (S T : AccS), k ≤ n ∧ i = .int .i64 k ∧ Hid (BlR N id at' many pa pb w k S T wr)) (fun i _ _ => n - (intOf i).toNat)
  case atStart => exact ⟨0, S1, S1, Nat.zero_le _, rfl, R0⟩
  case round =>
    clear R0
    obtain ⟨k, S, T, hk, rfl, R⟩ := hrel
    by_cases hlt : k < n
    · go_wp2
      go_loopw [16] (fun q wr => ∃ j : Nat, j ≤ many ∧ (¬ (k : Int) = at' → j = 0) ∧ q = .int .i64 j ∧ Hid (Blk wr pa (accArr S (kdOf id)) 57 ∧ Blk wr pb (accArr (T.skip j) (kdOf id)) 57 ∧ Below w.heap.size w wr)) (fun q _ => many - (intOf q).toNat)
      case atStart => exact ⟨0, Nat.zero_le _, fun _ => rfl, rfl, Lib.hid ⟨R.out.a, (by rw [show ((0 : Nat) : Int) = 0 from rfl, skip_zero]; exact R.out.b), R.out.below⟩⟩
      case round =>
        obtain ⟨j, hj, hj0, rfl, HQ⟩ := hrel
        go_upto_region 16 with (fail)
        go_cut [58] from 51 to 57 (fun s wx => wx = wr ∧ ∃ c : Bool, s = .bool c ∧ (c = true ↔ ((k : Int) = at' ∧ j < many)))
        case first =>
          by_cases h1 : (k : Int) = at'
          · have e1 : ((k : Int) == at') = true := by simp [h1]
            have H1 := Lib.hid h1
            clear h1
            by_cases h2 : j < many
            · go_wp2
              go_meet
              exact ⟨rfl, true, rfl, fun _ => ⟨H1.out, h2⟩, fun _ => rfl⟩
            · go_wp2
              go_meet
              exact ⟨rfl, false, rfl, fun h => (by cases h), fun h => absurd h.2 h2⟩
          · have e1 : ((k : Int) == at') = false := by simp [h1]
            have H1 := Lib.hid h1
            clear h1
            go_wp2
            go_meet
            exact ⟨rfl, false, rfl, fun h => (by cases h), fun h => absurd h.1 H1.out⟩
        case rest =>
        obtain ⟨hwc, c, rfl, hcc⟩ := hcut
        rw [hwc]
        clear hwc
        cases c
        case true =>
          have hjm := (hcc.1 rfl).2
          have hka := Lib.hid (hcc.1 rfl).1
          clear hcc
          have HCb := Lib.hid (cel_at N pb (T.skip j) blankV (1 + 100 * k + j) id (okS_skip R.out.ob (by omega)) ((skip_fn T j).trans R.out.fb) (by omega) (right_in (by decide : rightV blankV = true)))
          rw [blank_cel R.out.ob N j] at HCb
          have HTk := Lib.hid (tabs_keeps N _ _ HQ.out.2.2 HT.out)
          go_wp2_with fail
          refine (HCb.out.out _ HTk.out HQ.out.2.1).mono ?_
          rintro e wE ⟨rfl, B2, hb2⟩
          go_wp2
          go_roundw
          case rel =>
            obtain ⟨q1, q2, q3⟩ := HQ.out
            exact ⟨j + 1, by omega, fun h => absurd hka.out h, by go_num, Lib.hid ⟨q1.but hb2 nab, B2, q3.trans (but_below3 hb2 q3.size gb)⟩⟩
          case measure => simp [intOf]; omega
        case false =>
          have hP : Pairs2 at' many (k + 1) S (T.skip j) := by
            by_cases h1 : (k : Int) = at'
            · have hjm : j = many := by
                by_cases h2 : j < many
                · exact absurd (hcc.2 ⟨h1, h2⟩) (by decide)
                · omega
              subst hjm
              have h2 := R.out.two
              rw [← h1] at h2
              rcases pairs2_here h2 R.out.oa with h3 | h3
              · exact Or.inl h3
              · exact Or.inr ⟨by omega, h3⟩
            · have hj1 := hj0 h1
              subst hj1
              rw [show ((0 : Nat) : Int) = 0 from rfl, skip_zero]
              exact pairs2_up R.out.two
          have HP := Lib.hid hP
          have oa := Lib.hid R.out.oa
          have ob := Lib.hid (okS_skip (j := j) R.out.ob (by omega))
          have fa := Lib.hid R.out.fa
          have fb := Lib.hid ((skip_fn T j).trans R.out.fb)
          clear hP hcc hj0
          generalize T.skip j = U at *
          obtain ⟨b, off, rfl, hbw, hrow⟩ := HC.out (by rw [HN.out]; omega)
          obtain ⟨x, hx⟩ : ∃ x, vs[k]? = some x := ⟨_, List.getElem?_eq_getElem (by rw [HN.out]; exact hlt)⟩
          have hxin := HI.out x (List.mem_of_getElem? hx)
          have HRow := Lib.hid hrow
          have HX := Lib.hid hx
          have HC1 := Lib.hid (cel_at N pa S x (1 + 100 * k) id oa.out fa.out (by omega) hxin)
          have HC2 := Lib.hid (cel_at N pb U x (1 + 100 * k + j) id ob.out fb.out (by omega) hxin)
          have P2 := Lib.hid (pairs2_step N x HP.out)
          have oa2 := Lib.hid (oa.out.cel N x)
          have ob2 := Lib.hid (ob.out.cel N x)
          have fa2 := Lib.hid ((fn_cel S N x).trans fa.out)
          have fb2 := Lib.hid ((fn_cel U N x).trans fb.out)
          clear HP oa ob fa fb hxin hx hrow R
          generalize S.celG N x = S2 at *
          generalize U.celG N x = U2 at *
          obtain ⟨c0, c1, c2, c3, c4, c5⟩ := (HRow.out.below hbw HQ.out.2.2) k x HX.out
          have HTk := Lib.hid (tabs_keeps N _ _ HQ.out.2.2 HT.out)
          go_wp2_with fail
          refine (HC1.out.out _ HTk.out HQ.out.1).mono ?_
          rintro e wE ⟨rfl, A2, hb2⟩
          have HE := Lib.hid (And.intro A2 (And.intro (HQ.out.2.1.but hb2 nba) (HQ.out.2.2.trans (but_below3 hb2 HQ.out.2.2.size ga))))
          clear A2 hb2 HQ HTk c0 c1 c2 c3 c4 c5 HC1
          obtain ⟨c0, c1, c2, c3, c4, c5⟩ := (HRow.out.below hbw HE.out.2.2) k x HX.out
          have HTk := Lib.hid (tabs_keeps N _ _ HE.out.2.2 HT.out)
          go_wp2_with fail
          refine (HC2.out.out _ HTk.out HE.out.2.1).mono ?_
          rintro e wF ⟨rfl, B2, hb2⟩
          have HFx := Lib.hid (And.intro (HE.out.1.but hb2 nab) (And.intro B2 (HE.out.2.2.trans (but_below3 hb2 HE.out.2.2.size gb))))
          clear B2 hb2 HE HTk c0 c1 c2 c3 c4 c5 HC2
          have hWe := pairs2_wants P2.out
          have HWa := Lib.hid (acc_Wants pa S2 _ _ HFx.out.1)
          have HWb := Lib.hid (acc_Wants pb U2 _ _ HFx.out.2.1)
          rw [hWe] at HWb
          clear hWe
          cases hw : S2.wants
          case false =>
            rw [hw] at HWa HWb
            go_wp2_with fail
            refine HWa.out.mono ?_
            rintro e wG ⟨rfl, rfl⟩
            go_wp2_with fail
            refine HWb.out.mono ?_
            rintro e wG ⟨rfl, rfl⟩
            go_wp2_with fail
            refine HWa.out.mono ?_
            rintro e wG ⟨rfl, rfl⟩
            go_wp2
            go_roundw
            case rel =>
              exact ⟨k + 1, S2, U2, by omega, by go_num, Lib.hid ⟨HFx.out.1, HFx.out.2.1, HFx.out.2.2, oa2.out.up (by push_cast; omega), ob2.out.up (by push_cast; omega), fa2.out, fb2.out, P2.out⟩⟩
            case measure => simp [intOf]; omega
          case true =>
            have hUS : U2 = S2 := pairs2_par blankV P2.out hw
            rw [hw] at HWa HWb
            have HPa := Lib.hid (par_at pa S2 blankV _ id oa2.out fa2.out (right_in (by decide : rightV blankV = true)))
            have HPb := Lib.hid (par_at pb U2 blankV _ id ob2.out fb2.out (right_in (by decide : rightV blankV = true)))
            have HUS := Lib.hid hUS
            clear hUS
            go_wp2_with fail
            refine HWa.out.mono ?_
            rintro e wG ⟨rfl, rfl⟩
            go_wp2_with fail
            refine HWb.out.mono ?_
            rintro e wG ⟨rfl, rfl⟩
            go_wp2_with fail
            refine HWa.out.mono ?_
            rintro e wG ⟨rfl, rfl⟩
            clear HWa HWb
            go_wp2_with fail
            refine (HPa.out.out _ HFx.out.1).mono ?_
            rintro e wH ⟨rfl, A2, hb2⟩
            have HE := Lib.hid (And.intro A2 (And.intro (HFx.out.2.1.but hb2 nba) (HFx.out.2.2.trans (but_below3 hb2 HFx.out.2.2.size ga))))
            clear A2 hb2 HFx HPa
            go_wp2_with fail
            refine (HPb.out.out _ HE.out.2.1).mono ?_
            rintro e wI ⟨rfl, B2, hb2⟩
            have HG := Lib.hid (And.intro (HE.out.1.but hb2 nab) (And.intro B2 (HE.out.2.2.trans (but_below3 hb2 HE.out.2.2.size gb))))
            clear B2 hb2 HE HPb
            go_wp2
            go_roundw
            case rel =>
              exact ⟨k + 1, S2.parG blankV, U2.parG blankV, by omega, by go_num, Lib.hid ⟨HG.out.1, HG.out.2.1, HG.out.2.2, (oa2.out.par blankV).up (by push_cast; omega), (ob2.out.par blankV).up (by push_cast; omega), (fn_par _ _).trans fa2.out, (fn_par _ _).trans fb2.out, Or.inl (by rw [HUS.out])⟩⟩
            case measure => simp [intOf]; omega
    · obtain rfl : k = n := by omega
      by_cases h20 : id = 20
      · have hfull : T.full = S.full := by
          rcases R.out.two with h | ⟨_, h⟩
          · rw [h]
          · exact ahead_full h
        have hres : S.full = false → T.resG = S.resG := fun hu => by
          rcases R.out.two with h | ⟨_, h⟩
          · rw [h]
          · exact ahead_res h hu
        have hcnt : T.count = S.count ∨ T.count = S.count + many := by
          rcases R.out.two with h | ⟨_, h⟩
          · rw [h]; exact Or.inl rfl
          · exact ahead_count h
        have hs0 := R.out.oa.c0
        have hs1 := R.out.oa.c1
        have hw1 := w64 (x := S.count + many) (by omega) (by omega)
        subst h20
        have HSa := Lib.hid fun wx (hx : Below wr.heap.size wr wx) => acc_State pa S _ _ (R.out.a.below hx)
        have HSb := Lib.hid fun wx (hx : Below wr.heap.size wr wx) => acc_State pb T _ _ (R.out.b.below hx)
        have HFs := Lib.hid hfull
        have HRe := Lib.hid hres
        have HCn := Lib.hid hcnt
        clear hfull hres hcnt
        go_wp2_with fail
        refine (HSa.out _ (Below.refl _ _)).mono ?_
        rintro e wE ⟨rfl, hb2⟩
        go_wp2_with fail
        refine (HSb.out _ hb2).mono ?_
        rintro e wF ⟨rfl, hb3⟩
        have hbF := hb2.trans (hb3.mono hb2.size)
        have HE := Lib.hid (And.intro (R.out.a.below hbF) (And.intro (R.out.b.below hbF) (R.out.below.trans (hbF.mono R.out.below.size))))
        have gF := (R.out.below.trans (hbF.mono R.out.below.size)).size
        clear hb2 hb3 hbF HSa HSb
        dsimp only
        rename_i hK
        refine hK _ _ ?_
        clear hK
        refine wpList_cut ?_
        go_wp2
        unfold ThenL
        refine wpList_cut ?_
        go_wp2
        unfold ThenL
        refine wpList_rebase ?_
        intro wG hb'
        have hb := hb'.out
        clear hb'
        have AG := ((HE.out.1.alloc (.cells accZ 35)).alloc (.cells accZ 35)).below hb
        have BG := ((HE.out.2.1.alloc (.cells accZ 35)).alloc (.cells accZ 35)).below hb
        have XG : Blk wG wF.heap.size accZ 35 := (Blk.alloc (show Blk (wF.alloc (.cells accZ 35)) wF.heap.size accZ 35 from heap_alloc_new _ _) (.cells accZ 35)).below hb
        have YG : Blk wG (wF.heap.size + 1) accZ 35 := by
          have h := (show Blk ((wF.alloc (.cells accZ 35)).alloc (.cells accZ 35)) (wF.alloc (.cells accZ 35)).heap.size accZ 35 from heap_alloc_new _ _)
          rw [sz_alloc] at h
          exact h.below hb
        have WG := ((HE.out.2.2.alloc gF (.cells accZ 35)).alloc (by simp only [sz_alloc]; omega) (.cells accZ 35)).trans (hb.mono (by simp only [sz_alloc]; omega))
        clear hb
        have lpa := HE.out.1.lt
        have lpb := HE.out.2.1.lt
        have m1 : pa ≠ wF.heap.size := by omega
        have m2 : pb ≠ wF.heap.size := by omega
        have m3 : pa ≠ wF.heap.size + 1 := by omega
        have m4 : pb ≠ wF.heap.size + 1 := by omega
        have m5 : wF.heap.size + 1 ≠ wF.heap.size := by omega
        have m6 : wF.heap.size ≠ wF.heap.size + 1 := by omega
        have gF1 : w.heap.size ≤ wF.heap.size + 1 := by omega
        clear HE
        refine wpList_store_blk S XG rfl rfl rfl rfl ?_
        simp only [Act.put]
        have X1 := blk_whole S XG
        have Y1 := blk_setCells_ne m5 (accC S).toList 0 _ YG
        have A1 := blk_setCells_ne m1 (accC S).toList 0 _ AG
        have B1 := blk_setCells_ne m2 (accC S).toList 0 _ BG
        have V1 := WG.trans (below_setCells gF (accC S).toList 0 wG)
        clear XG YG AG BG WG
        generalize wG.setCells wF.heap.size 0 (accC S).toList = wP at *
        refine wpList_store_blk T Y1 rfl rfl rfl rfl ?_
        simp only [Act.put]
        have Y2 := blk_whole T Y1
        have X2 := blk_setCells_ne m6 (accC T).toList 0 _ X1
        have A2 := blk_setCells_ne m3 (accC T).toList 0 _ A1
        have B2 := blk_setCells_ne m4 (accC T).toList 0 _ B1
        have V2 := V1.trans (below_setCells gF1 (accC T).toList 0 wP)
        clear X1 Y1 A1 B1 V1
        generalize wP.setCells (wF.heap.size + 1) 0 (accC T).toList = wQ at *
        have HQ := Lib.hid (And.intro A2 (And.intro B2 (And.intro X2 (And.intro Y2 V2))))
        have HFa := Lib.hid (acc_Full pa S _ _ A2)
        have HFb := Lib.hid (acc_Full pb T _ _ B2)
        rw [HFs.out] at HFb
        clear A2 B2 X2 Y2 V2 m1 m2 m3 m4 m5 m6
        cases hu : S.full
        case true =>
          rw [hu] at HFa HFb
          obtain ⟨⟨_, _, _, _⟩, ⟨_, _, _, _, _, _⟩, ⟨_, _, _, _, _, _⟩, _, _, _, _, _⟩ := accC_cells HQ.out.2.2.1
          obtain ⟨⟨_, _, _, _⟩, ⟨_, _, _, _, _, _⟩, ⟨_, _, _, _, _, _⟩, _, _, _, _, _⟩ := accC_cells HQ.out.2.2.2.1
          by_cases hc1 : T.count = S.count
          · have e1 : (T.count == S.count) = true := by simp [hc1]
            clear hc1
            go_wp2_with fail
            refine HFa.out.mono ?_
            rintro e wx ⟨rfl, rfl⟩
            go_wp2_with fail
            refine HFb.out.mono ?_
            rintro e wx ⟨rfl, rfl⟩
            go_wp2_with fail
            refine HFa.out.mono ?_
            rintro e wx ⟨rfl, rfl⟩
            go_wp2
            go_ret
            exact ⟨rfl, HQ.out.2.2.2.2⟩
          · have e1 : (T.count == S.count) = false := by simp [hc1]
            have e2 : (T.count == S.count + many) = true := by
              rcases HCn.out with h | h
              · exact absurd h hc1
              · simp [h]
            clear hc1
            go_wp2_with fail
            refine HFa.out.mono ?_
            rintro e wx ⟨rfl, rfl⟩
            go_wp2_with fail
            refine HFb.out.mono ?_
            rintro e wx ⟨rfl, rfl⟩
            go_wp2_with fail
            refine HFa.out.mono ?_
            rintro e wx ⟨rfl, rfl⟩
            go_wp2
            go_ret
            exact ⟨by first | rfl | (simp [e2]; done), HQ.out.2.2.2.2⟩
        case false =>
          rw [hu] at HFa HFb
          have HRa := Lib.hid fun wx (hx : Below wQ.heap.size wQ wx) => res_at pa S _ _ wx R.out.oa R.out.fa (by omega) (HQ.out.1.below hx)
          have HRb := Lib.hid fun wx (hx : Below wQ.heap.size wQ wx) => res_at pb T _ _ wx R.out.ob R.out.fb (by omega) (HQ.out.2.1.below hx)
          rw [HRe.out hu] at HRb
          generalize S.resG = X at *
          have hv : veq ⟨X.k, X.n, X.d, X.t, X.b, X.f⟩ ⟨X.k, X.n, X.d, X.t, X.b, X.f⟩ = true := veq_true.2 rfl
          by_cases hc1 : T.count = S.count
          · have e1 : (T.count == S.count) = true := by simp [hc1]
            clear hc1
            go_wp2_with fail
            refine HFa.out.mono ?_
            rintro e wx ⟨rfl, rfl⟩
            go_wp2_with fail
            refine HFb.out.mono ?_
            rintro e wx ⟨rfl, rfl⟩
            go_wp2_with fail
            refine HFa.out.mono ?_
            rintro e wx ⟨rfl, rfl⟩
            go_wp2_with fail
            refine (HRa.out _ (Below.refl _ _)).mono ?_
            rintro e wS ⟨rfl, hb2⟩
            go_wp2_with fail
            refine (HRb.out _ hb2).mono ?_
            rintro e wT ⟨rfl, hb3⟩
            have hbT := hb2.trans (hb3.mono hb2.size)
            obtain ⟨⟨_, _, _, _⟩, ⟨_, _, _, _, _, _⟩, ⟨_, _, _, _, _, _⟩, _, _, _, _, _⟩ := accC_cells (HQ.out.2.2.1.below hbT)
            obtain ⟨⟨_, _, _, _⟩, ⟨_, _, _, _, _, _⟩, ⟨_, _, _, _, _, _⟩, _, _, _, _, _⟩ := accC_cells (HQ.out.2.2.2.1.below hbT)
            go_wp2
            go_ret
            exact ⟨rfl, HQ.out.2.2.2.2.trans (hbT.mono HQ.out.2.2.2.2.size)⟩
          · have e1 : (T.count == S.count) = false := by simp [hc1]
            have e2 : (T.count == S.count + many) = true := by
              rcases HCn.out with h | h
              · exact absurd h hc1
              · simp [h]
            clear hc1
            go_wp2_with fail
            refine HFa.out.mono ?_
            rintro e wx ⟨rfl, rfl⟩
            go_wp2_with fail
            refine HFb.out.mono ?_
            rintro e wx ⟨rfl, rfl⟩
            go_wp2_with fail
            refine HFa.out.mono ?_
            rintro e wx ⟨rfl, rfl⟩
            go_wp2_with fail
            refine (HRa.out _ (Below.refl _ _)).mono ?_
            rintro e wS ⟨rfl, hb2⟩
            go_wp2_with fail
            refine (HRb.out _ hb2).mono ?_
            rintro e wT ⟨rfl, hb3⟩
            have hbT := hb2.trans (hb3.mono hb2.size)
            obtain ⟨⟨_, _, _, _⟩, ⟨_, _, _, _, _, _⟩, ⟨_, _, _, _, _, _⟩, _, _, _, _, _⟩ := accC_cells (HQ.out.2.2.1.below hbT)
            obtain ⟨⟨_, _, _, _⟩, ⟨_, _, _, _, _, _⟩, ⟨_, _, _, _, _, _⟩, _, _, _, _, _⟩ := accC_cells (HQ.out.2.2.2.1.below hbT)
            go_wp2
            go_ret
            exact ⟨by first | rfl | (simp [e2]; done), HQ.out.2.2.2.2.trans (hbT.mono HQ.out.2.2.2.2.size)⟩
      · have hTS : T = S := by
          rcases R.out.two with h | ⟨_, h⟩
          · exact h
          · exact absurd (R.out.fa.symm.trans h.1) h20
        have HSa := Lib.hid fun wx (hx : Below wr.heap.size wr wx) => acc_State pa S _ _ (R.out.a.below hx)
        have HSb := Lib.hid fun wx (hx : Below wr.heap.size wr wx) => acc_State pb T _ _ (R.out.b.below hx)
        rw [hTS] at HSb
        have hae := aeq_self S
        clear hTS
        go_wp2_with fail
        refine (HSa.out _ (Below.refl _ _)).mono ?_
        rintro e wE ⟨rfl, hb2⟩
        go_wp2_with fail
        refine (HSb.out _ hb2).mono ?_
        rintro e wF ⟨rfl, hb3⟩
        go_wp2
        go_ret
        exact ⟨by first | rfl | rw [hae], (R.out.below.trans (hb2.mono R.out.below.size)).trans (hb3.mono (Nat.le_trans R.out.below.size hb2.size))⟩
end Go.Proofs.YtnimenpfojcehaaGreatDoor
