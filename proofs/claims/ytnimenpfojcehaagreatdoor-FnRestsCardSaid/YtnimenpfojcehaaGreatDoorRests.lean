/- The walk of FnRests. -/
import Derived.Test.YtnimenpfojcehaaGreatDoorBx4
import Derived.Test.YtnimenpfojcehaaGreatDoorAble
import Derived.Test.YtnimenpfojcehaaGreatDoorEach
import Derived.Deep.QuietTactic
import Derived.BigQuiet
import Derived.Deep.Cut
namespace Go.Proofs.YtnimenpfojcehaaGreatDoor
open Go Go.RowKit
set_option linter.unusedSimpArgs false
set_option linter.unusedVariables false

def VR (S Sh : AccS) (R : Vl) (pa pb ph : Nat) : Nat → Value → World → Prop
  | 0, v, _ => v = .pointer (some ⟨pb, 0, none⟩)
  | 1, v, _ => v = accV S
  | 2, v, _ => v = .pointer (some ⟨pa, 0, none⟩)
  | 3, v, _ => v = accV S
  | 4, v, _ => v = .bool true
  | 5, v, _ => v = .bool true
  | 6, v, _ => v = .pointer (some ⟨pb, 0, none⟩)
  | 7, v, _ => v = .agg #[.int .i64 (R).k, .int .i64 (R).n, .int .i64 (R).d, .string (R).t, .bool (R).b, .int .i64 (R).f]
  | 8, v, _ => v = .pointer (some ⟨pa, 0, none⟩)
  | 9, v, _ => v = .agg #[.int .i64 (R).k, .int .i64 (R).n, .int .i64 (R).d, .string (R).t, .bool (R).b, .int .i64 (R).f]
  | 10, v, _ => v = .bool true
  | 11, v, _ => v = .bool true
  | 12, v, _ => v = .bool true
  | 13, v, _ => v = .pointer (some ⟨ph, 0, none⟩)
  | 14, v, _ => v = accV Sh
  | 15, v, _ => v = accV Sh
  | 16, v, _ => v = .bool true
  | 17, v, _ => v = .bool true
  | _, _, _ => True
theorem VR.below (S Sh : AccS) (R : Vl) (pa pb ph : Nat) : ∀ k v w1 w2, VR S Sh R pa pb ph k v w1 → Below w1.heap.size w1 w2 → VR S Sh R pa pb ph k v w2 := by
  intro k v w1 w2 h hb
  rcases k with _ | _ | _ | _ | _ | _ | _ | _ | _ | _ | _ | _ | _ | _ | _ | _ | _ | _ | k
  all_goals first | exact h

set_option maxRecDepth 100000 in
set_option maxHeartbeats 40000000 in
theorem law_FnRests0 (N : NmS) (id ix : Int) (vs : List Vl) (la : Option Addr) (lc n : Nat) (w : World) (hid : I64 id) (hix : I64 ix) (hn : vs.length = n) (hbig : n ≤ 140737488355328) (hform : (la = none ∧ n = 0 ∧ lc = 0) ∨ (∃ a, la = some a) ∧ n ≤ lc) (hin : ∀ v ∈ vs, v.In) (hc : ValAt w la vs) (ht : Tabs N w) :
    Calls Tryz.prog 3 #[.int .i64 id, .slice la n lc, .int .i64 ix] w fun e w' => e = .returned (.bool true) ∧ Below w.heap.size w w' := by
  have HI := Lib.hid hin
  have HC := Lib.hid hc
  have HN := Lib.hid hn
  have HT := Lib.hid ht
  have HF := Lib.hid hform
  clear hin hc hn ht hform
  go_enter Tryz.func3, Tryz.ntmps3
  go_wp2_with fail
  refine (law_able _).mono ?_
  rintro e w1 ⟨rfl, hb1⟩
  go_wp2_with fail
  refine (law_texts vs la lc n _ HN.out hbig HI.out (HC.out.below hb1)).mono ?_
  rintro e w2 ⟨h1, rfl, hl1, hb2⟩
  have W2 := Lib.hid (hb1.trans (hb2.mono hb1.size))
  clear hb1 hb2
  cases h1
  case true =>
    go_wp2
    go_ret
    exact ⟨rfl, W2.out⟩
  case false =>
  have hn2 := hl1 rfl
  clear hl1
  by_cases hf : IsFold id
  case neg =>
    have HO := Lib.hid fun wx => funcs_Open_no id wx hid hf
    have HL := Lib.hid fun wx => law_foldNo id la n lc wx hid hf
    clear hf
    go_wp2_with fail
    refine (HL.out _).mono ?_
    rintro e w3 ⟨rfl, hb3⟩
    go_wp2_with fail
    refine (HO.out _).mono ?_
    rintro e w4 ⟨rfl, hb4⟩
    go_wp2
    go_ret
    exact ⟨rfl, (W2.out.trans (hb3.mono W2.out.size)).trans (hb4.mono (Nat.le_trans W2.out.size hb3.size))⟩
  case pos =>
  have HK := Lib.hid (okS_open hf)
  have HFn := Lib.hid (fn_open id)
  have T2 := Lib.hid (tabs_keeps N _ _ W2.out HT.out)
  have C2 := Lib.hid (HC.out.below W2.out)
  have L0 := Lib.hid (law_foldAny N id vs la n lc w2 hf HN.out (by omega) HI.out C2.out T2.out)
  have Lh := Lib.hid fun (k : Nat) (wx : World) (hk : k ≤ n) (hbx : Below w2.heap.size w2 wx) => law_foldAny N id (vs.take k) la k lc wx hf (by rw [List.length_take, HN.out]; omega) (by omega) (fun v hv => HI.out v (List.mem_of_mem_take hv)) (fun h0 => by
    obtain ⟨b, off, e1, e2, e3⟩ := C2.out.below hbx (by rw [List.length_take] at h0; omega)
    refine ⟨b, off, e1, e2, fun j v hv => e3 j v ?_⟩
    rw [List.getElem?_take] at hv
    split at hv
    · exact hv
    · cases hv) (tabs_keeps N _ _ hbx T2.out)
  generalize openS id = S0 at *
  clear hf
  go_wp2_with fail
  refine L0.out.mono ?_
  clear L0
  rintro e wA ⟨rfl, A0, hbA⟩
  have BA := Lib.hid A0
  have WA := Lib.hid hbA
  clear A0 hbA
  go_upto_if 36 with (fail)
  go_cut [10] from 18 (fun s wx => wx = wA ∧ ∃ k : Nat, k ≤ n ∧ s = .int .i64 k)
  case first =>
    by_cases h0 : n = 0
    · subst h0
      go_wp2_with fail
      go_meet
      exact ⟨rfl, 0, by omega, rfl⟩
    · have hmi : ¬ (n : Int) = 0 := by omega
      have hpos : 0 < n := by omega
      have hab : (ix.tmod (n : Int)).natAbs < n := by rw [Int.natAbs_tmod, Int.natAbs_natCast]; exact Nat.mod_lt _ (by omega)
      by_cases hneg : ix.tmod (n : Int) < 0
      · go_wp2_with fail
        go_meet
        exact ⟨rfl, (ix.tmod (n : Int) + n).toNat, by omega, by rw [Int.toNat_of_nonneg (by omega)]⟩
      · go_wp2_with fail
        go_meet
        exact ⟨rfl, (ix.tmod (n : Int)).toNat, by omega, by rw [Int.toNat_of_nonneg (by omega)]⟩
  case rest =>
  obtain ⟨hwc, k, hk, rfl⟩ := hcut
  rw [hwc]
  clear hwc
  have Lk := Lib.hid fun wx hbx => Lh.out k wx hk hbx
  clear Lh
  have hokh : OkS (celsG N S0 (vs.take k)) 1000000 := (cels_ok HK.out (vs.take k)).up (by rw [List.length_take]; omega)
  have HOKH := Lib.hid hokh
  have hfnh : (celsG N S0 (vs.take k)).fn = id := (cels_fn N S0 _).trans HFn.out
  have HFNH := Lib.hid hfnh
  have HBk := Lib.hid fun wx => funcs_Back (celsG N S0 (vs.take k)) 1000000 wx hokh (by omega)
  rw [hfnh] at HBk
  have HFt := Lib.hid fun wx b (hx : Blk wx b (accArr (celsG N S0 (vs.take k)) (kdOf id)) 57) => acc_CellG N b (celsG N S0 (vs.take k)) (faultV 3) 1000000 hokh (by omega) (right_in (by decide : rightV (faultV 3) = true))
  rw [hfnh] at HFt
  clear hokh hfnh
  have HCl := Lib.hid fun (i : Nat) (x : Vl) (b : Nat) (hi : i ≤ n) (hx : vs[i]? = some x) => (show TurnsI (Tabs N) 12 #[.pointer (some ⟨b, 0, none⟩), .agg #[.int .i64 (x).k, .int .i64 (x).n, .int .i64 (x).d, .string (x).t, .bool (x).b, .int .i64 (x).f]] b (celsG N S0 (vs.take i)) (celsG N S0 (vs.take (i + 1))) (kdOf id) from by
    have h1 : OkS (celsG N S0 (vs.take i)) 1000000 := (cels_ok HK.out (vs.take i)).up (by rw [List.length_take]; omega)
    have h2 := acc_CellG N b (celsG N S0 (vs.take i)) x 1000000 h1 (by omega) (HI.out x (List.mem_of_getElem? hx))
    have h3 : (celsG N S0 (vs.take i)).fn = id := (cels_fn N S0 _).trans HFn.out
    rw [h3] at h2
    have e1 : vs.take (i + 1) = vs.take i ++ [x] := by rw [List.take_add_one, hx]; rfl
    rw [e1, cels_snoc]
    exact h2)
  have HRs := Lib.hid fun p (wx : World) (hx : Blk wx p (accArr (celsG N S0 vs) (kdOf id)) 57) => (show Calls Tryz.prog 13 #[.pointer (some ⟨p, 0, none⟩)] wx fun e w' => e = .returned (.agg #[.int .i64 ((celsG N S0 vs).resG).k, .int .i64 ((celsG N S0 vs).resG).n, .int .i64 ((celsG N S0 vs).resG).d, .string ((celsG N S0 vs).resG).t, .bool ((celsG N S0 vs).resG).b, .int .i64 ((celsG N S0 vs).resG).f]) ∧ Below wx.heap.size wx w' from by
    have h1 : OkS (celsG N S0 vs) 1000000 := (cels_ok HK.out vs).up (by rw [HN.out]; omega)
    have h3 : (celsG N S0 vs).fn = id := (cels_fn N S0 _).trans HFn.out
    exact acc_ResultG p (celsG N S0 vs) 1000000 wx h1 (by omega) (by rw [h3]; exact hx))
  have hlA := BA.out.lt
  go_upto_region 14 with (fail)
  go_cut [11] from 47 to 51 (fun s wx => s = .pointer (some ⟨wA.heap.size, 0, none⟩) ∧ Blk wx wA.heap.size (accArr (celsG N S0 (vs.take k)) (kdOf id)) 57 ∧ Below wA.heap.size wA wx)
  case first =>
    rcases HF.out with ⟨rfl, rfl, rfl⟩ | ⟨⟨a, rfl⟩, hcap⟩
    · obtain rfl : k = 0 := by omega
      go_wp2_with fail
      refine (Lk.out _ WA.out).mono ?_
      rintro e wx ⟨rfl, B1, hb1⟩
      go_wp2
      go_meet
      exact ⟨rfl, B1, hb1⟩
    · have hkc : k ≤ lc := by omega
      go_wp2_with fail
      refine (Lk.out _ WA.out).mono ?_
      rintro e wx ⟨rfl, B1, hb1⟩
      go_wp2
      go_meet
      exact ⟨rfl, B1, hb1⟩
  case rest =>
  obtain ⟨rfl, BH0, hbH⟩ := hcut
  have BH1 := Lib.hid BH0
  have BA1 := Lib.hid (BA.out.below hbH)
  have WH := Lib.hid (W2.out.trans ((WA.out.trans (hbH.mono WA.out.size)).mono W2.out.size))
  have sH := hbH.size
  have lH := BH0.lt
  clear BH0 hbH Lk BA
  go_wp2_with fail
  refine (acc_State wA.heap.size (celsG N S0 (vs.take k)) _ _ BH1.out).mono ?_
  rintro e wB ⟨rfl, hbB⟩
  dsimp only
  rename_i hK
  refine hK _ _ ?_
  have BHB := Lib.hid (BH1.out.below hbB)
  have BAB := Lib.hid (BA1.out.below hbB)
  have WB := Lib.hid (WH.out.trans (hbB.mono WH.out.size))
  have sB := hbB.size
  clear hbB BH1 BA1 WH
  refine wpList_cut ?_
  go_wp2
  unfold ThenL
  refine wpList_store_acc (celsG N S0 (vs.take k)) rfl rfl rfl rfl ?_
  simp only [Act.put]
  have BS0 := Lib.hid (blk_new wB (celsG N S0 (vs.take k)))
  have BH2 := Lib.hid (BHB.out.alloc (.cells (accC (celsG N S0 (vs.take k))) 35))
  have BA2 := Lib.hid (BAB.out.alloc (.cells (accC (celsG N S0 (vs.take k))) 35))
  have W2b := Lib.hid (WB.out.alloc (by have := WB.out.size; omega) (.cells (accC (celsG N S0 (vs.take k))) 35))
  have hz : wB.heap.size < (wB.alloc (.cells (accC (celsG N S0 (vs.take k))) 35)).heap.size := by simp only [sz_alloc]; omega
  clear BHB BAB WB
  generalize wB.alloc (.cells (accC (celsG N S0 (vs.take k))) 35) = wS at *
  go_upto_region 16 with (fail)
  refine wp_region_lit ?_
  refine wpList_load_acc (celsG N S0 (vs.take k)) rfl rfl rfl (range_accC BS0.out) ?_
  simp only [Act.put]
  go_wp2_with fail
  refine (HBk.out _).mono ?_
  rintro e wC ⟨rfl, BB0, hbC⟩
  have BSC := Lib.hid (BS0.out.below hbC)
  have BHC := Lib.hid (BH2.out.below hbC)
  have BAC := Lib.hid (BA2.out.below hbC)
  have BBC := Lib.hid BB0
  have WC := Lib.hid (W2b.out.trans (hbC.mono W2b.out.size))
  have sC := hbC.size
  have lC := BB0.lt
  clear hbC BS0 BH2 BA2 W2b BB0
  go_upto_region 17 with (fail)
  refine wp_region_lit ?_
  refine wpList_load_acc (celsG N S0 (vs.take k)) rfl rfl rfl (range_accC BSC.out) ?_
  simp only [Act.put]
  go_wp2_with fail
  refine (HBk.out _).mono ?_
  rintro e wD ⟨rfl, BC0, hbD⟩
  have BS := Lib.hid (BSC.out.below hbD)
  have BH := Lib.hid (BHC.out.below hbD)
  have BA := Lib.hid (BAC.out.below hbD)
  have BB := Lib.hid (BBC.out.below hbD)
  have BC := Lib.hid BC0
  have WD := Lib.hid (WC.out.trans (hbD.mono WC.out.size))
  have sD := hbD.size
  clear hbD BSC BHC BAC BBC BC0 WC HBk
  have sW2 := W2.out.size
  have hsz := Lib.hid (And.intro sH (And.intro sB (And.intro sC (And.intro sD (And.intro sW2 (And.intro hz (And.intro hlA (And.intro lH lC))))))))
  generalize hpa : w2.heap.size = pa at *
  generalize hph : wA.heap.size = ph at *
  generalize hps : wB.heap.size = ps at *
  generalize hpb : wS.heap.size + 1 = pb at *
  generalize hpc : wC.heap.size + 1 = pc at *
  have n1 : pa ≠ pb := by omega
  have n2 : ph ≠ pb := by omega
  have n3 : ps ≠ pb := by omega
  have n4 : pc ≠ pb := by omega
  have n5 : pa ≠ pc := by omega
  have n6 : ph ≠ pc := by omega
  have n7 : ps ≠ pc := by omega
  have g1 : w.heap.size ≤ pb := by omega
  have g2 : w.heap.size ≤ pc := by omega
  clear hpa hph hps hpb hpc hsz sH sB sC sD sW2 hz hlA lH lC
  go_wp2
  go_loopw [17] (fun i wr => ∃ j : Nat, k ≤ j ∧ j ≤ n ∧ i = .int .i64 j ∧ Hid (Blk wr pb (accArr (celsG N S0 (vs.take j)) (kdOf id)) 57 ∧ Blk wr pa (accArr (celsG N S0 vs) (kdOf id)) 57 ∧ Blk wr ph (accArr (celsG N S0 (vs.take k)) (kdOf id)) 57 ∧ Blk wr ps (accC (celsG N S0 (vs.take k))) 35 ∧ Blk wr pc (accArr (celsG N S0 (vs.take k)) (kdOf id)) 57 ∧ Below w.heap.size w wr)) (fun i _ => n - (intOf i).toNat)
  case atStart => exact ⟨k, Nat.le_refl k, hk, rfl, Lib.hid ⟨BB.out, BA.out, BH.out, BS.out, BC.out, WD.out⟩⟩
  case round =>
    clear BB BA BH BS BC WD
    obtain ⟨j, hkj, hjn, rfl, HH⟩ := hrel
    by_cases hlt : j < n
    · obtain ⟨x, hx⟩ : ∃ x, vs[j]? = some x := ⟨_, List.getElem?_eq_getElem (by rw [HN.out]; exact hlt)⟩
      have hCj := Lib.hid (HCl.out j x pb hjn hx)
      obtain ⟨b, off, rfl, hbw, hrow⟩ := HC.out (by rw [HN.out]; omega)
      obtain ⟨c0, c1, c2, c3, c4, c5⟩ := (hrow.below hbw HH.out.2.2.2.2.2) j x hx
      have HTk := Lib.hid (tabs_keeps N _ _ HH.out.2.2.2.2.2 HT.out)
      clear hx hrow
      go_wp2_with fail
      refine (hCj.out.out _ HTk.out HH.out.1).mono ?_
      rintro e wE ⟨rfl, A2, hb2⟩
      go_wp2
      go_roundw
      case rel =>
        obtain ⟨B1, B2, B3, B4, B5, B6⟩ := HH.out
        exact ⟨j + 1, by omega, by omega, by go_num, Lib.hid ⟨A2, B2.but hb2 n1, B3.but hb2 n2, B4.but hb2 n3, B5.but hb2 n4, B6.trans (but_below3 hb2 B6.size g1)⟩⟩
      case measure => simp [intOf]; omega
    · obtain rfl : j = n := by omega
      have et : vs.take j = vs := List.take_of_length_le (by rw [HN.out]; omega)
      rw [et] at HH
      clear et
      have HTk := Lib.hid (tabs_keeps N _ _ HH.out.2.2.2.2.2 HT.out)
      go_wp2_with fail
      refine ((HFt.out _ pc HH.out.2.2.2.2.1).out _ HTk.out HH.out.2.2.2.2.1).mono ?_
      rintro e wE ⟨rfl, A2, hb2⟩
      have BB := Lib.hid (HH.out.1.but hb2 (fun e => n4 e.symm))
      have BA := Lib.hid (HH.out.2.1.but hb2 n5)
      have BH := Lib.hid (HH.out.2.2.1.but hb2 n6)
      have BS := Lib.hid (HH.out.2.2.2.1.but hb2 n7)
      have WE := Lib.hid (HH.out.2.2.2.2.2.trans (but_below3 hb2 HH.out.2.2.2.2.2.size g2))
      clear hb2 HH A2 HTk HFt HCl
      generalize celsG N S0 (vs.take k) = Sh at *
      have HR := HRs
      clear HRs
      generalize celsG N S0 vs = S at *
      generalize S.resG = R at *
      go_upto_region 25 with (fail)
      refine wp_act fun a ha => ?_
      refine region_each 18 (VR S Sh R pa pb ph) (by kernel_rfl) (by kernel_rfl) (VR.below S Sh R pa pb ph) ?_ ?_
      · intro j hj o ho vs wx hw hk
        have hbx := hw.out
        have hzx := hbx.size
        have KS := aeq_self S
        have KH := aeq_self Sh
        rcases j with _ | _ | _ | _ | _ | _ | _ | _ | _ | _ | _ | _ | _ | _ | _ | _ | _ | _ | j
        · obtain rfl : _ = o := Option.some.inj ho
          clear ho hk
          change wpList _ _ (OneQ _ a _) _ a _
          subst ha
          go_wp2
          exact ⟨_, rfl, Below.refl _ _, by first | rfl | (simp [veq_true.2, VR, aeq_self]; done)⟩
        · obtain rfl : _ = o := Option.some.inj ho
          have y0 : vs 0 = .pointer (some ⟨pb, 0, none⟩) := hk 0 (by decide) rfl
          clear ho hk
          change wpList _ _ (OneQ _ (Act.put a (some 86) (vs 0)) _) _ (Act.put a (some 86) (vs 0)) _
          rw [y0]
          subst ha
          go_wp2_with fail
          refine (acc_State pb S _ _ (BB.out.below hbx)).mono ?_
          rintro e w' ⟨rfl, hb'⟩
          go_wp2
          exact ⟨_, rfl, hb', by first | rfl | (simp [VR, aeq_self]; done)⟩
        · obtain rfl : _ = o := Option.some.inj ho
          clear ho hk
          change wpList _ _ (OneQ _ a _) _ a _
          subst ha
          go_wp2
          exact ⟨_, rfl, Below.refl _ _, by first | rfl | (simp [veq_true.2, VR, aeq_self]; done)⟩
        · obtain rfl : _ = o := Option.some.inj ho
          have y2 : vs 2 = .pointer (some ⟨pa, 0, none⟩) := hk 2 (by decide) rfl
          clear ho hk
          change wpList _ _ (OneQ _ (Act.put a (some 88) (vs 2)) _) _ (Act.put a (some 88) (vs 2)) _
          rw [y2]
          subst ha
          go_wp2_with fail
          refine (acc_State pa S _ _ (BA.out.below hbx)).mono ?_
          rintro e w' ⟨rfl, hb'⟩
          go_wp2
          exact ⟨_, rfl, hb', by first | rfl | (simp [VR, aeq_self]; done)⟩
        · obtain rfl : _ = o := Option.some.inj ho
          have y1 : vs 1 = accV S := hk 1 (by decide) rfl
          have y3 : vs 3 = accV S := hk 3 (by decide) rfl
          clear ho hk
          change wpList _ _ (OneQ _ (Act.put (Act.put a (some 87) (vs 1)) (some 89) (vs 3)) _) _ (Act.put (Act.put a (some 87) (vs 1)) (some 89) (vs 3)) _
          rw [y1, y3]
          subst ha
          go_wp2
          exact ⟨_, rfl, Below.refl _ _, by first | rfl | (simp [veq_true.2, VR, aeq_self]; done)⟩
        · obtain rfl : _ = o := Option.some.inj ho
          have y4 : vs 4 = .bool true := hk 4 (by decide) rfl
          clear ho hk
          change wpList _ _ (OneQ _ (Act.put a (some 90) (vs 4)) _) _ (Act.put a (some 90) (vs 4)) _
          rw [y4]
          subst ha
          go_wp2
          exact ⟨_, rfl, Below.refl _ _, by first | rfl | (simp [veq_true.2, VR, aeq_self]; done)⟩
        · obtain rfl : _ = o := Option.some.inj ho
          have y5 : vs 5 = .bool true := hk 5 (by decide) rfl
          clear ho hk
          change wpList _ _ (OneQ _ (Act.put a (some 91) (vs 5)) _) _ (Act.put a (some 91) (vs 5)) _
          rw [y5]
          subst ha
          go_wp2
          exact ⟨_, rfl, Below.refl _ _, by first | rfl | (simp [veq_true.2, VR, aeq_self]; done)⟩
        · obtain rfl : _ = o := Option.some.inj ho
          have y5 : vs 5 = .bool true := hk 5 (by decide) rfl
          have y6 : vs 6 = .pointer (some ⟨pb, 0, none⟩) := hk 6 (by decide) rfl
          clear ho hk
          change wpList _ _ (OneQ _ (Act.put (Act.put a (some 91) (vs 5)) (some 92) (vs 6)) _) _ (Act.put (Act.put a (some 91) (vs 5)) (some 92) (vs 6)) _
          rw [y5, y6]
          subst ha
          go_wp2_with fail
          refine (HR.out pb _ (BB.out.below hbx)).mono ?_
          rintro e w' ⟨rfl, hb'⟩
          go_wp2
          exact ⟨_, rfl, hb', by first | rfl | (simp [VR, aeq_self]; done)⟩
        · obtain rfl : _ = o := Option.some.inj ho
          have y5 : vs 5 = .bool true := hk 5 (by decide) rfl
          clear ho hk
          change wpList _ _ (OneQ _ (Act.put a (some 91) (vs 5)) _) _ (Act.put a (some 91) (vs 5)) _
          rw [y5]
          subst ha
          go_wp2
          exact ⟨_, rfl, Below.refl _ _, by first | rfl | (simp [veq_true.2, VR, aeq_self]; done)⟩
        · obtain rfl : _ = o := Option.some.inj ho
          have y5 : vs 5 = .bool true := hk 5 (by decide) rfl
          have y8 : vs 8 = .pointer (some ⟨pa, 0, none⟩) := hk 8 (by decide) rfl
          clear ho hk
          change wpList _ _ (OneQ _ (Act.put (Act.put a (some 91) (vs 5)) (some 94) (vs 8)) _) _ (Act.put (Act.put a (some 91) (vs 5)) (some 94) (vs 8)) _
          rw [y5, y8]
          subst ha
          go_wp2_with fail
          refine (HR.out pa _ (BA.out.below hbx)).mono ?_
          rintro e w' ⟨rfl, hb'⟩
          go_wp2
          exact ⟨_, rfl, hb', by first | rfl | (simp [VR, aeq_self]; done)⟩
        · obtain rfl : _ = o := Option.some.inj ho
          have y5 : vs 5 = .bool true := hk 5 (by decide) rfl
          have y7 : vs 7 = .agg #[.int .i64 (R).k, .int .i64 (R).n, .int .i64 (R).d, .string (R).t, .bool (R).b, .int .i64 (R).f] := hk 7 (by decide) rfl
          have y9 : vs 9 = .agg #[.int .i64 (R).k, .int .i64 (R).n, .int .i64 (R).d, .string (R).t, .bool (R).b, .int .i64 (R).f] := hk 9 (by decide) rfl
          clear ho hk
          change wpList _ _ (OneQ _ (Act.put (Act.put (Act.put a (some 91) (vs 5)) (some 93) (vs 7)) (some 95) (vs 9)) _) _ (Act.put (Act.put (Act.put a (some 91) (vs 5)) (some 93) (vs 7)) (some 95) (vs 9)) _
          rw [y5, y7, y9]
          subst ha
          go_wp2
          exact ⟨_, rfl, Below.refl _ _, by first | rfl | (simp [veq_true.2, VR, aeq_self]; done)⟩
        · obtain rfl : _ = o := Option.some.inj ho
          have y5 : vs 5 = .bool true := hk 5 (by decide) rfl
          have y10 : vs 10 = .bool true := hk 10 (by decide) rfl
          clear ho hk
          change wpList _ _ (OneQ _ (Act.put (Act.put a (some 91) (vs 5)) (some 96) (vs 10)) _) _ (Act.put (Act.put a (some 91) (vs 5)) (some 96) (vs 10)) _
          rw [y5, y10]
          subst ha
          go_wp2
          exact ⟨_, rfl, Below.refl _ _, by first | rfl | (simp [veq_true.2, VR, aeq_self]; done)⟩
        · obtain rfl : _ = o := Option.some.inj ho
          have y11 : vs 11 = .bool true := hk 11 (by decide) rfl
          clear ho hk
          change wpList _ _ (OneQ _ (Act.put a (some 97) (vs 11)) _) _ (Act.put a (some 97) (vs 11)) _
          rw [y11]
          subst ha
          go_wp2
          exact ⟨_, rfl, Below.refl _ _, by first | rfl | (simp [veq_true.2, VR, aeq_self]; done)⟩
        · obtain rfl : _ = o := Option.some.inj ho
          have y12 : vs 12 = .bool true := hk 12 (by decide) rfl
          clear ho hk
          change wpList _ _ (OneQ _ (Act.put a (some 98) (vs 12)) _) _ (Act.put a (some 98) (vs 12)) _
          rw [y12]
          subst ha
          go_wp2
          exact ⟨_, rfl, Below.refl _ _, by first | rfl | (simp [veq_true.2, VR, aeq_self]; done)⟩
        · obtain rfl : _ = o := Option.some.inj ho
          have y12 : vs 12 = .bool true := hk 12 (by decide) rfl
          have y13 : vs 13 = .pointer (some ⟨ph, 0, none⟩) := hk 13 (by decide) rfl
          clear ho hk
          change wpList _ _ (OneQ _ (Act.put (Act.put a (some 98) (vs 12)) (some 99) (vs 13)) _) _ (Act.put (Act.put a (some 98) (vs 12)) (some 99) (vs 13)) _
          rw [y12, y13]
          subst ha
          go_wp2_with fail
          refine (acc_State ph Sh _ _ (BH.out.below hbx)).mono ?_
          rintro e w' ⟨rfl, hb'⟩
          go_wp2
          exact ⟨_, rfl, hb', by first | rfl | (simp [VR, aeq_self]; done)⟩
        · obtain rfl : _ = o := Option.some.inj ho
          have y12 : vs 12 = .bool true := hk 12 (by decide) rfl
          clear ho hk
          change wpList _ _ (OneQ _ (Act.put a (some 98) (vs 12)) _) _ (Act.put a (some 98) (vs 12)) _
          rw [y12]
          subst ha
          refine wpList_load_accG Sh rfl rfl rfl (range_accC (BS.out.below hbx)) ?_
          go_wp2
          exact ⟨_, rfl, Below.refl _ _, rfl⟩
        · obtain rfl : _ = o := Option.some.inj ho
          have y12 : vs 12 = .bool true := hk 12 (by decide) rfl
          have y14 : vs 14 = accV Sh := hk 14 (by decide) rfl
          have y15 : vs 15 = accV Sh := hk 15 (by decide) rfl
          clear ho hk
          change wpList _ _ (OneQ _ (Act.put (Act.put (Act.put a (some 98) (vs 12)) (some 100) (vs 14)) (some 101) (vs 15)) _) _ (Act.put (Act.put (Act.put a (some 98) (vs 12)) (some 100) (vs 14)) (some 101) (vs 15)) _
          rw [y12, y14, y15]
          subst ha
          go_wp2
          exact ⟨_, rfl, Below.refl _ _, by first | rfl | (simp [veq_true.2, VR, aeq_self]; done)⟩
        · obtain rfl : _ = o := Option.some.inj ho
          have y12 : vs 12 = .bool true := hk 12 (by decide) rfl
          have y16 : vs 16 = .bool true := hk 16 (by decide) rfl
          clear ho hk
          change wpList _ _ (OneQ _ (Act.put (Act.put a (some 98) (vs 12)) (some 102) (vs 16)) _) _ (Act.put (Act.put a (some 98) (vs 12)) (some 102) (vs 16)) _
          rw [y12, y16]
          subst ha
          go_wp2
          exact ⟨_, rfl, Below.refl _ _, by first | rfl | (simp [veq_true.2, VR, aeq_self]; done)⟩
        · omega
      · intro vs wx hw hv
        have hbx := hw.out
        have y0 : vs 0 = .pointer (some ⟨pb, 0, none⟩) := hv 0 (by decide)
        have y1 : vs 1 = accV S := hv 1 (by decide)
        have y2 : vs 2 = .pointer (some ⟨pa, 0, none⟩) := hv 2 (by decide)
        have y3 : vs 3 = accV S := hv 3 (by decide)
        have y4 : vs 4 = .bool true := hv 4 (by decide)
        have y5 : vs 5 = .bool true := hv 5 (by decide)
        have y6 : vs 6 = .pointer (some ⟨pb, 0, none⟩) := hv 6 (by decide)
        have y7 : vs 7 = .agg #[.int .i64 (R).k, .int .i64 (R).n, .int .i64 (R).d, .string (R).t, .bool (R).b, .int .i64 (R).f] := hv 7 (by decide)
        have y8 : vs 8 = .pointer (some ⟨pa, 0, none⟩) := hv 8 (by decide)
        have y9 : vs 9 = .agg #[.int .i64 (R).k, .int .i64 (R).n, .int .i64 (R).d, .string (R).t, .bool (R).b, .int .i64 (R).f] := hv 9 (by decide)
        have y10 : vs 10 = .bool true := hv 10 (by decide)
        have y11 : vs 11 = .bool true := hv 11 (by decide)
        have y12 : vs 12 = .bool true := hv 12 (by decide)
        have y13 : vs 13 = .pointer (some ⟨ph, 0, none⟩) := hv 13 (by decide)
        have y14 : vs 14 = accV Sh := hv 14 (by decide)
        have y15 : vs 15 = accV Sh := hv 15 (by decide)
        have y16 : vs 16 = .bool true := hv 16 (by decide)
        have y17 : vs 17 = .bool true := hv 17 (by decide)
        clear hv hw
        change wpList _ _ _ _ (Act.put (Act.put (Act.put (Act.put (Act.put (Act.put (Act.put (Act.put (Act.put (Act.put (Act.put (Act.put (Act.put (Act.put (Act.put (Act.put (Act.put (Act.put a (some 86) (vs 0)) (some 87) (vs 1)) (some 88) (vs 2)) (some 89) (vs 3)) (some 90) (vs 4)) (some 91) (vs 5)) (some 92) (vs 6)) (some 93) (vs 7)) (some 94) (vs 8)) (some 95) (vs 9)) (some 96) (vs 10)) (some 97) (vs 11)) (some 98) (vs 12)) (some 99) (vs 13)) (some 100) (vs 14)) (some 101) (vs 15)) (some 102) (vs 16)) (some 103) (vs 17)) _
        rw [y0, y1, y2, y3, y4, y5, y6, y7, y8, y9, y10, y11, y12, y13, y14, y15, y16, y17]
        subst ha
        clear y0 y1 y2 y3 y4 y5 y6 y7 y8 y9 y10 y11 y12 y13 y14 y15 y16 y17
        simp only [List.drop_succ_cons, List.drop_zero]
        go_wp2
        go_ret
        exact ⟨rfl, WE.out.trans (hbx.mono WE.out.size)⟩
end Go.Proofs.YtnimenpfojcehaaGreatDoor
