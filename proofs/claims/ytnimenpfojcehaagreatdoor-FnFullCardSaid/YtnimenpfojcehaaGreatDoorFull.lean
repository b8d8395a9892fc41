/- The walk of FnFull. -/
import Derived.Test.YtnimenpfojcehaaGreatDoorBx4
import Derived.Test.YtnimenpfojcehaaGreatDoorHeavyA
import Derived.Test.YtnimenpfojcehaaGreatDoorFullP
import Derived.Test.YtnimenpfojcehaaGreatDoorAble
import Derived.Test.YtnimenpfojcehaaGreatDoorEach
import Derived.Deep.QuietTactic
import Derived.BigQuiet
import Derived.Deep.Cut
import Derived.Deep.CutBlock
namespace Go.Proofs.YtnimenpfojcehaaGreatDoor
open Go Go.RowKit
set_option linter.unusedSimpArgs false
set_option linter.unusedVariables false

def VGtt (S S1 : AccS) (R0 R1 : Vl) (pa px py : Nat) : Nat → Value → World → Prop
  | 0, v, _ => v = .pointer (some ⟨px, 17, none⟩)
  | 1, v, _ => v = .bool true
  | 2, v, _ => v = .bool true
  | 3, v, _ => v = .pointer (some ⟨pa, 0, none⟩)
  | 4, v, _ => v = accV S1
  | 5, v, _ => v = accV S
  | 6, v, _ => v = .bool false
  | 7, v, _ => v = .bool false
  | 8, v, _ => v = .pointer (some ⟨pa, 0, none⟩)
  | 9, v, _ => v = .agg #[.int .i64 (R1).k, .int .i64 (R1).n, .int .i64 (R1).d, .string (R1).t, .bool (R1).b, .int .i64 (R1).f]
  | 10, v, _ => v = .agg #[.int .i64 (R0).k, .int .i64 (R0).n, .int .i64 (R0).d, .string (R0).t, .bool (R0).b, .int .i64 (R0).f]
  | 11, v, _ => v = .bool false
  | 12, v, _ => v = .bool false
  | 13, v, _ => v = .bool false
  | 14, v, _ => v = .bool false
  | 15, v, _ => v = .pointer (some ⟨pa, 0, none⟩)
  | 16, v, _ => v = .agg #[.int .i64 (R1).k, .int .i64 (R1).n, .int .i64 (R1).d, .string (R1).t, .bool (R1).b, .int .i64 (R1).f]
  | 17, v, _ => v = .bool true
  | 18, v, _ => v = .bool false
  | 19, v, _ => v = .bool false
  | 20, v, _ => v = .bool false
  | 21, v, _ => v = .pointer (some ⟨pa, 0, none⟩)
  | 22, v, _ => v = .bool true
  | 23, v, _ => v = .pointer (some ⟨pa, 0, none⟩)
  | 24, v, _ => v = accV S1
  | 25, v, _ => v = .bool true
  | 26, v, _ => v = .bool false
  | 27, v, _ => v = .bool false
  | 28, v, _ => v = .bool false
  | 29, v, _ => v = .pointer (some ⟨pa, 0, none⟩)
  | 30, v, _ => v = .bool S1.wants
  | 31, v, _ => v = .pointer (some ⟨pa, 0, none⟩)
  | 32, v, _ => v = accV S1
  | 33, v, _ => v = .bool S1.wants
  | 34, v, _ => v = .bool false
  | 35, v, _ => v = .bool false
  | 36, v, _ => v = .bool false
  | 37, v, _ => v = .pointer (some ⟨pa, 0, none⟩)
  | 38, v, _ => v = .bool true
  | 39, v, _ => v = .bool true
  | 40, v, _ => v = .pointer (some ⟨pa, 0, none⟩)
  | 41, v, _ => v = .bool false
  | 42, v, _ => v = .bool false
  | _, _, _ => True
theorem VGtt.below (S S1 : AccS) (R0 R1 : Vl) (pa px py : Nat) : ∀ k v w1 w2, VGtt S S1 R0 R1 pa px py k v w1 → Below w1.heap.size w1 w2 → VGtt S S1 R0 R1 pa px py k v w2 := by
  intro k v w1 w2 h hb
  rcases k with _ | _ | _ | _ | _ | _ | _ | _ | _ | _ | _ | _ | _ | _ | _ | _ | _ | _ | _ | _ | _ | _ | _ | _ | _ | _ | _ | _ | _ | _ | _ | _ | _ | _ | _ | _ | _ | _ | _ | _ | _ | _ | _ | k
  all_goals first | exact h

def VGft (S S1 : AccS) (R0 R1 : Vl) (pa px py : Nat) : Nat → Value → World → Prop
  | 0, v, _ => v = .pointer (some ⟨px, 17, none⟩)
  | 1, v, _ => v = .bool false
  | 2, v, _ => v = .bool false
  | 3, v, _ => v = undef
  | 4, v, _ => v = undef
  | 5, v, _ => v = undef
  | 6, v, _ => v = undef
  | 7, v, _ => v = undef
  | 8, v, _ => v = undef
  | 9, v, _ => v = undef
  | 10, v, _ => v = undef
  | 11, v, _ => v = undef
  | 12, v, _ => v = undef
  | 13, v, _ => v = .bool false
  | 14, v, _ => v = .bool false
  | 15, v, _ => v = .pointer (some ⟨pa, 0, none⟩)
  | 16, v, _ => v = .agg #[.int .i64 (R1).k, .int .i64 (R1).n, .int .i64 (R1).d, .string (R1).t, .bool (R1).b, .int .i64 (R1).f]
  | 17, v, _ => v = .bool true
  | 18, v, _ => v = .bool false
  | 19, v, _ => v = .bool false
  | 20, v, _ => v = .bool false
  | 21, v, _ => v = .pointer (some ⟨pa, 0, none⟩)
  | 22, v, _ => v = .bool true
  | 23, v, _ => v = .pointer (some ⟨pa, 0, none⟩)
  | 24, v, _ => v = accV S1
  | 25, v, _ => v = .bool true
  | 26, v, _ => v = .bool false
  | 27, v, _ => v = .bool false
  | 28, v, _ => v = .bool false
  | 29, v, _ => v = .pointer (some ⟨pa, 0, none⟩)
  | 30, v, _ => v = .bool S1.wants
  | 31, v, _ => v = .pointer (some ⟨pa, 0, none⟩)
  | 32, v, _ => v = accV S1
  | 33, v, _ => v = .bool S1.wants
  | 34, v, _ => v = .bool false
  | 35, v, _ => v = .bool false
  | 36, v, _ => v = .bool false
  | 37, v, _ => v = .pointer (some ⟨pa, 0, none⟩)
  | 38, v, _ => v = .bool true
  | 39, v, _ => v = .bool true
  | 40, v, _ => v = .pointer (some ⟨pa, 0, none⟩)
  | 41, v, _ => v = .bool false
  | 42, v, _ => v = .bool false
  | _, _, _ => True
theorem VGft.below (S S1 : AccS) (R0 R1 : Vl) (pa px py : Nat) : ∀ k v w1 w2, VGft S S1 R0 R1 pa px py k v w1 → Below w1.heap.size w1 w2 → VGft S S1 R0 R1 pa px py k v w2 := by
  intro k v w1 w2 h hb
  rcases k with _ | _ | _ | _ | _ | _ | _ | _ | _ | _ | _ | _ | _ | _ | _ | _ | _ | _ | _ | _ | _ | _ | _ | _ | _ | _ | _ | _ | _ | _ | _ | _ | _ | _ | _ | _ | _ | _ | _ | _ | _ | _ | _ | k
  all_goals first | exact h

def VGff (S S1 : AccS) (R0 R1 : Vl) (pa px py : Nat) : Nat → Value → World → Prop
  | 0, v, _ => v = .pointer (some ⟨px, 17, none⟩)
  | 1, v, _ => v = .bool false
  | 2, v, _ => v = .bool false
  | 3, v, _ => v = undef
  | 4, v, _ => v = undef
  | 5, v, _ => v = undef
  | 6, v, _ => v = undef
  | 7, v, _ => v = undef
  | 8, v, _ => v = undef
  | 9, v, _ => v = undef
  | 10, v, _ => v = undef
  | 11, v, _ => v = undef
  | 12, v, _ => v = undef
  | 13, v, _ => v = .bool false
  | 14, v, _ => v = .bool false
  | 15, v, _ => v = .pointer (some ⟨pa, 0, none⟩)
  | 16, v, _ => v = .agg #[.int .i64 (R1).k, .int .i64 (R1).n, .int .i64 (R1).d, .string (R1).t, .bool (R1).b, .int .i64 (R1).f]
  | 17, v, _ => v = .bool true
  | 18, v, _ => v = .bool false
  | 19, v, _ => v = .bool false
  | 20, v, _ => v = .bool false
  | 21, v, _ => v = .pointer (some ⟨pa, 0, none⟩)
  | 22, v, _ => v = .bool false
  | 23, v, _ => v = .pointer (some ⟨pa, 0, none⟩)
  | 24, v, _ => v = accV S1
  | 25, v, _ => v = .bool false
  | 26, v, _ => v = .bool false
  | 27, v, _ => v = .bool false
  | 28, v, _ => v = .bool false
  | 29, v, _ => v = .pointer (some ⟨pa, 0, none⟩)
  | 30, v, _ => v = .bool S1.wants
  | 31, v, _ => v = .pointer (some ⟨pa, 0, none⟩)
  | 32, v, _ => v = accV S1
  | 33, v, _ => v = .bool S1.wants
  | 34, v, _ => v = .bool false
  | 35, v, _ => v = .bool false
  | 36, v, _ => v = .bool false
  | 37, v, _ => v = .pointer (some ⟨pa, 0, none⟩)
  | 38, v, _ => v = .bool false
  | 39, v, _ => v = .bool false
  | 40, v, _ => v = undef
  | 41, v, _ => v = undef
  | 42, v, _ => v = .bool false
  | _, _, _ => True
theorem VGff.below (S S1 : AccS) (R0 R1 : Vl) (pa px py : Nat) : ∀ k v w1 w2, VGff S S1 R0 R1 pa px py k v w1 → Below w1.heap.size w1 w2 → VGff S S1 R0 R1 pa px py k v w2 := by
  intro k v w1 w2 h hb
  rcases k with _ | _ | _ | _ | _ | _ | _ | _ | _ | _ | _ | _ | _ | _ | _ | _ | _ | _ | _ | _ | _ | _ | _ | _ | _ | _ | _ | _ | _ | _ | _ | _ | _ | _ | _ | _ | _ | _ | _ | _ | _ | _ | _ | k
  all_goals first | exact h

theorem field_full (wx : World) (S : AccS) : (Instr.field 35 (accV S) 6).run Tryz.prog wx = .ok (.bool S.full) wx := by kernel_rfl
theorem field_wants (wx : World) (S : AccS) : (Instr.field 35 (accV S) 7).run Tryz.prog wx = .ok (.bool S.wants) wx := by kernel_rfl
/-- Six cells of no value. -/
def valZ : Array Value := #[.int .i64 0, .int .i64 0, .int .i64 0, .string ⟨#[]⟩, .bool false, .int .i64 0]
theorem info_val : (Tryz.prog.info? 33).map (·.size) = some 6 := by kernel_rfl
theorem wpList_store_val {ops : Array Oper} {rest : List Oper} {o : Oper} {a : Act} {w : World} {Q : Exit → Act → World → Prop} {x y : Operand} (v : Vl) (hgd : o.guard = none) (ho : o.op = .store 33 x y) (hx : a.eval x = .pointer (some ⟨w.heap.size, 0, none⟩)) (hy : a.eval y = .agg #[.int .i64 (v).k, .int .i64 (v).n, .int .i64 (v).d, .string (v).t, .bool (v).b, .int .i64 (v).f])
    (h : wpList Tryz.prog ops Q rest (a.put o.dst undef) (w.alloc (.cells (vArr v) 33))) : wpList Tryz.prog ops Q (o :: rest) a (w.alloc (.cells valZ 33)) := by
  refine wpList_plain hgd fun K hK => ?_
  have hst : (Instr.storeAt 33 (.pointer (some ⟨w.heap.size, 0, none⟩)) (.agg #[.int .i64 (v).k, .int .i64 (v).n, .int .i64 (v).d, .string (v).t, .bool (v).b, .int .i64 (v).f])).run Tryz.prog (w.alloc (.cells valZ 33)) = .ok () (w.alloc (.cells (vArr v) 33)) :=
    run_storeAt_new w 33 valZ (vArr v) info_val rfl (by simp [vArr, Value.oneCell'])
  unfold Oper.wp execOp
  simp only [ho, hx, hy, Sem.run_bind, hst, Result.andThen_ok, Sem.run_pure]
  exact hK _ _ h
theorem wpList_skip {ops : Array Oper} {rest : List Oper} {o : Oper} {a : Act} {w : World} {Q : Exit → Act → World → Prop} (h : Region.wanted o (yielded ops a.tmps) = false)
    (k : wpList Tryz.prog ops Q rest (a.put o.dst undef) w) : wpList Tryz.prog ops Q (o :: rest) a w := by
  unfold wpList
  rw [if_neg (by rw [h]; decide)]
  exact k
theorem new_val (w : World) (v : Vl) : Blk (w.alloc (.cells (vArr v) 33)) w.heap.size (vArr v) 33 := heap_alloc_new _ _
set_option maxRecDepth 100000 in
set_option maxHeartbeats 40000000 in
theorem law_FnFull0 (N : NmS) (id : Int) (vs : List AcV) (la : Option Addr) (lc n : Nat) (w : World) (hid : I64 id) (hn : vs.length = n) (hbig : n ≤ 140737488355328) (hin : ∀ x ∈ vs, x.v.In) (hc : ActAt w la vs) (ht : Tabs N w) :
    Calls Tryz.prog 4 #[.int .i64 id, .slice la n lc] w fun e w' => e = .returned (.bool true) ∧ Below w.heap.size w w' := by
  have HI := Lib.hid hin
  have HC := Lib.hid hc
  have HN := Lib.hid hn
  have HT := Lib.hid ht
  clear hin hc hn ht
  go_enter Tryz.func4, Tryz.ntmps4
  go_wp2_with fail
  refine (law_able _).mono ?_
  rintro e w1 ⟨rfl, hb1⟩
  have W1 := Lib.hid hb1
  clear hb1
  go_wp2_with fail
  refine (law_heavy vs la lc n _ HN.out hbig HI.out (HC.out.below W1.out)).mono ?_
  rintro e w2 ⟨h1, rfl, hl1, hb2⟩
  have W2 := Lib.hid (W1.out.trans (hb2.mono W1.out.size))
  clear hb2 W1
  cases h1
  case true =>
    go_wp2
    go_ret
    exact ⟨rfl, W2.out⟩
  case false =>
  have hn2 := hl1 rfl
  clear hl1
  by_cases hf : IsFold id
  case neg =>
    have HO := Lib.hid fun wx => funcs_Open_no id wx hid hf
    clear hf
    go_wp2_with fail
    refine (HO.out _).mono ?_
    rintro e w3 ⟨rfl, hb3⟩
    go_wp2
    go_ret
    exact ⟨rfl, W2.out.trans (hb3.mono W2.out.size)⟩
  case pos =>
  have HO := Lib.hid fun wx => funcs_OpenG id wx hf
  have HK := Lib.hid (okS_open hf)
  have HFn := Lib.hid (fn_open id)
  clear hf
  generalize openS id = S0 at *
  go_wp2_with fail
  refine (HO.out _).mono ?_
  rintro e w3 ⟨rfl, A3, hb3⟩
  have A3h := Lib.hid A3
  have W3 := Lib.hid (W2.out.trans (hb3.mono W2.out.size))
  have s2 := W2.out.size
  clear A3 hb3 HO
  generalize hpa : w2.heap.size = pa at *
  have ga : w.heap.size ≤ pa := by omega
  clear hpa s2
  go_wp2
  go_loopw [7] (fun i wr => ∃ (k : Nat) (S : AccS), k ≤ n ∧ i = .int .i64 k ∧ Hid (Blk wr pa (accArr S (kdOf id)) 57 ∧ Below w.heap.size w wr ∧ OkS S k ∧ S.fn = id)) (fun i _ => n - (intOf i).toNat)
  case atStart => exact ⟨0, S0, Nat.zero_le _, rfl, Lib.hid ⟨A3h.out, W3.out, HK.out, HFn.out⟩⟩
  case round =>
    clear A3h W3 HK HFn
    obtain ⟨k, S, hk, rfl, R⟩ := hrel
    by_cases hlt : k < n
    · obtain ⟨b, off, rfl, hbw, hrow⟩ := HC.out (by rw [HN.out]; omega)
      obtain ⟨x, hx⟩ : ∃ x, vs[k]? = some x := ⟨_, List.getElem?_eq_getElem (by rw [HN.out]; exact hlt)⟩
      have hxin := Lib.hid (HI.out x (List.mem_of_getElem? hx))
      have HRow := Lib.hid (fun wx (hb : Below w.heap.size w wx) => (hrow.below hbw hb) k x hx)
      clear hrow hx
      go_wp2_with fail
      refine (acc_State pa S _ _ R.out.1).mono ?_
      rintro e wA ⟨rfl, hbA⟩
      have HA := Lib.hid (And.intro (R.out.1.below hbA) (R.out.2.1.trans (hbA.mono R.out.2.1.size)))
      clear hbA
      dsimp only
      rename_i hK
      refine hK _ _ ?_
      clear hK
      refine wpList_cut ?_
      go_wp2
      unfold ThenL
      refine wpList_store_acc S rfl rfl rfl rfl ?_
      simp only [Act.put]
      have X1 := Lib.hid (blk_new wA S)
      have A1 := Lib.hid (HA.out.1.alloc (.cells (accC S) 35))
      have V1 := Lib.hid (HA.out.2.alloc HA.out.2.size (.cells (accC S) 35))
      have lA := HA.out.1.lt
      have gA := HA.out.2.size
      have hz : wA.heap.size < (wA.alloc (.cells (accC S) 35)).heap.size := by simp only [sz_alloc]; omega
      clear HA
      generalize wA.alloc (.cells (accC S) 35) = wB at *
      go_upto_region 12 with (fail)
      have HRa := Lib.hid (res_at pa S k id wB R.out.2.2.1 R.out.2.2.2 (by omega) A1.out)
      generalize hR : S.resG = R0 at *
      have HR0 := Lib.hid hR
      go_wp2_with fail
      refine HRa.out.mono ?_
      rintro e wC ⟨rfl, hbC⟩
      have HA := Lib.hid (And.intro (A1.out.below hbC) (And.intro (X1.out.below hbC) (V1.out.trans (hbC.mono V1.out.size))))
      have gC := hbC.size
      clear hbC A1 X1 V1 HRa
      dsimp only
      rename_i hK
      refine hK _ _ ?_
      clear hK
      refine wpList_cut ?_
      go_wp2
      unfold ThenL
      refine wpList_store_val R0 rfl rfl rfl rfl ?_
      simp only [Act.put]
      have Y1 := Lib.hid (new_val wC R0)
      have A1 := Lib.hid (HA.out.1.alloc (.cells (vArr R0) 33))
      have X1 := Lib.hid (HA.out.2.1.alloc (.cells (vArr R0) 33))
      have V1 := Lib.hid (HA.out.2.2.alloc HA.out.2.2.size (.cells (vArr R0) 33))
      have hz2 : wC.heap.size < (wC.alloc (.cells (vArr R0) 33)).heap.size := by simp only [sz_alloc]; omega
      clear HA
      generalize wC.alloc (.cells (vArr R0) 33) = wD at *
      go_upto_region 13 with (fail)
      refine wp_region_lit ?_
      obtain ⟨c0, c1, c2, c3, c4, c5, c6⟩ := HRow.out wD V1.out
      refine wpList_cut ?_
      go_wp2
      unfold ThenL
      refine wpList_cut ?_
      go_wp2
      unfold ThenL
      refine wpList_cut ?_
      go_wp2
      unfold ThenL
      refine wpList_cut ?_
      go_wp2
      unfold ThenL
      refine wpList_cut ?_
      go_wp2
      unfold ThenL
      refine wpList_cut ?_
      go_wp2
      unfold ThenL
      refine wpList_store_val x.v rfl rfl rfl rfl ?_
      simp only [Act.put]
      have Z2 := Lib.hid (new_val wD x.v)
      have A2 := Lib.hid (A1.out.alloc (.cells (vArr x.v) 33))
      have X2 := Lib.hid (X1.out.alloc (.cells (vArr x.v) 33))
      have Y2 := Lib.hid (Y1.out.alloc (.cells (vArr x.v) 33))
      have V2 := Lib.hid (V1.out.alloc V1.out.size (.cells (vArr x.v) 33))
      clear A1 X1 Y1 V1 c0 c1 c2 c3 c4 c5 c6
      generalize hpx : wA.heap.size = px at *
      generalize hpy : wC.heap.size = py at *
      generalize hpz : wD.heap.size = pz at *
      have m1 : px ≠ pa := by omega
      have m2 : py ≠ pa := by omega
      have m3 : pz ≠ pa := by have := R.out.1.lt; omega
      generalize wD.alloc (.cells (vArr x.v) 33) = wE at *
      have hlA := lA
      clear hpx hpy hpz hz hz2 gA gC lA hlA
      have T2 := Lib.hid (tabs_keeps N _ _ V2.out HT.out)
      refine wpList_nil ?_
      dsimp only [Exit.then]
      rename_i hK
      refine hK _ _ ?_
      clear hK
      obtain ⟨c0, c1, c2, c3, c4, c5, c6⟩ := HRow.out wE V2.out
      go_upto_block 2 with (fail)
      go_cut [] from 44 (fun wx => ∃ S1 : AccS, Hid (Blk wx pa (accArr S1 (kdOf id)) 57 ∧ Blk wx px (accC S) 35 ∧ Blk wx py (vArr R0) 33 ∧ Below w.heap.size w wx ∧ OkS S1 (k + 1) ∧ S1.fn = id ∧ (S.full = true → S1 = S)))
      case first =>
        obtain ⟨_, _, _, _, _, _⟩ := Z2.out.v6
        by_cases h1 : x.a = 1
        · have e1 : (x.a == 1) = true := by simp [h1]
          have HCx := Lib.hid (fed_at N pa S x.v k id R.out.2.2.1 R.out.2.2.2 (by omega) hxin.out)
          clear h1
          go_wp2_with fail
          refine (HCx.out.out _ T2.out A2.out).mono ?_
          rintro e wF ⟨rfl, A3, hb3⟩
          have HF := Lib.hid (And.intro A3 (And.intro (X2.out.but hb3 m1) (And.intro (Y2.out.but hb3 m2) (V2.out.trans (but_below3 hb3 V2.out.size ga)))))
          clear A3 hb3
          go_wp2
          go_meet
          exact ⟨S.fedG x.v, Lib.hid ⟨HF.out.1, HF.out.2.1, HF.out.2.2.1, HF.out.2.2.2, R.out.2.2.1.fed x.v, (fn_fed _ _).trans R.out.2.2.2, fun hu => full_fed hu x.v⟩⟩
        by_cases h2 : x.a = 2
        · have e1 : (x.a == 1) = false := by simp [h1]
          have e2 : (x.a == 2) = true := by simp [h2]
          have HCx := Lib.hid (cel_at N pa S x.v k id R.out.2.2.1 R.out.2.2.2 (by omega) hxin.out)
          clear h1 h2
          go_wp2_with fail
          refine (HCx.out.out _ T2.out A2.out).mono ?_
          rintro e wF ⟨rfl, A3, hb3⟩
          have HF := Lib.hid (And.intro A3 (And.intro (X2.out.but hb3 m1) (And.intro (Y2.out.but hb3 m2) (V2.out.trans (but_below3 hb3 V2.out.size ga)))))
          clear A3 hb3
          go_wp2
          go_meet
          exact ⟨S.celG N x.v, Lib.hid ⟨HF.out.1, HF.out.2.1, HF.out.2.2.1, HF.out.2.2.2, R.out.2.2.1.cel N x.v, (fn_cel _ _ _).trans R.out.2.2.2, fun hu => full_cel hu N x.v⟩⟩
        by_cases h3 : x.a = 3
        · have e1 : (x.a == 1) = false := by simp [h1]
          have e2 : (x.a == 2) = false := by simp [h2]
          have e3 : (x.a == 3) = true := by simp [h3]
          have HCx := Lib.hid (par_at pa S x.v k id R.out.2.2.1 R.out.2.2.2 hxin.out)
          clear h1 h2 h3
          go_wp2_with fail
          refine (HCx.out.out _ A2.out).mono ?_
          rintro e wF ⟨rfl, A3, hb3⟩
          have HF := Lib.hid (And.intro A3 (And.intro (X2.out.but hb3 m1) (And.intro (Y2.out.but hb3 m2) (V2.out.trans (but_below3 hb3 V2.out.size ga)))))
          clear A3 hb3
          go_wp2
          go_meet
          exact ⟨S.parG x.v, Lib.hid ⟨HF.out.1, HF.out.2.1, HF.out.2.2.1, HF.out.2.2.2, R.out.2.2.1.par x.v, (fn_par _ _).trans R.out.2.2.2, fun hu => full_par hu x.v⟩⟩
        · have e1 : (x.a == 1) = false := by simp [h1]
          have e2 : (x.a == 2) = false := by simp [h2]
          have e3 : (x.a == 3) = false := by simp [h3]
          clear h1 h2 h3
          go_wp2
          go_meet
          exact ⟨S, Lib.hid ⟨A2.out, X2.out, Y2.out, V2.out, R.out.2.2.1.up (by omega), R.out.2.2.2, fun _ => rfl⟩⟩
      case rest =>
      obtain ⟨S1, HZ⟩ := hcut
      clear A2 X2 Y2 Z2 V2 T2
      have B1 := Lib.hid HZ.out.1
      have BX := Lib.hid HZ.out.2.1
      have BY := Lib.hid HZ.out.2.2.1
      have WZ := Lib.hid HZ.out.2.2.2.1
      have OZ := Lib.hid HZ.out.2.2.2.2.1
      have FZ := Lib.hid HZ.out.2.2.2.2.2.1
      have HSame := Lib.hid HZ.out.2.2.2.2.2.2
      clear HZ R hR HRow hxin m1 m2 m3
      have HR1 := Lib.hid fun wx (hx : Blk wx pa (accArr S1 (kdOf id)) 57) => res_at pa S1 (k + 1) id wx OZ.out FZ.out (by omega) hx
      have HRt := Lib.hid fun wx => value_Right S1.resG.k S1.resG.n S1.resG.d S1.resG.t S1.resG.b S1.resG.f wx (right_in (res_right OZ.out))
      have er : rightV ⟨S1.resG.k, S1.resG.n, S1.resG.d, S1.resG.t, S1.resG.b, S1.resG.f⟩ = true := res_right OZ.out
      rw [er] at HRt
      clear er
      have HFu := Lib.hid fun wx (hx : Blk wx pa (accArr S1 (kdOf id)) 57) => acc_Full pa S1 _ wx hx
      have HWa := Lib.hid fun wx (hx : Blk wx pa (accArr S1 (kdOf id)) 57) => acc_Wants pa S1 _ wx hx
      have honce := okS_once OZ.out
      have HSS0 := Lib.hid fun (h : S.full = true) => (show aeq S1 S = true from by rw [HSame.out h]; exact aeq_self S)
      have HRR0 := Lib.hid fun (h : S.full = true) => (show S1.resG = S.resG from by rw [HSame.out h])
      have HU0 := Lib.hid fun (h : S.full = true) => (show S1.full = true from by rw [HSame.out h]; exact h)
      go_upto_region 21 with (fail)
      refine region_know 43 (by kernel_rfl) ?_
      intro hB
      cases hu0 : S.full
      case true =>
        have hu1 := HU0.out hu0
        have hw1 : S1.wants = false := by rw [hu1] at honce; simpa using honce
        have HSS := HSS0.out hu0
        have hRe := HRR0.out hu0
        rw [hu1] at HFu
        rw [hw1] at HWa
        generalize S1.resG = R1 at *
        have HRR : veq ⟨R1.k, R1.n, R1.d, R1.t, R1.b, R1.f⟩ ⟨R0.k, R0.n, R0.d, R0.t, R0.b, R0.f⟩ = true := veq_true.2 (by rw [hRe]; exact HR0.out.symm ▸ rfl)
        clear honce HSS0 HRR0 HU0 hRe HSame hw1
        refine wp_act fun a ha => ?_
        refine region_each 43 (VGtt S S1 R0 R1 pa px py) (by kernel_rfl) hB (VGtt.below S S1 R0 R1 pa px py) ?_ ?_
        · intro j hj o ho vs wx hw hk
          have hbx := hw.out
          have hzx := hbx.size
          have hfF := field_full wx S1
          have hfW := field_wants wx S1
          rw [hu1] at hfF
          rcases j with _ | _ | _ | _ | _ | _ | _ | _ | _ | _ | _ | _ | _ | _ | _ | _ | _ | _ | _ | _ | _ | _ | _ | _ | _ | _ | _ | _ | _ | _ | _ | _ | _ | _ | _ | _ | _ | _ | _ | _ | _ | _ | _ | j
          · obtain rfl : _ = o := Option.some.inj ho
            clear ho hk
            change wpList _ _ (OneQ _ a _) _ a _
            subst ha
            go_wp2
            exact ⟨_, rfl, Below.refl _ _, by first | rfl | (simp [veq_true.2, VGtt, aeq_self]; done)⟩
          · obtain rfl : _ = o := Option.some.inj ho
            have y0 : vs 0 = .pointer (some ⟨px, 17, none⟩) := hk 0 (by decide) rfl
            clear ho hk
            change wpList _ _ (OneQ _ (Act.put a (some 59) (vs 0)) _) _ (Act.put a (some 59) (vs 0)) _
            rw [y0]
            subst ha
            have h17 := (BX.out.below hbx).cell 17
            have h17x : wx.cell? ⟨px, 17, none⟩ = some (.bool S.full) := h17
            rw [hu0] at h17x
            clear h17
            go_wp2
            exact ⟨_, rfl, Below.refl _ _, by first | rfl | (simp [veq_true.2, VGtt, aeq_self]; done)⟩
          · obtain rfl : _ = o := Option.some.inj ho
            have y1 : vs 1 = .bool true := hk 1 (by decide) rfl
            clear ho hk
            change wpList _ _ (OneQ _ (Act.put a (some 60) (vs 1)) _) _ (Act.put a (some 60) (vs 1)) _
            rw [y1]
            subst ha
            exact one_value _ rfl rfl ⟨Below.refl _ _, rfl⟩
          · obtain rfl : _ = o := Option.some.inj ho
            have y2 : vs 2 = .bool true := hk 2 (by decide) rfl
            clear ho hk
            change wpList _ _ (OneQ _ (Act.put a (some 61) (vs 2)) _) _ (Act.put a (some 61) (vs 2)) _
            rw [y2]
            subst ha
            exact one_value _ rfl rfl ⟨Below.refl _ _, rfl⟩
          · obtain rfl : _ = o := Option.some.inj ho
            have y2 : vs 2 = .bool true := hk 2 (by decide) rfl
            have y3 : vs 3 = .pointer (some ⟨pa, 0, none⟩) := hk 3 (by decide) rfl
            clear ho hk
            change wpList _ _ (OneQ _ (Act.put (Act.put a (some 61) (vs 2)) (some 62) (vs 3)) _) _ (Act.put (Act.put a (some 61) (vs 2)) (some 62) (vs 3)) _
            rw [y2, y3]
            subst ha
            go_wp2_with fail
            refine (acc_State pa S1 _ _ (B1.out.below hbx)).mono ?_
            rintro e w' ⟨rfl, hb'⟩
            go_wp2
            exact ⟨_, rfl, hb', by first | rfl | (simp [VGtt, aeq_self]; done)⟩
          · obtain rfl : _ = o := Option.some.inj ho
            have y2 : vs 2 = .bool true := hk 2 (by decide) rfl
            clear ho hk
            change wpList _ _ (OneQ _ (Act.put a (some 61) (vs 2)) _) _ (Act.put a (some 61) (vs 2)) _
            rw [y2]
            subst ha
            refine wpList_load_accG S rfl rfl rfl (range_accC (BX.out.below hbx)) ?_
            go_wp2
            exact ⟨_, rfl, Below.refl _ _, rfl⟩
          · obtain rfl : _ = o := Option.some.inj ho
            have y2 : vs 2 = .bool true := hk 2 (by decide) rfl
            have y4 : vs 4 = accV S1 := hk 4 (by decide) rfl
            have y5 : vs 5 = accV S := hk 5 (by decide) rfl
            clear ho hk
            change wpList _ _ (OneQ _ (Act.put (Act.put (Act.put a (some 61) (vs 2)) (some 63) (vs 4)) (some 64) (vs 5)) _) _ (Act.put (Act.put (Act.put a (some 61) (vs 2)) (some 63) (vs 4)) (some 64) (vs 5)) _
            rw [y2, y4, y5]
            subst ha
            have hne := HSS
            go_wp2
            exact ⟨_, rfl, Below.refl _ _, by first | rfl | (simp [veq_true.2, VGtt, aeq_self]; done)⟩
          · obtain rfl : _ = o := Option.some.inj ho
            have y2 : vs 2 = .bool true := hk 2 (by decide) rfl
            have y6 : vs 6 = .bool false := hk 6 (by decide) rfl
            clear ho hk
            change wpList _ _ (OneQ _ (Act.put (Act.put a (some 61) (vs 2)) (some 65) (vs 6)) _) _ (Act.put (Act.put a (some 61) (vs 2)) (some 65) (vs 6)) _
            rw [y2, y6]
            subst ha
            exact one_value _ rfl rfl ⟨Below.refl _ _, rfl⟩
          · obtain rfl : _ = o := Option.some.inj ho
            have y7 : vs 7 = .bool false := hk 7 (by decide) rfl
            clear ho hk
            change wpList _ _ (OneQ _ (Act.put a (some 66) (vs 7)) _) _ (Act.put a (some 66) (vs 7)) _
            rw [y7]
            subst ha
            exact one_value _ rfl rfl ⟨Below.refl _ _, rfl⟩
          · obtain rfl : _ = o := Option.some.inj ho
            have y7 : vs 7 = .bool false := hk 7 (by decide) rfl
            have y8 : vs 8 = .pointer (some ⟨pa, 0, none⟩) := hk 8 (by decide) rfl
            clear ho hk
            change wpList _ _ (OneQ _ (Act.put (Act.put a (some 66) (vs 7)) (some 67) (vs 8)) _) _ (Act.put (Act.put a (some 66) (vs 7)) (some 67) (vs 8)) _
            rw [y7, y8]
            subst ha
            go_wp2_with fail
            refine (HR1.out _ (B1.out.below hbx)).mono ?_
            rintro e w' ⟨rfl, hb'⟩
            go_wp2
            exact ⟨_, rfl, hb', by first | rfl | (simp [VGtt, aeq_self]; done)⟩
          · obtain rfl : _ = o := Option.some.inj ho
            have y7 : vs 7 = .bool false := hk 7 (by decide) rfl
            clear ho hk
            change wpList _ _ (OneQ _ (Act.put a (some 66) (vs 7)) _) _ (Act.put a (some 66) (vs 7)) _
            rw [y7]
            subst ha
            obtain ⟨_, _, _, _, _, _⟩ := (BY.out.below hbx).v6
            go_wp2
            exact ⟨_, rfl, Below.refl _ _, by first | rfl | (simp [veq_true.2, VGtt, aeq_self]; done)⟩
          · obtain rfl : _ = o := Option.some.inj ho
            have y7 : vs 7 = .bool false := hk 7 (by decide) rfl
            have y9 : vs 9 = .agg #[.int .i64 (R1).k, .int .i64 (R1).n, .int .i64 (R1).d, .string (R1).t, .bool (R1).b, .int .i64 (R1).f] := hk 9 (by decide) rfl
            have y10 : vs 10 = .agg #[.int .i64 (R0).k, .int .i64 (R0).n, .int .i64 (R0).d, .string (R0).t, .bool (R0).b, .int .i64 (R0).f] := hk 10 (by decide) rfl
            clear ho hk
            change wpList _ _ (OneQ _ (Act.put (Act.put (Act.put a (some 66) (vs 7)) (some 68) (vs 9)) (some 69) (vs 10)) _) _ (Act.put (Act.put (Act.put a (some 66) (vs 7)) (some 68) (vs 9)) (some 69) (vs 10)) _
            rw [y7, y9, y10]
            subst ha
            have hne := HRR
            go_wp2
            exact ⟨_, rfl, Below.refl _ _, by first | rfl | (simp [veq_true.2, VGtt, aeq_self]; done)⟩
          · obtain rfl : _ = o := Option.some.inj ho
            have y2 : vs 2 = .bool true := hk 2 (by decide) rfl
            have y7 : vs 7 = .bool false := hk 7 (by decide) rfl
            have y11 : vs 11 = .bool false := hk 11 (by decide) rfl
            clear ho hk
            change wpList _ _ (OneQ _ (Act.put (Act.put (Act.put a (some 61) (vs 2)) (some 66) (vs 7)) (some 70) (vs 11)) _) _ (Act.put (Act.put (Act.put a (some 61) (vs 2)) (some 66) (vs 7)) (some 70) (vs 11)) _
            rw [y2, y7, y11]
            subst ha
            exact one_value _ rfl rfl ⟨Below.refl _ _, rfl⟩
          · obtain rfl : _ = o := Option.some.inj ho
            have y2 : vs 2 = .bool true := hk 2 (by decide) rfl
            have y12 : vs 12 = .bool false := hk 12 (by decide) rfl
            clear ho hk
            change wpList _ _ (OneQ _ (Act.put (Act.put a (some 61) (vs 2)) (some 71) (vs 12)) _) _ (Act.put (Act.put a (some 61) (vs 2)) (some 71) (vs 12)) _
            rw [y2, y12]
            subst ha
            exact one_value _ rfl rfl ⟨Below.refl _ _, rfl⟩
          · obtain rfl : _ = o := Option.some.inj ho
            have y13 : vs 13 = .bool false := hk 13 (by decide) rfl
            clear ho hk
            change wpList _ _ (OneQ _ (Act.put a (some 72) (vs 13)) _) _ (Act.put a (some 72) (vs 13)) _
            rw [y13]
            subst ha
            exact one_value _ rfl rfl ⟨Below.refl _ _, rfl⟩
          · obtain rfl : _ = o := Option.some.inj ho
            have y14 : vs 14 = .bool false := hk 14 (by decide) rfl
            clear ho hk
            change wpList _ _ (OneQ _ (Act.put a (some 73) (vs 14)) _) _ (Act.put a (some 73) (vs 14)) _
            rw [y14]
            subst ha
            exact one_value _ rfl rfl ⟨Below.refl _ _, rfl⟩
          · obtain rfl : _ = o := Option.some.inj ho
            have y14 : vs 14 = .bool false := hk 14 (by decide) rfl
            have y15 : vs 15 = .pointer (some ⟨pa, 0, none⟩) := hk 15 (by decide) rfl
            clear ho hk
            change wpList _ _ (OneQ _ (Act.put (Act.put a (some 73) (vs 14)) (some 74) (vs 15)) _) _ (Act.put (Act.put a (some 73) (vs 14)) (some 74) (vs 15)) _
            rw [y14, y15]
            subst ha
            go_wp2_with fail
            refine (HR1.out _ (B1.out.below hbx)).mono ?_
            rintro e w' ⟨rfl, hb'⟩
            go_wp2
            exact ⟨_, rfl, hb', by first | rfl | (simp [VGtt, aeq_self]; done)⟩
          · obtain rfl : _ = o := Option.some.inj ho
            have y14 : vs 14 = .bool false := hk 14 (by decide) rfl
            have y16 : vs 16 = .agg #[.int .i64 (R1).k, .int .i64 (R1).n, .int .i64 (R1).d, .string (R1).t, .bool (R1).b, .int .i64 (R1).f] := hk 16 (by decide) rfl
            clear ho hk
            change wpList _ _ (OneQ _ (Act.put (Act.put a (some 73) (vs 14)) (some 75) (vs 16)) _) _ (Act.put (Act.put a (some 73) (vs 14)) (some 75) (vs 16)) _
            rw [y14, y16]
            subst ha
            go_wp2_with fail
            refine (HRt.out _).mono ?_
            rintro e w' ⟨rfl, hb'⟩
            go_wp2
            exact ⟨_, rfl, hb', by first | rfl | (simp [VGtt, aeq_self]; done)⟩
          · obtain rfl : _ = o := Option.some.inj ho
            have y14 : vs 14 = .bool false := hk 14 (by decide) rfl
            have y17 : vs 17 = .bool true := hk 17 (by decide) rfl
            clear ho hk
            change wpList _ _ (OneQ _ (Act.put (Act.put a (some 73) (vs 14)) (some 76) (vs 17)) _) _ (Act.put (Act.put a (some 73) (vs 14)) (some 76) (vs 17)) _
            rw [y14, y17]
            subst ha
            go_wp2
            exact ⟨_, rfl, Below.refl _ _, by first | rfl | (simp [veq_true.2, VGtt, aeq_self]; done)⟩
          · obtain rfl : _ = o := Option.some.inj ho
            have y14 : vs 14 = .bool false := hk 14 (by decide) rfl
            have y18 : vs 18 = .bool false := hk 18 (by decide) rfl
            clear ho hk
            change wpList _ _ (OneQ _ (Act.put (Act.put a (some 73) (vs 14)) (some 77) (vs 18)) _) _ (Act.put (Act.put a (some 73) (vs 14)) (some 77) (vs 18)) _
            rw [y14, y18]
            subst ha
            exact one_value _ rfl rfl ⟨Below.refl _ _, rfl⟩
          · obtain rfl : _ = o := Option.some.inj ho
            have y19 : vs 19 = .bool false := hk 19 (by decide) rfl
            clear ho hk
            change wpList _ _ (OneQ _ (Act.put a (some 78) (vs 19)) _) _ (Act.put a (some 78) (vs 19)) _
            rw [y19]
            subst ha
            exact one_value _ rfl rfl ⟨Below.refl _ _, rfl⟩
          · obtain rfl : _ = o := Option.some.inj ho
            have y20 : vs 20 = .bool false := hk 20 (by decide) rfl
            clear ho hk
            change wpList _ _ (OneQ _ (Act.put a (some 79) (vs 20)) _) _ (Act.put a (some 79) (vs 20)) _
            rw [y20]
            subst ha
            exact one_value _ rfl rfl ⟨Below.refl _ _, rfl⟩
          · obtain rfl : _ = o := Option.some.inj ho
            have y20 : vs 20 = .bool false := hk 20 (by decide) rfl
            have y21 : vs 21 = .pointer (some ⟨pa, 0, none⟩) := hk 21 (by decide) rfl
            clear ho hk
            change wpList _ _ (OneQ _ (Act.put (Act.put a (some 79) (vs 20)) (some 80) (vs 21)) _) _ (Act.put (Act.put a (some 79) (vs 20)) (some 80) (vs 21)) _
            rw [y20, y21]
            subst ha
            go_wp2_with fail
            refine (HFu.out _ (B1.out.below hbx)).mono ?_
            rintro e w' ⟨rfl, rfl⟩
            go_wp2
            exact ⟨_, rfl, Below.refl _ _, rfl⟩
          · obtain rfl : _ = o := Option.some.inj ho
            have y20 : vs 20 = .bool false := hk 20 (by decide) rfl
            clear ho hk
            change wpList _ _ (OneQ _ (Act.put a (some 79) (vs 20)) _) _ (Act.put a (some 79) (vs 20)) _
            rw [y20]
            subst ha
            exact one_value _ rfl rfl ⟨Below.refl _ _, rfl⟩
          · obtain rfl : _ = o := Option.some.inj ho
            have y20 : vs 20 = .bool false := hk 20 (by decide) rfl
            have y23 : vs 23 = .pointer (some ⟨pa, 0, none⟩) := hk 23 (by decide) rfl
            clear ho hk
            change wpList _ _ (OneQ _ (Act.put (Act.put a (some 79) (vs 20)) (some 82) (vs 23)) _) _ (Act.put (Act.put a (some 79) (vs 20)) (some 82) (vs 23)) _
            rw [y20, y23]
            subst ha
            go_wp2_with fail
            refine (acc_State pa S1 _ _ (B1.out.below hbx)).mono ?_
            rintro e w' ⟨rfl, hb'⟩
            go_wp2
            exact ⟨_, rfl, hb', by first | rfl | (simp [VGtt, aeq_self]; done)⟩
          · obtain rfl : _ = o := Option.some.inj ho
            have y20 : vs 20 = .bool false := hk 20 (by decide) rfl
            have y24 : vs 24 = accV S1 := hk 24 (by decide) rfl
            clear ho hk
            change wpList _ _ (OneQ _ (Act.put (Act.put a (some 79) (vs 20)) (some 83) (vs 24)) _) _ (Act.put (Act.put a (some 79) (vs 20)) (some 83) (vs 24)) _
            rw [y20, y24]
            subst ha
            go_wp2
            exact ⟨_, rfl, Below.refl _ _, by first | rfl | (simp [veq_true.2, VGtt, aeq_self]; done)⟩
          · obtain rfl : _ = o := Option.some.inj ho
            have y20 : vs 20 = .bool false := hk 20 (by decide) rfl
            have y22 : vs 22 = .bool true := hk 22 (by decide) rfl
            have y25 : vs 25 = .bool true := hk 25 (by decide) rfl
            clear ho hk
            change wpList _ _ (OneQ _ (Act.put (Act.put (Act.put a (some 79) (vs 20)) (some 81) (vs 22)) (some 84) (vs 25)) _) _ (Act.put (Act.put (Act.put a (some 79) (vs 20)) (some 81) (vs 22)) (some 84) (vs 25)) _
            rw [y20, y22, y25]
            subst ha
            go_wp2
            exact ⟨_, rfl, Below.refl _ _, by first | rfl | (simp [veq_true.2, VGtt, aeq_self]; done)⟩
          · obtain rfl : _ = o := Option.some.inj ho
            have y20 : vs 20 = .bool false := hk 20 (by decide) rfl
            have y26 : vs 26 = .bool false := hk 26 (by decide) rfl
            clear ho hk
            change wpList _ _ (OneQ _ (Act.put (Act.put a (some 79) (vs 20)) (some 85) (vs 26)) _) _ (Act.put (Act.put a (some 79) (vs 20)) (some 85) (vs 26)) _
            rw [y20, y26]
            subst ha
            exact one_value _ rfl rfl ⟨Below.refl _ _, rfl⟩
          · obtain rfl : _ = o := Option.some.inj ho
            have y27 : vs 27 = .bool false := hk 27 (by decide) rfl
            clear ho hk
            change wpList _ _ (OneQ _ (Act.put a (some 86) (vs 27)) _) _ (Act.put a (some 86) (vs 27)) _
            rw [y27]
            subst ha
            exact one_value _ rfl rfl ⟨Below.refl _ _, rfl⟩
          · obtain rfl : _ = o := Option.some.inj ho
            have y28 : vs 28 = .bool false := hk 28 (by decide) rfl
            clear ho hk
            change wpList _ _ (OneQ _ (Act.put a (some 87) (vs 28)) _) _ (Act.put a (some 87) (vs 28)) _
            rw [y28]
            subst ha
            exact one_value _ rfl rfl ⟨Below.refl _ _, rfl⟩
          · obtain rfl : _ = o := Option.some.inj ho
            have y28 : vs 28 = .bool false := hk 28 (by decide) rfl
            have y29 : vs 29 = .pointer (some ⟨pa, 0, none⟩) := hk 29 (by decide) rfl
            clear ho hk
            change wpList _ _ (OneQ _ (Act.put (Act.put a (some 87) (vs 28)) (some 88) (vs 29)) _) _ (Act.put (Act.put a (some 87) (vs 28)) (some 88) (vs 29)) _
            rw [y28, y29]
            subst ha
            go_wp2_with fail
            refine (acc_Wants pa S1 _ _ (B1.out.below hbx)).mono ?_
            rintro e w' ⟨rfl, rfl⟩
            go_wp2
            exact ⟨_, rfl, Below.refl _ _, rfl⟩
          · obtain rfl : _ = o := Option.some.inj ho
            have y28 : vs 28 = .bool false := hk 28 (by decide) rfl
            clear ho hk
            change wpList _ _ (OneQ _ (Act.put a (some 87) (vs 28)) _) _ (Act.put a (some 87) (vs 28)) _
            rw [y28]
            subst ha
            exact one_value _ rfl rfl ⟨Below.refl _ _, rfl⟩
          · obtain rfl : _ = o := Option.some.inj ho
            have y28 : vs 28 = .bool false := hk 28 (by decide) rfl
            have y31 : vs 31 = .pointer (some ⟨pa, 0, none⟩) := hk 31 (by decide) rfl
            clear ho hk
            change wpList _ _ (OneQ _ (Act.put (Act.put a (some 87) (vs 28)) (some 90) (vs 31)) _) _ (Act.put (Act.put a (some 87) (vs 28)) (some 90) (vs 31)) _
            rw [y28, y31]
            subst ha
            go_wp2_with fail
            refine (acc_State pa S1 _ _ (B1.out.below hbx)).mono ?_
            rintro e w' ⟨rfl, hb'⟩
            go_wp2
            exact ⟨_, rfl, hb', by first | rfl | (simp [VGtt, aeq_self]; done)⟩
          · obtain rfl : _ = o := Option.some.inj ho
            have y28 : vs 28 = .bool false := hk 28 (by decide) rfl
            have y32 : vs 32 = accV S1 := hk 32 (by decide) rfl
            clear ho hk
            change wpList _ _ (OneQ _ (Act.put (Act.put a (some 87) (vs 28)) (some 91) (vs 32)) _) _ (Act.put (Act.put a (some 87) (vs 28)) (some 91) (vs 32)) _
            rw [y28, y32]
            subst ha
            go_wp2
            exact ⟨_, rfl, Below.refl _ _, by first | rfl | (simp [veq_true.2, VGtt, aeq_self]; done)⟩
          · obtain rfl : _ = o := Option.some.inj ho
            have y28 : vs 28 = .bool false := hk 28 (by decide) rfl
            have y30 : vs 30 = .bool S1.wants := hk 30 (by decide) rfl
            have y33 : vs 33 = .bool S1.wants := hk 33 (by decide) rfl
            clear ho hk
            change wpList _ _ (OneQ _ (Act.put (Act.put (Act.put a (some 87) (vs 28)) (some 89) (vs 30)) (some 92) (vs 33)) _) _ (Act.put (Act.put (Act.put a (some 87) (vs 28)) (some 89) (vs 30)) (some 92) (vs 33)) _
            rw [y28, y30, y33]
            subst ha
            go_wp2
            exact ⟨_, rfl, Below.refl _ _, by first | rfl | (simp [veq_true.2, VGtt, aeq_self]; done)⟩
          · obtain rfl : _ = o := Option.some.inj ho
            have y28 : vs 28 = .bool false := hk 28 (by decide) rfl
            have y34 : vs 34 = .bool false := hk 34 (by decide) rfl
            clear ho hk
            change wpList _ _ (OneQ _ (Act.put (Act.put a (some 87) (vs 28)) (some 93) (vs 34)) _) _ (Act.put (Act.put a (some 87) (vs 28)) (some 93) (vs 34)) _
            rw [y28, y34]
            subst ha
            exact one_value _ rfl rfl ⟨Below.refl _ _, rfl⟩
          · obtain rfl : _ = o := Option.some.inj ho
            have y35 : vs 35 = .bool false := hk 35 (by decide) rfl
            clear ho hk
            change wpList _ _ (OneQ _ (Act.put a (some 94) (vs 35)) _) _ (Act.put a (some 94) (vs 35)) _
            rw [y35]
            subst ha
            exact one_value _ rfl rfl ⟨Below.refl _ _, rfl⟩
          · obtain rfl : _ = o := Option.some.inj ho
            have y36 : vs 36 = .bool false := hk 36 (by decide) rfl
            clear ho hk
            change wpList _ _ (OneQ _ (Act.put a (some 95) (vs 36)) _) _ (Act.put a (some 95) (vs 36)) _
            rw [y36]
            subst ha
            exact one_value _ rfl rfl ⟨Below.refl _ _, rfl⟩
          · obtain rfl : _ = o := Option.some.inj ho
            have y36 : vs 36 = .bool false := hk 36 (by decide) rfl
            have y37 : vs 37 = .pointer (some ⟨pa, 0, none⟩) := hk 37 (by decide) rfl
            clear ho hk
            change wpList _ _ (OneQ _ (Act.put (Act.put a (some 95) (vs 36)) (some 96) (vs 37)) _) _ (Act.put (Act.put a (some 95) (vs 36)) (some 96) (vs 37)) _
            rw [y36, y37]
            subst ha
            go_wp2_with fail
            refine (HFu.out _ (B1.out.below hbx)).mono ?_
            rintro e w' ⟨rfl, rfl⟩
            go_wp2
            exact ⟨_, rfl, Below.refl _ _, rfl⟩
          · obtain rfl : _ = o := Option.some.inj ho
            have y36 : vs 36 = .bool false := hk 36 (by decide) rfl
            have y38 : vs 38 = .bool true := hk 38 (by decide) rfl
            clear ho hk
            change wpList _ _ (OneQ _ (Act.put (Act.put a (some 95) (vs 36)) (some 97) (vs 38)) _) _ (Act.put (Act.put a (some 95) (vs 36)) (some 97) (vs 38)) _
            rw [y36, y38]
            subst ha
            exact one_value _ rfl rfl ⟨Below.refl _ _, rfl⟩
          · obtain rfl : _ = o := Option.some.inj ho
            have y39 : vs 39 = .bool true := hk 39 (by decide) rfl
            clear ho hk
            change wpList _ _ (OneQ _ (Act.put a (some 98) (vs 39)) _) _ (Act.put a (some 98) (vs 39)) _
            rw [y39]
            subst ha
            exact one_value _ rfl rfl ⟨Below.refl _ _, rfl⟩
          · obtain rfl : _ = o := Option.some.inj ho
            have y39 : vs 39 = .bool true := hk 39 (by decide) rfl
            have y40 : vs 40 = .pointer (some ⟨pa, 0, none⟩) := hk 40 (by decide) rfl
            clear ho hk
            change wpList _ _ (OneQ _ (Act.put (Act.put a (some 98) (vs 39)) (some 99) (vs 40)) _) _ (Act.put (Act.put a (some 98) (vs 39)) (some 99) (vs 40)) _
            rw [y39, y40]
            subst ha
            go_wp2_with fail
            refine (HWa.out _ (B1.out.below hbx)).mono ?_
            rintro e w' ⟨rfl, rfl⟩
            go_wp2
            exact ⟨_, rfl, Below.refl _ _, rfl⟩
          · obtain rfl : _ = o := Option.some.inj ho
            have y36 : vs 36 = .bool false := hk 36 (by decide) rfl
            have y39 : vs 39 = .bool true := hk 39 (by decide) rfl
            have y41 : vs 41 = .bool false := hk 41 (by decide) rfl
            clear ho hk
            change wpList _ _ (OneQ _ (Act.put (Act.put (Act.put a (some 95) (vs 36)) (some 98) (vs 39)) (some 100) (vs 41)) _) _ (Act.put (Act.put (Act.put a (some 95) (vs 36)) (some 98) (vs 39)) (some 100) (vs 41)) _
            rw [y36, y39, y41]
            subst ha
            exact one_value _ rfl rfl ⟨Below.refl _ _, rfl⟩
          · omega
        · intro vs wx hw hv
          have hbx := hw.out
          have y0 : vs 0 = .pointer (some ⟨px, 17, none⟩) := hv 0 (by decide)
          have y1 : vs 1 = .bool true := hv 1 (by decide)
          have y2 : vs 2 = .bool true := hv 2 (by decide)
          have y3 : vs 3 = .pointer (some ⟨pa, 0, none⟩) := hv 3 (by decide)
          have y4 : vs 4 = accV S1 := hv 4 (by decide)
          have y5 : vs 5 = accV S := hv 5 (by decide)
          have y6 : vs 6 = .bool false := hv 6 (by decide)
          have y7 : vs 7 = .bool false := hv 7 (by decide)
          have y8 : vs 8 = .pointer (some ⟨pa, 0, none⟩) := hv 8 (by decide)
          have y9 : vs 9 = .agg #[.int .i64 (R1).k, .int .i64 (R1).n, .int .i64 (R1).d, .string (R1).t, .bool (R1).b, .int .i64 (R1).f] := hv 9 (by decide)
          have y10 : vs 10 = .agg #[.int .i64 (R0).k, .int .i64 (R0).n, .int .i64 (R0).d, .string (R0).t, .bool (R0).b, .int .i64 (R0).f] := hv 10 (by decide)
          have y11 : vs 11 = .bool false := hv 11 (by decide)
          have y12 : vs 12 = .bool false := hv 12 (by decide)
          have y13 : vs 13 = .bool false := hv 13 (by decide)
          have y14 : vs 14 = .bool false := hv 14 (by decide)
          have y15 : vs 15 = .pointer (some ⟨pa, 0, none⟩) := hv 15 (by decide)
          have y16 : vs 16 = .agg #[.int .i64 (R1).k, .int .i64 (R1).n, .int .i64 (R1).d, .string (R1).t, .bool (R1).b, .int .i64 (R1).f] := hv 16 (by decide)
          have y17 : vs 17 = .bool true := hv 17 (by decide)
          have y18 : vs 18 = .bool false := hv 18 (by decide)
          have y19 : vs 19 = .bool false := hv 19 (by decide)
          have y20 : vs 20 = .bool false := hv 20 (by decide)
          have y21 : vs 21 = .pointer (some ⟨pa, 0, none⟩) := hv 21 (by decide)
          have y22 : vs 22 = .bool true := hv 22 (by decide)
          have y23 : vs 23 = .pointer (some ⟨pa, 0, none⟩) := hv 23 (by decide)
          have y24 : vs 24 = accV S1 := hv 24 (by decide)
          have y25 : vs 25 = .bool true := hv 25 (by decide)
          have y26 : vs 26 = .bool false := hv 26 (by decide)
          have y27 : vs 27 = .bool false := hv 27 (by decide)
          have y28 : vs 28 = .bool false := hv 28 (by decide)
          have y29 : vs 29 = .pointer (some ⟨pa, 0, none⟩) := hv 29 (by decide)
          have y30 : vs 30 = .bool S1.wants := hv 30 (by decide)
          have y31 : vs 31 = .pointer (some ⟨pa, 0, none⟩) := hv 31 (by decide)
          have y32 : vs 32 = accV S1 := hv 32 (by decide)
          have y33 : vs 33 = .bool S1.wants := hv 33 (by decide)
          have y34 : vs 34 = .bool false := hv 34 (by decide)
          have y35 : vs 35 = .bool false := hv 35 (by decide)
          have y36 : vs 36 = .bool false := hv 36 (by decide)
          have y37 : vs 37 = .pointer (some ⟨pa, 0, none⟩) := hv 37 (by decide)
          have y38 : vs 38 = .bool true := hv 38 (by decide)
          have y39 : vs 39 = .bool true := hv 39 (by decide)
          have y40 : vs 40 = .pointer (some ⟨pa, 0, none⟩) := hv 40 (by decide)
          have y41 : vs 41 = .bool false := hv 41 (by decide)
          have y42 : vs 42 = .bool false := hv 42 (by decide)
          clear hv hw
          change wpList _ _ _ _ (Act.put (Act.put (Act.put (Act.put (Act.put (Act.put (Act.put (Act.put (Act.put (Act.put (Act.put (Act.put (Act.put (Act.put (Act.put (Act.put (Act.put (Act.put (Act.put (Act.put (Act.put (Act.put (Act.put (Act.put (Act.put (Act.put (Act.put (Act.put (Act.put (Act.put (Act.put (Act.put (Act.put (Act.put (Act.put (Act.put (Act.put (Act.put (Act.put (Act.put (Act.put (Act.put (Act.put a (some 59) (vs 0)) (some 60) (vs 1)) (some 61) (vs 2)) (some 62) (vs 3)) (some 63) (vs 4)) (some 64) (vs 5)) (some 65) (vs 6)) (some 66) (vs 7)) (some 67) (vs 8)) (some 68) (vs 9)) (some 69) (vs 10)) (some 70) (vs 11)) (some 71) (vs 12)) (some 72) (vs 13)) (some 73) (vs 14)) (some 74) (vs 15)) (some 75) (vs 16)) (some 76) (vs 17)) (some 77) (vs 18)) (some 78) (vs 19)) (some 79) (vs 20)) (some 80) (vs 21)) (some 81) (vs 22)) (some 82) (vs 23)) (some 83) (vs 24)) (some 84) (vs 25)) (some 85) (vs 26)) (some 86) (vs 27)) (some 87) (vs 28)) (some 88) (vs 29)) (some 89) (vs 30)) (some 90) (vs 31)) (some 91) (vs 32)) (some 92) (vs 33)) (some 93) (vs 34)) (some 94) (vs 35)) (some 95) (vs 36)) (some 96) (vs 37)) (some 97) (vs 38)) (some 98) (vs 39)) (some 99) (vs 40)) (some 100) (vs 41)) (some 101) (vs 42)) _
          rw [y0, y1, y2, y3, y4, y5, y6, y7, y8, y9, y10, y11, y12, y13, y14, y15, y16, y17, y18, y19, y20, y21, y22, y23, y24, y25, y26, y27, y28, y29, y30, y31, y32, y33, y34, y35, y36, y37, y38, y39, y40, y41, y42]
          subst ha
          clear y0 y1 y2 y3 y4 y5 y6 y7 y8 y9 y10 y11 y12 y13 y14 y15 y16 y17 y18 y19 y20 y21 y22 y23 y24 y25 y26 y27 y28 y29 y30 y31 y32 y33 y34 y35 y36 y37 y38 y39 y40 y41 y42
          simp only [List.drop_succ_cons, List.drop_zero]
          go_wp2
          go_roundw
          case rel => exact ⟨k + 1, S1, by omega, by go_num, Lib.hid ⟨B1.out.below hbx, WZ.out.trans (hbx.mono WZ.out.size), OZ.out.up (by push_cast; omega), FZ.out⟩⟩
          case measure => simp [intOf]; omega
      case false =>
        clear HSS0 HRR0 HU0 HSame
        cases hu1 : S1.full
        case true =>
          have hw1 : S1.wants = false := by rw [hu1] at honce; simpa using honce
          rw [hu1] at HFu
          rw [hw1] at HWa
          generalize S1.resG = R1 at *
          clear honce hw1
          refine wp_act fun a ha => ?_
          refine region_each 43 (VGft S S1 R0 R1 pa px py) (by kernel_rfl) hB (VGft.below S S1 R0 R1 pa px py) ?_ ?_
          · intro j hj o ho vs wx hw hk
            have hbx := hw.out
            have hzx := hbx.size
            have hfF := field_full wx S1
            have hfW := field_wants wx S1
            rw [hu1] at hfF
            rcases j with _ | _ | _ | _ | _ | _ | _ | _ | _ | _ | _ | _ | _ | _ | _ | _ | _ | _ | _ | _ | _ | _ | _ | _ | _ | _ | _ | _ | _ | _ | _ | _ | _ | _ | _ | _ | _ | _ | _ | _ | _ | _ | _ | j
            · obtain rfl : _ = o := Option.some.inj ho
              clear ho hk
              change wpList _ _ (OneQ _ a _) _ a _
              subst ha
              go_wp2
              exact ⟨_, rfl, Below.refl _ _, by first | rfl | (simp [veq_true.2, VGft, aeq_self]; done)⟩
            · obtain rfl : _ = o := Option.some.inj ho
              have y0 : vs 0 = .pointer (some ⟨px, 17, none⟩) := hk 0 (by decide) rfl
              clear ho hk
              change wpList _ _ (OneQ _ (Act.put a (some 59) (vs 0)) _) _ (Act.put a (some 59) (vs 0)) _
              rw [y0]
              subst ha
              have h17 := (BX.out.below hbx).cell 17
              have h17x : wx.cell? ⟨px, 17, none⟩ = some (.bool S.full) := h17
              rw [hu0] at h17x
              clear h17
              go_wp2
              exact ⟨_, rfl, Below.refl _ _, by first | rfl | (simp [veq_true.2, VGft, aeq_self]; done)⟩
            · obtain rfl : _ = o := Option.some.inj ho
              have y1 : vs 1 = .bool false := hk 1 (by decide) rfl
              clear ho hk
              change wpList _ _ (OneQ _ (Act.put a (some 60) (vs 1)) _) _ (Act.put a (some 60) (vs 1)) _
              rw [y1]
              subst ha
              exact one_value _ rfl rfl ⟨Below.refl _ _, rfl⟩
            · obtain rfl : _ = o := Option.some.inj ho
              have y2 : vs 2 = .bool false := hk 2 (by decide) rfl
              clear ho hk
              change wpList _ _ (OneQ _ (Act.put a (some 61) (vs 2)) _) _ (Act.put a (some 61) (vs 2)) _
              rw [y2]
              subst ha
              refine wpList_skip rfl ?_
              exact ⟨_, rfl, Below.refl _ _, rfl⟩
            · obtain rfl : _ = o := Option.some.inj ho
              have y2 : vs 2 = .bool false := hk 2 (by decide) rfl
              have y3 : vs 3 = undef := hk 3 (by decide) rfl
              clear ho hk
              change wpList _ _ (OneQ _ (Act.put (Act.put a (some 61) (vs 2)) (some 62) (vs 3)) _) _ (Act.put (Act.put a (some 61) (vs 2)) (some 62) (vs 3)) _
              rw [y2, y3]
              subst ha
              refine wpList_skip rfl ?_
              exact ⟨_, rfl, Below.refl _ _, rfl⟩
            · obtain rfl : _ = o := Option.some.inj ho
              have y2 : vs 2 = .bool false := hk 2 (by decide) rfl
              clear ho hk
              change wpList _ _ (OneQ _ (Act.put a (some 61) (vs 2)) _) _ (Act.put a (some 61) (vs 2)) _
              rw [y2]
              subst ha
              refine wpList_skip rfl ?_
              exact ⟨_, rfl, Below.refl _ _, rfl⟩
            · obtain rfl : _ = o := Option.some.inj ho
              have y2 : vs 2 = .bool false := hk 2 (by decide) rfl
              have y4 : vs 4 = undef := hk 4 (by decide) rfl
              have y5 : vs 5 = undef := hk 5 (by decide) rfl
              clear ho hk
              change wpList _ _ (OneQ _ (Act.put (Act.put (Act.put a (some 61) (vs 2)) (some 63) (vs 4)) (some 64) (vs 5)) _) _ (Act.put (Act.put (Act.put a (some 61) (vs 2)) (some 63) (vs 4)) (some 64) (vs 5)) _
              rw [y2, y4, y5]
              subst ha
              refine wpList_skip rfl ?_
              exact ⟨_, rfl, Below.refl _ _, rfl⟩
            · obtain rfl : _ = o := Option.some.inj ho
              have y2 : vs 2 = .bool false := hk 2 (by decide) rfl
              have y6 : vs 6 = undef := hk 6 (by decide) rfl
              clear ho hk
              change wpList _ _ (OneQ _ (Act.put (Act.put a (some 61) (vs 2)) (some 65) (vs 6)) _) _ (Act.put (Act.put a (some 61) (vs 2)) (some 65) (vs 6)) _
              rw [y2, y6]
              subst ha
              refine wpList_skip rfl ?_
              exact ⟨_, rfl, Below.refl _ _, rfl⟩
            · obtain rfl : _ = o := Option.some.inj ho
              have y7 : vs 7 = undef := hk 7 (by decide) rfl
              clear ho hk
              change wpList _ _ (OneQ _ (Act.put a (some 66) (vs 7)) _) _ (Act.put a (some 66) (vs 7)) _
              rw [y7]
              subst ha
              refine wpList_skip rfl ?_
              exact ⟨_, rfl, Below.refl _ _, rfl⟩
            · obtain rfl : _ = o := Option.some.inj ho
              have y7 : vs 7 = undef := hk 7 (by decide) rfl
              have y8 : vs 8 = undef := hk 8 (by decide) rfl
              clear ho hk
              change wpList _ _ (OneQ _ (Act.put (Act.put a (some 66) (vs 7)) (some 67) (vs 8)) _) _ (Act.put (Act.put a (some 66) (vs 7)) (some 67) (vs 8)) _
              rw [y7, y8]
              subst ha
              refine wpList_skip rfl ?_
              exact ⟨_, rfl, Below.refl _ _, rfl⟩
            · obtain rfl : _ = o := Option.some.inj ho
              have y7 : vs 7 = undef := hk 7 (by decide) rfl
              clear ho hk
              change wpList _ _ (OneQ _ (Act.put a (some 66) (vs 7)) _) _ (Act.put a (some 66) (vs 7)) _
              rw [y7]
              subst ha
              refine wpList_skip rfl ?_
              exact ⟨_, rfl, Below.refl _ _, rfl⟩
            · obtain rfl : _ = o := Option.some.inj ho
              have y7 : vs 7 = undef := hk 7 (by decide) rfl
              have y9 : vs 9 = undef := hk 9 (by decide) rfl
              have y10 : vs 10 = undef := hk 10 (by decide) rfl
              clear ho hk
              change wpList _ _ (OneQ _ (Act.put (Act.put (Act.put a (some 66) (vs 7)) (some 68) (vs 9)) (some 69) (vs 10)) _) _ (Act.put (Act.put (Act.put a (some 66) (vs 7)) (some 68) (vs 9)) (some 69) (vs 10)) _
              rw [y7, y9, y10]
              subst ha
              refine wpList_skip rfl ?_
              exact ⟨_, rfl, Below.refl _ _, rfl⟩
            · obtain rfl : _ = o := Option.some.inj ho
              have y2 : vs 2 = .bool false := hk 2 (by decide) rfl
              have y7 : vs 7 = undef := hk 7 (by decide) rfl
              have y11 : vs 11 = undef := hk 11 (by decide) rfl
              clear ho hk
              change wpList _ _ (OneQ _ (Act.put (Act.put (Act.put a (some 61) (vs 2)) (some 66) (vs 7)) (some 70) (vs 11)) _) _ (Act.put (Act.put (Act.put a (some 61) (vs 2)) (some 66) (vs 7)) (some 70) (vs 11)) _
              rw [y2, y7, y11]
              subst ha
              refine wpList_skip rfl ?_
              exact ⟨_, rfl, Below.refl _ _, rfl⟩
            · obtain rfl : _ = o := Option.some.inj ho
              have y2 : vs 2 = .bool false := hk 2 (by decide) rfl
              have y12 : vs 12 = undef := hk 12 (by decide) rfl
              clear ho hk
              change wpList _ _ (OneQ _ (Act.put (Act.put a (some 61) (vs 2)) (some 71) (vs 12)) _) _ (Act.put (Act.put a (some 61) (vs 2)) (some 71) (vs 12)) _
              rw [y2, y12]
              subst ha
              exact one_value _ rfl rfl ⟨Below.refl _ _, rfl⟩
            · obtain rfl : _ = o := Option.some.inj ho
              have y13 : vs 13 = .bool false := hk 13 (by decide) rfl
              clear ho hk
              change wpList _ _ (OneQ _ (Act.put a (some 72) (vs 13)) _) _ (Act.put a (some 72) (vs 13)) _
              rw [y13]
              subst ha
              exact one_value _ rfl rfl ⟨Below.refl _ _, rfl⟩
            · obtain rfl : _ = o := Option.some.inj ho
              have y14 : vs 14 = .bool false := hk 14 (by decide) rfl
              clear ho hk
              change wpList _ _ (OneQ _ (Act.put a (some 73) (vs 14)) _) _ (Act.put a (some 73) (vs 14)) _
              rw [y14]
              subst ha
              exact one_value _ rfl rfl ⟨Below.refl _ _, rfl⟩
            · obtain rfl : _ = o := Option.some.inj ho
              have y14 : vs 14 = .bool false := hk 14 (by decide) rfl
              have y15 : vs 15 = .pointer (some ⟨pa, 0, none⟩) := hk 15 (by decide) rfl
              clear ho hk
              change wpList _ _ (OneQ _ (Act.put (Act.put a (some 73) (vs 14)) (some 74) (vs 15)) _) _ (Act.put (Act.put a (some 73) (vs 14)) (some 74) (vs 15)) _
              rw [y14, y15]
              subst ha
              go_wp2_with fail
              refine (HR1.out _ (B1.out.below hbx)).mono ?_
              rintro e w' ⟨rfl, hb'⟩
              go_wp2
              exact ⟨_, rfl, hb', by first | rfl | (simp [VGft, aeq_self]; done)⟩
            · obtain rfl : _ = o := Option.some.inj ho
              have y14 : vs 14 = .bool false := hk 14 (by decide) rfl
              have y16 : vs 16 = .agg #[.int .i64 (R1).k, .int .i64 (R1).n, .int .i64 (R1).d, .string (R1).t, .bool (R1).b, .int .i64 (R1).f] := hk 16 (by decide) rfl
              clear ho hk
              change wpList _ _ (OneQ _ (Act.put (Act.put a (some 73) (vs 14)) (some 75) (vs 16)) _) _ (Act.put (Act.put a (some 73) (vs 14)) (some 75) (vs 16)) _
              rw [y14, y16]
              subst ha
              go_wp2_with fail
              refine (HRt.out _).mono ?_
              rintro e w' ⟨rfl, hb'⟩
              go_wp2
              exact ⟨_, rfl, hb', by first | rfl | (simp [VGft, aeq_self]; done)⟩
            · obtain rfl : _ = o := Option.some.inj ho
              have y14 : vs 14 = .bool false := hk 14 (by decide) rfl
              have y17 : vs 17 = .bool true := hk 17 (by decide) rfl
              clear ho hk
              change wpList _ _ (OneQ _ (Act.put (Act.put a (some 73) (vs 14)) (some 76) (vs 17)) _) _ (Act.put (Act.put a (some 73) (vs 14)) (some 76) (vs 17)) _
              rw [y14, y17]
              subst ha
              go_wp2
              exact ⟨_, rfl, Below.refl _ _, by first | rfl | (simp [veq_true.2, VGft, aeq_self]; done)⟩
            · obtain rfl : _ = o := Option.some.inj ho
              have y14 : vs 14 = .bool false := hk 14 (by decide) rfl
              have y18 : vs 18 = .bool false := hk 18 (by decide) rfl
              clear ho hk
              change wpList _ _ (OneQ _ (Act.put (Act.put a (some 73) (vs 14)) (some 77) (vs 18)) _) _ (Act.put (Act.put a (some 73) (vs 14)) (some 77) (vs 18)) _
              rw [y14, y18]
              subst ha
              exact one_value _ rfl rfl ⟨Below.refl _ _, rfl⟩
            · obtain rfl : _ = o := Option.some.inj ho
              have y19 : vs 19 = .bool false := hk 19 (by decide) rfl
              clear ho hk
              change wpList _ _ (OneQ _ (Act.put a (some 78) (vs 19)) _) _ (Act.put a (some 78) (vs 19)) _
              rw [y19]
              subst ha
              exact one_value _ rfl rfl ⟨Below.refl _ _, rfl⟩
            · obtain rfl : _ = o := Option.some.inj ho
              have y20 : vs 20 = .bool false := hk 20 (by decide) rfl
              clear ho hk
              change wpList _ _ (OneQ _ (Act.put a (some 79) (vs 20)) _) _ (Act.put a (some 79) (vs 20)) _
              rw [y20]
              subst ha
              exact one_value _ rfl rfl ⟨Below.refl _ _, rfl⟩
            · obtain rfl : _ = o := Option.some.inj ho
              have y20 : vs 20 = .bool false := hk 20 (by decide) rfl
              have y21 : vs 21 = .pointer (some ⟨pa, 0, none⟩) := hk 21 (by decide) rfl
              clear ho hk
              change wpList _ _ (OneQ _ (Act.put (Act.put a (some 79) (vs 20)) (some 80) (vs 21)) _) _ (Act.put (Act.put a (some 79) (vs 20)) (some 80) (vs 21)) _
              rw [y20, y21]
              subst ha
              go_wp2_with fail
              refine (HFu.out _ (B1.out.below hbx)).mono ?_
              rintro e w' ⟨rfl, rfl⟩
              go_wp2
              exact ⟨_, rfl, Below.refl _ _, rfl⟩
            · obtain rfl : _ = o := Option.some.inj ho
              have y20 : vs 20 = .bool false := hk 20 (by decide) rfl
              clear ho hk
              change wpList _ _ (OneQ _ (Act.put a (some 79) (vs 20)) _) _ (Act.put a (some 79) (vs 20)) _
              rw [y20]
              subst ha
              exact one_value _ rfl rfl ⟨Below.refl _ _, rfl⟩
            · obtain rfl : _ = o := Option.some.inj ho
              have y20 : vs 20 = .bool false := hk 20 (by decide) rfl
              have y23 : vs 23 = .pointer (some ⟨pa, 0, none⟩) := hk 23 (by decide) rfl
              clear ho hk
              change wpList _ _ (OneQ _ (Act.put (Act.put a (some 79) (vs 20)) (some 82) (vs 23)) _) _ (Act.put (Act.put a (some 79) (vs 20)) (some 82) (vs 23)) _
              rw [y20, y23]
              subst ha
              go_wp2_with fail
              refine (acc_State pa S1 _ _ (B1.out.below hbx)).mono ?_
              rintro e w' ⟨rfl, hb'⟩
              go_wp2
              exact ⟨_, rfl, hb', by first | rfl | (simp [VGft, aeq_self]; done)⟩
            · obtain rfl : _ = o := Option.some.inj ho
              have y20 : vs 20 = .bool false := hk 20 (by decide) rfl
              have y24 : vs 24 = accV S1 := hk 24 (by decide) rfl
              clear ho hk
              change wpList _ _ (OneQ _ (Act.put (Act.put a (some 79) (vs 20)) (some 83) (vs 24)) _) _ (Act.put (Act.put a (some 79) (vs 20)) (some 83) (vs 24)) _
              rw [y20, y24]
              subst ha
              go_wp2
              exact ⟨_, rfl, Below.refl _ _, by first | rfl | (simp [veq_true.2, VGft, aeq_self]; done)⟩
            · obtain rfl : _ = o := Option.some.inj ho
              have y20 : vs 20 = .bool false := hk 20 (by decide) rfl
              have y22 : vs 22 = .bool true := hk 22 (by decide) rfl
              have y25 : vs 25 = .bool true := hk 25 (by decide) rfl
              clear ho hk
              change wpList _ _ (OneQ _ (Act.put (Act.put (Act.put a (some 79) (vs 20)) (some 81) (vs 22)) (some 84) (vs 25)) _) _ (Act.put (Act.put (Act.put a (some 79) (vs 20)) (some 81) (vs 22)) (some 84) (vs 25)) _
              rw [y20, y22, y25]
              subst ha
              go_wp2
              exact ⟨_, rfl, Below.refl _ _, by first | rfl | (simp [veq_true.2, VGft, aeq_self]; done)⟩
            · obtain rfl : _ = o := Option.some.inj ho
              have y20 : vs 20 = .bool false := hk 20 (by decide) rfl
              have y26 : vs 26 = .bool false := hk 26 (by decide) rfl
              clear ho hk
              change wpList _ _ (OneQ _ (Act.put (Act.put a (some 79) (vs 20)) (some 85) (vs 26)) _) _ (Act.put (Act.put a (some 79) (vs 20)) (some 85) (vs 26)) _
              rw [y20, y26]
              subst ha
              exact one_value _ rfl rfl ⟨Below.refl _ _, rfl⟩
            · obtain rfl : _ = o := Option.some.inj ho
              have y27 : vs 27 = .bool false := hk 27 (by decide) rfl
              clear ho hk
              change wpList _ _ (OneQ _ (Act.put a (some 86) (vs 27)) _) _ (Act.put a (some 86) (vs 27)) _
              rw [y27]
              subst ha
              exact one_value _ rfl rfl ⟨Below.refl _ _, rfl⟩
            · obtain rfl : _ = o := Option.some.inj ho
              have y28 : vs 28 = .bool false := hk 28 (by decide) rfl
              clear ho hk
              change wpList _ _ (OneQ _ (Act.put a (some 87) (vs 28)) _) _ (Act.put a (some 87) (vs 28)) _
              rw [y28]
              subst ha
              exact one_value _ rfl rfl ⟨Below.refl _ _, rfl⟩
            · obtain rfl : _ = o := Option.some.inj ho
              have y28 : vs 28 = .bool false := hk 28 (by decide) rfl
              have y29 : vs 29 = .pointer (some ⟨pa, 0, none⟩) := hk 29 (by decide) rfl
              clear ho hk
              change wpList _ _ (OneQ _ (Act.put (Act.put a (some 87) (vs 28)) (some 88) (vs 29)) _) _ (Act.put (Act.put a (some 87) (vs 28)) (some 88) (vs 29)) _
              rw [y28, y29]
              subst ha
              go_wp2_with fail
              refine (acc_Wants pa S1 _ _ (B1.out.below hbx)).mono ?_
              rintro e w' ⟨rfl, rfl⟩
              go_wp2
              exact ⟨_, rfl, Below.refl _ _, rfl⟩
            · obtain rfl : _ = o := Option.some.inj ho
              have y28 : vs 28 = .bool false := hk 28 (by decide) rfl
              clear ho hk
              change wpList _ _ (OneQ _ (Act.put a (some 87) (vs 28)) _) _ (Act.put a (some 87) (vs 28)) _
              rw [y28]
              subst ha
              exact one_value _ rfl rfl ⟨Below.refl _ _, rfl⟩
            · obtain rfl : _ = o := Option.some.inj ho
              have y28 : vs 28 = .bool false := hk 28 (by decide) rfl
              have y31 : vs 31 = .pointer (some ⟨pa, 0, none⟩) := hk 31 (by decide) rfl
              clear ho hk
              change wpList _ _ (OneQ _ (Act.put (Act.put a (some 87) (vs 28)) (some 90) (vs 31)) _) _ (Act.put (Act.put a (some 87) (vs 28)) (some 90) (vs 31)) _
              rw [y28, y31]
              subst ha
              go_wp2_with fail
              refine (acc_State pa S1 _ _ (B1.out.below hbx)).mono ?_
              rintro e w' ⟨rfl, hb'⟩
              go_wp2
              exact ⟨_, rfl, hb', by first | rfl | (simp [VGft, aeq_self]; done)⟩
            · obtain rfl : _ = o := Option.some.inj ho
              have y28 : vs 28 = .bool false := hk 28 (by decide) rfl
              have y32 : vs 32 = accV S1 := hk 32 (by decide) rfl
              clear ho hk
              change wpList _ _ (OneQ _ (Act.put (Act.put a (some 87) (vs 28)) (some 91) (vs 32)) _) _ (Act.put (Act.put a (some 87) (vs 28)) (some 91) (vs 32)) _
              rw [y28, y32]
              subst ha
              go_wp2
              exact ⟨_, rfl, Below.refl _ _, by first | rfl | (simp [veq_true.2, VGft, aeq_self]; done)⟩
            · obtain rfl : _ = o := Option.some.inj ho
              have y28 : vs 28 = .bool false := hk 28 (by decide) rfl
              have y30 : vs 30 = .bool S1.wants := hk 30 (by decide) rfl
              have y33 : vs 33 = .bool S1.wants := hk 33 (by decide) rfl
              clear ho hk
              change wpList _ _ (OneQ _ (Act.put (Act.put (Act.put a (some 87) (vs 28)) (some 89) (vs 30)) (some 92) (vs 33)) _) _ (Act.put (Act.put (Act.put a (some 87) (vs 28)) (some 89) (vs 30)) (some 92) (vs 33)) _
              rw [y28, y30, y33]
              subst ha
              go_wp2
              exact ⟨_, rfl, Below.refl _ _, by first | rfl | (simp [veq_true.2, VGft, aeq_self]; done)⟩
            · obtain rfl : _ = o := Option.some.inj ho
              have y28 : vs 28 = .bool false := hk 28 (by decide) rfl
              have y34 : vs 34 = .bool false := hk 34 (by decide) rfl
              clear ho hk
              change wpList _ _ (OneQ _ (Act.put (Act.put a (some 87) (vs 28)) (some 93) (vs 34)) _) _ (Act.put (Act.put a (some 87) (vs 28)) (some 93) (vs 34)) _
              rw [y28, y34]
              subst ha
              exact one_value _ rfl rfl ⟨Below.refl _ _, rfl⟩
            · obtain rfl : _ = o := Option.some.inj ho
              have y35 : vs 35 = .bool false := hk 35 (by decide) rfl
              clear ho hk
              change wpList _ _ (OneQ _ (Act.put a (some 94) (vs 35)) _) _ (Act.put a (some 94) (vs 35)) _
              rw [y35]
              subst ha
              exact one_value _ rfl rfl ⟨Below.refl _ _, rfl⟩
            · obtain rfl : _ = o := Option.some.inj ho
              have y36 : vs 36 = .bool false := hk 36 (by decide) rfl
              clear ho hk
              change wpList _ _ (OneQ _ (Act.put a (some 95) (vs 36)) _) _ (Act.put a (some 95) (vs 36)) _
              rw [y36]
              subst ha
              exact one_value _ rfl rfl ⟨Below.refl _ _, rfl⟩
            · obtain rfl : _ = o := Option.some.inj ho
              have y36 : vs 36 = .bool false := hk 36 (by decide) rfl
              have y37 : vs 37 = .pointer (some ⟨pa, 0, none⟩) := hk 37 (by decide) rfl
              clear ho hk
              change wpList _ _ (OneQ _ (Act.put (Act.put a (some 95) (vs 36)) (some 96) (vs 37)) _) _ (Act.put (Act.put a (some 95) (vs 36)) (some 96) (vs 37)) _
              rw [y36, y37]
              subst ha
              go_wp2_with fail
              refine (HFu.out _ (B1.out.below hbx)).mono ?_
              rintro e w' ⟨rfl, rfl⟩
              go_wp2
              exact ⟨_, rfl, Below.refl _ _, rfl⟩
            · obtain rfl : _ = o := Option.some.inj ho
              have y36 : vs 36 = .bool false := hk 36 (by decide) rfl
              have y38 : vs 38 = .bool true := hk 38 (by decide) rfl
              clear ho hk
              change wpList _ _ (OneQ _ (Act.put (Act.put a (some 95) (vs 36)) (some 97) (vs 38)) _) _ (Act.put (Act.put a (some 95) (vs 36)) (some 97) (vs 38)) _
              rw [y36, y38]
              subst ha
              exact one_value _ rfl rfl ⟨Below.refl _ _, rfl⟩
            · obtain rfl : _ = o := Option.some.inj ho
              have y39 : vs 39 = .bool true := hk 39 (by decide) rfl
              clear ho hk
              change wpList _ _ (OneQ _ (Act.put a (some 98) (vs 39)) _) _ (Act.put a (some 98) (vs 39)) _
              rw [y39]
              subst ha
              exact one_value _ rfl rfl ⟨Below.refl _ _, rfl⟩
            · obtain rfl : _ = o := Option.some.inj ho
              have y39 : vs 39 = .bool true := hk 39 (by decide) rfl
              have y40 : vs 40 = .pointer (some ⟨pa, 0, none⟩) := hk 40 (by decide) rfl
              clear ho hk
              change wpList _ _ (OneQ _ (Act.put (Act.put a (some 98) (vs 39)) (some 99) (vs 40)) _) _ (Act.put (Act.put a (some 98) (vs 39)) (some 99) (vs 40)) _
              rw [y39, y40]
              subst ha
              go_wp2_with fail
              refine (HWa.out _ (B1.out.below hbx)).mono ?_
              rintro e w' ⟨rfl, rfl⟩
              go_wp2
              exact ⟨_, rfl, Below.refl _ _, rfl⟩
            · obtain rfl : _ = o := Option.some.inj ho
              have y36 : vs 36 = .bool false := hk 36 (by decide) rfl
              have y39 : vs 39 = .bool true := hk 39 (by decide) rfl
              have y41 : vs 41 = .bool false := hk 41 (by decide) rfl
              clear ho hk
              change wpList _ _ (OneQ _ (Act.put (Act.put (Act.put a (some 95) (vs 36)) (some 98) (vs 39)) (some 100) (vs 41)) _) _ (Act.put (Act.put (Act.put a (some 95) (vs 36)) (some 98) (vs 39)) (some 100) (vs 41)) _
              rw [y36, y39, y41]
              subst ha
              exact one_value _ rfl rfl ⟨Below.refl _ _, rfl⟩
            · omega
          · intro vs wx hw hv
            have hbx := hw.out
            have y0 : vs 0 = .pointer (some ⟨px, 17, none⟩) := hv 0 (by decide)
            have y1 : vs 1 = .bool false := hv 1 (by decide)
            have y2 : vs 2 = .bool false := hv 2 (by decide)
            have y3 : vs 3 = undef := hv 3 (by decide)
            have y4 : vs 4 = undef := hv 4 (by decide)
            have y5 : vs 5 = undef := hv 5 (by decide)
            have y6 : vs 6 = undef := hv 6 (by decide)
            have y7 : vs 7 = undef := hv 7 (by decide)
            have y8 : vs 8 = undef := hv 8 (by decide)
            have y9 : vs 9 = undef := hv 9 (by decide)
            have y10 : vs 10 = undef := hv 10 (by decide)
            have y11 : vs 11 = undef := hv 11 (by decide)
            have y12 : vs 12 = undef := hv 12 (by decide)
            have y13 : vs 13 = .bool false := hv 13 (by decide)
            have y14 : vs 14 = .bool false := hv 14 (by decide)
            have y15 : vs 15 = .pointer (some ⟨pa, 0, none⟩) := hv 15 (by decide)
            have y16 : vs 16 = .agg #[.int .i64 (R1).k, .int .i64 (R1).n, .int .i64 (R1).d, .string (R1).t, .bool (R1).b, .int .i64 (R1).f] := hv 16 (by decide)
            have y17 : vs 17 = .bool true := hv 17 (by decide)
            have y18 : vs 18 = .bool false := hv 18 (by decide)
            have y19 : vs 19 = .bool false := hv 19 (by decide)
            have y20 : vs 20 = .bool false := hv 20 (by decide)
            have y21 : vs 21 = .pointer (some ⟨pa, 0, none⟩) := hv 21 (by decide)
            have y22 : vs 22 = .bool true := hv 22 (by decide)
            have y23 : vs 23 = .pointer (some ⟨pa, 0, none⟩) := hv 23 (by decide)
            have y24 : vs 24 = accV S1 := hv 24 (by decide)
            have y25 : vs 25 = .bool true := hv 25 (by decide)
            have y26 : vs 26 = .bool false := hv 26 (by decide)
            have y27 : vs 27 = .bool false := hv 27 (by decide)
            have y28 : vs 28 = .bool false := hv 28 (by decide)
            have y29 : vs 29 = .pointer (some ⟨pa, 0, none⟩) := hv 29 (by decide)
            have y30 : vs 30 = .bool S1.wants := hv 30 (by decide)
            have y31 : vs 31 = .pointer (some ⟨pa, 0, none⟩) := hv 31 (by decide)
            have y32 : vs 32 = accV S1 := hv 32 (by decide)
            have y33 : vs 33 = .bool S1.wants := hv 33 (by decide)
            have y34 : vs 34 = .bool false := hv 34 (by decide)
            have y35 : vs 35 = .bool false := hv 35 (by decide)
            have y36 : vs 36 = .bool false := hv 36 (by decide)
            have y37 : vs 37 = .pointer (some ⟨pa, 0, none⟩) := hv 37 (by decide)
            have y38 : vs 38 = .bool true := hv 38 (by decide)
            have y39 : vs 39 = .bool true := hv 39 (by decide)
            have y40 : vs 40 = .pointer (some ⟨pa, 0, none⟩) := hv 40 (by decide)
            have y41 : vs 41 = .bool false := hv 41 (by decide)
            have y42 : vs 42 = .bool false := hv 42 (by decide)
            clear hv hw
            change wpList _ _ _ _ (Act.put (Act.put (Act.put (Act.put (Act.put (Act.put (Act.put (Act.put (Act.put (Act.put (Act.put (Act.put (Act.put (Act.put (Act.put (Act.put (Act.put (Act.put (Act.put (Act.put (Act.put (Act.put (Act.put (Act.put (Act.put (Act.put (Act.put (Act.put (Act.put (Act.put (Act.put (Act.put (Act.put (Act.put (Act.put (Act.put (Act.put (Act.put (Act.put (Act.put (Act.put (Act.put (Act.put a (some 59) (vs 0)) (some 60) (vs 1)) (some 61) (vs 2)) (some 62) (vs 3)) (some 63) (vs 4)) (some 64) (vs 5)) (some 65) (vs 6)) (some 66) (vs 7)) (some 67) (vs 8)) (some 68) (vs 9)) (some 69) (vs 10)) (some 70) (vs 11)) (some 71) (vs 12)) (some 72) (vs 13)) (some 73) (vs 14)) (some 74) (vs 15)) (some 75) (vs 16)) (some 76) (vs 17)) (some 77) (vs 18)) (some 78) (vs 19)) (some 79) (vs 20)) (some 80) (vs 21)) (some 81) (vs 22)) (some 82) (vs 23)) (some 83) (vs 24)) (some 84) (vs 25)) (some 85) (vs 26)) (some 86) (vs 27)) (some 87) (vs 28)) (some 88) (vs 29)) (some 89) (vs 30)) (some 90) (vs 31)) (some 91) (vs 32)) (some 92) (vs 33)) (some 93) (vs 34)) (some 94) (vs 35)) (some 95) (vs 36)) (some 96) (vs 37)) (some 97) (vs 38)) (some 98) (vs 39)) (some 99) (vs 40)) (some 100) (vs 41)) (some 101) (vs 42)) _
            rw [y0, y1, y2, y3, y4, y5, y6, y7, y8, y9, y10, y11, y12, y13, y14, y15, y16, y17, y18, y19, y20, y21, y22, y23, y24, y25, y26, y27, y28, y29, y30, y31, y32, y33, y34, y35, y36, y37, y38, y39, y40, y41, y42]
            subst ha
            clear y0 y1 y2 y3 y4 y5 y6 y7 y8 y9 y10 y11 y12 y13 y14 y15 y16 y17 y18 y19 y20 y21 y22 y23 y24 y25 y26 y27 y28 y29 y30 y31 y32 y33 y34 y35 y36 y37 y38 y39 y40 y41 y42
            simp only [List.drop_succ_cons, List.drop_zero]
            go_wp2
            go_roundw
            case rel => exact ⟨k + 1, S1, by omega, by go_num, Lib.hid ⟨B1.out.below hbx, WZ.out.trans (hbx.mono WZ.out.size), OZ.out.up (by push_cast; omega), FZ.out⟩⟩
            case measure => simp [intOf]; omega
        case false =>
          rw [hu1] at HFu
          generalize S1.resG = R1 at *
          clear honce
          refine wp_act fun a ha => ?_
          refine region_each 43 (VGff S S1 R0 R1 pa px py) (by kernel_rfl) hB (VGff.below S S1 R0 R1 pa px py) ?_ ?_
          · intro j hj o ho vs wx hw hk
            have hbx := hw.out
            have hzx := hbx.size
            have hfF := field_full wx S1
            have hfW := field_wants wx S1
            rw [hu1] at hfF
            rcases j with _ | _ | _ | _ | _ | _ | _ | _ | _ | _ | _ | _ | _ | _ | _ | _ | _ | _ | _ | _ | _ | _ | _ | _ | _ | _ | _ | _ | _ | _ | _ | _ | _ | _ | _ | _ | _ | _ | _ | _ | _ | _ | _ | j
            · obtain rfl : _ = o := Option.some.inj ho
              clear ho hk
              change wpList _ _ (OneQ _ a _) _ a _
              subst ha
              go_wp2
              exact ⟨_, rfl, Below.refl _ _, by first | rfl | (simp [veq_true.2, VGff, aeq_self]; done)⟩
            · obtain rfl : _ = o := Option.some.inj ho
              have y0 : vs 0 = .pointer (some ⟨px, 17, none⟩) := hk 0 (by decide) rfl
              clear ho hk
              change wpList _ _ (OneQ _ (Act.put a (some 59) (vs 0)) _) _ (Act.put a (some 59) (vs 0)) _
              rw [y0]
              subst ha
              have h17 := (BX.out.below hbx).cell 17
              have h17x : wx.cell? ⟨px, 17, none⟩ = some (.bool S.full) := h17
              rw [hu0] at h17x
              clear h17
              go_wp2
              exact ⟨_, rfl, Below.refl _ _, by first | rfl | (simp [veq_true.2, VGff, aeq_self]; done)⟩
            · obtain rfl : _ = o := Option.some.inj ho
              have y1 : vs 1 = .bool false := hk 1 (by decide) rfl
              clear ho hk
              change wpList _ _ (OneQ _ (Act.put a (some 60) (vs 1)) _) _ (Act.put a (some 60) (vs 1)) _
              rw [y1]
              subst ha
              exact one_value _ rfl rfl ⟨Below.refl _ _, rfl⟩
            · obtain rfl : _ = o := Option.some.inj ho
              have y2 : vs 2 = .bool false := hk 2 (by decide) rfl
              clear ho hk
              change wpList _ _ (OneQ _ (Act.put a (some 61) (vs 2)) _) _ (Act.put a (some 61) (vs 2)) _
              rw [y2]
              subst ha
              refine wpList_skip rfl ?_
              exact ⟨_, rfl, Below.refl _ _, rfl⟩
            · obtain rfl : _ = o := Option.some.inj ho
              have y2 : vs 2 = .bool false := hk 2 (by decide) rfl
              have y3 : vs 3 = undef := hk 3 (by decide) rfl
              clear ho hk
              change wpList _ _ (OneQ _ (Act.put (Act.put a (some 61) (vs 2)) (some 62) (vs 3)) _) _ (Act.put (Act.put a (some 61) (vs 2)) (some 62) (vs 3)) _
              rw [y2, y3]
              subst ha
              refine wpList_skip rfl ?_
              exact ⟨_, rfl, Below.refl _ _, rfl⟩
            · obtain rfl : _ = o := Option.some.inj ho
              have y2 : vs 2 = .bool false := hk 2 (by decide) rfl
              clear ho hk
              change wpList _ _ (OneQ _ (Act.put a (some 61) (vs 2)) _) _ (Act.put a (some 61) (vs 2)) _
              rw [y2]
              subst ha
              refine wpList_skip rfl ?_
              exact ⟨_, rfl, Below.refl _ _, rfl⟩
            · obtain rfl : _ = o := Option.some.inj ho
              have y2 : vs 2 = .bool false := hk 2 (by decide) rfl
              have y4 : vs 4 = undef := hk 4 (by decide) rfl
              have y5 : vs 5 = undef := hk 5 (by decide) rfl
              clear ho hk
              change wpList _ _ (OneQ _ (Act.put (Act.put (Act.put a (some 61) (vs 2)) (some 63) (vs 4)) (some 64) (vs 5)) _) _ (Act.put (Act.put (Act.put a (some 61) (vs 2)) (some 63) (vs 4)) (some 64) (vs 5)) _
              rw [y2, y4, y5]
              subst ha
              refine wpList_skip rfl ?_
              exact ⟨_, rfl, Below.refl _ _, rfl⟩
            · obtain rfl : _ = o := Option.some.inj ho
              have y2 : vs 2 = .bool false := hk 2 (by decide) rfl
              have y6 : vs 6 = undef := hk 6 (by decide) rfl
              clear ho hk
              change wpList _ _ (OneQ _ (Act.put (Act.put a (some 61) (vs 2)) (some 65) (vs 6)) _) _ (Act.put (Act.put a (some 61) (vs 2)) (some 65) (vs 6)) _
              rw [y2, y6]
              subst ha
              refine wpList_skip rfl ?_
              exact ⟨_, rfl, Below.refl _ _, rfl⟩
            · obtain rfl : _ = o := Option.some.inj ho
              have y7 : vs 7 = undef := hk 7 (by decide) rfl
              clear ho hk
              change wpList _ _ (OneQ _ (Act.put a (some 66) (vs 7)) _) _ (Act.put a (some 66) (vs 7)) _
              rw [y7]
              subst ha
              refine wpList_skip rfl ?_
              exact ⟨_, rfl, Below.refl _ _, rfl⟩
            · obtain rfl : _ = o := Option.some.inj ho
              have y7 : vs 7 = undef := hk 7 (by decide) rfl
              have y8 : vs 8 = undef := hk 8 (by decide) rfl
              clear ho hk
              change wpList _ _ (OneQ _ (Act.put (Act.put a (some 66) (vs 7)) (some 67) (vs 8)) _) _ (Act.put (Act.put a (some 66) (vs 7)) (some 67) (vs 8)) _
              rw [y7, y8]
              subst ha
              refine wpList_skip rfl ?_
              exact ⟨_, rfl, Below.refl _ _, rfl⟩
            · obtain rfl : _ = o := Option.some.inj ho
              have y7 : vs 7 = undef := hk 7 (by decide) rfl
              clear ho hk
              change wpList _ _ (OneQ _ (Act.put a (some 66) (vs 7)) _) _ (Act.put a (some 66) (vs 7)) _
              rw [y7]
              subst ha
              refine wpList_skip rfl ?_
              exact ⟨_, rfl, Below.refl _ _, rfl⟩
            · obtain rfl : _ = o := Option.some.inj ho
              have y7 : vs 7 = undef := hk 7 (by decide) rfl
              have y9 : vs 9 = undef := hk 9 (by decide) rfl
              have y10 : vs 10 = undef := hk 10 (by decide) rfl
              clear ho hk
              change wpList _ _ (OneQ _ (Act.put (Act.put (Act.put a (some 66) (vs 7)) (some 68) (vs 9)) (some 69) (vs 10)) _) _ (Act.put (Act.put (Act.put a (some 66) (vs 7)) (some 68) (vs 9)) (some 69) (vs 10)) _
              rw [y7, y9, y10]
              subst ha
              refine wpList_skip rfl ?_
              exact ⟨_, rfl, Below.refl _ _, rfl⟩
            · obtain rfl : _ = o := Option.some.inj ho
              have y2 : vs 2 = .bool false := hk 2 (by decide) rfl
              have y7 : vs 7 = undef := hk 7 (by decide) rfl
              have y11 : vs 11 = undef := hk 11 (by decide) rfl
              clear ho hk
              change wpList _ _ (OneQ _ (Act.put (Act.put (Act.put a (some 61) (vs 2)) (some 66) (vs 7)) (some 70) (vs 11)) _) _ (Act.put (Act.put (Act.put a (some 61) (vs 2)) (some 66) (vs 7)) (some 70) (vs 11)) _
              rw [y2, y7, y11]
              subst ha
              refine wpList_skip rfl ?_
              exact ⟨_, rfl, Below.refl _ _, rfl⟩
            · obtain rfl : _ = o := Option.some.inj ho
              have y2 : vs 2 = .bool false := hk 2 (by decide) rfl
              have y12 : vs 12 = undef := hk 12 (by decide) rfl
              clear ho hk
              change wpList _ _ (OneQ _ (Act.put (Act.put a (some 61) (vs 2)) (some 71) (vs 12)) _) _ (Act.put (Act.put a (some 61) (vs 2)) (some 71) (vs 12)) _
              rw [y2, y12]
              subst ha
              exact one_value _ rfl rfl ⟨Below.refl _ _, rfl⟩
            · obtain rfl : _ = o := Option.some.inj ho
              have y13 : vs 13 = .bool false := hk 13 (by decide) rfl
              clear ho hk
              change wpList _ _ (OneQ _ (Act.put a (some 72) (vs 13)) _) _ (Act.put a (some 72) (vs 13)) _
              rw [y13]
              subst ha
              exact one_value _ rfl rfl ⟨Below.refl _ _, rfl⟩
            · obtain rfl : _ = o := Option.some.inj ho
              have y14 : vs 14 = .bool false := hk 14 (by decide) rfl
              clear ho hk
              change wpList _ _ (OneQ _ (Act.put a (some 73) (vs 14)) _) _ (Act.put a (some 73) (vs 14)) _
              rw [y14]
              subst ha
              exact one_value _ rfl rfl ⟨Below.refl _ _, rfl⟩
            · obtain rfl : _ = o := Option.some.inj ho
              have y14 : vs 14 = .bool false := hk 14 (by decide) rfl
              have y15 : vs 15 = .pointer (some ⟨pa, 0, none⟩) := hk 15 (by decide) rfl
              clear ho hk
              change wpList _ _ (OneQ _ (Act.put (Act.put a (some 73) (vs 14)) (some 74) (vs 15)) _) _ (Act.put (Act.put a (some 73) (vs 14)) (some 74) (vs 15)) _
              rw [y14, y15]
              subst ha
              go_wp2_with fail
              refine (HR1.out _ (B1.out.below hbx)).mono ?_
              rintro e w' ⟨rfl, hb'⟩
              go_wp2
              exact ⟨_, rfl, hb', by first | rfl | (simp [VGff, aeq_self]; done)⟩
            · obtain rfl : _ = o := Option.some.inj ho
              have y14 : vs 14 = .bool false := hk 14 (by decide) rfl
              have y16 : vs 16 = .agg #[.int .i64 (R1).k, .int .i64 (R1).n, .int .i64 (R1).d, .string (R1).t, .bool (R1).b, .int .i64 (R1).f] := hk 16 (by decide) rfl
              clear ho hk
              change wpList _ _ (OneQ _ (Act.put (Act.put a (some 73) (vs 14)) (some 75) (vs 16)) _) _ (Act.put (Act.put a (some 73) (vs 14)) (some 75) (vs 16)) _
              rw [y14, y16]
              subst ha
              go_wp2_with fail
              refine (HRt.out _).mono ?_
              rintro e w' ⟨rfl, hb'⟩
              go_wp2
              exact ⟨_, rfl, hb', by first | rfl | (simp [VGff, aeq_self]; done)⟩
            · obtain rfl : _ = o := Option.some.inj ho
              have y14 : vs 14 = .bool false := hk 14 (by decide) rfl
              have y17 : vs 17 = .bool true := hk 17 (by decide) rfl
              clear ho hk
              change wpList _ _ (OneQ _ (Act.put (Act.put a (some 73) (vs 14)) (some 76) (vs 17)) _) _ (Act.put (Act.put a (some 73) (vs 14)) (some 76) (vs 17)) _
              rw [y14, y17]
              subst ha
              go_wp2
              exact ⟨_, rfl, Below.refl _ _, by first | rfl | (simp [veq_true.2, VGff, aeq_self]; done)⟩
            · obtain rfl : _ = o := Option.some.inj ho
              have y14 : vs 14 = .bool false := hk 14 (by decide) rfl
              have y18 : vs 18 = .bool false := hk 18 (by decide) rfl
              clear ho hk
              change wpList _ _ (OneQ _ (Act.put (Act.put a (some 73) (vs 14)) (some 77) (vs 18)) _) _ (Act.put (Act.put a (some 73) (vs 14)) (some 77) (vs 18)) _
              rw [y14, y18]
              subst ha
              exact one_value _ rfl rfl ⟨Below.refl _ _, rfl⟩
            · obtain rfl : _ = o := Option.some.inj ho
              have y19 : vs 19 = .bool false := hk 19 (by decide) rfl
              clear ho hk
              change wpList _ _ (OneQ _ (Act.put a (some 78) (vs 19)) _) _ (Act.put a (some 78) (vs 19)) _
              rw [y19]
              subst ha
              exact one_value _ rfl rfl ⟨Below.refl _ _, rfl⟩
            · obtain rfl : _ = o := Option.some.inj ho
              have y20 : vs 20 = .bool false := hk 20 (by decide) rfl
              clear ho hk
              change wpList _ _ (OneQ _ (Act.put a (some 79) (vs 20)) _) _ (Act.put a (some 79) (vs 20)) _
              rw [y20]
              subst ha
              exact one_value _ rfl rfl ⟨Below.refl _ _, rfl⟩
            · obtain rfl : _ = o := Option.some.inj ho
              have y20 : vs 20 = .bool false := hk 20 (by decide) rfl
              have y21 : vs 21 = .pointer (some ⟨pa, 0, none⟩) := hk 21 (by decide) rfl
              clear ho hk
              change wpList _ _ (OneQ _ (Act.put (Act.put a (some 79) (vs 20)) (some 80) (vs 21)) _) _ (Act.put (Act.put a (some 79) (vs 20)) (some 80) (vs 21)) _
              rw [y20, y21]
              subst ha
              go_wp2_with fail
              refine (HFu.out _ (B1.out.below hbx)).mono ?_
              rintro e w' ⟨rfl, rfl⟩
              go_wp2
              exact ⟨_, rfl, Below.refl _ _, rfl⟩
            · obtain rfl : _ = o := Option.some.inj ho
              have y20 : vs 20 = .bool false := hk 20 (by decide) rfl
              clear ho hk
              change wpList _ _ (OneQ _ (Act.put a (some 79) (vs 20)) _) _ (Act.put a (some 79) (vs 20)) _
              rw [y20]
              subst ha
              exact one_value _ rfl rfl ⟨Below.refl _ _, rfl⟩
            · obtain rfl : _ = o := Option.some.inj ho
              have y20 : vs 20 = .bool false := hk 20 (by decide) rfl
              have y23 : vs 23 = .pointer (some ⟨pa, 0, none⟩) := hk 23 (by decide) rfl
              clear ho hk
              change wpList _ _ (OneQ _ (Act.put (Act.put a (some 79) (vs 20)) (some 82) (vs 23)) _) _ (Act.put (Act.put a (some 79) (vs 20)) (some 82) (vs 23)) _
              rw [y20, y23]
              subst ha
              go_wp2_with fail
              refine (acc_State pa S1 _ _ (B1.out.below hbx)).mono ?_
              rintro e w' ⟨rfl, hb'⟩
              go_wp2
              exact ⟨_, rfl, hb', by first | rfl | (simp [VGff, aeq_self]; done)⟩
            · obtain rfl : _ = o := Option.some.inj ho
              have y20 : vs 20 = .bool false := hk 20 (by decide) rfl
              have y24 : vs 24 = accV S1 := hk 24 (by decide) rfl
              clear ho hk
              change wpList _ _ (OneQ _ (Act.put (Act.put a (some 79) (vs 20)) (some 83) (vs 24)) _) _ (Act.put (Act.put a (some 79) (vs 20)) (some 83) (vs 24)) _
              rw [y20, y24]
              subst ha
              go_wp2
              exact ⟨_, rfl, Below.refl _ _, by first | rfl | (simp [veq_true.2, VGff, aeq_self]; done)⟩
            · obtain rfl : _ = o := Option.some.inj ho
              have y20 : vs 20 = .bool false := hk 20 (by decide) rfl
              have y22 : vs 22 = .bool false := hk 22 (by decide) rfl
              have y25 : vs 25 = .bool false := hk 25 (by decide) rfl
              clear ho hk
              change wpList _ _ (OneQ _ (Act.put (Act.put (Act.put a (some 79) (vs 20)) (some 81) (vs 22)) (some 84) (vs 25)) _) _ (Act.put (Act.put (Act.put a (some 79) (vs 20)) (some 81) (vs 22)) (some 84) (vs 25)) _
              rw [y20, y22, y25]
              subst ha
              go_wp2
              exact ⟨_, rfl, Below.refl _ _, by first | rfl | (simp [veq_true.2, VGff, aeq_self]; done)⟩
            · obtain rfl : _ = o := Option.some.inj ho
              have y20 : vs 20 = .bool false := hk 20 (by decide) rfl
              have y26 : vs 26 = .bool false := hk 26 (by decide) rfl
              clear ho hk
              change wpList _ _ (OneQ _ (Act.put (Act.put a (some 79) (vs 20)) (some 85) (vs 26)) _) _ (Act.put (Act.put a (some 79) (vs 20)) (some 85) (vs 26)) _
              rw [y20, y26]
              subst ha
              exact one_value _ rfl rfl ⟨Below.refl _ _, rfl⟩
            · obtain rfl : _ = o := Option.some.inj ho
              have y27 : vs 27 = .bool false := hk 27 (by decide) rfl
              clear ho hk
              change wpList _ _ (OneQ _ (Act.put a (some 86) (vs 27)) _) _ (Act.put a (some 86) (vs 27)) _
              rw [y27]
              subst ha
              exact one_value _ rfl rfl ⟨Below.refl _ _, rfl⟩
            · obtain rfl : _ = o := Option.some.inj ho
              have y28 : vs 28 = .bool false := hk 28 (by decide) rfl
              clear ho hk
              change wpList _ _ (OneQ _ (Act.put a (some 87) (vs 28)) _) _ (Act.put a (some 87) (vs 28)) _
              rw [y28]
              subst ha
              exact one_value _ rfl rfl ⟨Below.refl _ _, rfl⟩
            · obtain rfl : _ = o := Option.some.inj ho
              have y28 : vs 28 = .bool false := hk 28 (by decide) rfl
              have y29 : vs 29 = .pointer (some ⟨pa, 0, none⟩) := hk 29 (by decide) rfl
              clear ho hk
              change wpList _ _ (OneQ _ (Act.put (Act.put a (some 87) (vs 28)) (some 88) (vs 29)) _) _ (Act.put (Act.put a (some 87) (vs 28)) (some 88) (vs 29)) _
              rw [y28, y29]
              subst ha
              go_wp2_with fail
              refine (acc_Wants pa S1 _ _ (B1.out.below hbx)).mono ?_
              rintro e w' ⟨rfl, rfl⟩
              go_wp2
              exact ⟨_, rfl, Below.refl _ _, rfl⟩
            · obtain rfl : _ = o := Option.some.inj ho
              have y28 : vs 28 = .bool false := hk 28 (by decide) rfl
              clear ho hk
              change wpList _ _ (OneQ _ (Act.put a (some 87) (vs 28)) _) _ (Act.put a (some 87) (vs 28)) _
              rw [y28]
              subst ha
              exact one_value _ rfl rfl ⟨Below.refl _ _, rfl⟩
            · obtain rfl : _ = o := Option.some.inj ho
              have y28 : vs 28 = .bool false := hk 28 (by decide) rfl
              have y31 : vs 31 = .pointer (some ⟨pa, 0, none⟩) := hk 31 (by decide) rfl
              clear ho hk
              change wpList _ _ (OneQ _ (Act.put (Act.put a (some 87) (vs 28)) (some 90) (vs 31)) _) _ (Act.put (Act.put a (some 87) (vs 28)) (some 90) (vs 31)) _
              rw [y28, y31]
              subst ha
              go_wp2_with fail
              refine (acc_State pa S1 _ _ (B1.out.below hbx)).mono ?_
              rintro e w' ⟨rfl, hb'⟩
              go_wp2
              exact ⟨_, rfl, hb', by first | rfl | (simp [VGff, aeq_self]; done)⟩
            · obtain rfl : _ = o := Option.some.inj ho
              have y28 : vs 28 = .bool false := hk 28 (by decide) rfl
              have y32 : vs 32 = accV S1 := hk 32 (by decide) rfl
              clear ho hk
              change wpList _ _ (OneQ _ (Act.put (Act.put a (some 87) (vs 28)) (some 91) (vs 32)) _) _ (Act.put (Act.put a (some 87) (vs 28)) (some 91) (vs 32)) _
              rw [y28, y32]
              subst ha
              go_wp2
              exact ⟨_, rfl, Below.refl _ _, by first | rfl | (simp [veq_true.2, VGff, aeq_self]; done)⟩
            · obtain rfl : _ = o := Option.some.inj ho
              have y28 : vs 28 = .bool false := hk 28 (by decide) rfl
              have y30 : vs 30 = .bool S1.wants := hk 30 (by decide) rfl
              have y33 : vs 33 = .bool S1.wants := hk 33 (by decide) rfl
              clear ho hk
              change wpList _ _ (OneQ _ (Act.put (Act.put (Act.put a (some 87) (vs 28)) (some 89) (vs 30)) (some 92) (vs 33)) _) _ (Act.put (Act.put (Act.put a (some 87) (vs 28)) (some 89) (vs 30)) (some 92) (vs 33)) _
              rw [y28, y30, y33]
              subst ha
              go_wp2
              exact ⟨_, rfl, Below.refl _ _, by first | rfl | (simp [veq_true.2, VGff, aeq_self]; done)⟩
            · obtain rfl : _ = o := Option.some.inj ho
              have y28 : vs 28 = .bool false := hk 28 (by decide) rfl
              have y34 : vs 34 = .bool false := hk 34 (by decide) rfl
              clear ho hk
              change wpList _ _ (OneQ _ (Act.put (Act.put a (some 87) (vs 28)) (some 93) (vs 34)) _) _ (Act.put (Act.put a (some 87) (vs 28)) (some 93) (vs 34)) _
              rw [y28, y34]
              subst ha
              exact one_value _ rfl rfl ⟨Below.refl _ _, rfl⟩
            · obtain rfl : _ = o := Option.some.inj ho
              have y35 : vs 35 = .bool false := hk 35 (by decide) rfl
              clear ho hk
              change wpList _ _ (OneQ _ (Act.put a (some 94) (vs 35)) _) _ (Act.put a (some 94) (vs 35)) _
              rw [y35]
              subst ha
              exact one_value _ rfl rfl ⟨Below.refl _ _, rfl⟩
            · obtain rfl : _ = o := Option.some.inj ho
              have y36 : vs 36 = .bool false := hk 36 (by decide) rfl
              clear ho hk
              change wpList _ _ (OneQ _ (Act.put a (some 95) (vs 36)) _) _ (Act.put a (some 95) (vs 36)) _
              rw [y36]
              subst ha
              exact one_value _ rfl rfl ⟨Below.refl _ _, rfl⟩
            · obtain rfl : _ = o := Option.some.inj ho
              have y36 : vs 36 = .bool false := hk 36 (by decide) rfl
              have y37 : vs 37 = .pointer (some ⟨pa, 0, none⟩) := hk 37 (by decide) rfl
              clear ho hk
              change wpList _ _ (OneQ _ (Act.put (Act.put a (some 95) (vs 36)) (some 96) (vs 37)) _) _ (Act.put (Act.put a (some 95) (vs 36)) (some 96) (vs 37)) _
              rw [y36, y37]
              subst ha
              go_wp2_with fail
              refine (HFu.out _ (B1.out.below hbx)).mono ?_
              rintro e w' ⟨rfl, rfl⟩
              go_wp2
              exact ⟨_, rfl, Below.refl _ _, rfl⟩
            · obtain rfl : _ = o := Option.some.inj ho
              have y36 : vs 36 = .bool false := hk 36 (by decide) rfl
              have y38 : vs 38 = .bool false := hk 38 (by decide) rfl
              clear ho hk
              change wpList _ _ (OneQ _ (Act.put (Act.put a (some 95) (vs 36)) (some 97) (vs 38)) _) _ (Act.put (Act.put a (some 95) (vs 36)) (some 97) (vs 38)) _
              rw [y36, y38]
              subst ha
              exact one_value _ rfl rfl ⟨Below.refl _ _, rfl⟩
            · obtain rfl : _ = o := Option.some.inj ho
              have y39 : vs 39 = .bool false := hk 39 (by decide) rfl
              clear ho hk
              change wpList _ _ (OneQ _ (Act.put a (some 98) (vs 39)) _) _ (Act.put a (some 98) (vs 39)) _
              rw [y39]
              subst ha
              refine wpList_skip rfl ?_
              exact ⟨_, rfl, Below.refl _ _, rfl⟩
            · obtain rfl : _ = o := Option.some.inj ho
              have y39 : vs 39 = .bool false := hk 39 (by decide) rfl
              have y40 : vs 40 = undef := hk 40 (by decide) rfl
              clear ho hk
              change wpList _ _ (OneQ _ (Act.put (Act.put a (some 98) (vs 39)) (some 99) (vs 40)) _) _ (Act.put (Act.put a (some 98) (vs 39)) (some 99) (vs 40)) _
              rw [y39, y40]
              subst ha
              refine wpList_skip rfl ?_
              exact ⟨_, rfl, Below.refl _ _, rfl⟩
            · obtain rfl : _ = o := Option.some.inj ho
              have y36 : vs 36 = .bool false := hk 36 (by decide) rfl
              have y39 : vs 39 = .bool false := hk 39 (by decide) rfl
              have y41 : vs 41 = undef := hk 41 (by decide) rfl
              clear ho hk
              change wpList _ _ (OneQ _ (Act.put (Act.put (Act.put a (some 95) (vs 36)) (some 98) (vs 39)) (some 100) (vs 41)) _) _ (Act.put (Act.put (Act.put a (some 95) (vs 36)) (some 98) (vs 39)) (some 100) (vs 41)) _
              rw [y36, y39, y41]
              subst ha
              exact one_value _ rfl rfl ⟨Below.refl _ _, rfl⟩
            · omega
          · intro vs wx hw hv
            have hbx := hw.out
            have y0 : vs 0 = .pointer (some ⟨px, 17, none⟩) := hv 0 (by decide)
            have y1 : vs 1 = .bool false := hv 1 (by decide)
            have y2 : vs 2 = .bool false := hv 2 (by decide)
            have y3 : vs 3 = undef := hv 3 (by decide)
            have y4 : vs 4 = undef := hv 4 (by decide)
            have y5 : vs 5 = undef := hv 5 (by decide)
            have y6 : vs 6 = undef := hv 6 (by decide)
            have y7 : vs 7 = undef := hv 7 (by decide)
            have y8 : vs 8 = undef := hv 8 (by decide)
            have y9 : vs 9 = undef := hv 9 (by decide)
            have y10 : vs 10 = undef := hv 10 (by decide)
            have y11 : vs 11 = undef := hv 11 (by decide)
            have y12 : vs 12 = undef := hv 12 (by decide)
            have y13 : vs 13 = .bool false := hv 13 (by decide)
            have y14 : vs 14 = .bool false := hv 14 (by decide)
            have y15 : vs 15 = .pointer (some ⟨pa, 0, none⟩) := hv 15 (by decide)
            have y16 : vs 16 = .agg #[.int .i64 (R1).k, .int .i64 (R1).n, .int .i64 (R1).d, .string (R1).t, .bool (R1).b, .int .i64 (R1).f] := hv 16 (by decide)
            have y17 : vs 17 = .bool true := hv 17 (by decide)
            have y18 : vs 18 = .bool false := hv 18 (by decide)
            have y19 : vs 19 = .bool false := hv 19 (by decide)
            have y20 : vs 20 = .bool false := hv 20 (by decide)
            have y21 : vs 21 = .pointer (some ⟨pa, 0, none⟩) := hv 21 (by decide)
            have y22 : vs 22 = .bool false := hv 22 (by decide)
            have y23 : vs 23 = .pointer (some ⟨pa, 0, none⟩) := hv 23 (by decide)
            have y24 : vs 24 = accV S1 := hv 24 (by decide)
            have y25 : vs 25 = .bool false := hv 25 (by decide)
            have y26 : vs 26 = .bool false := hv 26 (by decide)
            have y27 : vs 27 = .bool false := hv 27 (by decide)
            have y28 : vs 28 = .bool false := hv 28 (by decide)
            have y29 : vs 29 = .pointer (some ⟨pa, 0, none⟩) := hv 29 (by decide)
            have y30 : vs 30 = .bool S1.wants := hv 30 (by decide)
            have y31 : vs 31 = .pointer (some ⟨pa, 0, none⟩) := hv 31 (by decide)
            have y32 : vs 32 = accV S1 := hv 32 (by decide)
            have y33 : vs 33 = .bool S1.wants := hv 33 (by decide)
            have y34 : vs 34 = .bool false := hv 34 (by decide)
            have y35 : vs 35 = .bool false := hv 35 (by decide)
            have y36 : vs 36 = .bool false := hv 36 (by decide)
            have y37 : vs 37 = .pointer (some ⟨pa, 0, none⟩) := hv 37 (by decide)
            have y38 : vs 38 = .bool false := hv 38 (by decide)
            have y39 : vs 39 = .bool false := hv 39 (by decide)
            have y40 : vs 40 = undef := hv 40 (by decide)
            have y41 : vs 41 = undef := hv 41 (by decide)
            have y42 : vs 42 = .bool false := hv 42 (by decide)
            clear hv hw
            change wpList _ _ _ _ (Act.put (Act.put (Act.put (Act.put (Act.put (Act.put (Act.put (Act.put (Act.put (Act.put (Act.put (Act.put (Act.put (Act.put (Act.put (Act.put (Act.put (Act.put (Act.put (Act.put (Act.put (Act.put (Act.put (Act.put (Act.put (Act.put (Act.put (Act.put (Act.put (Act.put (Act.put (Act.put (Act.put (Act.put (Act.put (Act.put (Act.put (Act.put (Act.put (Act.put (Act.put (Act.put (Act.put a (some 59) (vs 0)) (some 60) (vs 1)) (some 61) (vs 2)) (some 62) (vs 3)) (some 63) (vs 4)) (some 64) (vs 5)) (some 65) (vs 6)) (some 66) (vs 7)) (some 67) (vs 8)) (some 68) (vs 9)) (some 69) (vs 10)) (some 70) (vs 11)) (some 71) (vs 12)) (some 72) (vs 13)) (some 73) (vs 14)) (some 74) (vs 15)) (some 75) (vs 16)) (some 76) (vs 17)) (some 77) (vs 18)) (some 78) (vs 19)) (some 79) (vs 20)) (some 80) (vs 21)) (some 81) (vs 22)) (some 82) (vs 23)) (some 83) (vs 24)) (some 84) (vs 25)) (some 85) (vs 26)) (some 86) (vs 27)) (some 87) (vs 28)) (some 88) (vs 29)) (some 89) (vs 30)) (some 90) (vs 31)) (some 91) (vs 32)) (some 92) (vs 33)) (some 93) (vs 34)) (some 94) (vs 35)) (some 95) (vs 36)) (some 96) (vs 37)) (some 97) (vs 38)) (some 98) (vs 39)) (some 99) (vs 40)) (some 100) (vs 41)) (some 101) (vs 42)) _
            rw [y0, y1, y2, y3, y4, y5, y6, y7, y8, y9, y10, y11, y12, y13, y14, y15, y16, y17, y18, y19, y20, y21, y22, y23, y24, y25, y26, y27, y28, y29, y30, y31, y32, y33, y34, y35, y36, y37, y38, y39, y40, y41, y42]
            subst ha
            clear y0 y1 y2 y3 y4 y5 y6 y7 y8 y9 y10 y11 y12 y13 y14 y15 y16 y17 y18 y19 y20 y21 y22 y23 y24 y25 y26 y27 y28 y29 y30 y31 y32 y33 y34 y35 y36 y37 y38 y39 y40 y41 y42
            simp only [List.drop_succ_cons, List.drop_zero]
            go_wp2
            go_roundw
            case rel => exact ⟨k + 1, S1, by omega, by go_num, Lib.hid ⟨B1.out.below hbx, WZ.out.trans (hbx.mono WZ.out.size), OZ.out.up (by push_cast; omega), FZ.out⟩⟩
            case measure => simp [intOf]; omega
    · obtain rfl : k = n := by omega
      go_wp2
      go_ret
      exact ⟨rfl, R.out.2.1⟩
end Go.Proofs.YtnimenpfojcehaaGreatDoor
