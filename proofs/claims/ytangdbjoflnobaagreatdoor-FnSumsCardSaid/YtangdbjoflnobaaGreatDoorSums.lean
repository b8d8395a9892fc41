/- The walk of FnSums. -/
import Derived.Test.YtangdbjoflnobaaGreatDoorRowN
import Derived.Test.YtangdbjoflnobaaGreatDoorAble
import Derived.Test.YtangdbjoflnobaaGreatDoorEach
import Derived.Deep.QuietTactic
import Derived.BigQuiet
import Derived.Deep.Cut
namespace Go.Proofs.YtangdbjoflnobaaGreatDoor
open Go Go.RowKit
set_option linter.unusedSimpArgs false
set_option linter.unusedVariables false

def VS (ms : List Nm) (xa : Option Addr) (xc : Nat) : Nat → Value → World → Prop
  | 0, v, _ => v = .slice xa ms.length xc
  | 1, v, w => AccAt (accF st1 (acc0 1 0) ms) kdN v w
  | 2, v, _ => v = .agg #[.int .i64 (sumV ms).k, .int .i64 (sumV ms).n, .int .i64 (sumV ms).d, .string (sumV ms).t, .bool (sumV ms).b, .int .i64 (sumV ms).f]
  | 3, v, _ => v = .agg #[.int .i64 (sumV ms).k, .int .i64 (sumV ms).n, .int .i64 (sumV ms).d, .string (sumV ms).t, .bool (sumV ms).b, .int .i64 (sumV ms).f]
  | 4, v, _ => v = .bool true
  | 5, v, _ => v = .bool true
  | 6, v, _ => v = .slice xa ms.length xc
  | 7, v, w => AccAt (accF stC (acc0 3 0) ms) kdC v w
  | 8, v, _ => v = .agg #[.int .i64 (numF ms.length 1).k, .int .i64 (numF ms.length 1).n, .int .i64 (numF ms.length 1).d, .string (numF ms.length 1).t, .bool (numF ms.length 1).b, .int .i64 (numF ms.length 1).f]
  | 9, v, _ => v = .agg #[.int .i64 (numF ms.length 1).k, .int .i64 (numF ms.length 1).n, .int .i64 (numF ms.length 1).d, .string (numF ms.length 1).t, .bool (numF ms.length 1).b, .int .i64 (numF ms.length 1).f]
  | 10, v, _ => v = .bool true
  | 11, v, _ => v = .bool true
  | 12, v, _ => v = .bool true
  | 13, v, _ => v = .slice xa ms.length xc
  | 14, v, w => AccAt (accF stC (acc0 4 0) ms) kdC v w
  | 15, v, _ => v = .agg #[.int .i64 (numF ms.length 1).k, .int .i64 (numF ms.length 1).n, .int .i64 (numF ms.length 1).d, .string (numF ms.length 1).t, .bool (numF ms.length 1).b, .int .i64 (numF ms.length 1).f]
  | 16, v, _ => v = .agg #[.int .i64 (numF ms.length 1).k, .int .i64 (numF ms.length 1).n, .int .i64 (numF ms.length 1).d, .string (numF ms.length 1).t, .bool (numF ms.length 1).b, .int .i64 (numF ms.length 1).f]
  | 17, v, _ => v = .bool true
  | 18, v, _ => v = .bool true
  | 19, v, _ => v = .bool true
  | 20, v, _ => v = .slice xa ms.length xc
  | 21, v, w => AccAt (accF st7 (acc0 7 0) ms) kdN v w
  | 22, v, _ => v = .agg #[.int .i64 (meanV ms).k, .int .i64 (meanV ms).n, .int .i64 (meanV ms).d, .string (meanV ms).t, .bool (meanV ms).b, .int .i64 (meanV ms).f]
  | 23, v, _ => v = .agg #[.int .i64 (meanV ms).k, .int .i64 (meanV ms).n, .int .i64 (meanV ms).d, .string (meanV ms).t, .bool (meanV ms).b, .int .i64 (meanV ms).f]
  | 24, v, _ => v = .bool true
  | 25, v, _ => v = .bool true
  | _, _, _ => True
theorem VS.below (ms : List Nm) (xa : Option Addr) (xc : Nat) : ∀ k v w1 w2, VS ms xa xc k v w1 → Below w1.heap.size w1 w2 → VS ms xa xc k v w2 := by
  intro k v w1 w2 h hb
  rcases k with _ | _ | _ | _ | _ | _ | _ | _ | _ | _ | _ | _ | _ | _ | _ | _ | _ | _ | _ | _ | _ | _ | _ | _ | _ | _ | k
  all_goals first | exact h | exact AccAt.below h hb
structure LsS (w : World) (ls : List Nm) (x y i : Value) (k : Nat) (wr : World) : Prop where
  le : k ≤ ls.length
  i : i = .int .i64 k
  below : Below w.heap.size w wr
  own : wr.ownsRow w.heap.size 35 6 x (rights ls k).length ((rights ls k).flatMap Nm.cells)
  own2 : wr.ownsRow w.heap.size 33 2 y (rights ls k).length ((rights ls k).flatMap Nm.pair)
theorem pair_snoc (l : List Nm) (x : Nm) : (l ++ [x]).flatMap Nm.pair = l.flatMap Nm.pair ++ x.pair := by simp

set_option maxRecDepth 100000 in
set_option maxHeartbeats 40000000 in
theorem law_FnSums0 (ls : List Nm) (la : Option Addr) (lc : Nat) (w : World) (hbig : ls.length ≤ 9223372036854775807) (hin : ∀ x ∈ ls, I64 x.n ∧ I64 x.d)
    (hc : 0 < ls.length → ∃ b off, la = some ⟨b, off, none⟩ ∧ b < w.heap.size ∧ ∀ k x, ls[k]? = some x → w.cell? ⟨b, off + k * 2, none⟩ = some (.int .i64 x.n) ∧ w.cell? ⟨b, off + k * 2 + 1, none⟩ = some (.int .i64 x.d)) :
    Calls Tryz.prog 9 #[.slice la ls.length lc] w fun e w' => e = .returned (.bool true) ∧ Below w.heap.size w w' := by
  obtain ⟨i0, hi, hz, hsz, hby⟩ := zero_val
  obtain ⟨i1, hi1, hz1, hsz1, hby1⟩ := zero_num
  have HC := Lib.hid hc
  have HI := Lib.hid hin
  clear hc hin
  obtain ⟨n, hn⟩ : ∃ n, n = ls.length := ⟨_, rfl⟩
  rw [← hn] at hbig ⊢
  have HN := Lib.hid hn
  clear hn
  by_cases hbg : 20000 < n
  case pos =>
    go_enter Tryz.func9, Tryz.ntmps9
    go_wp2_with fail
    refine (law_able _).mono ?_
    rintro e w1 ⟨rfl, hb1⟩
    go_wp2
    go_ret
    exact ⟨rfl, hb1⟩
  case neg =>
    go_enter Tryz.func9, Tryz.ntmps9
    go_wp2_with fail
    refine (law_able _).mono ?_
    rintro e w1 ⟨rfl, hb1⟩
    go_wp2
    go_loopw [3, 4, 5] (fun x y i wr => ∃ k, LsS w ls x y i k wr) (fun _ _ i _ => n - (intOf i).toNat)
    case atStart => exact ⟨0, Nat.zero_le _, rfl, hb1, World.ownsRow_nil _ _ _ _, World.ownsRow_nil _ _ _ _⟩
    case round =>
      clear hb1
      obtain ⟨k, hk, rfl, hbk, hown, hown2⟩ := hrel
      rw [← HN.out] at hk
      by_cases hlt : k < n
      · have hkl : k < ls.length := by rw [← HN.out]; exact hlt
        obtain ⟨b, off, rfl, hb, hcells⟩ := HC.out (by omega)
        obtain ⟨x, hx⟩ : ∃ x, ls[k]? = some x := ⟨_, List.getElem?_eq_getElem hkl⟩
        have c0 := (lcc hbk b hb _).trans (hcells k x hx).1
        have c1 := (lcc hbk b hb _).trans (hcells k x hx).2
        have HX := Lib.hid (hcells k x hx)
        have hxi := HI.out x (List.mem_of_getElem? hx)
        have hstep := Lib.hid (rights_step hx)
        have hlen := rights_len ls k
        have hsk := hbk.size
        clear hx hcells
        cases hr : rightN x.n x.d
        · rw [hr] at hstep
          have HR := Lib.hid hr
          clear hr
          have HB := Lib.hid (And.intro hbk (And.intro hown hown2))
          clear hbk hown hown2
          go_wp2_with fail
          refine (num_Right _ _ _ hxi.1 hxi.2).mono ?_
          rintro e w2 ⟨rfl, hb2⟩
          rw [HR.out]
          go_wp2
          go_roundw
          case rel => exact ⟨k + 1, by omega, by go_num, HB.out.1.trans (hb2.mono hsk), by rw [hstep.out]; exact own_below HB.out.2.1 hb2, by rw [hstep.out]; exact own_below HB.out.2.2 hb2⟩
          case measure => simp [intOf]; omega
        · rw [hr] at hstep
          have HR := Lib.hid hr
          have HV := Lib.hid fun wx => value_Number x.n x.d wx hxi.1 hxi.2
          have eV : numF x.n x.d = numV x.n x.d := by unfold numF; rw [tk_of hr]
          rw [eV] at HV
          clear hr eV
          have HB := Lib.hid (And.intro hbk (And.intro hown hown2))
          clear hbk hown hown2
          go_wp2_with fail
          refine (num_Right _ _ _ hxi.1 hxi.2).mono ?_
          rintro e w2 ⟨rfl, hb2⟩
          rw [HR.out]
          have hs2 := hb2.size
          have c2 := (lcc hb2 b (by omega) _).trans c0
          have c3 := (lcc hb2 b (by omega) _).trans c1
          go_wp2_with fail
          refine (HV.out _).mono ?_
          rintro e w3 ⟨rfl, hb3⟩
          have hs3 := hb3.size
          have hown3 := own_below (own_below HB.out.2.1 hb2) hb3
          have howny := own_below (own_below HB.out.2.2 hb2) hb3
          have hb03 := HB.out.1.trans ((hb2.mono hsk).trans (hb3.mono (by omega)))
          go_wp2_with (first
            | (at_builtin; refine wpList_append_lies _ rfl _ _ 31 rfl w.heap.size 35 i0 _ 6 56 Tryz.underlying31 hi hz hsz hby rfl (by decide) _ (rights ls k).length _ rfl (hown3.alloc _) ⟨w3.heap.size, 0, none⟩ 1 1 (Nm.cells x) rfl rfl (World.news_of_block (heap_alloc_new _ _)) (Nm.one _) (by decide) (by unfold maxLen; omega) (by omega) (by simp; omega) _ rfl ?_; intro g capg w5 hown5 hgrow5 hat5 hlt5; have hb05 := below_grownBy (hb03.alloc (by omega) _) hgrow5 (hown3.alloc _) (by simp; omega); have hy5 := World.ownsRow.kept (howny.alloc _) hgrow5 (own_apart howny hown3 (by decide)); have hs5 := hb05.size; have c5 := (lcc hb05 b hb _).trans HX.out.1; have c6 := (lcc hb05 b hb _).trans HX.out.2)
            | (at_builtin; refine wpList_append_lies _ rfl _ _ 39 rfl w.heap.size 33 i1 _ 2 16 Tryz.underlying39 hi1 hz1 hsz1 hby1 rfl (by decide) _ (rights ls k).length _ rfl (hy5.alloc _) ⟨w5.heap.size, 0, none⟩ 1 1 (Nm.pair x) rfl rfl (World.news_of_block (heap_alloc_new _ _)) (Nm.pair_one _) (by decide) (by unfold maxLen; omega) (by omega) (by simp; omega) _ rfl ?_; intro g6 capg6 w6 hown6 hgrow6 hat6 hlt6)
            | fail)
          go_roundw
          case rel =>
            refine ⟨k + 1, by omega, by go_num, below_grownBy (hb05.alloc (by omega) _) hgrow6 (hy5.alloc _) (by simp; omega), ?_, ?_⟩
            · rw [hstep.out, if_pos trivial, List.length_append, flat6_snoc]
              exact World.ownsRow.kept (hown5.alloc _) hgrow6 (own_apart hown5 hy5 (by decide))
            · rw [hstep.out, if_pos trivial, List.length_append, pair_snoc]; exact hown6
          case measure => simp [intOf]; omega
      · obtain rfl : k = n := by omega
        have hms := rights_ok ls k
        have hlen := rights_len ls k
        generalize rights ls k = ms at *
        obtain ⟨xa, xc, rfl, hrow⟩ := rowAt_of hown rfl
        obtain ⟨ya, yc, rfl, hpair⟩ := pairAt_of hown2 rfl
        have hmb : ms.length ≤ 1000000 := by omega
        have HP := Lib.hid hpair
        have HS := Lib.hid fun wx h => num_Sum ms ya ms.length yc rfl hmb wx (fun x hx => (hms x hx).i64) h
        have F1 := Lib.hid fun wx h => law_foldG fold1 ms hms xa ms.length xc rfl hmb wx h
        have F3 := Lib.hid fun wx h => law_foldG fold3 ms hms xa ms.length xc rfl hmb wx h
        have F4 := Lib.hid fun wx h => law_foldG fold4 ms hms xa ms.length xc rfl hmb wx h
        have F7 := Lib.hid fun wx h => law_foldG fold7 ms hms xa ms.length xc rfl hmb wx h
        have hR := Lib.hid hrow
        have hK := Lib.hid hbk
        have hsk := hbk.size
        have hbs := sumB_bd ms
        have hsv : sumV ms = if (sumB ms).ok then numF (sumB ms).n (sumB ms).d else faultF 4 := rfl
        have hmq := mean_quo ms
        have hmn : (sumB ms).ok = false → meanV ms = faultF 4 := fun h => by unfold meanV; rw [h]; rfl
        have HN1 := Lib.hid fun wx => value_Number (ms.length : Int) 1 wx (I64.of (by omega) (by omega)) ⟨by decide, by decide⟩
        have hn1 : numF (ms.length : Int) 1 = numV ms.length 1 := by unfold numF; rw [tk_of (right_whole (by omega) (by omega))]
        clear hown hown2 hrow hpair hbk
        go_wp2_with fail
        refine (HS.out _ HP.out).mono ?_
        rintro e w2 ⟨rfl, hb2⟩
        go_wp2_with fail
        refine (value_Fault _ _).mono ?_
        rintro e w3 ⟨rfl, hb3⟩
        go_upto_region 16 with (fail)
        refine wp_rebase ?_
        intro wB hb'
        have hb := hb'.out
        clear hb'
        have hs2 := hb2.size
        have hs3 := hb3.size
        have hsB := hb.size
        simp only [sz_alloc] at hs3 hsB
        have B6 : Blk wB w2.heap.size (numArr (sumB ms).n (sumB ms).d) 33 := (((Blk.below (show Blk (w2.alloc (.cells (numArr (sumB ms).n (sumB ms).d) 33)) w2.heap.size _ _ from heap_alloc_new _ _) hb3).alloc _).alloc _).below hb
        have B8 : Blk wB w3.heap.size (vArr (faultF 4)) 35 := (Blk.alloc (heap_alloc_new _ _) _).below hb
        have B9 : Blk wB (w3.heap.size + 1) (vArr (faultF 4)) 35 := by
          have h := heap_alloc_new (w3.alloc (.cells (vArr (faultF 4)) 35)) (.cells (vArr (faultF 4)) 35)
          rw [sz_alloc] at h
          exact Blk.below h hb
        have hbB : Below wr.heap.size wr wB := ((((hb2.alloc (by omega) _).trans (hb3.mono (by simp only [sz_alloc]; omega))).alloc (by omega) _).alloc (by simp only [sz_alloc]; omega) _).trans (hb.mono (by simp only [sz_alloc]; omega))
        clear hb hb2 hb3
        have hle3 : wr.heap.size ≤ w3.heap.size := by omega
        have hle4 : wr.heap.size ≤ w3.heap.size + 1 := by omega
        have n89 : ¬ w3.heap.size = w3.heap.size + 1 := by omega
        have n98 : ¬ w3.heap.size + 1 = w3.heap.size := by omega
        have HB8 := Lib.hid (And.intro B6 (And.intro B8 (And.intro B9 hbB)))
        clear B6 B8 B9 hbB
        have HSV := Lib.hid (And.intro hsv (And.intro hmq hmn))
        clear hsv hmq hmn
        generalize hk : (sumB ms).ok = ok at *
        go_upto_if 49 with (fail)
        go_cut [] from 50 (fun wx => Below wr.heap.size wr wx ∧ Blk wx w3.heap.size (vArr (sumV ms)) 35 ∧ Blk wx (w3.heap.size + 1) (vArr (meanV ms)) 35)
        case first =>
          cases ok
          · go_wp2_with fail
            go_meet
            refine ⟨HB8.out.2.2.2, ?_, ?_⟩
            · rw [HSV.out.1]; exact HB8.out.2.1
            · rw [HSV.out.2.2 (by simp)]; exact HB8.out.2.2.1
          · obtain ⟨B6, B8, B9, hbB⟩ := HB8.out
            have s0 : wB.cell? ⟨w2.heap.size, 0, none⟩ = some (.int .i64 (sumB ms).n) := B6.cell 0
            have s1 : wB.cell? ⟨w2.heap.size, 1, none⟩ = some (.int .i64 (sumB ms).d) := B6.cell 1
            have l8 := B8.lt
            have l9 := B9.lt
            have HNs := Lib.hid fun wx => value_Number (sumB ms).n (sumB ms).d wx (I64.of hbs.1 hbs.2.1) (I64.of (by omega) (by omega))
            clear B6 B8 B9 hbB
            go_wp2_with fail
            refine (HNs.out _).mono ?_
            rintro e w4 ⟨rfl, hb4⟩
            have C8 := HB8.out.2.1.below hb4
            have C9 := HB8.out.2.2.1.below hb4
            have hbC := HB8.out.2.2.2.trans (hb4.mono HB8.out.2.2.2.size)
            have hs4 := hb4.size
            obtain ⟨_, _, _, _, _, _⟩ := C8.v6
            have fz8 := C8.free
            have l8' := C8.lt
            have hC := Lib.hid (And.intro C8 (And.intro C9 hbC))
            clear C8 C9 hbC hb4
            go_upto_region 18 with (fail)
            refine wp_rebase ?_
            intro wC hb'
            have hbD := hb'.out
            clear hb'
            have D8 : Blk wC w3.heap.size (vArr (numF (sumB ms).n (sumB ms).d)) 35 := (Blk.cast ((((((hC.out.1.set 0 _).set 1 _).set 2 _).set 3 _).set 4 _).set 5 _) rfl).below hbD
            have D9 : Blk wC (w3.heap.size + 1) (vArr (faultF 4)) 35 := ((((((hC.out.2.1.set_ne n98 _).set_ne n98 _).set_ne n98 _).set_ne n98 _).set_ne n98 _).set_ne n98 _).below hbD
            have hs5 := hbD.size
            simp only [sz_setCell] at hs5
            have hbE : Below wr.heap.size wr wC := ((((((hC.out.2.2.setCell hle3 _).setCell hle3 _).setCell hle3 _).setCell hle3 _).setCell hle3 _).setCell hle3 _).trans (hbD.mono (by simp only [sz_setCell]; omega))
            have d0 : wC.cell? ⟨w3.heap.size, 0, none⟩ = some (.int .i64 1) := D8.cell 0
            have d1 : wC.cell? ⟨w3.heap.size, 1, none⟩ = some (.int .i64 (tk (sumB ms).n (sumB ms).d).n) := D8.cell 1
            have d2 : wC.cell? ⟨w3.heap.size, 2, none⟩ = some (.int .i64 (tk (sumB ms).n (sumB ms).d).d) := D8.cell 2
            have d3 : wC.cell? ⟨w3.heap.size, 3, none⟩ = some (.string ⟨#[]⟩) := D8.cell 3
            have d4 : wC.cell? ⟨w3.heap.size, 4, none⟩ = some (.bool false) := D8.cell 4
            have d5 : wC.cell? ⟨w3.heap.size, 5, none⟩ = some (.int .i64 0) := D8.cell 5
            have hD := Lib.hid (And.intro D8 (And.intro D9 hbE))
            have lD8 := D8.lt
            have lD9 := D9.lt
            have HB := Lib.hid fun wx => value_Bin14 (tk (sumB ms).n (sumB ms).d).n (tk (sumB ms).n (sumB ms).d).d (ms.length : Int) 1 wx (tk_right _ _) (right_whole (by omega) (by omega))
            rw [← HSV.out.2.1 (by simp)] at HB
            rw [hn1] at HN1
            simp only [numV, noT] at HN1
            clear D8 D9 hbD hbE fz8
            refine region_below 6 (by kernel_rfl) (by kernel_rfl) ?_
            simp only [List.take_succ_cons, List.take_zero, List.drop_succ_cons, List.drop_zero]
            repeat
              first | (refine q_run ?_ ?_; focus (go_simp; done)) | (refine q_skip ?_ ?_; focus (go_simp; done))
              try (apply Exists.intro; refine ⟨fun w' hw' => ?_, ?_⟩; focus (have hc := (bcell hw'.out).1; unfold Oper.quietAt; go_simp; (try go_ints); (first | rfl | (go_at_call 26; refine (HN1.out _).mono ?_; rintro e w2 ⟨rfl, hb⟩; exact ⟨rfl, hw'.chain hb⟩) | (go_at_call 32; refine (HB.out _).mono ?_; rintro e w2 ⟨rfl, hb⟩; exact ⟨rfl, hw'.chain hb⟩))))
              intro K hK
              go_simp
              refine hK _ ?_
              clear hK K
            refine wpQuiet_nil ?_
            intro w1 hb'
            have hb := hb'.out
            clear hb'
            have G8 := hD.out.1.below hb
            have G9 := hD.out.2.1.below hb
            have hbG := hD.out.2.2.trans (hb.mono hD.out.2.2.size)
            obtain ⟨_, _, _, _, _, _⟩ := G9.v6
            have fz9 := G9.free
            have l9' := G9.lt
            have hG := Lib.hid (And.intro G8 (And.intro G9 hbG))
            clear G8 G9 hbG hb
            go_wp2_with fail
            go_meet
            obtain ⟨G8, G9, hbG⟩ := hG.out
            refine ⟨(((((hbG.setCell hle4 _).setCell hle4 _).setCell hle4 _).setCell hle4 _).setCell hle4 _).setCell hle4 _, ?_, ?_⟩
            · rw [HSV.out.1]
              exact ((((((G8.set_ne n89 _).set_ne n89 _).set_ne n89 _).set_ne n89 _).set_ne n89 _).set_ne n89 _)
            · exact Blk.cast ((((((G9.set 0 _).set 1 _).set 2 _).set 3 _).set 4 _).set 5 _) rfl
        case rest =>
          obtain ⟨hbX, B8, B9⟩ := hcut
          rw [hn1] at HN1
          have hR8 := Lib.hid (And.intro hbX (And.intro B8 B9))
          clear HB8 hbX B8 B9
          go_wp2_with fail
          refine (HN1.out _).mono ?_
          rintro e w5 ⟨rfl, hb5⟩
          go_upto_region 20 with (fail)
          refine wp_rebase ?_
          intro wD hb'
          have hb := hb'.out
          clear hb'
          have hs5 := hb5.size
          have hsD := hb.size
          simp only [sz_alloc] at hsD
          obtain ⟨hbX, C8, C9⟩ := hR8.out
          have hsX := hbX.size
          have B8 := ((C8.below hb5).alloc _).below hb
          have B9 := ((C9.below hb5).alloc _).below hb
          have B10 : Blk wD w5.heap.size (vArr (numV ms.length 1)) 35 := Blk.below (show Blk (w5.alloc (.cells (vArr (numV ms.length 1)) 35)) w5.heap.size _ _ from heap_alloc_new _ _) hb
          have hbXD : Below wr.heap.size wr wD := ((hbX.trans (hb5.mono hbX.size)).alloc (by omega) _).trans (hb.mono (by simp only [sz_alloc]; omega))
          have hrX := Lib.hid (RowAt.below hR.out hbXD)
          rw [← hn1] at B10
          have hbY := Lib.hid hbXD
          have hK2 := Lib.hid (hK.out.trans (hbXD.mono hsk))
          clear hb hb5 hbXD C8 C9 hbX hR8 HN1 HS HP hR HSV hn1 HI HC
          refine wp_act fun a ha => ?_
          refine region_each 26 (VS ms xa xc) (by kernel_rfl) (by kernel_rfl) (VS.below ms xa xc) ?_ ?_
          · intro j hj o ho vs wx hw hk
            have hbx := hw.out
            have hzx := hbx.size
            obtain ⟨_, _, _, _, _, _⟩ := (B8.below hbx).v6
            obtain ⟨_, _, _, _, _, _⟩ := (B9.below hbx).v6
            obtain ⟨_, _, _, _, _, _⟩ := (B10.below hbx).v6
            rcases j with _ | _ | _ | _ | _ | _ | _ | _ | _ | _ | _ | _ | _ | _ | _ | _ | _ | _ | _ | _ | _ | _ | _ | _ | _ | _ | j
            · obtain rfl : _ = o := Option.some.inj ho
              clear ho hk
              change wpList _ _ (OneQ _ a _) _ a _
              subst ha
              go_wp2
              exact ⟨_, rfl, Below.refl _ _, by first | rfl | (simp [veq_true.2, VS]; done)⟩
            · obtain rfl : _ = o := Option.some.inj ho
              have y0 : vs 0 = .slice xa ms.length xc := hk 0 (by decide) rfl
              clear ho hk
              change wpList _ _ (OneQ _ (Act.put a (some 62) (vs 0)) _) _ (Act.put a (some 62) (vs 0)) _
              rw [y0]
              subst ha
              go_wp2_with fail
              refine (F1.out wx (hrX.out.below hbx)).mono ?_
              rintro e w' ⟨rfl, hA', hb'⟩
              go_wp2
              exact ⟨_, rfl, hb', ⟨_, rfl, hA'⟩⟩
            · obtain rfl : _ = o := Option.some.inj ho
              obtain ⟨p1, y1, hp1⟩ : AccAt (accF st1 (acc0 1 0) ms) kdN (vs 1) wx := hk 1 (by decide) rfl
              clear ho hk
              change wpList _ _ (OneQ _ (Act.put a (some 63) (vs 1)) _) _ (Act.put a (some 63) (vs 1)) _
              rw [y1]
              subst ha
              go_wp2_with fail
              refine (res1 ms _ _ hp1).mono ?_
              rintro e w' ⟨rfl, hb'⟩
              go_wp2
              exact ⟨_, rfl, hb', by first | rfl | (simp [VS]; done)⟩
            · obtain rfl : _ = o := Option.some.inj ho
              clear ho hk
              change wpList _ _ (OneQ _ a _) _ a _
              subst ha
              go_wp2
              exact ⟨_, rfl, Below.refl _ _, by first | rfl | (simp [veq_true.2, VS]; done)⟩
            · obtain rfl : _ = o := Option.some.inj ho
              have y2 : vs 2 = .agg #[.int .i64 (sumV ms).k, .int .i64 (sumV ms).n, .int .i64 (sumV ms).d, .string (sumV ms).t, .bool (sumV ms).b, .int .i64 (sumV ms).f] := hk 2 (by decide) rfl
              have y3 : vs 3 = .agg #[.int .i64 (sumV ms).k, .int .i64 (sumV ms).n, .int .i64 (sumV ms).d, .string (sumV ms).t, .bool (sumV ms).b, .int .i64 (sumV ms).f] := hk 3 (by decide) rfl
              clear ho hk
              change wpList _ _ (OneQ _ (Act.put (Act.put a (some 64) (vs 2)) (some 65) (vs 3)) _) _ (Act.put (Act.put a (some 64) (vs 2)) (some 65) (vs 3)) _
              rw [y2, y3]
              subst ha
              go_wp2
              exact ⟨_, rfl, Below.refl _ _, by first | rfl | (simp [veq_true.2, VS]; done)⟩
            · obtain rfl : _ = o := Option.some.inj ho
              have y4 : vs 4 = .bool true := hk 4 (by decide) rfl
              clear ho hk
              change wpList _ _ (OneQ _ (Act.put a (some 66) (vs 4)) _) _ (Act.put a (some 66) (vs 4)) _
              rw [y4]
              subst ha
              go_wp2
              exact ⟨_, rfl, Below.refl _ _, by first | rfl | (simp [veq_true.2, VS]; done)⟩
            · obtain rfl : _ = o := Option.some.inj ho
              have y5 : vs 5 = .bool true := hk 5 (by decide) rfl
              clear ho hk
              change wpList _ _ (OneQ _ (Act.put a (some 67) (vs 5)) _) _ (Act.put a (some 67) (vs 5)) _
              rw [y5]
              subst ha
              go_wp2
              exact ⟨_, rfl, Below.refl _ _, by first | rfl | (simp [veq_true.2, VS]; done)⟩
            · obtain rfl : _ = o := Option.some.inj ho
              have y5 : vs 5 = .bool true := hk 5 (by decide) rfl
              have y6 : vs 6 = .slice xa ms.length xc := hk 6 (by decide) rfl
              clear ho hk
              change wpList _ _ (OneQ _ (Act.put (Act.put a (some 67) (vs 5)) (some 68) (vs 6)) _) _ (Act.put (Act.put a (some 67) (vs 5)) (some 68) (vs 6)) _
              rw [y5, y6]
              subst ha
              go_wp2_with fail
              refine (F3.out wx (hrX.out.below hbx)).mono ?_
              rintro e w' ⟨rfl, hA', hb'⟩
              go_wp2
              exact ⟨_, rfl, hb', ⟨_, rfl, hA'⟩⟩
            · obtain rfl : _ = o := Option.some.inj ho
              have y5 : vs 5 = .bool true := hk 5 (by decide) rfl
              obtain ⟨p7, y7, hp7⟩ : AccAt (accF stC (acc0 3 0) ms) kdC (vs 7) wx := hk 7 (by decide) rfl
              clear ho hk
              change wpList _ _ (OneQ _ (Act.put (Act.put a (some 67) (vs 5)) (some 69) (vs 7)) _) _ (Act.put (Act.put a (some 67) (vs 5)) (some 69) (vs 7)) _
              rw [y5, y7]
              subst ha
              go_wp2_with fail
              refine (res3 ms hmb _ _ hp7).mono ?_
              rintro e w' ⟨rfl, hb'⟩
              go_wp2
              exact ⟨_, rfl, hb', by first | rfl | (simp [VS]; done)⟩
            · obtain rfl : _ = o := Option.some.inj ho
              have y5 : vs 5 = .bool true := hk 5 (by decide) rfl
              clear ho hk
              change wpList _ _ (OneQ _ (Act.put a (some 67) (vs 5)) _) _ (Act.put a (some 67) (vs 5)) _
              rw [y5]
              subst ha
              go_wp2
              exact ⟨_, rfl, Below.refl _ _, by first | rfl | (simp [veq_true.2, VS]; done)⟩
            · obtain rfl : _ = o := Option.some.inj ho
              have y5 : vs 5 = .bool true := hk 5 (by decide) rfl
              have y8 : vs 8 = .agg #[.int .i64 (numF ms.length 1).k, .int .i64 (numF ms.length 1).n, .int .i64 (numF ms.length 1).d, .string (numF ms.length 1).t, .bool (numF ms.length 1).b, .int .i64 (numF ms.length 1).f] := hk 8 (by decide) rfl
              have y9 : vs 9 = .agg #[.int .i64 (numF ms.length 1).k, .int .i64 (numF ms.length 1).n, .int .i64 (numF ms.length 1).d, .string (numF ms.length 1).t, .bool (numF ms.length 1).b, .int .i64 (numF ms.length 1).f] := hk 9 (by decide) rfl
              clear ho hk
              change wpList _ _ (OneQ _ (Act.put (Act.put (Act.put a (some 67) (vs 5)) (some 70) (vs 8)) (some 71) (vs 9)) _) _ (Act.put (Act.put (Act.put a (some 67) (vs 5)) (some 70) (vs 8)) (some 71) (vs 9)) _
              rw [y5, y8, y9]
              subst ha
              go_wp2
              exact ⟨_, rfl, Below.refl _ _, by first | rfl | (simp [veq_true.2, VS]; done)⟩
            · obtain rfl : _ = o := Option.some.inj ho
              have y5 : vs 5 = .bool true := hk 5 (by decide) rfl
              have y10 : vs 10 = .bool true := hk 10 (by decide) rfl
              clear ho hk
              change wpList _ _ (OneQ _ (Act.put (Act.put a (some 67) (vs 5)) (some 72) (vs 10)) _) _ (Act.put (Act.put a (some 67) (vs 5)) (some 72) (vs 10)) _
              rw [y5, y10]
              subst ha
              go_wp2
              exact ⟨_, rfl, Below.refl _ _, by first | rfl | (simp [veq_true.2, VS]; done)⟩
            · obtain rfl : _ = o := Option.some.inj ho
              have y11 : vs 11 = .bool true := hk 11 (by decide) rfl
              clear ho hk
              change wpList _ _ (OneQ _ (Act.put a (some 73) (vs 11)) _) _ (Act.put a (some 73) (vs 11)) _
              rw [y11]
              subst ha
              go_wp2
              exact ⟨_, rfl, Below.refl _ _, by first | rfl | (simp [veq_true.2, VS]; done)⟩
            · obtain rfl : _ = o := Option.some.inj ho
              have y12 : vs 12 = .bool true := hk 12 (by decide) rfl
              clear ho hk
              change wpList _ _ (OneQ _ (Act.put a (some 74) (vs 12)) _) _ (Act.put a (some 74) (vs 12)) _
              rw [y12]
              subst ha
              go_wp2
              exact ⟨_, rfl, Below.refl _ _, by first | rfl | (simp [veq_true.2, VS]; done)⟩
            · obtain rfl : _ = o := Option.some.inj ho
              have y12 : vs 12 = .bool true := hk 12 (by decide) rfl
              have y13 : vs 13 = .slice xa ms.length xc := hk 13 (by decide) rfl
              clear ho hk
              change wpList _ _ (OneQ _ (Act.put (Act.put a (some 74) (vs 12)) (some 75) (vs 13)) _) _ (Act.put (Act.put a (some 74) (vs 12)) (some 75) (vs 13)) _
              rw [y12, y13]
              subst ha
              go_wp2_with fail
              refine (F4.out wx (hrX.out.below hbx)).mono ?_
              rintro e w' ⟨rfl, hA', hb'⟩
              go_wp2
              exact ⟨_, rfl, hb', ⟨_, rfl, hA'⟩⟩
            · obtain rfl : _ = o := Option.some.inj ho
              have y12 : vs 12 = .bool true := hk 12 (by decide) rfl
              obtain ⟨p14, y14, hp14⟩ : AccAt (accF stC (acc0 4 0) ms) kdC (vs 14) wx := hk 14 (by decide) rfl
              clear ho hk
              change wpList _ _ (OneQ _ (Act.put (Act.put a (some 74) (vs 12)) (some 76) (vs 14)) _) _ (Act.put (Act.put a (some 74) (vs 12)) (some 76) (vs 14)) _
              rw [y12, y14]
              subst ha
              go_wp2_with fail
              refine (res4 ms hmb _ _ hp14).mono ?_
              rintro e w' ⟨rfl, hb'⟩
              go_wp2
              exact ⟨_, rfl, hb', by first | rfl | (simp [VS]; done)⟩
            · obtain rfl : _ = o := Option.some.inj ho
              have y12 : vs 12 = .bool true := hk 12 (by decide) rfl
              clear ho hk
              change wpList _ _ (OneQ _ (Act.put a (some 74) (vs 12)) _) _ (Act.put a (some 74) (vs 12)) _
              rw [y12]
              subst ha
              go_wp2
              exact ⟨_, rfl, Below.refl _ _, by first | rfl | (simp [veq_true.2, VS]; done)⟩
            · obtain rfl : _ = o := Option.some.inj ho
              have y12 : vs 12 = .bool true := hk 12 (by decide) rfl
              have y15 : vs 15 = .agg #[.int .i64 (numF ms.length 1).k, .int .i64 (numF ms.length 1).n, .int .i64 (numF ms.length 1).d, .string (numF ms.length 1).t, .bool (numF ms.length 1).b, .int .i64 (numF ms.length 1).f] := hk 15 (by decide) rfl
              have y16 : vs 16 = .agg #[.int .i64 (numF ms.length 1).k, .int .i64 (numF ms.length 1).n, .int .i64 (numF ms.length 1).d, .string (numF ms.length 1).t, .bool (numF ms.length 1).b, .int .i64 (numF ms.length 1).f] := hk 16 (by decide) rfl
              clear ho hk
              change wpList _ _ (OneQ _ (Act.put (Act.put (Act.put a (some 74) (vs 12)) (some 77) (vs 15)) (some 78) (vs 16)) _) _ (Act.put (Act.put (Act.put a (some 74) (vs 12)) (some 77) (vs 15)) (some 78) (vs 16)) _
              rw [y12, y15, y16]
              subst ha
              go_wp2
              exact ⟨_, rfl, Below.refl _ _, by first | rfl | (simp [veq_true.2, VS]; done)⟩
            · obtain rfl : _ = o := Option.some.inj ho
              have y12 : vs 12 = .bool true := hk 12 (by decide) rfl
              have y17 : vs 17 = .bool true := hk 17 (by decide) rfl
              clear ho hk
              change wpList _ _ (OneQ _ (Act.put (Act.put a (some 74) (vs 12)) (some 79) (vs 17)) _) _ (Act.put (Act.put a (some 74) (vs 12)) (some 79) (vs 17)) _
              rw [y12, y17]
              subst ha
              go_wp2
              exact ⟨_, rfl, Below.refl _ _, by first | rfl | (simp [veq_true.2, VS]; done)⟩
            · obtain rfl : _ = o := Option.some.inj ho
              have y18 : vs 18 = .bool true := hk 18 (by decide) rfl
              clear ho hk
              change wpList _ _ (OneQ _ (Act.put a (some 80) (vs 18)) _) _ (Act.put a (some 80) (vs 18)) _
              rw [y18]
              subst ha
              go_wp2
              exact ⟨_, rfl, Below.refl _ _, by first | rfl | (simp [veq_true.2, VS]; done)⟩
            · obtain rfl : _ = o := Option.some.inj ho
              have y19 : vs 19 = .bool true := hk 19 (by decide) rfl
              clear ho hk
              change wpList _ _ (OneQ _ (Act.put a (some 81) (vs 19)) _) _ (Act.put a (some 81) (vs 19)) _
              rw [y19]
              subst ha
              go_wp2
              exact ⟨_, rfl, Below.refl _ _, by first | rfl | (simp [veq_true.2, VS]; done)⟩
            · obtain rfl : _ = o := Option.some.inj ho
              have y19 : vs 19 = .bool true := hk 19 (by decide) rfl
              have y20 : vs 20 = .slice xa ms.length xc := hk 20 (by decide) rfl
              clear ho hk
              change wpList _ _ (OneQ _ (Act.put (Act.put a (some 81) (vs 19)) (some 82) (vs 20)) _) _ (Act.put (Act.put a (some 81) (vs 19)) (some 82) (vs 20)) _
              rw [y19, y20]
              subst ha
              go_wp2_with fail
              refine (F7.out wx (hrX.out.below hbx)).mono ?_
              rintro e w' ⟨rfl, hA', hb'⟩
              go_wp2
              exact ⟨_, rfl, hb', ⟨_, rfl, hA'⟩⟩
            · obtain rfl : _ = o := Option.some.inj ho
              have y19 : vs 19 = .bool true := hk 19 (by decide) rfl
              obtain ⟨p21, y21, hp21⟩ : AccAt (accF st7 (acc0 7 0) ms) kdN (vs 21) wx := hk 21 (by decide) rfl
              clear ho hk
              change wpList _ _ (OneQ _ (Act.put (Act.put a (some 81) (vs 19)) (some 83) (vs 21)) _) _ (Act.put (Act.put a (some 81) (vs 19)) (some 83) (vs 21)) _
              rw [y19, y21]
              subst ha
              go_wp2_with fail
              refine (res7 ms hmb _ _ hp21).mono ?_
              rintro e w' ⟨rfl, hb'⟩
              go_wp2
              exact ⟨_, rfl, hb', by first | rfl | (simp [VS]; done)⟩
            · obtain rfl : _ = o := Option.some.inj ho
              have y19 : vs 19 = .bool true := hk 19 (by decide) rfl
              clear ho hk
              change wpList _ _ (OneQ _ (Act.put a (some 81) (vs 19)) _) _ (Act.put a (some 81) (vs 19)) _
              rw [y19]
              subst ha
              go_wp2
              exact ⟨_, rfl, Below.refl _ _, by first | rfl | (simp [veq_true.2, VS]; done)⟩
            · obtain rfl : _ = o := Option.some.inj ho
              have y19 : vs 19 = .bool true := hk 19 (by decide) rfl
              have y22 : vs 22 = .agg #[.int .i64 (meanV ms).k, .int .i64 (meanV ms).n, .int .i64 (meanV ms).d, .string (meanV ms).t, .bool (meanV ms).b, .int .i64 (meanV ms).f] := hk 22 (by decide) rfl
              have y23 : vs 23 = .agg #[.int .i64 (meanV ms).k, .int .i64 (meanV ms).n, .int .i64 (meanV ms).d, .string (meanV ms).t, .bool (meanV ms).b, .int .i64 (meanV ms).f] := hk 23 (by decide) rfl
              clear ho hk
              change wpList _ _ (OneQ _ (Act.put (Act.put (Act.put a (some 81) (vs 19)) (some 84) (vs 22)) (some 85) (vs 23)) _) _ (Act.put (Act.put (Act.put a (some 81) (vs 19)) (some 84) (vs 22)) (some 85) (vs 23)) _
              rw [y19, y22, y23]
              subst ha
              go_wp2
              exact ⟨_, rfl, Below.refl _ _, by first | rfl | (simp [veq_true.2, VS]; done)⟩
            · obtain rfl : _ = o := Option.some.inj ho
              have y19 : vs 19 = .bool true := hk 19 (by decide) rfl
              have y24 : vs 24 = .bool true := hk 24 (by decide) rfl
              clear ho hk
              change wpList _ _ (OneQ _ (Act.put (Act.put a (some 81) (vs 19)) (some 86) (vs 24)) _) _ (Act.put (Act.put a (some 81) (vs 19)) (some 86) (vs 24)) _
              rw [y19, y24]
              subst ha
              go_wp2
              exact ⟨_, rfl, Below.refl _ _, by first | rfl | (simp [veq_true.2, VS]; done)⟩
            · omega
          · intro vs wx hw hv
            have hbx := hw.out
            have y0 : vs 0 = .slice xa ms.length xc := hv 0 (by decide)
            obtain ⟨p1, y1, hp1⟩ : AccAt (accF st1 (acc0 1 0) ms) kdN (vs 1) wx := hv 1 (by decide)
            have y2 : vs 2 = .agg #[.int .i64 (sumV ms).k, .int .i64 (sumV ms).n, .int .i64 (sumV ms).d, .string (sumV ms).t, .bool (sumV ms).b, .int .i64 (sumV ms).f] := hv 2 (by decide)
            have y3 : vs 3 = .agg #[.int .i64 (sumV ms).k, .int .i64 (sumV ms).n, .int .i64 (sumV ms).d, .string (sumV ms).t, .bool (sumV ms).b, .int .i64 (sumV ms).f] := hv 3 (by decide)
            have y4 : vs 4 = .bool true := hv 4 (by decide)
            have y5 : vs 5 = .bool true := hv 5 (by decide)
            have y6 : vs 6 = .slice xa ms.length xc := hv 6 (by decide)
            obtain ⟨p7, y7, hp7⟩ : AccAt (accF stC (acc0 3 0) ms) kdC (vs 7) wx := hv 7 (by decide)
            have y8 : vs 8 = .agg #[.int .i64 (numF ms.length 1).k, .int .i64 (numF ms.length 1).n, .int .i64 (numF ms.length 1).d, .string (numF ms.length 1).t, .bool (numF ms.length 1).b, .int .i64 (numF ms.length 1).f] := hv 8 (by decide)
            have y9 : vs 9 = .agg #[.int .i64 (numF ms.length 1).k, .int .i64 (numF ms.length 1).n, .int .i64 (numF ms.length 1).d, .string (numF ms.length 1).t, .bool (numF ms.length 1).b, .int .i64 (numF ms.length 1).f] := hv 9 (by decide)
            have y10 : vs 10 = .bool true := hv 10 (by decide)
            have y11 : vs 11 = .bool true := hv 11 (by decide)
            have y12 : vs 12 = .bool true := hv 12 (by decide)
            have y13 : vs 13 = .slice xa ms.length xc := hv 13 (by decide)
            obtain ⟨p14, y14, hp14⟩ : AccAt (accF stC (acc0 4 0) ms) kdC (vs 14) wx := hv 14 (by decide)
            have y15 : vs 15 = .agg #[.int .i64 (numF ms.length 1).k, .int .i64 (numF ms.length 1).n, .int .i64 (numF ms.length 1).d, .string (numF ms.length 1).t, .bool (numF ms.length 1).b, .int .i64 (numF ms.length 1).f] := hv 15 (by decide)
            have y16 : vs 16 = .agg #[.int .i64 (numF ms.length 1).k, .int .i64 (numF ms.length 1).n, .int .i64 (numF ms.length 1).d, .string (numF ms.length 1).t, .bool (numF ms.length 1).b, .int .i64 (numF ms.length 1).f] := hv 16 (by decide)
            have y17 : vs 17 = .bool true := hv 17 (by decide)
            have y18 : vs 18 = .bool true := hv 18 (by decide)
            have y19 : vs 19 = .bool true := hv 19 (by decide)
            have y20 : vs 20 = .slice xa ms.length xc := hv 20 (by decide)
            obtain ⟨p21, y21, hp21⟩ : AccAt (accF st7 (acc0 7 0) ms) kdN (vs 21) wx := hv 21 (by decide)
            have y22 : vs 22 = .agg #[.int .i64 (meanV ms).k, .int .i64 (meanV ms).n, .int .i64 (meanV ms).d, .string (meanV ms).t, .bool (meanV ms).b, .int .i64 (meanV ms).f] := hv 22 (by decide)
            have y23 : vs 23 = .agg #[.int .i64 (meanV ms).k, .int .i64 (meanV ms).n, .int .i64 (meanV ms).d, .string (meanV ms).t, .bool (meanV ms).b, .int .i64 (meanV ms).f] := hv 23 (by decide)
            have y24 : vs 24 = .bool true := hv 24 (by decide)
            have y25 : vs 25 = .bool true := hv 25 (by decide)
            clear hv hw
            change wpList _ _ _ _ (Act.put (Act.put (Act.put (Act.put (Act.put (Act.put (Act.put (Act.put (Act.put (Act.put (Act.put (Act.put (Act.put (Act.put (Act.put (Act.put (Act.put (Act.put (Act.put (Act.put (Act.put (Act.put (Act.put (Act.put (Act.put (Act.put a (some 62) (vs 0)) (some 63) (vs 1)) (some 64) (vs 2)) (some 65) (vs 3)) (some 66) (vs 4)) (some 67) (vs 5)) (some 68) (vs 6)) (some 69) (vs 7)) (some 70) (vs 8)) (some 71) (vs 9)) (some 72) (vs 10)) (some 73) (vs 11)) (some 74) (vs 12)) (some 75) (vs 13)) (some 76) (vs 14)) (some 77) (vs 15)) (some 78) (vs 16)) (some 79) (vs 17)) (some 80) (vs 18)) (some 81) (vs 19)) (some 82) (vs 20)) (some 83) (vs 21)) (some 84) (vs 22)) (some 85) (vs 23)) (some 86) (vs 24)) (some 87) (vs 25)) _
            rw [y0, y1, y2, y3, y4, y5, y6, y7, y8, y9, y10, y11, y12, y13, y14, y15, y16, y17, y18, y19, y20, y21, y22, y23, y24, y25]
            subst ha
            clear y0 y1 y2 y3 y4 y5 y6 y7 y8 y9 y10 y11 y12 y13 y14 y15 y16 y17 y18 y19 y20 y21 y22 y23 y24 y25
            simp only [List.drop_succ_cons, List.drop_zero]
            have hbF := hK2.out.trans (hbx.mono hK2.out.size)
            go_wp2
            go_ret
            exact ⟨rfl, hbF⟩
end Go.Proofs.YtangdbjoflnobaaGreatDoor
