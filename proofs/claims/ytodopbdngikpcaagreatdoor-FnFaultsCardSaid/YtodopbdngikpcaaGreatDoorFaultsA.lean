/- The walk of FnFaults: it answers true. -/
import Derived.Test.YtodopbdngikpcaaGreatDoorApX
import Derived.Test.YtodopbdngikpcaaGreatDoorAppV
import Derived.Test.YtodopbdngikpcaaGreatDoorApPQ
import Derived.Test.YtodopbdngikpcaaGreatDoorAble
namespace Go.Proofs.YtodopbdngikpcaaGreatDoor
open Go Go.RowKit
set_option linter.unusedSimpArgs false
set_option linter.unusedVariables false

theorem veq_self (x : Vl) : veq ⟨x.k, x.n, x.d, x.t, x.b, x.f⟩ ⟨x.k, x.n, x.d, x.t, x.b, x.f⟩ = true := veq_true.2 rfl
structure FaI (W5 : World) (vs : List Vl) (i : Value) (k : Nat) (wr : World) : Prop where
  le : k ≤ vs.length
  i : i = .int .i64 k
  no : ∀ j y, j < k → vs[j]? = some y → ¬ (tkV y).k = 4
  below : Below W5.heap.size W5 wr
set_option maxRecDepth 100000 in
set_option maxHeartbeats 4000000 in
theorem law_FnFaults0 (id : Int) (vs : List Vl) (la : Option Addr) (n lc : Nat) (w : World) (hn : vs.length = n) (hbig : n * 56 ≤ 140737488351232) (hin : ∀ v ∈ vs, v.In) (hc : ValAt w la vs) (hL : Laid w) :
    Calls Tryz.prog 4 #[.int .i64 id, .slice la n lc] w fun e w' => e = .returned (.bool true) ∧ Below w.heap.size w w' := by
  have HI := Lib.hid hin
  have HC := Lib.hid fun wx h => hc.below (w' := wx) h
  have HN := Lib.hid hn
  have HL := Lib.hid fun wx h => hL.below (w' := wx) h
  have HX : Hid (∀ wx g c, ValAt wx g vs → Laid wx → Calls Tryz.prog 10 #[.int .i64 id, .slice g n c] wx fun e w' => e = .returned (.agg #[.int .i64 (applyP id vs).k, .int .i64 (applyP id vs).n, .int .i64 (applyP id vs).d, .string (applyP id vs).t, .bool (applyP id vs).b, .int .i64 (applyP id vs).f]) ∧ Below wx.heap.size wx w') := fun wx g c h1 h2 => funcs_Apply id vs g n c wx hn hin h1 h2
  have HR := right_apply id vs
  have HRR : Hid (∀ wx, Calls Tryz.prog 14 #[.agg #[.int .i64 (applyP id vs).k, .int .i64 (applyP id vs).n, .int .i64 (applyP id vs).d, .string (applyP id vs).t, .bool (applyP id vs).b, .int .i64 (applyP id vs).f]] wx fun e w' => e = .returned (.bool true) ∧ Below wx.heap.size wx w') := by
    intro wx
    have h := value_Right (applyP id vs).k (applyP id vs).n (applyP id vs).d (applyP id vs).t (applyP id vs).b (applyP id vs).f wx (right_in HR)
    have e : rightV ⟨(applyP id vs).k, (applyP id vs).n, (applyP id vs).d, (applyP id vs).t, (applyP id vs).b, (applyP id vs).f⟩ = true := HR
    rw [e] at h
    exact h
  have P1 := Lib.hid (fun h => apply_refused (id := id) (vs := vs) h)
  have P2 := Lib.hid (fun h h1 h2 => apply_kind (id := id) (vs := vs) h h1 h2)
  have P3 := Lib.hid (fun h h1 i x hx hk hno => apply_fault (id := id) (vs := vs) h h1 (i := i) (x := x) hx hk hno)
  have HF := Lib.hid fun wx => value_Fault 2 wx
  obtain ⟨S, ok, HB, hRF⟩ : ∃ (S : SigS) (ok : Bool), Hid (∀ wx : World, Calls Tryz.prog 13 #[.int .i64 id] wx fun e w' => e = .returned (.tuple #[.agg #[.int .i64 S.id, .int .i64 S.cl, .string S.name, .int .i64 S.least, .int .i64 S.most, .string S.params], .bool ok]) ∧ Below wx.heap.size wx w') ∧
      refused id vs.length = (!ok || (!(S.cl == 4) || (decide ((n : Int) < S.least) || decide (S.most < (n : Int))))) := by
    refine ⟨(byIdL id).getD sigZ, (byIdL id).isSome, fun wx => byId id wx, ?_⟩
    unfold refused
    rw [hn]
    cases byIdL id with
    | none => rfl
    | some S => simp [Bool.or_assoc]
  rw [hn] at P1 P2 P3 hRF
  generalize applyP id vs = X at *
  have HRF := Lib.hid hRF
  clear hRF
  clear hin hc hn hL HR
  go_enter Tryz.func4, Tryz.ntmps4
  go_wp2_with fail
  refine (law_able _).mono ?_
  rintro e w1 ⟨rfl, hb1⟩
  have s1 := hb1.size
  have hb1' := Lib.hid hb1
  clear hb1
  go_wp2_with fail
  refine (HB.out _).mono ?_
  rintro e w2 ⟨rfl, hb2⟩
  have s2 := hb2.size
  have W2 := Lib.hid (hb1'.out.trans (hb2.mono s1))
  clear hb2 hb1'
  have own0 : ((w2.alloc (.cells #[.int .i64 S.id, .int .i64 S.cl, .string S.name, .int .i64 S.least, .int .i64 S.most, .string S.params] 32)).alloc (.cells #[] 26)).ownsRow (w2.heap.size + 1) 26 6 (.slice (some ⟨w2.heap.size + 1, 0, none⟩) 0 0) 0 [] := by
    refine ⟨rfl, .inr ⟨_, 0, #[], rfl, Nat.le_refl _, ?_, Nat.le_refl _, by decide, rfl, rfl⟩⟩
    have h := heap_alloc_new (w2.alloc (.cells #[.int .i64 S.id, .int .i64 S.cl, .string S.name, .int .i64 S.least, .int .i64 S.most, .string S.params] 32)) (.cells #[] 26)
    rw [sz_alloc] at h
    exact h
  have B0 : Below w.heap.size w ((w2.alloc (.cells #[.int .i64 S.id, .int .i64 S.cl, .string S.name, .int .i64 S.least, .int .i64 S.most, .string S.params] 32)).alloc (.cells #[] 26)) := (W2.out.alloc W2.out.size _).alloc (by have := W2.out.size; simp only [sz_alloc]; omega) _
  have hv0 := HC.out _ B0
  have sg : Blk ((w2.alloc (.cells #[.int .i64 S.id, .int .i64 S.cl, .string S.name, .int .i64 S.least, .int .i64 S.most, .string S.params] 32)).alloc (.cells #[] 26)) w2.heap.size #[.int .i64 S.id, .int .i64 S.cl, .string S.name, .int .i64 S.least, .int .i64 S.most, .string S.params] 32 := Blk.alloc (heap_alloc_new _ _) _
  go_wp2_with (first
    | (at_builtin
       refine wpList_append_vals rfl _ _ rfl (w2.heap.size + 1) _ 0 [] rfl own0 la n lc vs HN.out rfl hv0 (by omega) (by simp only [sz_alloc]; omega) ?_
       intro v1 w3 hown3 hgrow3
       have B3 := below_grownBy B0 hgrow3 (own_mono own0 (by have := W2.out.size; omega)) (by have := W2.out.size; simp only [sz_alloc]; omega)
       have sg3 := sg.grown hgrow3 (own_ne own0 (by omega))
       have s3 := hgrow3.size
       simp only [sz_alloc] at s3
       obtain ⟨a1, l1, c1, rfl⟩ := own_slice hown3
       obtain rfl : n = l1 := by
         rcases hown3.2 with ⟨h, h'⟩ | ⟨_, _, _, h, _⟩
         · simp only [Value.slice.injEq] at h; omega
         · simp only [Value.slice.injEq] at h; omega
       have hv3 : ValAt w3 a1 vs := by
         intro h0
         rcases hown3.2 with ⟨h, h'⟩ | ⟨g, cap, cur, h, _, hg, _⟩
         · have := HN.out; omega
         · simp only [Value.slice.injEq] at h
           obtain ⟨rfl, _, rfl⟩ := h
           exact ⟨g, 0, rfl, lt_of_block hg, valRow_own (by simpa using hown3) (by have := HN.out; omega)⟩
       have HH3 := Lib.hid (And.intro sg3 (And.intro B3 hv3))
       clear hown3 hgrow3 sg3 B3 hv3)
    | fail)
  refine (HX.out _ _ _ HH3.out.2.2 (HL.out _ HH3.out.2.1)).mono ?_
  rintro e w4 ⟨rfl, hb4⟩
  have W4 := Lib.hid (HH3.out.2.1.trans (hb4.mono HH3.out.2.1.size))
  have S4 := Lib.hid (HH3.out.1.below hb4)
  have s4 := hb4.size
  clear hb4 own0 B0 hv0 sg HH3 HX
  go_wp2_with fail
  refine (HRR.out _).mono ?_
  rintro e w5 ⟨rfl, hb5⟩
  have X5 : Blk w5 w4.heap.size (vArr X) 26 := Blk.below (show Blk (w4.alloc (.cells (vArr X) 26)) w4.heap.size _ _ from heap_alloc_new _ _) hb5
  have S5 := (S4.out.alloc (.cells (vArr X) 26)).below hb5
  have W5 : Below w.heap.size w w5 := (W4.out.alloc W4.out.size (.cells (vArr X) 26)).trans (hb5.mono (by have := W4.out.size; simp only [sz_alloc]; omega))
  have s5 := hb5.size
  simp only [sz_alloc] at s5
  obtain ⟨x0, x1, x2, x3, x4, x5⟩ := X5.v6
  have xl := X5.lt
  have g1 : w5.cell? ⟨w2.heap.size, 1, none⟩ = some (.int .i64 S.cl) := S5.cell 1
  have g3 : w5.cell? ⟨w2.heap.size, 3, none⟩ = some (.int .i64 S.least) := S5.cell 3
  have g4 : w5.cell? ⟨w2.heap.size, 4, none⟩ = some (.int .i64 S.most) := S5.cell 4
  have gl := S5.lt
  have HH5 := Lib.hid (And.intro X5 (And.intro S5 W5))
  clear hb5 X5 S5 W5 S4 W4 HRR
  cases hr : refused id n
  · -- accepted
    obtain ⟨h1, h2, h3, h4⟩ : ok = true ∧ (S.cl == 4) = true ∧ ¬ (n : Int) < S.least ∧ ¬ S.most < (n : Int) := by
      have h := HRF.out
      rw [hr] at h
      cases ok
      · simp at h
      · cases h2 : (S.cl == 4)
        · rw [h2] at h; simp at h
        · rw [h2] at h
          simp at h
          exact ⟨rfl, rfl, by omega, by omega⟩
    have P2' := P2.out hr
    have HP3 := Lib.hid (P3.out hr)
    subst h1
    have h2' : (S.cl != 4) = false := by
      have h5 : (S.cl != 4) = !(S.cl == 4) := rfl
      rw [h5, h2]; rfl
    clear P1 P2 P3 HRF hr
    by_cases hid : 58 ≤ id
    · by_cases h62 : id = 62
      · have k62 : (id == 62) = true := by simp [h62]
        clear h62 P2'
        go_wp2
        go_ret
        refine ⟨rfl, ?_⟩
        have hb6 := HH5.out.2.2
        repeat (first | with_reducible exact Below.refl _ _ | with_reducible refine below_drewN ?_ _ | with_reducible refine Below.drew ?_ | with_reducible refine Below.setCell ?_ (by (first | omega | (simp only [sz_alloc, sz_setCell, sz_drew, sz_drewN]; omega) | (simp; done) | (simp; omega))) _ | with_reducible refine Below.alloc ?_ (by (first | omega | (simp only [sz_alloc, sz_setCell, sz_drew, sz_drewN]; omega) | (simp; done) | (simp; omega))) _ | with_reducible refine below_then ?_ ?_ (by with_reducible assumption) | (first | omega | (simp only [sz_alloc, sz_setCell, sz_drew, sz_drewN]; omega) | (simp; done) | (simp; omega)))
      · have k62 : (id == 62) = false := by simp [h62]
        have hk3 := P2' hid h62
        have k3 : (X.k == 3) = true := by simp [hk3]
        clear h62 P2' hk3
        go_wp2
        go_ret
        refine ⟨rfl, ?_⟩
        have hb6 := HH5.out.2.2
        repeat (first | with_reducible exact Below.refl _ _ | with_reducible refine below_drewN ?_ _ | with_reducible refine Below.drew ?_ | with_reducible refine Below.setCell ?_ (by (first | omega | (simp only [sz_alloc, sz_setCell, sz_drew, sz_drewN]; omega) | (simp; done) | (simp; omega))) _ | with_reducible refine Below.alloc ?_ (by (first | omega | (simp only [sz_alloc, sz_setCell, sz_drew, sz_drewN]; omega) | (simp; done) | (simp; omega))) _ | with_reducible refine below_then ?_ ?_ (by with_reducible assumption) | (first | omega | (simp only [sz_alloc, sz_setCell, sz_drew, sz_drewN]; omega) | (simp; done) | (simp; omega)))
    · have h58 : id < 58 := by omega
      have HP4 := Lib.hid (HP3.out h58)
      clear P2' HP3
      go_wp2
      go_loopw [8] (fun i wr => ∃ k, FaI w5 vs i k wr) (fun i _ => n - (intOf i).toNat)
      case atStart => exact ⟨0, Nat.zero_le _, rfl, fun _ _ h => by omega, Below.refl _ _⟩
      case round =>
        obtain ⟨k, hk, rfl, hno, hbk⟩ := hrel
        rw [HN.out] at hk
        have X6 := HH5.out.1.below hbk
        have W6 := HH5.out.2.2.trans (hbk.mono HH5.out.2.2.size)
        have s6 := hbk.size
        by_cases hlt : k < n
        · have hkv : k < vs.length := by rw [HN.out]; exact hlt
          obtain ⟨b, off, rfl, hbw, hrow⟩ := (HC.out wr W6) (by omega)
          obtain ⟨v, hv⟩ : ∃ v, vs[k]? = some v := ⟨_, List.getElem?_eq_getElem hkv⟩
          obtain ⟨c0, c1, c2, c3, c4, c5⟩ := hrow k v hv
          have hvin := HI.out v (List.mem_of_getElem? hv)
          have HV : Hid (∀ wx : World, Calls Tryz.prog 14 #[.agg #[.int .i64 (v).k, .int .i64 (v).n, .int .i64 (v).d, .string (v).t, .bool (v).b, .int .i64 (v).f]] wx fun e w' => e = .returned (.bool (rightV v)) ∧ Below wx.heap.size wx w') := fun wx => value_Right v.k v.n v.d v.t v.b v.f wx hvin
          have HXV : Hid ((tkV v).k = 4 → X = tkV v) := fun h4 => HP4.out k v hv h4 hno
          have HNO : Hid (¬ (tkV v).k = 4 → ∀ j y, j < k + 1 → vs[j]? = some y → ¬ (tkV y).k = 4) := by
            intro h4 j y hj hy
            by_cases hjk : j < k
            · exact hno j y hjk hy
            · obtain rfl : j = k := by omega
              rw [hv] at hy
              obtain rfl := Option.some.inj hy
              exact h4
          have HH6 := Lib.hid (And.intro X6 (And.intro W6 hbk))
          clear X6 W6 hbk hrow hv hno hvin
          cases hrv : rightV v
          · have htk : tkV v = faultF 2 := by unfold tkV; rw [hrv]; rfl
            have hXF : X = faultF 2 := by rw [HXV.out (by rw [htk]; rfl), htk]
            have HQ : Hid (veq ⟨X.k, X.n, X.d, X.t, X.b, X.f⟩ ⟨(faultF 2).k, (faultF 2).n, (faultF 2).d, (faultF 2).t, (faultF 2).b, (faultF 2).f⟩ = true) := by
              unfold Hid; rw [hXF]; exact veq_self _
            rw [hrv] at HV
            clear hXF htk HXV HNO hrv HP4
            generalize faultF 2 = F at *
            go_wp2_with fail
            refine (HV.out _).mono ?_
            rintro e w7 ⟨rfl, hb7⟩
            have X7 := HH6.out.1.below hb7
            have W7 := Lib.hid (HH6.out.2.1.trans (hb7.mono HH6.out.2.1.size))
            obtain ⟨y0, y1, y2, y3, y4, y5⟩ := X7.v6
            have yl := X7.lt
            clear hb7 X7 c0 c1 c2 c3 c4 c5
            go_wp2_with fail
            refine region_below 3 (by kernel_rfl) (by kernel_rfl) ?_
            simp only [List.take_succ_cons, List.take_zero, List.drop_succ_cons, List.drop_zero]
            repeat
              first | (refine q_run ?_ ?_; focus (go_simp; done)) | (refine q_skip ?_ ?_; focus (go_simp; done))
              try (apply Exists.intro; refine ⟨fun w' hw' => ?_, ?_⟩; focus (have hc := (bcell hw'.out).1; unfold Oper.quietAt; go_simp; (try go_ints); (first | rfl | (go_at_call 15; refine (HF.out _).mono ?_; rintro e w2 ⟨rfl, hb⟩; exact ⟨rfl, hw'.chain hb⟩))))
              intro K hK
              go_simp
              refine hK _ ?_
              clear hK K
            refine wpQuiet_nil ?_
            intro w1 hb'
            have hb := hb'.out
            clear hb'
            go_wp2
            go_ret
            refine ⟨congrArg (fun b => Ending.returned (Value.bool b)) HQ.out, ?_⟩
            have hb6 := W7.out
            repeat (first | with_reducible exact Below.refl _ _ | with_reducible refine below_drewN ?_ _ | with_reducible refine Below.drew ?_ | with_reducible refine Below.setCell ?_ (by (first | omega | (simp only [sz_alloc, sz_setCell, sz_drew, sz_drewN]; omega) | (simp; done) | (simp; omega))) _ | with_reducible refine Below.alloc ?_ (by (first | omega | (simp only [sz_alloc, sz_setCell, sz_drew, sz_drewN]; omega) | (simp; done) | (simp; omega))) _ | with_reducible refine below_then ?_ ?_ (by with_reducible assumption) | (first | omega | (simp only [sz_alloc, sz_setCell, sz_drew, sz_drewN]; omega) | (simp; done) | (simp; omega)))
          · have htk : tkV v = v := tkV_of hrv
            rw [htk] at HXV HNO
            rw [hrv] at HV
            clear htk hrv HP4
            by_cases h4 : v.k = 4
            · have hXF := HXV.out h4
              have HQ : Hid (veq ⟨X.k, X.n, X.d, X.t, X.b, X.f⟩ ⟨v.k, v.n, v.d, v.t, v.b, v.f⟩ = true) := by
                unfold Hid; rw [hXF]; exact veq_self _
              have k4 : (v.k == 4) = true := by simp [h4]
              clear hXF HXV HNO h4
              go_wp2_with fail
              refine (HV.out _).mono ?_
              rintro e w7 ⟨rfl, hb7⟩
              have X7 := HH6.out.1.below hb7
              have W7 := Lib.hid (HH6.out.2.1.trans (hb7.mono HH6.out.2.1.size))
              obtain ⟨y0, y1, y2, y3, y4, y5⟩ := X7.v6
              have yl := X7.lt
              have L := lcc hb7 b hbw
              have d0 := (L _).trans c0
              have d1 := (L _).trans c1
              have d2 := (L _).trans c2
              have d3 := (L _).trans c3
              have d4 := (L _).trans c4
              have d5 := (L _).trans c5
              clear hb7 X7 c0 c1 c2 c3 c4 c5 L
              go_wp2
              go_quiet (fail)
              go_wp2
              go_ret
              refine ⟨congrArg (fun b => Ending.returned (Value.bool b)) HQ.out, ?_⟩
              have hb6 := W7.out
              repeat (first | with_reducible exact Below.refl _ _ | with_reducible refine below_drewN ?_ _ | with_reducible refine Below.drew ?_ | with_reducible refine Below.setCell ?_ (by (first | omega | (simp only [sz_alloc, sz_setCell, sz_drew, sz_drewN]; omega) | (simp; done) | (simp; omega))) _ | with_reducible refine Below.alloc ?_ (by (first | omega | (simp only [sz_alloc, sz_setCell, sz_drew, sz_drewN]; omega) | (simp; done) | (simp; omega))) _ | with_reducible refine below_then ?_ ?_ (by with_reducible assumption) | (first | omega | (simp only [sz_alloc, sz_setCell, sz_drew, sz_drewN]; omega) | (simp; done) | (simp; omega)))
            · have k4 : (v.k == 4) = false := by simp [h4]
              have HN2 := Lib.hid (HNO.out h4)
              clear HXV HNO h4
              go_wp2_with fail
              refine (HV.out _).mono ?_
              rintro e w7 ⟨rfl, hb7⟩
              have W7 := Lib.hid (HH6.out.2.2.trans (hb7.mono HH6.out.2.2.size))
              have L := lcc hb7 b hbw
              have d0 := (L _).trans c0
              have d1 := (L _).trans c1
              have d2 := (L _).trans c2
              have d3 := (L _).trans c3
              have d4 := (L _).trans c4
              have d5 := (L _).trans c5
              clear hb7 c0 c1 c2 c3 c4 c5 L
              go_wp2
              go_roundw
              case rel => exact ⟨k + 1, by omega, by go_num, HN2.out, W7.out⟩
              case measure => simp [intOf]; omega
        · have HB6 := Lib.hid W6
          clear hno hbk X6 W6
          go_wp2
          go_ret
          refine ⟨rfl, ?_⟩
          have hb6 := HB6.out
          repeat (first | with_reducible exact Below.refl _ _ | with_reducible refine below_drewN ?_ _ | with_reducible refine Below.drew ?_ | with_reducible refine Below.setCell ?_ (by (first | omega | (simp only [sz_alloc, sz_setCell, sz_drew, sz_drewN]; omega) | (simp; done) | (simp; omega))) _ | with_reducible refine Below.alloc ?_ (by (first | omega | (simp only [sz_alloc, sz_setCell, sz_drew, sz_drewN]; omega) | (simp; done) | (simp; omega))) _ | with_reducible refine below_then ?_ ?_ (by with_reducible assumption) | (first | omega | (simp only [sz_alloc, sz_setCell, sz_drew, sz_drewN]; omega) | (simp; done) | (simp; omega)))
  · -- refused
    have hXF : Hid (X = faultF 2) := P1.out hr
    have HQ : Hid (veq ⟨X.k, X.n, X.d, X.t, X.b, X.f⟩ ⟨(faultF 2).k, (faultF 2).n, (faultF 2).d, (faultF 2).t, (faultF 2).b, (faultF 2).f⟩ = true) := by
      unfold Hid; rw [hXF.out]; exact veq_self _
    generalize faultF 2 = F at *
    have hcs : ok = false ∨ (ok = true ∧ (S.cl == 4) = false) ∨ (ok = true ∧ (S.cl == 4) = true ∧ (n : Int) < S.least) ∨ (ok = true ∧ (S.cl == 4) = true ∧ ¬ (n : Int) < S.least ∧ S.most < (n : Int)) := by
      have h := HRF.out
      rw [hr] at h
      cases ok
      · exact .inl rfl
      · cases h2 : (S.cl == 4)
        · exact .inr (.inl ⟨rfl, rfl⟩)
        · rw [h2] at h
          simp at h
          by_cases h3 : (n : Int) < S.least
          · exact .inr (.inr (.inl ⟨rfl, rfl, h3⟩))
          · exact .inr (.inr (.inr ⟨rfl, rfl, h3, by omega⟩))
    clear hr P1 P2 P3 hXF HRF
    rcases hcs with h1 | ⟨h1, h2⟩ | ⟨h1, h2, h3⟩ | ⟨h1, h2, h3, h4⟩
    all_goals
      subst h1
      try have h2' : (S.cl != 4) = !(S.cl == 4) := rfl
      try rw [h2] at h2'
      go_wp2_with fail
      refine region_below 3 (by kernel_rfl) (by kernel_rfl) ?_
      simp only [List.take_succ_cons, List.take_zero, List.drop_succ_cons, List.drop_zero]
      repeat
        first | (refine q_run ?_ ?_; focus (go_simp; done)) | (refine q_skip ?_ ?_; focus (go_simp; done))
        try (apply Exists.intro; refine ⟨fun w' hw' => ?_, ?_⟩; focus (have hc := (bcell hw'.out).1; unfold Oper.quietAt; go_simp; (try go_ints); (first | rfl | (go_at_call 15; refine (HF.out _).mono ?_; rintro e w2 ⟨rfl, hb⟩; exact ⟨rfl, hw'.chain hb⟩))))
        intro K hK
        go_simp
        refine hK _ ?_
        clear hK K
      refine wpQuiet_nil ?_
      intro w1 hb'
      have hb := hb'.out
      clear hb'
      go_wp2
      go_ret
      refine ⟨congrArg (fun b => Ending.returned (Value.bool b)) HQ.out, ?_⟩
      have hb6 := HH5.out.2.2
      repeat (first | with_reducible exact Below.refl _ _ | with_reducible refine below_drewN ?_ _ | with_reducible refine Below.drew ?_ | with_reducible refine Below.setCell ?_ (by (first | omega | (simp only [sz_alloc, sz_setCell, sz_drew, sz_drewN]; omega) | (simp; done) | (simp; omega))) _ | with_reducible refine Below.alloc ?_ (by (first | omega | (simp only [sz_alloc, sz_setCell, sz_drew, sz_drewN]; omega) | (simp; done) | (simp; omega))) _ | with_reducible refine below_then ?_ ?_ (by with_reducible assumption) | (first | omega | (simp only [sz_alloc, sz_setCell, sz_drew, sz_drewN]; omega) | (simp; done) | (simp; omega)))
end Go.Proofs.YtodopbdngikpcaaGreatDoor
