/- The reference's Apply at every number, with any arguments: what it answers. -/
import Derived.Test.YtglngfaagjgpjaaGreatDoorBx15
namespace Go.Proofs.YtglngfaagjgpjaaGreatDoor
open Go Go.RowKit
set_option linter.unusedSimpArgs false
set_option linter.unusedVariables false
/-- What is known while the values are taken. -/
structure RaI (w w0 : World) (vs : List Vl) (i : Value) (k : Nat) (sv : Value) (wr : World) : Prop where
  le : k ≤ vs.length
  i : i = .int .i64 k
  res : Blk wr w.heap.size (vArr blankV) 26
  own : wr.ownsRow w0.heap.size 26 6 sv k (((vs.take k).map tkV).flatMap Vl.cells)
  below : Below w.heap.size w wr
  sz : w0.heap.size ≤ wr.heap.size
theorem taken_none {ts : List Vl} (h : firstFault ts = none) : ∀ v ∈ ts, ¬ v.k = 4 := by
  induction ts with
  | nil => intro v hv; cases hv
  | cons a r ih =>
    unfold firstFault at h
    split at h
    · cases h
    · rename_i h4
      intro v hv
      rcases List.mem_cons.1 hv with rfl | hv
      · exact h4
      · exact ih h v hv
theorem reck_done (id : Int) (S : SigS) (ts : List Vl) (hid : id = 40 ∨ id = 41 ∨ id = 42 ∨ id = 43 ∨ id = 44 ∨ id = 45 ∨ id = 57) (hl : S.least = (lmOf id).1) (hm : S.most = (lmOf id).2) (h1 : S.least ≤ ts.length) (h2 : (ts.length : Int) ≤ S.most) :
    doneP id (takenP id (filled id S.most ts)) = reckR id ts ∧ (((id = 40 ∨ id = 41 ∨ id = 42 ∨ id = 57) ∧ ts.length = 1) ∨ (id = 43 ∧ (ts.length = 1 ∨ ts.length = 2)) ∨ ((id = 44 ∨ id = 45) ∧ ts.length = 2)) := by
  rcases hid with rfl | rfl | rfl | rfl | rfl | rfl | rfl
  all_goals
    rw [hl] at h1
    rw [hm] at h2 ⊢
    simp only [lmOf] at h1 h2 ⊢
    simp at h1 h2
  · obtain ⟨a, rfl⟩ := len1 (show ts.length = 1 by omega); exact ⟨law_num1 (by simp) a, by simp⟩
  · obtain ⟨a, rfl⟩ := len1 (show ts.length = 1 by omega); exact ⟨law_num1 (by simp) a, by simp⟩
  · obtain ⟨a, rfl⟩ := len1 (show ts.length = 1 by omega); exact ⟨law_num1 (by simp) a, by simp⟩
  · rcases (show ts.length = 1 ∨ ts.length = 2 by omega) with h | h
    · obtain ⟨a, rfl⟩ := len1 h; exact ⟨law_num43 a, by simp⟩
    · obtain ⟨a, b, rfl⟩ := len2 h; exact ⟨law_num2 (by simp) a b, by simp⟩
  · obtain ⟨a, b, rfl⟩ := len2 (show ts.length = 2 by omega); exact ⟨law_num2 (by simp) a b, by simp⟩
  · obtain ⟨a, b, rfl⟩ := len2 (show ts.length = 2 by omega); exact ⟨law_num2 (by simp) a b, by simp⟩
  · obtain ⟨a, rfl⟩ := len1 (show ts.length = 1 by omega); exact ⟨law_num1 (by simp) a, by simp⟩
theorem writ_done (id : Int) (S : SigS) (ts : List Vl) (hid : id = 48 ∨ id = 49 ∨ id = 50 ∨ id = 51 ∨ id = 52 ∨ id = 53 ∨ id = 54 ∨ id = 55 ∨ id = 56) (hl : S.least = (lmOf id).1) (hm : S.most = (lmOf id).2) (h1 : S.least ≤ ts.length) (h2 : (ts.length : Int) ≤ S.most) (hr : ∀ v ∈ ts, ¬ (tkV v).k = 4) :
    doneP id (takenP id (filled id S.most ts)) = writR id ts ∧ (((id = 48 ∨ id = 54 ∨ id = 55 ∨ id = 56) ∧ ts.length = 1) ∨ ((id = 49 ∨ id = 50) ∧ (ts.length = 1 ∨ ts.length = 2)) ∨ ((id = 52 ∨ id = 53) ∧ ts.length = 2) ∨ (id = 51 ∧ ts.length = 3)) := by
  rcases hid with rfl | rfl | rfl | rfl | rfl | rfl | rfl | rfl | rfl
  all_goals
    rw [hl] at h1
    rw [hm] at h2 ⊢
    simp only [lmOf] at h1 h2 ⊢
    simp at h1 h2
  · obtain ⟨a, rfl⟩ := len1 (show ts.length = 1 by omega); exact ⟨law_text1 (by simp) a (hr a (by simp)), by simp⟩
  · rcases (show ts.length = 1 ∨ ts.length = 2 by omega) with h | h
    · obtain ⟨a, rfl⟩ := len1 h; exact ⟨law_cut1 (by simp) a (hr a (by simp)), by simp⟩
    · obtain ⟨a, b, rfl⟩ := len2 h; exact ⟨law_cut2 (by simp) a b (hr a (by simp)), by simp⟩
  · rcases (show ts.length = 1 ∨ ts.length = 2 by omega) with h | h
    · obtain ⟨a, rfl⟩ := len1 h; exact ⟨law_cut1 (by simp) a (hr a (by simp)), by simp⟩
    · obtain ⟨a, b, rfl⟩ := len2 h; exact ⟨law_cut2 (by simp) a b (hr a (by simp)), by simp⟩
  · obtain ⟨a, b, c, rfl⟩ := len3 (show ts.length = 3 by omega); exact ⟨law_cut3 a b c (hr a (by simp)), by simp⟩
  · obtain ⟨a, b, rfl⟩ := len2 (show ts.length = 2 by omega); exact ⟨law_cut2 (by simp) a b (hr a (by simp)), by simp⟩
  · obtain ⟨a, b, rfl⟩ := len2 (show ts.length = 2 by omega); exact ⟨law_find a b (hr a (by simp)) (hr b (by simp)), by simp⟩
  · obtain ⟨a, rfl⟩ := len1 (show ts.length = 1 by omega); exact ⟨law_text1 (by simp) a (hr a (by simp)), by simp⟩
  · obtain ⟨a, rfl⟩ := len1 (show ts.length = 1 by omega); exact ⟨law_text1 (by simp) a (hr a (by simp)), by simp⟩
  · obtain ⟨a, rfl⟩ := len1 (show ts.length = 1 by omega); exact ⟨law_text1 (by simp) a (hr a (by simp)), by simp⟩
set_option maxRecDepth 100000 in
set_option maxHeartbeats 8000000 in
theorem ra_main (id : Int) (S : SigS) (vs : List Vl) (la : Option Addr) (n lc : Nat) (w : World) (hS : byIdL id = some S) (hcl : S.cl = 4) (hl : S.least ≤ n) (hm : (n : Int) ≤ S.most) (h62 : ¬ id = 62) (h40 : 40 ≤ id) (hle62 : id ≤ 62)
    (hlm : S.least = (lmOf id).1 ∧ S.most = (lmOf id).2) (hn : vs.length = n) (h1 : 1 ≤ n) (h3 : n ≤ 3) (hin : ∀ v ∈ vs, v.In) (hc : ValAt w la vs) :
    Calls Tryz.prog 10 #[.int .i64 id, .slice la n lc] w fun e w' => e = .returned (.agg #[.int .i64 (scalarP id S.most (vs.map tkV)).k, .int .i64 (scalarP id S.most (vs.map tkV)).n, .int .i64 (scalarP id S.most (vs.map tkV)).d, .string (scalarP id S.most (vs.map tkV)).t, .bool (scalarP id S.most (vs.map tkV)).b, .int .i64 (scalarP id S.most (vs.map tkV)).f]) ∧ Below w.heap.size w w' := by
  have HB := Lib.hid fun wx => rById_some hS wx
  have HI := Lib.hid hin
  have HC := Lib.hid hc
  have HN := Lib.hid hn
  have k2 : (S.cl != 4) = false := by simp [hcl]
  have g1 : ¬ (n : Int) < S.least := by omega
  have g2 : ¬ S.most < (n : Int) := by omega
  have HLM := Lib.hid (And.intro hlm (And.intro hl hm))
  obtain ⟨i0, hi, hz, hsz, hby⟩ := zero_val
  generalize hQ : scalarP id S.most (vs.map tkV) = Q
  have HQ := Lib.hid hQ
  clear hQ hS hin hc hn hcl hlm hl hm
  go_enter Tryz.func10, Tryz.ntmps10
  go_wp2_with fail
  refine (HB.out _).mono ?_
  rintro e wA ⟨rfl, hb⟩
  obtain ⟨s1, c1_0, c1_1, c1_2, c1_3, c1_4, c1_5, f1⟩ := L6 hb (w.heap.size) (by first | omega | (simp only [sA, sC, sD, sE]; omega) | (simp; done) | (simp; omega)) (by go_simp; exact ⟨rfl, rfl, rfl, rfl, rfl, rfl⟩) (by intro o; go_simp)
  go_upto_region 2 with (fail)
  first | with_reducible refine wp_rebase ?_ | with_reducible refine wpList_rebase ?_
  intro w1 hb'
  have hb := hb'.out
  clear hb'
  obtain ⟨s2, c2_0, c2_1, c2_2, c2_3, c2_4, c2_5, f2⟩ := L6 hb (w.heap.size) (by first | omega | (simp only [sA, sC, sD, sE]; omega) | (simp; done) | (simp; omega)) (by go_simp; exact ⟨rfl, rfl, rfl, rfl, rfl, rfl⟩) (by intro o; go_simp)
  obtain ⟨s3, c3_0, c3_1, c3_2, c3_3, c3_4, c3_5⟩ := L6r hb (wA.heap.size) (by first | omega | (simp only [sA, sC, sD, sE]; omega) | (simp; done) | (simp; omega)) (by go_simp; exact ⟨rfl, rfl, rfl, rfl, rfl, rfl⟩)
  clear c1_0 c1_1 c1_2 c1_3 c1_4 c1_5 f1
  have hB1 : Below w.heap.size w w1 := by
    focus
      repeat with_reducible first | exact Below.refl _ _ | refine below_drewN ?_ _ | refine Below.drew ?_ | refine Below.setCell ?_ ?_ _ | refine Below.alloc ?_ ?_ _ | refine below_then ?_ ?_ (by with_reducible assumption)
      all_goals first | omega | (simp only [sA, sC, sD, sE]; omega) | (simp; done) | (simp; omega)
  have hres : Blk w1 w.heap.size (vArr blankV) 26 := by
    refine Blk.below ?_ hb
    refine Blk.alloc ?_ _
    exact Blk.below (show Blk (w.alloc (.cells (vArr blankV) 26)) w.heap.size _ _ from heap_alloc_new _ _) (by assumption)
  have HW := Lib.hid (And.intro hres hB1)
  have sA := hB1.size
  clear hb hres hB1
  go_wp2
  go_loopw [7, 8] (fun sv i wr => ∃ k, RaI w w1 vs i k sv wr) (fun _ i _ => n - (intOf i).toNat)
  case atStart => exact ⟨0, Nat.zero_le _, rfl, HW.out.1, World.ownsRow_nil _ _ _ _, HW.out.2, Nat.le_refl _⟩
  case round =>
    obtain ⟨k, hk, rfl, hres, hown, hbk, hsz'⟩ := hrel
    rw [HN.out] at hk
    obtain ⟨aV, lV, cV, rfl⟩ := own_slice hown
    by_cases hlt : k < n
    · obtain ⟨g, off, rfl, hgw, hrow⟩ := HC.out (by rw [HN.out]; omega)
      have hkv : k < vs.length := by rw [HN.out]; exact hlt
      obtain ⟨v, hv⟩ : ∃ v, vs[k]? = some v := ⟨_, List.getElem?_eq_getElem hkv⟩
      obtain ⟨c0, c1, c2, c3, c4, c5⟩ := (hrow.below hgw hbk) k v hv
      have hvin := HI.out v (List.mem_of_getElem? hv)
      have HT : Hid (∀ wx : World, Calls Tryz.prog 41 #[.agg #[.int .i64 (v).k, .int .i64 (v).n, .int .i64 (v).d, .string (v).t, .bool (v).b, .int .i64 (v).f]] wx fun e w' => e = .returned (.agg #[.int .i64 (tkV v).k, .int .i64 (tkV v).n, .int .i64 (tkV v).d, .string (tkV v).t, .bool (tkV v).b, .int .i64 (tkV v).f]) ∧ Below wx.heap.size wx w') := fun wx => r2_Of v.k v.n v.d v.t v.b v.f wx hvin
      have hstep : ((vs.take (k + 1)).map tkV).flatMap Vl.cells = ((vs.take k).map tkV).flatMap Vl.cells ++ (tkV v).cells := by
        rw [List.take_add_one, hv, List.map_append, List.flatMap_append]
        simp
      generalize tkV v = y at *
      have HS := Lib.hid hstep
      have sw := hbk.size
      have gw : g < wr.heap.size := by omega
      have HH := Lib.hid (And.intro hres (And.intro hown hbk))
      clear hres hown hbk hstep hrow hv
      go_wp2_with fail
      refine (HT.out _).mono ?_
      rintro e w2 ⟨rfl, hb2⟩
      obtain ⟨hres, hown, hbk⟩ := HH.out
      have R2 := hres.below hb2
      have O2 := own_below hown hb2
      have s2 := hb2.size
      have B2 : Below w.heap.size w w2 := hbk.trans (hb2.mono (by omega))
      have HH2 := Lib.hid (And.intro R2 (And.intro O2 B2))
      clear hres hown hbk hb2 R2 HH c0 c1 c2 c3 c4 c5
      go_wp2_with (first
        | (at_builtin
           refine wpList_append_lies _ rfl _ _ 22 rfl w1.heap.size 26 i0 _ 6 56 Tryz.underlying22 hi hz hsz hby rfl (by decide) _ k _ rfl (O2.alloc _) ⟨w2.heap.size, 0, none⟩ 1 1 y.cells rfl rfl (World.news_of_block (heap_alloc_new _ _)) (Vl.one _) (by decide) (by unfold maxLen; omega) (by omega) (by simp only [sz_alloc]; omega) _ rfl ?_
           intro gx capx w4 hown4 hgrow4 hat4 hlt4
           have R4 := (HH2.out.1.alloc (.cells y.cells.toArray 26)).grown hgrow4 (own_ne O2 (by omega))
           have B4 := below_grownBy (HH2.out.2.2.alloc (by omega) (.cells y.cells.toArray 26)) hgrow4 (own_mono (O2.alloc _) (by omega)) (by simp only [sz_alloc]; omega)
           have s4 := hgrow4.size
           simp only [sz_alloc] at s4
           have HH4 := Lib.hid (And.intro R4 (And.intro hown4 B4))
           clear R4 hown4 B4 hgrow4 hat4)
        | fail)
      go_roundw
      case rel =>
        obtain ⟨R4, hown4, B4⟩ := HH4.out
        refine ⟨k + 1, by rw [HN.out]; omega, by go_num, R4, ?_, B4, by omega⟩
        rw [HS.out]
        exact hown4
      case measure => simp [intOf]; omega
    · obtain rfl : k = n := by omega
      rw [List.take_of_length_le (by rw [HN.out]; exact Nat.le_refl _)] at hown
      obtain ⟨gv, capv, ev, hgb, hgv, hcv⟩ := own_form hown (by omega)
      simp only [Value.slice.injEq] at ev
      obtain ⟨rfl, el, rfl⟩ := ev
      obtain rfl := el.symm
      have HT0 : (vs.map tkV).length = k := by rw [List.length_map]; exact HN.out
      have hright : ∀ v ∈ vs.map tkV, rightV v = true := by
        intro v hv
        obtain ⟨x, _, rfl⟩ := List.mem_map.1 hv
        exact tkV_right x
      generalize vs.map tkV = ts at *
      have HRt := Lib.hid hright
      clear hright
      obtain ⟨v0, hv0⟩ : ∃ v0, ts[0]? = some v0 := ⟨_, List.getElem?_eq_getElem (by omega)⟩
      obtain ⟨c0, c1, c2, c3, c4, c5⟩ := (valRow_own hown HT0) 0 v0 hv0
      simp only [Nat.zero_mul, Nat.add_zero, Nat.zero_add] at c0 c1 c2 c3 c4 c5
      have sw := hbk.size
      have HH := Lib.hid (And.intro hres (And.intro hown hbk))
      obtain ⟨r0, r1, r2, r3, r4, r5⟩ := hres.v6
      have rf := hres.free
      have rl := hres.lt
      clear hres hown hbk HI HC HB
      cases hask : askK id with
      | some K =>
        have HT := Lib.hid fun wx => r2_Truth (v0.k == K) wx
        have HV : Hid (Q = truthV (v0.k == K)) := by
          unfold Hid
          rw [← HQ.out]
          unfold scalarP
          rw [hask, List.getD_eq_getElem?_getD, hv0]
          rfl
        have hid : (id = 58 ∧ K = 1) ∨ (id = 59 ∧ K = 2) ∨ (id = 60 ∧ K = 0) ∨ (id = 61 ∧ K = 4) := by
          unfold askK at hask
          split at hask
          · rename_i h; exact .inl ⟨h, (Option.some.inj hask).symm⟩
          · split at hask
            · rename_i h; exact .inr (.inl ⟨h, (Option.some.inj hask).symm⟩)
            · split at hask
              · rename_i h; exact .inr (.inr (.inl ⟨h, (Option.some.inj hask).symm⟩))
              · split at hask
                · rename_i h; exact .inr (.inr (.inr ⟨h, (Option.some.inj hask).symm⟩))
                · cases hask
        clear HQ hask hv0 HLM
        rcases hid with ⟨rfl, rfl⟩ | ⟨rfl, rfl⟩ | ⟨rfl, rfl⟩ | ⟨rfl, rfl⟩
        all_goals
          go_wp2_with fail
          refine (HT.out _).mono ?_
          rintro e w3 ⟨rfl, hb⟩
          obtain ⟨s4, c4_0, c4_1, c4_2, c4_3, c4_4, c4_5, f4⟩ := L6 hb (w.heap.size) (by first | omega | (simp only [sA, sC, sD, sE]; omega) | (simp; done) | (simp; omega)) (by go_simp; exact ⟨rfl, rfl, rfl, rfl, rfl, rfl⟩) (by intro o; go_simp)
          go_wp2
          have hbk := HH.out.2.2
          refine bodyPost_ret (v := .agg #[.int .i64 (Q).k, .int .i64 (Q).n, .int .i64 (Q).d, .string (Q).t, .bool (Q).b, .int .i64 (Q).f]) (by rw [HV.out]; simp [results, Tryz.results10, go_sem, c4_0, c4_1, c4_2, c4_3, c4_4, c4_5]) rfl ⟨rfl, ?_⟩
          focus
            repeat with_reducible first | exact Below.refl _ _ | refine below_drewN ?_ _ | refine Below.drew ?_ | refine Below.setCell ?_ ?_ _ | refine Below.alloc ?_ ?_ _ | refine below_then ?_ ?_ (by with_reducible assumption)
            all_goals first | omega | (simp only [sA, sC, sD, sE]; omega) | (simp; done) | (simp; omega)
      | none =>
        have h58 := askK_lt hask h62 hle62
        have HV : Hid (Q = match firstFault ts with | some v => v | none => if id = 46 then powVV (ts.getD 0 blankV) (ts.getD 1 blankV) else doneP id (takenP id (filled id S.most ts))) := by
          unfold Hid
          rw [← HQ.out]
          unfold scalarP
          rw [hask]
          rfl
        have e58 : (id == 58) = false := by rw [beq_eq_false_iff_ne]; omega
        have e59 : (id == 59) = false := by rw [beq_eq_false_iff_ne]; omega
        have e60 : (id == 60) = false := by rw [beq_eq_false_iff_ne]; omega
        have e61 : (id == 61) = false := by rw [beq_eq_false_iff_ne]; omega
        have e62 : (id == 62) = false := by rw [beq_eq_false_iff_ne]; omega
        clear HQ hask c0 c1 c2 c3 c4 c5 hv0
        go_wp2
        clear e58 e59 e60 e61 e62
        go_loop [9] (fun i => ∃ j : Nat, j ≤ k ∧ i = .int .i64 j ∧ Hid (firstFault ts = firstFault (ts.drop j))) (fun i => k - (intOf i).toNat)
        case atStart => exact ⟨0, Nat.zero_le _, rfl, rfl⟩
        case round =>
          obtain ⟨j, hj, rfl, hno⟩ := hrel
          by_cases hlt : j < k
          · obtain ⟨v, hv⟩ : ∃ v, ts[j]? = some v := ⟨_, List.getElem?_eq_getElem (by omega)⟩
            obtain ⟨c0, c1, c2, c3, c4, c5⟩ := (valRow_own HH.out.2.1 HT0) j v hv
            simp only [Nat.zero_add] at c0 c1 c2 c3 c4 c5
            have hd : firstFault (ts.drop j) = if v.k = 4 then some v else firstFault (ts.drop (j + 1)) := by
              rw [List.drop_eq_getElem_cons (by omega), show ts[j]'(by omega) = v from Option.some.inj ((List.getElem?_eq_getElem (by omega)).symm.trans hv)]
              rfl
            have hno2 := hno.out
            rw [hd] at hno2
            clear hno
            by_cases h4 : v.k = 4
            · rw [if_pos h4] at hno2
              have HV2 : Hid (Q = v) := by unfold Hid; rw [HV.out, hno2]
              have k4 : (v.k == 4) = true := by simp [h4]
              clear HV hno2 hd h4 hv HLM
              go_upto_region 24 with (fail)
              go_wp2
              have hb7 := HH.out.2.2
              refine bodyPost_ret (v := .agg #[.int .i64 (Q).k, .int .i64 (Q).n, .int .i64 (Q).d, .string (Q).t, .bool (Q).b, .int .i64 (Q).f]) (by rw [HV2.out]; simp [results, Tryz.results10, go_sem, r0, r1, r2, r3, r4, r5]) rfl ⟨rfl, ?_⟩
              focus
                repeat with_reducible first | exact Below.refl _ _ | refine below_drewN ?_ _ | refine Below.drew ?_ | refine Below.setCell ?_ ?_ _ | refine Below.alloc ?_ ?_ _ | refine below_then ?_ ?_ (by with_reducible assumption)
                all_goals first | omega | (simp only [sA, sC, sD, sE]; omega) | (simp; done) | (simp; omega)
            · rw [if_neg h4] at hno2
              have k4 : (v.k == 4) = false := by simp [h4]
              have HN2 := Lib.hid hno2
              clear HV hno2 hd h4 hv
              go_wp2
              go_round
              case rel => exact ⟨j + 1, by omega, by go_num, HN2⟩
              case measure => simp [intOf]; omega
          · obtain rfl : j = k := by omega
            have hnone : firstFault ts = none := by rw [hno.out, List.drop_of_length_le (by omega)]; rfl
            have HV2 : Hid (Q = if id = 46 then powVV (ts.getD 0 blankV) (ts.getD 1 blankV) else doneP id (takenP id (filled id S.most ts))) := by
              unfold Hid; rw [HV.out, hnone]
            have hnf := taken_none hnone
            have hnft : ∀ v ∈ ts, ¬ (tkV v).k = 4 := fun v hv => by rw [tkV_of (HRt.out v hv)]; exact hnf v hv
            have HAt : Hid (ValAt wr (some ⟨gv, 0, none⟩) ts) := fun _ => ⟨gv, 0, rfl, hgv, valRow_own HH.out.2.1 HT0⟩
            have hTin : ∀ v ∈ ts, v.In := fun v hv => right_in (HRt.out v hv)
            have HNF := Lib.hid (And.intro hnf (And.intro hnft hTin))
            clear hno HV hnone hnf hnft hTin
            by_cases h46 : id = 46
            · subst h46
              obtain rfl : j = 2 := by
                have h1 := HLM.out.2.1
                have h2 := HLM.out.2.2
                rw [HLM.out.1.1] at h1
                rw [HLM.out.1.2] at h2
                simp [lmOf] at h1 h2
                omega
              obtain ⟨x, hx⟩ : ∃ x, ts[0]? = some x := ⟨_, List.getElem?_eq_getElem (by omega)⟩
              obtain ⟨y, hy⟩ : ∃ y, ts[1]? = some y := ⟨_, List.getElem?_eq_getElem (by omega)⟩
              obtain ⟨c0, c1, c2, c3, c4, c5⟩ := (valRow_own HH.out.2.1 HT0) 0 x hx
              obtain ⟨d0, d1, d2, d3, d4, d5⟩ := (valRow_own HH.out.2.1 HT0) 1 y hy
              simp only [Nat.zero_mul, Nat.one_mul, Nat.add_zero, Nat.zero_add, Nat.reduceAdd] at c0 c1 c2 c3 c4 c5 d0 d1 d2 d3 d4 d5
              have HP := Lib.hid fun wx => r2_Pow2 x y wx (HNF.out.2.2 x (List.mem_of_getElem? hx)) (HNF.out.2.2 y (List.mem_of_getElem? hy)) (HNF.out.2.1 x (List.mem_of_getElem? hx)) (HNF.out.2.1 y (List.mem_of_getElem? hy))
              have HV3 : Hid (Q = powVV x y) := by
                unfold Hid
                rw [HV2.out, if_pos rfl, List.getD_eq_getElem?_getD, List.getD_eq_getElem?_getD, hx, hy]
                rfl
              generalize powVV x y = R at *
              clear HV2 hx hy HLM HNF HAt HRt
              go_wp2_with fail
              refine region_below 7 (by kernel_rfl) (by kernel_rfl) ?_
              simp only [List.take_succ_cons, List.take_zero, List.drop_succ_cons, List.drop_zero]
              repeat
                first | (refine q_run ?_ ?_; focus (go_simp; done)) | (refine q_skip ?_ ?_; focus (go_simp; done))
                try (apply Exists.intro; refine ⟨fun w' hw' => ?_, ?_⟩; focus (have hc := (bcell hw'.out).1; unfold Oper.quietAt; go_simp; (try go_ints); (first | rfl | (go_at_call 43; refine (HP.out _).mono ?_; rintro e w2 ⟨rfl, hb⟩; exact ⟨rfl, hw'.chain hb⟩))))
                intro K hK
                go_simp
                refine hK _ ?_
                clear hK K
              refine wpQuiet_nil ?_
              intro w1 hb'
              have hb := hb'.out
              clear hb'
              obtain ⟨s5, c5_0, c5_1, c5_2, c5_3, c5_4, c5_5, f5⟩ := L6 hb (w.heap.size) (by first | omega | (simp only [sA, sC, sD, sE]; omega) | (simp; done) | (simp; omega)) (by go_simp; exact ⟨rfl, rfl, rfl, rfl, rfl, rfl⟩) (by intro o; go_simp)
              go_wp2
              have hb6 := HH.out.2.2
              refine bodyPost_ret (v := .agg #[.int .i64 (Q).k, .int .i64 (Q).n, .int .i64 (Q).d, .string (Q).t, .bool (Q).b, .int .i64 (Q).f]) (by rw [HV3.out]; simp [results, Tryz.results10, go_sem, c5_0, c5_1, c5_2, c5_3, c5_4, c5_5]) rfl ⟨rfl, ?_⟩
              focus
                repeat with_reducible first | exact Below.refl _ _ | refine below_drewN ?_ _ | refine Below.drew ?_ | refine Below.setCell ?_ ?_ _ | refine Below.alloc ?_ ?_ _ | refine below_then ?_ ?_ (by with_reducible assumption)
                all_goals first | omega | (simp only [sA, sC, sD, sE]; omega) | (simp; done) | (simp; omega)
            by_cases h47 : id = 47
            · subst h47
              obtain rfl : j = 1 := by
                have h1 := HLM.out.2.1
                have h2 := HLM.out.2.2
                rw [HLM.out.1.1] at h1
                rw [HLM.out.1.2] at h2
                simp [lmOf] at h1 h2
                omega
              obtain ⟨x, hx⟩ := len1 HT0
              obtain ⟨c0, c1, c2, c3, c4, c5⟩ := (valRow_own HH.out.2.1 HT0) 0 x (by rw [hx]; rfl)
              simp only [Nat.zero_mul, Nat.add_zero, Nat.zero_add] at c0 c1 c2 c3 c4 c5
              have hxin := HNF.out.2.2 x (by rw [hx]; simp)
              have HA : Hid (∀ wx : World, Calls Tryz.prog 44 #[.agg #[.int .i64 (x).k, .int .i64 (x).n, .int .i64 (x).d, .string (x).t, .bool (x).b, .int .i64 (x).f]] wx fun e w' => e = .returned (.tuple #[.bool (asTru x).b, .agg #[.int .i64 ((asTru x).e).k, .int .i64 ((asTru x).e).n, .int .i64 ((asTru x).e).d, .string ((asTru x).e).t, .bool ((asTru x).e).b, .int .i64 ((asTru x).e).f]]) ∧ Below wx.heap.size wx w') := fun wx => r2_AsTruth x.k x.n x.d x.t x.b x.f wx hxin
              have hV3 : Q = if (asTru x).e.k = 4 then (asTru x).e else truthV (!(asTru x).b) := by
                rw [HV2.out, if_neg (by decide), HLM.out.1.2, hx]
                exact law_not x
              have HT := Lib.hid fun wx => r2_Truth (!(asTru x).b) wx
              generalize truthV (!(asTru x).b) = R at *
              generalize asTru x = q at *
              clear HV2 hx HLM HNF HAt HRt hxin h46
              by_cases h4 : q.e.k = 4
              · rw [if_pos h4] at hV3
                have HV3 := Lib.hid hV3
                have k4 : (q.e.k == 4) = true := by simp [h4]
                clear hV3 h4
                go_wp2_with fail
                refine (HA.out _).mono ?_
                rintro e w3 ⟨rfl, hb⟩
                obtain ⟨s6, c6_0, c6_1, c6_2, c6_3, c6_4, c6_5, f6⟩ := L6 hb (w.heap.size) (by first | omega | (simp only [sA, sC, sD, sE]; omega) | (simp; done) | (simp; omega)) (by go_simp; exact ⟨rfl, rfl, rfl, rfl, rfl, rfl⟩) (by intro o; go_simp)
                go_upto_region 30 with (fail)
                first | with_reducible refine wp_rebase ?_ | with_reducible refine wpList_rebase ?_
                intro w1 hb'
                have hb := hb'.out
                clear hb'
                obtain ⟨s7, c7_0, c7_1, c7_2, c7_3, c7_4, c7_5, f7⟩ := L6 hb (w.heap.size) (by first | omega | (simp only [sA, sC, sD, sE]; omega) | (simp; done) | (simp; omega)) (by go_simp; exact ⟨rfl, rfl, rfl, rfl, rfl, rfl⟩) (by intro o; go_simp)
                obtain ⟨s8, c8_0, c8_1, c8_2, c8_3, c8_4, c8_5, f8⟩ := L6 hb (w3.heap.size) (by first | omega | (simp only [sA, sC, sD, sE]; omega) | (simp; done) | (simp; omega)) (by go_simp; exact ⟨rfl, rfl, rfl, rfl, rfl, rfl⟩) (by intro o; go_simp)
                clear c6_0 c6_1 c6_2 c6_3 c6_4 c6_5 f6
                go_wp2
                have hb6 := HH.out.2.2
                refine bodyPost_ret (v := .agg #[.int .i64 (Q).k, .int .i64 (Q).n, .int .i64 (Q).d, .string (Q).t, .bool (Q).b, .int .i64 (Q).f]) (by rw [HV3.out]; simp [results, Tryz.results10, go_sem, c7_0, c7_1, c7_2, c7_3, c7_4, c7_5, c8_0, c8_1, c8_2, c8_3, c8_4, c8_5]) rfl ⟨rfl, ?_⟩
                focus
                  repeat with_reducible first | exact Below.refl _ _ | refine below_drewN ?_ _ | refine Below.drew ?_ | refine Below.setCell ?_ ?_ _ | refine Below.alloc ?_ ?_ _ | refine below_then ?_ ?_ (by with_reducible assumption)
                  all_goals first | omega | (simp only [sA, sC, sD, sE]; omega) | (simp; done) | (simp; omega)
              · rw [if_neg h4] at hV3
                have HV3 := Lib.hid hV3
                have k4 : (q.e.k == 4) = false := by simp [h4]
                clear hV3 h4
                go_wp2_with fail
                refine (HA.out _).mono ?_
                rintro e w3 ⟨rfl, hb⟩
                obtain ⟨s9, c9_0, c9_1, c9_2, c9_3, c9_4, c9_5, f9⟩ := L6 hb (w.heap.size) (by first | omega | (simp only [sA, sC, sD, sE]; omega) | (simp; done) | (simp; omega)) (by go_simp; exact ⟨rfl, rfl, rfl, rfl, rfl, rfl⟩) (by intro o; go_simp)
                go_upto_region 30 with (fail)
                first | with_reducible refine wp_rebase ?_ | with_reducible refine wpList_rebase ?_
                intro w1 hb'
                have hb := hb'.out
                clear hb'
                obtain ⟨s10, c10_0, c10_1, c10_2, c10_3, c10_4, c10_5, f10⟩ := L6 hb (w.heap.size) (by first | omega | (simp only [sA, sC, sD, sE]; omega) | (simp; done) | (simp; omega)) (by go_simp; exact ⟨rfl, rfl, rfl, rfl, rfl, rfl⟩) (by intro o; go_simp)
                obtain ⟨s11, c11_0, c11_1, c11_2, c11_3, c11_4, c11_5⟩ := L6r hb (w3.heap.size) (by first | omega | (simp only [sA, sC, sD, sE]; omega) | (simp; done) | (simp; omega)) (by go_simp; exact ⟨rfl, rfl, rfl, rfl, rfl, rfl⟩)
                clear c9_0 c9_1 c9_2 c9_3 c9_4 c9_5 f9
                go_wp2_with fail
                refine (HT.out _).mono ?_
                rintro e w4 ⟨rfl, hb⟩
                obtain ⟨s12, c12_0, c12_1, c12_2, c12_3, c12_4, c12_5, f12⟩ := L6 hb (w.heap.size) (by first | omega | (simp only [sA, sC, sD, sE]; omega) | (simp; done) | (simp; omega)) (by go_simp; exact ⟨rfl, rfl, rfl, rfl, rfl, rfl⟩) (by intro o; go_simp)
                clear c10_0 c10_1 c10_2 c10_3 c10_4 c10_5 f10 c11_0 c11_1 c11_2 c11_3 c11_4 c11_5
                go_wp2
                have hb6 := HH.out.2.2
                refine bodyPost_ret (v := .agg #[.int .i64 (Q).k, .int .i64 (Q).n, .int .i64 (Q).d, .string (Q).t, .bool (Q).b, .int .i64 (Q).f]) (by rw [HV3.out]; simp [results, Tryz.results10, go_sem, c12_0, c12_1, c12_2, c12_3, c12_4, c12_5]) rfl ⟨rfl, ?_⟩
                focus
                  repeat with_reducible first | exact Below.refl _ _ | refine below_drewN ?_ _ | refine Below.drew ?_ | refine Below.setCell ?_ ?_ _ | refine Below.alloc ?_ ?_ _ | refine below_then ?_ ?_ (by with_reducible assumption)
                  all_goals first | omega | (simp only [sA, sC, sD, sE]; omega) | (simp; done) | (simp; omega)
            have HV3 : Hid (Q = doneP id (takenP id (filled id S.most ts))) := by unfold Hid; rw [HV2.out, if_neg h46]
            clear HV2
            by_cases hrk : id = 40 ∨ id = 41 ∨ id = 42 ∨ id = 43 ∨ id = 44 ∨ id = 45 ∨ id = 57
            · obtain ⟨e1, e2⟩ := reck_done id S ts hrk HLM.out.1.1 HLM.out.1.2 (by rw [HT0]; exact HLM.out.2.1) (by rw [HT0]; exact HLM.out.2.2)
              rw [HT0] at e2
              have HRk := Lib.hid (r7_reckoned id ts (some ⟨gv, 0, none⟩) j cV wr HT0 e2 HNF.out.2.2 HAt.out)
              have HV4 : Hid (Q = reckR id ts) := by unfold Hid; rw [HV3.out, e1]
              rw [← HV4.out] at HRk
              clear HV3 HV4 e1 e2 HLM HNF HAt HRt
              have e46 : (id == 46) = false := by simp [h46]
              have e47 : (id == 47) = false := by simp [h47]
              clear h46 h47
              go_upto_if 131 with (fail)
              go_cut [131] from 133 to 139 (fun y wx => y = .bool true ∧ wx = wr)
              case first =>
                rcases hrk with rfl | rfl | rfl | rfl | rfl | rfl | rfl
                all_goals
                  go_wp2
                  go_meet
                  exact ⟨rfl, rfl⟩
              case rest =>
                obtain ⟨rfl, rfl⟩ := hcut
                clear hrk
                go_wp2_with fail
                refine HRk.out.mono ?_
                rintro e w3 ⟨rfl, hb⟩
                obtain ⟨s13, c13_0, c13_1, c13_2, c13_3, c13_4, c13_5, f13⟩ := L6 hb (w.heap.size) (by first | omega | (simp only [sA, sC, sD, sE]; omega) | (simp; done) | (simp; omega)) (by go_simp; exact ⟨rfl, rfl, rfl, rfl, rfl, rfl⟩) (by intro o; go_simp)
                go_wp2
                have hbk := HH.out.2.2
                refine bodyPost_ret (v := .agg #[.int .i64 (Q).k, .int .i64 (Q).n, .int .i64 (Q).d, .string (Q).t, .bool (Q).b, .int .i64 (Q).f]) (by simp [results, Tryz.results10, go_sem, c13_0, c13_1, c13_2, c13_3, c13_4, c13_5]) rfl ⟨rfl, ?_⟩
                focus
                  repeat with_reducible first | exact Below.refl _ _ | refine below_drewN ?_ _ | refine Below.drew ?_ | refine Below.setCell ?_ ?_ _ | refine Below.alloc ?_ ?_ _ | refine below_then ?_ ?_ (by with_reducible assumption)
                  all_goals first | omega | (simp only [sA, sC, sD, sE]; omega) | (simp; done) | (simp; omega)
            · have hwr : id = 48 ∨ id = 49 ∨ id = 50 ∨ id = 51 ∨ id = 52 ∨ id = 53 ∨ id = 54 ∨ id = 55 ∨ id = 56 := by omega
              obtain ⟨e1, e2⟩ := writ_done id S ts hwr HLM.out.1.1 HLM.out.1.2 (by rw [HT0]; exact HLM.out.2.1) (by rw [HT0]; exact HLM.out.2.2) HNF.out.2.1
              rw [HT0] at e2
              have HRk := Lib.hid (r7_written id ts (some ⟨gv, 0, none⟩) j cV wr HT0 hcv e2 HNF.out.2.2 HAt.out)
              have HV4 : Hid (Q = writR id ts) := by unfold Hid; rw [HV3.out, e1]
              rw [← HV4.out] at HRk
              have e46 : (id == 46) = false := by simp [h46]
              have e47 : (id == 47) = false := by simp [h47]
              have e40 : (id == 40) = false := by rw [beq_eq_false_iff_ne]; omega
              have e41 : (id == 41) = false := by rw [beq_eq_false_iff_ne]; omega
              have e42 : (id == 42) = false := by rw [beq_eq_false_iff_ne]; omega
              have e43 : (id == 43) = false := by rw [beq_eq_false_iff_ne]; omega
              have e44 : (id == 44) = false := by rw [beq_eq_false_iff_ne]; omega
              have e45 : (id == 45) = false := by rw [beq_eq_false_iff_ne]; omega
              have e57 : (id == 57) = false := by rw [beq_eq_false_iff_ne]; omega
              clear HV3 HV4 e1 e2 HLM HNF HAt HRt hrk h46 h47 hwr
              go_wp2_with fail
              refine HRk.out.mono ?_
              rintro e w3 ⟨rfl, hb⟩
              obtain ⟨s14, c14_0, c14_1, c14_2, c14_3, c14_4, c14_5, f14⟩ := L6 hb (w.heap.size) (by first | omega | (simp only [sA, sC, sD, sE]; omega) | (simp; done) | (simp; omega)) (by go_simp; exact ⟨rfl, rfl, rfl, rfl, rfl, rfl⟩) (by intro o; go_simp)
              go_wp2
              have hbk := HH.out.2.2
              refine bodyPost_ret (v := .agg #[.int .i64 (Q).k, .int .i64 (Q).n, .int .i64 (Q).d, .string (Q).t, .bool (Q).b, .int .i64 (Q).f]) (by simp [results, Tryz.results10, go_sem, c14_0, c14_1, c14_2, c14_3, c14_4, c14_5]) rfl ⟨rfl, ?_⟩
              focus
                repeat with_reducible first | exact Below.refl _ _ | refine below_drewN ?_ _ | refine Below.drew ?_ | refine Below.setCell ?_ ?_ _ | refine Below.alloc ?_ ?_ _ | refine below_then ?_ ?_ (by with_reducible assumption)
                all_goals first | omega | (simp only [sA, sC, sD, sE]; omega) | (simp; done) | (simp; omega)
theorem r7_Apply (id : Int) (vs : List Vl) (la : Option Addr) (n lc : Nat) (w : World) (hn : vs.length = n) (hin : ∀ v ∈ vs, v.In) (hc : ValAt w la vs) :
    Calls Tryz.prog 10 #[.int .i64 id, .slice la n lc] w fun e w' => e = .returned (.agg #[.int .i64 (applyP id vs).k, .int .i64 (applyP id vs).n, .int .i64 (applyP id vs).d, .string (applyP id vs).t, .bool (applyP id vs).b, .int .i64 (applyP id vs).f]) ∧ Below w.heap.size w w' := by
  unfold applyP
  cases hr : refused id vs.length
  · rw [if_neg (by simp)]
    obtain ⟨S, hS, hm, rfl, hcl, h1, h2⟩ := accepted hr
    rw [hn] at h1 h2
    obtain ⟨h40, h62, hone, hfit⟩ := accepted_fit (id := 0) hm hcl h1 h2
    by_cases h : S.id = 62
    · rw [if_pos h]
      rw [h] at hS
      rw [byId62] at hS
      cases hS
      have hn0 : n = 0 := by simp at h2; omega
      subst hn0
      exact ra_NA la lc w
    · rw [if_neg h, hS]
      have hf := fits_of (hfit h)
      exact ra_main S.id S vs la n lc w hS hcl h1 h2 h h40 h62 (lm_of hm hcl) hn hf.one hf.three hin hc
  · rw [if_pos rfl]
    unfold refused at hr
    rw [hn] at hr
    split at hr
    · rename_i hS; exact ra_none id la n lc w hS
    · rename_i S hS
      refine ra_refuse id S la n lc w hS ?_
      simp only [Bool.or_eq_true, Bool.not_eq_true', beq_eq_false_iff_ne, decide_eq_true_eq] at hr
      by_cases a : S.cl = 4
      · by_cases b : (n : Int) < S.least
        · exact .inr (.inl ⟨a, b⟩)
        · refine .inr (.inr ⟨a, b, ?_⟩)
          rcases hr with (h | h) | h
          · exact absurd a h
          · exact absurd h b
          · exact h
      · exact .inl a
end Go.Proofs.YtglngfaagjgpjaaGreatDoor
