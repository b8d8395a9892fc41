/- The walk of FnApplies: it answers true. -/
import Derived.Test.YtglngfaagjgpjaaGreatDoorAppS
import Derived.Test.YtglngfaagjgpjaaGreatDoorBx16
import Derived.Test.YtglngfaagjgpjaaGreatDoorBx11
import Derived.BigQuiet
namespace Go.Proofs.YtglngfaagjgpjaaGreatDoor
open Go Go.RowKit
set_option linter.unusedSimpArgs false
set_option linter.unusedVariables false
def v77 : Vl := ⟨77, 0, 0, ⟨#[]⟩, false, 0⟩
def v78 : Vl := ⟨78, 0, 0, ⟨#[]⟩, false, 0⟩
def VP (X : Vl) (id : Int) (la : Option Addr) (n lc gx capx : Nat) : Nat → Value → World → Prop
  | 0, v, _ => v = .bool true
  | 1, v, _ => v = .bool true
  | 2, v, _ => v = .agg #[.int .i64 (X).k, .int .i64 (X).n, .int .i64 (X).d, .string (X).t, .bool (X).b, .int .i64 (X).f]
  | 3, v, _ => v = .int .i64 id
  | 4, v, _ => v = .slice la n lc
  | 5, v, _ => v = .agg #[.int .i64 (X).k, .int .i64 (X).n, .int .i64 (X).d, .string (X).t, .bool (X).b, .int .i64 (X).f]
  | 6, v, _ => v = .bool true
  | 7, v, _ => v = .bool true
  | 8, v, _ => v = .bool true
  | 9, v, _ => v = .slice (some ⟨gx, 0, none⟩) (n + 2) capx
  | 10, v, _ => v = .slice la n lc
  | 11, v, _ => v = .int .i64 (n : Int)
  | 12, v, _ => v = .pointer (some ⟨gx, n * 6, none⟩)
  | 13, v, _ => v = .pointer (some ⟨gx, n * 6, none⟩)
  | 14, v, _ => v = .int .i64 77
  | 15, v, _ => v = .bool true
  | 16, v, _ => v = .bool true
  | 17, v, _ => v = .bool true
  | 18, v, _ => v = .slice (some ⟨gx, 0, none⟩) (n + 2) capx
  | 19, v, _ => v = .slice la n lc
  | 20, v, _ => v = .int .i64 (n : Int)
  | 21, v, _ => v = .int .i64 ((n : Int) + 1)
  | 22, v, _ => v = .pointer (some ⟨gx, (n + 1) * 6, none⟩)
  | 23, v, _ => v = .pointer (some ⟨gx, (n + 1) * 6, none⟩)
  | 24, v, _ => v = .int .i64 78
  | 25, v, _ => v = .bool true
  | 26, v, _ => v = .bool true
  | _, _, _ => True
theorem VP.below (X : Vl) (id : Int) (la : Option Addr) (n lc gx capx : Nat) : ∀ k v w1 w2, VP X id la n lc gx capx k v w1 → Below w1.heap.size w1 w2 → VP X id la n lc gx capx k v w2 := by
  intro k v w1 w2 h hb
  rcases k with _ | _ | _ | _ | _ | _ | _ | _ | _ | _ | _ | _ | _ | _ | _ | _ | _ | _ | _ | _ | _ | _ | _ | _ | _ | _ | _ | k
  all_goals first | exact h
theorem two_one : ∀ u ∈ v77.cells ++ v78.cells, u.oneCell' = true := by
  intro u hu
  rcases List.mem_append.1 hu with h | h
  · exact Vl.one _ u h
  · exact Vl.one _ u h
theorem row_front {w : World} {g off : Nat} {vs ts : List Vl} (h : ValRow w g off (vs ++ ts)) : ValRow w g off vs := by
  intro k v hv
  refine h k v ?_
  have hk : k < vs.length := by
    rcases Nat.lt_or_ge k vs.length with h' | h'
    · exact h'
    · rw [List.getElem?_eq_none h'] at hv; cases hv
  rw [List.getElem?_append_left hk]; exact hv
theorem veq_self2 (x : Vl) : veq ⟨x.k, x.n, x.d, x.t, x.b, x.f⟩ ⟨x.k, x.n, x.d, x.t, x.b, x.f⟩ = true := veq_true.2 rfl
set_option maxRecDepth 100000 in
set_option maxHeartbeats 4000000 in
theorem law_FnApplies0 (id : Int) (vs : List Vl) (la : Option Addr) (n lc : Nat) (w : World) (hn : vs.length = n) (hbig : n * 56 ≤ 140737488351232) (hin : ∀ v ∈ vs, v.In) (hc : ValAt w la vs) (hL : Laid w) :
    Calls Tryz.prog 3 #[.int .i64 id, .slice la n lc] w fun e w' => e = .returned (.bool true) ∧ Below w.heap.size w w' := by
  have HC := Lib.hid fun wx h => hc.below (w' := wx) h
  have HN := Lib.hid hn
  have HX : Hid (∀ wx g c, ValAt wx g vs → Laid wx → Calls Tryz.prog 8 #[.int .i64 id, .slice g n c] wx fun e w' => e = .returned (.agg #[.int .i64 (applyP id vs).k, .int .i64 (applyP id vs).n, .int .i64 (applyP id vs).d, .string (applyP id vs).t, .bool (applyP id vs).b, .int .i64 (applyP id vs).f]) ∧ Below wx.heap.size wx w') := fun wx g c h1 h2 => funcs_Apply id vs g n c wx hn hin h1 h2
  have HR : Hid (∀ wx, Below w.heap.size w wx → Calls Tryz.prog 10 #[.int .i64 id, .slice la n lc] wx fun e w' => e = .returned (.agg #[.int .i64 (applyP id vs).k, .int .i64 (applyP id vs).n, .int .i64 (applyP id vs).d, .string (applyP id vs).t, .bool (applyP id vs).b, .int .i64 (applyP id vs).f]) ∧ Below wx.heap.size wx w') := fun wx h => r7_Apply id vs la n lc wx hn hin (hc.below h)
  have HL := Lib.hid fun wx h => hL.below (w' := wx) h
  generalize applyP id vs = X at *
  obtain ⟨i0, hi, hz, hsz, hby⟩ := zero_val
  clear hin hc hn hL
  have own0 : (w.alloc (.cells #[] 26)).ownsRow w.heap.size 26 6 (.slice (some ⟨w.heap.size, 0, none⟩) 0 0) 0 [] := by
    refine ⟨rfl, .inr ⟨_, 0, #[], rfl, Nat.le_refl _, ?_, Nat.le_refl _, by decide, rfl, rfl⟩⟩
    exact heap_alloc_new w (.cells #[] 26)
  have B0 : Below w.heap.size w (w.alloc (.cells #[] 26)) := (Below.refl _ _).alloc (Nat.le_refl _) _
  have hv0 := HC.out _ B0
  go_enter Tryz.func3, Tryz.ntmps3
  go_wp2_with (first
    | (at_builtin
       refine wpList_append_vals rfl _ _ rfl w.heap.size _ 0 [] rfl own0 la n lc vs HN.out rfl hv0 (by omega) (by simp only [sz_alloc]; omega) ?_
       intro v1 w3 hown3 hgrow3
       have B3 := below_grownBy B0 hgrow3 own0 (by simp only [sz_alloc]; omega)
       rw [Nat.zero_add, List.nil_append] at hown3
       have s3 := B3.size
       clear hgrow3 own0)
    | (at_builtin
       refine wpList_append_lies _ rfl _ _ 22 rfl w.heap.size 26 i0 _ 6 56 Tryz.underlying22 hi hz hsz hby rfl (by decide) _ n _ rfl (hown3.alloc _) ⟨w3.heap.size, 0, none⟩ 2 2 (v77.cells ++ v78.cells) rfl rfl (World.news_of_block (heap_alloc_new _ _)) two_one (by decide) (by unfold maxLen; omega) (by omega) (by simp only [sz_alloc]; omega) _ rfl ?_
       intro gx capx w4 hown4 hgrow4 hat4 hlt4
       have B4 := below_grownBy (B3.alloc (by omega) _) hgrow4 (hown3.alloc _) (by simp only [sz_alloc]; omega)
       have s4 := B4.size
       have HH4 := Lib.hid (And.intro hown4 B4)
       have hcx : n + 2 ≤ capx := by
         obtain ⟨_, _, he, _, _, hcap⟩ := own_form hown4 (by omega)
         simp only [Value.slice.injEq] at he
         omega
       have hgx : gx < w4.heap.size := by
         obtain ⟨_, _, he, _, hgg, _⟩ := own_form hown4 (by omega)
         simp only [Value.slice.injEq, Option.some.injEq, Addr.mk.injEq] at he
         omega
       clear hown4 B4 hgrow4 hat4 hown3 B3 B0 hv0)
    | fail)
  have hT2 : (vs ++ [v77, v78]).flatMap Vl.cells = vs.flatMap Vl.cells ++ (v77.cells ++ v78.cells) := by simp
  have hR4 : ValRow w4 gx 0 (vs ++ [v77, v78]) := by
    refine valRow_own (n := n + 2) (cap := capx) (B := w.heap.size) ?_ (by rw [List.length_append, HN.out]; rfl)
    rw [hT2]
    exact HH4.out.1
  have hV4 : ValAt w4 (some ⟨gx, 0, none⟩) vs := fun _ => ⟨gx, 0, rfl, hgx, row_front hR4⟩
  refine (HX.out _ _ _ hV4 (HL.out _ HH4.out.2)).mono ?_
  rintro e w5 ⟨rfl, hb5⟩
  have hR5 := hR4.below hgx hb5
  have W5 := HH4.out.2.trans (hb5.mono HH4.out.2.size)
  have sx := lcs hb5 gx hgx
  have s5 := hb5.size
  have HH5 := Lib.hid (And.intro hR5 W5)
  clear hb5 hR4 hV4 hR5 W5 HH4 hT2 HX hlt4
  go_upto_region 3 with (fail)
  first | with_reducible refine wp_rebase ?_ | with_reducible refine wpList_rebase ?_
  intro w6 hb6'
  have hb6 := hb6'.out
  clear hb6'
  have X6 : Blk w6 w5.heap.size (vArr X) 26 := Blk.below (show Blk (w5.alloc (.cells (vArr X) 26)) w5.heap.size _ _ from heap_alloc_new _ _) hb6
  have R6 : ValRow w6 gx 0 (vs ++ [v77, v78]) := by
    have h := HH5.out.1.below sx (show Below w5.heap.size w5 (w5.alloc (.cells (vArr X) 26)) from (Below.refl _ _).alloc (Nat.le_refl _) _)
    exact h.below (by simp only [sz_alloc]; omega) hb6
  have W6 : Below w.heap.size w w6 := (HH5.out.2.alloc (by omega) (.cells (vArr X) 26)).trans (hb6.mono (by simp only [sz_alloc]; omega))
  have s6 := hb6.size
  simp only [sz_alloc] at s6
  have g6 : gx < w6.heap.size := by omega
  have HH6 := Lib.hid (And.intro X6 (And.intro R6 W6))
  clear hb6 X6 R6 W6 HH5
  go_wp2
  go_loopw [7] (fun i wr => ∃ k m : Nat, k ≤ n ∧ i = .int .i64 k ∧ wr = w6.drewN m) (fun i _ => n - (intOf i).toNat)
  case atStart => exact ⟨0, 0, Nat.zero_le _, rfl, rfl⟩
  case round =>
    obtain ⟨k, m, hk, rfl, rfl⟩ := hrel
    by_cases hlt : k < n
    · have hkv : k < vs.length := by rw [HN.out]; exact hlt
      obtain ⟨b, off, rfl, hbw, hrow⟩ := (HC.out _ HH6.out.2.2) (by omega)
      obtain ⟨v, hv⟩ : ∃ v, vs[k]? = some v := ⟨_, List.getElem?_eq_getElem hkv⟩
      obtain ⟨c0, c1, c2, c3, c4, c5⟩ := hrow k v hv
      obtain ⟨d0, d1, d2, d3, d4, d5⟩ := (row_front HH6.out.2.1) k v hv
      simp only [Nat.zero_add] at d0 d1 d2 d3 d4 d5
      have hq := veq_self2 v
      have hq2 : (!veq ⟨v.k, v.n, v.d, v.t, v.b, v.f⟩ ⟨v.k, v.n, v.d, v.t, v.b, v.f⟩) = false := by rw [hq]; rfl
      clear hrow hv
      go_wp2
      go_quiet (fail)
      go_wp2
      exact ⟨⟨k + 1, _, by omega, by go_num, rfl⟩, by simp [intOf]; omega⟩
    · obtain rfl : k = n := by omega
      have X7 : Blk (w6.drewN m) w5.heap.size (vArr X) 26 := HH6.out.1
      have R7 : ValRow (w6.drewN m) gx 0 (vs ++ [v77, v78]) := HH6.out.2.1
      have W7 : Below w.heap.size w (w6.drewN m) := below_drewN HH6.out.2.2 _
      have g7 : gx < (w6.drewN m).heap.size := g6
      generalize w6.drewN m = w7 at *
      have HXB := Lib.hid X7
      have HW7 := Lib.hid W7
      have HZ : Hid (∀ wx, Below w7.heap.size w7 wx → wx.cell? ⟨gx, k * 6, none⟩ = some (.int .i64 77) ∧ wx.cell? ⟨gx, (k + 1) * 6, none⟩ = some (.int .i64 78)) := by
        intro wx hbx
        have h := R7.below g7 hbx
        have h1 := (h k v77 (by rw [List.getElem?_append_right (by rw [HN.out]; exact Nat.le_refl _), HN.out, Nat.sub_self]; rfl)).1
        have h2 := (h (k + 1) v78 (by rw [List.getElem?_append_right (by rw [HN.out]; omega), HN.out, Nat.add_sub_cancel_left]; rfl)).1
        rw [Nat.zero_add] at h1 h2
        exact ⟨h1, h2⟩
      have HR7 : Hid (∀ wx, Below w7.heap.size w7 wx → Calls Tryz.prog 10 #[.int .i64 id, .slice la k lc] wx fun e w' => e = .returned (.agg #[.int .i64 (X).k, .int .i64 (X).n, .int .i64 (X).d, .string (X).t, .bool (X).b, .int .i64 (X).f]) ∧ Below wx.heap.size wx w') := fun wx h => HR.out wx (HW7.out.trans (h.mono HW7.out.size))
      have s7 := W7.size
      have lX := X7.lt
      clear X7 R7 W7 HH6 HC HR HL
      go_upto_region 8 with (fail)
      refine wp_act fun a ha => ?_
      refine region_each 27 (VP X id la k lc gx capx) (by kernel_rfl) (by kernel_rfl) (VP.below X id la k lc gx capx) ?_ ?_
      · intro j hj o ho vs wx hw hk
        have hbx := hw.out
        have hzx := hbx.size
        obtain ⟨z77, z78⟩ := HZ.out wx hbx
        obtain ⟨x0, x1, x2, x3, x4, x5⟩ := (HXB.out.below hbx).v6
        rcases j with _ | _ | _ | _ | _ | _ | _ | _ | _ | _ | _ | _ | _ | _ | _ | _ | _ | _ | _ | _ | _ | _ | _ | _ | _ | _ | _ | j
        · obtain rfl : _ = o := Option.some.inj ho
          clear ho hk
          change wpList _ _ (OneQ _ a _) _ a _
          subst ha
          go_wp2_with fail
          refine (law_able _).mono ?_
          rintro e w' ⟨rfl, hb'⟩
          go_wp2
          exact ⟨_, rfl, hb', by first | rfl | (simp [VP]; done)⟩
        · obtain rfl : _ = o := Option.some.inj ho
          have y0 : vs 0 = .bool true := hk 0 (by decide) rfl
          clear ho hk
          change wpList _ _ (OneQ _ (Act.put a (some 36) (vs 0)) _) _ (Act.put a (some 36) (vs 0)) _
          rw [y0]
          subst ha
          go_wp2
          exact ⟨_, rfl, Below.refl _ _, by first | rfl | (simp [veq_true.2, VP]; done)⟩
        · obtain rfl : _ = o := Option.some.inj ho
          have y1 : vs 1 = .bool true := hk 1 (by decide) rfl
          clear ho hk
          change wpList _ _ (OneQ _ (Act.put a (some 37) (vs 1)) _) _ (Act.put a (some 37) (vs 1)) _
          rw [y1]
          subst ha
          go_wp2
          exact ⟨_, rfl, Below.refl _ _, by first | rfl | (simp [veq_true.2, VP]; done)⟩
        · obtain rfl : _ = o := Option.some.inj ho
          have y1 : vs 1 = .bool true := hk 1 (by decide) rfl
          clear ho hk
          change wpList _ _ (OneQ _ (Act.put a (some 37) (vs 1)) _) _ (Act.put a (some 37) (vs 1)) _
          rw [y1]
          subst ha
          go_wp2
          exact ⟨_, rfl, Below.refl _ _, by first | rfl | (simp [veq_true.2, VP]; done)⟩
        · obtain rfl : _ = o := Option.some.inj ho
          have y1 : vs 1 = .bool true := hk 1 (by decide) rfl
          clear ho hk
          change wpList _ _ (OneQ _ (Act.put a (some 37) (vs 1)) _) _ (Act.put a (some 37) (vs 1)) _
          rw [y1]
          subst ha
          go_wp2
          exact ⟨_, rfl, Below.refl _ _, by first | rfl | (simp [veq_true.2, VP]; done)⟩
        · obtain rfl : _ = o := Option.some.inj ho
          have y1 : vs 1 = .bool true := hk 1 (by decide) rfl
          have y3 : vs 3 = .int .i64 id := hk 3 (by decide) rfl
          have y4 : vs 4 = .slice la k lc := hk 4 (by decide) rfl
          clear ho hk
          change wpList _ _ (OneQ _ (Act.put (Act.put (Act.put a (some 37) (vs 1)) (some 39) (vs 3)) (some 40) (vs 4)) _) _ (Act.put (Act.put (Act.put a (some 37) (vs 1)) (some 39) (vs 3)) (some 40) (vs 4)) _
          rw [y1, y3, y4]
          subst ha
          go_wp2_with fail
          refine (HR7.out _ hbx).mono ?_
          rintro e w' ⟨rfl, hb'⟩
          go_wp2
          exact ⟨_, rfl, hb', by first | rfl | (simp [VP]; done)⟩
        · obtain rfl : _ = o := Option.some.inj ho
          have y1 : vs 1 = .bool true := hk 1 (by decide) rfl
          have y2 : vs 2 = .agg #[.int .i64 (X).k, .int .i64 (X).n, .int .i64 (X).d, .string (X).t, .bool (X).b, .int .i64 (X).f] := hk 2 (by decide) rfl
          have y5 : vs 5 = .agg #[.int .i64 (X).k, .int .i64 (X).n, .int .i64 (X).d, .string (X).t, .bool (X).b, .int .i64 (X).f] := hk 5 (by decide) rfl
          clear ho hk
          change wpList _ _ (OneQ _ (Act.put (Act.put (Act.put a (some 37) (vs 1)) (some 38) (vs 2)) (some 41) (vs 5)) _) _ (Act.put (Act.put (Act.put a (some 37) (vs 1)) (some 38) (vs 2)) (some 41) (vs 5)) _
          rw [y1, y2, y5]
          subst ha
          go_wp2
          exact ⟨_, rfl, Below.refl _ _, by first | rfl | (simp [veq_true.2, VP]; done)⟩
        · obtain rfl : _ = o := Option.some.inj ho
          have y1 : vs 1 = .bool true := hk 1 (by decide) rfl
          have y6 : vs 6 = .bool true := hk 6 (by decide) rfl
          clear ho hk
          change wpList _ _ (OneQ _ (Act.put (Act.put a (some 37) (vs 1)) (some 42) (vs 6)) _) _ (Act.put (Act.put a (some 37) (vs 1)) (some 42) (vs 6)) _
          rw [y1, y6]
          subst ha
          go_wp2
          exact ⟨_, rfl, Below.refl _ _, by first | rfl | (simp [veq_true.2, VP]; done)⟩
        · obtain rfl : _ = o := Option.some.inj ho
          have y7 : vs 7 = .bool true := hk 7 (by decide) rfl
          clear ho hk
          change wpList _ _ (OneQ _ (Act.put a (some 43) (vs 7)) _) _ (Act.put a (some 43) (vs 7)) _
          rw [y7]
          subst ha
          go_wp2
          exact ⟨_, rfl, Below.refl _ _, by first | rfl | (simp [veq_true.2, VP]; done)⟩
        · obtain rfl : _ = o := Option.some.inj ho
          have y8 : vs 8 = .bool true := hk 8 (by decide) rfl
          clear ho hk
          change wpList _ _ (OneQ _ (Act.put a (some 44) (vs 8)) _) _ (Act.put a (some 44) (vs 8)) _
          rw [y8]
          subst ha
          go_wp2
          exact ⟨_, rfl, Below.refl _ _, by first | rfl | (simp [veq_true.2, VP]; done)⟩
        · obtain rfl : _ = o := Option.some.inj ho
          have y8 : vs 8 = .bool true := hk 8 (by decide) rfl
          clear ho hk
          change wpList _ _ (OneQ _ (Act.put a (some 44) (vs 8)) _) _ (Act.put a (some 44) (vs 8)) _
          rw [y8]
          subst ha
          go_wp2
          exact ⟨_, rfl, Below.refl _ _, by first | rfl | (simp [veq_true.2, VP]; done)⟩
        · obtain rfl : _ = o := Option.some.inj ho
          have y8 : vs 8 = .bool true := hk 8 (by decide) rfl
          have y10 : vs 10 = .slice la k lc := hk 10 (by decide) rfl
          clear ho hk
          change wpList _ _ (OneQ _ (Act.put (Act.put a (some 44) (vs 8)) (some 46) (vs 10)) _) _ (Act.put (Act.put a (some 44) (vs 8)) (some 46) (vs 10)) _
          rw [y8, y10]
          subst ha
          go_wp2
          exact ⟨_, rfl, Below.refl _ _, by first | rfl | (simp [veq_true.2, VP]; done)⟩
        · obtain rfl : _ = o := Option.some.inj ho
          have y8 : vs 8 = .bool true := hk 8 (by decide) rfl
          have y9 : vs 9 = .slice (some ⟨gx, 0, none⟩) (k + 2) capx := hk 9 (by decide) rfl
          have y11 : vs 11 = .int .i64 (k : Int) := hk 11 (by decide) rfl
          clear ho hk
          change wpList _ _ (OneQ _ (Act.put (Act.put (Act.put a (some 44) (vs 8)) (some 45) (vs 9)) (some 47) (vs 11)) _) _ (Act.put (Act.put (Act.put a (some 44) (vs 8)) (some 45) (vs 9)) (some 47) (vs 11)) _
          rw [y8, y9, y11]
          subst ha
          go_wp2
          exact ⟨_, rfl, Below.refl _ _, by first | rfl | (simp [veq_true.2, VP]; done)⟩
        · obtain rfl : _ = o := Option.some.inj ho
          have y8 : vs 8 = .bool true := hk 8 (by decide) rfl
          have y12 : vs 12 = .pointer (some ⟨gx, k * 6, none⟩) := hk 12 (by decide) rfl
          clear ho hk
          change wpList _ _ (OneQ _ (Act.put (Act.put a (some 44) (vs 8)) (some 48) (vs 12)) _) _ (Act.put (Act.put a (some 44) (vs 8)) (some 48) (vs 12)) _
          rw [y8, y12]
          subst ha
          go_wp2
          exact ⟨_, rfl, Below.refl _ _, by first | rfl | (simp [veq_true.2, VP]; done)⟩
        · obtain rfl : _ = o := Option.some.inj ho
          have y8 : vs 8 = .bool true := hk 8 (by decide) rfl
          have y13 : vs 13 = .pointer (some ⟨gx, k * 6, none⟩) := hk 13 (by decide) rfl
          clear ho hk
          change wpList _ _ (OneQ _ (Act.put (Act.put a (some 44) (vs 8)) (some 49) (vs 13)) _) _ (Act.put (Act.put a (some 44) (vs 8)) (some 49) (vs 13)) _
          rw [y8, y13]
          subst ha
          go_wp2
          exact ⟨_, rfl, Below.refl _ _, by first | rfl | (simp [veq_true.2, VP]; done)⟩
        · obtain rfl : _ = o := Option.some.inj ho
          have y8 : vs 8 = .bool true := hk 8 (by decide) rfl
          have y14 : vs 14 = .int .i64 77 := hk 14 (by decide) rfl
          clear ho hk
          change wpList _ _ (OneQ _ (Act.put (Act.put a (some 44) (vs 8)) (some 50) (vs 14)) _) _ (Act.put (Act.put a (some 44) (vs 8)) (some 50) (vs 14)) _
          rw [y8, y14]
          subst ha
          go_wp2
          exact ⟨_, rfl, Below.refl _ _, by first | rfl | (simp [veq_true.2, VP]; done)⟩
        · obtain rfl : _ = o := Option.some.inj ho
          have y8 : vs 8 = .bool true := hk 8 (by decide) rfl
          have y15 : vs 15 = .bool true := hk 15 (by decide) rfl
          clear ho hk
          change wpList _ _ (OneQ _ (Act.put (Act.put a (some 44) (vs 8)) (some 51) (vs 15)) _) _ (Act.put (Act.put a (some 44) (vs 8)) (some 51) (vs 15)) _
          rw [y8, y15]
          subst ha
          go_wp2
          exact ⟨_, rfl, Below.refl _ _, by first | rfl | (simp [veq_true.2, VP]; done)⟩
        · obtain rfl : _ = o := Option.some.inj ho
          have y16 : vs 16 = .bool true := hk 16 (by decide) rfl
          clear ho hk
          change wpList _ _ (OneQ _ (Act.put a (some 52) (vs 16)) _) _ (Act.put a (some 52) (vs 16)) _
          rw [y16]
          subst ha
          go_wp2
          exact ⟨_, rfl, Below.refl _ _, by first | rfl | (simp [veq_true.2, VP]; done)⟩
        · obtain rfl : _ = o := Option.some.inj ho
          have y17 : vs 17 = .bool true := hk 17 (by decide) rfl
          clear ho hk
          change wpList _ _ (OneQ _ (Act.put a (some 53) (vs 17)) _) _ (Act.put a (some 53) (vs 17)) _
          rw [y17]
          subst ha
          go_wp2
          exact ⟨_, rfl, Below.refl _ _, by first | rfl | (simp [veq_true.2, VP]; done)⟩
        · obtain rfl : _ = o := Option.some.inj ho
          have y17 : vs 17 = .bool true := hk 17 (by decide) rfl
          clear ho hk
          change wpList _ _ (OneQ _ (Act.put a (some 53) (vs 17)) _) _ (Act.put a (some 53) (vs 17)) _
          rw [y17]
          subst ha
          go_wp2
          exact ⟨_, rfl, Below.refl _ _, by first | rfl | (simp [veq_true.2, VP]; done)⟩
        · obtain rfl : _ = o := Option.some.inj ho
          have y17 : vs 17 = .bool true := hk 17 (by decide) rfl
          have y19 : vs 19 = .slice la k lc := hk 19 (by decide) rfl
          clear ho hk
          change wpList _ _ (OneQ _ (Act.put (Act.put a (some 53) (vs 17)) (some 55) (vs 19)) _) _ (Act.put (Act.put a (some 53) (vs 17)) (some 55) (vs 19)) _
          rw [y17, y19]
          subst ha
          go_wp2
          exact ⟨_, rfl, Below.refl _ _, by first | rfl | (simp [veq_true.2, VP]; done)⟩
        · obtain rfl : _ = o := Option.some.inj ho
          have y17 : vs 17 = .bool true := hk 17 (by decide) rfl
          have y20 : vs 20 = .int .i64 (k : Int) := hk 20 (by decide) rfl
          clear ho hk
          change wpList _ _ (OneQ _ (Act.put (Act.put a (some 53) (vs 17)) (some 56) (vs 20)) _) _ (Act.put (Act.put a (some 53) (vs 17)) (some 56) (vs 20)) _
          rw [y17, y20]
          subst ha
          go_wp2
          exact ⟨_, rfl, Below.refl _ _, by first | rfl | (simp [veq_true.2, VP]; done)⟩
        · obtain rfl : _ = o := Option.some.inj ho
          have y17 : vs 17 = .bool true := hk 17 (by decide) rfl
          have y18 : vs 18 = .slice (some ⟨gx, 0, none⟩) (k + 2) capx := hk 18 (by decide) rfl
          have y21 : vs 21 = .int .i64 ((k : Int) + 1) := hk 21 (by decide) rfl
          clear ho hk
          change wpList _ _ (OneQ _ (Act.put (Act.put (Act.put a (some 53) (vs 17)) (some 54) (vs 18)) (some 57) (vs 21)) _) _ (Act.put (Act.put (Act.put a (some 53) (vs 17)) (some 54) (vs 18)) (some 57) (vs 21)) _
          rw [y17, y18, y21]
          subst ha
          go_wp2
          exact ⟨_, rfl, Below.refl _ _, by first | rfl | (simp [veq_true.2, VP]; done)⟩
        · obtain rfl : _ = o := Option.some.inj ho
          have y17 : vs 17 = .bool true := hk 17 (by decide) rfl
          have y22 : vs 22 = .pointer (some ⟨gx, (k + 1) * 6, none⟩) := hk 22 (by decide) rfl
          clear ho hk
          change wpList _ _ (OneQ _ (Act.put (Act.put a (some 53) (vs 17)) (some 58) (vs 22)) _) _ (Act.put (Act.put a (some 53) (vs 17)) (some 58) (vs 22)) _
          rw [y17, y22]
          subst ha
          go_wp2
          exact ⟨_, rfl, Below.refl _ _, by first | rfl | (simp [veq_true.2, VP]; done)⟩
        · obtain rfl : _ = o := Option.some.inj ho
          have y17 : vs 17 = .bool true := hk 17 (by decide) rfl
          have y23 : vs 23 = .pointer (some ⟨gx, (k + 1) * 6, none⟩) := hk 23 (by decide) rfl
          clear ho hk
          change wpList _ _ (OneQ _ (Act.put (Act.put a (some 53) (vs 17)) (some 59) (vs 23)) _) _ (Act.put (Act.put a (some 53) (vs 17)) (some 59) (vs 23)) _
          rw [y17, y23]
          subst ha
          go_wp2
          exact ⟨_, rfl, Below.refl _ _, by first | rfl | (simp [veq_true.2, VP]; done)⟩
        · obtain rfl : _ = o := Option.some.inj ho
          have y17 : vs 17 = .bool true := hk 17 (by decide) rfl
          have y24 : vs 24 = .int .i64 78 := hk 24 (by decide) rfl
          clear ho hk
          change wpList _ _ (OneQ _ (Act.put (Act.put a (some 53) (vs 17)) (some 60) (vs 24)) _) _ (Act.put (Act.put a (some 53) (vs 17)) (some 60) (vs 24)) _
          rw [y17, y24]
          subst ha
          go_wp2
          exact ⟨_, rfl, Below.refl _ _, by first | rfl | (simp [veq_true.2, VP]; done)⟩
        · obtain rfl : _ = o := Option.some.inj ho
          have y17 : vs 17 = .bool true := hk 17 (by decide) rfl
          have y25 : vs 25 = .bool true := hk 25 (by decide) rfl
          clear ho hk
          change wpList _ _ (OneQ _ (Act.put (Act.put a (some 53) (vs 17)) (some 61) (vs 25)) _) _ (Act.put (Act.put a (some 53) (vs 17)) (some 61) (vs 25)) _
          rw [y17, y25]
          subst ha
          go_wp2
          exact ⟨_, rfl, Below.refl _ _, by first | rfl | (simp [veq_true.2, VP]; done)⟩
        · omega
      · intro vs wx hw hv
        have hbx := hw.out
        have y0 : vs 0 = .bool true := hv 0 (by decide)
        have y1 : vs 1 = .bool true := hv 1 (by decide)
        have y2 : vs 2 = .agg #[.int .i64 (X).k, .int .i64 (X).n, .int .i64 (X).d, .string (X).t, .bool (X).b, .int .i64 (X).f] := hv 2 (by decide)
        have y3 : vs 3 = .int .i64 id := hv 3 (by decide)
        have y4 : vs 4 = .slice la k lc := hv 4 (by decide)
        have y5 : vs 5 = .agg #[.int .i64 (X).k, .int .i64 (X).n, .int .i64 (X).d, .string (X).t, .bool (X).b, .int .i64 (X).f] := hv 5 (by decide)
        have y6 : vs 6 = .bool true := hv 6 (by decide)
        have y7 : vs 7 = .bool true := hv 7 (by decide)
        have y8 : vs 8 = .bool true := hv 8 (by decide)
        have y9 : vs 9 = .slice (some ⟨gx, 0, none⟩) (k + 2) capx := hv 9 (by decide)
        have y10 : vs 10 = .slice la k lc := hv 10 (by decide)
        have y11 : vs 11 = .int .i64 (k : Int) := hv 11 (by decide)
        have y12 : vs 12 = .pointer (some ⟨gx, k * 6, none⟩) := hv 12 (by decide)
        have y13 : vs 13 = .pointer (some ⟨gx, k * 6, none⟩) := hv 13 (by decide)
        have y14 : vs 14 = .int .i64 77 := hv 14 (by decide)
        have y15 : vs 15 = .bool true := hv 15 (by decide)
        have y16 : vs 16 = .bool true := hv 16 (by decide)
        have y17 : vs 17 = .bool true := hv 17 (by decide)
        have y18 : vs 18 = .slice (some ⟨gx, 0, none⟩) (k + 2) capx := hv 18 (by decide)
        have y19 : vs 19 = .slice la k lc := hv 19 (by decide)
        have y20 : vs 20 = .int .i64 (k : Int) := hv 20 (by decide)
        have y21 : vs 21 = .int .i64 ((k : Int) + 1) := hv 21 (by decide)
        have y22 : vs 22 = .pointer (some ⟨gx, (k + 1) * 6, none⟩) := hv 22 (by decide)
        have y23 : vs 23 = .pointer (some ⟨gx, (k + 1) * 6, none⟩) := hv 23 (by decide)
        have y24 : vs 24 = .int .i64 78 := hv 24 (by decide)
        have y25 : vs 25 = .bool true := hv 25 (by decide)
        have y26 : vs 26 = .bool true := hv 26 (by decide)
        clear hv hw
        change wpList _ _ _ _ (Act.put (Act.put (Act.put (Act.put (Act.put (Act.put (Act.put (Act.put (Act.put (Act.put (Act.put (Act.put (Act.put (Act.put (Act.put (Act.put (Act.put (Act.put (Act.put (Act.put (Act.put (Act.put (Act.put (Act.put (Act.put (Act.put (Act.put a (some 36) (vs 0)) (some 37) (vs 1)) (some 38) (vs 2)) (some 39) (vs 3)) (some 40) (vs 4)) (some 41) (vs 5)) (some 42) (vs 6)) (some 43) (vs 7)) (some 44) (vs 8)) (some 45) (vs 9)) (some 46) (vs 10)) (some 47) (vs 11)) (some 48) (vs 12)) (some 49) (vs 13)) (some 50) (vs 14)) (some 51) (vs 15)) (some 52) (vs 16)) (some 53) (vs 17)) (some 54) (vs 18)) (some 55) (vs 19)) (some 56) (vs 20)) (some 57) (vs 21)) (some 58) (vs 22)) (some 59) (vs 23)) (some 60) (vs 24)) (some 61) (vs 25)) (some 62) (vs 26)) _
        rw [y0, y1, y2, y3, y4, y5, y6, y7, y8, y9, y10, y11, y12, y13, y14, y15, y16, y17, y18, y19, y20, y21, y22, y23, y24, y25, y26]
        subst ha
        clear y0 y1 y2 y3 y4 y5 y6 y7 y8 y9 y10 y11 y12 y13 y14 y15 y16 y17 y18 y19 y20 y21 y22 y23 y24 y25 y26
        simp only [List.drop_succ_cons, List.drop_zero]
        go_wp2
        go_ret
        refine ⟨rfl, ?_⟩
        exact HW7.out.trans (hbx.mono HW7.out.size)
end Go.Proofs.YtglngfaagjgpjaaGreatDoor
