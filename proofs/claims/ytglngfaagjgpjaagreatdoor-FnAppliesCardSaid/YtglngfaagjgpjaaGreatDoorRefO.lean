/- Walks of the reference's package for functions: written. -/
import Derived.Test.YtglngfaagjgpjaaGreatDoorRefG
import Derived.Test.YtglngfaagjgpjaaGreatDoorBx9
import Derived.Test.YtglngfaagjgpjaaGreatDoorLawB
import Derived.BigQuiet
namespace Go.Proofs.YtglngfaagjgpjaaGreatDoor
open Go Go.RowKit
set_option linter.unusedSimpArgs false
set_option linter.unusedVariables false
theorem lt_RefO {w w' : World} (h : Below w.heap.size w w') (k : Nat) (hk : k < w.heap.size) : k < w.heap.size := hk

theorem nums_any (vs : List Vl) (p : Nat) (la : Option Addr) (n lc : Nat) (w : World) (hn : vs.length = n) (hle : n ≤ 1000) (hp : p ≤ n) (hin : ∀ v ∈ vs, v.In) (hc : ValAt w la vs) (h : badNum (vs.drop p) = none) :
    Calls Tryz.prog 91 #[.slice la n lc, .int .i64 p] w fun e w' => ∃ (a : Option Addr) (c : Nat), e = .returned (.tuple #[.slice a (n - p : Nat) c, .agg #[.int .i64 0, .int .i64 0, .int .i64 0, .string ⟨#[]⟩, .bool false, .int .i64 0]]) ∧ Below w.heap.size w w' ∧ NmAt w' a ((vs.drop p).map nmOf) := by
  refine (r7_numbers vs p la n lc w hn hle hp hin hc).mono ?_
  rintro e w' ⟨s, x, rfl, hb, hO⟩
  obtain ⟨rfl, ho⟩ := hO.ok h
  have hl : (vs.drop p).length = n - p := by rw [List.length_drop, hn]
  have hl2 : ((vs.drop p).map nmOf).length = n - p := by rw [List.length_map, hl]
  obtain ⟨a, l, c, rfl⟩ := own_slice ho
  obtain rfl := own_len ho
  rw [hl] at ho ⊢
  refine ⟨a, c, rfl, hb, fun h0 => ?_⟩
  obtain ⟨g, cap, he, _, hg, hcap⟩ := own_form ho (by omega)
  simp only [Value.slice.injEq] at he
  obtain ⟨rfl, _, rfl⟩ := he
  exact nmAt_own (ns := (vs.drop p).map nmOf) (B := w.heap.size) (g := g) (cap := c) (w := w') (by rw [hl2]; exact ho) hg h0
theorem counts_no (ns : List Nm) (ls : List Int) (a : Option Addr) (n c h m c' : Nat) (w : World) (hn : ns.length = n) (hle : n ≤ 1000) (hm : ls.length = m) (hnm : n ≤ m) (hmc : m ≤ c') (hin : ∀ x ∈ ns, I64 x.n ∧ I64 x.d) (hr : NmAt w a ns) (hh : h < w.heap.size) (hls : ∀ k l, ls[k]? = some l → w.cell? ⟨h, k, none⟩ = some (.int .i64 l)) (hno : cntAll ns ls = false) :
    Calls Tryz.prog 103 #[.slice a n c, .slice (some ⟨h, 0, none⟩) m c'] w fun e w' => ∃ s, e = .returned (.tuple #[s, .bool false]) ∧ Below w.heap.size w w' := by
  refine (r7_counts ns ls a n c h m c' w hn hle hm hnm hmc hin hr hh hls).mono ?_
  rintro e w' ⟨s, rfl, hb, _⟩
  exact ⟨s, by rw [hno], hb⟩
theorem counts_yes (ns : List Nm) (ls : List Int) (a : Option Addr) (n c h m c' : Nat) (w : World) (hn : ns.length = n) (hle : n ≤ 1000) (hm : ls.length = m) (hnm : n ≤ m) (hmc : m ≤ c') (hin : ∀ x ∈ ns, I64 x.n ∧ I64 x.d) (hr : NmAt w a ns) (hh : h < w.heap.size) (hls : ∀ k l, ls[k]? = some l → w.cell? ⟨h, k, none⟩ = some (.int .i64 l)) (hyes : cntAll ns ls = true) :
    Calls Tryz.prog 103 #[.slice a n c, .slice (some ⟨h, 0, none⟩) m c'] w fun e w' => ∃ (b : Option Addr) (cap : Nat), e = .returned (.tuple #[.slice b n cap, .bool true]) ∧ Below w.heap.size w w' ∧ (0 < n → ∃ g : Nat, b = some ⟨g, 0, none⟩ ∧ n ≤ cap ∧ g < w'.heap.size ∧ ∀ k x, ns[k]? = some x → w'.cell? ⟨g, k, none⟩ = some (.int .i64 (wholeN x.n x.d))) := by
  refine (r7_counts ns ls a n c h m c' w hn hle hm hnm hmc hin hr hh hls).mono ?_
  rintro e w' ⟨s, rfl, hb, ho⟩
  replace ho := ho hyes
  obtain ⟨b, l, cap, rfl⟩ := own_slice ho
  obtain rfl := own_len ho
  refine ⟨b, cap, by rw [hyes], hb, fun h0 => ?_⟩
  obtain ⟨g, cap', he, _, hg, hcap⟩ := own_form ho h0
  simp only [Value.slice.injEq] at he
  obtain ⟨rfl, _, rfl⟩ := he
  refine ⟨g, rfl, hcap, hg, fun k x hx => ?_⟩
  have hk : k < l := by
    rw [← hn]
    rcases Nat.lt_or_ge k ns.length with h | h
    · exact h
    · rw [List.getElem?_eq_none h] at hx; cases hx
  have := ho.cellAt k (by omega)
  rw [this, List.getElem?_map, hx]
  rfl
/-! what a walk of written stands on -/
set_option maxRecDepth 100000 in
set_option maxHeartbeats 1000000 in
theorem rw_bad (id : Int) (n : Nat) (x : Vl) (hid : (id == 53) = false) (hn : 1 ≤ n) (hx : x.k = 4) (s : ByteArray) (a : Vl) (g off lc : Nat) (w : World) (hs : s.size ≤ 256) (HA : Hid (∀ wx : World, Calls Tryz.prog 86 #[.agg #[.int .i64 (a).k, .int .i64 (a).n, .int .i64 (a).d, .string (a).t, .bool (a).b, .int .i64 (a).f]] wx fun e w' => ∃ z : Vl, e = .returned (.tuple #[.string s, .agg #[.int .i64 (z).k, .int .i64 (z).n, .int .i64 (z).d, .string (z).t, .bool (z).b, .int .i64 (z).f]]) ∧ Below wx.heap.size wx w')) (hgw : g < w.heap.size) (hlc : n ≤ lc) (c0 : w.cell? ⟨g, off, none⟩ = some (.int .i64 a.k)) (c1 : w.cell? ⟨g, off + 1, none⟩ = some (.int .i64 a.n)) (c2 : w.cell? ⟨g, off + 2, none⟩ = some (.int .i64 a.d)) (c3 : w.cell? ⟨g, off + 3, none⟩ = some (.string a.t)) (c4 : w.cell? ⟨g, off + 4, none⟩ = some (.bool a.b)) (c5 : w.cell? ⟨g, off + 5, none⟩ = some (.int .i64 a.f)) (HN : Hid (∀ wx, Below w.heap.size w wx → Calls Tryz.prog 91 #[.slice (some ⟨g, off, none⟩) n lc, .int .i64 1] wx fun e w' => ∃ t, e = .returned (.tuple #[t, .agg #[.int .i64 (x).k, .int .i64 (x).n, .int .i64 (x).d, .string (x).t, .bool (x).b, .int .i64 (x).f]]) ∧ Below wx.heap.size wx w')) :
    Calls Tryz.prog 46 #[.int .i64 id, .slice (some ⟨g, off, none⟩) n lc] w fun e w' => e = .returned (.agg #[.int .i64 (x).k, .int .i64 (x).n, .int .i64 (x).d, .string (x).t, .bool (x).b, .int .i64 (x).f]) ∧ Below w.heap.size w w' := by
  have k4 : (x.k == 4) = true := by simp [hx]
  clear hx
  go_enter Tryz.func46, Tryz.ntmps46
  go_wp2_with fail
  refine (HA.out _).mono ?_
  rintro e wA ⟨z, rfl, hb⟩
  obtain ⟨s1, c1_0, c1_1, c1_2, c1_3, c1_4, c1_5, f1⟩ := L6 hb (w.heap.size) (by first | omega | (simp only [sA, sC, sD, sE]; omega) | (simp; done) | (simp; omega)) (by go_simp; exact ⟨rfl, rfl, rfl, rfl, rfl, rfl⟩) (by intro o; go_simp)
  go_wp2_with fail
  refine (HN.out _ ?_).mono ?_
  · skip
    focus
      repeat with_reducible first | exact Below.refl _ _ | refine below_drewN ?_ _ | refine Below.drew ?_ | refine Below.setCell ?_ ?_ _ | refine Below.alloc ?_ ?_ _ | refine below_then ?_ ?_ (by with_reducible assumption)
      all_goals first | omega | (simp only [sA, sC, sD, sE]; omega) | (simp; done) | (simp; omega)
  rintro e wB ⟨t, rfl, hb⟩
  obtain ⟨s2, c2_0, c2_1, c2_2, c2_3, c2_4, c2_5, f2⟩ := L6 hb (w.heap.size) (by first | omega | (simp only [sA, sC, sD, sE]; omega) | (simp; done) | (simp; omega)) (by go_simp; exact ⟨rfl, rfl, rfl, rfl, rfl, rfl⟩) (by intro o; go_simp)
  clear c1_0 c1_1 c1_2 c1_3 c1_4 c1_5 f1
  go_upto_region 11 with (fail)
  first | with_reducible refine wp_rebase ?_ | with_reducible refine wpList_rebase ?_
  intro w1 hb'
  have hb := hb'.out
  clear hb'
  obtain ⟨s3, c3_0, c3_1, c3_2, c3_3, c3_4, c3_5, f3⟩ := L6 hb (w.heap.size) (by first | omega | (simp only [sA, sC, sD, sE]; omega) | (simp; done) | (simp; omega)) (by go_simp; exact ⟨rfl, rfl, rfl, rfl, rfl, rfl⟩) (by intro o; go_simp)
  obtain ⟨s4, c4_0, c4_1, c4_2, c4_3, c4_4, c4_5, f4⟩ := L6 hb (wB.heap.size) (by first | omega | (simp only [sA, sC, sD, sE]; omega) | (simp; done) | (simp; omega)) (by go_simp; exact ⟨rfl, rfl, rfl, rfl, rfl, rfl⟩) (by intro o; go_simp)
  clear c2_0 c2_1 c2_2 c2_3 c2_4 c2_5 f2
  go_wp2
  refine bodyPost_ret (v := .agg #[.int .i64 (x).k, .int .i64 (x).n, .int .i64 (x).d, .string (x).t, .bool (x).b, .int .i64 (x).f]) (by simp [results, Tryz.results46, go_sem, c3_0, c3_1, c3_2, c3_3, c3_4, c3_5, c4_0, c4_1, c4_2, c4_3, c4_4, c4_5]) rfl ⟨rfl, ?_⟩
  focus
    repeat with_reducible first | exact Below.refl _ _ | refine below_drewN ?_ _ | refine Below.drew ?_ | refine Below.setCell ?_ ?_ _ | refine Below.alloc ?_ ?_ _ | refine below_then ?_ ?_ (by with_reducible assumption)
    all_goals first | omega | (simp only [sA, sC, sD, sE]; omega) | (simp; done) | (simp; omega)
set_option maxRecDepth 100000 in
set_option maxHeartbeats 1000000 in
theorem rw_no49 (R : Vl) (s : ByteArray) (a : Vl) (g off lc : Nat) (w : World) (hs : s.size ≤ 256) (HA : Hid (∀ wx : World, Calls Tryz.prog 86 #[.agg #[.int .i64 (a).k, .int .i64 (a).n, .int .i64 (a).d, .string (a).t, .bool (a).b, .int .i64 (a).f]] wx fun e w' => ∃ z : Vl, e = .returned (.tuple #[.string s, .agg #[.int .i64 (z).k, .int .i64 (z).n, .int .i64 (z).d, .string (z).t, .bool (z).b, .int .i64 (z).f]]) ∧ Below wx.heap.size wx w')) (hgw : g < w.heap.size) (hlc : 2 ≤ lc) (c0 : w.cell? ⟨g, off, none⟩ = some (.int .i64 a.k)) (c1 : w.cell? ⟨g, off + 1, none⟩ = some (.int .i64 a.n)) (c2 : w.cell? ⟨g, off + 2, none⟩ = some (.int .i64 a.d)) (c3 : w.cell? ⟨g, off + 3, none⟩ = some (.string a.t)) (c4 : w.cell? ⟨g, off + 4, none⟩ = some (.bool a.b)) (c5 : w.cell? ⟨g, off + 5, none⟩ = some (.int .i64 a.f)) (ns : List Nm) (HN : Hid (∀ wx, Below w.heap.size w wx → Calls Tryz.prog 91 #[.slice (some ⟨g, off, none⟩) 2 lc, .int .i64 1] wx fun e w' => ∃ (a2 : Option Addr) (c2 : Nat), e = .returned (.tuple #[.slice a2 1 c2, .agg #[.int .i64 0, .int .i64 0, .int .i64 0, .string ⟨#[]⟩, .bool false, .int .i64 0]]) ∧ Below wx.heap.size wx w' ∧ NmAt w' a2 ns)) (HC : Hid (∀ (wx : World) (a2 : Option Addr) (c2 h : Nat), NmAt wx a2 ns → h < wx.heap.size → wx.cell? ⟨h, 0, none⟩ = some (.int .i64 0) → Calls Tryz.prog 103 #[.slice a2 1 c2, .slice (some ⟨h, 0, none⟩) 1 1] wx fun e w' => ∃ t, e = .returned (.tuple #[t, .bool false]) ∧ Below wx.heap.size wx w')) (HM : Hid (∀ wx : World, Calls Tryz.prog 98 #[] wx fun e w' => e = .returned (.agg #[.int .i64 (R).k, .int .i64 (R).n, .int .i64 (R).d, .string (R).t, .bool (R).b, .int .i64 (R).f]) ∧ Below wx.heap.size wx w')) :
    Calls Tryz.prog 46 #[.int .i64 49, .slice (some ⟨g, off, none⟩) 2 lc] w fun e w' => e = .returned (.agg #[.int .i64 (R).k, .int .i64 (R).n, .int .i64 (R).d, .string (R).t, .bool (R).b, .int .i64 (R).f]) ∧ Below w.heap.size w w' := by
  go_enter Tryz.func46, Tryz.ntmps46
  go_wp2_with fail
  refine (HA.out _).mono ?_
  rintro e wA ⟨z, rfl, hb⟩
  obtain ⟨s5, c5_0, c5_1, c5_2, c5_3, c5_4, c5_5, f5⟩ := L6 hb (w.heap.size) (by first | omega | (simp only [sA, sC, sD, sE]; omega) | (simp; done) | (simp; omega)) (by go_simp; exact ⟨rfl, rfl, rfl, rfl, rfl, rfl⟩) (by intro o; go_simp)
  go_wp2_with fail
  refine (HN.out _ ?_).mono ?_
  · skip
    focus
      repeat with_reducible first | exact Below.refl _ _ | refine below_drewN ?_ _ | refine Below.drew ?_ | refine Below.setCell ?_ ?_ _ | refine Below.alloc ?_ ?_ _ | refine below_then ?_ ?_ (by with_reducible assumption)
      all_goals first | omega | (simp only [sA, sC, sD, sE]; omega) | (simp; done) | (simp; omega)
  rintro e wB ⟨a2, c2', rfl, hb, hNm⟩
  obtain ⟨s6, c6_0, c6_1, c6_2, c6_3, c6_4, c6_5, f6⟩ := L6 hb (w.heap.size) (by first | omega | (simp only [sA, sC, sD, sE]; omega) | (simp; done) | (simp; omega)) (by go_simp; exact ⟨rfl, rfl, rfl, rfl, rfl, rfl⟩) (by intro o; go_simp)
  clear c5_0 c5_1 c5_2 c5_3 c5_4 c5_5 f5
  go_upto_region 16 with (fail)
  first | with_reducible refine wp_rebase ?_ | with_reducible refine wpList_rebase ?_
  intro w1 hb'
  have hb := hb'.out
  clear hb'
  obtain ⟨s7, c7_0, c7_1, c7_2, c7_3, c7_4, c7_5, f7⟩ := L6 hb (w.heap.size) (by first | omega | (simp only [sA, sC, sD, sE]; omega) | (simp; done) | (simp; omega)) (by go_simp; exact ⟨rfl, rfl, rfl, rfl, rfl, rfl⟩) (by intro o; go_simp)
  obtain ⟨s8, c8_0⟩ := L1r hb (wB.heap.size + 1) (by first | omega | (simp only [sA, sC, sD, sE]; omega) | (simp; done) | (simp; omega)) (by go_simp; exact rfl)
  clear c6_0 c6_1 c6_2 c6_3 c6_4 c6_5 f6
  have hNm2 : NmAt w1 a2 ns := by
    refine hNm.below ?_
    focus
      repeat with_reducible first | exact Below.refl _ _ | refine below_drewN ?_ _ | refine Below.drew ?_ | refine Below.setCell ?_ ?_ _ | refine Below.alloc ?_ ?_ _ | refine below_then ?_ ?_ (by with_reducible assumption)
      all_goals first | omega | (simp only [sA, sC, sD, sE]; omega) | (simp; done) | (simp; omega)
  clear hNm
  go_wp2_with fail
  refine (HC.out _ _ _ (wB.heap.size + 1) hNm2 (by omega) (by assumption)).mono ?_
  rintro e wC ⟨t, rfl, hb⟩
  obtain ⟨s9, c9_0, c9_1, c9_2, c9_3, c9_4, c9_5, f9⟩ := L6 hb (w.heap.size) (by first | omega | (simp only [sA, sC, sD, sE]; omega) | (simp; done) | (simp; omega)) (by go_simp; exact ⟨rfl, rfl, rfl, rfl, rfl, rfl⟩) (by intro o; go_simp)
  clear c7_0 c7_1 c7_2 c7_3 c7_4 c7_5 f7 c8_0
  go_wp2_with fail
  refine (HM.out _).mono ?_
  rintro e wD ⟨rfl, hb⟩
  obtain ⟨s10, c10_0, c10_1, c10_2, c10_3, c10_4, c10_5, f10⟩ := L6 hb (w.heap.size) (by first | omega | (simp only [sA, sC, sD, sE]; omega) | (simp; done) | (simp; omega)) (by go_simp; exact ⟨rfl, rfl, rfl, rfl, rfl, rfl⟩) (by intro o; go_simp)
  clear c9_0 c9_1 c9_2 c9_3 c9_4 c9_5 f9
  go_wp2
  refine bodyPost_ret (v := .agg #[.int .i64 (R).k, .int .i64 (R).n, .int .i64 (R).d, .string (R).t, .bool (R).b, .int .i64 (R).f]) (by simp [results, Tryz.results46, go_sem, c10_0, c10_1, c10_2, c10_3, c10_4, c10_5]) rfl ⟨rfl, ?_⟩
  focus
    repeat with_reducible first | exact Below.refl _ _ | refine below_drewN ?_ _ | refine Below.drew ?_ | refine Below.setCell ?_ ?_ _ | refine Below.alloc ?_ ?_ _ | refine below_then ?_ ?_ (by with_reducible assumption)
    all_goals first | omega | (simp only [sA, sC, sD, sE]; omega) | (simp; done) | (simp; omega)
set_option maxRecDepth 100000 in
set_option maxHeartbeats 1000000 in
theorem rw_no50 (R : Vl) (s : ByteArray) (a : Vl) (g off lc : Nat) (w : World) (hs : s.size ≤ 256) (HA : Hid (∀ wx : World, Calls Tryz.prog 86 #[.agg #[.int .i64 (a).k, .int .i64 (a).n, .int .i64 (a).d, .string (a).t, .bool (a).b, .int .i64 (a).f]] wx fun e w' => ∃ z : Vl, e = .returned (.tuple #[.string s, .agg #[.int .i64 (z).k, .int .i64 (z).n, .int .i64 (z).d, .string (z).t, .bool (z).b, .int .i64 (z).f]]) ∧ Below wx.heap.size wx w')) (hgw : g < w.heap.size) (hlc : 2 ≤ lc) (c0 : w.cell? ⟨g, off, none⟩ = some (.int .i64 a.k)) (c1 : w.cell? ⟨g, off + 1, none⟩ = some (.int .i64 a.n)) (c2 : w.cell? ⟨g, off + 2, none⟩ = some (.int .i64 a.d)) (c3 : w.cell? ⟨g, off + 3, none⟩ = some (.string a.t)) (c4 : w.cell? ⟨g, off + 4, none⟩ = some (.bool a.b)) (c5 : w.cell? ⟨g, off + 5, none⟩ = some (.int .i64 a.f)) (ns : List Nm) (HN : Hid (∀ wx, Below w.heap.size w wx → Calls Tryz.prog 91 #[.slice (some ⟨g, off, none⟩) 2 lc, .int .i64 1] wx fun e w' => ∃ (a2 : Option Addr) (c2 : Nat), e = .returned (.tuple #[.slice a2 1 c2, .agg #[.int .i64 0, .int .i64 0, .int .i64 0, .string ⟨#[]⟩, .bool false, .int .i64 0]]) ∧ Below wx.heap.size wx w' ∧ NmAt w' a2 ns)) (HC : Hid (∀ (wx : World) (a2 : Option Addr) (c2 h : Nat), NmAt wx a2 ns → h < wx.heap.size → wx.cell? ⟨h, 0, none⟩ = some (.int .i64 0) → Calls Tryz.prog 103 #[.slice a2 1 c2, .slice (some ⟨h, 0, none⟩) 1 1] wx fun e w' => ∃ t, e = .returned (.tuple #[t, .bool false]) ∧ Below wx.heap.size wx w')) (HM : Hid (∀ wx : World, Calls Tryz.prog 98 #[] wx fun e w' => e = .returned (.agg #[.int .i64 (R).k, .int .i64 (R).n, .int .i64 (R).d, .string (R).t, .bool (R).b, .int .i64 (R).f]) ∧ Below wx.heap.size wx w')) :
    Calls Tryz.prog 46 #[.int .i64 50, .slice (some ⟨g, off, none⟩) 2 lc] w fun e w' => e = .returned (.agg #[.int .i64 (R).k, .int .i64 (R).n, .int .i64 (R).d, .string (R).t, .bool (R).b, .int .i64 (R).f]) ∧ Below w.heap.size w w' := by
  go_enter Tryz.func46, Tryz.ntmps46
  go_wp2_with fail
  refine (HA.out _).mono ?_
  rintro e wA ⟨z, rfl, hb⟩
  obtain ⟨s11, c11_0, c11_1, c11_2, c11_3, c11_4, c11_5, f11⟩ := L6 hb (w.heap.size) (by first | omega | (simp only [sA, sC, sD, sE]; omega) | (simp; done) | (simp; omega)) (by go_simp; exact ⟨rfl, rfl, rfl, rfl, rfl, rfl⟩) (by intro o; go_simp)
  go_wp2_with fail
  refine (HN.out _ ?_).mono ?_
  · skip
    focus
      repeat with_reducible first | exact Below.refl _ _ | refine below_drewN ?_ _ | refine Below.drew ?_ | refine Below.setCell ?_ ?_ _ | refine Below.alloc ?_ ?_ _ | refine below_then ?_ ?_ (by with_reducible assumption)
      all_goals first | omega | (simp only [sA, sC, sD, sE]; omega) | (simp; done) | (simp; omega)
  rintro e wB ⟨a2, c2', rfl, hb, hNm⟩
  obtain ⟨s12, c12_0, c12_1, c12_2, c12_3, c12_4, c12_5, f12⟩ := L6 hb (w.heap.size) (by first | omega | (simp only [sA, sC, sD, sE]; omega) | (simp; done) | (simp; omega)) (by go_simp; exact ⟨rfl, rfl, rfl, rfl, rfl, rfl⟩) (by intro o; go_simp)
  clear c11_0 c11_1 c11_2 c11_3 c11_4 c11_5 f11
  go_upto_region 16 with (fail)
  first | with_reducible refine wp_rebase ?_ | with_reducible refine wpList_rebase ?_
  intro w1 hb'
  have hb := hb'.out
  clear hb'
  obtain ⟨s13, c13_0, c13_1, c13_2, c13_3, c13_4, c13_5, f13⟩ := L6 hb (w.heap.size) (by first | omega | (simp only [sA, sC, sD, sE]; omega) | (simp; done) | (simp; omega)) (by go_simp; exact ⟨rfl, rfl, rfl, rfl, rfl, rfl⟩) (by intro o; go_simp)
  obtain ⟨s14, c14_0⟩ := L1r hb (wB.heap.size + 1) (by first | omega | (simp only [sA, sC, sD, sE]; omega) | (simp; done) | (simp; omega)) (by go_simp; exact rfl)
  clear c12_0 c12_1 c12_2 c12_3 c12_4 c12_5 f12
  have hNm2 : NmAt w1 a2 ns := by
    refine hNm.below ?_
    focus
      repeat with_reducible first | exact Below.refl _ _ | refine below_drewN ?_ _ | refine Below.drew ?_ | refine Below.setCell ?_ ?_ _ | refine Below.alloc ?_ ?_ _ | refine below_then ?_ ?_ (by with_reducible assumption)
      all_goals first | omega | (simp only [sA, sC, sD, sE]; omega) | (simp; done) | (simp; omega)
  clear hNm
  go_wp2_with fail
  refine (HC.out _ _ _ (wB.heap.size + 1) hNm2 (by omega) (by assumption)).mono ?_
  rintro e wC ⟨t, rfl, hb⟩
  obtain ⟨s15, c15_0, c15_1, c15_2, c15_3, c15_4, c15_5, f15⟩ := L6 hb (w.heap.size) (by first | omega | (simp only [sA, sC, sD, sE]; omega) | (simp; done) | (simp; omega)) (by go_simp; exact ⟨rfl, rfl, rfl, rfl, rfl, rfl⟩) (by intro o; go_simp)
  clear c13_0 c13_1 c13_2 c13_3 c13_4 c13_5 f13 c14_0
  go_wp2_with fail
  refine (HM.out _).mono ?_
  rintro e wD ⟨rfl, hb⟩
  obtain ⟨s16, c16_0, c16_1, c16_2, c16_3, c16_4, c16_5, f16⟩ := L6 hb (w.heap.size) (by first | omega | (simp only [sA, sC, sD, sE]; omega) | (simp; done) | (simp; omega)) (by go_simp; exact ⟨rfl, rfl, rfl, rfl, rfl, rfl⟩) (by intro o; go_simp)
  clear c15_0 c15_1 c15_2 c15_3 c15_4 c15_5 f15
  go_wp2
  refine bodyPost_ret (v := .agg #[.int .i64 (R).k, .int .i64 (R).n, .int .i64 (R).d, .string (R).t, .bool (R).b, .int .i64 (R).f]) (by simp [results, Tryz.results46, go_sem, c16_0, c16_1, c16_2, c16_3, c16_4, c16_5]) rfl ⟨rfl, ?_⟩
  focus
    repeat with_reducible first | exact Below.refl _ _ | refine below_drewN ?_ _ | refine Below.drew ?_ | refine Below.setCell ?_ ?_ _ | refine Below.alloc ?_ ?_ _ | refine below_then ?_ ?_ (by with_reducible assumption)
    all_goals first | omega | (simp only [sA, sC, sD, sE]; omega) | (simp; done) | (simp; omega)
set_option maxRecDepth 100000 in
set_option maxHeartbeats 1000000 in
theorem rw_no51 (R : Vl) (s : ByteArray) (a : Vl) (g off lc : Nat) (w : World) (hs : s.size ≤ 256) (HA : Hid (∀ wx : World, Calls Tryz.prog 86 #[.agg #[.int .i64 (a).k, .int .i64 (a).n, .int .i64 (a).d, .string (a).t, .bool (a).b, .int .i64 (a).f]] wx fun e w' => ∃ z : Vl, e = .returned (.tuple #[.string s, .agg #[.int .i64 (z).k, .int .i64 (z).n, .int .i64 (z).d, .string (z).t, .bool (z).b, .int .i64 (z).f]]) ∧ Below wx.heap.size wx w')) (hgw : g < w.heap.size) (hlc : 3 ≤ lc) (c0 : w.cell? ⟨g, off, none⟩ = some (.int .i64 a.k)) (c1 : w.cell? ⟨g, off + 1, none⟩ = some (.int .i64 a.n)) (c2 : w.cell? ⟨g, off + 2, none⟩ = some (.int .i64 a.d)) (c3 : w.cell? ⟨g, off + 3, none⟩ = some (.string a.t)) (c4 : w.cell? ⟨g, off + 4, none⟩ = some (.bool a.b)) (c5 : w.cell? ⟨g, off + 5, none⟩ = some (.int .i64 a.f)) (ns : List Nm) (HN : Hid (∀ wx, Below w.heap.size w wx → Calls Tryz.prog 91 #[.slice (some ⟨g, off, none⟩) 3 lc, .int .i64 1] wx fun e w' => ∃ (a2 : Option Addr) (c2 : Nat), e = .returned (.tuple #[.slice a2 2 c2, .agg #[.int .i64 0, .int .i64 0, .int .i64 0, .string ⟨#[]⟩, .bool false, .int .i64 0]]) ∧ Below wx.heap.size wx w' ∧ NmAt w' a2 ns)) (HC : Hid (∀ (wx : World) (a2 : Option Addr) (c2 h : Nat), NmAt wx a2 ns → h < wx.heap.size → wx.cell? ⟨h, 0, none⟩ = some (.int .i64 1) → wx.cell? ⟨h, 1, none⟩ = some (.int .i64 0) → Calls Tryz.prog 103 #[.slice a2 2 c2, .slice (some ⟨h, 0, none⟩) 2 2] wx fun e w' => ∃ t, e = .returned (.tuple #[t, .bool false]) ∧ Below wx.heap.size wx w')) (HM : Hid (∀ wx : World, Calls Tryz.prog 98 #[] wx fun e w' => e = .returned (.agg #[.int .i64 (R).k, .int .i64 (R).n, .int .i64 (R).d, .string (R).t, .bool (R).b, .int .i64 (R).f]) ∧ Below wx.heap.size wx w')) :
    Calls Tryz.prog 46 #[.int .i64 51, .slice (some ⟨g, off, none⟩) 3 lc] w fun e w' => e = .returned (.agg #[.int .i64 (R).k, .int .i64 (R).n, .int .i64 (R).d, .string (R).t, .bool (R).b, .int .i64 (R).f]) ∧ Below w.heap.size w w' := by
  go_enter Tryz.func46, Tryz.ntmps46
  go_wp2_with fail
  refine (HA.out _).mono ?_
  rintro e wA ⟨z, rfl, hb⟩
  obtain ⟨s17, c17_0, c17_1, c17_2, c17_3, c17_4, c17_5, f17⟩ := L6 hb (w.heap.size) (by first | omega | (simp only [sA, sC, sD, sE]; omega) | (simp; done) | (simp; omega)) (by go_simp; exact ⟨rfl, rfl, rfl, rfl, rfl, rfl⟩) (by intro o; go_simp)
  go_wp2_with fail
  refine (HN.out _ ?_).mono ?_
  · skip
    focus
      repeat with_reducible first | exact Below.refl _ _ | refine below_drewN ?_ _ | refine Below.drew ?_ | refine Below.setCell ?_ ?_ _ | refine Below.alloc ?_ ?_ _ | refine below_then ?_ ?_ (by with_reducible assumption)
      all_goals first | omega | (simp only [sA, sC, sD, sE]; omega) | (simp; done) | (simp; omega)
  rintro e wB ⟨a2, c2', rfl, hb, hNm⟩
  obtain ⟨s18, c18_0, c18_1, c18_2, c18_3, c18_4, c18_5, f18⟩ := L6 hb (w.heap.size) (by first | omega | (simp only [sA, sC, sD, sE]; omega) | (simp; done) | (simp; omega)) (by go_simp; exact ⟨rfl, rfl, rfl, rfl, rfl, rfl⟩) (by intro o; go_simp)
  clear c17_0 c17_1 c17_2 c17_3 c17_4 c17_5 f17
  go_upto_region 16 with (fail)
  first | with_reducible refine wp_rebase ?_ | with_reducible refine wpList_rebase ?_
  intro w1 hb'
  have hb := hb'.out
  clear hb'
  have hbD : Below wB.heap.size wB w1 := by
    focus
      repeat with_reducible first | exact Below.refl _ _ | refine below_drewN ?_ _ | refine Below.drew ?_ | refine Below.setCell ?_ ?_ _ | refine Below.alloc ?_ ?_ _ | refine below_then ?_ ?_ (by with_reducible assumption)
      all_goals first | omega | (simp only [sA, sC, sD, sE]; omega) | (simp; done) | (simp; omega)
  obtain ⟨s19, c19_0, c19_1, c19_2, c19_3, c19_4, c19_5, f19⟩ := L6 hbD (w.heap.size) (by first | omega | (simp only [sA, sC, sD, sE]; omega) | (simp; done) | (simp; omega)) (by go_simp; exact ⟨rfl, rfl, rfl, rfl, rfl, rfl⟩) (by intro o; go_simp)
  clear c18_0 c18_1 c18_2 c18_3 c18_4 c18_5 f18
  have qy := lt_RefO hb (wB.heap.size + 1 + 1) (by simp only [sz_alloc]; omega)
  have y0 := (lcc hb _ qy 0).trans (by go_simp; exact rfl)
  have y1 := (lcc hb _ qy 1).trans (by go_simp; exact rfl)
  have sy := lcs hb _ qy
  have hNm2 : NmAt w1 a2 ns := by
    refine hNm.below ?_
    focus
      repeat with_reducible first | exact Below.refl _ _ | refine below_drewN ?_ _ | refine Below.drew ?_ | refine Below.setCell ?_ ?_ _ | refine Below.alloc ?_ ?_ _ | refine below_then ?_ ?_ (by with_reducible assumption)
      all_goals first | omega | (simp only [sA, sC, sD, sE]; omega) | (simp; done) | (simp; omega)
  clear hNm
  go_wp2_with fail
  refine (HC.out _ _ _ (wB.heap.size + 1 + 1) hNm2 (by omega) (by assumption) (by assumption)).mono ?_
  rintro e wC ⟨t, rfl, hb⟩
  obtain ⟨s20, c20_0, c20_1, c20_2, c20_3, c20_4, c20_5, f20⟩ := L6 hb (w.heap.size) (by first | omega | (simp only [sA, sC, sD, sE]; omega) | (simp; done) | (simp; omega)) (by go_simp; exact ⟨rfl, rfl, rfl, rfl, rfl, rfl⟩) (by intro o; go_simp)
  clear c19_0 c19_1 c19_2 c19_3 c19_4 c19_5 f19
  go_wp2_with fail
  refine (HM.out _).mono ?_
  rintro e wD ⟨rfl, hb⟩
  obtain ⟨s21, c21_0, c21_1, c21_2, c21_3, c21_4, c21_5, f21⟩ := L6 hb (w.heap.size) (by first | omega | (simp only [sA, sC, sD, sE]; omega) | (simp; done) | (simp; omega)) (by go_simp; exact ⟨rfl, rfl, rfl, rfl, rfl, rfl⟩) (by intro o; go_simp)
  clear c20_0 c20_1 c20_2 c20_3 c20_4 c20_5 f20
  go_wp2
  refine bodyPost_ret (v := .agg #[.int .i64 (R).k, .int .i64 (R).n, .int .i64 (R).d, .string (R).t, .bool (R).b, .int .i64 (R).f]) (by simp [results, Tryz.results46, go_sem, c21_0, c21_1, c21_2, c21_3, c21_4, c21_5]) rfl ⟨rfl, ?_⟩
  focus
    repeat with_reducible first | exact Below.refl _ _ | refine below_drewN ?_ _ | refine Below.drew ?_ | refine Below.setCell ?_ ?_ _ | refine Below.alloc ?_ ?_ _ | refine below_then ?_ ?_ (by with_reducible assumption)
    all_goals first | omega | (simp only [sA, sC, sD, sE]; omega) | (simp; done) | (simp; omega)
set_option maxRecDepth 100000 in
set_option maxHeartbeats 1000000 in
theorem rw_no52 (R : Vl) (s : ByteArray) (a : Vl) (g off lc : Nat) (w : World) (hs : s.size ≤ 256) (HA : Hid (∀ wx : World, Calls Tryz.prog 86 #[.agg #[.int .i64 (a).k, .int .i64 (a).n, .int .i64 (a).d, .string (a).t, .bool (a).b, .int .i64 (a).f]] wx fun e w' => ∃ z : Vl, e = .returned (.tuple #[.string s, .agg #[.int .i64 (z).k, .int .i64 (z).n, .int .i64 (z).d, .string (z).t, .bool (z).b, .int .i64 (z).f]]) ∧ Below wx.heap.size wx w')) (hgw : g < w.heap.size) (hlc : 2 ≤ lc) (c0 : w.cell? ⟨g, off, none⟩ = some (.int .i64 a.k)) (c1 : w.cell? ⟨g, off + 1, none⟩ = some (.int .i64 a.n)) (c2 : w.cell? ⟨g, off + 2, none⟩ = some (.int .i64 a.d)) (c3 : w.cell? ⟨g, off + 3, none⟩ = some (.string a.t)) (c4 : w.cell? ⟨g, off + 4, none⟩ = some (.bool a.b)) (c5 : w.cell? ⟨g, off + 5, none⟩ = some (.int .i64 a.f)) (ns : List Nm) (HN : Hid (∀ wx, Below w.heap.size w wx → Calls Tryz.prog 91 #[.slice (some ⟨g, off, none⟩) 2 lc, .int .i64 1] wx fun e w' => ∃ (a2 : Option Addr) (c2 : Nat), e = .returned (.tuple #[.slice a2 1 c2, .agg #[.int .i64 0, .int .i64 0, .int .i64 0, .string ⟨#[]⟩, .bool false, .int .i64 0]]) ∧ Below wx.heap.size wx w' ∧ NmAt w' a2 ns)) (HC : Hid (∀ (wx : World) (a2 : Option Addr) (c2 h : Nat), NmAt wx a2 ns → h < wx.heap.size → wx.cell? ⟨h, 0, none⟩ = some (.int .i64 0) → Calls Tryz.prog 103 #[.slice a2 1 c2, .slice (some ⟨h, 0, none⟩) 1 1] wx fun e w' => ∃ t, e = .returned (.tuple #[t, .bool false]) ∧ Below wx.heap.size wx w')) (HM : Hid (∀ wx : World, Calls Tryz.prog 98 #[] wx fun e w' => e = .returned (.agg #[.int .i64 (R).k, .int .i64 (R).n, .int .i64 (R).d, .string (R).t, .bool (R).b, .int .i64 (R).f]) ∧ Below wx.heap.size wx w')) :
    Calls Tryz.prog 46 #[.int .i64 52, .slice (some ⟨g, off, none⟩) 2 lc] w fun e w' => e = .returned (.agg #[.int .i64 (R).k, .int .i64 (R).n, .int .i64 (R).d, .string (R).t, .bool (R).b, .int .i64 (R).f]) ∧ Below w.heap.size w w' := by
  go_enter Tryz.func46, Tryz.ntmps46
  go_wp2_with fail
  refine (HA.out _).mono ?_
  rintro e wA ⟨z, rfl, hb⟩
  obtain ⟨s22, c22_0, c22_1, c22_2, c22_3, c22_4, c22_5, f22⟩ := L6 hb (w.heap.size) (by first | omega | (simp only [sA, sC, sD, sE]; omega) | (simp; done) | (simp; omega)) (by go_simp; exact ⟨rfl, rfl, rfl, rfl, rfl, rfl⟩) (by intro o; go_simp)
  go_wp2_with fail
  refine (HN.out _ ?_).mono ?_
  · skip
    focus
      repeat with_reducible first | exact Below.refl _ _ | refine below_drewN ?_ _ | refine Below.drew ?_ | refine Below.setCell ?_ ?_ _ | refine Below.alloc ?_ ?_ _ | refine below_then ?_ ?_ (by with_reducible assumption)
      all_goals first | omega | (simp only [sA, sC, sD, sE]; omega) | (simp; done) | (simp; omega)
  rintro e wB ⟨a2, c2', rfl, hb, hNm⟩
  obtain ⟨s23, c23_0, c23_1, c23_2, c23_3, c23_4, c23_5, f23⟩ := L6 hb (w.heap.size) (by first | omega | (simp only [sA, sC, sD, sE]; omega) | (simp; done) | (simp; omega)) (by go_simp; exact ⟨rfl, rfl, rfl, rfl, rfl, rfl⟩) (by intro o; go_simp)
  clear c22_0 c22_1 c22_2 c22_3 c22_4 c22_5 f22
  go_upto_region 16 with (fail)
  first | with_reducible refine wp_rebase ?_ | with_reducible refine wpList_rebase ?_
  intro w1 hb'
  have hb := hb'.out
  clear hb'
  obtain ⟨s24, c24_0, c24_1, c24_2, c24_3, c24_4, c24_5, f24⟩ := L6 hb (w.heap.size) (by first | omega | (simp only [sA, sC, sD, sE]; omega) | (simp; done) | (simp; omega)) (by go_simp; exact ⟨rfl, rfl, rfl, rfl, rfl, rfl⟩) (by intro o; go_simp)
  obtain ⟨s25, c25_0⟩ := L1r hb (wB.heap.size + 1) (by first | omega | (simp only [sA, sC, sD, sE]; omega) | (simp; done) | (simp; omega)) (by go_simp; exact rfl)
  clear c23_0 c23_1 c23_2 c23_3 c23_4 c23_5 f23
  have hNm2 : NmAt w1 a2 ns := by
    refine hNm.below ?_
    focus
      repeat with_reducible first | exact Below.refl _ _ | refine below_drewN ?_ _ | refine Below.drew ?_ | refine Below.setCell ?_ ?_ _ | refine Below.alloc ?_ ?_ _ | refine below_then ?_ ?_ (by with_reducible assumption)
      all_goals first | omega | (simp only [sA, sC, sD, sE]; omega) | (simp; done) | (simp; omega)
  clear hNm
  go_wp2_with fail
  refine (HC.out _ _ _ (wB.heap.size + 1) hNm2 (by omega) (by assumption)).mono ?_
  rintro e wC ⟨t, rfl, hb⟩
  obtain ⟨s26, c26_0, c26_1, c26_2, c26_3, c26_4, c26_5, f26⟩ := L6 hb (w.heap.size) (by first | omega | (simp only [sA, sC, sD, sE]; omega) | (simp; done) | (simp; omega)) (by go_simp; exact ⟨rfl, rfl, rfl, rfl, rfl, rfl⟩) (by intro o; go_simp)
  clear c24_0 c24_1 c24_2 c24_3 c24_4 c24_5 f24 c25_0
  go_wp2_with fail
  refine (HM.out _).mono ?_
  rintro e wD ⟨rfl, hb⟩
  obtain ⟨s27, c27_0, c27_1, c27_2, c27_3, c27_4, c27_5, f27⟩ := L6 hb (w.heap.size) (by first | omega | (simp only [sA, sC, sD, sE]; omega) | (simp; done) | (simp; omega)) (by go_simp; exact ⟨rfl, rfl, rfl, rfl, rfl, rfl⟩) (by intro o; go_simp)
  clear c26_0 c26_1 c26_2 c26_3 c26_4 c26_5 f26
  go_wp2
  refine bodyPost_ret (v := .agg #[.int .i64 (R).k, .int .i64 (R).n, .int .i64 (R).d, .string (R).t, .bool (R).b, .int .i64 (R).f]) (by simp [results, Tryz.results46, go_sem, c27_0, c27_1, c27_2, c27_3, c27_4, c27_5]) rfl ⟨rfl, ?_⟩
  focus
    repeat with_reducible first | exact Below.refl _ _ | refine below_drewN ?_ _ | refine Below.drew ?_ | refine Below.setCell ?_ ?_ _ | refine Below.alloc ?_ ?_ _ | refine below_then ?_ ?_ (by with_reducible assumption)
    all_goals first | omega | (simp only [sA, sC, sD, sE]; omega) | (simp; done) | (simp; omega)
set_option maxRecDepth 100000 in
set_option maxHeartbeats 1000000 in
theorem rw_len (R : Vl) (s : ByteArray) (a : Vl) (g off lc : Nat) (w : World) (hs : s.size ≤ 256) (HA : Hid (∀ wx : World, Calls Tryz.prog 86 #[.agg #[.int .i64 (a).k, .int .i64 (a).n, .int .i64 (a).d, .string (a).t, .bool (a).b, .int .i64 (a).f]] wx fun e w' => ∃ z : Vl, e = .returned (.tuple #[.string s, .agg #[.int .i64 (z).k, .int .i64 (z).n, .int .i64 (z).d, .string (z).t, .bool (z).b, .int .i64 (z).f]]) ∧ Below wx.heap.size wx w')) (hgw : g < w.heap.size) (hlc : 1 ≤ lc) (c0 : w.cell? ⟨g, off, none⟩ = some (.int .i64 a.k)) (c1 : w.cell? ⟨g, off + 1, none⟩ = some (.int .i64 a.n)) (c2 : w.cell? ⟨g, off + 2, none⟩ = some (.int .i64 a.d)) (c3 : w.cell? ⟨g, off + 3, none⟩ = some (.string a.t)) (c4 : w.cell? ⟨g, off + 4, none⟩ = some (.bool a.b)) (c5 : w.cell? ⟨g, off + 5, none⟩ = some (.int .i64 a.f)) (ns : List Nm) (HN : Hid (∀ wx, Below w.heap.size w wx → Calls Tryz.prog 91 #[.slice (some ⟨g, off, none⟩) 1 lc, .int .i64 1] wx fun e w' => ∃ (a2 : Option Addr) (c2 : Nat), e = .returned (.tuple #[.slice a2 0 c2, .agg #[.int .i64 0, .int .i64 0, .int .i64 0, .string ⟨#[]⟩, .bool false, .int .i64 0]]) ∧ Below wx.heap.size wx w' ∧ NmAt w' a2 ns)) (HC : Hid (∀ (wx : World) (a2 : Option Addr) (c2 h : Nat), NmAt wx a2 ns → h < wx.heap.size → wx.cell? ⟨h, 0, none⟩ = some (.int .i64 0) → Calls Tryz.prog 103 #[.slice a2 0 c2, .slice (some ⟨h, 0, none⟩) 1 1] wx fun e w' => ∃ (b : Option Addr) (cap : Nat), e = .returned (.tuple #[.slice b 0 cap, .bool true]) ∧ Below wx.heap.size wx w' ∧ True)) (HM : Hid (∀ wx : World, Calls Tryz.prog 94 #[.int .i64 s.size] wx fun e w' => e = .returned (.agg #[.int .i64 (R).k, .int .i64 (R).n, .int .i64 (R).d, .string (R).t, .bool (R).b, .int .i64 (R).f]) ∧ Below wx.heap.size wx w')) :
    Calls Tryz.prog 46 #[.int .i64 48, .slice (some ⟨g, off, none⟩) 1 lc] w fun e w' => e = .returned (.agg #[.int .i64 (R).k, .int .i64 (R).n, .int .i64 (R).d, .string (R).t, .bool (R).b, .int .i64 (R).f]) ∧ Below w.heap.size w w' := by
  go_enter Tryz.func46, Tryz.ntmps46
  go_wp2_with fail
  refine (HA.out _).mono ?_
  rintro e wA ⟨z, rfl, hb⟩
  obtain ⟨s28, c28_0, c28_1, c28_2, c28_3, c28_4, c28_5, f28⟩ := L6 hb (w.heap.size) (by first | omega | (simp only [sA, sC, sD, sE]; omega) | (simp; done) | (simp; omega)) (by go_simp; exact ⟨rfl, rfl, rfl, rfl, rfl, rfl⟩) (by intro o; go_simp)
  go_wp2_with fail
  refine (HN.out _ ?_).mono ?_
  · skip
    focus
      repeat with_reducible first | exact Below.refl _ _ | refine below_drewN ?_ _ | refine Below.drew ?_ | refine Below.setCell ?_ ?_ _ | refine Below.alloc ?_ ?_ _ | refine below_then ?_ ?_ (by with_reducible assumption)
      all_goals first | omega | (simp only [sA, sC, sD, sE]; omega) | (simp; done) | (simp; omega)
  rintro e wB ⟨a2, c2', rfl, hb, hNm⟩
  obtain ⟨s29, c29_0, c29_1, c29_2, c29_3, c29_4, c29_5, f29⟩ := L6 hb (w.heap.size) (by first | omega | (simp only [sA, sC, sD, sE]; omega) | (simp; done) | (simp; omega)) (by go_simp; exact ⟨rfl, rfl, rfl, rfl, rfl, rfl⟩) (by intro o; go_simp)
  clear c28_0 c28_1 c28_2 c28_3 c28_4 c28_5 f28
  go_upto_region 16 with (fail)
  first | with_reducible refine wp_rebase ?_ | with_reducible refine wpList_rebase ?_
  intro w1 hb'
  have hb := hb'.out
  clear hb'
  obtain ⟨s30, c30_0, c30_1, c30_2, c30_3, c30_4, c30_5, f30⟩ := L6 hb (w.heap.size) (by first | omega | (simp only [sA, sC, sD, sE]; omega) | (simp; done) | (simp; omega)) (by go_simp; exact ⟨rfl, rfl, rfl, rfl, rfl, rfl⟩) (by intro o; go_simp)
  obtain ⟨s31, c31_0⟩ := L1r hb (wB.heap.size + 1) (by first | omega | (simp only [sA, sC, sD, sE]; omega) | (simp; done) | (simp; omega)) (by go_simp; exact rfl)
  clear c29_0 c29_1 c29_2 c29_3 c29_4 c29_5 f29
  have hNm2 : NmAt w1 a2 ns := by
    refine hNm.below ?_
    focus
      repeat with_reducible first | exact Below.refl _ _ | refine below_drewN ?_ _ | refine Below.drew ?_ | refine Below.setCell ?_ ?_ _ | refine Below.alloc ?_ ?_ _ | refine below_then ?_ ?_ (by with_reducible assumption)
      all_goals first | omega | (simp only [sA, sC, sD, sE]; omega) | (simp; done) | (simp; omega)
  clear hNm
  go_wp2_with fail
  refine (HC.out _ _ _ (wB.heap.size + 1) hNm2 (by omega) (by assumption)).mono ?_
  rintro e wC ⟨b2, cap, rfl, hb, -⟩
  obtain ⟨s32, c32_0, c32_1, c32_2, c32_3, c32_4, c32_5, f32⟩ := L6 hb (w.heap.size) (by first | omega | (simp only [sA, sC, sD, sE]; omega) | (simp; done) | (simp; omega)) (by go_simp; exact ⟨rfl, rfl, rfl, rfl, rfl, rfl⟩) (by intro o; go_simp)
  clear c30_0 c30_1 c30_2 c30_3 c30_4 c30_5 f30 c31_0
  go_wp2_with fail
  refine (HM.out _).mono ?_
  rintro e wD ⟨rfl, hb⟩
  obtain ⟨s33, c33_0, c33_1, c33_2, c33_3, c33_4, c33_5, f33⟩ := L6 hb (w.heap.size) (by first | omega | (simp only [sA, sC, sD, sE]; omega) | (simp; done) | (simp; omega)) (by go_simp; exact ⟨rfl, rfl, rfl, rfl, rfl, rfl⟩) (by intro o; go_simp)
  clear c32_0 c32_1 c32_2 c32_3 c32_4 c32_5 f32
  go_wp2
  refine bodyPost_ret (v := .agg #[.int .i64 (R).k, .int .i64 (R).n, .int .i64 (R).d, .string (R).t, .bool (R).b, .int .i64 (R).f]) (by simp [results, Tryz.results46, go_sem, c33_0, c33_1, c33_2, c33_3, c33_4, c33_5]) rfl ⟨rfl, ?_⟩
  focus
    repeat with_reducible first | exact Below.refl _ _ | refine below_drewN ?_ _ | refine Below.drew ?_ | refine Below.setCell ?_ ?_ _ | refine Below.alloc ?_ ?_ _ | refine below_then ?_ ?_ (by with_reducible assumption)
    all_goals first | omega | (simp only [sA, sC, sD, sE]; omega) | (simp; done) | (simp; omega)
set_option maxRecDepth 100000 in
set_option maxHeartbeats 1000000 in
theorem rw_trim (R : Vl) (U : ByteArray) (s : ByteArray) (a : Vl) (g off lc : Nat) (w : World) (hs : s.size ≤ 256) (HA : Hid (∀ wx : World, Calls Tryz.prog 86 #[.agg #[.int .i64 (a).k, .int .i64 (a).n, .int .i64 (a).d, .string (a).t, .bool (a).b, .int .i64 (a).f]] wx fun e w' => ∃ z : Vl, e = .returned (.tuple #[.string s, .agg #[.int .i64 (z).k, .int .i64 (z).n, .int .i64 (z).d, .string (z).t, .bool (z).b, .int .i64 (z).f]]) ∧ Below wx.heap.size wx w')) (hgw : g < w.heap.size) (hlc : 1 ≤ lc) (c0 : w.cell? ⟨g, off, none⟩ = some (.int .i64 a.k)) (c1 : w.cell? ⟨g, off + 1, none⟩ = some (.int .i64 a.n)) (c2 : w.cell? ⟨g, off + 2, none⟩ = some (.int .i64 a.d)) (c3 : w.cell? ⟨g, off + 3, none⟩ = some (.string a.t)) (c4 : w.cell? ⟨g, off + 4, none⟩ = some (.bool a.b)) (c5 : w.cell? ⟨g, off + 5, none⟩ = some (.int .i64 a.f)) (ns : List Nm) (HN : Hid (∀ wx, Below w.heap.size w wx → Calls Tryz.prog 91 #[.slice (some ⟨g, off, none⟩) 1 lc, .int .i64 1] wx fun e w' => ∃ (a2 : Option Addr) (c2 : Nat), e = .returned (.tuple #[.slice a2 0 c2, .agg #[.int .i64 0, .int .i64 0, .int .i64 0, .string ⟨#[]⟩, .bool false, .int .i64 0]]) ∧ Below wx.heap.size wx w' ∧ NmAt w' a2 ns)) (HC : Hid (∀ (wx : World) (a2 : Option Addr) (c2 h : Nat), NmAt wx a2 ns → h < wx.heap.size → wx.cell? ⟨h, 0, none⟩ = some (.int .i64 0) → Calls Tryz.prog 103 #[.slice a2 0 c2, .slice (some ⟨h, 0, none⟩) 1 1] wx fun e w' => ∃ (b : Option Addr) (cap : Nat), e = .returned (.tuple #[.slice b 0 cap, .bool true]) ∧ Below wx.heap.size wx w' ∧ True)) (HT : Hid (∀ wx : World, Calls Tryz.prog 104 #[.string s] wx fun e w' => e = .returned (.string U) ∧ Below wx.heap.size wx w')) (HM : Hid (∀ wx : World, Calls Tryz.prog 87 #[.string U] wx fun e w' => e = .returned (.agg #[.int .i64 (R).k, .int .i64 (R).n, .int .i64 (R).d, .string (R).t, .bool (R).b, .int .i64 (R).f]) ∧ Below wx.heap.size wx w')) :
    Calls Tryz.prog 46 #[.int .i64 56, .slice (some ⟨g, off, none⟩) 1 lc] w fun e w' => e = .returned (.agg #[.int .i64 (R).k, .int .i64 (R).n, .int .i64 (R).d, .string (R).t, .bool (R).b, .int .i64 (R).f]) ∧ Below w.heap.size w w' := by
  go_enter Tryz.func46, Tryz.ntmps46
  go_wp2_with fail
  refine (HA.out _).mono ?_
  rintro e wA ⟨z, rfl, hb⟩
  obtain ⟨s34, c34_0, c34_1, c34_2, c34_3, c34_4, c34_5, f34⟩ := L6 hb (w.heap.size) (by first | omega | (simp only [sA, sC, sD, sE]; omega) | (simp; done) | (simp; omega)) (by go_simp; exact ⟨rfl, rfl, rfl, rfl, rfl, rfl⟩) (by intro o; go_simp)
  go_wp2_with fail
  refine (HN.out _ ?_).mono ?_
  · skip
    focus
      repeat with_reducible first | exact Below.refl _ _ | refine below_drewN ?_ _ | refine Below.drew ?_ | refine Below.setCell ?_ ?_ _ | refine Below.alloc ?_ ?_ _ | refine below_then ?_ ?_ (by with_reducible assumption)
      all_goals first | omega | (simp only [sA, sC, sD, sE]; omega) | (simp; done) | (simp; omega)
  rintro e wB ⟨a2, c2', rfl, hb, hNm⟩
  obtain ⟨s35, c35_0, c35_1, c35_2, c35_3, c35_4, c35_5, f35⟩ := L6 hb (w.heap.size) (by first | omega | (simp only [sA, sC, sD, sE]; omega) | (simp; done) | (simp; omega)) (by go_simp; exact ⟨rfl, rfl, rfl, rfl, rfl, rfl⟩) (by intro o; go_simp)
  clear c34_0 c34_1 c34_2 c34_3 c34_4 c34_5 f34
  go_upto_region 16 with (fail)
  first | with_reducible refine wp_rebase ?_ | with_reducible refine wpList_rebase ?_
  intro w1 hb'
  have hb := hb'.out
  clear hb'
  obtain ⟨s36, c36_0, c36_1, c36_2, c36_3, c36_4, c36_5, f36⟩ := L6 hb (w.heap.size) (by first | omega | (simp only [sA, sC, sD, sE]; omega) | (simp; done) | (simp; omega)) (by go_simp; exact ⟨rfl, rfl, rfl, rfl, rfl, rfl⟩) (by intro o; go_simp)
  obtain ⟨s37, c37_0⟩ := L1r hb (wB.heap.size + 1) (by first | omega | (simp only [sA, sC, sD, sE]; omega) | (simp; done) | (simp; omega)) (by go_simp; exact rfl)
  clear c35_0 c35_1 c35_2 c35_3 c35_4 c35_5 f35
  have hNm2 : NmAt w1 a2 ns := by
    refine hNm.below ?_
    focus
      repeat with_reducible first | exact Below.refl _ _ | refine below_drewN ?_ _ | refine Below.drew ?_ | refine Below.setCell ?_ ?_ _ | refine Below.alloc ?_ ?_ _ | refine below_then ?_ ?_ (by with_reducible assumption)
      all_goals first | omega | (simp only [sA, sC, sD, sE]; omega) | (simp; done) | (simp; omega)
  clear hNm
  go_wp2_with fail
  refine (HC.out _ _ _ (wB.heap.size + 1) hNm2 (by omega) (by assumption)).mono ?_
  rintro e wC ⟨b2, cap, rfl, hb, -⟩
  obtain ⟨s38, c38_0, c38_1, c38_2, c38_3, c38_4, c38_5, f38⟩ := L6 hb (w.heap.size) (by first | omega | (simp only [sA, sC, sD, sE]; omega) | (simp; done) | (simp; omega)) (by go_simp; exact ⟨rfl, rfl, rfl, rfl, rfl, rfl⟩) (by intro o; go_simp)
  clear c36_0 c36_1 c36_2 c36_3 c36_4 c36_5 f36 c37_0
  go_wp2_with fail
  refine (HT.out _).mono ?_
  rintro e wE ⟨rfl, hb⟩
  obtain ⟨s39, c39_0, c39_1, c39_2, c39_3, c39_4, c39_5, f39⟩ := L6 hb (w.heap.size) (by first | omega | (simp only [sA, sC, sD, sE]; omega) | (simp; done) | (simp; omega)) (by go_simp; exact ⟨rfl, rfl, rfl, rfl, rfl, rfl⟩) (by intro o; go_simp)
  clear c38_0 c38_1 c38_2 c38_3 c38_4 c38_5 f38
  go_wp2_with fail
  refine (HM.out _).mono ?_
  rintro e wD ⟨rfl, hb⟩
  obtain ⟨s40, c40_0, c40_1, c40_2, c40_3, c40_4, c40_5, f40⟩ := L6 hb (w.heap.size) (by first | omega | (simp only [sA, sC, sD, sE]; omega) | (simp; done) | (simp; omega)) (by go_simp; exact ⟨rfl, rfl, rfl, rfl, rfl, rfl⟩) (by intro o; go_simp)
  clear c39_0 c39_1 c39_2 c39_3 c39_4 c39_5 f39
  go_wp2
  refine bodyPost_ret (v := .agg #[.int .i64 (R).k, .int .i64 (R).n, .int .i64 (R).d, .string (R).t, .bool (R).b, .int .i64 (R).f]) (by simp [results, Tryz.results46, go_sem, c40_0, c40_1, c40_2, c40_3, c40_4, c40_5]) rfl ⟨rfl, ?_⟩
  focus
    repeat with_reducible first | exact Below.refl _ _ | refine below_drewN ?_ _ | refine Below.drew ?_ | refine Below.setCell ?_ ?_ _ | refine Below.alloc ?_ ?_ _ | refine below_then ?_ ?_ (by with_reducible assumption)
    all_goals first | omega | (simp only [sA, sC, sD, sE]; omega) | (simp; done) | (simp; omega)
set_option maxRecDepth 100000 in
set_option maxHeartbeats 1000000 in
theorem rw_up (R : Vl) (U : ByteArray) (s : ByteArray) (a : Vl) (g off lc : Nat) (w : World) (hs : s.size ≤ 256) (HA : Hid (∀ wx : World, Calls Tryz.prog 86 #[.agg #[.int .i64 (a).k, .int .i64 (a).n, .int .i64 (a).d, .string (a).t, .bool (a).b, .int .i64 (a).f]] wx fun e w' => ∃ z : Vl, e = .returned (.tuple #[.string s, .agg #[.int .i64 (z).k, .int .i64 (z).n, .int .i64 (z).d, .string (z).t, .bool (z).b, .int .i64 (z).f]]) ∧ Below wx.heap.size wx w')) (hgw : g < w.heap.size) (hlc : 1 ≤ lc) (c0 : w.cell? ⟨g, off, none⟩ = some (.int .i64 a.k)) (c1 : w.cell? ⟨g, off + 1, none⟩ = some (.int .i64 a.n)) (c2 : w.cell? ⟨g, off + 2, none⟩ = some (.int .i64 a.d)) (c3 : w.cell? ⟨g, off + 3, none⟩ = some (.string a.t)) (c4 : w.cell? ⟨g, off + 4, none⟩ = some (.bool a.b)) (c5 : w.cell? ⟨g, off + 5, none⟩ = some (.int .i64 a.f)) (ns : List Nm) (HN : Hid (∀ wx, Below w.heap.size w wx → Calls Tryz.prog 91 #[.slice (some ⟨g, off, none⟩) 1 lc, .int .i64 1] wx fun e w' => ∃ (a2 : Option Addr) (c2 : Nat), e = .returned (.tuple #[.slice a2 0 c2, .agg #[.int .i64 0, .int .i64 0, .int .i64 0, .string ⟨#[]⟩, .bool false, .int .i64 0]]) ∧ Below wx.heap.size wx w' ∧ NmAt w' a2 ns)) (HC : Hid (∀ (wx : World) (a2 : Option Addr) (c2 h : Nat), NmAt wx a2 ns → h < wx.heap.size → wx.cell? ⟨h, 0, none⟩ = some (.int .i64 0) → Calls Tryz.prog 103 #[.slice a2 0 c2, .slice (some ⟨h, 0, none⟩) 1 1] wx fun e w' => ∃ (b : Option Addr) (cap : Nat), e = .returned (.tuple #[.slice b 0 cap, .bool true]) ∧ Below wx.heap.size wx w' ∧ True)) (HT : Hid (∀ wx : World, Calls Tryz.prog 105 #[.string s, .bool true] wx fun e w' => e = .returned (.string U) ∧ Below wx.heap.size wx w')) (HM : Hid (∀ wx : World, Calls Tryz.prog 87 #[.string U] wx fun e w' => e = .returned (.agg #[.int .i64 (R).k, .int .i64 (R).n, .int .i64 (R).d, .string (R).t, .bool (R).b, .int .i64 (R).f]) ∧ Below wx.heap.size wx w')) :
    Calls Tryz.prog 46 #[.int .i64 54, .slice (some ⟨g, off, none⟩) 1 lc] w fun e w' => e = .returned (.agg #[.int .i64 (R).k, .int .i64 (R).n, .int .i64 (R).d, .string (R).t, .bool (R).b, .int .i64 (R).f]) ∧ Below w.heap.size w w' := by
  go_enter Tryz.func46, Tryz.ntmps46
  go_wp2_with fail
  refine (HA.out _).mono ?_
  rintro e wA ⟨z, rfl, hb⟩
  obtain ⟨s41, c41_0, c41_1, c41_2, c41_3, c41_4, c41_5, f41⟩ := L6 hb (w.heap.size) (by first | omega | (simp only [sA, sC, sD, sE]; omega) | (simp; done) | (simp; omega)) (by go_simp; exact ⟨rfl, rfl, rfl, rfl, rfl, rfl⟩) (by intro o; go_simp)
  go_wp2_with fail
  refine (HN.out _ ?_).mono ?_
  · skip
    focus
      repeat with_reducible first | exact Below.refl _ _ | refine below_drewN ?_ _ | refine Below.drew ?_ | refine Below.setCell ?_ ?_ _ | refine Below.alloc ?_ ?_ _ | refine below_then ?_ ?_ (by with_reducible assumption)
      all_goals first | omega | (simp only [sA, sC, sD, sE]; omega) | (simp; done) | (simp; omega)
  rintro e wB ⟨a2, c2', rfl, hb, hNm⟩
  obtain ⟨s42, c42_0, c42_1, c42_2, c42_3, c42_4, c42_5, f42⟩ := L6 hb (w.heap.size) (by first | omega | (simp only [sA, sC, sD, sE]; omega) | (simp; done) | (simp; omega)) (by go_simp; exact ⟨rfl, rfl, rfl, rfl, rfl, rfl⟩) (by intro o; go_simp)
  clear c41_0 c41_1 c41_2 c41_3 c41_4 c41_5 f41
  go_upto_region 16 with (fail)
  first | with_reducible refine wp_rebase ?_ | with_reducible refine wpList_rebase ?_
  intro w1 hb'
  have hb := hb'.out
  clear hb'
  obtain ⟨s43, c43_0, c43_1, c43_2, c43_3, c43_4, c43_5, f43⟩ := L6 hb (w.heap.size) (by first | omega | (simp only [sA, sC, sD, sE]; omega) | (simp; done) | (simp; omega)) (by go_simp; exact ⟨rfl, rfl, rfl, rfl, rfl, rfl⟩) (by intro o; go_simp)
  obtain ⟨s44, c44_0⟩ := L1r hb (wB.heap.size + 1) (by first | omega | (simp only [sA, sC, sD, sE]; omega) | (simp; done) | (simp; omega)) (by go_simp; exact rfl)
  clear c42_0 c42_1 c42_2 c42_3 c42_4 c42_5 f42
  have hNm2 : NmAt w1 a2 ns := by
    refine hNm.below ?_
    focus
      repeat with_reducible first | exact Below.refl _ _ | refine below_drewN ?_ _ | refine Below.drew ?_ | refine Below.setCell ?_ ?_ _ | refine Below.alloc ?_ ?_ _ | refine below_then ?_ ?_ (by with_reducible assumption)
      all_goals first | omega | (simp only [sA, sC, sD, sE]; omega) | (simp; done) | (simp; omega)
  clear hNm
  go_wp2_with fail
  refine (HC.out _ _ _ (wB.heap.size + 1) hNm2 (by omega) (by assumption)).mono ?_
  rintro e wC ⟨b2, cap, rfl, hb, -⟩
  obtain ⟨s45, c45_0, c45_1, c45_2, c45_3, c45_4, c45_5, f45⟩ := L6 hb (w.heap.size) (by first | omega | (simp only [sA, sC, sD, sE]; omega) | (simp; done) | (simp; omega)) (by go_simp; exact ⟨rfl, rfl, rfl, rfl, rfl, rfl⟩) (by intro o; go_simp)
  clear c43_0 c43_1 c43_2 c43_3 c43_4 c43_5 f43 c44_0
  go_wp2_with fail
  refine (HT.out _).mono ?_
  rintro e wE ⟨rfl, hb⟩
  obtain ⟨s46, c46_0, c46_1, c46_2, c46_3, c46_4, c46_5, f46⟩ := L6 hb (w.heap.size) (by first | omega | (simp only [sA, sC, sD, sE]; omega) | (simp; done) | (simp; omega)) (by go_simp; exact ⟨rfl, rfl, rfl, rfl, rfl, rfl⟩) (by intro o; go_simp)
  clear c45_0 c45_1 c45_2 c45_3 c45_4 c45_5 f45
  go_wp2_with fail
  refine (HM.out _).mono ?_
  rintro e wD ⟨rfl, hb⟩
  obtain ⟨s47, c47_0, c47_1, c47_2, c47_3, c47_4, c47_5, f47⟩ := L6 hb (w.heap.size) (by first | omega | (simp only [sA, sC, sD, sE]; omega) | (simp; done) | (simp; omega)) (by go_simp; exact ⟨rfl, rfl, rfl, rfl, rfl, rfl⟩) (by intro o; go_simp)
  clear c46_0 c46_1 c46_2 c46_3 c46_4 c46_5 f46
  go_wp2
  refine bodyPost_ret (v := .agg #[.int .i64 (R).k, .int .i64 (R).n, .int .i64 (R).d, .string (R).t, .bool (R).b, .int .i64 (R).f]) (by simp [results, Tryz.results46, go_sem, c47_0, c47_1, c47_2, c47_3, c47_4, c47_5]) rfl ⟨rfl, ?_⟩
  focus
    repeat with_reducible first | exact Below.refl _ _ | refine below_drewN ?_ _ | refine Below.drew ?_ | refine Below.setCell ?_ ?_ _ | refine Below.alloc ?_ ?_ _ | refine below_then ?_ ?_ (by with_reducible assumption)
    all_goals first | omega | (simp only [sA, sC, sD, sE]; omega) | (simp; done) | (simp; omega)
set_option maxRecDepth 100000 in
set_option maxHeartbeats 1000000 in
theorem rw_lo (R : Vl) (U : ByteArray) (s : ByteArray) (a : Vl) (g off lc : Nat) (w : World) (hs : s.size ≤ 256) (HA : Hid (∀ wx : World, Calls Tryz.prog 86 #[.agg #[.int .i64 (a).k, .int .i64 (a).n, .int .i64 (a).d, .string (a).t, .bool (a).b, .int .i64 (a).f]] wx fun e w' => ∃ z : Vl, e = .returned (.tuple #[.string s, .agg #[.int .i64 (z).k, .int .i64 (z).n, .int .i64 (z).d, .string (z).t, .bool (z).b, .int .i64 (z).f]]) ∧ Below wx.heap.size wx w')) (hgw : g < w.heap.size) (hlc : 1 ≤ lc) (c0 : w.cell? ⟨g, off, none⟩ = some (.int .i64 a.k)) (c1 : w.cell? ⟨g, off + 1, none⟩ = some (.int .i64 a.n)) (c2 : w.cell? ⟨g, off + 2, none⟩ = some (.int .i64 a.d)) (c3 : w.cell? ⟨g, off + 3, none⟩ = some (.string a.t)) (c4 : w.cell? ⟨g, off + 4, none⟩ = some (.bool a.b)) (c5 : w.cell? ⟨g, off + 5, none⟩ = some (.int .i64 a.f)) (ns : List Nm) (HN : Hid (∀ wx, Below w.heap.size w wx → Calls Tryz.prog 91 #[.slice (some ⟨g, off, none⟩) 1 lc, .int .i64 1] wx fun e w' => ∃ (a2 : Option Addr) (c2 : Nat), e = .returned (.tuple #[.slice a2 0 c2, .agg #[.int .i64 0, .int .i64 0, .int .i64 0, .string ⟨#[]⟩, .bool false, .int .i64 0]]) ∧ Below wx.heap.size wx w' ∧ NmAt w' a2 ns)) (HC : Hid (∀ (wx : World) (a2 : Option Addr) (c2 h : Nat), NmAt wx a2 ns → h < wx.heap.size → wx.cell? ⟨h, 0, none⟩ = some (.int .i64 0) → Calls Tryz.prog 103 #[.slice a2 0 c2, .slice (some ⟨h, 0, none⟩) 1 1] wx fun e w' => ∃ (b : Option Addr) (cap : Nat), e = .returned (.tuple #[.slice b 0 cap, .bool true]) ∧ Below wx.heap.size wx w' ∧ True)) (HT : Hid (∀ wx : World, Calls Tryz.prog 105 #[.string s, .bool false] wx fun e w' => e = .returned (.string U) ∧ Below wx.heap.size wx w')) (HM : Hid (∀ wx : World, Calls Tryz.prog 87 #[.string U] wx fun e w' => e = .returned (.agg #[.int .i64 (R).k, .int .i64 (R).n, .int .i64 (R).d, .string (R).t, .bool (R).b, .int .i64 (R).f]) ∧ Below wx.heap.size wx w')) :
    Calls Tryz.prog 46 #[.int .i64 55, .slice (some ⟨g, off, none⟩) 1 lc] w fun e w' => e = .returned (.agg #[.int .i64 (R).k, .int .i64 (R).n, .int .i64 (R).d, .string (R).t, .bool (R).b, .int .i64 (R).f]) ∧ Below w.heap.size w w' := by
  go_enter Tryz.func46, Tryz.ntmps46
  go_wp2_with fail
  refine (HA.out _).mono ?_
  rintro e wA ⟨z, rfl, hb⟩
  obtain ⟨s48, c48_0, c48_1, c48_2, c48_3, c48_4, c48_5, f48⟩ := L6 hb (w.heap.size) (by first | omega | (simp only [sA, sC, sD, sE]; omega) | (simp; done) | (simp; omega)) (by go_simp; exact ⟨rfl, rfl, rfl, rfl, rfl, rfl⟩) (by intro o; go_simp)
  go_wp2_with fail
  refine (HN.out _ ?_).mono ?_
  · skip
    focus
      repeat with_reducible first | exact Below.refl _ _ | refine below_drewN ?_ _ | refine Below.drew ?_ | refine Below.setCell ?_ ?_ _ | refine Below.alloc ?_ ?_ _ | refine below_then ?_ ?_ (by with_reducible assumption)
      all_goals first | omega | (simp only [sA, sC, sD, sE]; omega) | (simp; done) | (simp; omega)
  rintro e wB ⟨a2, c2', rfl, hb, hNm⟩
  obtain ⟨s49, c49_0, c49_1, c49_2, c49_3, c49_4, c49_5, f49⟩ := L6 hb (w.heap.size) (by first | omega | (simp only [sA, sC, sD, sE]; omega) | (simp; done) | (simp; omega)) (by go_simp; exact ⟨rfl, rfl, rfl, rfl, rfl, rfl⟩) (by intro o; go_simp)
  clear c48_0 c48_1 c48_2 c48_3 c48_4 c48_5 f48
  go_upto_region 16 with (fail)
  first | with_reducible refine wp_rebase ?_ | with_reducible refine wpList_rebase ?_
  intro w1 hb'
  have hb := hb'.out
  clear hb'
  obtain ⟨s50, c50_0, c50_1, c50_2, c50_3, c50_4, c50_5, f50⟩ := L6 hb (w.heap.size) (by first | omega | (simp only [sA, sC, sD, sE]; omega) | (simp; done) | (simp; omega)) (by go_simp; exact ⟨rfl, rfl, rfl, rfl, rfl, rfl⟩) (by intro o; go_simp)
  obtain ⟨s51, c51_0⟩ := L1r hb (wB.heap.size + 1) (by first | omega | (simp only [sA, sC, sD, sE]; omega) | (simp; done) | (simp; omega)) (by go_simp; exact rfl)
  clear c49_0 c49_1 c49_2 c49_3 c49_4 c49_5 f49
  have hNm2 : NmAt w1 a2 ns := by
    refine hNm.below ?_
    focus
      repeat with_reducible first | exact Below.refl _ _ | refine below_drewN ?_ _ | refine Below.drew ?_ | refine Below.setCell ?_ ?_ _ | refine Below.alloc ?_ ?_ _ | refine below_then ?_ ?_ (by with_reducible assumption)
      all_goals first | omega | (simp only [sA, sC, sD, sE]; omega) | (simp; done) | (simp; omega)
  clear hNm
  go_wp2_with fail
  refine (HC.out _ _ _ (wB.heap.size + 1) hNm2 (by omega) (by assumption)).mono ?_
  rintro e wC ⟨b2, cap, rfl, hb, -⟩
  obtain ⟨s52, c52_0, c52_1, c52_2, c52_3, c52_4, c52_5, f52⟩ := L6 hb (w.heap.size) (by first | omega | (simp only [sA, sC, sD, sE]; omega) | (simp; done) | (simp; omega)) (by go_simp; exact ⟨rfl, rfl, rfl, rfl, rfl, rfl⟩) (by intro o; go_simp)
  clear c50_0 c50_1 c50_2 c50_3 c50_4 c50_5 f50 c51_0
  go_wp2_with fail
  refine (HT.out _).mono ?_
  rintro e wE ⟨rfl, hb⟩
  obtain ⟨s53, c53_0, c53_1, c53_2, c53_3, c53_4, c53_5, f53⟩ := L6 hb (w.heap.size) (by first | omega | (simp only [sA, sC, sD, sE]; omega) | (simp; done) | (simp; omega)) (by go_simp; exact ⟨rfl, rfl, rfl, rfl, rfl, rfl⟩) (by intro o; go_simp)
  clear c52_0 c52_1 c52_2 c52_3 c52_4 c52_5 f52
  go_wp2_with fail
  refine (HM.out _).mono ?_
  rintro e wD ⟨rfl, hb⟩
  obtain ⟨s54, c54_0, c54_1, c54_2, c54_3, c54_4, c54_5, f54⟩ := L6 hb (w.heap.size) (by first | omega | (simp only [sA, sC, sD, sE]; omega) | (simp; done) | (simp; omega)) (by go_simp; exact ⟨rfl, rfl, rfl, rfl, rfl, rfl⟩) (by intro o; go_simp)
  clear c53_0 c53_1 c53_2 c53_3 c53_4 c53_5 f53
  go_wp2
  refine bodyPost_ret (v := .agg #[.int .i64 (R).k, .int .i64 (R).n, .int .i64 (R).d, .string (R).t, .bool (R).b, .int .i64 (R).f]) (by simp [results, Tryz.results46, go_sem, c54_0, c54_1, c54_2, c54_3, c54_4, c54_5]) rfl ⟨rfl, ?_⟩
  focus
    repeat with_reducible first | exact Below.refl _ _ | refine below_drewN ?_ _ | refine Below.drew ?_ | refine Below.setCell ?_ ?_ _ | refine Below.alloc ?_ ?_ _ | refine below_then ?_ ?_ (by with_reducible assumption)
    all_goals first | omega | (simp only [sA, sC, sD, sE]; omega) | (simp; done) | (simp; omega)
set_option maxRecDepth 100000 in
set_option maxHeartbeats 1000000 in
theorem rw_left1 (R : Vl) (U : ByteArray) (s : ByteArray) (a : Vl) (g off lc : Nat) (w : World) (hs : s.size ≤ 256) (HA : Hid (∀ wx : World, Calls Tryz.prog 86 #[.agg #[.int .i64 (a).k, .int .i64 (a).n, .int .i64 (a).d, .string (a).t, .bool (a).b, .int .i64 (a).f]] wx fun e w' => ∃ z : Vl, e = .returned (.tuple #[.string s, .agg #[.int .i64 (z).k, .int .i64 (z).n, .int .i64 (z).d, .string (z).t, .bool (z).b, .int .i64 (z).f]]) ∧ Below wx.heap.size wx w')) (hgw : g < w.heap.size) (hlc : 1 ≤ lc) (c0 : w.cell? ⟨g, off, none⟩ = some (.int .i64 a.k)) (c1 : w.cell? ⟨g, off + 1, none⟩ = some (.int .i64 a.n)) (c2 : w.cell? ⟨g, off + 2, none⟩ = some (.int .i64 a.d)) (c3 : w.cell? ⟨g, off + 3, none⟩ = some (.string a.t)) (c4 : w.cell? ⟨g, off + 4, none⟩ = some (.bool a.b)) (c5 : w.cell? ⟨g, off + 5, none⟩ = some (.int .i64 a.f)) (ns : List Nm) (HN : Hid (∀ wx, Below w.heap.size w wx → Calls Tryz.prog 91 #[.slice (some ⟨g, off, none⟩) 1 lc, .int .i64 1] wx fun e w' => ∃ (a2 : Option Addr) (c2 : Nat), e = .returned (.tuple #[.slice a2 0 c2, .agg #[.int .i64 0, .int .i64 0, .int .i64 0, .string ⟨#[]⟩, .bool false, .int .i64 0]]) ∧ Below wx.heap.size wx w' ∧ NmAt w' a2 ns)) (HC : Hid (∀ (wx : World) (a2 : Option Addr) (c2 h : Nat), NmAt wx a2 ns → h < wx.heap.size → wx.cell? ⟨h, 0, none⟩ = some (.int .i64 0) → Calls Tryz.prog 103 #[.slice a2 0 c2, .slice (some ⟨h, 0, none⟩) 1 1] wx fun e w' => ∃ (b : Option Addr) (cap : Nat), e = .returned (.tuple #[.slice b 0 cap, .bool true]) ∧ Below wx.heap.size wx w' ∧ True)) (HE : Hid (s.extract 0 (min (1 : Int) (s.size : Int)).toNat = U)) (HM : Hid (∀ wx : World, Calls Tryz.prog 87 #[.string U] wx fun e w' => e = .returned (.agg #[.int .i64 (R).k, .int .i64 (R).n, .int .i64 (R).d, .string (R).t, .bool (R).b, .int .i64 (R).f]) ∧ Below wx.heap.size wx w')) :
    Calls Tryz.prog 46 #[.int .i64 49, .slice (some ⟨g, off, none⟩) 1 lc] w fun e w' => e = .returned (.agg #[.int .i64 (R).k, .int .i64 (R).n, .int .i64 (R).d, .string (R).t, .bool (R).b, .int .i64 (R).f]) ∧ Below w.heap.size w w' := by
  go_enter Tryz.func46, Tryz.ntmps46
  go_wp2_with fail
  refine (HA.out _).mono ?_
  rintro e wA ⟨z, rfl, hb⟩
  obtain ⟨s55, c55_0, c55_1, c55_2, c55_3, c55_4, c55_5, f55⟩ := L6 hb (w.heap.size) (by first | omega | (simp only [sA, sC, sD, sE]; omega) | (simp; done) | (simp; omega)) (by go_simp; exact ⟨rfl, rfl, rfl, rfl, rfl, rfl⟩) (by intro o; go_simp)
  go_wp2_with fail
  refine (HN.out _ ?_).mono ?_
  · skip
    focus
      repeat with_reducible first | exact Below.refl _ _ | refine below_drewN ?_ _ | refine Below.drew ?_ | refine Below.setCell ?_ ?_ _ | refine Below.alloc ?_ ?_ _ | refine below_then ?_ ?_ (by with_reducible assumption)
      all_goals first | omega | (simp only [sA, sC, sD, sE]; omega) | (simp; done) | (simp; omega)
  rintro e wB ⟨a2, c2', rfl, hb, hNm⟩
  obtain ⟨s56, c56_0, c56_1, c56_2, c56_3, c56_4, c56_5, f56⟩ := L6 hb (w.heap.size) (by first | omega | (simp only [sA, sC, sD, sE]; omega) | (simp; done) | (simp; omega)) (by go_simp; exact ⟨rfl, rfl, rfl, rfl, rfl, rfl⟩) (by intro o; go_simp)
  clear c55_0 c55_1 c55_2 c55_3 c55_4 c55_5 f55
  go_upto_region 16 with (fail)
  first | with_reducible refine wp_rebase ?_ | with_reducible refine wpList_rebase ?_
  intro w1 hb'
  have hb := hb'.out
  clear hb'
  obtain ⟨s57, c57_0, c57_1, c57_2, c57_3, c57_4, c57_5, f57⟩ := L6 hb (w.heap.size) (by first | omega | (simp only [sA, sC, sD, sE]; omega) | (simp; done) | (simp; omega)) (by go_simp; exact ⟨rfl, rfl, rfl, rfl, rfl, rfl⟩) (by intro o; go_simp)
  obtain ⟨s58, c58_0⟩ := L1r hb (wB.heap.size + 1) (by first | omega | (simp only [sA, sC, sD, sE]; omega) | (simp; done) | (simp; omega)) (by go_simp; exact rfl)
  clear c56_0 c56_1 c56_2 c56_3 c56_4 c56_5 f56
  have hNm2 : NmAt w1 a2 ns := by
    refine hNm.below ?_
    focus
      repeat with_reducible first | exact Below.refl _ _ | refine below_drewN ?_ _ | refine Below.drew ?_ | refine Below.setCell ?_ ?_ _ | refine Below.alloc ?_ ?_ _ | refine below_then ?_ ?_ (by with_reducible assumption)
      all_goals first | omega | (simp only [sA, sC, sD, sE]; omega) | (simp; done) | (simp; omega)
  clear hNm
  go_wp2_with fail
  refine (HC.out _ _ _ (wB.heap.size + 1) hNm2 (by omega) (by assumption)).mono ?_
  rintro e wC ⟨b2, cap, rfl, hb, -⟩
  obtain ⟨s59, c59_0, c59_1, c59_2, c59_3, c59_4, c59_5, f59⟩ := L6 hb (w.heap.size) (by first | omega | (simp only [sA, sC, sD, sE]; omega) | (simp; done) | (simp; omega)) (by go_simp; exact ⟨rfl, rfl, rfl, rfl, rfl, rfl⟩) (by intro o; go_simp)
  clear c57_0 c57_1 c57_2 c57_3 c57_4 c57_5 f57 c58_0
  go_wp2_with fail
  rw [HE.out]
  refine (HM.out _).mono ?_
  rintro e wD ⟨rfl, hb⟩
  obtain ⟨s60, c60_0, c60_1, c60_2, c60_3, c60_4, c60_5, f60⟩ := L6 hb (w.heap.size) (by first | omega | (simp only [sA, sC, sD, sE]; omega) | (simp; done) | (simp; omega)) (by go_simp; exact ⟨rfl, rfl, rfl, rfl, rfl, rfl⟩) (by intro o; go_simp)
  clear c59_0 c59_1 c59_2 c59_3 c59_4 c59_5 f59
  go_wp2
  refine bodyPost_ret (v := .agg #[.int .i64 (R).k, .int .i64 (R).n, .int .i64 (R).d, .string (R).t, .bool (R).b, .int .i64 (R).f]) (by simp [results, Tryz.results46, go_sem, c60_0, c60_1, c60_2, c60_3, c60_4, c60_5]) rfl ⟨rfl, ?_⟩
  focus
    repeat with_reducible first | exact Below.refl _ _ | refine below_drewN ?_ _ | refine Below.drew ?_ | refine Below.setCell ?_ ?_ _ | refine Below.alloc ?_ ?_ _ | refine below_then ?_ ?_ (by with_reducible assumption)
    all_goals first | omega | (simp only [sA, sC, sD, sE]; omega) | (simp; done) | (simp; omega)
set_option maxRecDepth 100000 in
set_option maxHeartbeats 1000000 in
theorem rw_left2 (R : Vl) (U : ByteArray) (s : ByteArray) (a : Vl) (g off lc : Nat) (w : World) (hs : s.size ≤ 256) (HA : Hid (∀ wx : World, Calls Tryz.prog 86 #[.agg #[.int .i64 (a).k, .int .i64 (a).n, .int .i64 (a).d, .string (a).t, .bool (a).b, .int .i64 (a).f]] wx fun e w' => ∃ z : Vl, e = .returned (.tuple #[.string s, .agg #[.int .i64 (z).k, .int .i64 (z).n, .int .i64 (z).d, .string (z).t, .bool (z).b, .int .i64 (z).f]]) ∧ Below wx.heap.size wx w')) (hgw : g < w.heap.size) (hlc : 2 ≤ lc) (c0 : w.cell? ⟨g, off, none⟩ = some (.int .i64 a.k)) (c1 : w.cell? ⟨g, off + 1, none⟩ = some (.int .i64 a.n)) (c2 : w.cell? ⟨g, off + 2, none⟩ = some (.int .i64 a.d)) (c3 : w.cell? ⟨g, off + 3, none⟩ = some (.string a.t)) (c4 : w.cell? ⟨g, off + 4, none⟩ = some (.bool a.b)) (c5 : w.cell? ⟨g, off + 5, none⟩ = some (.int .i64 a.f)) (ns : List Nm) (HN : Hid (∀ wx, Below w.heap.size w wx → Calls Tryz.prog 91 #[.slice (some ⟨g, off, none⟩) 2 lc, .int .i64 1] wx fun e w' => ∃ (a2 : Option Addr) (c2 : Nat), e = .returned (.tuple #[.slice a2 1 c2, .agg #[.int .i64 0, .int .i64 0, .int .i64 0, .string ⟨#[]⟩, .bool false, .int .i64 0]]) ∧ Below wx.heap.size wx w' ∧ NmAt w' a2 ns)) (K : Nat) (HC : Hid (∀ (wx : World) (a2 : Option Addr) (c2 h : Nat), NmAt wx a2 ns → h < wx.heap.size → wx.cell? ⟨h, 0, none⟩ = some (.int .i64 0) → Calls Tryz.prog 103 #[.slice a2 1 c2, .slice (some ⟨h, 0, none⟩) 1 1] wx fun e w' => ∃ (b : Option Addr) (cap : Nat), e = .returned (.tuple #[.slice b 1 cap, .bool true]) ∧ Below wx.heap.size wx w' ∧ ∃ g2 : Nat, b = some ⟨g2, 0, none⟩ ∧ 1 ≤ cap ∧ g2 < w'.heap.size ∧ w'.cell? ⟨g2, 0, none⟩ = some (.int .i64 K))) (HE : Hid (s.extract 0 (min (K : Int) (s.size : Int)).toNat = U)) (HM : Hid (∀ wx : World, Calls Tryz.prog 87 #[.string U] wx fun e w' => e = .returned (.agg #[.int .i64 (R).k, .int .i64 (R).n, .int .i64 (R).d, .string (R).t, .bool (R).b, .int .i64 (R).f]) ∧ Below wx.heap.size wx w')) :
    Calls Tryz.prog 46 #[.int .i64 49, .slice (some ⟨g, off, none⟩) 2 lc] w fun e w' => e = .returned (.agg #[.int .i64 (R).k, .int .i64 (R).n, .int .i64 (R).d, .string (R).t, .bool (R).b, .int .i64 (R).f]) ∧ Below w.heap.size w w' := by
  go_enter Tryz.func46, Tryz.ntmps46
  go_wp2_with fail
  refine (HA.out _).mono ?_
  rintro e wA ⟨z, rfl, hb⟩
  obtain ⟨s61, c61_0, c61_1, c61_2, c61_3, c61_4, c61_5, f61⟩ := L6 hb (w.heap.size) (by first | omega | (simp only [sA, sC, sD, sE]; omega) | (simp; done) | (simp; omega)) (by go_simp; exact ⟨rfl, rfl, rfl, rfl, rfl, rfl⟩) (by intro o; go_simp)
  go_wp2_with fail
  refine (HN.out _ ?_).mono ?_
  · skip
    focus
      repeat with_reducible first | exact Below.refl _ _ | refine below_drewN ?_ _ | refine Below.drew ?_ | refine Below.setCell ?_ ?_ _ | refine Below.alloc ?_ ?_ _ | refine below_then ?_ ?_ (by with_reducible assumption)
      all_goals first | omega | (simp only [sA, sC, sD, sE]; omega) | (simp; done) | (simp; omega)
  rintro e wB ⟨a2, c2', rfl, hb, hNm⟩
  obtain ⟨s62, c62_0, c62_1, c62_2, c62_3, c62_4, c62_5, f62⟩ := L6 hb (w.heap.size) (by first | omega | (simp only [sA, sC, sD, sE]; omega) | (simp; done) | (simp; omega)) (by go_simp; exact ⟨rfl, rfl, rfl, rfl, rfl, rfl⟩) (by intro o; go_simp)
  clear c61_0 c61_1 c61_2 c61_3 c61_4 c61_5 f61
  go_upto_region 16 with (fail)
  first | with_reducible refine wp_rebase ?_ | with_reducible refine wpList_rebase ?_
  intro w1 hb'
  have hb := hb'.out
  clear hb'
  obtain ⟨s63, c63_0, c63_1, c63_2, c63_3, c63_4, c63_5, f63⟩ := L6 hb (w.heap.size) (by first | omega | (simp only [sA, sC, sD, sE]; omega) | (simp; done) | (simp; omega)) (by go_simp; exact ⟨rfl, rfl, rfl, rfl, rfl, rfl⟩) (by intro o; go_simp)
  obtain ⟨s64, c64_0⟩ := L1r hb (wB.heap.size + 1) (by first | omega | (simp only [sA, sC, sD, sE]; omega) | (simp; done) | (simp; omega)) (by go_simp; exact rfl)
  clear c62_0 c62_1 c62_2 c62_3 c62_4 c62_5 f62
  have hNm2 : NmAt w1 a2 ns := by
    refine hNm.below ?_
    focus
      repeat with_reducible first | exact Below.refl _ _ | refine below_drewN ?_ _ | refine Below.drew ?_ | refine Below.setCell ?_ ?_ _ | refine Below.alloc ?_ ?_ _ | refine below_then ?_ ?_ (by with_reducible assumption)
      all_goals first | omega | (simp only [sA, sC, sD, sE]; omega) | (simp; done) | (simp; omega)
  clear hNm
  go_wp2_with fail
  refine (HC.out _ _ _ (wB.heap.size + 1) hNm2 (by omega) (by assumption)).mono ?_
  rintro e wC ⟨b2, cap, rfl, hb, g2, rfl, hcap, hg2, k0⟩
  obtain ⟨s65, c65_0, c65_1, c65_2, c65_3, c65_4, c65_5, f65⟩ := L6 hb (w.heap.size) (by first | omega | (simp only [sA, sC, sD, sE]; omega) | (simp; done) | (simp; omega)) (by go_simp; exact ⟨rfl, rfl, rfl, rfl, rfl, rfl⟩) (by intro o; go_simp)
  clear c63_0 c63_1 c63_2 c63_3 c63_4 c63_5 f63 c64_0
  go_wp2_with fail
  rw [HE.out]
  refine (HM.out _).mono ?_
  rintro e wD ⟨rfl, hb⟩
  obtain ⟨s66, c66_0, c66_1, c66_2, c66_3, c66_4, c66_5, f66⟩ := L6 hb (w.heap.size) (by first | omega | (simp only [sA, sC, sD, sE]; omega) | (simp; done) | (simp; omega)) (by go_simp; exact ⟨rfl, rfl, rfl, rfl, rfl, rfl⟩) (by intro o; go_simp)
  clear c65_0 c65_1 c65_2 c65_3 c65_4 c65_5 f65
  go_wp2
  refine bodyPost_ret (v := .agg #[.int .i64 (R).k, .int .i64 (R).n, .int .i64 (R).d, .string (R).t, .bool (R).b, .int .i64 (R).f]) (by simp [results, Tryz.results46, go_sem, c66_0, c66_1, c66_2, c66_3, c66_4, c66_5]) rfl ⟨rfl, ?_⟩
  focus
    repeat with_reducible first | exact Below.refl _ _ | refine below_drewN ?_ _ | refine Below.drew ?_ | refine Below.setCell ?_ ?_ _ | refine Below.alloc ?_ ?_ _ | refine below_then ?_ ?_ (by with_reducible assumption)
    all_goals first | omega | (simp only [sA, sC, sD, sE]; omega) | (simp; done) | (simp; omega)
set_option maxRecDepth 100000 in
set_option maxHeartbeats 1000000 in
theorem rw_right1 (R : Vl) (U : ByteArray) (s : ByteArray) (a : Vl) (g off lc : Nat) (w : World) (hs : s.size ≤ 256) (HA : Hid (∀ wx : World, Calls Tryz.prog 86 #[.agg #[.int .i64 (a).k, .int .i64 (a).n, .int .i64 (a).d, .string (a).t, .bool (a).b, .int .i64 (a).f]] wx fun e w' => ∃ z : Vl, e = .returned (.tuple #[.string s, .agg #[.int .i64 (z).k, .int .i64 (z).n, .int .i64 (z).d, .string (z).t, .bool (z).b, .int .i64 (z).f]]) ∧ Below wx.heap.size wx w')) (hgw : g < w.heap.size) (hlc : 1 ≤ lc) (c0 : w.cell? ⟨g, off, none⟩ = some (.int .i64 a.k)) (c1 : w.cell? ⟨g, off + 1, none⟩ = some (.int .i64 a.n)) (c2 : w.cell? ⟨g, off + 2, none⟩ = some (.int .i64 a.d)) (c3 : w.cell? ⟨g, off + 3, none⟩ = some (.string a.t)) (c4 : w.cell? ⟨g, off + 4, none⟩ = some (.bool a.b)) (c5 : w.cell? ⟨g, off + 5, none⟩ = some (.int .i64 a.f)) (ns : List Nm) (HN : Hid (∀ wx, Below w.heap.size w wx → Calls Tryz.prog 91 #[.slice (some ⟨g, off, none⟩) 1 lc, .int .i64 1] wx fun e w' => ∃ (a2 : Option Addr) (c2 : Nat), e = .returned (.tuple #[.slice a2 0 c2, .agg #[.int .i64 0, .int .i64 0, .int .i64 0, .string ⟨#[]⟩, .bool false, .int .i64 0]]) ∧ Below wx.heap.size wx w' ∧ NmAt w' a2 ns)) (HC : Hid (∀ (wx : World) (a2 : Option Addr) (c2 h : Nat), NmAt wx a2 ns → h < wx.heap.size → wx.cell? ⟨h, 0, none⟩ = some (.int .i64 0) → Calls Tryz.prog 103 #[.slice a2 0 c2, .slice (some ⟨h, 0, none⟩) 1 1] wx fun e w' => ∃ (b : Option Addr) (cap : Nat), e = .returned (.tuple #[.slice b 0 cap, .bool true]) ∧ Below wx.heap.size wx w' ∧ True)) (HE : Hid (s.extract ((s.size : Int) - min (1 : Int) (s.size : Int)).toNat s.size = U)) (HM : Hid (∀ wx : World, Calls Tryz.prog 87 #[.string U] wx fun e w' => e = .returned (.agg #[.int .i64 (R).k, .int .i64 (R).n, .int .i64 (R).d, .string (R).t, .bool (R).b, .int .i64 (R).f]) ∧ Below wx.heap.size wx w')) :
    Calls Tryz.prog 46 #[.int .i64 50, .slice (some ⟨g, off, none⟩) 1 lc] w fun e w' => e = .returned (.agg #[.int .i64 (R).k, .int .i64 (R).n, .int .i64 (R).d, .string (R).t, .bool (R).b, .int .i64 (R).f]) ∧ Below w.heap.size w w' := by
  go_enter Tryz.func46, Tryz.ntmps46
  go_wp2_with fail
  refine (HA.out _).mono ?_
  rintro e wA ⟨z, rfl, hb⟩
  obtain ⟨s67, c67_0, c67_1, c67_2, c67_3, c67_4, c67_5, f67⟩ := L6 hb (w.heap.size) (by first | omega | (simp only [sA, sC, sD, sE]; omega) | (simp; done) | (simp; omega)) (by go_simp; exact ⟨rfl, rfl, rfl, rfl, rfl, rfl⟩) (by intro o; go_simp)
  go_wp2_with fail
  refine (HN.out _ ?_).mono ?_
  · skip
    focus
      repeat with_reducible first | exact Below.refl _ _ | refine below_drewN ?_ _ | refine Below.drew ?_ | refine Below.setCell ?_ ?_ _ | refine Below.alloc ?_ ?_ _ | refine below_then ?_ ?_ (by with_reducible assumption)
      all_goals first | omega | (simp only [sA, sC, sD, sE]; omega) | (simp; done) | (simp; omega)
  rintro e wB ⟨a2, c2', rfl, hb, hNm⟩
  obtain ⟨s68, c68_0, c68_1, c68_2, c68_3, c68_4, c68_5, f68⟩ := L6 hb (w.heap.size) (by first | omega | (simp only [sA, sC, sD, sE]; omega) | (simp; done) | (simp; omega)) (by go_simp; exact ⟨rfl, rfl, rfl, rfl, rfl, rfl⟩) (by intro o; go_simp)
  clear c67_0 c67_1 c67_2 c67_3 c67_4 c67_5 f67
  go_upto_region 16 with (fail)
  first | with_reducible refine wp_rebase ?_ | with_reducible refine wpList_rebase ?_
  intro w1 hb'
  have hb := hb'.out
  clear hb'
  obtain ⟨s69, c69_0, c69_1, c69_2, c69_3, c69_4, c69_5, f69⟩ := L6 hb (w.heap.size) (by first | omega | (simp only [sA, sC, sD, sE]; omega) | (simp; done) | (simp; omega)) (by go_simp; exact ⟨rfl, rfl, rfl, rfl, rfl, rfl⟩) (by intro o; go_simp)
  obtain ⟨s70, c70_0⟩ := L1r hb (wB.heap.size + 1) (by first | omega | (simp only [sA, sC, sD, sE]; omega) | (simp; done) | (simp; omega)) (by go_simp; exact rfl)
  clear c68_0 c68_1 c68_2 c68_3 c68_4 c68_5 f68
  have hNm2 : NmAt w1 a2 ns := by
    refine hNm.below ?_
    focus
      repeat with_reducible first | exact Below.refl _ _ | refine below_drewN ?_ _ | refine Below.drew ?_ | refine Below.setCell ?_ ?_ _ | refine Below.alloc ?_ ?_ _ | refine below_then ?_ ?_ (by with_reducible assumption)
      all_goals first | omega | (simp only [sA, sC, sD, sE]; omega) | (simp; done) | (simp; omega)
  clear hNm
  go_wp2_with fail
  refine (HC.out _ _ _ (wB.heap.size + 1) hNm2 (by omega) (by assumption)).mono ?_
  rintro e wC ⟨b2, cap, rfl, hb, -⟩
  obtain ⟨s71, c71_0, c71_1, c71_2, c71_3, c71_4, c71_5, f71⟩ := L6 hb (w.heap.size) (by first | omega | (simp only [sA, sC, sD, sE]; omega) | (simp; done) | (simp; omega)) (by go_simp; exact ⟨rfl, rfl, rfl, rfl, rfl, rfl⟩) (by intro o; go_simp)
  clear c69_0 c69_1 c69_2 c69_3 c69_4 c69_5 f69 c70_0
  go_wp2_with fail
  rw [HE.out]
  refine (HM.out _).mono ?_
  rintro e wD ⟨rfl, hb⟩
  obtain ⟨s72, c72_0, c72_1, c72_2, c72_3, c72_4, c72_5, f72⟩ := L6 hb (w.heap.size) (by first | omega | (simp only [sA, sC, sD, sE]; omega) | (simp; done) | (simp; omega)) (by go_simp; exact ⟨rfl, rfl, rfl, rfl, rfl, rfl⟩) (by intro o; go_simp)
  clear c71_0 c71_1 c71_2 c71_3 c71_4 c71_5 f71
  go_wp2
  refine bodyPost_ret (v := .agg #[.int .i64 (R).k, .int .i64 (R).n, .int .i64 (R).d, .string (R).t, .bool (R).b, .int .i64 (R).f]) (by simp [results, Tryz.results46, go_sem, c72_0, c72_1, c72_2, c72_3, c72_4, c72_5]) rfl ⟨rfl, ?_⟩
  focus
    repeat with_reducible first | exact Below.refl _ _ | refine below_drewN ?_ _ | refine Below.drew ?_ | refine Below.setCell ?_ ?_ _ | refine Below.alloc ?_ ?_ _ | refine below_then ?_ ?_ (by with_reducible assumption)
    all_goals first | omega | (simp only [sA, sC, sD, sE]; omega) | (simp; done) | (simp; omega)
set_option maxRecDepth 100000 in
set_option maxHeartbeats 1000000 in
theorem rw_right2 (R : Vl) (U : ByteArray) (s : ByteArray) (a : Vl) (g off lc : Nat) (w : World) (hs : s.size ≤ 256) (HA : Hid (∀ wx : World, Calls Tryz.prog 86 #[.agg #[.int .i64 (a).k, .int .i64 (a).n, .int .i64 (a).d, .string (a).t, .bool (a).b, .int .i64 (a).f]] wx fun e w' => ∃ z : Vl, e = .returned (.tuple #[.string s, .agg #[.int .i64 (z).k, .int .i64 (z).n, .int .i64 (z).d, .string (z).t, .bool (z).b, .int .i64 (z).f]]) ∧ Below wx.heap.size wx w')) (hgw : g < w.heap.size) (hlc : 2 ≤ lc) (c0 : w.cell? ⟨g, off, none⟩ = some (.int .i64 a.k)) (c1 : w.cell? ⟨g, off + 1, none⟩ = some (.int .i64 a.n)) (c2 : w.cell? ⟨g, off + 2, none⟩ = some (.int .i64 a.d)) (c3 : w.cell? ⟨g, off + 3, none⟩ = some (.string a.t)) (c4 : w.cell? ⟨g, off + 4, none⟩ = some (.bool a.b)) (c5 : w.cell? ⟨g, off + 5, none⟩ = some (.int .i64 a.f)) (ns : List Nm) (HN : Hid (∀ wx, Below w.heap.size w wx → Calls Tryz.prog 91 #[.slice (some ⟨g, off, none⟩) 2 lc, .int .i64 1] wx fun e w' => ∃ (a2 : Option Addr) (c2 : Nat), e = .returned (.tuple #[.slice a2 1 c2, .agg #[.int .i64 0, .int .i64 0, .int .i64 0, .string ⟨#[]⟩, .bool false, .int .i64 0]]) ∧ Below wx.heap.size wx w' ∧ NmAt w' a2 ns)) (K : Nat) (HC : Hid (∀ (wx : World) (a2 : Option Addr) (c2 h : Nat), NmAt wx a2 ns → h < wx.heap.size → wx.cell? ⟨h, 0, none⟩ = some (.int .i64 0) → Calls Tryz.prog 103 #[.slice a2 1 c2, .slice (some ⟨h, 0, none⟩) 1 1] wx fun e w' => ∃ (b : Option Addr) (cap : Nat), e = .returned (.tuple #[.slice b 1 cap, .bool true]) ∧ Below wx.heap.size wx w' ∧ ∃ g2 : Nat, b = some ⟨g2, 0, none⟩ ∧ 1 ≤ cap ∧ g2 < w'.heap.size ∧ w'.cell? ⟨g2, 0, none⟩ = some (.int .i64 K))) (HE : Hid (s.extract ((s.size : Int) - min (K : Int) (s.size : Int)).toNat s.size = U)) (HM : Hid (∀ wx : World, Calls Tryz.prog 87 #[.string U] wx fun e w' => e = .returned (.agg #[.int .i64 (R).k, .int .i64 (R).n, .int .i64 (R).d, .string (R).t, .bool (R).b, .int .i64 (R).f]) ∧ Below wx.heap.size wx w')) :
    Calls Tryz.prog 46 #[.int .i64 50, .slice (some ⟨g, off, none⟩) 2 lc] w fun e w' => e = .returned (.agg #[.int .i64 (R).k, .int .i64 (R).n, .int .i64 (R).d, .string (R).t, .bool (R).b, .int .i64 (R).f]) ∧ Below w.heap.size w w' := by
  go_enter Tryz.func46, Tryz.ntmps46
  go_wp2_with fail
  refine (HA.out _).mono ?_
  rintro e wA ⟨z, rfl, hb⟩
  obtain ⟨s73, c73_0, c73_1, c73_2, c73_3, c73_4, c73_5, f73⟩ := L6 hb (w.heap.size) (by first | omega | (simp only [sA, sC, sD, sE]; omega) | (simp; done) | (simp; omega)) (by go_simp; exact ⟨rfl, rfl, rfl, rfl, rfl, rfl⟩) (by intro o; go_simp)
  go_wp2_with fail
  refine (HN.out _ ?_).mono ?_
  · skip
    focus
      repeat with_reducible first | exact Below.refl _ _ | refine below_drewN ?_ _ | refine Below.drew ?_ | refine Below.setCell ?_ ?_ _ | refine Below.alloc ?_ ?_ _ | refine below_then ?_ ?_ (by with_reducible assumption)
      all_goals first | omega | (simp only [sA, sC, sD, sE]; omega) | (simp; done) | (simp; omega)
  rintro e wB ⟨a2, c2', rfl, hb, hNm⟩
  obtain ⟨s74, c74_0, c74_1, c74_2, c74_3, c74_4, c74_5, f74⟩ := L6 hb (w.heap.size) (by first | omega | (simp only [sA, sC, sD, sE]; omega) | (simp; done) | (simp; omega)) (by go_simp; exact ⟨rfl, rfl, rfl, rfl, rfl, rfl⟩) (by intro o; go_simp)
  clear c73_0 c73_1 c73_2 c73_3 c73_4 c73_5 f73
  go_upto_region 16 with (fail)
  first | with_reducible refine wp_rebase ?_ | with_reducible refine wpList_rebase ?_
  intro w1 hb'
  have hb := hb'.out
  clear hb'
  obtain ⟨s75, c75_0, c75_1, c75_2, c75_3, c75_4, c75_5, f75⟩ := L6 hb (w.heap.size) (by first | omega | (simp only [sA, sC, sD, sE]; omega) | (simp; done) | (simp; omega)) (by go_simp; exact ⟨rfl, rfl, rfl, rfl, rfl, rfl⟩) (by intro o; go_simp)
  obtain ⟨s76, c76_0⟩ := L1r hb (wB.heap.size + 1) (by first | omega | (simp only [sA, sC, sD, sE]; omega) | (simp; done) | (simp; omega)) (by go_simp; exact rfl)
  clear c74_0 c74_1 c74_2 c74_3 c74_4 c74_5 f74
  have hNm2 : NmAt w1 a2 ns := by
    refine hNm.below ?_
    focus
      repeat with_reducible first | exact Below.refl _ _ | refine below_drewN ?_ _ | refine Below.drew ?_ | refine Below.setCell ?_ ?_ _ | refine Below.alloc ?_ ?_ _ | refine below_then ?_ ?_ (by with_reducible assumption)
      all_goals first | omega | (simp only [sA, sC, sD, sE]; omega) | (simp; done) | (simp; omega)
  clear hNm
  go_wp2_with fail
  refine (HC.out _ _ _ (wB.heap.size + 1) hNm2 (by omega) (by assumption)).mono ?_
  rintro e wC ⟨b2, cap, rfl, hb, g2, rfl, hcap, hg2, k0⟩
  obtain ⟨s77, c77_0, c77_1, c77_2, c77_3, c77_4, c77_5, f77⟩ := L6 hb (w.heap.size) (by first | omega | (simp only [sA, sC, sD, sE]; omega) | (simp; done) | (simp; omega)) (by go_simp; exact ⟨rfl, rfl, rfl, rfl, rfl, rfl⟩) (by intro o; go_simp)
  clear c75_0 c75_1 c75_2 c75_3 c75_4 c75_5 f75 c76_0
  go_wp2_with fail
  rw [HE.out]
  refine (HM.out _).mono ?_
  rintro e wD ⟨rfl, hb⟩
  obtain ⟨s78, c78_0, c78_1, c78_2, c78_3, c78_4, c78_5, f78⟩ := L6 hb (w.heap.size) (by first | omega | (simp only [sA, sC, sD, sE]; omega) | (simp; done) | (simp; omega)) (by go_simp; exact ⟨rfl, rfl, rfl, rfl, rfl, rfl⟩) (by intro o; go_simp)
  clear c77_0 c77_1 c77_2 c77_3 c77_4 c77_5 f77
  go_wp2
  refine bodyPost_ret (v := .agg #[.int .i64 (R).k, .int .i64 (R).n, .int .i64 (R).d, .string (R).t, .bool (R).b, .int .i64 (R).f]) (by simp [results, Tryz.results46, go_sem, c78_0, c78_1, c78_2, c78_3, c78_4, c78_5]) rfl ⟨rfl, ?_⟩
  focus
    repeat with_reducible first | exact Below.refl _ _ | refine below_drewN ?_ _ | refine Below.drew ?_ | refine Below.setCell ?_ ?_ _ | refine Below.alloc ?_ ?_ _ | refine below_then ?_ ?_ (by with_reducible assumption)
    all_goals first | omega | (simp only [sA, sC, sD, sE]; omega) | (simp; done) | (simp; omega)
end Go.Proofs.YtglngfaagjgpjaaGreatDoor
