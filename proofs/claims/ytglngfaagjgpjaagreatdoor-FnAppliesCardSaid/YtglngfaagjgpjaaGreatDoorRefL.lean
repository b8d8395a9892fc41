/- Walks of the reference's package for functions: written at MID, REPT and FIND. -/
import Derived.Test.YtglngfaagjgpjaaGreatDoorRefO
namespace Go.Proofs.YtglngfaagjgpjaaGreatDoor
open Go Go.RowKit
set_option linter.unusedSimpArgs false
set_option linter.unusedVariables false
theorem lt_RefL {w w' : World} (h : Below w.heap.size w w') (k : Nat) (hk : k < w.heap.size) : k < w.heap.size := hk

set_option maxRecDepth 100000 in
set_option maxHeartbeats 1000000 in
theorem rw_mid (R : Vl) (U : ByteArray) (s : ByteArray) (a : Vl) (g off lc : Nat) (w : World) (hs : s.size ≤ 256) (HA : Hid (∀ wx : World, Calls Tryz.prog 86 #[.agg #[.int .i64 (a).k, .int .i64 (a).n, .int .i64 (a).d, .string (a).t, .bool (a).b, .int .i64 (a).f]] wx fun e w' => ∃ z : Vl, e = .returned (.tuple #[.string s, .agg #[.int .i64 (z).k, .int .i64 (z).n, .int .i64 (z).d, .string (z).t, .bool (z).b, .int .i64 (z).f]]) ∧ Below wx.heap.size wx w')) (hgw : g < w.heap.size) (hlc : 3 ≤ lc) (c0 : w.cell? ⟨g, off, none⟩ = some (.int .i64 a.k)) (c1 : w.cell? ⟨g, off + 1, none⟩ = some (.int .i64 a.n)) (c2 : w.cell? ⟨g, off + 2, none⟩ = some (.int .i64 a.d)) (c3 : w.cell? ⟨g, off + 3, none⟩ = some (.string a.t)) (c4 : w.cell? ⟨g, off + 4, none⟩ = some (.bool a.b)) (c5 : w.cell? ⟨g, off + 5, none⟩ = some (.int .i64 a.f)) (ns : List Nm) (HN : Hid (∀ wx, Below w.heap.size w wx → Calls Tryz.prog 91 #[.slice (some ⟨g, off, none⟩) 3 lc, .int .i64 1] wx fun e w' => ∃ (a2 : Option Addr) (c2 : Nat), e = .returned (.tuple #[.slice a2 2 c2, .agg #[.int .i64 0, .int .i64 0, .int .i64 0, .string ⟨#[]⟩, .bool false, .int .i64 0]]) ∧ Below wx.heap.size wx w' ∧ NmAt w' a2 ns)) (K K2 : Nat) (HC : Hid (∀ (wx : World) (a2 : Option Addr) (c2 h : Nat), NmAt wx a2 ns → h < wx.heap.size → wx.cell? ⟨h, 0, none⟩ = some (.int .i64 1) → wx.cell? ⟨h, 1, none⟩ = some (.int .i64 0) → Calls Tryz.prog 103 #[.slice a2 2 c2, .slice (some ⟨h, 0, none⟩) 2 2] wx fun e w' => ∃ (b : Option Addr) (cap : Nat), e = .returned (.tuple #[.slice b 2 cap, .bool true]) ∧ Below wx.heap.size wx w' ∧ ∃ g2 : Nat, b = some ⟨g2, 0, none⟩ ∧ 2 ≤ cap ∧ g2 < w'.heap.size ∧ w'.cell? ⟨g2, 0, none⟩ = some (.int .i64 K) ∧ w'.cell? ⟨g2, 1, none⟩ = some (.int .i64 K2))) (hK : 1 ≤ K) (hK2 : K ≤ 1000000000000) (hL : K2 ≤ 1000000000000) (HE : Hid (s.extract (min ((K : Int) - 1) (s.size : Int)).toNat (min ((K : Int) - 1) (s.size : Int) + min (K2 : Int) ((s.size : Int) - min ((K : Int) - 1) (s.size : Int))).toNat = U)) (HM : Hid (∀ wx : World, Calls Tryz.prog 87 #[.string U] wx fun e w' => e = .returned (.agg #[.int .i64 (R).k, .int .i64 (R).n, .int .i64 (R).d, .string (R).t, .bool (R).b, .int .i64 (R).f]) ∧ Below wx.heap.size wx w')) :
    Calls Tryz.prog 46 #[.int .i64 51, .slice (some ⟨g, off, none⟩) 3 lc] w fun e w' => e = .returned (.agg #[.int .i64 (R).k, .int .i64 (R).n, .int .i64 (R).d, .string (R).t, .bool (R).b, .int .i64 (R).f]) ∧ Below w.heap.size w w' := by
  go_enter Tryz.func46, Tryz.ntmps46
  go_wp2_with fail
  refine (HA.out _).mono ?_
  rintro e wA ⟨z, rfl, hb⟩
  obtain ⟨s1, c1_0, c1_1, c1_2, c1_3, c1_4, c1_5, f1⟩ := L6 hb (w.heap.size) (by first | omega | (simp only [sA, sC, sD, sE]; omega) | (simp; done) | (simp; omega)) (by go_simp; exact ⟨rfl, rfl, rfl, rfl, rfl, rfl⟩) (by intro o; go_simp)
  go_wp2_with fail
  refine (HN.out _ ?_).mono ?_
  · skip
    focus
      repeat with_reducible first | exact Below.refl _ _ | refine below_drewN ?_ _ | refine Below.drew ?_ | refine Below.setCell ?_ ?_ _ | refine Below.alloc ?_ ?_ _ | refine below_then ?_ ?_ (by with_reducible assumption)
      all_goals first | omega | (simp only [sA, sC, sD, sE]; omega) | (simp; done) | (simp; omega)
  rintro e wB ⟨a2, c2', rfl, hb, hNm⟩
  obtain ⟨s2, c2_0, c2_1, c2_2, c2_3, c2_4, c2_5, f2⟩ := L6 hb (w.heap.size) (by first | omega | (simp only [sA, sC, sD, sE]; omega) | (simp; done) | (simp; omega)) (by go_simp; exact ⟨rfl, rfl, rfl, rfl, rfl, rfl⟩) (by intro o; go_simp)
  clear c1_0 c1_1 c1_2 c1_3 c1_4 c1_5 f1
  go_upto_region 16 with (fail)
  first | with_reducible refine wp_rebase ?_ | with_reducible refine wpList_rebase ?_
  intro w1 hb'
  have hb := hb'.out
  clear hb'
  have hbD : Below wB.heap.size wB w1 := by
    focus
      repeat with_reducible first | exact Below.refl _ _ | refine below_drewN ?_ _ | refine Below.drew ?_ | refine Below.setCell ?_ ?_ _ | refine Below.alloc ?_ ?_ _ | refine below_then ?_ ?_ (by with_reducible assumption)
      all_goals first | omega | (simp only [sA, sC, sD, sE]; omega) | (simp; done) | (simp; omega)
  obtain ⟨s3, c3_0, c3_1, c3_2, c3_3, c3_4, c3_5, f3⟩ := L6 hbD (w.heap.size) (by first | omega | (simp only [sA, sC, sD, sE]; omega) | (simp; done) | (simp; omega)) (by go_simp; exact ⟨rfl, rfl, rfl, rfl, rfl, rfl⟩) (by intro o; go_simp)
  clear c2_0 c2_1 c2_2 c2_3 c2_4 c2_5 f2
  have qy := lt_RefL hb (wB.heap.size + 1 + 1) (by simp only [sz_alloc]; omega)
  have y0 := (lcc hb _ qy 0).trans (by go_simp; exact rfl)
  have y1 := (lcc hb _ qy 1).trans (by go_simp; exact rfl)
  have sy := lcs hb _ qy
  have hNm2 : NmAt w1 a2 ns := by
    refine hNm.below ?_
    focus
      repeat with_reducible first | exact Below.refl _ _ | refine below_drewN ?_ _ | refine Below.drew ?_ | refine Below.setCell ?_ ?_ _ | refine Below.alloc ?_ ?_ _ | refine below_then ?_ ?_ (by with_reducible assumption)
      all_goals first | omega | (simp only [sA, sC, sD, sE]; omega) | (simp; done) | (simp; omega)
  clear hNm
  go_wp2_with fail
  refine (HC.out _ _ _ (wB.heap.size + 1 + 1) hNm2 (by omega) (by assumption) (by assumption)).mono ?_
  rintro e wC ⟨b2, cap, rfl, hb, g2, rfl, hcap, hg2, k0, k1⟩
  obtain ⟨s4, c4_0, c4_1, c4_2, c4_3, c4_4, c4_5, f4⟩ := L6 hb (w.heap.size) (by first | omega | (simp only [sA, sC, sD, sE]; omega) | (simp; done) | (simp; omega)) (by go_simp; exact ⟨rfl, rfl, rfl, rfl, rfl, rfl⟩) (by intro o; go_simp)
  clear c3_0 c3_1 c3_2 c3_3 c3_4 c3_5 f3
  go_wp2_with fail
  rw [HE.out]
  refine (HM.out _).mono ?_
  rintro e wD ⟨rfl, hb⟩
  obtain ⟨s5, c5_0, c5_1, c5_2, c5_3, c5_4, c5_5, f5⟩ := L6 hb (w.heap.size) (by first | omega | (simp only [sA, sC, sD, sE]; omega) | (simp; done) | (simp; omega)) (by go_simp; exact ⟨rfl, rfl, rfl, rfl, rfl, rfl⟩) (by intro o; go_simp)
  clear c4_0 c4_1 c4_2 c4_3 c4_4 c4_5 f4
  go_wp2
  refine bodyPost_ret (v := .agg #[.int .i64 (R).k, .int .i64 (R).n, .int .i64 (R).d, .string (R).t, .bool (R).b, .int .i64 (R).f]) (by simp [results, Tryz.results46, go_sem, c5_0, c5_1, c5_2, c5_3, c5_4, c5_5]) rfl ⟨rfl, ?_⟩
  focus
    repeat with_reducible first | exact Below.refl _ _ | refine below_drewN ?_ _ | refine Below.drew ?_ | refine Below.setCell ?_ ?_ _ | refine Below.alloc ?_ ?_ _ | refine below_then ?_ ?_ (by with_reducible assumption)
    all_goals first | omega | (simp only [sA, sC, sD, sE]; omega) | (simp; done) | (simp; omega)
theorem repeatL_snoc (l : List UInt8) : ∀ k, Lib.repeatL l (k + 1) = Lib.repeatL l k ++ l
  | 0 => by simp [Lib.repeatL]
  | k + 1 => by
    show l ++ Lib.repeatL l (k + 1) = (l ++ Lib.repeatL l k) ++ l
    rw [repeatL_snoc l k, List.append_assoc]
theorem ba_eq {a b : ByteArray} (h : a.data.toList = b.data.toList) : a = b := by
  cases a; cases b; simp only [ByteArray.mk.injEq]; exact Array.toList_inj.1 h
theorem repT_succ (s : ByteArray) (k : Nat) : repT s k ++ s = repT s (k + 1) := by
  apply ba_eq
  unfold repT
  simp only [ByteArray.data_append, Array.toList_append]
  rw [repeatL_snoc]
theorem repT_size (s : ByteArray) (k : Nat) : (repT s k).size = k * s.size := by
  have e : (repT s k).size = (Lib.repeatL s.data.toList k).length := by show ((Lib.repeatL s.data.toList k).toArray).size = _; exact List.size_toArray
  rw [e, Lib.repeatL_length, Array.length_toList]; rfl
set_option maxRecDepth 100000 in
set_option maxHeartbeats 1000000 in
theorem rw_rept0 (R : Vl) (s : ByteArray) (a : Vl) (g off lc : Nat) (w : World) (hs : s.size ≤ 256) (HA : Hid (∀ wx : World, Calls Tryz.prog 86 #[.agg #[.int .i64 (a).k, .int .i64 (a).n, .int .i64 (a).d, .string (a).t, .bool (a).b, .int .i64 (a).f]] wx fun e w' => ∃ z : Vl, e = .returned (.tuple #[.string s, .agg #[.int .i64 (z).k, .int .i64 (z).n, .int .i64 (z).d, .string (z).t, .bool (z).b, .int .i64 (z).f]]) ∧ Below wx.heap.size wx w')) (hgw : g < w.heap.size) (hlc : 2 ≤ lc) (c0 : w.cell? ⟨g, off, none⟩ = some (.int .i64 a.k)) (c1 : w.cell? ⟨g, off + 1, none⟩ = some (.int .i64 a.n)) (c2 : w.cell? ⟨g, off + 2, none⟩ = some (.int .i64 a.d)) (c3 : w.cell? ⟨g, off + 3, none⟩ = some (.string a.t)) (c4 : w.cell? ⟨g, off + 4, none⟩ = some (.bool a.b)) (c5 : w.cell? ⟨g, off + 5, none⟩ = some (.int .i64 a.f)) (ns : List Nm) (HN : Hid (∀ wx, Below w.heap.size w wx → Calls Tryz.prog 91 #[.slice (some ⟨g, off, none⟩) 2 lc, .int .i64 1] wx fun e w' => ∃ (a2 : Option Addr) (c2 : Nat), e = .returned (.tuple #[.slice a2 1 c2, .agg #[.int .i64 0, .int .i64 0, .int .i64 0, .string ⟨#[]⟩, .bool false, .int .i64 0]]) ∧ Below wx.heap.size wx w' ∧ NmAt w' a2 ns)) (K : Nat) (HC : Hid (∀ (wx : World) (a2 : Option Addr) (c2 h : Nat), NmAt wx a2 ns → h < wx.heap.size → wx.cell? ⟨h, 0, none⟩ = some (.int .i64 0) → Calls Tryz.prog 103 #[.slice a2 1 c2, .slice (some ⟨h, 0, none⟩) 1 1] wx fun e w' => ∃ (b : Option Addr) (cap : Nat), e = .returned (.tuple #[.slice b 1 cap, .bool true]) ∧ Below wx.heap.size wx w' ∧ ∃ g2 : Nat, b = some ⟨g2, 0, none⟩ ∧ 1 ≤ cap ∧ g2 < w'.heap.size ∧ w'.cell? ⟨g2, 0, none⟩ = some (.int .i64 K))) (h0 : s.size = 0) (HM : Hid (∀ wx : World, Calls Tryz.prog 87 #[.string ⟨#[]⟩] wx fun e w' => e = .returned (.agg #[.int .i64 (R).k, .int .i64 (R).n, .int .i64 (R).d, .string (R).t, .bool (R).b, .int .i64 (R).f]) ∧ Below wx.heap.size wx w')) :
    Calls Tryz.prog 46 #[.int .i64 52, .slice (some ⟨g, off, none⟩) 2 lc] w fun e w' => e = .returned (.agg #[.int .i64 (R).k, .int .i64 (R).n, .int .i64 (R).d, .string (R).t, .bool (R).b, .int .i64 (R).f]) ∧ Below w.heap.size w w' := by
  have hd : decide (0 < (s.size : Int)) = false := decide_eq_false (by omega)
  go_enter Tryz.func46, Tryz.ntmps46
  go_wp2_with fail
  refine (HA.out _).mono ?_
  rintro e wA ⟨z, rfl, hb⟩
  obtain ⟨s6, c6_0, c6_1, c6_2, c6_3, c6_4, c6_5, f6⟩ := L6 hb (w.heap.size) (by first | omega | (simp only [sA, sC, sD, sE]; omega) | (simp; done) | (simp; omega)) (by go_simp; exact ⟨rfl, rfl, rfl, rfl, rfl, rfl⟩) (by intro o; go_simp)
  go_wp2_with fail
  refine (HN.out _ ?_).mono ?_
  · skip
    focus
      repeat with_reducible first | exact Below.refl _ _ | refine below_drewN ?_ _ | refine Below.drew ?_ | refine Below.setCell ?_ ?_ _ | refine Below.alloc ?_ ?_ _ | refine below_then ?_ ?_ (by with_reducible assumption)
      all_goals first | omega | (simp only [sA, sC, sD, sE]; omega) | (simp; done) | (simp; omega)
  rintro e wB ⟨a2, c2', rfl, hb, hNm⟩
  obtain ⟨s7, c7_0, c7_1, c7_2, c7_3, c7_4, c7_5, f7⟩ := L6 hb (w.heap.size) (by first | omega | (simp only [sA, sC, sD, sE]; omega) | (simp; done) | (simp; omega)) (by go_simp; exact ⟨rfl, rfl, rfl, rfl, rfl, rfl⟩) (by intro o; go_simp)
  clear c6_0 c6_1 c6_2 c6_3 c6_4 c6_5 f6
  go_upto_region 16 with (fail)
  first | with_reducible refine wp_rebase ?_ | with_reducible refine wpList_rebase ?_
  intro w1 hb'
  have hb := hb'.out
  clear hb'
  obtain ⟨s8, c8_0, c8_1, c8_2, c8_3, c8_4, c8_5, f8⟩ := L6 hb (w.heap.size) (by first | omega | (simp only [sA, sC, sD, sE]; omega) | (simp; done) | (simp; omega)) (by go_simp; exact ⟨rfl, rfl, rfl, rfl, rfl, rfl⟩) (by intro o; go_simp)
  obtain ⟨s9, c9_0⟩ := L1r hb (wB.heap.size + 1) (by first | omega | (simp only [sA, sC, sD, sE]; omega) | (simp; done) | (simp; omega)) (by go_simp; exact rfl)
  clear c7_0 c7_1 c7_2 c7_3 c7_4 c7_5 f7
  have hNm2 : NmAt w1 a2 ns := by
    refine hNm.below ?_
    focus
      repeat with_reducible first | exact Below.refl _ _ | refine below_drewN ?_ _ | refine Below.drew ?_ | refine Below.setCell ?_ ?_ _ | refine Below.alloc ?_ ?_ _ | refine below_then ?_ ?_ (by with_reducible assumption)
      all_goals first | omega | (simp only [sA, sC, sD, sE]; omega) | (simp; done) | (simp; omega)
  clear hNm
  go_wp2_with fail
  refine (HC.out _ _ _ (wB.heap.size + 1) hNm2 (by omega) (by assumption)).mono ?_
  rintro e wC ⟨b2, cap, rfl, hb, g2, rfl, hcap, hg2, k0⟩
  obtain ⟨s10, c10_0, c10_1, c10_2, c10_3, c10_4, c10_5, f10⟩ := L6 hb (w.heap.size) (by first | omega | (simp only [sA, sC, sD, sE]; omega) | (simp; done) | (simp; omega)) (by go_simp; exact ⟨rfl, rfl, rfl, rfl, rfl, rfl⟩) (by intro o; go_simp)
  clear c8_0 c8_1 c8_2 c8_3 c8_4 c8_5 f8 c9_0
  have hd2 : decide (0 < s.size) = false := decide_eq_false (by omega)
  go_upto_region 35 with (fail)
  go_quiet (fail)
  go_wp2
  go_loopw [17, 18] (fun t i wr => t = .string ⟨#[]⟩ ∧ i = .int .i64 0 ∧ wr = wC.drewN nq) (fun _ _ _ => 0)
  case atStart => exact ⟨rfl, rfl, rfl⟩
  case round =>
    obtain ⟨rfl, rfl, rfl⟩ := hrel
    go_wp2_with fail
    refine (HM.out _).mono ?_
    rintro e wD ⟨rfl, hb2⟩
    have hbE : Below wC.heap.size wC wD := by
      focus
        repeat with_reducible first | exact Below.refl _ _ | refine below_drewN ?_ _ | refine Below.drew ?_ | refine Below.setCell ?_ ?_ _ | refine Below.alloc ?_ ?_ _ | refine below_then ?_ ?_ (by with_reducible assumption)
        all_goals first | omega | (simp only [sA, sC, sD, sE]; omega) | (simp; done) | (simp; omega)
    obtain ⟨s11, c11_0, c11_1, c11_2, c11_3, c11_4, c11_5, f11⟩ := L6 hbE (w.heap.size) (by first | omega | (simp only [sA, sC, sD, sE]; omega) | (simp; done) | (simp; omega)) (by go_simp; exact ⟨rfl, rfl, rfl, rfl, rfl, rfl⟩) (by intro o; go_simp)
    clear c10_0 c10_1 c10_2 c10_3 c10_4 c10_5 f10
    go_wp2
    refine bodyPost_ret (v := .agg #[.int .i64 (R).k, .int .i64 (R).n, .int .i64 (R).d, .string (R).t, .bool (R).b, .int .i64 (R).f]) (by simp [results, Tryz.results46, go_sem, c11_0, c11_1, c11_2, c11_3, c11_4, c11_5]) rfl ⟨rfl, ?_⟩
    focus
      repeat with_reducible first | exact Below.refl _ _ | refine below_drewN ?_ _ | refine Below.drew ?_ | refine Below.setCell ?_ ?_ _ | refine Below.alloc ?_ ?_ _ | refine below_then ?_ ?_ (by with_reducible assumption)
      all_goals first | omega | (simp only [sA, sC, sD, sE]; omega) | (simp; done) | (simp; omega)
set_option maxRecDepth 100000 in
set_option maxHeartbeats 1000000 in
theorem rw_rept_long (R : Vl) (s : ByteArray) (a : Vl) (g off lc : Nat) (w : World) (hs : s.size ≤ 256) (HA : Hid (∀ wx : World, Calls Tryz.prog 86 #[.agg #[.int .i64 (a).k, .int .i64 (a).n, .int .i64 (a).d, .string (a).t, .bool (a).b, .int .i64 (a).f]] wx fun e w' => ∃ z : Vl, e = .returned (.tuple #[.string s, .agg #[.int .i64 (z).k, .int .i64 (z).n, .int .i64 (z).d, .string (z).t, .bool (z).b, .int .i64 (z).f]]) ∧ Below wx.heap.size wx w')) (hgw : g < w.heap.size) (hlc : 2 ≤ lc) (c0 : w.cell? ⟨g, off, none⟩ = some (.int .i64 a.k)) (c1 : w.cell? ⟨g, off + 1, none⟩ = some (.int .i64 a.n)) (c2 : w.cell? ⟨g, off + 2, none⟩ = some (.int .i64 a.d)) (c3 : w.cell? ⟨g, off + 3, none⟩ = some (.string a.t)) (c4 : w.cell? ⟨g, off + 4, none⟩ = some (.bool a.b)) (c5 : w.cell? ⟨g, off + 5, none⟩ = some (.int .i64 a.f)) (ns : List Nm) (HN : Hid (∀ wx, Below w.heap.size w wx → Calls Tryz.prog 91 #[.slice (some ⟨g, off, none⟩) 2 lc, .int .i64 1] wx fun e w' => ∃ (a2 : Option Addr) (c2 : Nat), e = .returned (.tuple #[.slice a2 1 c2, .agg #[.int .i64 0, .int .i64 0, .int .i64 0, .string ⟨#[]⟩, .bool false, .int .i64 0]]) ∧ Below wx.heap.size wx w' ∧ NmAt w' a2 ns)) (K : Nat) (HC : Hid (∀ (wx : World) (a2 : Option Addr) (c2 h : Nat), NmAt wx a2 ns → h < wx.heap.size → wx.cell? ⟨h, 0, none⟩ = some (.int .i64 0) → Calls Tryz.prog 103 #[.slice a2 1 c2, .slice (some ⟨h, 0, none⟩) 1 1] wx fun e w' => ∃ (b : Option Addr) (cap : Nat), e = .returned (.tuple #[.slice b 1 cap, .bool true]) ∧ Below wx.heap.size wx w' ∧ ∃ g2 : Nat, b = some ⟨g2, 0, none⟩ ∧ 1 ≤ cap ∧ g2 < w'.heap.size ∧ w'.cell? ⟨g2, 0, none⟩ = some (.int .i64 K))) (h0 : 0 < s.size) (hK : K ≤ 1000000000000) (hlong : 256 / (s.size : Int) < K) (HM : Hid (∀ wx : World, Calls Tryz.prog 40 #[.int .i64 7] wx fun e w' => e = .returned (.agg #[.int .i64 (R).k, .int .i64 (R).n, .int .i64 (R).d, .string (R).t, .bool (R).b, .int .i64 (R).f]) ∧ Below wx.heap.size wx w')) :
    Calls Tryz.prog 46 #[.int .i64 52, .slice (some ⟨g, off, none⟩) 2 lc] w fun e w' => e = .returned (.agg #[.int .i64 (R).k, .int .i64 (R).n, .int .i64 (R).d, .string (R).t, .bool (R).b, .int .i64 (R).f]) ∧ Below w.heap.size w w' := by
  have hd : decide (0 < (s.size : Int)) = true := decide_eq_true (by omega)
  have hz : ¬ (s.size : Int) = 0 := by omega
  go_enter Tryz.func46, Tryz.ntmps46
  go_wp2_with fail
  refine (HA.out _).mono ?_
  rintro e wA ⟨z, rfl, hb⟩
  obtain ⟨s12, c12_0, c12_1, c12_2, c12_3, c12_4, c12_5, f12⟩ := L6 hb (w.heap.size) (by first | omega | (simp only [sA, sC, sD, sE]; omega) | (simp; done) | (simp; omega)) (by go_simp; exact ⟨rfl, rfl, rfl, rfl, rfl, rfl⟩) (by intro o; go_simp)
  go_wp2_with fail
  refine (HN.out _ ?_).mono ?_
  · skip
    focus
      repeat with_reducible first | exact Below.refl _ _ | refine below_drewN ?_ _ | refine Below.drew ?_ | refine Below.setCell ?_ ?_ _ | refine Below.alloc ?_ ?_ _ | refine below_then ?_ ?_ (by with_reducible assumption)
      all_goals first | omega | (simp only [sA, sC, sD, sE]; omega) | (simp; done) | (simp; omega)
  rintro e wB ⟨a2, c2', rfl, hb, hNm⟩
  obtain ⟨s13, c13_0, c13_1, c13_2, c13_3, c13_4, c13_5, f13⟩ := L6 hb (w.heap.size) (by first | omega | (simp only [sA, sC, sD, sE]; omega) | (simp; done) | (simp; omega)) (by go_simp; exact ⟨rfl, rfl, rfl, rfl, rfl, rfl⟩) (by intro o; go_simp)
  clear c12_0 c12_1 c12_2 c12_3 c12_4 c12_5 f12
  go_upto_region 16 with (fail)
  first | with_reducible refine wp_rebase ?_ | with_reducible refine wpList_rebase ?_
  intro w1 hb'
  have hb := hb'.out
  clear hb'
  obtain ⟨s14, c14_0, c14_1, c14_2, c14_3, c14_4, c14_5, f14⟩ := L6 hb (w.heap.size) (by first | omega | (simp only [sA, sC, sD, sE]; omega) | (simp; done) | (simp; omega)) (by go_simp; exact ⟨rfl, rfl, rfl, rfl, rfl, rfl⟩) (by intro o; go_simp)
  obtain ⟨s15, c15_0⟩ := L1r hb (wB.heap.size + 1) (by first | omega | (simp only [sA, sC, sD, sE]; omega) | (simp; done) | (simp; omega)) (by go_simp; exact rfl)
  clear c13_0 c13_1 c13_2 c13_3 c13_4 c13_5 f13
  have hNm2 : NmAt w1 a2 ns := by
    refine hNm.below ?_
    focus
      repeat with_reducible first | exact Below.refl _ _ | refine below_drewN ?_ _ | refine Below.drew ?_ | refine Below.setCell ?_ ?_ _ | refine Below.alloc ?_ ?_ _ | refine below_then ?_ ?_ (by with_reducible assumption)
      all_goals first | omega | (simp only [sA, sC, sD, sE]; omega) | (simp; done) | (simp; omega)
  clear hNm
  go_wp2_with fail
  refine (HC.out _ _ _ (wB.heap.size + 1) hNm2 (by omega) (by assumption)).mono ?_
  rintro e wC ⟨b2, cap, rfl, hb, g2, rfl, hcap, hg2, k0⟩
  obtain ⟨s16, c16_0, c16_1, c16_2, c16_3, c16_4, c16_5, f16⟩ := L6 hb (w.heap.size) (by first | omega | (simp only [sA, sC, sD, sE]; omega) | (simp; done) | (simp; omega)) (by go_simp; exact ⟨rfl, rfl, rfl, rfl, rfl, rfl⟩) (by intro o; go_simp)
  clear c14_0 c14_1 c14_2 c14_3 c14_4 c14_5 f14 c15_0
  have hd2 : decide (0 < s.size) = true := decide_eq_true (by omega)
  go_upto_region 35 with (fail)
  go_quiet (fail)
  go_wp2_with fail
  refine (HM.out _).mono ?_
  rintro e wD ⟨rfl, hb2⟩
  have hbE : Below wC.heap.size wC wD := by
    focus
      repeat with_reducible first | exact Below.refl _ _ | refine below_drewN ?_ _ | refine Below.drew ?_ | refine Below.setCell ?_ ?_ _ | refine Below.alloc ?_ ?_ _ | refine below_then ?_ ?_ (by with_reducible assumption)
      all_goals first | omega | (simp only [sA, sC, sD, sE]; omega) | (simp; done) | (simp; omega)
  obtain ⟨s17, c17_0, c17_1, c17_2, c17_3, c17_4, c17_5, f17⟩ := L6 hbE (w.heap.size) (by first | omega | (simp only [sA, sC, sD, sE]; omega) | (simp; done) | (simp; omega)) (by go_simp; exact ⟨rfl, rfl, rfl, rfl, rfl, rfl⟩) (by intro o; go_simp)
  clear c16_0 c16_1 c16_2 c16_3 c16_4 c16_5 f16
  go_wp2
  refine bodyPost_ret (v := .agg #[.int .i64 (R).k, .int .i64 (R).n, .int .i64 (R).d, .string (R).t, .bool (R).b, .int .i64 (R).f]) (by simp [results, Tryz.results46, go_sem, c17_0, c17_1, c17_2, c17_3, c17_4, c17_5]) rfl ⟨rfl, ?_⟩
  focus
    repeat with_reducible first | exact Below.refl _ _ | refine below_drewN ?_ _ | refine Below.drew ?_ | refine Below.setCell ?_ ?_ _ | refine Below.alloc ?_ ?_ _ | refine below_then ?_ ?_ (by with_reducible assumption)
    all_goals first | omega | (simp only [sA, sC, sD, sE]; omega) | (simp; done) | (simp; omega)
set_option maxRecDepth 100000 in
set_option maxHeartbeats 1000000 in
theorem rw_rept (R : Vl) (s : ByteArray) (a : Vl) (g off lc : Nat) (w : World) (hs : s.size ≤ 256) (HA : Hid (∀ wx : World, Calls Tryz.prog 86 #[.agg #[.int .i64 (a).k, .int .i64 (a).n, .int .i64 (a).d, .string (a).t, .bool (a).b, .int .i64 (a).f]] wx fun e w' => ∃ z : Vl, e = .returned (.tuple #[.string s, .agg #[.int .i64 (z).k, .int .i64 (z).n, .int .i64 (z).d, .string (z).t, .bool (z).b, .int .i64 (z).f]]) ∧ Below wx.heap.size wx w')) (hgw : g < w.heap.size) (hlc : 2 ≤ lc) (c0 : w.cell? ⟨g, off, none⟩ = some (.int .i64 a.k)) (c1 : w.cell? ⟨g, off + 1, none⟩ = some (.int .i64 a.n)) (c2 : w.cell? ⟨g, off + 2, none⟩ = some (.int .i64 a.d)) (c3 : w.cell? ⟨g, off + 3, none⟩ = some (.string a.t)) (c4 : w.cell? ⟨g, off + 4, none⟩ = some (.bool a.b)) (c5 : w.cell? ⟨g, off + 5, none⟩ = some (.int .i64 a.f)) (ns : List Nm) (HN : Hid (∀ wx, Below w.heap.size w wx → Calls Tryz.prog 91 #[.slice (some ⟨g, off, none⟩) 2 lc, .int .i64 1] wx fun e w' => ∃ (a2 : Option Addr) (c2 : Nat), e = .returned (.tuple #[.slice a2 1 c2, .agg #[.int .i64 0, .int .i64 0, .int .i64 0, .string ⟨#[]⟩, .bool false, .int .i64 0]]) ∧ Below wx.heap.size wx w' ∧ NmAt w' a2 ns)) (K : Nat) (HC : Hid (∀ (wx : World) (a2 : Option Addr) (c2 h : Nat), NmAt wx a2 ns → h < wx.heap.size → wx.cell? ⟨h, 0, none⟩ = some (.int .i64 0) → Calls Tryz.prog 103 #[.slice a2 1 c2, .slice (some ⟨h, 0, none⟩) 1 1] wx fun e w' => ∃ (b : Option Addr) (cap : Nat), e = .returned (.tuple #[.slice b 1 cap, .bool true]) ∧ Below wx.heap.size wx w' ∧ ∃ g2 : Nat, b = some ⟨g2, 0, none⟩ ∧ 1 ≤ cap ∧ g2 < w'.heap.size ∧ w'.cell? ⟨g2, 0, none⟩ = some (.int .i64 K))) (h0 : 0 < s.size) (hK : K ≤ 1000000000000) (hfit : ¬ 256 / (s.size : Int) < K) (hk256 : K * s.size ≤ 256) (HM : Hid (∀ wx : World, Calls Tryz.prog 87 #[.string (repT s K)] wx fun e w' => e = .returned (.agg #[.int .i64 (R).k, .int .i64 (R).n, .int .i64 (R).d, .string (R).t, .bool (R).b, .int .i64 (R).f]) ∧ Below wx.heap.size wx w')) :
    Calls Tryz.prog 46 #[.int .i64 52, .slice (some ⟨g, off, none⟩) 2 lc] w fun e w' => e = .returned (.agg #[.int .i64 (R).k, .int .i64 (R).n, .int .i64 (R).d, .string (R).t, .bool (R).b, .int .i64 (R).f]) ∧ Below w.heap.size w w' := by
  have hd : decide (0 < (s.size : Int)) = true := decide_eq_true (by omega)
  have hz : ¬ (s.size : Int) = 0 := by omega
  go_enter Tryz.func46, Tryz.ntmps46
  go_wp2_with fail
  refine (HA.out _).mono ?_
  rintro e wA ⟨z, rfl, hb⟩
  obtain ⟨s18, c18_0, c18_1, c18_2, c18_3, c18_4, c18_5, f18⟩ := L6 hb (w.heap.size) (by first | omega | (simp only [sA, sC, sD, sE]; omega) | (simp; done) | (simp; omega)) (by go_simp; exact ⟨rfl, rfl, rfl, rfl, rfl, rfl⟩) (by intro o; go_simp)
  go_wp2_with fail
  refine (HN.out _ ?_).mono ?_
  · skip
    focus
      repeat with_reducible first | exact Below.refl _ _ | refine below_drewN ?_ _ | refine Below.drew ?_ | refine Below.setCell ?_ ?_ _ | refine Below.alloc ?_ ?_ _ | refine below_then ?_ ?_ (by with_reducible assumption)
      all_goals first | omega | (simp only [sA, sC, sD, sE]; omega) | (simp; done) | (simp; omega)
  rintro e wB ⟨a2, c2', rfl, hb, hNm⟩
  obtain ⟨s19, c19_0, c19_1, c19_2, c19_3, c19_4, c19_5, f19⟩ := L6 hb (w.heap.size) (by first | omega | (simp only [sA, sC, sD, sE]; omega) | (simp; done) | (simp; omega)) (by go_simp; exact ⟨rfl, rfl, rfl, rfl, rfl, rfl⟩) (by intro o; go_simp)
  clear c18_0 c18_1 c18_2 c18_3 c18_4 c18_5 f18
  go_upto_region 16 with (fail)
  first | with_reducible refine wp_rebase ?_ | with_reducible refine wpList_rebase ?_
  intro w1 hb'
  have hb := hb'.out
  clear hb'
  obtain ⟨s20, c20_0, c20_1, c20_2, c20_3, c20_4, c20_5, f20⟩ := L6 hb (w.heap.size) (by first | omega | (simp only [sA, sC, sD, sE]; omega) | (simp; done) | (simp; omega)) (by go_simp; exact ⟨rfl, rfl, rfl, rfl, rfl, rfl⟩) (by intro o; go_simp)
  obtain ⟨s21, c21_0⟩ := L1r hb (wB.heap.size + 1) (by first | omega | (simp only [sA, sC, sD, sE]; omega) | (simp; done) | (simp; omega)) (by go_simp; exact rfl)
  clear c19_0 c19_1 c19_2 c19_3 c19_4 c19_5 f19
  have hNm2 : NmAt w1 a2 ns := by
    refine hNm.below ?_
    focus
      repeat with_reducible first | exact Below.refl _ _ | refine below_drewN ?_ _ | refine Below.drew ?_ | refine Below.setCell ?_ ?_ _ | refine Below.alloc ?_ ?_ _ | refine below_then ?_ ?_ (by with_reducible assumption)
      all_goals first | omega | (simp only [sA, sC, sD, sE]; omega) | (simp; done) | (simp; omega)
  clear hNm
  go_wp2_with fail
  refine (HC.out _ _ _ (wB.heap.size + 1) hNm2 (by omega) (by assumption)).mono ?_
  rintro e wC ⟨b2, cap, rfl, hb, g2, rfl, hcap, hg2, k0⟩
  obtain ⟨s22, c22_0, c22_1, c22_2, c22_3, c22_4, c22_5, f22⟩ := L6 hb (w.heap.size) (by first | omega | (simp only [sA, sC, sD, sE]; omega) | (simp; done) | (simp; omega)) (by go_simp; exact ⟨rfl, rfl, rfl, rfl, rfl, rfl⟩) (by intro o; go_simp)
  clear c20_0 c20_1 c20_2 c20_3 c20_4 c20_5 f20 c21_0
  have hd2 : decide (0 < s.size) = true := decide_eq_true (by omega)
  go_upto_region 35 with (fail)
  go_quiet (fail)
  go_wp2
  have KK := Lib.hid hk256
  clear hk256
  go_loopw [17, 18] (fun t i wr => ∃ j : Nat, j ≤ K ∧ t = .string (repT s j) ∧ i = .int .i64 j ∧ wr = wC.drewN nq) (fun _ i _ => K - (intOf i).toNat)
  case atStart => exact ⟨0, Nat.zero_le _, rfl, rfl, rfl⟩
  case round =>
    obtain ⟨j, hj, rfl, rfl, rfl⟩ := hrel
    by_cases hlt : j < K
    · have ha := add_run (repT s j) s (by
        rw [repT_size]
        have : j * s.size ≤ K * s.size := Nat.mul_le_mul_right _ hj
        have := KK.out
        omega)
      rw [repT_succ] at ha
      generalize repT s j = T1 at *
      obtain ⟨T2, hT2⟩ : ∃ T2, T2 = repT s (j + 1) := ⟨_, rfl⟩
      rw [← hT2] at ha
      replace hT2 := Lib.hid hT2
      go_wp2
      go_roundw
      case rel => exact ⟨j + 1, by omega, by rw [hT2.out], by go_num, by first | rfl | trivial⟩
      case measure => simp [intOf]; omega
    · obtain rfl : j = K := by omega
      generalize repT s j = T1 at *
      go_wp2_with fail
      refine (HM.out _).mono ?_
      rintro e wD ⟨rfl, hb2⟩
      have hbE : Below wC.heap.size wC wD := by
        focus
          repeat with_reducible first | exact Below.refl _ _ | refine below_drewN ?_ _ | refine Below.drew ?_ | refine Below.setCell ?_ ?_ _ | refine Below.alloc ?_ ?_ _ | refine below_then ?_ ?_ (by with_reducible assumption)
          all_goals first | omega | (simp only [sA, sC, sD, sE]; omega) | (simp; done) | (simp; omega)
      obtain ⟨s23, c23_0, c23_1, c23_2, c23_3, c23_4, c23_5, f23⟩ := L6 hbE (w.heap.size) (by first | omega | (simp only [sA, sC, sD, sE]; omega) | (simp; done) | (simp; omega)) (by go_simp; exact ⟨rfl, rfl, rfl, rfl, rfl, rfl⟩) (by intro o; go_simp)
      clear c22_0 c22_1 c22_2 c22_3 c22_4 c22_5 f22
      go_wp2
      refine bodyPost_ret (v := .agg #[.int .i64 (R).k, .int .i64 (R).n, .int .i64 (R).d, .string (R).t, .bool (R).b, .int .i64 (R).f]) (by simp [results, Tryz.results46, go_sem, c23_0, c23_1, c23_2, c23_3, c23_4, c23_5]) rfl ⟨rfl, ?_⟩
      focus
        repeat with_reducible first | exact Below.refl _ _ | refine below_drewN ?_ _ | refine Below.drew ?_ | refine Below.setCell ?_ ?_ _ | refine Below.alloc ?_ ?_ _ | refine below_then ?_ ?_ (by with_reducible assumption)
        all_goals first | omega | (simp only [sA, sC, sD, sE]; omega) | (simp; done) | (simp; omega)
theorem occ_ext {t s : ByteArray} {k : Nat} (h : k + s.size ≤ t.size) : ((t.extract k (k + s.size)).toList == s.toList) = Lib.occAt t.data.toList s.data.toList k := by
  have hl : t.data.toList.length = t.size := by simp
  have hl2 : s.data.toList.length = s.size := by simp
  rw [Lib.occAt_iff_take _ _ _ (by rw [hl, hl2]; exact h), ByteArray.toList_eq, ByteArray.toList_eq, txt_ext, txt_list, hl2]
  congr 2
  omega
set_option maxRecDepth 100000 in
set_option maxHeartbeats 1000000 in
theorem rw_find (R : Vl) (s : ByteArray) (a b : Vl) (g off lc : Nat) (w : World) (hs : s.size ≤ 256) (HA : Hid (∀ wx : World, Calls Tryz.prog 86 #[.agg #[.int .i64 (a).k, .int .i64 (a).n, .int .i64 (a).d, .string (a).t, .bool (a).b, .int .i64 (a).f]] wx fun e w' => ∃ z : Vl, e = .returned (.tuple #[.string s, .agg #[.int .i64 (z).k, .int .i64 (z).n, .int .i64 (z).d, .string (z).t, .bool (z).b, .int .i64 (z).f]]) ∧ Below wx.heap.size wx w')) (hgw : g < w.heap.size) (hlc : 2 ≤ lc) (c0 : w.cell? ⟨g, off, none⟩ = some (.int .i64 a.k)) (c1 : w.cell? ⟨g, off + 1, none⟩ = some (.int .i64 a.n)) (c2 : w.cell? ⟨g, off + 2, none⟩ = some (.int .i64 a.d)) (c3 : w.cell? ⟨g, off + 3, none⟩ = some (.string a.t)) (c4 : w.cell? ⟨g, off + 4, none⟩ = some (.bool a.b)) (c5 : w.cell? ⟨g, off + 5, none⟩ = some (.int .i64 a.f)) (c6 : w.cell? ⟨g, off + 6, none⟩ = some (.int .i64 b.k)) (c7 : w.cell? ⟨g, off + 6 + 1, none⟩ = some (.int .i64 b.n)) (c8 : w.cell? ⟨g, off + 6 + 2, none⟩ = some (.int .i64 b.d)) (c9 : w.cell? ⟨g, off + 6 + 3, none⟩ = some (.string b.t)) (c10 : w.cell? ⟨g, off + 6 + 4, none⟩ = some (.bool b.b)) (c11 : w.cell? ⟨g, off + 6 + 5, none⟩ = some (.int .i64 b.f)) (t : ByteArray) (ht : t.size ≤ 256) (HB : Hid (∀ wx : World, Calls Tryz.prog 86 #[.agg #[.int .i64 (b).k, .int .i64 (b).n, .int .i64 (b).d, .string (b).t, .bool (b).b, .int .i64 (b).f]] wx fun e w' => ∃ z : Vl, e = .returned (.tuple #[.string t, .agg #[.int .i64 (z).k, .int .i64 (z).n, .int .i64 (z).d, .string (z).t, .bool (z).b, .int .i64 (z).f]]) ∧ Below wx.heap.size wx w')) (HW : Hid (∀ (k : Nat) (wx : World), k ≤ 256 → Lib.index t.data.toList s.data.toList = k → Calls Tryz.prog 94 #[.int .i64 ((k : Int) + 1)] wx fun e w' => e = .returned (.agg #[.int .i64 (R).k, .int .i64 (R).n, .int .i64 (R).d, .string (R).t, .bool (R).b, .int .i64 (R).f]) ∧ Below wx.heap.size wx w')) (HF : Hid (∀ wx : World, Lib.index t.data.toList s.data.toList = -1 → Calls Tryz.prog 40 #[.int .i64 5] wx fun e w' => e = .returned (.agg #[.int .i64 (R).k, .int .i64 (R).n, .int .i64 (R).d, .string (R).t, .bool (R).b, .int .i64 (R).f]) ∧ Below wx.heap.size wx w')) :
    Calls Tryz.prog 46 #[.int .i64 53, .slice (some ⟨g, off, none⟩) 2 lc] w fun e w' => e = .returned (.agg #[.int .i64 (R).k, .int .i64 (R).n, .int .i64 (R).d, .string (R).t, .bool (R).b, .int .i64 (R).f]) ∧ Below w.heap.size w w' := by
  have HL : Hid (t.data.toList.length = t.size ∧ s.data.toList.length = s.size) := ⟨by simp, by simp⟩
  go_enter Tryz.func46, Tryz.ntmps46
  go_wp2_with fail
  refine (HA.out _).mono ?_
  rintro e wA ⟨z, rfl, hb⟩
  have L := lcc hb g (by simp only [sz_alloc]; omega)
  have sg := lcs hb g (by simp only [sz_alloc]; omega)
  have d6 := (L (off + 6)).trans (by go_simp; exact rfl)
  have d7 := (L (off + 6 + 1)).trans (by go_simp; exact rfl)
  have d8 := (L (off + 6 + 2)).trans (by go_simp; exact rfl)
  have d9 := (L (off + 6 + 3)).trans (by go_simp; exact rfl)
  have d10 := (L (off + 6 + 4)).trans (by go_simp; exact rfl)
  have d11 := (L (off + 6 + 5)).trans (by go_simp; exact rfl)
  obtain ⟨s24, c24_0, c24_1, c24_2, c24_3, c24_4, c24_5, f24⟩ := L6 hb (w.heap.size) (by first | omega | (simp only [sA, sC, sD, sE]; omega) | (simp; done) | (simp; omega)) (by go_simp; exact ⟨rfl, rfl, rfl, rfl, rfl, rfl⟩) (by intro o; go_simp)
  go_wp2_with fail
  refine (HB.out _).mono ?_
  rintro e wB ⟨z2, rfl, hb⟩
  obtain ⟨s25, c25_0, c25_1, c25_2, c25_3, c25_4, c25_5, f25⟩ := L6 hb (w.heap.size) (by first | omega | (simp only [sA, sC, sD, sE]; omega) | (simp; done) | (simp; omega)) (by go_simp; exact ⟨rfl, rfl, rfl, rfl, rfl, rfl⟩) (by intro o; go_simp)
  clear c24_0 c24_1 c24_2 c24_3 c24_4 c24_5 f24
  go_upto_region 4 with (fail)
  first | with_reducible refine wp_rebase ?_ | with_reducible refine wpList_rebase ?_
  intro w1 hb'
  have hb := hb'.out
  clear hb'
  obtain ⟨s26, c26_0, c26_1, c26_2, c26_3, c26_4, c26_5, f26⟩ := L6 hb (w.heap.size) (by first | omega | (simp only [sA, sC, sD, sE]; omega) | (simp; done) | (simp; omega)) (by go_simp; exact ⟨rfl, rfl, rfl, rfl, rfl, rfl⟩) (by intro o; go_simp)
  clear c25_0 c25_1 c25_2 c25_3 c25_4 c25_5 f25
  go_wp2
  have HBB : Hid (Below w.heap.size w w1) := by
    unfold Hid
    focus
      repeat with_reducible first | exact Below.refl _ _ | refine below_drewN ?_ _ | refine Below.drew ?_ | refine Below.setCell ?_ ?_ _ | refine Below.alloc ?_ ?_ _ | refine below_then ?_ ?_ (by with_reducible assumption)
      all_goals first | omega | (simp only [sA, sC, sD, sE]; omega) | (simp; done) | (simp; omega)
  clear c0 c1 c2 c3 c4 c5 c6 c7 c8 c9 c10 c11 d6 d7 d8 d9 d10 d11 HA HB
  go_loop [9] (fun i => ∃ k : Nat, i = .int .i64 k ∧ k ≤ t.size + 1 ∧ Hid (∀ j, j < k → Lib.occAt t.data.toList s.data.toList j = false)) (fun i => t.size + 2 - (intOf i).toNat)
  case atStart => exact ⟨0, rfl, by omega, fun j h => by omega⟩
  case round =>
    obtain ⟨k, rfl, hk, HO⟩ := hrel
    by_cases hlt : k + s.size ≤ t.size
    · have hi : (k : Int) + (s.size : Int) ≤ (t.size : Int) := by omega
      have he := occ_ext hlt
      have e2 : ((k : Int) + (s.size : Int)).toNat = k + s.size := by omega
      cases ho : Lib.occAt t.data.toList s.data.toList k
      · rw [ho] at he
        have HO2 : Hid (∀ j, j < k + 1 → Lib.occAt t.data.toList s.data.toList j = false) := by
          intro j hj
          by_cases h : j < k
          · exact HO.out j h
          · obtain rfl : j = k := by omega
            exact ho
        clear ho HO
        go_wp2
        go_round
        case rel => exact ⟨k + 1, by go_num, by omega, HO2⟩
        case measure => simp [intOf]; omega
      · rw [ho] at he
        have HI := Lib.hid (HW.out k)
        have hx : Lib.index t.data.toList s.data.toList = k := Lib.index_first (by rw [HL.out.1]; omega) ho HO.out
        have HI2 := Lib.hid fun wx => HI.out wx (by omega) hx
        clear ho HO HI hx
        go_wp2_with fail
        refine (HI2.out _).mono ?_
        rintro e wD ⟨rfl, hb⟩
        obtain ⟨s27, c27_0, c27_1, c27_2, c27_3, c27_4, c27_5, f27⟩ := L6 hb (w.heap.size) (by first | omega | (simp only [sA, sC, sD, sE]; omega) | (simp; done) | (simp; omega)) (by go_simp; exact ⟨rfl, rfl, rfl, rfl, rfl, rfl⟩) (by intro o; go_simp)
        clear c26_0 c26_1 c26_2 c26_3 c26_4 c26_5 f26
        have hb8 := HBB.out
        go_wp2
        refine bodyPost_ret (v := .agg #[.int .i64 (R).k, .int .i64 (R).n, .int .i64 (R).d, .string (R).t, .bool (R).b, .int .i64 (R).f]) (by simp [results, Tryz.results46, go_sem, c27_0, c27_1, c27_2, c27_3, c27_4, c27_5]) rfl ⟨rfl, ?_⟩
        focus
          repeat with_reducible first | exact Below.refl _ _ | refine below_drewN ?_ _ | refine Below.drew ?_ | refine Below.setCell ?_ ?_ _ | refine Below.alloc ?_ ?_ _ | refine below_then ?_ ?_ (by with_reducible assumption)
          all_goals first | omega | (simp only [sA, sC, sD, sE]; omega) | (simp; done) | (simp; omega)
    · have hi : ¬ (k : Int) + (s.size : Int) ≤ (t.size : Int) := by omega
      have hx : Lib.index t.data.toList s.data.toList = -1 := by
        refine Lib.index_none fun j hj => ?_
        by_cases h : j < k
        · exact HO.out j h
        · cases ho : Lib.occAt t.data.toList s.data.toList j
          · rfl
          · rcases Lib.occAt_room ho with h2 | h2
            · rw [HL.out.1, HL.out.2] at h2; omega
            · have h3 : s.size = 0 := by rw [← HL.out.2, h2]; rfl
              rw [HL.out.1] at hj
              omega
      skip
      have HI2 := Lib.hid fun wx => HF.out wx hx
      clear HO hx
      go_wp2_with fail
      refine (HI2.out _).mono ?_
      rintro e wD ⟨rfl, hb⟩
      obtain ⟨s28, c28_0, c28_1, c28_2, c28_3, c28_4, c28_5, f28⟩ := L6 hb (w.heap.size) (by first | omega | (simp only [sA, sC, sD, sE]; omega) | (simp; done) | (simp; omega)) (by go_simp; exact ⟨rfl, rfl, rfl, rfl, rfl, rfl⟩) (by intro o; go_simp)
      have hb8 := HBB.out
      go_wp2
      refine bodyPost_ret (v := .agg #[.int .i64 (R).k, .int .i64 (R).n, .int .i64 (R).d, .string (R).t, .bool (R).b, .int .i64 (R).f]) (by simp [results, Tryz.results46, go_sem, c28_0, c28_1, c28_2, c28_3, c28_4, c28_5]) rfl ⟨rfl, ?_⟩
      focus
        repeat with_reducible first | exact Below.refl _ _ | refine below_drewN ?_ _ | refine Below.drew ?_ | refine Below.setCell ?_ ?_ _ | refine Below.alloc ?_ ?_ _ | refine below_then ?_ ?_ (by with_reducible assumption)
        all_goals first | omega | (simp only [sA, sC, sD, sE]; omega) | (simp; done) | (simp; omega)
end Go.Proofs.YtglngfaagjgpjaaGreatDoor
