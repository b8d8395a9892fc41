/- The walk of the reference's power of a number. -/
import Derived.Test.YtglngfaagjgpjaaGreatDoorRefC
import Derived.Test.YtglngfaagjgpjaaGreatDoorNumP
namespace Go.Proofs.YtglngfaagjgpjaaGreatDoor
open Go Go.RowKit
set_option linter.unusedSimpArgs false
set_option linter.unusedVariables false
theorem r1_Pow_zero (n d k : Int) (w : World) (hn : I64 n) (hd : I64 d) (h0 : k = 0) :
    Calls Tryz.prog 162 #[.agg #[.int .i64 n, .int .i64 d], .int .i64 k] w fun e' w' => e' = .returned (.tuple #[.agg #[.int .i64 (powN n d k).n, .int .i64 (powN n d k).d], .bool (powN n d k).ok]) ∧ Below w.heap.size w w' := by
  have HF : Hid (powN n d k = ⟨1, 1, true⟩) := by unfold Hid powN; rw [if_pos (Or.inl h0)]
  have HT := Lib.hid fun wx => r1_Of n d wx hn hd
  generalize powN n d k = Q at *
  have b0 : (k == 0) = true := by simp [h0]
  clear h0
  go_enter Tryz.func162, Tryz.ntmps162
  go_wp2_with fail
  refine (HT.out _).mono ?_
  rintro e wA ⟨rfl, hb⟩
  obtain ⟨s1, c1_0, c1_1, f1⟩ := L2 hb (w.heap.size) (by first | omega | (simp only [sA, sC, sD, sE]; omega) | (simp; done) | (simp; omega)) (by go_simp; exact ⟨rfl, rfl⟩) (by intro o; go_simp)
  obtain ⟨s2, c2_0, c2_1, f2⟩ := L2 hb (w.heap.size + 1) (by first | omega | (simp only [sA, sC, sD, sE]; omega) | (simp; done) | (simp; omega)) (by go_simp; exact ⟨rfl, rfl⟩) (by intro o; go_simp)
  go_upto_region 3 with (fail)
  first | with_reducible refine wp_rebase ?_ | with_reducible refine wpList_rebase ?_
  intro w1 hb'
  have hb := hb'.out
  clear hb'
  obtain ⟨s3, c3_0, c3_1, f3⟩ := L2 hb (w.heap.size) (by first | omega | (simp only [sA, sC, sD, sE]; omega) | (simp; done) | (simp; omega)) (by go_simp; exact ⟨rfl, rfl⟩) (by intro o; go_simp)
  obtain ⟨s4, c4_0, c4_1, f4⟩ := L2 hb (w.heap.size + 1) (by first | omega | (simp only [sA, sC, sD, sE]; omega) | (simp; done) | (simp; omega)) (by go_simp; exact ⟨rfl, rfl⟩) (by intro o; go_simp)
  obtain ⟨s5, c5_0, c5_1, f5⟩ := L2 hb (wA.heap.size) (by first | omega | (simp only [sA, sC, sD, sE]; omega) | (simp; done) | (simp; omega)) (by go_simp; exact ⟨rfl, rfl⟩) (by intro o; go_simp)
  clear c1_0 c1_1 f1 c2_0 c2_1 f2
  go_wp2
  refine bodyPost_ret (v := .tuple #[.agg #[.int .i64 (Q).n, .int .i64 (Q).d], .bool Q.ok]) (by rw [HF.out]; simp [results, Tryz.results162, go_sem, c3_0, c3_1, c4_0, c4_1, c5_0, c5_1]) rfl ⟨rfl, ?_⟩
  focus
    repeat with_reducible first | exact Below.refl _ _ | refine below_drewN ?_ _ | refine Below.drew ?_ | refine Below.setCell ?_ ?_ _ | refine Below.alloc ?_ ?_ _ | refine below_then ?_ ?_ (by with_reducible assumption)
    all_goals first | omega | (simp only [sA, sC, sD, sE]; omega) | (simp; done) | (simp; omega)
set_option maxHeartbeats 1000000 in
theorem r1_Pow_null (n d k : Int) (w : World) (hn : I64 n) (hd : I64 d) (h0 : ¬ k = 0) (hz : (tk n d).n = 0) :
    Calls Tryz.prog 162 #[.agg #[.int .i64 n, .int .i64 d], .int .i64 k] w fun e' w' => e' = .returned (.tuple #[.agg #[.int .i64 (powN n d k).n, .int .i64 (powN n d k).d], .bool (powN n d k).ok]) ∧ Below w.heap.size w w' := by
  have HF : powN n d k = if k < 0 then badB else ⟨(tk n d).n, (tk n d).d, true⟩ := by
    unfold powN
    rw [if_neg (by rintro (h | ⟨h, _⟩); exact h0 h; omega), if_pos hz]
  have HT := Lib.hid fun wx => r1_Of n d wx hn hd
  have b0 : (k == 0) = false := by simp [h0]
  have b1 : ((tk n d).n == 0) = true := by simp [hz]
  generalize powN n d k = Q at *
  generalize tk n d = t at *
  clear hz h0
  by_cases hs : k < 0
  · rw [if_pos hs] at HF
    replace HF := Lib.hid HF
    go_enter Tryz.func162, Tryz.ntmps162
    go_wp2_with fail
    refine (HT.out _).mono ?_
    rintro e wA ⟨rfl, hb⟩
    obtain ⟨s6, c6_0, c6_1, f6⟩ := L2 hb (w.heap.size) (by first | omega | (simp only [sA, sC, sD, sE]; omega) | (simp; done) | (simp; omega)) (by go_simp; exact ⟨rfl, rfl⟩) (by intro o; go_simp)
    obtain ⟨s7, c7_0, c7_1, f7⟩ := L2 hb (w.heap.size + 1) (by first | omega | (simp only [sA, sC, sD, sE]; omega) | (simp; done) | (simp; omega)) (by go_simp; exact ⟨rfl, rfl⟩) (by intro o; go_simp)
    go_upto_region 3 with (fail)
    first | with_reducible refine wp_rebase ?_ | with_reducible refine wpList_rebase ?_
    intro w1 hb'
    have hb := hb'.out
    clear hb'
    obtain ⟨s8, c8_0, c8_1, f8⟩ := L2 hb (w.heap.size) (by first | omega | (simp only [sA, sC, sD, sE]; omega) | (simp; done) | (simp; omega)) (by go_simp; exact ⟨rfl, rfl⟩) (by intro o; go_simp)
    obtain ⟨s9, c9_0, c9_1, f9⟩ := L2 hb (w.heap.size + 1) (by first | omega | (simp only [sA, sC, sD, sE]; omega) | (simp; done) | (simp; omega)) (by go_simp; exact ⟨rfl, rfl⟩) (by intro o; go_simp)
    obtain ⟨s10, c10_0, c10_1, f10⟩ := L2 hb (wA.heap.size) (by first | omega | (simp only [sA, sC, sD, sE]; omega) | (simp; done) | (simp; omega)) (by go_simp; exact ⟨rfl, rfl⟩) (by intro o; go_simp)
    clear c6_0 c6_1 f6 c7_0 c7_1 f7
    go_wp2
    refine bodyPost_ret (v := .tuple #[.agg #[.int .i64 (Q).n, .int .i64 (Q).d], .bool Q.ok]) (by rw [HF.out]; simp [results, Tryz.results162, go_sem, c8_0, c8_1, c9_0, c9_1, c10_0, c10_1, badB]) rfl ⟨rfl, ?_⟩
    focus
      repeat with_reducible first | exact Below.refl _ _ | refine below_drewN ?_ _ | refine Below.drew ?_ | refine Below.setCell ?_ ?_ _ | refine Below.alloc ?_ ?_ _ | refine below_then ?_ ?_ (by with_reducible assumption)
      all_goals first | omega | (simp only [sA, sC, sD, sE]; omega) | (simp; done) | (simp; omega)
  · rw [if_neg hs] at HF
    replace HF := Lib.hid HF
    go_enter Tryz.func162, Tryz.ntmps162
    go_wp2_with fail
    refine (HT.out _).mono ?_
    rintro e wA ⟨rfl, hb⟩
    obtain ⟨s11, c11_0, c11_1, f11⟩ := L2 hb (w.heap.size) (by first | omega | (simp only [sA, sC, sD, sE]; omega) | (simp; done) | (simp; omega)) (by go_simp; exact ⟨rfl, rfl⟩) (by intro o; go_simp)
    obtain ⟨s12, c12_0, c12_1, f12⟩ := L2 hb (w.heap.size + 1) (by first | omega | (simp only [sA, sC, sD, sE]; omega) | (simp; done) | (simp; omega)) (by go_simp; exact ⟨rfl, rfl⟩) (by intro o; go_simp)
    go_upto_region 3 with (fail)
    first | with_reducible refine wp_rebase ?_ | with_reducible refine wpList_rebase ?_
    intro w1 hb'
    have hb := hb'.out
    clear hb'
    obtain ⟨s13, c13_0, c13_1, f13⟩ := L2 hb (w.heap.size) (by first | omega | (simp only [sA, sC, sD, sE]; omega) | (simp; done) | (simp; omega)) (by go_simp; exact ⟨rfl, rfl⟩) (by intro o; go_simp)
    obtain ⟨s14, c14_0, c14_1, f14⟩ := L2 hb (w.heap.size + 1) (by first | omega | (simp only [sA, sC, sD, sE]; omega) | (simp; done) | (simp; omega)) (by go_simp; exact ⟨rfl, rfl⟩) (by intro o; go_simp)
    obtain ⟨s15, c15_0, c15_1, f15⟩ := L2 hb (wA.heap.size) (by first | omega | (simp only [sA, sC, sD, sE]; omega) | (simp; done) | (simp; omega)) (by go_simp; exact ⟨rfl, rfl⟩) (by intro o; go_simp)
    clear c11_0 c11_1 f11 c12_0 c12_1 f12
    go_wp2
    refine bodyPost_ret (v := .tuple #[.agg #[.int .i64 (Q).n, .int .i64 (Q).d], .bool Q.ok]) (by rw [HF.out]; simp [results, Tryz.results162, go_sem, c13_0, c13_1, c14_0, c14_1, c15_0, c15_1]) rfl ⟨rfl, ?_⟩
    focus
      repeat with_reducible first | exact Below.refl _ _ | refine below_drewN ?_ _ | refine Below.drew ?_ | refine Below.setCell ?_ ?_ _ | refine Below.alloc ?_ ?_ _ | refine below_then ?_ ?_ (by with_reducible assumption)
      all_goals first | omega | (simp only [sA, sC, sD, sE]; omega) | (simp; done) | (simp; omega)
set_option maxHeartbeats 1000000 in
theorem r1_Pow_unit (n d k : Int) (w : World) (hn : I64 n) (hd : I64 d) (h0 : ¬ k = 0) (hz : (tk n d).d = 1) (h1 : (tk n d).n = 1 ∨ (tk n d).n = -1) :
    Calls Tryz.prog 162 #[.agg #[.int .i64 n, .int .i64 d], .int .i64 k] w fun e' w' => e' = .returned (.tuple #[.agg #[.int .i64 (powN n d k).n, .int .i64 (powN n d k).d], .bool (powN n d k).ok]) ∧ Below w.heap.size w w' := by
  have HT := Lib.hid fun wx => r1_Of n d wx hn hd
  have b0 : (k == 0) = false := by simp [h0]
  rcases h1 with h1 | h1
  · have HF : Hid (powN n d k = ⟨1, 1, true⟩) := by unfold Hid powN; rw [if_pos (Or.inr ⟨h1, hz⟩)]
    have b1 : ((tk n d).n == 0) = false := by simp [h1]
    have b2 : ((tk n d).d == 1) = true := by simp [hz]
    have b3 : ((tk n d).n == 1) = true := by simp [h1]
    have b4 : ((tk n d).n == -1) = false := by simp [h1]
    generalize powN n d k = Q at *
    generalize tk n d = t at *
    clear hz h0 h1
    go_enter Tryz.func162, Tryz.ntmps162
    go_wp2_with fail
    refine (HT.out _).mono ?_
    rintro e wA ⟨rfl, hb⟩
    obtain ⟨s16, c16_0, c16_1, f16⟩ := L2 hb (w.heap.size) (by first | omega | (simp only [sA, sC, sD, sE]; omega) | (simp; done) | (simp; omega)) (by go_simp; exact ⟨rfl, rfl⟩) (by intro o; go_simp)
    obtain ⟨s17, c17_0, c17_1, f17⟩ := L2 hb (w.heap.size + 1) (by first | omega | (simp only [sA, sC, sD, sE]; omega) | (simp; done) | (simp; omega)) (by go_simp; exact ⟨rfl, rfl⟩) (by intro o; go_simp)
    go_upto_region 3 with (fail)
    first | with_reducible refine wp_rebase ?_ | with_reducible refine wpList_rebase ?_
    intro w1 hb'
    have hb := hb'.out
    clear hb'
    obtain ⟨s18, c18_0, c18_1, f18⟩ := L2 hb (w.heap.size) (by first | omega | (simp only [sA, sC, sD, sE]; omega) | (simp; done) | (simp; omega)) (by go_simp; exact ⟨rfl, rfl⟩) (by intro o; go_simp)
    obtain ⟨s19, c19_0, c19_1, f19⟩ := L2 hb (w.heap.size + 1) (by first | omega | (simp only [sA, sC, sD, sE]; omega) | (simp; done) | (simp; omega)) (by go_simp; exact ⟨rfl, rfl⟩) (by intro o; go_simp)
    obtain ⟨s20, c20_0, c20_1, f20⟩ := L2 hb (wA.heap.size) (by first | omega | (simp only [sA, sC, sD, sE]; omega) | (simp; done) | (simp; omega)) (by go_simp; exact ⟨rfl, rfl⟩) (by intro o; go_simp)
    clear c16_0 c16_1 f16 c17_0 c17_1 f17
    go_wp2
    refine bodyPost_ret (v := .tuple #[.agg #[.int .i64 (Q).n, .int .i64 (Q).d], .bool Q.ok]) (by rw [HF.out]; simp [results, Tryz.results162, go_sem, c18_0, c18_1, c19_0, c19_1, c20_0, c20_1]) rfl ⟨rfl, ?_⟩
    focus
      repeat with_reducible first | exact Below.refl _ _ | refine below_drewN ?_ _ | refine Below.drew ?_ | refine Below.setCell ?_ ?_ _ | refine Below.alloc ?_ ?_ _ | refine below_then ?_ ?_ (by with_reducible assumption)
      all_goals first | omega | (simp only [sA, sC, sD, sE]; omega) | (simp; done) | (simp; omega)
  · have HF : powN n d k = ⟨if k.tmod 2 ≠ 0 then -1 else 1, 1, true⟩ := by
      unfold powN
      rw [if_neg (by rintro (h | ⟨h, _⟩); exact h0 h; omega), if_neg (by omega), h1, hz]
      simp
    have b1 : ((tk n d).n == 0) = false := by simp [h1]
    have b2 : ((tk n d).d == 1) = true := by simp [hz]
    have b3 : ((tk n d).n == 1) = false := by simp [h1]
    have b4 : ((tk n d).n == -1) = true := by simp [h1]
    have ht : Hid ((tk n d).n = -1 ∧ (tk n d).d = 1) := ⟨h1, hz⟩
    generalize powN n d k = Q at *
    generalize tk n d = t at *
    clear hz h0 h1
    cases ho : (k.tmod 2 != 0)
    · have hk : ¬ k.tmod 2 ≠ 0 := by simpa using ho
      rw [if_neg hk] at HF
      replace HF := Lib.hid HF
      clear hk
      go_enter Tryz.func162, Tryz.ntmps162
      go_wp2_with fail
      refine (HT.out _).mono ?_
      rintro e wA ⟨rfl, hb⟩
      obtain ⟨s21, c21_0, c21_1, f21⟩ := L2 hb (w.heap.size) (by first | omega | (simp only [sA, sC, sD, sE]; omega) | (simp; done) | (simp; omega)) (by go_simp; exact ⟨rfl, rfl⟩) (by intro o; go_simp)
      obtain ⟨s22, c22_0, c22_1, f22⟩ := L2 hb (w.heap.size + 1) (by first | omega | (simp only [sA, sC, sD, sE]; omega) | (simp; done) | (simp; omega)) (by go_simp; exact ⟨rfl, rfl⟩) (by intro o; go_simp)
      go_upto_region 3 with (fail)
      first | with_reducible refine wp_rebase ?_ | with_reducible refine wpList_rebase ?_
      intro w1 hb'
      have hb := hb'.out
      clear hb'
      obtain ⟨s23, c23_0, c23_1, f23⟩ := L2 hb (w.heap.size) (by first | omega | (simp only [sA, sC, sD, sE]; omega) | (simp; done) | (simp; omega)) (by go_simp; exact ⟨rfl, rfl⟩) (by intro o; go_simp)
      obtain ⟨s24, c24_0, c24_1, f24⟩ := L2 hb (w.heap.size + 1) (by first | omega | (simp only [sA, sC, sD, sE]; omega) | (simp; done) | (simp; omega)) (by go_simp; exact ⟨rfl, rfl⟩) (by intro o; go_simp)
      obtain ⟨s25, c25_0, c25_1, f25⟩ := L2 hb (wA.heap.size) (by first | omega | (simp only [sA, sC, sD, sE]; omega) | (simp; done) | (simp; omega)) (by go_simp; exact ⟨rfl, rfl⟩) (by intro o; go_simp)
      clear c21_0 c21_1 f21 c22_0 c22_1 f22
      go_wp2
      refine bodyPost_ret (v := .tuple #[.agg #[.int .i64 (Q).n, .int .i64 (Q).d], .bool Q.ok]) (by rw [HF.out]; simp [results, Tryz.results162, go_sem, c23_0, c23_1, c24_0, c24_1, c25_0, c25_1]) rfl ⟨rfl, ?_⟩
      focus
        repeat with_reducible first | exact Below.refl _ _ | refine below_drewN ?_ _ | refine Below.drew ?_ | refine Below.setCell ?_ ?_ _ | refine Below.alloc ?_ ?_ _ | refine below_then ?_ ?_ (by with_reducible assumption)
        all_goals first | omega | (simp only [sA, sC, sD, sE]; omega) | (simp; done) | (simp; omega)
    · have hk : k.tmod 2 ≠ 0 := by simpa using ho
      rw [if_pos hk] at HF
      have HF2 : Hid (Q = ⟨t.n, t.d, true⟩) := by unfold Hid; rw [HF, ht.out.1, ht.out.2]
      clear hk HF ht
      go_enter Tryz.func162, Tryz.ntmps162
      go_wp2_with fail
      refine (HT.out _).mono ?_
      rintro e wA ⟨rfl, hb⟩
      obtain ⟨s26, c26_0, c26_1, f26⟩ := L2 hb (w.heap.size) (by first | omega | (simp only [sA, sC, sD, sE]; omega) | (simp; done) | (simp; omega)) (by go_simp; exact ⟨rfl, rfl⟩) (by intro o; go_simp)
      obtain ⟨s27, c27_0, c27_1, f27⟩ := L2 hb (w.heap.size + 1) (by first | omega | (simp only [sA, sC, sD, sE]; omega) | (simp; done) | (simp; omega)) (by go_simp; exact ⟨rfl, rfl⟩) (by intro o; go_simp)
      go_upto_region 3 with (fail)
      first | with_reducible refine wp_rebase ?_ | with_reducible refine wpList_rebase ?_
      intro w1 hb'
      have hb := hb'.out
      clear hb'
      obtain ⟨s28, c28_0, c28_1, f28⟩ := L2 hb (w.heap.size) (by first | omega | (simp only [sA, sC, sD, sE]; omega) | (simp; done) | (simp; omega)) (by go_simp; exact ⟨rfl, rfl⟩) (by intro o; go_simp)
      obtain ⟨s29, c29_0, c29_1, f29⟩ := L2 hb (w.heap.size + 1) (by first | omega | (simp only [sA, sC, sD, sE]; omega) | (simp; done) | (simp; omega)) (by go_simp; exact ⟨rfl, rfl⟩) (by intro o; go_simp)
      obtain ⟨s30, c30_0, c30_1, f30⟩ := L2 hb (wA.heap.size) (by first | omega | (simp only [sA, sC, sD, sE]; omega) | (simp; done) | (simp; omega)) (by go_simp; exact ⟨rfl, rfl⟩) (by intro o; go_simp)
      clear c26_0 c26_1 f26 c27_0 c27_1 f27
      go_wp2
      refine bodyPost_ret (v := .tuple #[.agg #[.int .i64 (Q).n, .int .i64 (Q).d], .bool Q.ok]) (by rw [HF2.out]; simp [results, Tryz.results162, go_sem, c28_0, c28_1, c29_0, c29_1, c30_0, c30_1]) rfl ⟨rfl, ?_⟩
      focus
        repeat with_reducible first | exact Below.refl _ _ | refine below_drewN ?_ _ | refine Below.drew ?_ | refine Below.setCell ?_ ?_ _ | refine Below.alloc ?_ ?_ _ | refine below_then ?_ ?_ (by with_reducible assumption)
        all_goals first | omega | (simp only [sA, sC, sD, sE]; omega) | (simp; done) | (simp; omega)
end Go.Proofs.YtglngfaagjgpjaaGreatDoor
