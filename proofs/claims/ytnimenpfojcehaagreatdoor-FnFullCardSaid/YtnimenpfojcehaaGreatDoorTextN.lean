/- Walks of package num: Text. -/
import Derived.Test.YtnimenpfojcehaaGreatDoorNumG
import Derived.Test.YtnimenpfojcehaaGreatDoorShelfV
import Derived.BigQuiet
import Derived.Lib.ItoaLen
namespace Go.Proofs.YtnimenpfojcehaaGreatDoor
open Go Go.RowKit
set_option linter.unusedSimpArgs false
set_option linter.unusedVariables false

/-- The table of the powers of ten lies in the world. -/
def Pow10 (w : World) : Prop := Lib.TabIs Tryz.prog w "internal/strconv.uint64pow10" .u64 Lib.pow10Tab
theorem Pow10.below {w w' : World} (h : Pow10 w) (hb : Below w.heap.size w w') : Pow10 w' := by
  unfold Pow10 Lib.TabIs World.var? at *
  cases hg : Program.globalNamed Tryz.prog "internal/strconv.uint64pow10" with
  | none => rw [hg] at h; cases h
  | some g =>
    rw [hg] at h
    simp only [Option.bind_some] at h ⊢
    have hlt : g < w.heap.size := by
      rcases Nat.lt_or_ge g w.heap.size with h' | h'
      · exact h'
      · rw [Array.getElem?_eq_none h'] at h; cases h
    rw [hb.block g hlt]
    exact h
theorem below_grow (w : World) (k : Nat) (os : Array Obj) : Below w.heap.size w (Sort.grow (w.drewN k) os) := by
  refine ⟨by rfl, by rfl, by rfl, ?_, ?_⟩
  · simp [Sort.grow, sz_drewN]
  · intro i hi
    show ((w.drewN k).heap ++ os)[i]? = _
    rw [Array.getElem?_append_left (by rw [sz_drewN]; exact hi)]
    rfl
def itoaB (n : Int) : ByteArray := ⟨(Lib.itoa n).toArray⟩
theorem itoaB_size (n : Int) (h : I64 n) : 1 ≤ (itoaB n).size ∧ (itoaB n).size ≤ 21 := by
  have h1 := Lib.itoa_length_le n h.1 h.2
  have e : (itoaB n).size = (Lib.itoa n).length := by simp [itoaB, ByteArray.size]
  rw [e]
  refine ⟨?_, h1⟩
  unfold Lib.itoa
  have hd : ∀ u, 1 ≤ (Lib.decDigits u).length := by
    intro u
    rw [Lib.decDigits]
    split <;> simp
  split
  · simp
  · exact hd _
theorem add_run (a b : ByteArray) (h : a.size + b.size ≤ 1000000) (wx : World) : (Op.stringOp .add a b).run Tryz.prog wx = .ok (.string (a ++ b)) wx := Go.run_string_add_sum wx a b (by omega)
theorem Itoa (n : Int) (w : World) (hn : I64 n) (h : Pow10 w) : Calls Tryz.prog 101 #[.int .i64 n] w fun e w' => e = .returned (.string (itoaB n)) ∧ Below w.heap.size w w' := by
  refine (Tryz.strconv_Itoa n hn.1 hn.2 w h).mono ?_
  rintro e w' ⟨rfl, k, os, rfl⟩
  exact ⟨rfl, below_grow _ _ _⟩
def trimZ (s : ByteArray) : ByteArray := ⟨(Lib.trimRightB s.data.toList 48).toArray⟩
theorem TrimZ (s : ByteArray) (w : World) (hs : s.size ≤ 9223372036854775807) : Calls Tryz.prog 102 #[.string s, .string ⟨#[48]⟩] w fun e w' => e = .returned (.string (trimZ s)) ∧ w' = w :=
  Tryz.strings_TrimRight_one s 48 (by decide) w hs
theorem trimZ_size (s : ByteArray) : (trimZ s).size ≤ s.size := by
  have h : (Lib.trimRightB s.data.toList 48).length ≤ s.data.toList.length := by
    unfold Lib.trimRightB
    rw [List.length_reverse]
    have := (List.dropWhile_sublist (· == (48 : UInt8)) (l := s.data.toList.reverse)).length_le
    rwa [List.length_reverse] at this
  have e : (trimZ s).size = (Lib.trimRightB s.data.toList 48).length := by simp [trimZ, ByteArray.size]
  have e2 : s.data.toList.length = s.size := by rw [Array.length_toList]; rfl
  rw [e]
  omega
def sgB (n : Int) : ByteArray := if n < 0 then ⟨#[45]⟩ else ⟨#[]⟩
/-- What a number of the range is written as. -/
def textX (p q : Int) : ByteArray :=
  if (1000000 % q != 0) = true then sgB p ++ itoaB p.natAbs ++ ⟨#[47]⟩ ++ itoaB q
  else if (q == 1) = true then sgB p ++ itoaB (p.natAbs / q)
  else sgB p ++ itoaB (p.natAbs / q) ++ ⟨#[46]⟩ ++ trimZ ((itoaB (1000000 + p.natAbs % q * (1000000 / q))).extract 1 (itoaB (1000000 + p.natAbs % q * (1000000 / q))).size)
def textN (n d : Int) : ByteArray := textX (tk n d).n (tk n d).d
set_option maxRecDepth 100000 in
set_option maxHeartbeats 1000000 in
theorem num_Text (n d : Int) (w : World) (hn : I64 n) (hd : I64 d) (hp : Pow10 w) :
    Calls Tryz.prog 76 #[.agg #[.int .i64 n, .int .i64 d]] w fun e w' => e = .returned (.string (textN n d)) ∧ Below w.heap.size w w' := by
  have HT := Lib.hid fun wx => num_taken n d wx hn hd
  obtain ⟨b0, b1, b2, b3⟩ := tk_bd n d
  have HF : Hid (textN n d = textX (tk n d).n (tk n d).d) := rfl
  generalize textN n d = out at *
  generalize (tk n d).n = p at *
  generalize (tk n d).d = q at *
  have hq0 : ¬ q = 0 := by omega
  have HP := Lib.hid fun wx h => hp.below (w' := wx) h
  have hm1 : decide (p < 0) = true → sgB p = ⟨#[45]⟩ := fun h => by unfold sgB; rw [if_pos (of_decide_eq_true h)]
  have hm0 : decide (p < 0) = false → sgB p = ⟨#[]⟩ := fun h => by unfold sgB; rw [if_neg (of_decide_eq_false h)]
  have hw1 : wrap64 ((p.natAbs : Int) / q) = (p.natAbs : Int) / q := by
    have h1 := Int.ediv_nonneg (a := (p.natAbs : Int)) (b := q) (by omega) (by omega)
    have h2 := Int.ediv_le_self q (a := (p.natAbs : Int)) (by omega)
    unfold wrap64; omega
  have HX : Hid (textX p q = if (1000000 % q != 0) = true then sgB p ++ itoaB p.natAbs ++ ⟨#[47]⟩ ++ itoaB q
  else if (q == 1) = true then sgB p ++ itoaB (p.natAbs / q)
  else sgB p ++ itoaB (p.natAbs / q) ++ ⟨#[46]⟩ ++ trimZ ((itoaB (1000000 + p.natAbs % q * (1000000 / q))).extract 1 (itoaB (1000000 + p.natAbs % q * (1000000 / q))).size)) := rfl
  cases hs : decide (p < 0)
  · rw [hm0 hs] at HX
    clear hm0 hm1
    cases hr : (1000000 % q != 0)
    · rw [hr, if_neg (by decide)] at HX
      go_enter Tryz.func76, Tryz.ntmps76
      go_wp2_with fail
      refine (HT.out _).mono ?_
      rintro e w1 ⟨rfl, hb⟩
      obtain ⟨s1, c1_0, c1_1, f1⟩ := L2 hb (w.heap.size) (by first | omega | (simp only [sA, sC, sD, sE]; omega) | (simp; done) | (simp; omega)) (by go_simp; exact ⟨rfl, rfl⟩) (by intro o; go_simp)
      go_wp2_with fail
      refine (num_size _ _ ⟨by omega, by omega⟩).mono ?_
      rintro e w2 ⟨rfl, rfl⟩
      go_upto_region 7 with (fail)
      first | with_reducible refine wp_rebase ?_ | with_reducible refine wpList_rebase ?_
      intro w1 hb'
      have hb := hb'.out
      clear hb'
      obtain ⟨s2, c2_0, c2_1, f2⟩ := L2 hb (w.heap.size) (by first | omega | (simp only [sA, sC, sD, sE]; omega) | (simp; done) | (simp; omega)) (by go_simp; exact ⟨rfl, rfl⟩) (by intro o; go_simp)
      clear c1_0 c1_1 f1
      have hp1 := HP.out w1 (by
        focus
          repeat with_reducible first | exact Below.refl _ _ | refine below_drewN ?_ _ | refine Below.drew ?_ | refine Below.setCell ?_ ?_ _ | refine Below.alloc ?_ ?_ _ | refine below_then ?_ ?_ (by with_reducible assumption)
          all_goals first | omega | (simp only [sA, sC, sD, sE]; omega) | (simp; done) | (simp; omega)
        )
      have hd1 := Int.ediv_nonneg (a := (p.natAbs : Int)) (b := q) (by omega) (by omega)
      have hd2 := Int.ediv_le_self q (a := (p.natAbs : Int)) (by omega)
      have hI : I64 ((p.natAbs : Int) / q) := ⟨by omega, by omega⟩
      have hq1 := Lib.hid fun wx => Itoa ((p.natAbs : Int) / q) wx hI
      have hq2 := itoaB_size _ hI
      clear hd1 hd2 hI
      generalize itoaB ((p.natAbs : Int) / q) = tq at *
      have hl0 : (⟨#[]⟩ : ByteArray).size ≤ 1 := by decide
      have hA1 := add_run (⟨#[]⟩ : ByteArray) tq (by omega)
      cases h1 : (q == 1)
      · rw [h1, if_neg (by decide)] at HX
        have r0 := Int.emod_nonneg (p.natAbs : Int) (b := q) (by omega)
        have r1 := Int.emod_lt_of_pos (p.natAbs : Int) (b := q) (by omega)
        have z0 := Int.ediv_nonneg (a := 1000000) (b := q) (by omega) (by omega)
        have z1 := Int.ediv_le_self q (a := 1000000) (by omega)
        have hv1 : wrap64 (1000000 / q) = 1000000 / q := by unfold wrap64; omega
        have m0 := Int.mul_nonneg r0 z0
        have m1 : (p.natAbs : Int) % q * (1000000 / q) ≤ 1000000 * 1000000 := Int.mul_le_mul (by omega) z1 z0 (by omega)
        have hv2 : wrap64 ((p.natAbs : Int) % q * (1000000 / q)) = (p.natAbs : Int) % q * (1000000 / q) := by unfold wrap64; omega
        have hv3 : wrap64 (1000000 + (p.natAbs : Int) % q * (1000000 / q)) = 1000000 + (p.natAbs : Int) % q * (1000000 / q) := by unfold wrap64; omega
        have hI : I64 (1000000 + (p.natAbs : Int) % q * (1000000 / q)) := ⟨by omega, by omega⟩
        have hz := itoaB_size _ hI
        have HZ := Lib.hid fun wx => Itoa _ wx hI
        clear hI
        generalize itoaB (1000000 + (p.natAbs : Int) % q * (1000000 / q)) = tz at *
        have hz0 : ¬ (tz.size : Int) < 1 := by omega
        go_wp2_with fail
        refine ((hq1.out _) (by assumption)).mono ?_
        rintro e w2 ⟨rfl, hb⟩
        obtain ⟨s3, c3_0, c3_1, f3⟩ := L2 hb (w.heap.size) (by first | omega | (simp only [sA, sC, sD, sE]; omega) | (simp; done) | (simp; omega)) (by go_simp; exact ⟨rfl, rfl⟩) (by intro o; go_simp)
        clear c2_0 c2_1 f2
        have hp2 := HP.out w2 (by
          focus
            repeat with_reducible first | exact Below.refl _ _ | refine below_drewN ?_ _ | refine Below.drew ?_ | refine Below.setCell ?_ ?_ _ | refine Below.alloc ?_ ?_ _ | refine below_then ?_ ?_ (by with_reducible assumption)
            all_goals first | omega | (simp only [sA, sC, sD, sE]; omega) | (simp; done) | (simp; omega)
          )
        have LP := fun (w' : World) (h : Below w2.heap.size w2 w') => hp2.below h
        go_upto_region 10 with fail
        refine region_below 10 (by kernel_rfl) (by kernel_rfl) ?_
        simp only [List.take_succ_cons, List.take_zero, List.drop_succ_cons, List.drop_zero]
        repeat
          first | (refine q_run ?_ ?_; focus (go_simp; done)) | (refine q_skip ?_ ?_; focus (go_simp; done))
          try (apply Exists.intro; refine ⟨fun w' hw' => ?_, ?_⟩; focus (have hc := (bcell hw'.out).1; have hx0 := LP w' hw'.out; unfold Oper.quietAt; go_simp; (try go_ints); (first | rfl | (go_at_call 101; refine (HZ.out _ hx0).mono ?_; rintro e w2 ⟨rfl, hb⟩; exact ⟨rfl, hw'.chain hb⟩))))
          intro K hK
          go_simp
          refine hK _ ?_
          clear hK K
        refine wpQuiet_nil ?_
        intro w1 hb'
        have hb := hb'.out
        clear hb'
        go_wp2_with fail
        have e1 : (tz.extract 1 tz.size).size ≤ 21 := by simp; omega
        refine (TrimZ _ _ (by omega)).mono ?_
        rintro e w3 ⟨rfl, rfl⟩
        have e2 := trimZ_size (tz.extract 1 tz.size)
        have hA2 := add_run ((⟨#[]⟩ : ByteArray) ++ tq) ⟨#[46]⟩ (by have e : (⟨#[46]⟩ : ByteArray).size = 1 := rfl; rw [ByteArray.size_append]; omega)
        have hA3 := add_run ((⟨#[]⟩ : ByteArray) ++ tq ++ ⟨#[46]⟩) (trimZ (tz.extract 1 tz.size)) (by have e : (⟨#[46]⟩ : ByteArray).size = 1 := rfl; rw [ByteArray.size_append, ByteArray.size_append]; omega)
        generalize trimZ (tz.extract 1 tz.size) = tt at *
        go_wp2
        go_ret
        refine ⟨?_, ?_⟩
        · rw [HF.out, HX.out]; rfl
        focus
          repeat with_reducible first | exact Below.refl _ _ | refine below_drewN ?_ _ | refine Below.drew ?_ | refine Below.setCell ?_ ?_ _ | refine Below.alloc ?_ ?_ _ | refine below_then ?_ ?_ (by with_reducible assumption)
          all_goals first | omega | (simp only [sA, sC, sD, sE]; omega) | (simp; done) | (simp; omega)
      · rw [h1, if_pos rfl] at HX
        go_wp2_with fail
        refine ((hq1.out _) (by assumption)).mono ?_
        rintro e w2 ⟨rfl, hb⟩
        obtain ⟨s4, c4_0, c4_1, f4⟩ := L2 hb (w.heap.size) (by first | omega | (simp only [sA, sC, sD, sE]; omega) | (simp; done) | (simp; omega)) (by go_simp; exact ⟨rfl, rfl⟩) (by intro o; go_simp)
        go_wp2
        go_ret
        refine ⟨?_, ?_⟩
        · rw [HF.out, HX.out]; rfl
        focus
          repeat with_reducible first | exact Below.refl _ _ | refine below_drewN ?_ _ | refine Below.drew ?_ | refine Below.setCell ?_ ?_ _ | refine Below.alloc ?_ ?_ _ | refine below_then ?_ ?_ (by with_reducible assumption)
          all_goals first | omega | (simp only [sA, sC, sD, sE]; omega) | (simp; done) | (simp; omega)
    · rw [hr, if_pos rfl] at HX
      have hI1 : I64 (p.natAbs : Int) := ⟨by omega, by omega⟩
      have hI2 : I64 q := ⟨by omega, by omega⟩
      have HN := Lib.hid fun wx => Itoa _ wx hI1
      have HD := Lib.hid fun wx => Itoa _ wx hI2
      have hz1 := itoaB_size _ hI1
      have hz2 := itoaB_size _ hI2
      clear hI1 hI2
      generalize itoaB (p.natAbs : Int) = tn at *
      generalize itoaB q = td at *
      have hl0 : (⟨#[]⟩ : ByteArray).size ≤ 1 := by decide
      have hl1 : (⟨#[47]⟩ : ByteArray).size = 1 := rfl
      have hA1 := add_run (⟨#[]⟩ : ByteArray) tn (by omega)
      have hA2 := add_run ((⟨#[]⟩ : ByteArray) ++ tn) ⟨#[47]⟩ (by rw [ByteArray.size_append]; omega)
      have hA3 := add_run ((⟨#[]⟩ : ByteArray) ++ tn ++ ⟨#[47]⟩) td (by rw [ByteArray.size_append, ByteArray.size_append]; omega)
      go_enter Tryz.func76, Tryz.ntmps76
      go_wp2_with fail
      refine (HT.out _).mono ?_
      rintro e w1 ⟨rfl, hb⟩
      obtain ⟨s5, c5_0, c5_1, f5⟩ := L2 hb (w.heap.size) (by first | omega | (simp only [sA, sC, sD, sE]; omega) | (simp; done) | (simp; omega)) (by go_simp; exact ⟨rfl, rfl⟩) (by intro o; go_simp)
      go_wp2_with fail
      refine (num_size _ _ ⟨by omega, by omega⟩).mono ?_
      rintro e w2 ⟨rfl, rfl⟩
      go_upto_region 6 with (fail)
      first | with_reducible refine wp_rebase ?_ | with_reducible refine wpList_rebase ?_
      intro w1 hb'
      have hb := hb'.out
      clear hb'
      obtain ⟨s6, c6_0, c6_1, f6⟩ := L2 hb (w.heap.size) (by first | omega | (simp only [sA, sC, sD, sE]; omega) | (simp; done) | (simp; omega)) (by go_simp; exact ⟨rfl, rfl⟩) (by intro o; go_simp)
      clear c5_0 c5_1 f5
      have hp1 := HP.out w1 (by
        focus
          repeat with_reducible first | exact Below.refl _ _ | refine below_drewN ?_ _ | refine Below.drew ?_ | refine Below.setCell ?_ ?_ _ | refine Below.alloc ?_ ?_ _ | refine below_then ?_ ?_ (by with_reducible assumption)
          all_goals first | omega | (simp only [sA, sC, sD, sE]; omega) | (simp; done) | (simp; omega)
        )
      have LP := fun (w' : World) (h : Below w1.heap.size w1 w') => hp1.below h
      refine region_below 9 (by kernel_rfl) (by kernel_rfl) ?_
      simp only [List.take_succ_cons, List.take_zero, List.drop_succ_cons, List.drop_zero]
      repeat
        first | (refine q_run ?_ ?_; focus (go_simp; done)) | (refine q_skip ?_ ?_; focus (go_simp; done))
        try (apply Exists.intro; refine ⟨fun w' hw' => ?_, ?_⟩; focus (have hc := (bcell hw'.out).1; have hx0 := LP w' hw'.out; unfold Oper.quietAt; go_simp; (try go_ints); (first | rfl | (go_at_call 101; refine (HN.out _ hx0).mono ?_; rintro e w2 ⟨rfl, hb⟩; exact ⟨rfl, hw'.chain hb⟩) | (go_at_call 101; refine (HD.out _ hx0).mono ?_; rintro e w2 ⟨rfl, hb⟩; exact ⟨rfl, hw'.chain hb⟩))))
        intro K hK
        go_simp
        refine hK _ ?_
        clear hK K
      refine wpQuiet_nil ?_
      intro w1 hb'
      have hb := hb'.out
      clear hb'
      go_wp2
      go_ret
      refine ⟨?_, ?_⟩
      · rw [HF.out, HX.out]; rfl
      focus
        repeat with_reducible first | exact Below.refl _ _ | refine below_drewN ?_ _ | refine Below.drew ?_ | refine Below.setCell ?_ ?_ _ | refine Below.alloc ?_ ?_ _ | refine below_then ?_ ?_ (by with_reducible assumption)
        all_goals first | omega | (simp only [sA, sC, sD, sE]; omega) | (simp; done) | (simp; omega)
  · rw [hm1 hs] at HX
    clear hm0 hm1
    cases hr : (1000000 % q != 0)
    · rw [hr, if_neg (by decide)] at HX
      go_enter Tryz.func76, Tryz.ntmps76
      go_wp2_with fail
      refine (HT.out _).mono ?_
      rintro e w1 ⟨rfl, hb⟩
      obtain ⟨s7, c7_0, c7_1, f7⟩ := L2 hb (w.heap.size) (by first | omega | (simp only [sA, sC, sD, sE]; omega) | (simp; done) | (simp; omega)) (by go_simp; exact ⟨rfl, rfl⟩) (by intro o; go_simp)
      go_wp2_with fail
      refine (num_size _ _ ⟨by omega, by omega⟩).mono ?_
      rintro e w2 ⟨rfl, rfl⟩
      go_upto_region 7 with (fail)
      first | with_reducible refine wp_rebase ?_ | with_reducible refine wpList_rebase ?_
      intro w1 hb'
      have hb := hb'.out
      clear hb'
      obtain ⟨s8, c8_0, c8_1, f8⟩ := L2 hb (w.heap.size) (by first | omega | (simp only [sA, sC, sD, sE]; omega) | (simp; done) | (simp; omega)) (by go_simp; exact ⟨rfl, rfl⟩) (by intro o; go_simp)
      clear c7_0 c7_1 f7
      have hp1 := HP.out w1 (by
        focus
          repeat with_reducible first | exact Below.refl _ _ | refine below_drewN ?_ _ | refine Below.drew ?_ | refine Below.setCell ?_ ?_ _ | refine Below.alloc ?_ ?_ _ | refine below_then ?_ ?_ (by with_reducible assumption)
          all_goals first | omega | (simp only [sA, sC, sD, sE]; omega) | (simp; done) | (simp; omega)
        )
      have hd1 := Int.ediv_nonneg (a := (p.natAbs : Int)) (b := q) (by omega) (by omega)
      have hd2 := Int.ediv_le_self q (a := (p.natAbs : Int)) (by omega)
      have hI : I64 ((p.natAbs : Int) / q) := ⟨by omega, by omega⟩
      have hq1 := Lib.hid fun wx => Itoa ((p.natAbs : Int) / q) wx hI
      have hq2 := itoaB_size _ hI
      clear hd1 hd2 hI
      generalize itoaB ((p.natAbs : Int) / q) = tq at *
      have hl0 : (⟨#[45]⟩ : ByteArray).size ≤ 1 := by decide
      have hA1 := add_run (⟨#[45]⟩ : ByteArray) tq (by omega)
      cases h1 : (q == 1)
      · rw [h1, if_neg (by decide)] at HX
        have r0 := Int.emod_nonneg (p.natAbs : Int) (b := q) (by omega)
        have r1 := Int.emod_lt_of_pos (p.natAbs : Int) (b := q) (by omega)
        have z0 := Int.ediv_nonneg (a := 1000000) (b := q) (by omega) (by omega)
        have z1 := Int.ediv_le_self q (a := 1000000) (by omega)
        have hv1 : wrap64 (1000000 / q) = 1000000 / q := by unfold wrap64; omega
        have m0 := Int.mul_nonneg r0 z0
        have m1 : (p.natAbs : Int) % q * (1000000 / q) ≤ 1000000 * 1000000 := Int.mul_le_mul (by omega) z1 z0 (by omega)
        have hv2 : wrap64 ((p.natAbs : Int) % q * (1000000 / q)) = (p.natAbs : Int) % q * (1000000 / q) := by unfold wrap64; omega
        have hv3 : wrap64 (1000000 + (p.natAbs : Int) % q * (1000000 / q)) = 1000000 + (p.natAbs : Int) % q * (1000000 / q) := by unfold wrap64; omega
        have hI : I64 (1000000 + (p.natAbs : Int) % q * (1000000 / q)) := ⟨by omega, by omega⟩
        have hz := itoaB_size _ hI
        have HZ := Lib.hid fun wx => Itoa _ wx hI
        clear hI
        generalize itoaB (1000000 + (p.natAbs : Int) % q * (1000000 / q)) = tz at *
        have hz0 : ¬ (tz.size : Int) < 1 := by omega
        go_wp2_with fail
        refine ((hq1.out _) (by assumption)).mono ?_
        rintro e w2 ⟨rfl, hb⟩
        obtain ⟨s9, c9_0, c9_1, f9⟩ := L2 hb (w.heap.size) (by first | omega | (simp only [sA, sC, sD, sE]; omega) | (simp; done) | (simp; omega)) (by go_simp; exact ⟨rfl, rfl⟩) (by intro o; go_simp)
        clear c8_0 c8_1 f8
        have hp2 := HP.out w2 (by
          focus
            repeat with_reducible first | exact Below.refl _ _ | refine below_drewN ?_ _ | refine Below.drew ?_ | refine Below.setCell ?_ ?_ _ | refine Below.alloc ?_ ?_ _ | refine below_then ?_ ?_ (by with_reducible assumption)
            all_goals first | omega | (simp only [sA, sC, sD, sE]; omega) | (simp; done) | (simp; omega)
          )
        have LP := fun (w' : World) (h : Below w2.heap.size w2 w') => hp2.below h
        go_upto_region 10 with fail
        refine region_below 10 (by kernel_rfl) (by kernel_rfl) ?_
        simp only [List.take_succ_cons, List.take_zero, List.drop_succ_cons, List.drop_zero]
        repeat
          first | (refine q_run ?_ ?_; focus (go_simp; done)) | (refine q_skip ?_ ?_; focus (go_simp; done))
          try (apply Exists.intro; refine ⟨fun w' hw' => ?_, ?_⟩; focus (have hc := (bcell hw'.out).1; have hx0 := LP w' hw'.out; unfold Oper.quietAt; go_simp; (try go_ints); (first | rfl | (go_at_call 101; refine (HZ.out _ hx0).mono ?_; rintro e w2 ⟨rfl, hb⟩; exact ⟨rfl, hw'.chain hb⟩))))
          intro K hK
          go_simp
          refine hK _ ?_
          clear hK K
        refine wpQuiet_nil ?_
        intro w1 hb'
        have hb := hb'.out
        clear hb'
        go_wp2_with fail
        have e1 : (tz.extract 1 tz.size).size ≤ 21 := by simp; omega
        refine (TrimZ _ _ (by omega)).mono ?_
        rintro e w3 ⟨rfl, rfl⟩
        have e2 := trimZ_size (tz.extract 1 tz.size)
        have hA2 := add_run ((⟨#[45]⟩ : ByteArray) ++ tq) ⟨#[46]⟩ (by have e : (⟨#[46]⟩ : ByteArray).size = 1 := rfl; rw [ByteArray.size_append]; omega)
        have hA3 := add_run ((⟨#[45]⟩ : ByteArray) ++ tq ++ ⟨#[46]⟩) (trimZ (tz.extract 1 tz.size)) (by have e : (⟨#[46]⟩ : ByteArray).size = 1 := rfl; rw [ByteArray.size_append, ByteArray.size_append]; omega)
        generalize trimZ (tz.extract 1 tz.size) = tt at *
        go_wp2
        go_ret
        refine ⟨?_, ?_⟩
        · rw [HF.out, HX.out]; rfl
        focus
          repeat with_reducible first | exact Below.refl _ _ | refine below_drewN ?_ _ | refine Below.drew ?_ | refine Below.setCell ?_ ?_ _ | refine Below.alloc ?_ ?_ _ | refine below_then ?_ ?_ (by with_reducible assumption)
          all_goals first | omega | (simp only [sA, sC, sD, sE]; omega) | (simp; done) | (simp; omega)
      · rw [h1, if_pos rfl] at HX
        go_wp2_with fail
        refine ((hq1.out _) (by assumption)).mono ?_
        rintro e w2 ⟨rfl, hb⟩
        obtain ⟨s10, c10_0, c10_1, f10⟩ := L2 hb (w.heap.size) (by first | omega | (simp only [sA, sC, sD, sE]; omega) | (simp; done) | (simp; omega)) (by go_simp; exact ⟨rfl, rfl⟩) (by intro o; go_simp)
        go_wp2
        go_ret
        refine ⟨?_, ?_⟩
        · rw [HF.out, HX.out]; rfl
        focus
          repeat with_reducible first | exact Below.refl _ _ | refine below_drewN ?_ _ | refine Below.drew ?_ | refine Below.setCell ?_ ?_ _ | refine Below.alloc ?_ ?_ _ | refine below_then ?_ ?_ (by with_reducible assumption)
          all_goals first | omega | (simp only [sA, sC, sD, sE]; omega) | (simp; done) | (simp; omega)
    · rw [hr, if_pos rfl] at HX
      have hI1 : I64 (p.natAbs : Int) := ⟨by omega, by omega⟩
      have hI2 : I64 q := ⟨by omega, by omega⟩
      have HN := Lib.hid fun wx => Itoa _ wx hI1
      have HD := Lib.hid fun wx => Itoa _ wx hI2
      have hz1 := itoaB_size _ hI1
      have hz2 := itoaB_size _ hI2
      clear hI1 hI2
      generalize itoaB (p.natAbs : Int) = tn at *
      generalize itoaB q = td at *
      have hl0 : (⟨#[45]⟩ : ByteArray).size ≤ 1 := by decide
      have hl1 : (⟨#[47]⟩ : ByteArray).size = 1 := rfl
      have hA1 := add_run (⟨#[45]⟩ : ByteArray) tn (by omega)
      have hA2 := add_run ((⟨#[45]⟩ : ByteArray) ++ tn) ⟨#[47]⟩ (by rw [ByteArray.size_append]; omega)
      have hA3 := add_run ((⟨#[45]⟩ : ByteArray) ++ tn ++ ⟨#[47]⟩) td (by rw [ByteArray.size_append, ByteArray.size_append]; omega)
      go_enter Tryz.func76, Tryz.ntmps76
      go_wp2_with fail
      refine (HT.out _).mono ?_
      rintro e w1 ⟨rfl, hb⟩
      obtain ⟨s11, c11_0, c11_1, f11⟩ := L2 hb (w.heap.size) (by first | omega | (simp only [sA, sC, sD, sE]; omega) | (simp; done) | (simp; omega)) (by go_simp; exact ⟨rfl, rfl⟩) (by intro o; go_simp)
      go_wp2_with fail
      refine (num_size _ _ ⟨by omega, by omega⟩).mono ?_
      rintro e w2 ⟨rfl, rfl⟩
      go_upto_region 6 with (fail)
      first | with_reducible refine wp_rebase ?_ | with_reducible refine wpList_rebase ?_
      intro w1 hb'
      have hb := hb'.out
      clear hb'
      obtain ⟨s12, c12_0, c12_1, f12⟩ := L2 hb (w.heap.size) (by first | omega | (simp only [sA, sC, sD, sE]; omega) | (simp; done) | (simp; omega)) (by go_simp; exact ⟨rfl, rfl⟩) (by intro o; go_simp)
      clear c11_0 c11_1 f11
      have hp1 := HP.out w1 (by
        focus
          repeat with_reducible first | exact Below.refl _ _ | refine below_drewN ?_ _ | refine Below.drew ?_ | refine Below.setCell ?_ ?_ _ | refine Below.alloc ?_ ?_ _ | refine below_then ?_ ?_ (by with_reducible assumption)
          all_goals first | omega | (simp only [sA, sC, sD, sE]; omega) | (simp; done) | (simp; omega)
        )
      have LP := fun (w' : World) (h : Below w1.heap.size w1 w') => hp1.below h
      refine region_below 9 (by kernel_rfl) (by kernel_rfl) ?_
      simp only [List.take_succ_cons, List.take_zero, List.drop_succ_cons, List.drop_zero]
      repeat
        first | (refine q_run ?_ ?_; focus (go_simp; done)) | (refine q_skip ?_ ?_; focus (go_simp; done))
        try (apply Exists.intro; refine ⟨fun w' hw' => ?_, ?_⟩; focus (have hc := (bcell hw'.out).1; have hx0 := LP w' hw'.out; unfold Oper.quietAt; go_simp; (try go_ints); (first | rfl | (go_at_call 101; refine (HN.out _ hx0).mono ?_; rintro e w2 ⟨rfl, hb⟩; exact ⟨rfl, hw'.chain hb⟩) | (go_at_call 101; refine (HD.out _ hx0).mono ?_; rintro e w2 ⟨rfl, hb⟩; exact ⟨rfl, hw'.chain hb⟩))))
        intro K hK
        go_simp
        refine hK _ ?_
        clear hK K
      refine wpQuiet_nil ?_
      intro w1 hb'
      have hb := hb'.out
      clear hb'
      go_wp2
      go_ret
      refine ⟨?_, ?_⟩
      · rw [HF.out, HX.out]; rfl
      focus
        repeat with_reducible first | exact Below.refl _ _ | refine below_drewN ?_ _ | refine Below.drew ?_ | refine Below.setCell ?_ ?_ _ | refine Below.alloc ?_ ?_ _ | refine below_then ?_ ?_ (by with_reducible assumption)
        all_goals first | omega | (simp only [sA, sC, sD, sE]; omega) | (simp; done) | (simp; omega)
end Go.Proofs.YtnimenpfojcehaaGreatDoor
