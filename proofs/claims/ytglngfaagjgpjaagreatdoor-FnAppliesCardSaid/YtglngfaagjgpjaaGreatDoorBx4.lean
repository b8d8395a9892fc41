/- The digits behind the point: as the program writes them, and as the reference does; no program in sight. The walks of the reference's digits and Text of a number. -/
import Derived.Test.YtglngfaagjgpjaaGreatDoorTextN
import Derived.Test.YtglngfaagjgpjaaGreatDoorRefA
namespace Go.Proofs.YtglngfaagjgpjaaGreatDoor
open Go Go.RowKit
set_option linter.unusedSimpArgs false
set_option linter.unusedVariables false

/-- k digits of A. -/
def w10 : Nat → Nat → List UInt8
  | 0, _ => []
  | k + 1, A => UInt8.ofNat (48 + A / 10 ^ k) :: w10 k (A % 10 ^ k)
/-- Its digits up to the last that is not 0. -/
def fracL : Nat → Nat → List UInt8
  | 0, _ => []
  | k + 1, A => if A = 0 then [] else UInt8.ofNat (48 + A / 10 ^ k) :: fracL k (A % 10 ^ k)
theorem fracL_zero (k : Nat) : fracL k 0 = [] := by cases k <;> simp [fracL]
theorem fracL_nil {k A : Nat} (h : A < 10 ^ k) : fracL k A = [] ↔ A = 0 := by
  cases k with
  | zero => simp at h; simp [fracL, h]
  | succ k => unfold fracL; split <;> simp [*]
theorem trimR_cons (x : UInt8) (l : List UInt8) : Lib.trimRightB (x :: l) 48 = if Lib.trimRightB l 48 = [] ∧ x = 48 then [] else x :: Lib.trimRightB l 48 := by
  unfold Lib.trimRightB
  rw [List.reverse_cons, List.dropWhile_append]
  cases h : (List.dropWhile (· == (48 : UInt8)) l.reverse) with
  | nil =>
    by_cases hx : x = 48 <;> simp [hx]
  | cons y r => simp
theorem dig_ne {d : Nat} (h0 : d ≠ 0) (h1 : d < 10) : UInt8.ofNat (48 + d) ≠ 48 := by
  have : d = 1 ∨ d = 2 ∨ d = 3 ∨ d = 4 ∨ d = 5 ∨ d = 6 ∨ d = 7 ∨ d = 8 ∨ d = 9 := by omega
  rcases this with rfl | rfl | rfl | rfl | rfl | rfl | rfl | rfl | rfl <;> decide
theorem trim_w10 : ∀ (k A : Nat), A < 10 ^ k → Lib.trimRightB (w10 k A) 48 = fracL k A
  | 0, A, h => by simp [w10, fracL, Lib.trimRightB]
  | k + 1, A, h => by
    have hm : A % 10 ^ k < 10 ^ k := Nat.mod_lt _ (Nat.pow_pos (by omega))
    have hd : A / 10 ^ k < 10 := by rw [Nat.div_lt_iff_lt_mul (Nat.pow_pos (by omega))]; rw [Nat.pow_succ] at h; omega
    have hA := Nat.div_add_mod A (10 ^ k)
    unfold w10 fracL
    have hn := fracL_nil hm
    rw [trimR_cons, trim_w10 k _ hm]
    by_cases h0 : A = 0
    · subst h0; rw [if_pos ⟨hn.2 (by simp), by simp⟩]; simp
    · rw [if_neg h0]
      by_cases hq : A / 10 ^ k = 0
      · rw [if_neg]
        rintro ⟨h1, _⟩
        rw [hq, hn.1 h1] at hA; simp at hA; exact h0 hA.symm
      · rw [if_neg]
        rintro ⟨_, h2⟩
        exact dig_ne hq hd h2
theorem w10_snoc : ∀ (k A : Nat), A < 10 ^ (k + 1) → w10 (k + 1) A = w10 k (A / 10) ++ [UInt8.ofNat (48 + A % 10)]
  | 0, A, h => by simp at h; simp [w10, Nat.mod_eq_of_lt h]
  | k + 1, A, h => by
    have hp : 0 < 10 ^ (k + 1) := Nat.pow_pos (by omega)
    have ih := w10_snoc k (A % 10 ^ (k + 1)) (Nat.mod_lt _ hp)
    rw [w10, ih]
    conv => rhs; rw [w10]
    have e1 : A / 10 / 10 ^ k = A / 10 ^ (k + 1) := by rw [Nat.div_div_eq_div_mul, Nat.pow_succ, Nat.mul_comm]
    have e2 : A % 10 ^ (k + 1) / 10 = A / 10 % 10 ^ k := by rw [Nat.pow_succ, Nat.mul_comm, Nat.mod_mul_right_div_self]
    have e3 : A % 10 ^ (k + 1) % 10 = A % 10 := Nat.mod_mod_of_dvd _ ⟨10 ^ k, by rw [Nat.pow_succ, Nat.mul_comm]⟩
    rw [e1, e2, e3]; rfl
theorem dec_w10 : ∀ (k h A : Nat), 1 ≤ h → h < 10 → A < 10 ^ k → Lib.decDigits (h * 10 ^ k + A) = UInt8.ofNat (48 + h) :: w10 k A
  | 0, h, A, h1, h2, hA => by
    have : A = 0 := by simpa using hA
    subst this
    rw [Lib.decDigits, dif_pos (by omega)]
    simp [w10]
  | k + 1, h, A, h1, h2, hA => by
    have hp : 0 < 10 ^ k := Nat.pow_pos (by omega)
    have e0 : h * 10 ^ (k + 1) = (h * 10 ^ k) * 10 := by rw [Nat.pow_succ, Nat.mul_assoc]
    have hge : 1 ≤ h * 10 ^ k := Nat.mul_pos (by omega) hp
    have hA' : A / 10 < 10 ^ k := by rw [Nat.div_lt_iff_lt_mul (by omega)]; rw [Nat.pow_succ] at hA; exact hA
    rw [Lib.decDigits, dif_neg (by omega)]
    have e1 : (h * 10 ^ (k + 1) + A) / 10 = h * 10 ^ k + A / 10 := by omega
    have e2 : (h * 10 ^ (k + 1) + A) % 10 = A % 10 := by omega
    rw [e1, e2, dec_w10 k h (A / 10) h1 h2 hA', w10_snoc k A hA]
    rfl
theorem itoa_frac {A : Nat} (h : A < 1000000) : Lib.trimRightB ((Lib.itoa (1000000 + (A : Int))).drop 1) 48 = fracL 6 A := by
  have e : Lib.itoa (1000000 + (A : Int)) = 49 :: w10 6 A := by
    unfold Lib.itoa
    rw [if_neg (by omega)]
    have := dec_w10 6 1 A (by omega) (by omega) (by simpa using h)
    have e2 : (1000000 + (A : Int)).toNat = 1 * 10 ^ 6 + A := by omega
    rw [e2, this]; rfl
  rw [e]
  exact trim_w10 6 A (by simpa using h)
/-- One digit more of what is left of a division. -/
theorem frac_step {r d c i B : Nat} (hc : d * c = 1000000) (hr : r * c = 10 ^ i * B) (hB : B < 10 ^ (6 - i)) (hi : i ≤ 6) (h0 : ¬ r = 0) :
    i + 1 ≤ 6 ∧ r * 10 / d < 10 ∧ (r * 10 % d) * c = 10 ^ (i + 1) * (B % 10 ^ (5 - i)) ∧ B % 10 ^ (5 - i) < 10 ^ (6 - (i + 1)) ∧ fracL (6 - i) B = UInt8.ofNat (48 + r * 10 / d) :: fracL (6 - (i + 1)) (B % 10 ^ (5 - i)) := by
  have hc0 : 0 < c := by rcases Nat.eq_zero_or_pos c with h | h; · subst h; simp at hc
                         · exact h
  have hd0 : 0 < d := by rcases Nat.eq_zero_or_pos d with h | h; · subst h; simp at hc
                         · exact h
  have hB0 : B ≠ 0 := by
    rintro rfl
    rw [Nat.mul_zero] at hr
    rcases Nat.mul_eq_zero.1 hr with h | h <;> omega
  have hi6 : i < 6 := by
    rcases Nat.lt_or_ge i 6 with h | h
    · exact h
    · have : i = 6 := by omega
      subst this; simp at hB; exact absurd hB hB0
  obtain ⟨k, hk⟩ : ∃ k, 5 - i = k ∧ 6 - i = k + 1 := ⟨5 - i, rfl, by omega⟩
  obtain ⟨hk1, hk2⟩ := hk
  have hk3 : 6 - (i + 1) = k := by omega
  have hp : 0 < 10 ^ k := Nat.pow_pos (by omega)
  have hik : 10 ^ (i + 1) * 10 ^ k = d * c := by rw [← Nat.pow_add, hc, show i + 1 + k = 6 by omega]
  have hr10 : r * 10 * c = 10 ^ (i + 1) * B := by rw [Nat.mul_right_comm, hr, Nat.pow_succ, Nat.mul_right_comm]
  have hi0 : 0 < 10 ^ (i + 1) := Nat.pow_pos (by omega)
  have ediv : r * 10 / d = B / 10 ^ k := by
    rw [← Nat.mul_div_mul_right (r * 10) d hc0, hr10, ← hik, Nat.mul_div_mul_left _ _ hi0]
  have emod : (r * 10 % d) * c = 10 ^ (i + 1) * (B % 10 ^ k) := by
    rw [← Nat.mul_mod_mul_right, hr10, ← hik, Nat.mul_mod_mul_left]
  rw [hk1, hk2, hk3]
  refine ⟨by omega, ?_, emod, Nat.mod_lt _ hp, ?_⟩
  · rw [ediv, Nat.div_lt_iff_lt_mul hp]; rw [hk2, Nat.pow_succ] at hB; omega
  · conv => lhs; unfold fracL
    rw [if_neg hB0, ediv]
theorem frac_end {r c i B : Nat} (hr : r * c = 10 ^ i * B) (h0 : r = 0) (k : Nat) : fracL k B = [] := by
  subst h0
  have : B = 0 := by
    rw [Nat.zero_mul] at hr
    have hp : 0 < 10 ^ i := Nat.pow_pos (by omega)
    rcases Nat.mul_eq_zero.1 hr.symm with h | h
    · omega
    · exact h
  rw [this, fracL_zero]

/-! the texts -/
theorem itoaB_digit {k : Nat} (h : k < 10) : itoaB (k : Int) = txt [UInt8.ofNat (48 + k)] := by
  unfold itoaB txt Lib.itoa
  rw [if_neg (by omega), Lib.decDigits, dif_pos (by omega)]
  simp
theorem trimZ_frac {A : Nat} (h : A < 1000000) : trimZ ((itoaB (1000000 + (A : Int))).extract 1 (itoaB (1000000 + (A : Int))).size) = txt (fracL 6 A) := by
  unfold trimZ
  rw [txt_drop, txt_list]
  show (⟨(Lib.trimRightB ((Lib.itoa (1000000 + (A : Int))).toArray.toList.drop 1) 48).toArray⟩ : ByteArray) = _
  rw [List.toList_toArray, itoa_frac h]
  rfl
/-- A number of the range, with what is left of its division. -/
theorem textX_frac {p : Int} {Q c : Nat} (hc : Q * c = 1000000) (hq : ¬ (Q : Int) = 1) (hp : p.natAbs ≤ 1000000000000) :
    textX p Q = sgB p ++ itoaB (p.natAbs / Q : Nat) ++ ⟨#[46]⟩ ++ txt (fracL 6 (p.natAbs % Q * c)) := by
  have hQ0 : 0 < Q := by
    rcases Nat.eq_zero_or_pos Q with h | h
    · subst h; simp at hc
    · exact h
  have hc0 : 0 < c := by
    rcases Nat.eq_zero_or_pos c with h | h
    · subst h; simp at hc
    · exact h
  have e1 : (1000000 : Int) % (Q : Int) = 0 := by
    have : 1000000 % Q = 0 := by rw [← hc]; exact Nat.mul_mod_right _ _
    have h2 : (1000000 : Int) % (Q : Int) = ((1000000 % Q : Nat) : Int) := rfl
    rw [h2, this]; rfl
  have e2 : (1000000 : Int) / (Q : Int) = (c : Int) := by
    have : 1000000 / Q = c := by rw [← hc]; exact Nat.mul_div_cancel_left _ hQ0
    have h2 : (1000000 : Int) / (Q : Int) = ((1000000 / Q : Nat) : Int) := rfl
    rw [h2, this]
  have hlt : p.natAbs % Q * c < 1000000 := by
    rw [← hc]; exact Nat.mul_lt_mul_of_pos_right (Nat.mod_lt _ hQ0) hc0
  unfold textX
  rw [e1, if_neg (by decide), if_neg (by simpa using hq), e2]
  have e3 : (1000000 : Int) + (p.natAbs : Int) % (Q : Int) * (c : Int) = 1000000 + ((p.natAbs % Q * c : Nat) : Int) := by push_cast; rfl
  have e4 : (p.natAbs : Int) / (Q : Int) = ((p.natAbs / Q : Nat) : Int) := rfl
  rw [e3, trimZ_frac hlt, e4]
theorem textX_whole {p : Int} {Q : Nat} (hq : Q = 1) : textX p Q = sgB p ++ itoaB (p.natAbs / Q : Nat) := by
  subst hq
  unfold textX
  rfl
theorem textX_odd {p : Int} {Q : Nat} (hq : ((1000000 : Int) % (Q : Int) != 0) = true) : textX p Q = sgB p ++ itoaB p.natAbs ++ ⟨#[47]⟩ ++ itoaB Q := by
  unfold textX
  rw [if_pos hq]
/-- A number in lowest terms is whole just if nothing is left. -/
theorem rest_zero {p : Int} {Q : Nat} (hr : rightN p Q = true) : p.natAbs % Q = 0 ↔ Q = 1 := by
  have h := (rightN_iff.1 hr).2.2.2.2
  constructor
  · intro h0
    have hd : Q ∣ p.natAbs := Nat.dvd_of_mod_eq_zero h0
    have : Nat.gcd p.natAbs Q = Q := Nat.gcd_eq_right hd
    have e : ((Q : Int)).natAbs = Q := rfl
    rw [e] at h
    omega
  · rintro rfl; exact Nat.mod_one _
end Go.Proofs.YtglngfaagjgpjaaGreatDoor
namespace Go.Proofs.YtglngfaagjgpjaaGreatDoor
open Go Go.RowKit
set_option linter.unusedSimpArgs false
set_option linter.unusedVariables false
theorem ba_ext {a b : ByteArray} (h : a.data.toList = b.data.toList) : a = b := by
  cases a; cases b; simp only [ByteArray.mk.injEq]; exact Array.toList_inj.1 h
theorem run_conv_one (w : World) (b : Nat) (x : Int) (hx0 : 0 ≤ x) (hx1 : x ≤ 255) (h : w.cell? ⟨b, 0, none⟩ = some (.int .u8 x)) :
    (convert 153 9 (.slice (some ⟨b, 0, none⟩) 1 1)).run Tryz.prog w = .ok (.string ⟨#[UInt8.ofNat x.toNat]⟩) w := by
  rw [run_convert_bytes_string w _ _ 5 _ _ _ Tryz.underlying153 Tryz.underlying5 Tryz.underlying9]
  have hl := run_loadCells_list (P := Tryz.prog) (w := w) ⟨b, 0, none⟩ [.int .u8 x] (fun j u hj => by
    have hjl : j < 1 := by
      rcases Nat.lt_or_ge j 1 with h1 | h1
      · exact h1
      · rw [List.getElem?_eq_none (by simpa using h1)] at hj; cases hj
    obtain rfl : j = 0 := by omega
    simp only [List.getElem?_cons_zero, Option.some.injEq] at hj
    subst hj
    rw [Go.WideShapes.add_plain, Nat.zero_add]
    exact h)
  have hb := run_bytesToString w ⟨b, 0, none⟩ 1 1 [x] (by simpa using hl)
  rw [hb]
  rfl
set_option maxHeartbeats 1000000 in
set_option maxRecDepth 100000 in
theorem r1_digits (M : Nat) (w : World) (h1 : M ≤ 9223372036854775807) (hz : (Lib.decDigits M).length ≤ 21) :
    Calls Tryz.prog 197 #[.int .u64 M] w fun e w' => e = .returned (.string (txt (Lib.decDigits M))) ∧ Below w.heap.size w w' := by
  go_enter Tryz.func197, Tryz.ntmps197
  go_wp2
  go_loopw [0, 3] (fun n s wr => ∃ (m : Nat) (L : List UInt8), n = .int .u64 m ∧ s = .string (txt L) ∧ m ≤ 9223372036854775807 ∧ Hid (Lib.decDigits m ++ L = Lib.decDigits M) ∧ L.length ≤ 21 ∧ Below w.heap.size w wr) (fun n _ _ => (intOf n).toNat)
  case atStart => exact ⟨M, [], rfl, rfl, h1, by unfold Hid; simp, by simp, Below.refl _ _⟩
  case round =>
    obtain ⟨m, L, rfl, rfl, hm, HD, hL, hbk⟩ := hrel
    have hd : m % 10 < 10 := Nat.mod_lt _ (by omega)
    have hcell : (wr.alloc (Obj.cells #[.int .u8 (48 + (m : Int) % 10)] 5)).cell? ⟨wr.heap.size, 0, none⟩ = some (.int .u8 (48 + (m : Int) % 10)) := by go_simp
    have hc := run_conv_one _ _ (48 + (m : Int) % 10) (by omega) (by omega) hcell
    have e0 : (48 + (m : Int) % 10).toNat = 48 + m % 10 := by omega
    rw [e0] at hc
    have ha := add_run (⟨#[UInt8.ofNat (48 + m % 10)]⟩ : ByteArray) (txt L) (by rw [txt_size]; show 1 + _ ≤ _; omega)
    have e1 : (⟨#[UInt8.ofNat (48 + m % 10)]⟩ : ByteArray) ++ txt L = txt (UInt8.ofNat (48 + m % 10) :: L) := by
      apply ba_ext
      simp [txt]
    rw [e1] at ha
    clear hcell e0 e1
    obtain ⟨C, hC⟩ : ∃ C : UInt8, C = UInt8.ofNat (48 + m % 10) := ⟨_, rfl⟩
    rw [← hC] at hc ha
    replace hC := Lib.hid hC
    by_cases hlt : m < 10
    · have HV : Hid (Lib.decDigits M = C :: L) := by
        unfold Hid
        rw [← HD.out, Lib.decDigits, dif_pos hlt, hC.out, Nat.mod_eq_of_lt hlt]; rfl
      have h0 : ((m : Int) / 10 == 0) = true := by rw [beq_iff_eq]; omega
      go_wp2
      go_ret
      exact ⟨by rw [HV.out]; rfl, hbk.alloc hbk.size _⟩
    · have HE : Lib.decDigits (m / 10) ++ C :: L = Lib.decDigits M := by
        rw [← HD.out, hC.out]
        conv => rhs; rw [Lib.decDigits, dif_neg hlt, List.append_assoc]
        rfl
      have HL : (C :: L).length ≤ 21 := by
        have := congrArg List.length HE
        rw [List.length_append] at this
        omega
      replace HE := Lib.hid HE
      have h0 : ((m : Int) / 10 == 0) = false := by rw [beq_eq_false_iff_ne]; omega
      have HL2 := Lib.hid HL
      clear HL
      go_wp2
      go_roundw
      case rel => exact ⟨m / 10, _, rfl, rfl, by omega, HE, HL2.out, hbk.alloc hbk.size _⟩
      case measure => simp [intOf]; omega
theorem itoaB_nat (M : Nat) : itoaB (M : Int) = txt (Lib.decDigits M) := by
  unfold itoaB txt Lib.itoa
  rw [if_neg (by omega)]
  rfl
theorem r1_digitsB (M : Nat) (w : World) (h1 : M ≤ 9223372036854775807) :
    Calls Tryz.prog 197 #[.int .u64 M] w fun e w' => e = .returned (.string (itoaB M)) ∧ Below w.heap.size w w' := by
  have hz := (itoaB_size (M : Int) ⟨by omega, by omega⟩).2
  rw [itoaB_nat, txt_size] at hz
  rw [itoaB_nat]
  exact r1_digits M w h1 hz
def strSz : Value → Nat
  | .string b => b.size
  | _ => 0
theorem app_txt (S : ByteArray) (L : List UInt8) (c : UInt8) : (S ++ txt L) ++ txt [c] = S ++ txt (L ++ [c]) := by
  apply ba_ext
  simp [txt]
theorem app_nil (S : ByteArray) : S ++ txt [] = S := by
  apply ba_ext
  simp [txt]
set_option maxRecDepth 100000 in
set_option maxHeartbeats 1000000 in
theorem rt_whole (n d p P Q A1 : Int) (sg tq out : ByteArray) (w : World)
    (HT : Hid (∀ wx, Calls Tryz.prog 164 #[.agg #[.int .i64 n, .int .i64 d]] wx fun e w' => e = .returned (.agg #[.int .i64 p, .int .i64 Q]) ∧ Below wx.heap.size wx w'))
    (HS : Hid (∀ wx, Calls Tryz.prog 166 #[.int .i64 p] wx fun e w' => e = .returned (.int .u64 P) ∧ wx = w'))
    (HD : Hid (∀ wx, Calls Tryz.prog 197 #[.int .u64 A1] wx fun e w' => e = .returned (.string tq) ∧ Below wx.heap.size wx w'))
    (hsg : (p < 0 ∧ sg = ⟨#[45]⟩) ∨ (¬ p < 0 ∧ sg = ⟨#[]⟩)) (hz : tq.size ≤ 21) (b2 : 1 ≤ Q) (b3 : Q ≤ 1000000)
    (e6 : (1000000 % Q != 0) = false) (eqd : P / Q = A1) (eqm : (P % Q == 0) = true) (a0 : 0 ≤ A1) (a1 : A1 ≤ 1000000000000) (p0 : 0 ≤ P) (p1 : P ≤ 1000000000000) (HF : Hid (out = sg ++ tq)) :
    Calls Tryz.prog 152 #[.agg #[.int .i64 n, .int .i64 d]] w fun e w' => e = .returned (.string out) ∧ Below w.heap.size w w' := by
  have hQ0 : ¬ Q = 0 := by omega
  have hw : IntKind.u64.wrap Q = Q := by rw [IntKind.wrap_u64]; omega
  have h1 : sg.size ≤ 1 := by rcases hsg with ⟨_, rfl⟩ | ⟨_, rfl⟩ <;> decide
  have hA1 := add_run sg tq (by omega)
  rcases hsg with ⟨hs, rfl⟩ | ⟨hs, rfl⟩
  all_goals
    go_enter Tryz.func152, Tryz.ntmps152
    go_wp2_with fail
    refine (HT.out _).mono ?_
    rintro e w1 ⟨rfl, hb⟩
    obtain ⟨s1, c1_0, c1_1, f1⟩ := L2 hb (w.heap.size) (by first | omega | (simp only [sA, sC, sD, sE]; omega) | (simp; done) | (simp; omega)) (by go_simp; exact ⟨rfl, rfl⟩) (by intro o; go_simp)
    go_wp2_with fail
    refine (HS.out _).mono ?_
    rintro e w2 ⟨rfl, rfl⟩
    go_wp2_with fail
    refine (HD.out _).mono ?_
    rintro e w3 ⟨rfl, hb3⟩
    go_wp2
    go_ret
    refine ⟨by rw [HF.out]; rfl, ?_⟩
    focus
      repeat with_reducible first | exact Below.refl _ _ | refine below_drewN ?_ _ | refine Below.drew ?_ | refine Below.setCell ?_ ?_ _ | refine Below.alloc ?_ ?_ _ | refine below_then ?_ ?_ (by with_reducible assumption)
      all_goals first | omega | (simp only [sA, sC, sD, sE]; omega) | (simp; done) | (simp; omega)
set_option maxRecDepth 100000 in
set_option maxHeartbeats 1000000 in
theorem rt_odd (n d p P Q : Int) (sg tq tr out : ByteArray) (w : World)
    (HT : Hid (∀ wx, Calls Tryz.prog 164 #[.agg #[.int .i64 n, .int .i64 d]] wx fun e w' => e = .returned (.agg #[.int .i64 p, .int .i64 Q]) ∧ Below wx.heap.size wx w'))
    (HS : Hid (∀ wx, Calls Tryz.prog 166 #[.int .i64 p] wx fun e w' => e = .returned (.int .u64 P) ∧ wx = w'))
    (HD : Hid (∀ wx, Calls Tryz.prog 197 #[.int .u64 P] wx fun e w' => e = .returned (.string tq) ∧ Below wx.heap.size wx w'))
    (HD2 : Hid (∀ wx, Calls Tryz.prog 197 #[.int .u64 Q] wx fun e w' => e = .returned (.string tr) ∧ Below wx.heap.size wx w'))
    (hsg : (p < 0 ∧ sg = ⟨#[45]⟩) ∨ (¬ p < 0 ∧ sg = ⟨#[]⟩)) (hz : tq.size ≤ 21) (hz2 : tr.size ≤ 21) (b2 : 1 ≤ Q) (b3 : Q ≤ 1000000)
    (e7 : (1000000 % Q != 0) = true) (HF : Hid (out = sg ++ tq ++ ⟨#[47]⟩ ++ tr)) :
    Calls Tryz.prog 152 #[.agg #[.int .i64 n, .int .i64 d]] w fun e w' => e = .returned (.string out) ∧ Below w.heap.size w w' := by
  have hQ0 : ¬ Q = 0 := by omega
  have hw : IntKind.u64.wrap Q = Q := by rw [IntKind.wrap_u64]; omega
  have h1 : sg.size ≤ 1 := by rcases hsg with ⟨_, rfl⟩ | ⟨_, rfl⟩ <;> decide
  have e1 : (⟨#[47]⟩ : ByteArray).size = 1 := rfl
  have hA1 := add_run sg tq (by omega)
  have hA2 := add_run (sg ++ tq) ⟨#[47]⟩ (by rw [ByteArray.size_append]; omega)
  have hA3 := add_run (sg ++ tq ++ ⟨#[47]⟩) tr (by rw [ByteArray.size_append, ByteArray.size_append]; omega)
  rcases hsg with ⟨hs, rfl⟩ | ⟨hs, rfl⟩
  all_goals
    go_enter Tryz.func152, Tryz.ntmps152
    go_wp2_with fail
    refine (HT.out _).mono ?_
    rintro e w1 ⟨rfl, hb⟩
    obtain ⟨s2, c2_0, c2_1, f2⟩ := L2 hb (w.heap.size) (by first | omega | (simp only [sA, sC, sD, sE]; omega) | (simp; done) | (simp; omega)) (by go_simp; exact ⟨rfl, rfl⟩) (by intro o; go_simp)
    go_wp2_with fail
    refine (HS.out _).mono ?_
    rintro e w2 ⟨rfl, rfl⟩
    go_wp2_with fail
    refine (HD.out _).mono ?_
    rintro e w3 ⟨rfl, hb3⟩
    go_wp2_with fail
    refine (HD2.out _).mono ?_
    rintro e w4 ⟨rfl, hb4⟩
    have s3 := hb3.size
    simp only [sz_setCell] at s3
    go_wp2
    go_ret
    refine ⟨by rw [HF.out]; rfl, ?_⟩
    focus
      repeat with_reducible first | exact Below.refl _ _ | refine below_drewN ?_ _ | refine Below.drew ?_ | refine Below.setCell ?_ ?_ _ | refine Below.alloc ?_ ?_ _ | refine below_then ?_ ?_ (by with_reducible assumption)
      all_goals first | omega | (simp only [sA, sC, sD, sE]; omega) | (simp; done) | (simp; omega)
set_option maxRecDepth 100000 in
set_option maxHeartbeats 2000000 in
theorem rt_frac (n d p P q A1 : Int) (Q c r0 : Nat) (sg tq S0 out : ByteArray) (w : World)
    (HT : Hid (∀ wx, Calls Tryz.prog 164 #[.agg #[.int .i64 n, .int .i64 d]] wx fun e w' => e = .returned (.agg #[.int .i64 p, .int .i64 q]) ∧ Below wx.heap.size wx w'))
    (HS : Hid (∀ wx, Calls Tryz.prog 166 #[.int .i64 p] wx fun e w' => e = .returned (.int .u64 P) ∧ wx = w'))
    (HD : Hid (∀ wx, Calls Tryz.prog 197 #[.int .u64 A1] wx fun e w' => e = .returned (.string tq) ∧ Below wx.heap.size wx w'))
    (hsg : (p < 0 ∧ sg = ⟨#[45]⟩) ∨ (¬ p < 0 ∧ sg = ⟨#[]⟩)) (hz : tq.size ≤ 21) (b2 : 1 ≤ q) (b3 : q ≤ 1000000)
    (e6 : (1000000 % q != 0) = false) (eqd : P / q = A1) (x0 : Int) (eqm : P % q = x0) (h0 : (x0 == 0) = false) (a0 : 0 ≤ A1) (a1 : A1 ≤ 1000000000000) (p0 : 0 ≤ P) (p1 : P ≤ 1000000000000) (l0 : 0 ≤ x0) (l1 : x0 < q)
    (hS : S0 = sg ++ tq ++ ⟨#[46]⟩) (HQ : Hid (q = (Q : Int) ∧ Q * c = 1000000 ∧ x0 = (r0 : Int) ∧ r0 * c < 1000000)) (HF : Hid (out = S0 ++ txt (fracL 6 (r0 * c)))) :
    Calls Tryz.prog 152 #[.agg #[.int .i64 n, .int .i64 d]] w fun e w' => e = .returned (.string out) ∧ Below w.heap.size w w' := by
  have hQ0 : ¬ q = 0 := by omega
  have hw : IntKind.u64.wrap q = q := by rw [IntKind.wrap_u64]; omega
  have h1 : sg.size ≤ 1 := by rcases hsg with ⟨_, rfl⟩ | ⟨_, rfl⟩ <;> decide
  have e1 : (⟨#[46]⟩ : ByteArray).size = 1 := rfl
  have hA1 := add_run sg tq (by omega)
  have hA2 := add_run (sg ++ tq) ⟨#[46]⟩ (by rw [ByteArray.size_append]; omega)
  have hS0 : S0.size ≤ 30 := by rw [hS, ByteArray.size_append, ByteArray.size_append]; omega
  rw [← hS] at hA2
  have HSS := Lib.hid hS
  obtain ⟨A, hA⟩ : ∃ A, A = r0 * c := ⟨_, rfl⟩
  rw [← hA] at HF HQ
  have HI : Hid (r0 * c = 10 ^ 0 * A ∧ A < 10 ^ (6 - 0) ∧ [] ++ fracL (6 - 0) A = fracL 6 A) := ⟨by rw [hA]; simp, by simpa using HQ.out.2.2.2, rfl⟩
  clear hA
  clear hS
  have HQD := Lib.hid fun (k : Nat) (hk : k ≤ 1000) wx => r1_digitsB k wx (by omega)
  rcases hsg with ⟨hs, rfl⟩ | ⟨hs, rfl⟩
  all_goals
    go_enter Tryz.func152, Tryz.ntmps152
    go_wp2_with fail
    refine (HT.out _).mono ?_
    rintro e w1 ⟨rfl, hb⟩
    obtain ⟨s3, c3_0, c3_1, f3⟩ := L2 hb (w.heap.size) (by first | omega | (simp only [sA, sC, sD, sE]; omega) | (simp; done) | (simp; omega)) (by go_simp; exact ⟨rfl, rfl⟩) (by intro o; go_simp)
    go_wp2_with fail
    refine (HS.out _).mono ?_
    rintro e w2 ⟨rfl, rfl⟩
    go_wp2_with fail
    refine (HD.out _).mono ?_
    rintro e w3 ⟨rfl, hb3⟩
    have B3 : Below w.heap.size w w3 := by
      focus
        repeat with_reducible first | exact Below.refl _ _ | refine below_drewN ?_ _ | refine Below.drew ?_ | refine Below.setCell ?_ ?_ _ | refine Below.alloc ?_ ?_ _ | refine below_then ?_ ?_ (by with_reducible assumption)
        all_goals first | omega | (simp only [sA, sC, sD, sE]; omega) | (simp; done) | (simp; omega)
    go_wp2
    clear hA1 hA2 eqd h0 hb hb3 HT HS HD
    go_loopw [6, 7] (fun s x wr => ∃ (i B r : Nat) (L : List UInt8) (y : Int), s = .string (S0 ++ txt L) ∧ x = .int .u64 y ∧ 0 ≤ y ∧ y < q ∧ L.length = i ∧ i ≤ 6 ∧ Hid (y = (r : Int) ∧ r * c = 10 ^ i * B ∧ B < 10 ^ (6 - i) ∧ L ++ fracL (6 - i) B = fracL 6 A) ∧ Below w.heap.size w wr) (fun s _ _ => S0.size + 7 - strSz s)
    case atStart => exact ⟨0, A, r0, [], x0, by rw [app_nil], by rw [eqm], l0, l1, rfl, by omega, ⟨HQ.out.2.2.1, HI.out⟩, B3⟩
    case round =>
      clear B3 l0 l1 a0 a1 p0 p1 e6 eqm
      obtain ⟨i, B, r, L, y, rfl, rfl, y0, y1, hLi, hi6, HJ, hbk⟩ := hrel
      by_cases hz : y = 0
      · have HV : Hid (out = S0 ++ txt L) := by
          have hr0 : r = 0 := by have := HJ.out.1; omega
          unfold Hid
          rw [HF.out, ← HJ.out.2.2.2, frac_end HJ.out.2.1 hr0, List.append_nil]
        have hz0 : (y != 0) = false := by rw [hz]; rfl
        have HB := Lib.hid hbk
        clear hz hbk HJ HI
        go_wp2
        go_ret
        exact ⟨by rw [HV.out]; rfl, HB.out⟩
      · have hr0 : ¬ r = 0 := by have := HJ.out.1; omega
        obtain ⟨t1, t2, t3, t4, t5⟩ := frac_step HQ.out.2.1 HJ.out.2.1 HJ.out.2.2.1 hi6 hr0
        have hz0 : (y != 0) = true := by rw [bne_iff_ne]; exact hz
        have f1 : y * 10 / q = ((r * 10 / Q : Nat) : Int) := by rw [HJ.out.1, HQ.out.1]; rfl
        have f2 : y * 10 % q = ((r * 10 % Q : Nat) : Int) := by rw [HJ.out.1, HQ.out.1]; rfl
        have wu : IntKind.u64.wrap (y * 10) = y * 10 := by rw [IntKind.wrap_u64]; omega
        have hrm : y * 10 % q < q := Int.emod_lt_of_pos _ (by omega)
        have hrn : 0 ≤ y * 10 % q := Int.emod_nonneg _ (by omega)
        rw [f2] at hrm hrn
        have HDk := Lib.hid (HQD.out (r * 10 / Q) (by omega))
        rw [itoaB_digit t2] at HDk
        generalize r * 10 / Q = k at *
        generalize hr2 : r * 10 % Q = r2 at *
        obtain ⟨C, hC⟩ : ∃ C : UInt8, C = UInt8.ofNat (48 + k) := ⟨_, rfl⟩
        rw [← hC] at HDk t5
        obtain ⟨y2, hy2⟩ : ∃ y2 : Int, y2 = (r2 : Int) := ⟨_, rfl⟩
        obtain ⟨z, hz2⟩ : ∃ z : Int, z = (k : Int) := ⟨_, rfl⟩
        have hzb : 0 ≤ z ∧ z ≤ 10 := by omega
        have HJ2 : Hid (y2 = (r2 : Int) ∧ r2 * c = 10 ^ (i + 1) * (B % 10 ^ (5 - i)) ∧ B % 10 ^ (5 - i) < 10 ^ (6 - (i + 1)) ∧ (L ++ [C]) ++ fracL (6 - (i + 1)) (B % 10 ^ (5 - i)) = fracL 6 A) := by
          refine ⟨hy2, t3, t4, ?_⟩
          rw [← HJ.out.2.2.2, t5, List.append_assoc]; rfl
        rw [← hy2] at f2 hrm hrn
        rw [← hz2] at f1 HDk
        have ha := add_run (S0 ++ txt L) (txt [C]) (by rw [ByteArray.size_append, txt_size, txt_size]; simp only [List.length_cons, List.length_nil]; omega)
        rw [app_txt] at ha
        have HB := Lib.hid hbk
        have hszL : (S0 ++ txt L).size = S0.size + i := by rw [ByteArray.size_append, txt_size, hLi]
        have hszL2 : (S0 ++ txt (L ++ [C])).size = S0.size + i + 1 := by rw [ByteArray.size_append, txt_size, List.length_append, hLi]; simp; omega
        have HL2 : Hid ((L ++ [C]).length = i + 1) := by unfold Hid; simp [hLi]
        have HZ := Lib.hid (And.intro hszL hszL2)
        have HT1 := Lib.hid t1
        clear t1 t2 t3 t4 t5 hC hszL hszL2 hbk HJ HI hz hy2 hz2 hr2 hr0 hLi
        generalize txt [C] = tC at *
        obtain ⟨S2, hS2⟩ : ∃ S2, S2 = S0 ++ txt (L ++ [C]) := ⟨_, rfl⟩
        obtain ⟨S1, hS1⟩ : ∃ S1, S1 = S0 ++ txt L := ⟨_, rfl⟩
        rw [← hS1, ← hS2] at ha HZ
        rw [← hS1]
        replace hS2 := Lib.hid hS2
        replace hS1 := Lib.hid hS1
        go_wp2_with fail
        refine (HDk.out _).mono ?_
        rintro e w5 ⟨rfl, hb5⟩
        go_wp2
        go_roundw
        case rel => exact ⟨i + 1, _, r2, L ++ [C], y2, by rw [hS2.out], by rw [f2], hrn, hrm, HL2.out, HT1.out, HJ2, HB.out.trans (hb5.mono HB.out.size)⟩
        case measure => simp only [strSz]; have := HZ.out; omega
theorem r1_Text (n d : Int) (w : World) (hn : I64 n) (hd : I64 d) :
    Calls Tryz.prog 152 #[.agg #[.int .i64 n, .int .i64 d]] w fun e w' => e = .returned (.string (textN n d)) ∧ Below w.heap.size w w' := by
  have HT := Lib.hid fun wx => r1_Of n d wx hn hd
  obtain ⟨b0, b1, b2, b3⟩ := tk_bd n d
  have hr := tk_right n d
  have HF0 : textN n d = textX (tk n d).n (tk n d).d := rfl
  generalize textN n d = out at *
  generalize (tk n d).n = p at *
  obtain ⟨Q, hQ⟩ : ∃ Q : Nat, (tk n d).d = Q := ⟨(tk n d).d.toNat, by omega⟩
  rw [hQ] at HF0 hr HT b2 b3
  clear hQ
  have HS := Lib.hid fun wx => r1_far p wx ⟨by omega, by omega⟩
  have hsg : (p < 0 ∧ sgB p = ⟨#[45]⟩) ∨ (¬ p < 0 ∧ sgB p = ⟨#[]⟩) := by
    by_cases h : p < 0
    · exact .inl ⟨h, by unfold sgB; rw [if_pos h]⟩
    · exact .inr ⟨h, by unfold sgB; rw [if_neg h]⟩
  have hRZ := rest_zero hr
  have hA : p.natAbs ≤ 1000000000000 := by omega
  have hqd : p.natAbs / Q ≤ p.natAbs := Nat.div_le_self _ _
  have hml : p.natAbs % Q < Q := Nat.mod_lt _ (by omega)
  have e1 : ((p.natAbs : Nat) : Int) / (Q : Int) = ((p.natAbs / Q : Nat) : Int) := rfl
  have e2 : ((p.natAbs : Nat) : Int) % (Q : Int) = ((p.natAbs % Q : Nat) : Int) := rfl
  have HD := Lib.hid fun wx => r1_digitsB (p.natAbs / Q) wx (by omega)
  have i1 : I64 ((p.natAbs / Q : Nat) : Int) := by
    generalize p.natAbs / Q = A at *
    exact ⟨by omega, by omega⟩
  have hz := (itoaB_size _ i1).2
  have a0 : 0 ≤ ((p.natAbs / Q : Nat) : Int) ∧ ((p.natAbs / Q : Nat) : Int) ≤ 1000000000000 := by
    generalize p.natAbs / Q = A at *
    exact ⟨by omega, by omega⟩
  cases hodd : ((1000000 : Int) % (Q : Int) != 0)
  · obtain ⟨c, hc⟩ : ∃ c : Nat, Q * c = 1000000 := by
      have h : (1000000 : Int) % (Q : Int) = 0 := by simpa using hodd
      have h3 : (1000000 : Int) % (Q : Int) = ((1000000 % Q : Nat) : Int) := rfl
      rw [h3] at h
      have h2 : 1000000 % Q = 0 := by omega
      exact ⟨1000000 / Q, Nat.mul_div_cancel' (Nat.dvd_of_mod_eq_zero h2)⟩
    by_cases h1 : Q = 1
    · exact rt_whole n d p (p.natAbs : Nat) Q (p.natAbs / Q : Nat) (sgB p) _ out w HT HS HD hsg hz b2 b3 hodd e1 (by rw [e2, hRZ.2 h1]; rfl) a0.1 a0.2 (by omega) (by omega) (by unfold Hid; rw [HF0, textX_whole h1])
    · have hm : ¬ p.natAbs % Q = 0 := fun h => h1 (hRZ.1 h)
      have hlt : p.natAbs % Q * c < 1000000 := by
        have hc0 : 0 < c := by
          rcases Nat.eq_zero_or_pos c with h | h
          · subst h; simp at hc
          · exact h
        rw [← hc]; exact Nat.mul_lt_mul_of_pos_right hml hc0
      refine rt_frac n d p (p.natAbs : Nat) Q (p.natAbs / Q : Nat) Q c (p.natAbs % Q) (sgB p) _ _ out w HT HS HD hsg hz b2 b3 hodd e1 (p.natAbs % Q : Nat) e2 ?_ a0.1 a0.2 (by omega) (by omega) ?_ ?_ rfl ⟨rfl, hc, rfl, hlt⟩ ?_
      · rw [beq_eq_false_iff_ne]; generalize p.natAbs % Q = z at *; omega
      · exact Int.natCast_nonneg _
      · generalize p.natAbs % Q = z at *; omega
      · unfold Hid; rw [HF0, textX_frac hc (by omega) hA]
  · have HD1 := Lib.hid fun wx => r1_digitsB p.natAbs wx (by omega)
    have HD2 := Lib.hid fun wx => r1_digitsB Q wx (by omega)
    exact rt_odd n d p (p.natAbs : Nat) Q (sgB p) _ _ out w HT HS HD1 HD2 hsg (itoaB_size _ ⟨by omega, by omega⟩).2 (itoaB_size _ ⟨by omega, by omega⟩).2 b2 b3 hodd (by unfold Hid; rw [HF0, textX_odd hodd])
end Go.Proofs.YtglngfaagjgpjaaGreatDoor
