/- Plain laws: exact sums and products of numbers in lowest terms; no program in sight. Plain laws: exact products and sums of squares; truths of a row; two rows, one behind the other; no program in sight. -/
import Derived.Test.YtnimenpfojcehaaGreatDoorAccR
namespace Go.Proofs.YtnimenpfojcehaaGreatDoor
open Go Go.RowKit
set_option linter.unusedSimpArgs false
set_option linter.unusedVariables false

/-- r is the fraction n / d. -/
def IsQ (r : Nm) (n d : Int) : Prop := r.n * d = n * r.d

theorem gcd_parts (a b : Nat) (hb : 0 < b) : ∃ g x y : Nat, g = Nat.gcd a b ∧ 0 < g ∧ a = x * g ∧ b = y * g ∧ a / Nat.gcd a b = x ∧ b / Nat.gcd a b = y ∧ 0 < y ∧ Nat.gcd x y = 1 := by
  have hg : 0 < Nat.gcd a b := Nat.gcd_pos_of_pos_right _ hb
  refine ⟨Nat.gcd a b, a / Nat.gcd a b, b / Nat.gcd a b, rfl, hg, (Nat.div_mul_cancel (Nat.gcd_dvd_left a b)).symm, (Nat.div_mul_cancel (Nat.gcd_dvd_right a b)).symm, rfl, rfl, ?_, ?_⟩
  · exact Nat.div_pos (Nat.le_of_dvd hb (Nat.gcd_dvd_right a b)) hg
  · rw [Nat.gcd_div (Nat.gcd_dvd_left a b) (Nat.gcd_dvd_right a b)]
    exact Nat.div_self hg
end Go.Proofs.YtnimenpfojcehaaGreatDoor
namespace Go.Proofs.YtnimenpfojcehaaGreatDoor
open Go Go.RowKit
set_option linter.unusedSimpArgs false
set_option linter.unusedVariables false

/-- The parts over cross. -/
theorem cross_parts {x y : Nm} (hx : RtN x) (hy : RtN y) : ∃ n1 d1 m1 e1 g h : Int, 0 < g ∧ 0 < h ∧ x.n = n1 * g ∧ y.d = e1 * g ∧ y.n = m1 * h ∧ x.d = d1 * h ∧ 0 < d1 ∧ 0 < e1 ∧
    Nat.gcd (n1 * m1).natAbs (d1 * e1).natAbs = 1 ∧ mul x.n x.d y.n y.d = prodQ n1 d1 m1 e1 := by
  have px := hx.pos
  have py := hy.pos
  obtain ⟨g, a, b, hg, hgp, ha, hb, hxa, hxb, hbp, hc⟩ := gcd_parts x.n.natAbs y.d.natAbs (by omega)
  obtain ⟨h, c, d, hh, hhp, hc1, hd1, hyc, hyd, hdp, hc2⟩ := gcd_parts y.n.natAbs x.d.natAbs (by omega)
  have gx : Nat.gcd x.n.natAbs x.d.natAbs = 1 := (rightN_iff.1 hx).2.2.2.2
  have gy : Nat.gcd y.n.natAbs y.d.natAbs = 1 := (rightN_iff.1 hy).2.2.2.2
  have hgz : (g : Int) ≠ 0 := by omega
  have hhz : (h : Int) ≠ 0 := by omega
  have dn : (g : Int) ∣ x.n := Int.ofNat_dvd_left.2 ⟨a, by rw [ha, Nat.mul_comm]⟩
  have de : (g : Int) ∣ y.d := Int.ofNat_dvd_left.2 ⟨b, by rw [hb, Nat.mul_comm]⟩
  have dm : (h : Int) ∣ y.n := Int.ofNat_dvd_left.2 ⟨c, by rw [hc1, Nat.mul_comm]⟩
  have dd : (h : Int) ∣ x.d := Int.ofNat_dvd_left.2 ⟨d, by rw [hd1, Nat.mul_comm]⟩
  have en : x.n = x.n.tdiv g * g := (Int.tdiv_mul_cancel dn).symm
  have ee : y.d = y.d / g * g := (Int.ediv_mul_cancel de).symm
  have em : y.n = y.n.tdiv h * h := (Int.tdiv_mul_cancel dm).symm
  have ed : x.d = x.d / h * h := (Int.ediv_mul_cancel dd).symm
  have abs_n : (x.n.tdiv g).natAbs = a := by
    have h1 : x.n.natAbs = (x.n.tdiv g).natAbs * g := by have h2 := congrArg Int.natAbs en; rw [Int.natAbs_mul, Int.natAbs_natCast] at h2; exact h2
    rw [ha] at h1
    exact (Nat.eq_of_mul_eq_mul_right hgp h1).symm
  have abs_e : (y.d / g).natAbs = b := by
    have h1 : y.d.natAbs = (y.d / g).natAbs * g := by have h2 := congrArg Int.natAbs ee; rw [Int.natAbs_mul, Int.natAbs_natCast] at h2; exact h2
    rw [hb] at h1
    exact (Nat.eq_of_mul_eq_mul_right hgp h1).symm
  have abs_m : (y.n.tdiv h).natAbs = c := by
    have h1 : y.n.natAbs = (y.n.tdiv h).natAbs * h := by have h2 := congrArg Int.natAbs em; rw [Int.natAbs_mul, Int.natAbs_natCast] at h2; exact h2
    rw [hc1] at h1
    exact (Nat.eq_of_mul_eq_mul_right hhp h1).symm
  have abs_d : (x.d / h).natAbs = d := by
    have h1 : x.d.natAbs = (x.d / h).natAbs * h := by have h2 := congrArg Int.natAbs ed; rw [Int.natAbs_mul, Int.natAbs_natCast] at h2; exact h2
    rw [hd1] at h1
    exact (Nat.eq_of_mul_eq_mul_right hhp h1).symm
  have p1 : 0 < x.d / h := by have := Int.ediv_nonneg (a := x.d) (b := h) (by omega) (by omega); omega
  have p2 : 0 < y.d / g := by have := Int.ediv_nonneg (a := y.d) (b := g) (by omega) (by omega); omega
  refine ⟨x.n.tdiv g, x.d / h, y.n.tdiv h, y.d / g, g, h, by omega, by omega, en, ee, em, ed, p1, p2, ?_, ?_⟩
  · rw [Int.natAbs_mul, Int.natAbs_mul, abs_n, abs_e, abs_m, abs_d]
    have k1 : Nat.Coprime a d := Nat.Coprime.coprime_dvd_left ⟨g, ha⟩ (Nat.Coprime.coprime_dvd_right ⟨h, hd1⟩ gx)
    have k2 : Nat.Coprime c b := Nat.Coprime.coprime_dvd_left ⟨h, hc1⟩ (Nat.Coprime.coprime_dvd_right ⟨g, hb⟩ gy)
    have k3 : Nat.Coprime a b := hc
    have k4 : Nat.Coprime c d := hc2
    exact Nat.Coprime.mul_left (Nat.Coprime.mul_right k1 k3) (Nat.Coprime.mul_right k4 k2)
  · unfold mul
    rw [tk_of hx, tk_of hy]
    unfold prod
    simp only
    rw [← hg, ← hh]
theorem mul_right' {x y : Nm} (hx : RtN x) (hy : RtN y) (hok : (mul x.n x.d y.n y.d).ok = true) : RtN ⟨(mul x.n x.d y.n y.d).n, (mul x.n x.d y.n y.d).d⟩ ∧ IsQ ⟨(mul x.n x.d y.n y.d).n, (mul x.n x.d y.n y.d).d⟩ (x.n * y.n) (x.d * y.d) := by
  obtain ⟨n1, d1, m1, e1, g, h, hg, hh, en, ee, em, ed, p1, p2, hc, e⟩ := cross_parts hx hy
  rw [e] at hok ⊢
  unfold prodQ at hok ⊢
  split at hok
  · cases hok
  · rename_i hbad
    rw [if_neg hbad]
    by_cases h0 : n1 * m1 = 0
    · rw [if_pos h0]
      refine ⟨by unfold RtN; decide, ?_⟩
      unfold IsQ
      simp only
      rw [en, em, show n1 * g * (m1 * h) = n1 * m1 * (g * h) by grind, h0]
      simp
    · rw [if_neg h0]
      have hm : m1 ≠ 0 := fun h1 => h0 (by simp [h1])
      have h2 := natAbs_mul_le (a := n1) (b := m1) (k := 1000000000000) hm (fun h1 => hbad (Or.inl ⟨hm, h1⟩))
      have h3 : ¬ 1000000 < d1 * e1 := fun h1 => hbad (Or.inr h1)
      have h4 : 0 < d1 * e1 := Int.mul_pos p1 p2
      refine ⟨rightN_iff.2 ⟨?_, ?_, ?_, ?_, hc⟩, ?_⟩
      · simp only; omega
      · simp only; omega
      · simp only; omega
      · simp only; omega
      · unfold IsQ
        simp only
        rw [en, em, ed, ee]
        grind
/-! products -/
/-! sums of squares -/
/-! truths -/
end Go.Proofs.YtnimenpfojcehaaGreatDoor
