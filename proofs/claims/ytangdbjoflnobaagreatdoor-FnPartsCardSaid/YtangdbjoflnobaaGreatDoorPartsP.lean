/- Plain laws: exact sums and products of numbers in lowest terms; no program in sight. -/
import Derived.Test.YtangdbjoflnobaaGreatDoorSumsP
namespace Go.Proofs.YtangdbjoflnobaaGreatDoor
open Go Go.RowKit
set_option linter.unusedSimpArgs false
set_option linter.unusedVariables false

/-- r is the fraction n / d. -/
def IsQ (r : Nm) (n d : Int) : Prop := r.n * d = n * r.d

theorem gcd_parts (a b : Nat) (hb : 0 < b) : ∃ g x y : Nat, g = Nat.gcd a b ∧ 0 < g ∧ a = x * g ∧ b = y * g ∧ a / Nat.gcd a b = x ∧ b / Nat.gcd a b = y ∧ 0 < y ∧ Nat.gcd x y = 1 := by
  have hg : 0 < Nat.gcd a b := Nat.gcd_pos_of_pos_right _ hb
  refine ⟨Nat.gcd a b, a / Nat.gcd a b, b / Nat.gcd a b, rfl, hg, (Nat.div_mul_cancel (Nat.gcd_dvd_left a b)).symm, (Nat.div_mul_cancel (Nat.gcd_dvd_right a b)).symm, rfl, rfl, ?_, ?_⟩
  · exact Nat.div_pos (Nat.le_of_dvd hb (Nat.gcd_dvd_right a b)) hg
  · rw [Nat.gcd_div (Nat.gcd_dvd_left a b) (Nat.gcd_dvd_right a b)]
    exact Nat.div_self hg
theorem mk_right {n d : Int} (hd : 0 < d) (h : (mk n d).ok = true) : RtN ⟨(mk n d).n, (mk n d).d⟩ ∧ IsQ ⟨(mk n d).n, (mk n d).d⟩ n d := by
  obtain ⟨g, x, y, hg, hgp, ha, hb, hx, hy, hyp, hc⟩ := gcd_parts n.natAbs d.natAbs (by omega)
  have e : mk n d = signed (decide (n < 0) != decide (d < 0)) x y := by
    unfold mk
    rw [if_neg (by omega), hx, hy]
  have e2 : (decide (n < 0) != decide (d < 0)) = decide (n < 0) := by
    have : ¬ d < 0 := by omega
    simp [this]
  rw [e2] at e
  rw [e] at h ⊢
  unfold signed at h ⊢
  by_cases hbig : 1000000000000 < x ∨ 1000000 < y
  · rw [if_pos hbig] at h; cases h
  · rw [if_neg hbig]
    have hn : n = (if n < 0 then -(x : Int) else x) * g := by
      by_cases h0 : n < 0
      · rw [if_pos h0, Int.neg_mul, ← Int.natCast_mul, ← ha]; omega
      · rw [if_neg h0, ← Int.natCast_mul, ← ha]; omega
    have hdd : d = (y : Int) * g := by rw [← Int.natCast_mul, ← hb]; omega
    constructor
    · refine rightN_iff.2 ⟨?_, ?_, ?_, ?_, ?_⟩
      · simp only; split <;> omega
      · simp only; split <;> omega
      · simp only; omega
      · simp only; omega
      · have : (if decide (n < 0) = true then -(x : Int) else (x : Int)).natAbs = x := by split <;> omega
        simp only [this, Int.natAbs_natCast]
        exact hc
    · unfold IsQ
      simp only [decide_eq_true_eq]
      generalize (if n < 0 then -(x : Int) else (x : Int)) = z at *
      rw [hn, hdd]
      grind
theorem mk_of {n d : Int} (hd : 0 < d) {r : Nm} (hr : RtN r) (h : IsQ r n d) : mk n d = ⟨r.n, r.d, true⟩ := by
  obtain ⟨g, x, y, hg, hgp, ha, hb, hx, hy, hyp, hc⟩ := gcd_parts n.natAbs d.natAbs (by omega)
  have hrr := rightN_iff.1 hr
  have hab : r.n.natAbs * d.natAbs = n.natAbs * r.d.natAbs := by rw [← Int.natAbs_mul, ← Int.natAbs_mul, h]
  have hxy : r.n.natAbs * y = x * r.d.natAbs := by
    rw [ha, hb] at hab
    have : g * (r.n.natAbs * y) = g * (x * r.d.natAbs) := by
      rw [show g * (r.n.natAbs * y) = r.n.natAbs * (y * g) by grind, hab]; grind
    exact Nat.eq_of_mul_eq_mul_left hgp this
  have c1 : Nat.Coprime r.d.natAbs r.n.natAbs := Nat.Coprime.symm hrr.2.2.2.2
  have c2 : Nat.Coprime y x := Nat.Coprime.symm hc
  have d1 : r.d.natAbs ∣ y := c1.dvd_of_dvd_mul_left ⟨x, by rw [hxy, Nat.mul_comm]⟩
  have d2 : y ∣ r.d.natAbs := c2.dvd_of_dvd_mul_left ⟨r.n.natAbs, by rw [← hxy, Nat.mul_comm]⟩
  have ey : y = r.d.natAbs := Nat.dvd_antisymm d2 d1
  have ex : x = r.n.natAbs := by
    rw [ey] at hxy
    exact (Nat.eq_of_mul_eq_mul_right (by omega) hxy).symm
  unfold mk
  rw [if_neg (by omega), hx, hy]
  unfold signed
  rw [if_neg (by omega)]
  have hneg : n < 0 ↔ r.n < 0 := by
    unfold IsQ at h
    have hrd : 0 < r.d := by omega
    constructor
    · intro h0
      have h1 : n * r.d < 0 := Int.mul_neg_of_neg_of_pos h0 hrd
      rw [← h, Int.mul_comm] at h1
      exact Int.neg_of_mul_neg_right (a := d) h1 (by omega)
    · intro h0
      have h1 : r.n * d < 0 := Int.mul_neg_of_neg_of_pos h0 hd
      rw [h, Int.mul_comm] at h1
      exact Int.neg_of_mul_neg_right (a := r.d) h1 (by omega)
  have e2 : (decide (n < 0) != decide (d < 0)) = decide (r.n < 0) := by
    have : ¬ d < 0 := by omega
    simp [this, hneg]
  rw [e2]
  have e3 : (if decide (r.n < 0) = true then -(x : Int) else (x : Int)) = r.n := by
    by_cases h0 : r.n < 0
    · rw [if_pos (by simpa using h0), ex]; omega
    · rw [if_neg (by simpa using h0), ex]; omega
  rw [e3]
  have e4 : (y : Int) = r.d := by omega
  rw [e4]

/-- The exact sum, as a fraction. -/
def sumQ (l : List Nm) : Int × Int := l.foldl (fun q x => (q.1 * x.d + x.n * q.2, q.2 * x.d)) (0, 1)
theorem sumQ_snoc (l : List Nm) (x : Nm) : sumQ (l ++ [x]) = ((sumQ l).1 * x.d + x.n * (sumQ l).2, (sumQ l).2 * x.d) := by
  unfold sumQ
  rw [List.foldl_append]
  rfl
theorem sumQ_pos {l : List Nm} : (∀ x ∈ l, RtN x) → 0 < (sumQ l).2 := by
  refine snocs (P := fun l => (∀ x ∈ l, RtN x) → 0 < (sumQ l).2) (fun _ => by decide) ?_ l
  intro l x ih h
  rw [sumQ_snoc]
  exact Int.mul_pos (ih fun y hy => h y (List.mem_append_left _ hy)) (h x (by simp)).pos
theorem sumQ_app (l r : List Nm) : sumQ (l ++ r) = ((sumQ l).1 * (sumQ r).2 + (sumQ r).1 * (sumQ l).2, (sumQ l).2 * (sumQ r).2) := by
  refine snocs (P := fun r => sumQ (l ++ r) = ((sumQ l).1 * (sumQ r).2 + (sumQ r).1 * (sumQ l).2, (sumQ l).2 * (sumQ r).2)) ?_ ?_ r
  · simp [sumQ]
  · intro r x ih
    rw [← List.append_assoc, sumQ_snoc, ih, sumQ_snoc]
    simp only [Prod.mk.injEq]
    constructor <;> grind
theorem sumB_exact {l : List Nm} : (∀ x ∈ l, RtN x) → (sumB l).ok = true → RtN ⟨(sumB l).n, (sumB l).d⟩ ∧ IsQ ⟨(sumB l).n, (sumB l).d⟩ (sumQ l).1 (sumQ l).2 := by
  refine snocs (P := fun l => (∀ x ∈ l, RtN x) → (sumB l).ok = true → RtN ⟨(sumB l).n, (sumB l).d⟩ ∧ IsQ ⟨(sumB l).n, (sumB l).d⟩ (sumQ l).1 (sumQ l).2) (fun _ _ => ⟨by unfold RtN; decide, by unfold IsQ; decide⟩) ?_ l
  intro l x ih h hok
  have hx := h x (by simp)
  have hl : ∀ y ∈ l, RtN y := fun y hy => h y (List.mem_append_left _ hy)
  rw [sumB_snoc] at hok ⊢
  unfold addB at hok ⊢
  cases hk : (sumB l).ok
  · rw [hk] at hok
    simp only [Bool.false_eq_true, if_false] at hok
    rw [hk] at hok
    cases hok
  · obtain ⟨h1, h2⟩ := ih hl hk
    rw [hk] at hok
    simp only [if_true] at hok ⊢
    have e : add (sumB l).n (sumB l).d x.n x.d = mk ((sumB l).n * x.d + x.n * (sumB l).d) ((sumB l).d * x.d) := by
      unfold add
      rw [tk_of h1, tk_of hx]
    rw [e] at hok ⊢
    have p1 := h1.pos
    have p2 := hx.pos
    have p3 := sumQ_pos hl
    obtain ⟨g1, g2⟩ := mk_right (Int.mul_pos p1 p2) hok
    refine ⟨g1, ?_⟩
    rw [sumQ_snoc]
    unfold IsQ at *
    simp only at *
    generalize mk ((sumB l).n * x.d + x.n * (sumB l).d) ((sumB l).d * x.d) = R at *
    generalize (sumB l).n = a at *
    generalize (sumB l).d = b at *
    generalize (sumQ l).1 = N at *
    generalize (sumQ l).2 = D at *
    apply Int.eq_of_mul_eq_mul_left (a := b) (by omega)
    grind
/-- The sum of two rows, one behind the other, is the sum of their sums. -/
theorem sum_parts {l r : List Nm} (hl : ∀ x ∈ l, RtN x) (hr : ∀ x ∈ r, RtN x) (h1 : (sumB l).ok = true) (h2 : (sumB r).ok = true) (h3 : (sumB (l ++ r)).ok = true) :
    add (sumB l).n (sumB l).d (sumB r).n (sumB r).d = sumB (l ++ r) := by
  obtain ⟨a1, b1⟩ := sumB_exact hl h1
  obtain ⟨a2, b2⟩ := sumB_exact hr h2
  obtain ⟨a3, b3⟩ := sumB_exact (l := l ++ r) (fun x hx => by rcases List.mem_append.1 hx with h | h; exact hl x h; exact hr x h) h3
  rw [sumQ_app] at b3
  have p1 := a1.pos
  have p2 := a2.pos
  have q1 := sumQ_pos hl
  have q2 := sumQ_pos hr
  unfold add
  rw [tk_of a1, tk_of a2]
  have hm := mk_of (n := (sumB l).n * (sumB r).d + (sumB r).n * (sumB l).d) (d := (sumB l).d * (sumB r).d) (Int.mul_pos p1 p2) a3 (by
    unfold IsQ at *
    simp only at *
    generalize (sumB l).n = x1 at *
    generalize (sumB l).d = y1 at *
    generalize (sumB r).n = x2 at *
    generalize (sumB r).d = y2 at *
    generalize (sumB (l ++ r)).n = x3 at *
    generalize (sumB (l ++ r)).d = y3 at *
    generalize (sumQ l).1 = N1 at *
    generalize (sumQ l).2 = D1 at *
    generalize (sumQ r).1 = N2 at *
    generalize (sumQ r).2 = D2 at *
    apply Int.eq_of_mul_eq_mul_left (a := D1 * D2) (by have := Int.mul_pos q1 q2; omega)
    grind)
  rw [hm]
  cases hs : sumB (l ++ r) with
  | mk n d ok =>
    rw [hs] at h3
    simp only at h3
    rw [h3]
end Go.Proofs.YtangdbjoflnobaaGreatDoor
