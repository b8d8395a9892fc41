/- Plain laws: exact products and sums of squares; truths of a row; two rows, one behind the other; no program in sight. -/
import Derived.Test.YtangdbjoflnobaaGreatDoorPartsP
namespace Go.Proofs.YtangdbjoflnobaaGreatDoor
open Go Go.RowKit
set_option linter.unusedSimpArgs false
set_option linter.unusedVariables false

theorem lowest_eq {a b c d : Int} (hb : 0 < b) (hd : 0 < d) (h1 : Nat.gcd a.natAbs b.natAbs = 1) (h2 : Nat.gcd c.natAbs d.natAbs = 1) (h : a * d = c * b) : a = c ∧ b = d := by
  have e' : a.natAbs * d.natAbs = c.natAbs * b.natAbs := by rw [← Int.natAbs_mul, ← Int.natAbs_mul, h]
  have c1 : Nat.Coprime b.natAbs a.natAbs := Nat.Coprime.symm h1
  have c2 : Nat.Coprime d.natAbs c.natAbs := Nat.Coprime.symm h2
  have d1 : b.natAbs ∣ d.natAbs := c1.dvd_of_dvd_mul_left ⟨c.natAbs, by rw [e', Nat.mul_comm]⟩
  have d2 : d.natAbs ∣ b.natAbs := c2.dvd_of_dvd_mul_left ⟨a.natAbs, by rw [← e', Nat.mul_comm]⟩
  have ed : b = d := by have := Nat.dvd_antisymm d1 d2; omega
  subst ed
  exact ⟨Int.eq_of_mul_eq_mul_right (by omega) h, rfl⟩

/-- The parts over cross. -/
theorem cross_parts {x y : Nm} (hx : RtN x) (hy : RtN y) : ∃ n1 d1 m1 e1 g h : Int, 0 < g ∧ 0 < h ∧ x.n = n1 * g ∧ y.d = e1 * g ∧ y.n = m1 * h ∧ x.d = d1 * h ∧ 0 < d1 ∧ 0 < e1 ∧
    Nat.gcd (n1 * m1).natAbs (d1 * e1).natAbs = 1 ∧ mul x.n x.d y.n y.d = prodQ n1 d1 m1 e1 := by
  have px := hx.pos
  have py := hy.pos
  obtain ⟨g, a, b, hg, hgp, ha, hb, hxa, hxb, hbp, hc⟩ := gcd_parts x.n.natAbs y.d.natAbs (by omega)
  obtain ⟨h, c, d, hh, hhp, hc1, hd1, hyc, hyd, hdp, hc2⟩ := gcd_parts y.n.natAbs x.d.natAbs (by omega)
  have gx : Nat.gcd x.n.natAbs x.d.natAbs = 1 := (rightN_iff.1 hx).2.2.2.2
  have gy : Nat.gcd y.n.natAbs y.d.natAbs = 1 := (rightN_iff.1 hy).2.2.2.2
  have hgz : (g : Int) ≠ 0 := by omega
  have hhz : (h : Int) ≠ 0 := by omega
  have dn : (g : Int) ∣ x.n := Int.ofNat_dvd_left.2 ⟨a, by rw [ha, Nat.mul_comm]⟩
  have de : (g : Int) ∣ y.d := Int.ofNat_dvd_left.2 ⟨b, by rw [hb, Nat.mul_comm]⟩
  have dm : (h : Int) ∣ y.n := Int.ofNat_dvd_left.2 ⟨c, by rw [hc1, Nat.mul_comm]⟩
  have dd : (h : Int) ∣ x.d := Int.ofNat_dvd_left.2 ⟨d, by rw [hd1, Nat.mul_comm]⟩
  have en : x.n = x.n.tdiv g * g := (Int.tdiv_mul_cancel dn).symm
  have ee : y.d = y.d / g * g := (Int.ediv_mul_cancel de).symm
  have em : y.n = y.n.tdiv h * h := (Int.tdiv_mul_cancel dm).symm
  have ed : x.d = x.d / h * h := (Int.ediv_mul_cancel dd).symm
  have abs_n : (x.n.tdiv g).natAbs = a := by
    have h1 : x.n.natAbs = (x.n.tdiv g).natAbs * g := by have h2 := congrArg Int.natAbs en; rw [Int.natAbs_mul, Int.natAbs_natCast] at h2; exact h2
    rw [ha] at h1
    exact (Nat.eq_of_mul_eq_mul_right hgp h1).symm
  have abs_e : (y.d / g).natAbs = b := by
    have h1 : y.d.natAbs = (y.d / g).natAbs * g := by have h2 := congrArg Int.natAbs ee; rw [Int.natAbs_mul, Int.natAbs_natCast] at h2; exact h2
    rw [hb] at h1
    exact (Nat.eq_of_mul_eq_mul_right hgp h1).symm
  have abs_m : (y.n.tdiv h).natAbs = c := by
    have h1 : y.n.natAbs = (y.n.tdiv h).natAbs * h := by have h2 := congrArg Int.natAbs em; rw [Int.natAbs_mul, Int.natAbs_natCast] at h2; exact h2
    rw [hc1] at h1
    exact (Nat.eq_of_mul_eq_mul_right hhp h1).symm
  have abs_d : (x.d / h).natAbs = d := by
    have h1 : x.d.natAbs = (x.d / h).natAbs * h := by have h2 := congrArg Int.natAbs ed; rw [Int.natAbs_mul, Int.natAbs_natCast] at h2; exact h2
    rw [hd1] at h1
    exact (Nat.eq_of_mul_eq_mul_right hhp h1).symm
  have p1 : 0 < x.d / h := by have := Int.ediv_nonneg (a := x.d) (b := h) (by omega) (by omega); omega
  have p2 : 0 < y.d / g := by have := Int.ediv_nonneg (a := y.d) (b := g) (by omega) (by omega); omega
  refine ⟨x.n.tdiv g, x.d / h, y.n.tdiv h, y.d / g, g, h, by omega, by omega, en, ee, em, ed, p1, p2, ?_, ?_⟩
  · rw [Int.natAbs_mul, Int.natAbs_mul, abs_n, abs_e, abs_m, abs_d]
    have k1 : Nat.Coprime a d := Nat.Coprime.coprime_dvd_left ⟨g, ha⟩ (Nat.Coprime.coprime_dvd_right ⟨h, hd1⟩ gx)
    have k2 : Nat.Coprime c b := Nat.Coprime.coprime_dvd_left ⟨h, hc1⟩ (Nat.Coprime.coprime_dvd_right ⟨g, hb⟩ gy)
    have k3 : Nat.Coprime a b := hc
    have k4 : Nat.Coprime c d := hc2
    exact Nat.Coprime.mul_left (Nat.Coprime.mul_right k1 k3) (Nat.Coprime.mul_right k4 k2)
  · unfold mul
    rw [tk_of hx, tk_of hy]
    unfold prod
    simp only
    rw [← hg, ← hh]
theorem mul_right' {x y : Nm} (hx : RtN x) (hy : RtN y) (hok : (mul x.n x.d y.n y.d).ok = true) : RtN ⟨(mul x.n x.d y.n y.d).n, (mul x.n x.d y.n y.d).d⟩ ∧ IsQ ⟨(mul x.n x.d y.n y.d).n, (mul x.n x.d y.n y.d).d⟩ (x.n * y.n) (x.d * y.d) := by
  obtain ⟨n1, d1, m1, e1, g, h, hg, hh, en, ee, em, ed, p1, p2, hc, e⟩ := cross_parts hx hy
  rw [e] at hok ⊢
  unfold prodQ at hok ⊢
  split at hok
  · cases hok
  · rename_i hbad
    rw [if_neg hbad]
    by_cases h0 : n1 * m1 = 0
    · rw [if_pos h0]
      refine ⟨by unfold RtN; decide, ?_⟩
      unfold IsQ
      simp only
      rw [en, em, show n1 * g * (m1 * h) = n1 * m1 * (g * h) by grind, h0]
      simp
    · rw [if_neg h0]
      have hm : m1 ≠ 0 := fun h1 => h0 (by simp [h1])
      have h2 := natAbs_mul_le (a := n1) (b := m1) (k := 1000000000000) hm (fun h1 => hbad (Or.inl ⟨hm, h1⟩))
      have h3 : ¬ 1000000 < d1 * e1 := fun h1 => hbad (Or.inr h1)
      have h4 : 0 < d1 * e1 := Int.mul_pos p1 p2
      refine ⟨rightN_iff.2 ⟨?_, ?_, ?_, ?_, hc⟩, ?_⟩
      · simp only; omega
      · simp only; omega
      · simp only; omega
      · simp only; omega
      · unfold IsQ
        simp only
        rw [en, em, ed, ee]
        grind
theorem mul_of {x y r : Nm} (hx : RtN x) (hy : RtN y) (hr : RtN r) (hq : IsQ r (x.n * y.n) (x.d * y.d)) : mul x.n x.d y.n y.d = ⟨r.n, r.d, true⟩ := by
  obtain ⟨n1, d1, m1, e1, g, h, hg, hh, en, ee, em, ed, p1, p2, hc, e⟩ := cross_parts hx hy
  have hrr := rightN_iff.1 hr
  have p3 : 0 < d1 * e1 := Int.mul_pos p1 p2
  have hcr : r.n * (d1 * e1) = n1 * m1 * r.d := by
    unfold IsQ at hq
    rw [en, em, ed, ee] at hq
    apply Int.eq_of_mul_eq_mul_left (a := g * h) (by have := Int.mul_pos hg hh; omega)
    grind
  obtain ⟨q1, q2⟩ := lowest_eq (a := r.n) (b := r.d) (c := n1 * m1) (d := d1 * e1) (by omega) p3 hrr.2.2.2.2 hc hcr
  rw [e]
  unfold prodQ
  have hnb : ¬ ((m1 ≠ 0 ∧ 1000000000000 / m1.natAbs < n1.natAbs) ∨ 1000000 < d1 * e1) := by
    rintro (⟨hm, hlt⟩ | hlt)
    · have h1 : n1.natAbs * m1.natAbs ≤ 1000000000000 := by rw [← Int.natAbs_mul, ← q1]; omega
      have h2 := (Nat.le_div_iff_mul_le (by omega : 0 < m1.natAbs)).2 h1
      omega
    · omega
  rw [if_neg hnb]
  by_cases h0 : n1 * m1 = 0
  · rw [if_pos h0]
    have hr0 : r.n = 0 := by omega
    have hr1 : r.d = 1 := by
      have := hrr.2.2.2.2
      rw [hr0] at this
      simp at this
      omega
    rw [hr0, hr1]
  · rw [if_neg h0, q1, q2]
theorem mul_bad {n d m e : Int} (h : (mul n d m e).ok = false) : mul n d m e = badB := by
  unfold mul prod prodQ at *
  split
  · rfl
  · rename_i h1
    rw [if_neg h1] at h
    split at h <;> cases h

/-! products -/
def mulB (r : NmB) (x : Nm) : NmB := if r.ok then mul r.n r.d x.n x.d else r
def prodB (l : List Nm) : NmB := l.foldl mulB ⟨1, 1, true⟩
theorem prodB_snoc (l : List Nm) (x : Nm) : prodB (l ++ [x]) = mulB (prodB l) x := by
  unfold prodB
  rw [List.foldl_append]
  rfl
def mulQ (l : List Nm) : Int × Int := l.foldl (fun q x => (q.1 * x.n, q.2 * x.d)) (1, 1)
theorem mulQ_snoc (l : List Nm) (x : Nm) : mulQ (l ++ [x]) = ((mulQ l).1 * x.n, (mulQ l).2 * x.d) := by
  unfold mulQ
  rw [List.foldl_append]
  rfl
theorem mulQ_pos {l : List Nm} : (∀ x ∈ l, RtN x) → 0 < (mulQ l).2 := by
  refine snocs (P := fun l => (∀ x ∈ l, RtN x) → 0 < (mulQ l).2) (fun _ => by decide) ?_ l
  intro l x ih h
  rw [mulQ_snoc]
  exact Int.mul_pos (ih fun y hy => h y (List.mem_append_left _ hy)) (h x (by simp)).pos
theorem mulQ_app (l r : List Nm) : mulQ (l ++ r) = ((mulQ l).1 * (mulQ r).1, (mulQ l).2 * (mulQ r).2) := by
  refine snocs (P := fun r => mulQ (l ++ r) = ((mulQ l).1 * (mulQ r).1, (mulQ l).2 * (mulQ r).2)) ?_ ?_ r
  · simp [mulQ]
  · intro r x ih
    rw [← List.append_assoc, mulQ_snoc, ih, mulQ_snoc]
    simp only [Prod.mk.injEq]
    constructor <;> grind
theorem prodB_exact {l : List Nm} : (∀ x ∈ l, RtN x) → (prodB l).ok = true → RtN ⟨(prodB l).n, (prodB l).d⟩ ∧ IsQ ⟨(prodB l).n, (prodB l).d⟩ (mulQ l).1 (mulQ l).2 := by
  refine snocs (P := fun l => (∀ x ∈ l, RtN x) → (prodB l).ok = true → RtN ⟨(prodB l).n, (prodB l).d⟩ ∧ IsQ ⟨(prodB l).n, (prodB l).d⟩ (mulQ l).1 (mulQ l).2) (fun _ _ => ⟨by unfold RtN; decide, by unfold IsQ; decide⟩) ?_ l
  intro l x ih h hok
  have hx := h x (by simp)
  have hl : ∀ y ∈ l, RtN y := fun y hy => h y (List.mem_append_left _ hy)
  rw [prodB_snoc] at hok ⊢
  unfold mulB at hok ⊢
  cases hk : (prodB l).ok
  · rw [hk] at hok
    simp only [Bool.false_eq_true, if_false] at hok
    rw [hk] at hok
    cases hok
  · obtain ⟨h1, h2⟩ := ih hl hk
    rw [hk] at hok
    simp only [if_true] at hok ⊢
    have p1 := h1.pos
    have p2 := hx.pos
    have p3 := mulQ_pos hl
    obtain ⟨g1, g2⟩ := mul_right' (x := ⟨(prodB l).n, (prodB l).d⟩) h1 hx hok
    refine ⟨g1, ?_⟩
    rw [mulQ_snoc]
    unfold IsQ at *
    simp only at *
    generalize mul (prodB l).n (prodB l).d x.n x.d = R at *
    generalize (prodB l).n = a at *
    generalize (prodB l).d = b at *
    generalize (mulQ l).1 = N at *
    generalize (mulQ l).2 = D at *
    apply Int.eq_of_mul_eq_mul_left (a := b) (by omega)
    grind
theorem prod_parts {l r : List Nm} (hl : ∀ x ∈ l, RtN x) (hr : ∀ x ∈ r, RtN x) (h1 : (prodB l).ok = true) (h2 : (prodB r).ok = true) (h3 : (prodB (l ++ r)).ok = true) :
    mul (prodB l).n (prodB l).d (prodB r).n (prodB r).d = prodB (l ++ r) := by
  obtain ⟨a1, b1⟩ := prodB_exact hl h1
  obtain ⟨a2, b2⟩ := prodB_exact hr h2
  obtain ⟨a3, b3⟩ := prodB_exact (l := l ++ r) (fun x hx => by rcases List.mem_append.1 hx with h | h; exact hl x h; exact hr x h) h3
  rw [mulQ_app] at b3
  have q1 := mulQ_pos hl
  have q2 := mulQ_pos hr
  have hm := mul_of (x := ⟨(prodB l).n, (prodB l).d⟩) (y := ⟨(prodB r).n, (prodB r).d⟩) a1 a2 a3 (by
    unfold IsQ at *
    simp only at *
    generalize (prodB l).n = x1 at *
    generalize (prodB l).d = y1 at *
    generalize (prodB r).n = x2 at *
    generalize (prodB r).d = y2 at *
    generalize (prodB (l ++ r)).n = x3 at *
    generalize (prodB (l ++ r)).d = y3 at *
    generalize (mulQ l).1 = N1 at *
    generalize (mulQ l).2 = D1 at *
    generalize (mulQ r).1 = N2 at *
    generalize (mulQ r).2 = D2 at *
    apply Int.eq_of_mul_eq_mul_left (a := D1 * D2) (by have := Int.mul_pos q1 q2; omega)
    grind)
  simp only at hm
  rw [hm]
  cases hs : prodB (l ++ r) with
  | mk n d ok =>
    rw [hs] at h3
    simp only at h3
    rw [h3]

/-! sums of squares -/
def sqB1 (r : NmB) (x : Nm) : NmB := if r.ok then (if (mul x.n x.d x.n x.d).ok then add r.n r.d (mul x.n x.d x.n x.d).n (mul x.n x.d x.n x.d).d else badB) else r
def sqB (l : List Nm) : NmB := l.foldl sqB1 ⟨0, 1, true⟩
theorem sqB_snoc (l : List Nm) (x : Nm) : sqB (l ++ [x]) = sqB1 (sqB l) x := by
  unfold sqB
  rw [List.foldl_append]
  rfl
def sqQ (l : List Nm) : Int × Int := l.foldl (fun q x => (q.1 * (x.d * x.d) + x.n * x.n * q.2, q.2 * (x.d * x.d))) (0, 1)
theorem sqQ_snoc (l : List Nm) (x : Nm) : sqQ (l ++ [x]) = ((sqQ l).1 * (x.d * x.d) + x.n * x.n * (sqQ l).2, (sqQ l).2 * (x.d * x.d)) := by
  unfold sqQ
  rw [List.foldl_append]
  rfl
theorem sqQ_pos {l : List Nm} : (∀ x ∈ l, RtN x) → 0 < (sqQ l).2 := by
  refine snocs (P := fun l => (∀ x ∈ l, RtN x) → 0 < (sqQ l).2) (fun _ => by decide) ?_ l
  intro l x ih h
  rw [sqQ_snoc]
  exact Int.mul_pos (ih fun y hy => h y (List.mem_append_left _ hy)) (Int.mul_pos (h x (by simp)).pos (h x (by simp)).pos)
theorem sqQ_app (l r : List Nm) : sqQ (l ++ r) = ((sqQ l).1 * (sqQ r).2 + (sqQ r).1 * (sqQ l).2, (sqQ l).2 * (sqQ r).2) := by
  refine snocs (P := fun r => sqQ (l ++ r) = ((sqQ l).1 * (sqQ r).2 + (sqQ r).1 * (sqQ l).2, (sqQ l).2 * (sqQ r).2)) ?_ ?_ r
  · simp [sqQ]
  · intro r x ih
    rw [← List.append_assoc, sqQ_snoc, ih, sqQ_snoc]
    simp only [Prod.mk.injEq]
    constructor <;> grind
theorem sqB_exact {l : List Nm} : (∀ x ∈ l, RtN x) → (sqB l).ok = true → RtN ⟨(sqB l).n, (sqB l).d⟩ ∧ IsQ ⟨(sqB l).n, (sqB l).d⟩ (sqQ l).1 (sqQ l).2 := by
  refine snocs (P := fun l => (∀ x ∈ l, RtN x) → (sqB l).ok = true → RtN ⟨(sqB l).n, (sqB l).d⟩ ∧ IsQ ⟨(sqB l).n, (sqB l).d⟩ (sqQ l).1 (sqQ l).2) (fun _ _ => ⟨by unfold RtN; decide, by unfold IsQ; decide⟩) ?_ l
  intro l x ih h hok
  have hx := h x (by simp)
  have hl : ∀ y ∈ l, RtN y := fun y hy => h y (List.mem_append_left _ hy)
  rw [sqB_snoc] at hok ⊢
  unfold sqB1 at hok ⊢
  cases hk : (sqB l).ok
  · rw [hk] at hok
    simp only [Bool.false_eq_true, if_false] at hok
    rw [hk] at hok
    cases hok
  · obtain ⟨h1, h2⟩ := ih hl hk
    rw [hk] at hok
    simp only [if_true] at hok ⊢
    cases hs : (mul x.n x.d x.n x.d).ok
    · rw [hs] at hok
      simp only [Bool.false_eq_true, if_false] at hok
      cases hok
    · rw [hs] at hok
      simp only [if_true] at hok ⊢
      obtain ⟨s1, s2⟩ := mul_right' hx hx hs
      generalize mul x.n x.d x.n x.d = Z at *
      have e : add (sqB l).n (sqB l).d Z.n Z.d = mk ((sqB l).n * Z.d + Z.n * (sqB l).d) ((sqB l).d * Z.d) := by
        unfold add
        rw [tk_of h1, tk_of s1]
      rw [e] at hok ⊢
      have p1 := h1.pos
      have p2 := s1.pos
      have p3 := sqQ_pos hl
      have p4 := hx.pos
      obtain ⟨g1, g2⟩ := mk_right (Int.mul_pos p1 p2) hok
      refine ⟨g1, ?_⟩
      rw [sqQ_snoc]
      unfold IsQ at *
      simp only at *
      generalize mk ((sqB l).n * Z.d + Z.n * (sqB l).d) ((sqB l).d * Z.d) = R at *
      generalize (sqB l).n = a at *
      generalize (sqB l).d = b at *
      generalize (sqQ l).1 = N at *
      generalize (sqQ l).2 = D at *
      obtain ⟨zn, zd, zo⟩ := Z
      obtain ⟨rn, rd, ro⟩ := R
      obtain ⟨n, d⟩ := x
      simp only at *
      apply Int.eq_of_mul_eq_mul_left (a := b * zd) (by have := Int.mul_pos p1 p2; omega)
      grind
theorem sq_parts {l r : List Nm} (hl : ∀ x ∈ l, RtN x) (hr : ∀ x ∈ r, RtN x) (h1 : (sqB l).ok = true) (h2 : (sqB r).ok = true) (h3 : (sqB (l ++ r)).ok = true) :
    add (sqB l).n (sqB l).d (sqB r).n (sqB r).d = sqB (l ++ r) := by
  obtain ⟨a1, b1⟩ := sqB_exact hl h1
  obtain ⟨a2, b2⟩ := sqB_exact hr h2
  obtain ⟨a3, b3⟩ := sqB_exact (l := l ++ r) (fun x hx => by rcases List.mem_append.1 hx with h | h; exact hl x h; exact hr x h) h3
  rw [sqQ_app] at b3
  have p1 := a1.pos
  have p2 := a2.pos
  have q1 := sqQ_pos hl
  have q2 := sqQ_pos hr
  unfold add
  rw [tk_of a1, tk_of a2]
  have hm := mk_of (n := (sqB l).n * (sqB r).d + (sqB r).n * (sqB l).d) (d := (sqB l).d * (sqB r).d) (Int.mul_pos p1 p2) a3 (by
    unfold IsQ at *
    simp only at *
    generalize (sqB l).n = x1 at *
    generalize (sqB l).d = y1 at *
    generalize (sqB r).n = x2 at *
    generalize (sqB r).d = y2 at *
    generalize (sqB (l ++ r)).n = x3 at *
    generalize (sqB (l ++ r)).d = y3 at *
    generalize (sqQ l).1 = N1 at *
    generalize (sqQ l).2 = D1 at *
    generalize (sqQ r).1 = N2 at *
    generalize (sqQ r).2 = D2 at *
    apply Int.eq_of_mul_eq_mul_left (a := D1 * D2) (by have := Int.mul_pos q1 q2; omega)
    grind)
  rw [hm]
  cases hs : sqB (l ++ r) with
  | mk n d ok =>
    rw [hs] at h3
    simp only at h3
    rw [h3]

/-! truths -/
def andB (l : List Nm) : Bool := l.all fun x => x.n != 0
def orB (l : List Nm) : Bool := l.any fun x => x.n != 0
def xorC (l : List Nm) : Int := l.foldl (fun c x => if x.n = 0 then c else c + 1) 0
def xorB (l : List Nm) : Bool := decide ((xorC l).tmod 2 = 1)
theorem xorC_snoc (l : List Nm) (x : Nm) : xorC (l ++ [x]) = if x.n = 0 then xorC l else xorC l + 1 := by
  unfold xorC
  rw [List.foldl_append]
  rfl
theorem xorC_app (l r : List Nm) : xorC (l ++ r) = xorC l + xorC r := by
  refine snocs (P := fun r => xorC (l ++ r) = xorC l + xorC r) ?_ ?_ r
  · simp [xorC]
  · intro r x ih
    rw [← List.append_assoc, xorC_snoc, ih, xorC_snoc]
    split <;> omega
theorem xorC_bd (l : List Nm) : 0 ≤ xorC l ∧ xorC l ≤ l.length := by
  refine snocs (P := fun l => 0 ≤ xorC l ∧ xorC l ≤ l.length) (by decide) ?_ l
  intro l x ih
  rw [xorC_snoc, List.length_append]
  split <;> simp <;> omega
theorem xor_parts (l r : List Nm) : xorB (l ++ r) = (xorB l != xorB r) := by
  have h1 := (xorC_bd l).1
  have h2 := (xorC_bd r).1
  unfold xorB
  rw [xorC_app]
  generalize xorC l = a at *
  generalize xorC r = b at *
  rw [Bool.eq_iff_iff]
  simp only [decide_eq_true_eq, bne_iff_ne, ne_eq]
  rw [Int.tmod_eq_emod_of_nonneg h1, Int.tmod_eq_emod_of_nonneg h2, Int.tmod_eq_emod_of_nonneg (by omega)]
  constructor
  · intro h he
    rw [Bool.eq_iff_iff] at he
    simp only [decide_eq_true_eq] at he
    omega
  · intro h
    by_cases ha : a % 2 = 1 <;> by_cases hb : b % 2 = 1 <;> simp [ha, hb] at h <;> omega
theorem and_parts (l r : List Nm) : andB (l ++ r) = (andB l && andB r) := by unfold andB; exact List.all_append
theorem or_parts (l r : List Nm) : orB (l ++ r) = (orB l || orB r) := by unfold orB; exact List.any_append
end Go.Proofs.YtangdbjoflnobaaGreatDoor
