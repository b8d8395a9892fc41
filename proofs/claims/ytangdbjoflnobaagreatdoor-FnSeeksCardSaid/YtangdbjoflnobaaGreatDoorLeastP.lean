/- Plain laws: the least and the greatest of a row of numbers, whatever their order; no program in sight. -/
import Derived.Test.YtangdbjoflnobaaGreatDoorNum
namespace Go.Proofs.YtangdbjoflnobaaGreatDoor
open Go Go.RowKit

theorem cmpI_lt {x y : Int} : cmpI x y = -1 ↔ x < y := by unfold cmpI; split <;> (try split) <;> omega
theorem cmpI_gt {x y : Int} : cmpI x y = 1 ↔ y < x := by unfold cmpI; split <;> (try split) <;> omega
theorem cmpI_le {x y : Int} : ¬ cmpI x y < 0 ↔ y ≤ x := by unfold cmpI; split <;> (try split) <;> omega
theorem cmpI_ge {x y : Int} : ¬ 0 < cmpI x y ↔ x ≤ y := by unfold cmpI; split <;> (try split) <;> omega

/-- x is not above y, as fractions. -/
def leQ (x y : Nm) : Prop := x.n * y.d ≤ y.n * x.d
theorem leQ_trans {x y z : Nm} (hx : 0 < x.d) (hy : 0 < y.d) (hz : 0 < z.d) (h1 : leQ x y) (h2 : leQ y z) : leQ x z := by
  unfold leQ at *
  have e1 : x.n * y.d * z.d ≤ y.n * x.d * z.d := Int.mul_le_mul_of_nonneg_right h1 (by omega)
  have e2 : y.n * z.d * x.d ≤ z.n * y.d * x.d := Int.mul_le_mul_of_nonneg_right h2 (by omega)
  have a1 : x.n * y.d * z.d = x.n * z.d * y.d := Int.mul_right_comm _ _ _
  have a2 : y.n * x.d * z.d = y.n * z.d * x.d := Int.mul_right_comm _ _ _
  have a3 : z.n * y.d * x.d = z.n * x.d * y.d := Int.mul_right_comm _ _ _
  have e3 : x.n * z.d * y.d ≤ z.n * x.d * y.d := by omega
  exact Int.le_of_mul_le_mul_right e3 hy
def RtN (x : Nm) : Prop := rightN x.n x.d = true
theorem RtN.pos {x : Nm} (h : RtN x) : 0 < x.d := by have := rightN_iff.1 h; omega
theorem leQ_anti {x y : Nm} (hx : RtN x) (hy : RtN y) (h1 : leQ x y) (h2 : leQ y x) : x = y := by
  have e : x.n * y.d = y.n * x.d := Int.le_antisymm h1 h2
  have px := hx.pos
  have py := hy.pos
  have e' : x.n.natAbs * y.d.natAbs = y.n.natAbs * x.d.natAbs := by rw [← Int.natAbs_mul, ← Int.natAbs_mul, e]
  have c1 : Nat.Coprime x.d.natAbs x.n.natAbs := Nat.Coprime.symm (rightN_iff.1 hx).2.2.2.2
  have c2 : Nat.Coprime y.d.natAbs y.n.natAbs := Nat.Coprime.symm (rightN_iff.1 hy).2.2.2.2
  have d1 : x.d.natAbs ∣ y.d.natAbs := c1.dvd_of_dvd_mul_left ⟨y.n.natAbs, by rw [e', Nat.mul_comm]⟩
  have d2 : y.d.natAbs ∣ x.d.natAbs := c2.dvd_of_dvd_mul_left ⟨x.n.natAbs, by rw [← e', Nat.mul_comm]⟩
  have ed : x.d = y.d := by have := Nat.dvd_antisymm d1 d2; omega
  have en : x.n = y.n := by rw [ed] at e; exact Int.eq_of_mul_eq_mul_right (by omega) e
  cases x; cases y; simp only at ed en; rw [ed, en]
theorem cmpN_of {x y : Nm} (hx : RtN x) (hy : RtN y) : cmpN x.n x.d y.n y.d = cmpI (x.n * y.d) (y.n * x.d) := by
  unfold cmpN
  rw [tk_of hx, tk_of hy]

/-- x stands on that side of y. -/
def beyond (side : Int) (x y : Nm) : Prop := cmpN x.n x.d y.n y.d = side
instance (side : Int) (x y : Nm) : Decidable (beyond side x y) := inferInstanceAs (Decidable (_ = _))
def stepQ (side : Int) (m x : Nm) : Nm := if beyond side x m then x else m
theorem beyond_cotrans {side : Int} (hs : side = -1 ∨ side = 1) {x y z : Nm} (hx : RtN x) (hy : RtN y) (hz : RtN z) (h1 : ¬ beyond side x y) (h2 : ¬ beyond side y z) : ¬ beyond side x z := by
  unfold beyond at *
  rw [cmpN_of hx hy] at h1
  rw [cmpN_of hy hz] at h2
  rw [cmpN_of hx hz]
  rcases hs with rfl | rfl
  · rw [cmpI_lt] at *
    have := leQ_trans hz.pos hy.pos hx.pos (show leQ z y by unfold leQ; omega) (show leQ y x by unfold leQ; omega)
    unfold leQ at this
    omega
  · rw [cmpI_gt] at *
    have := leQ_trans hx.pos hy.pos hz.pos (show leQ x y by unfold leQ; omega) (show leQ y z by unfold leQ; omega)
    unfold leQ at this
    omega
theorem beyond_anti {side : Int} (hs : side = -1 ∨ side = 1) {x y : Nm} (hx : RtN x) (hy : RtN y) (h1 : ¬ beyond side x y) (h2 : ¬ beyond side y x) : x = y := by
  unfold beyond at *
  rw [cmpN_of hx hy] at h1
  rw [cmpN_of hy hx] at h2
  rcases hs with rfl | rfl
  · rw [cmpI_lt] at *
    exact leQ_anti hx hy (by unfold leQ; omega) (by unfold leQ; omega)
  · rw [cmpI_gt] at *
    exact leQ_anti hx hy (by unfold leQ; omega) (by unfold leQ; omega)
theorem beyond_irr {side : Int} (hs : side = -1 ∨ side = 1) {x : Nm} (hx : RtN x) : ¬ beyond side x x := by
  unfold beyond
  rw [cmpN_of hx hx]
  rcases hs with rfl | rfl
  · rw [cmpI_lt]; omega
  · rw [cmpI_gt]; omega
theorem beyond_asym {side : Int} (hs : side = -1 ∨ side = 1) {x y : Nm} (hx : RtN x) (hy : RtN y) (h : beyond side x y) : ¬ beyond side y x := by
  unfold beyond at *
  rw [cmpN_of hx hy] at h
  rw [cmpN_of hy hx]
  rcases hs with rfl | rfl
  · rw [cmpI_lt] at *; omega
  · rw [cmpI_gt] at *; omega

theorem bestFrom {side : Int} (hs : side = -1 ∨ side = 1) : ∀ (l : List Nm) (m0 : Nm), RtN m0 → (∀ x ∈ l, RtN x) →
    (l.foldl (stepQ side) m0 = m0 ∨ l.foldl (stepQ side) m0 ∈ l) ∧ RtN (l.foldl (stepQ side) m0) ∧ ¬ beyond side m0 (l.foldl (stepQ side) m0) ∧ ∀ x ∈ l, ¬ beyond side x (l.foldl (stepQ side) m0) := by
  intro l
  induction l with
  | nil => intro m0 h0 _; exact ⟨Or.inl rfl, h0, beyond_irr hs h0, fun x hx => by cases hx⟩
  | cons y l ih =>
    intro m0 h0 hl
    have hy : RtN y := hl y (by simp)
    rw [List.foldl_cons]
    by_cases hb : beyond side y m0
    · have e : stepQ side m0 y = y := by unfold stepQ; rw [if_pos hb]
      rw [e]
      obtain ⟨h1, h2, h3, h4⟩ := ih y hy (fun x hx => hl x (by simp [hx]))
      refine ⟨Or.inr ?_, h2, beyond_cotrans hs h0 hy h2 (beyond_asym hs hy h0 hb) h3, ?_⟩
      · rcases h1 with h1 | h1
        · rw [h1]; simp
        · simp [h1]
      · intro x hx
        rcases List.mem_cons.1 hx with rfl | hx
        · exact h3
        · exact h4 x hx
    · have e : stepQ side m0 y = m0 := by unfold stepQ; rw [if_neg hb]
      rw [e]
      obtain ⟨h1, h2, h3, h4⟩ := ih m0 h0 (fun x hx => hl x (by simp [hx]))
      refine ⟨?_, h2, h3, ?_⟩
      · rcases h1 with h1 | h1
        · exact Or.inl h1
        · exact Or.inr (by simp [h1])
      · intro x hx
        rcases List.mem_cons.1 hx with rfl | hx
        · exact beyond_cotrans hs hy h0 h2 hb h3
        · exact h4 x hx
/-- What a fold keeps of a row that isn't empty. -/
def best (side : Int) : List Nm → Nm
  | [] => ⟨0, 1⟩
  | x :: l => l.foldl (stepQ side) x
theorem best_spec {side : Int} (hs : side = -1 ∨ side = 1) {l : List Nm} (hl : ∀ x ∈ l, RtN x) (hne : l ≠ []) : best side l ∈ l ∧ RtN (best side l) ∧ ∀ x ∈ l, ¬ beyond side x (best side l) := by
  cases l with
  | nil => exact absurd rfl hne
  | cons x l =>
    obtain ⟨h1, h2, h3, h4⟩ := bestFrom hs l x (hl x (by simp)) (fun y hy => hl y (by simp [hy]))
    refine ⟨?_, h2, ?_⟩
    · rcases h1 with h1 | h1
      · show l.foldl _ x ∈ _; rw [h1]; simp
      · show l.foldl _ x ∈ _; simp [h1]
    · intro y hy
      rcases List.mem_cons.1 hy with rfl | hy
      · exact h3
      · exact h4 y hy
/-- Whatever the order. -/
theorem best_same {side : Int} (hs : side = -1 ∨ side = 1) {l l' : List Nm} (hl : ∀ x ∈ l, RtN x) (hne : l ≠ []) (hsame : ∀ x, x ∈ l ↔ x ∈ l') : best side l = best side l' := by
  have hl' : ∀ x ∈ l', RtN x := fun x hx => hl x ((hsame x).2 hx)
  have hne' : l' ≠ [] := by
    intro h
    obtain ⟨x, r, rfl⟩ := List.exists_cons_of_ne_nil hne
    have := (hsame x).1 (by simp)
    rw [h] at this
    cases this
  obtain ⟨a1, a2, a3⟩ := best_spec hs hl hne
  obtain ⟨b1, b2, b3⟩ := best_spec hs hl' hne'
  exact beyond_anti hs a2 b2 (b3 _ ((hsame _).1 a1)) (a3 _ ((hsame _).2 b1))
end Go.Proofs.YtangdbjoflnobaaGreatDoor
