/- Plain laws: sums, one behind the other; what a fold holds behind a row of numbers, step by step; no program in sight. -/
import Derived.Test.YtangdbjoflnobaaGreatDoorAccF
import Derived.Test.YtangdbjoflnobaaGreatDoorLeastP
namespace Go.Proofs.YtangdbjoflnobaaGreatDoor
open Go Go.RowKit
set_option linter.unusedSimpArgs false
set_option linter.unusedVariables false

theorem mk_bad {n d : Int} (h : (mk n d).ok = false) : mk n d = badB := by
  unfold mk signed at *
  split
  · rfl
  · rename_i h0
    rw [if_neg h0] at h
    split
    · rfl
    · rename_i h1
      rw [if_neg h1] at h
      cases h
theorem add_bad {n d m e : Int} (h : (add n d m e).ok = false) : add n d m e = badB := mk_bad h
theorem mk_whole {c : Int} (h0 : 0 ≤ c) (h1 : c ≤ 1000000000000) : mk c 1 = ⟨c, 1, true⟩ := by
  unfold mk signed
  rw [if_neg (by decide)]
  have e : Nat.gcd c.natAbs (1 : Int).natAbs = 1 := by simp
  rw [e, Nat.div_one, Nat.div_one, if_neg (by omega)]
  have e2 : (decide (c < 0) != decide ((1 : Int) < 0)) = false := by
    have : ¬ c < 0 := by omega
    simp [this]
  rw [e2]
  have e3 : (c.natAbs : Int) = c := by omega
  simp [e3]
theorem right_whole {c : Int} (h0 : 0 ≤ c) (h1 : c ≤ 1000000000000) : rightN c 1 = true := rightN_iff.2 ⟨by omega, h1, by decide, by decide, by simp⟩
theorem wholeF_of {c : Int} (h0 : 0 ≤ c) (h1 : c ≤ 1000000000000) : wholeF c = numF c 1 := by
  unfold wholeF toldF
  rw [mk_whole h0 h1]
  rfl

/-- One more is added. -/
def addB (r : NmB) (x : Nm) : NmB := if r.ok then add r.n r.d x.n x.d else r
def sumB (l : List Nm) : NmB := l.foldl addB ⟨0, 1, true⟩
theorem sumB_snoc (l : List Nm) (x : Nm) : sumB (l ++ [x]) = addB (sumB l) x := by
  unfold sumB
  rw [List.foldl_append]
  rfl
theorem sumB_keep {P : NmB → Prop} (h0 : P ⟨0, 1, true⟩) (hs : ∀ r x, P r → P (addB r x)) (l : List Nm) : P (sumB l) := by
  unfold sumB
  have : ∀ (l : List Nm) r, P r → P (l.foldl addB r) := by
    intro l
    induction l with
    | nil => intro r h; exact h
    | cons x l ih => intro r h; exact ih _ (hs r x h)
  exact this l _ h0
theorem sumB_bad {l : List Nm} : (sumB l).ok = false → sumB l = badB := by
  refine sumB_keep (P := fun r => r.ok = false → r = badB) (fun h => by cases h) (fun r x hr h => ?_) l
  unfold addB at *
  split
  · rename_i hk
    rw [if_pos hk] at h
    exact add_bad h
  · rename_i hk
    rw [if_neg hk] at h
    exact hr h
theorem sumB_bd (l : List Nm) : -1000000000000 ≤ (sumB l).n ∧ (sumB l).n ≤ 1000000000000 ∧ 0 ≤ (sumB l).d ∧ (sumB l).d ≤ 1000000 := by
  refine sumB_keep (P := fun r => -1000000000000 ≤ r.n ∧ r.n ≤ 1000000000000 ∧ 0 ≤ r.d ∧ r.d ≤ 1000000) (by decide) (fun r x hr => ?_) l
  unfold addB
  split
  · exact mk_bd _ _
  · exact hr
/-- Once a sum does not fit, no longer one does. -/
theorem sumB_stays {l : List Nm} : ∀ (r : List Nm), (sumB l).ok = false → sumB (l ++ r) = badB := by
  intro r h
  have hb := sumB_bad h
  unfold sumB at *
  rw [List.foldl_append, hb]
  clear hb h
  induction r with
  | nil => rfl
  | cons x r ih => exact ih

/-- A fold's steps, by what it is. -/
def AccS.one (S : AccS) (r : NmB) : AccS := if r.ok then { S with n := r.n, d := r.d, count := S.count + 1 } else { S with full := true, v := faultF 4 }
def st1 (S : AccS) (x : Nm) : AccS := if S.full then S else S.sets (add S.n S.d x.n x.d)
def st7 (S : AccS) (x : Nm) : AccS := if S.full then S else S.one (add S.n S.d x.n x.d)
def stC (S : AccS) (_ : Nm) : AccS := if S.full then S else { S with count := S.count + 1 }
theorem st1_full {S : AccS} {x : Nm} (h : S.full = true) : st1 S x = S := if_pos h
theorem st7_full {S : AccS} {x : Nm} (h : S.full = true) : st7 S x = S := if_pos h
def accF (st : AccS → Nm → AccS) (S0 : AccS) (l : List Nm) : AccS := l.foldl st S0
theorem accF_snoc (st : AccS → Nm → AccS) (S0 : AccS) (l : List Nm) (x : Nm) : accF st S0 (l ++ [x]) = st (accF st S0 l) x := by
  unfold accF
  rw [List.foldl_append]
  rfl
theorem snocs {P : List Nm → Prop} (h0 : P []) (hs : ∀ l x, P l → P (l ++ [x])) (l : List Nm) : P l := by
  have : ∀ (r : List Nm) (l : List Nm), P l → P (l ++ r) := by
    intro r
    induction r with
    | nil => intro l h; rwa [List.append_nil]
    | cons x r ih =>
      intro l h
      have := ih (l ++ [x]) (hs l x h)
      rwa [List.append_assoc] at this
  exact this l [] h0
/-- What SUM holds. -/
theorem acc1_ok (l : List Nm) : ((sumB l).ok = true → accF st1 (acc0 1 0) l = { acc0 1 0 with n := (sumB l).n, d := (sumB l).d }) ∧ ((sumB l).ok = false → (accF st1 (acc0 1 0) l).full = true ∧ (accF st1 (acc0 1 0) l).v = faultF 4) := by
  refine snocs (P := fun l => ((sumB l).ok = true → accF st1 (acc0 1 0) l = { acc0 1 0 with n := (sumB l).n, d := (sumB l).d }) ∧ ((sumB l).ok = false → (accF st1 (acc0 1 0) l).full = true ∧ (accF st1 (acc0 1 0) l).v = faultF 4)) ⟨fun _ => rfl, fun h => (by cases h)⟩ ?_ l
  intro l x ⟨h1, h2⟩
  rw [accF_snoc, sumB_snoc]
  unfold addB
  cases hk : (sumB l).ok
  · obtain ⟨hf, hv⟩ := h2 hk
    simp only [Bool.false_eq_true, if_false]
    refine ⟨fun h => (by rw [hk] at h; cases h), fun _ => ?_⟩
    rw [st1_full hf]
    exact ⟨hf, hv⟩
  · rw [h1 hk]
    simp only [if_true]
    unfold st1 AccS.sets
    have e0 : ({ acc0 1 0 with n := (sumB l).n, d := (sumB l).d } : AccS).full = false := rfl
    rw [e0]
    simp only [Bool.false_eq_true, if_false]
    cases ha : (add (sumB l).n (sumB l).d x.n x.d).ok
    · exact ⟨fun h => (by cases h), fun _ => (by simp)⟩
    · exact ⟨fun _ => (by simp), fun h => (by cases h)⟩
/-- What AVERAGE holds. -/
theorem acc7_ok (l : List Nm) : ((sumB l).ok = true → accF st7 (acc0 7 0) l = { acc0 7 0 with n := (sumB l).n, d := (sumB l).d, count := l.length }) ∧ ((sumB l).ok = false → (accF st7 (acc0 7 0) l).full = true ∧ (accF st7 (acc0 7 0) l).v = faultF 4) := by
  refine snocs (P := fun l => ((sumB l).ok = true → accF st7 (acc0 7 0) l = { acc0 7 0 with n := (sumB l).n, d := (sumB l).d, count := l.length }) ∧ ((sumB l).ok = false → (accF st7 (acc0 7 0) l).full = true ∧ (accF st7 (acc0 7 0) l).v = faultF 4)) ⟨fun _ => rfl, fun h => (by cases h)⟩ ?_ l
  intro l x ⟨h1, h2⟩
  rw [accF_snoc, sumB_snoc]
  unfold addB
  cases hk : (sumB l).ok
  · obtain ⟨hf, hv⟩ := h2 hk
    simp only [Bool.false_eq_true, if_false]
    refine ⟨fun h => (by rw [hk] at h; cases h), fun _ => ?_⟩
    rw [st7_full hf]
    exact ⟨hf, hv⟩
  · rw [h1 hk]
    simp only [if_true]
    unfold st7 AccS.one
    have e0 : ({ acc0 7 0 with n := (sumB l).n, d := (sumB l).d, count := l.length } : AccS).full = false := rfl
    rw [e0]
    simp only [Bool.false_eq_true, if_false]
    cases ha : (add (sumB l).n (sumB l).d x.n x.d).ok
    · exact ⟨fun h => (by cases h), fun _ => (by simp)⟩
    · exact ⟨fun _ => (by simp), fun h => (by cases h)⟩
/-- What COUNT and COUNTA hold. -/
theorem accC_ok (K : Int) (l : List Nm) : accF stC (acc0 K 0) l = { acc0 K 0 with count := l.length } := by
  refine snocs (P := fun l => accF stC (acc0 K 0) l = { acc0 K 0 with count := l.length }) rfl ?_ l
  intro l x h
  rw [accF_snoc, h]
  unfold stC
  have e0 : ({ acc0 K 0 with count := (l.length : Int) } : AccS).full = false := rfl
  rw [e0]
  simp [acc0]
end Go.Proofs.YtangdbjoflnobaaGreatDoor
