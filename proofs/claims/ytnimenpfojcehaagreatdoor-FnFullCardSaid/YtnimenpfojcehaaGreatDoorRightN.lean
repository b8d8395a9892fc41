/- Plain laws: what Make and Read answer counts as a number, where it is one. -/
import Derived.Test.YtnimenpfojcehaaGreatDoorBase
namespace Go.Proofs.YtnimenpfojcehaaGreatDoor
open Go Go.RowKit
set_option linter.unusedSimpArgs false
set_option linter.unusedVariables false

/-! results that count are right -/
theorem right_fault (c : Int) : rightV (faultF c) = true := by
  unfold faultF
  split
  · decide
  · unfold rightV faultV
    simp [veq_true.2]
    omega
theorem right_num (n d : Int) : rightV (numF n d) = true := by
  unfold numF
  rw [rightV_num]
  exact tk_right n d
theorem right_told (n d : Int) (ok : Bool) : rightV (toldF n d ok) = true := by
  unfold toldF
  split
  · exact right_num n d
  · decide
theorem right_text (t : ByteArray) : rightV (textF t) = true := by
  unfold textF
  split
  · rename_i hp
    split
    · decide
    · rename_i hs
      unfold rightV textV
      simp [veq_true.2, hp]
      omega
  · decide
theorem right_truth (b : Bool) : rightV (truthV b) = true := by
  unfold rightV truthV
  simp [veq_true.2]
theorem mk_ok_right {n d : Int} (h : (mk n d).ok = true) : rightN (mk n d).n (mk n d).d = true := by
  unfold mk at h ⊢
  by_cases h0 : d = 0
  · rw [if_pos h0] at h; cases h
  rw [if_neg h0] at h ⊢
  have hg : 0 < Nat.gcd n.natAbs d.natAbs := Nat.gcd_pos_of_pos_right _ (by omega)
  have hc := Nat.gcd_div_gcd_div_gcd_of_pos_right (n := n.natAbs) (m := d.natAbs) (by omega)
  have hY : 0 < d.natAbs / Nat.gcd n.natAbs d.natAbs := Nat.div_pos (Nat.gcd_le_right _ (by omega)) hg
  generalize n.natAbs / Nat.gcd n.natAbs d.natAbs = X at *
  generalize d.natAbs / Nat.gcd n.natAbs d.natAbs = Y at *
  unfold signed at h ⊢
  by_cases ho : 1000000000000 < X ∨ 1000000 < Y
  · rw [if_pos ho] at h; cases h
  rw [if_neg ho]
  rw [rightN_iff]
  refine ⟨?_, ?_, by show 1 ≤ (Y : Int); omega, by show (Y : Int) ≤ 1000000; omega, ?_⟩
  · simp only; split <;> omega
  · simp only; split <;> omega
  · simp only
    split
    · simpa using hc
    · simpa using hc
theorem readN_right {l : List UInt8} (h : (readN l).ok = true) : rightN (readN l).n (readN l).d = true := by
  unfold readN readS at h ⊢
  generalize Lib.hasPrefix l [45] = m at *
  generalize digits (Lib.trimPrefix l [45]) = D at *
  generalize D.rest = r at *
  generalize D.ok = ok at *
  generalize D.n = k at *
  clear D
  cases r with
  | nil =>
    simp only [readP] at h ⊢
    cases ok
    · simp [badB] at h
    · simp only [if_true] at h ⊢; exact mk_ok_right h
  | cons c r =>
    simp only [readP] at h ⊢
    by_cases a1 : ok = false ∨ (digits r).ok = false ∨ (digits r).rest ≠ []
    · rw [if_pos a1] at h; simp [badB] at h
    rw [if_neg a1] at h ⊢
    by_cases a2 : c.toNat = 47
    · rw [if_pos a2] at h ⊢; exact mk_ok_right h
    rw [if_neg a2] at h ⊢
    by_cases a3 : c.toNat ≠ 46 ∨ 6 < r.length ∨ 1000000000000 < k
    · rw [if_pos a3] at h; simp [badB] at h
    rw [if_neg a3] at h ⊢
    exact mk_ok_right h
end Go.Proofs.YtnimenpfojcehaaGreatDoor
