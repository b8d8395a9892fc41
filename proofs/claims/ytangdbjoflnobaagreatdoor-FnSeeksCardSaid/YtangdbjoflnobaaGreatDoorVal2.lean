/- Plain values, second part: what AsNumber, AsText, AsTruth, Cmp, Same answer; no program in sight. -/
import Derived.Test.YtangdbjoflnobaaGreatDoorVal
import Derived.Test.YtangdbjoflnobaaGreatDoorStr2
namespace Go.Proofs.YtangdbjoflnobaaGreatDoor
open Go Go.RowKit

theorem veq_true {x y : Vl} : veq x y = true ↔ x = y := by unfold veq; simp
theorem rightV_num {n d : Int} : rightV (numV n d) = rightN n d := by
  unfold rightV numV
  simp [veq_true.2]
theorem tkV_right (x : Vl) : rightV (tkV x) = true := by
  unfold tkV
  by_cases h : rightV x = true
  · rw [if_pos h]; exact h
  · rw [if_neg h]; decide
theorem tkV_of {x : Vl} (h : rightV x = true) : tkV x = x := by unfold tkV; rw [if_pos h]
theorem tkV_tkV (x : Vl) : tkV (tkV x) = tkV x := tkV_of (tkV_right x)
theorem tkV_in {x : Vl} (h : x.In) : (tkV x).In := by
  unfold tkV
  by_cases hr : rightV x = true
  · rw [if_pos hr]; exact h
  · rw [if_neg hr]; exact ⟨⟨by decide, by decide⟩, ⟨by decide, by decide⟩, ⟨by decide, by decide⟩, ⟨by decide, by decide⟩, by decide⟩
/-- The five makes of a right value. -/
theorem rightV_cases {x : Vl} (h : rightV x = true) : x = blankV ∨ (rightN x.n x.d = true ∧ x = numV x.n x.d) ∨ (x.t.size ≤ 256 ∧ plainT x.t = true ∧ x = textV x.t) ∨ x = truthV x.b ∨ (1 ≤ x.f ∧ x.f ≤ 8 ∧ x = faultV x.f) := by
  unfold rightV at h
  split at h
  · exact Or.inl (veq_true.1 h)
  split at h
  · rw [Bool.and_eq_true] at h; exact Or.inr (Or.inl ⟨h.1, veq_true.1 h.2⟩)
  split at h
  · simp only [Bool.and_eq_true, decide_eq_true_eq] at h; exact Or.inr (Or.inr (Or.inl ⟨h.1.1, h.1.2, veq_true.1 h.2⟩))
  split at h
  · exact Or.inr (Or.inr (Or.inr (Or.inl (veq_true.1 h))))
  split at h
  · simp only [Bool.and_eq_true, decide_eq_true_eq] at h; exact Or.inr (Or.inr (Or.inr (Or.inr ⟨h.1.1, h.1.2, veq_true.1 h.2⟩)))
  · cases h
theorem rightV_k {x : Vl} (h : rightV x = true) : x.k = 0 ∨ x.k = 1 ∨ x.k = 2 ∨ x.k = 3 ∨ x.k = 4 := by
  rcases rightV_cases h with h | ⟨_, h⟩ | ⟨_, _, h⟩ | h | ⟨_, _, h⟩ <;> rw [h] <;> simp [blankV, numV, textV, truthV, faultV]
theorem right_in {x : Vl} (h : rightV x = true) : x.In := by
  have z : I64 0 := ⟨by decide, by decide⟩
  rcases rightV_cases h with h | ⟨h1, h⟩ | ⟨h1, _, h⟩ | h | ⟨h1, h2, h⟩
  · rw [h]; exact ⟨z, z, z, z, by decide⟩
  · have := rightN_iff.1 h1
    rw [h]; exact ⟨⟨by simp [numV], by simp [numV]⟩, ⟨by simp [numV]; omega, by simp [numV]; omega⟩, ⟨by simp [numV]; omega, by simp [numV]; omega⟩, z, by simp [numV, noT, ByteArray.size]⟩
  · rw [h]; exact ⟨⟨by simp [textV], by simp [textV]⟩, z, z, z, by simp [textV]; omega⟩
  · rw [h]; exact ⟨⟨by simp [truthV], by simp [truthV]⟩, z, z, z, by simp [truthV, noT, ByteArray.size]⟩
  · rw [h]; exact ⟨⟨by simp [faultV], by simp [faultV]⟩, z, z, ⟨by simp [faultV]; omega, by simp [faultV]; omega⟩, by simp [faultV, noT, ByteArray.size]⟩

structure AN where
  n : Int
  d : Int
  e : Vl
def asNumT (v : Vl) : AN :=
  if v.k = 1 then ⟨v.n, v.d, blankV⟩ else if v.k = 3 then (if v.b then ⟨1, 1, blankV⟩ else ⟨0, 1, blankV⟩) else if v.k = 0 then ⟨0, 1, blankV⟩
  else if v.k = 2 then (if (readN v.t.data.toList).ok then ⟨(readN v.t.data.toList).n, (readN v.t.data.toList).d, blankV⟩ else ⟨0, 0, faultV 2⟩) else ⟨0, 0, v⟩
def asNum (x : Vl) : AN := asNumT (tkV x)
structure AB where
  b : Bool
  e : Vl
def asTruthT (v : Vl) : AB :=
  if v.k = 4 then ⟨false, v⟩ else if v.k = 1 then ⟨v.n != 0, blankV⟩
  else if v.k = 2 then (if v.t = wordT true then ⟨true, blankV⟩ else if v.t = wordT false then ⟨false, blankV⟩ else ⟨false, faultV 2⟩) else ⟨v.b, blankV⟩
def asTruth (x : Vl) : AB := asTruthT (tkV x)
end Go.Proofs.YtangdbjoflnobaaGreatDoor
