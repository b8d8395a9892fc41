/- What Apply answers of numbers and texts, case by case; no program in sight. -/
import Derived.Test.YtglngfaagjgpjaaGreatDoorBx14
import Derived.Test.YtglngfaagjgpjaaGreatDoorBx5
namespace Go.Proofs.YtglngfaagjgpjaaGreatDoor
open Go Go.RowKit
set_option linter.unusedSimpArgs false
set_option linter.unusedVariables false

theorem reck_bad {id : Int} {vs : List Vl} {x : Vl} (h : badNum vs = some x) : reckR id vs = x := by unfold reckR; rw [h]
theorem reck_ok1 {id : Int} {a : Vl} (h : badNum [a] = none) : reckR id [a] = ofNumbersP id (if id = 43 then [nmOf a, ⟨0, 1⟩] else [nmOf a]) := by
  unfold reckR; rw [h]
  by_cases h3 : id = 43 <;> simp [h3]
theorem reck_ok2 {id : Int} {a b : Vl} (h : badNum [a, b] = none) : reckR id [a, b] = ofNumbersP id [nmOf a, nmOf b] := by
  unfold reckR; rw [h]
  simp
theorem badNum_k : ∀ {vs : List Vl} {x : Vl}, badNum vs = some x → x.k = 4
  | [], x, h => by cases h
  | v :: vs, x, h => by
    unfold badNum at h
    split at h
    · rename_i hk
      rw [← Option.some.inj h]; exact hk
    · exact badNum_k h
theorem badNum_right : ∀ {vs : List Vl}, badNum vs = none → ∀ v ∈ vs, rightN (nmOf v).n (nmOf v).d = true
  | [], _, v, hv => by cases hv
  | a :: vs, h, v, hv => by
    unfold badNum at h
    split at h
    · cases h
    · rename_i hk
      rcases List.mem_cons.1 hv with rfl | hv
      · exact asNum_right hk
      · exact badNum_right h v hv
theorem nmOf_i64 (v : Vl) : I64 (nmOf v).n ∧ I64 (nmOf v).d := asNum_i64 v
theorem whole01 : wholeB 0 1 = true ∧ wholeN 0 1 = 0 := by decide
theorem wholeF_small {n : Int} (h0 : -1000000000000 ≤ n) (h1 : n ≤ 1000000000000) : wholeF n = numF n 1 := by
  unfold wholeF
  rw [mk_one h0 h1]; rfl
end Go.Proofs.YtglngfaagjgpjaaGreatDoor
