/- What a fold comes to counts; once full, no call turns anything; small laws of drawn regions. -/
import Derived.Test.YtnimenpfojcehaaGreatDoorFolK
import Derived.Test.YtnimenpfojcehaaGreatDoorEach
namespace Go.Proofs.YtnimenpfojcehaaGreatDoor
open Go Go.RowKit
set_option linter.unusedSimpArgs false
set_option linter.unusedVariables false

theorem res_right {S : AccS} {m : Int} (h : OkS S m) : rightV S.resG = true := by
  unfold AccS.resG
  split
  · exact h.v
  unfold AccS.resK
  repeat' split
  all_goals first | exact right_truth _ | exact wholeF_right _ | exact h.v | exact right_fault _ | exact right_num _ _ | skip
  unfold meanG
  repeat' split
  all_goals first | exact right_fault _ | exact right_told _ _ _
theorem okS_once {S : AccS} {m : Int} (h : OkS S m) : (S.full && S.wants) = false := by
  cases hw : S.wants
  · simp
  · rw [(h.w1 hw).1]; rfl

/-- Once full, no call turns anything. -/
theorem full_fed {S : AccS} (h : S.full = true) (v : Vl) : S.fedG v = S := by unfold AccS.fedG; rw [if_pos h]
theorem full_cel {S : AccS} (h : S.full = true) (N : NmS) (v : Vl) : S.celG N v = S := by unfold AccS.celG; rw [if_pos h]
theorem full_par {S : AccS} (h : S.full = true) (v : Vl) : S.parG v = S := by unfold AccS.parG; rw [if_pos h]
section
variable {P : Program} {ops : Array Oper} {md : Region.Mode}
/-- What a region's shape allows, shown once, ahead of the cases. -/
theorem region_know {id : Nat} {Q : Exit → Act → World → Prop} {a0 : Act} {w : World} {l : List Oper} (n : Nat) (hB : eachB .any l.toArray n = true)
    (k : eachB .any l.toArray n = true → (Code.region id l.toArray true).wp P Q a0 w) : (Code.region id l.toArray true).wp P Q a0 w := k hB
/-- One operation that just puts a value. -/
theorem one_value {o : Oper} {a : Act} {w : World} {R : Value → World → Prop} (v : Value) (hw : Region.wanted o (yielded ops a.tmps) = true) (hx : (execOp a.eval o).run P w = .ok (.value v) w) (hR : R v w) : wpList P ops (OneQ o a R) [o] a w := by
  unfold wpList
  rw [if_pos hw]
  refine .inl ?_
  unfold Oper.wp
  rw [hx]
  exact ⟨v, rfl, hR⟩
end
end Go.Proofs.YtnimenpfojcehaaGreatDoor
