/- '==' of two rows of the table; rows of six cells that are marked one by one. -/
import Derived.Test.YtangdbjoflnobaaGreatDoorTabC
import Derived.Test.YtangdbjoflnobaaGreatDoorValA
namespace Go.Proofs.YtangdbjoflnobaaGreatDoor
open Go Go.RowKit
set_option linter.unusedSimpArgs false
set_option linter.unusedVariables false

theorem eqS (dp : Nat) (w : World) (a b : Int) (c : ByteArray) (d e : Int) (f : ByteArray) (a' b' : Int) (c' : ByteArray) (d' e' : Int) (f' : ByteArray) :
    (Op.equalIn (dp + 3) 23 (.agg #[.int .i64 a, .int .i64 b, .string c, .int .i64 d, .int .i64 e, .string f]) (.agg #[.int .i64 a', .int .i64 b', .string c', .int .i64 d', .int .i64 e', .string f'])).run Tryz.prog w
      = .ok (a == a' && (b == b' && (c.toList == c'.toList && (d == d' && (e == e' && (f.toList == f'.toList && true)))))) w := by
  rw [run_equalIn_struct (P := Tryz.prog) w (dp + 2) 23 _ _ (by simp [Program.fieldsOf, Tryz.underlying23]) (by kernel_rfl)]
  simp only [Program.fieldsOf, Tryz.underlying23]
  exact eqF (by decide) (by go_simp; rfl) (by go_simp; rfl) (by go_simp) (eqF (by decide) (by go_simp; rfl) (by go_simp; rfl) (by go_simp) (eqF (by decide) (by go_simp; rfl) (by go_simp; rfl) (by go_simp)
    (eqF (by decide) (by go_simp; rfl) (by go_simp; rfl) (by go_simp) (eqF (by decide) (by go_simp; rfl) (by go_simp; rfl) (by go_simp) (eqF (by decide) (by go_simp; rfl) (by go_simp; rfl) (by go_simp) eqF0)))))
/-- A row is itself. -/
@[go_sem high] theorem run_eqS (w : World) (a b : Int) (c : ByteArray) (d e : Int) (f : ByteArray) :
    (binOp .eql 23 (.agg #[.int .i64 a, .int .i64 b, .string c, .int .i64 d, .int .i64 e, .string f]) (.agg #[.int .i64 a, .int .i64 b, .string c, .int .i64 d, .int .i64 e, .string f])).run Tryz.prog w = .ok (.bool true) w := by
  simp only [binOp, Op.equal, Op.maxDepth]
  simp [eqS]
@[go_sem high] theorem run_neS (w : World) (a b : Int) (c : ByteArray) (d e : Int) (f : ByteArray) :
    (binOp .neq 23 (.agg #[.int .i64 a, .int .i64 b, .string c, .int .i64 d, .int .i64 e, .string f]) (.agg #[.int .i64 a, .int .i64 b, .string c, .int .i64 d, .int .i64 e, .string f])).run Tryz.prog w = .ok (.bool false) w := by
  simp only [binOp, Op.equal, Op.maxDepth]
  simp [eqS]

theorem flat6_set {α : Type} (c : α → List Value) (hc : ∀ x, (c x).length = 6) (v : Value) (y : α) : ∀ (l : List α) (k : Nat) (hk : k < l.length), c y = (c l[k]).set 0 v → (l.flatMap c).set (k * 6) v = (l.set k y).flatMap c := by
  intro l
  induction l with
  | nil => intro k hk; simp at hk
  | cons x l ih =>
    intro k hk hy
    cases k with
    | zero =>
      simp only [List.getElem_cons_zero] at hy
      simp only [List.flatMap_cons, List.set_cons_zero, Nat.zero_mul, hy]
      rw [List.set_append_left _ _ (by rw [hc]; omega)]
    | succ k =>
      simp only [List.getElem_cons_succ] at hy
      simp only [List.flatMap_cons, List.set_cons_succ]
      rw [List.set_append_right _ _ (by rw [hc]; omega), hc, show (k + 1) * 6 - 6 = k * 6 by omega, ih k (by simpa using hk) hy]
/-- A table with its first k numbers marked. -/
def markedL (L : List SigS) (k : Nat) : List SigS := L.mapIdx fun i s => if i < k then { s with id := 1000 + (i : Int) } else s
theorem markedL_len (L : List SigS) (k : Nat) : (markedL L k).length = L.length := by unfold markedL; rw [List.length_mapIdx]
theorem markedL_at {L : List SigS} {k j : Nat} {S : SigS} (h : L[j]? = some S) : (markedL L k)[j]? = some (if j < k then { S with id := 1000 + (j : Int) } else S) := by
  unfold markedL
  rw [List.getElem?_mapIdx, h]
  rfl
theorem markedL_zero (L : List SigS) : markedL L 0 = L := by
  unfold markedL
  apply List.ext_getElem?
  intro j
  rw [List.getElem?_mapIdx]
  cases L[j]? <;> simp
theorem markedL_step {L : List SigS} {k : Nat} (hk : k < L.length) {S : SigS} (hS : L[k]? = some S) : ((markedL L k).flatMap SigS.cells).set (k * 6) (.int .i64 (1000 + (k : Int))) = (markedL L (k + 1)).flatMap SigS.cells := by
  have hl : k < (markedL L k).length := by rw [markedL_len]; exact hk
  have hm := markedL_at (k := k) hS
  rw [if_neg (by omega), List.getElem?_eq_getElem hl] at hm
  have e := Option.some.inj hm
  rw [flat6_set SigS.cells SigS.len (.int .i64 (1000 + (k : Int))) { S with id := 1000 + (k : Int) } (markedL L k) k hl (by rw [e]; rfl)]
  congr 1
  apply List.ext_getElem?
  intro j
  rw [List.getElem?_set]
  by_cases hj : k = j
  · subst hj
    rw [if_pos rfl, if_pos hl]
    rw [markedL_at hS, if_pos (by omega)]
  · rw [if_neg hj]
    cases hT : L[j]? with
    | none =>
      unfold markedL
      rw [List.getElem?_mapIdx, List.getElem?_mapIdx, hT]
      rfl
    | some T =>
      rw [markedL_at hT, markedL_at hT]
      by_cases h : j < k
      · rw [if_pos h, if_pos (by omega)]
      · rw [if_neg h, if_neg (by omega)]
def marked (k : Nat) : List SigS := markedL tableL k
theorem marked_len (k : Nat) : (marked k).length = 49 := (markedL_len _ _).trans tableL_len
theorem row_cell {w : World} {B g cap : Nat} {L : List SigS} (hL : L.length = 49) (h : w.ownsRow B 23 6 (.slice (some ⟨g, 0, none⟩) 49 cap) 49 (L.flatMap SigS.cells)) {k : Nat} (hk : k < 49) {S : SigS} (hS : L[k]? = some S) :
    w.cell? ⟨g, k * 6, none⟩ = some (.int .i64 S.id) ∧ w.cell? ⟨g, k * 6 + 1, none⟩ = some (.int .i64 S.cl) ∧ w.cell? ⟨g, k * 6 + 2, none⟩ = some (.string S.name) ∧
    w.cell? ⟨g, k * 6 + 3, none⟩ = some (.int .i64 S.least) ∧ w.cell? ⟨g, k * 6 + 4, none⟩ = some (.int .i64 S.most) ∧ w.cell? ⟨g, k * 6 + 5, none⟩ = some (.string S.params) := by
  have hl : k < L.length := by rw [hL]; exact hk
  have e : L[k] = S := by rw [List.getElem?_eq_getElem hl] at hS; exact Option.some.inj hS
  have key : ∀ j, j < 6 → w.cell? ⟨g, k * 6 + j, none⟩ = (SigS.cells S)[j]? := fun j hj => by
    rw [h.cellAt (k * 6 + j) (by omega), flat6 SigS.cells SigS.len _ _ _ hl hj, e]
  exact ⟨key 0 (by decide), key 1 (by decide), key 2 (by decide), key 3 (by decide), key 4 (by decide), key 5 (by decide)⟩
end Go.Proofs.YtangdbjoflnobaaGreatDoor
