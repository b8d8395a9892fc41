/- Rows of numbers as values, of numbers as pairs: what their blocks hold; a drawn region's fold. -/
import Derived.Test.YtangdbjoflnobaaGreatDoorFoldG
import Derived.Test.YtangdbjoflnobaaGreatDoorNumH
import Derived.Test.YtangdbjoflnobaaGreatDoorTabC
import Derived.Test.YtangdbjoflnobaaGreatDoorAppC
import Derived.Test.YtangdbjoflnobaaGreatDoorAccI
namespace Go.Proofs.YtangdbjoflnobaaGreatDoor
open Go Go.RowKit
set_option linter.unusedSimpArgs false
set_option linter.unusedVariables false

def Nm.cells (x : Nm) : List Value := [.int .i64 1, .int .i64 x.n, .int .i64 x.d, .string ⟨#[]⟩, .bool false, .int .i64 0]
theorem Nm.len (x : Nm) : x.cells.length = 6 := rfl
theorem Nm.one (x : Nm) : ∀ u ∈ x.cells, u.oneCell' = true := by
  intro u hu
  simp only [Nm.cells, List.mem_cons, List.mem_nil_iff, or_false] at hu
  rcases hu with rfl | rfl | rfl | rfl | rfl | rfl <;> rfl
/-- The right numbers among the first k. -/
def rights (ls : List Nm) (k : Nat) : List Nm := (ls.take k).filter fun x => rightN x.n x.d
theorem rights_step {ls : List Nm} {k : Nat} {x : Nm} (h : ls[k]? = some x) : rights ls (k + 1) = if rightN x.n x.d then rights ls k ++ [x] else rights ls k := by
  unfold rights
  rw [List.take_add_one, h, List.filter_append]
  cases hr : rightN x.n x.d <;> simp [hr]
theorem rights_len (ls : List Nm) (k : Nat) : (rights ls k).length ≤ k := by
  unfold rights
  have := List.length_filter_le (fun x : Nm => rightN x.n x.d) (ls.take k)
  rw [List.length_take] at this
  omega
theorem rights_ok (ls : List Nm) (k : Nat) : ∀ x ∈ rights ls k, RtN x := by
  intro x hx
  unfold rights at hx
  exact (List.mem_filter.1 hx).2
theorem rights_nil (ls : List Nm) : rights ls 0 = [] := rfl
theorem numRow_of {w : World} {B g cap : Nat} {L : List Nm} (h : w.ownsRow B 35 6 (.slice (some ⟨g, 0, none⟩) L.length cap) L.length (L.flatMap Nm.cells)) : NumRow w g L := by
  intro k x hx
  have hl : k < L.length := by
    rcases Nat.lt_or_ge k L.length with h | h
    · exact h
    · rw [List.getElem?_eq_none h] at hx; cases hx
  have e : L[k] = x := by rw [List.getElem?_eq_getElem hl] at hx; exact Option.some.inj hx
  have key : ∀ j, j < 6 → w.cell? ⟨g, k * 6 + j, none⟩ = (Nm.cells x)[j]? := fun j hj => by
    rw [h.cellAt (k * 6 + j) (by omega), flat6 Nm.cells Nm.len _ _ _ hl hj, e]
  exact ⟨key 0 (by decide), key 1 (by decide), key 2 (by decide), key 3 (by decide), key 4 (by decide), key 5 (by decide)⟩


/-! numbers as pairs -/
def Nm.pair (x : Nm) : List Value := [.int .i64 x.n, .int .i64 x.d]
theorem Nm.pair_len (x : Nm) : x.pair.length = 2 := rfl
theorem Nm.pair_one (x : Nm) : ∀ u ∈ x.pair, u.oneCell' = true := by
  intro u hu
  simp only [Nm.pair, List.mem_cons, List.mem_nil_iff, or_false] at hu
  rcases hu with rfl | rfl <;> rfl
theorem flat2 {α : Type} (c : α → List Value) (hc : ∀ x, (c x).length = 2) : ∀ (l : List α) (k j : Nat) (hk : k < l.length), j < 2 → (l.flatMap c)[k * 2 + j]? = (c l[k])[j]? := by
  intro l
  induction l with
  | nil => intro k j hk; simp at hk
  | cons x l ih =>
    intro k j hk hj
    rw [List.flatMap_cons]
    cases k with
    | zero => rw [List.getElem?_append_left (by rw [hc]; omega)]; simp
    | succ k =>
      rw [List.getElem?_append_right (by rw [hc]; omega), hc]
      have := ih k j (by simpa using hk) hj
      rw [show (k + 1) * 2 + j - 2 = k * 2 + j by omega, this]
      rfl
theorem pairRow_of {w : World} {B g cap : Nat} {L : List Nm} (h : w.ownsRow B 33 2 (.slice (some ⟨g, 0, none⟩) L.length cap) L.length (L.flatMap Nm.pair)) : PairRow w g L := by
  intro k x hx
  have hl : k < L.length := by
    rcases Nat.lt_or_ge k L.length with h | h
    · exact h
    · rw [List.getElem?_eq_none h] at hx; cases hx
  have e : L[k] = x := by rw [List.getElem?_eq_getElem hl] at hx; exact Option.some.inj hx
  have key : ∀ j, j < 2 → w.cell? ⟨g, k * 2 + j, none⟩ = (Nm.pair x)[j]? := fun j hj => by
    rw [h.cellAt (k * 2 + j) (by omega), flat2 Nm.pair Nm.pair_len _ _ _ hl hj, e]
  exact ⟨key 0 (by decide), key 1 (by decide)⟩
theorem zero_num : ∃ i, Tryz.prog.info? 33 = some i ∧ i.zero = some (.agg #[.int .i64 0, .int .i64 0]) ∧ i.size = 2 ∧ i.bytes = 16 := by
  have h : (Tryz.prog.info? 33).map (fun i => (i.zero, i.size, i.bytes)) = some (some (.agg #[.int .i64 0, .int .i64 0]), 2, 16) := by kernel_rfl
  cases hi : Tryz.prog.info? 33 with
  | none => rw [hi] at h; cases h
  | some i => rw [hi] at h; simp only [Option.map_some, Option.some.injEq, Prod.mk.injEq] at h; exact ⟨i, rfl, h.1, h.2.1, h.2.2⟩
/-- Two rows of elements of two types lie apart. -/
theorem own_apart {w : World} {B B' e e' z z' n n' : Nat} {v v' : Value} {xs xs' : List Value} (h : w.ownsRow B e z v n xs) (h' : w.ownsRow B' e' z' v' n' xs') (hne : e ≠ e') : v.ownBlock = none ∨ v.ownBlock ≠ v'.ownBlock := by
  rcases h.2 with ⟨rfl, _⟩ | ⟨g, cap, cur, rfl, _, hgg, _⟩
  · exact .inl rfl
  · rcases h'.2 with ⟨rfl, _⟩ | ⟨g', cap', cur', rfl, _, hgg', _⟩
    · exact .inr (by simp [Value.ownBlock])
    · refine .inr fun he => ?_
      simp only [Value.ownBlock, Option.some.injEq] at he
      subst he
      rw [hgg] at hgg'
      simp only [Option.some.injEq, Obj.cells.injEq] at hgg'
      exact hne hgg'.2.1
/-- What stands in a slice of numbers as values. -/
def RowAt (w : World) (a : Option Addr) (ms : List Nm) : Prop := 0 < ms.length → ∃ g, a = some ⟨g, 0, none⟩ ∧ g < w.heap.size ∧ NumRow w g ms
theorem RowAt.below {w w1 : World} {a : Option Addr} {ms : List Nm} (h : RowAt w a ms) (hb : Below w.heap.size w w1) : RowAt w1 a ms := by
  intro h0
  obtain ⟨g, e, hg, hr⟩ := h h0
  exact ⟨g, e, lcs hb g hg, hr.below hg hb⟩
def PairAt (w : World) (a : Option Addr) (ms : List Nm) : Prop := 0 < ms.length → ∃ g, a = some ⟨g, 0, none⟩ ∧ g < w.heap.size ∧ PairRow w g ms
theorem rowAt_of {w : World} {B n : Nat} {v : Value} {ms : List Nm} (h : w.ownsRow B 35 6 v n (ms.flatMap Nm.cells)) (hn : n = ms.length) : ∃ a cap, v = .slice a ms.length cap ∧ RowAt w a ms := by
  subst hn
  have h2 := h
  rcases h.2 with ⟨rfl, h0⟩ | ⟨g, cap, cur, rfl, _, hgg, _⟩
  · exact ⟨none, 0, by rw [h0], fun hp => by omega⟩
  · exact ⟨_, cap, rfl, fun _ => ⟨g, rfl, (Array.getElem?_eq_some_iff.1 hgg).1, numRow_of h2⟩⟩
theorem pairAt_of {w : World} {B n : Nat} {v : Value} {ms : List Nm} (h : w.ownsRow B 33 2 v n (ms.flatMap Nm.pair)) (hn : n = ms.length) : ∃ a cap, v = .slice a ms.length cap ∧ PairAt w a ms := by
  subst hn
  have h2 := h
  rcases h.2 with ⟨rfl, h0⟩ | ⟨g, cap, cur, rfl, _, hgg, _⟩
  · exact ⟨none, 0, by rw [h0], fun hp => by omega⟩
  · exact ⟨_, cap, rfl, fun _ => ⟨g, rfl, (Array.getElem?_eq_some_iff.1 hgg).1, pairRow_of h2⟩⟩
def vArr (v : Vl) : Array Value := #[.int .i64 v.k, .int .i64 v.n, .int .i64 v.d, .string v.t, .bool v.b, .int .i64 v.f]
theorem Blk.v6 {w : World} {b : Nat} {v : Vl} {t : TypeId} (h : Blk w b (vArr v) t) : w.cell? ⟨b, 0, none⟩ = some (.int .i64 v.k) ∧ w.cell? ⟨b, 1, none⟩ = some (.int .i64 v.n) ∧ w.cell? ⟨b, 2, none⟩ = some (.int .i64 v.d) ∧ w.cell? ⟨b, 3, none⟩ = some (.string v.t) ∧ w.cell? ⟨b, 4, none⟩ = some (.bool v.b) ∧ w.cell? ⟨b, 5, none⟩ = some (.int .i64 v.f) :=
  ⟨h.cell 0, h.cell 1, h.cell 2, h.cell 3, h.cell 4, h.cell 5⟩
/-- A pointer to a fold. -/
def AccAt (S : AccS) (kd : Value) (v : Value) (w : World) : Prop := ∃ p, v = .pointer (some ⟨p, 0, none⟩) ∧ Blk w p (accArr S kd) 104
theorem AccAt.below {S : AccS} {kd v : Value} {w w1 : World} (h : AccAt S kd v w) (hb : Below w.heap.size w w1) : AccAt S kd v w1 := by
  obtain ⟨p, e, h⟩ := h
  exact ⟨p, e, h.below hb⟩
end Go.Proofs.YtangdbjoflnobaaGreatDoor
