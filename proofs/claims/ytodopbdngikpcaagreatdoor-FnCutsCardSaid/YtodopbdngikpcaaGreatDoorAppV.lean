/- append of any slice of values to a row that is owned. -/
import Derived.Test.YtodopbdngikpcaaGreatDoorValsA
import Derived.Test.YtodopbdngikpcaaGreatDoorAppC
import Derived.Test.YtodopbdngikpcaaGreatDoorTabX
namespace Go.Proofs.YtodopbdngikpcaaGreatDoor
open Go Go.RowKit
set_option linter.unusedSimpArgs false
set_option linter.unusedVariables false

theorem run_append_owned_empty {P : Program} {w : World} (base : Nat) (t ty e : TypeId) (i : TypeInfo) (size : Nat) (ht : P.underlying t = some (.slice e)) (hi : P.info? e = some i)
    (v : Value) (n : Nat) (xs : List Value) (hown : w.ownsRow base e size v n xs) (la : Option Addr) (lc : Nat) :
    (Builtin.append_ #[t, t] ty #[v, .slice la 0 lc]).run P w = .ok v w := by
  rcases hown.2 with ⟨rfl, rfl⟩ | ⟨g, cap, cur, rfl, _, _, hnc, _⟩
  · cases la <;> simp [Builtin.append_, run_underlying ht, sizeOf, typeInfo, hi, Builtin.lenOf, Builtin.firstCells, loadCells, loadCellsFrom, Result.andThen]
  · cases la <;> simp [Builtin.append_, run_underlying ht, sizeOf, typeInfo, hi, Builtin.lenOf, Builtin.firstCells, hnc, storeCells, loadCells, loadCellsFrom, Result.andThen]
theorem wpList_append_own_empty {P : Program} {w : World} {ops : Array Oper} {rest : List Oper} {o : Oper} {a : Act} {Q : Exit → Act → World → Prop} (hgd : o.guard = none) (s x : Operand) (t : TypeId)
    (ho : o.op = .call { callee := .builtin .append, args := #[s, x], argTypes := #[t, t] })
    (base : Nat) (e : TypeId) (i : TypeInfo) (size : Nat) (ht : P.underlying t = some (.slice e)) (hi : P.info? e = some i)
    (v : Value) (n : Nat) (xs : List Value) (hs : a.eval s = v) (hown : w.ownsRow base e size v n xs) (la : Option Addr) (lc : Nat) (hx : a.eval x = .slice la 0 lc)
    (h : wpList P ops Q rest (a.put o.dst v) w) : wpList P ops Q (o :: rest) a w := by
  refine wpList_plain hgd fun K hK => ?_
  have hrun := run_append_owned_empty (P := P) (w := w) base t o.type e i size ht hi v n xs hown la lc
  unfold Oper.wp
  simp [execOp, ho, resolve, invoke, builtin, hs, hx, hrun, Result.andThen]
  exact hK _ _ h
theorem Vl.six (v : Vl) : v.cells.length = 6 := rfl
theorem vals_one (vs : List Vl) : ∀ u ∈ vs.flatMap Vl.cells, u.oneCell' = true := by
  intro u hu
  obtain ⟨v, _, h⟩ := List.mem_flatMap.1 hu
  exact Vl.one v u h
theorem vals_news {w : World} {b off : Nat} {vs : List Vl} (h : ValRow w b off vs) : ∀ j u, (vs.flatMap Vl.cells)[j]? = some u → w.cell? ((⟨b, off, none⟩ : Addr).add j) = some u := by
  intro j u hu
  have hlen := flat6_len Vl.cells Vl.six vs
  have hj : j < vs.length * 6 := by
    rcases Nat.lt_or_ge j (vs.length * 6) with h' | h'
    · exact h'
    · rw [List.getElem?_eq_none (by rw [hlen]; exact h')] at hu; cases hu
  have hk : j / 6 < vs.length := by omega
  have e : j = j / 6 * 6 + j % 6 := by omega
  have hm : j % 6 < 6 := by omega
  rw [e, flat6 Vl.cells Vl.six vs (j / 6) (j % 6) hk hm] at hu
  obtain ⟨c0, c1, c2, c3, c4, c5⟩ := h (j / 6) vs[j / 6] (List.getElem?_eq_getElem hk)
  have ea : ((⟨b, off, none⟩ : Addr).add j) = ⟨b, off + j / 6 * 6 + j % 6, none⟩ := by
    rw [show off + j / 6 * 6 + j % 6 = off + j by omega]
    simp [Addr.add]
  rw [ea]
  generalize j % 6 = r at hu hm ⊢
  match r, hm, hu with
  | 0, _, hu => rw [← hu]; exact c0
  | 1, _, hu => rw [← hu]; exact c1
  | 2, _, hu => rw [← hu]; exact c2
  | 3, _, hu => rw [← hu]; exact c3
  | 4, _, hu => rw [← hu]; exact c4
  | 5, _, hu => rw [← hu]; exact c5
  | n + 6, h', _ => omega
/-- 'append(v, xs...)' at the operation. -/
theorem wpList_append_vals {w : World} {ops : Array Oper} {rest : List Oper} {o : Oper} {a : Act} {Q : Exit → Act → World → Prop} (hgd : o.guard = none) (s x : Operand)
    (ho : o.op = .call { callee := .builtin .append, args := #[s, x], argTypes := #[22, 22] })
    (base : Nat) (v : Value) (n : Nat) (xs : List Value) (hs : a.eval s = v) (hown : w.ownsRow base 26 6 v n xs)
    (la : Option Addr) (m lc : Nat) (vs : List Vl) (hm : vs.length = m) (hx : a.eval x = .slice la m lc) (hc : ValAt w la vs)
    (hle : (n + m) * 56 ≤ 140737488355328) (hbase : base ≤ w.heap.size)
    (h : ∀ v' w', w'.ownsRow base 26 6 v' (n + m) (xs ++ vs.flatMap Vl.cells) → w.grownBy w' v.ownBlock → wpList Tryz.prog ops Q rest (a.put o.dst v') w') : wpList Tryz.prog ops Q (o :: rest) a w := by
  obtain ⟨i0, hi, hzv, hsz, hby⟩ := zero_val
  subst hm
  cases hms : vs with
  | nil =>
    rw [hms] at hx
    refine wpList_append_own_empty hgd s x _ ho base 26 i0 6 Tryz.underlying22 hi v n xs hs hown la lc hx ?_
    exact h v w (by rw [hms]; simpa using hown) ⟨rfl, rfl, rfl, Nat.le_refl _, fun _ _ _ => rfl⟩
  | cons y r =>
    have hpos : 0 < vs.length := by rw [hms]; simp
    obtain ⟨b, off, rfl, hb, hrow⟩ := hc hpos
    refine wpList_append_lies _ hgd s x 22 ho base 26 i0 _ 6 56 Tryz.underlying22 hi hzv hsz hby rfl (by decide) v n xs hs hown ⟨b, off, none⟩ vs.length lc (vs.flatMap Vl.cells) hx (flat6_len Vl.cells Vl.six vs) (vals_news hrow) (vals_one vs) hpos (by unfold maxLen; omega) hle hbase _ rfl ?_
    intro g' cap' w' h1 h2 _ _
    exact h _ w' h1 h2
end Go.Proofs.YtodopbdngikpcaaGreatDoor
