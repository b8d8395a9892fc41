/- Rows of values of any kind; the law's texts; an append of a row of numbers; new blocks in a drawn region. -/
import Derived.Test.YtangdbjoflnobaaGreatDoorFoldJ
import Derived.Test.YtangdbjoflnobaaGreatDoorEach
import Derived.Laws.AppendOwnNone
import Derived.WideShapes
namespace Go.Proofs.YtangdbjoflnobaaGreatDoor
open Go Go.RowKit
set_option linter.unusedSimpArgs false
set_option linter.unusedVariables false

/-- A row of values, six cells each. -/
def ValRow (w : World) (b off : Nat) (vs : List Vl) : Prop := ∀ k v, vs[k]? = some v →
  w.cell? ⟨b, off + k * 6, none⟩ = some (.int .i64 v.k) ∧ w.cell? ⟨b, off + k * 6 + 1, none⟩ = some (.int .i64 v.n) ∧ w.cell? ⟨b, off + k * 6 + 2, none⟩ = some (.int .i64 v.d) ∧
  w.cell? ⟨b, off + k * 6 + 3, none⟩ = some (.string v.t) ∧ w.cell? ⟨b, off + k * 6 + 4, none⟩ = some (.bool v.b) ∧ w.cell? ⟨b, off + k * 6 + 5, none⟩ = some (.int .i64 v.f)
theorem ValRow.below {w w' : World} {b off : Nat} {vs : List Vl} (h : ValRow w b off vs) (hb : b < w.heap.size) (hw : Below w.heap.size w w') : ValRow w' b off vs := by
  intro k v hv
  obtain ⟨h0, h1, h2, h3, h4, h5⟩ := h k v hv
  have e := fun o => lcc hw b hb o
  exact ⟨(e _).trans h0, (e _).trans h1, (e _).trans h2, (e _).trans h3, (e _).trans h4, (e _).trans h5⟩
/-- What stands in a slice of values. -/
def ValAt (w : World) (la : Option Addr) (vs : List Vl) : Prop := 0 < vs.length → ∃ b off, la = some ⟨b, off, none⟩ ∧ b < w.heap.size ∧ ValRow w b off vs
theorem ValAt.below {w w' : World} {la : Option Addr} {vs : List Vl} (h : ValAt w la vs) (hw : Below w.heap.size w w') : ValAt w' la vs := by
  intro h0
  obtain ⟨b, off, e, hb, hr⟩ := h h0
  exact ⟨b, off, e, lcs hw b hb, hr.below hb hw⟩

set_option maxHeartbeats 2000000 in
theorem law_texts (vs : List Vl) (la : Option Addr) (lc n : Nat) (w : World) (hn : vs.length = n) (hbig : n ≤ 140737488355328) (hin : ∀ v ∈ vs, v.In) (hc : ValAt w la vs) :
    Calls Tryz.prog 30 #[.slice la n lc] w fun e w' => ∃ h : Bool, e = .returned (.bool h) ∧ (h = false → n ≤ 20000) ∧ Below w.heap.size w w' := by
  have HI := Lib.hid hin
  have HC := Lib.hid hc
  have HN := Lib.hid hn
  clear hin hc hn
  go_enter Tryz.func30, Tryz.ntmps30
  go_wp2
  go_loopw [3, 4] (fun x i wr => ∃ k m : Nat, k ≤ n ∧ i = .int .i64 k ∧ x = .int .i64 m ∧ n ≤ m ∧ m ≤ 140737488400000 ∧ Below w.heap.size w wr) (fun _ i _ => n - (intOf i).toNat)
  case atStart => exact ⟨0, n, by omega, rfl, rfl, by omega, by omega, Below.refl _ _⟩
  case round =>
    obtain ⟨k, m, hk, rfl, rfl, hnm, hm, hb⟩ := hrel
    by_cases hlt : k < n
    · by_cases hm2 : m ≤ 20000
      · obtain ⟨b, off, rfl, hbw, hrow⟩ := HC.out (by rw [HN.out]; omega)
        obtain ⟨v, hv⟩ : ∃ v, vs[k]? = some v := ⟨_, List.getElem?_eq_getElem (by rw [HN.out]; exact hlt)⟩
        obtain ⟨c0, c1, c2, c3, c4, c5⟩ := (hrow.below hbw hb) k v hv
        have ht := (HI.out v (List.mem_of_getElem? hv)).t
        have HB := Lib.hid hb
        have hw1 := w64 (x := (m : Int) + v.t.size) (by omega) (by omega)
        clear hb hrow hv
        go_wp2
        go_roundw
        case rel => exact ⟨k + 1, m + v.t.size, by omega, by first | rfl | (simp; done) | go_num, by first | rfl | (simp; done) | go_num, by omega, by omega, HB.out⟩
        case measure => simp [intOf]; omega
      · go_wp2
        go_ret
        exact ⟨_, rfl, fun h => by first | omega | (simp at h; done) | (simp at h; omega), hb⟩
    · obtain rfl : k = n := by omega
      go_wp2
      go_ret
      exact ⟨_, rfl, fun h => by first | omega | (simp at h; done) | (simp at h; omega), hb⟩

/-- The numbers among the first k. -/
def numsOf (vs : List Vl) (k : Nat) : List Nm := ((vs.take k).filter fun v => decide (v.k = 1) && rightV v).map fun v => ⟨v.n, v.d⟩
theorem numsOf_step {vs : List Vl} {k : Nat} {v : Vl} (h : vs[k]? = some v) : numsOf vs (k + 1) = if (decide (v.k = 1) && rightV v) = true then numsOf vs k ++ [⟨v.n, v.d⟩] else numsOf vs k := by
  unfold numsOf
  rw [List.take_add_one, h, List.filter_append]
  cases hr : (decide (v.k = 1) && rightV v) <;> simp [hr]
theorem numsOf_len (vs : List Vl) (k : Nat) : (numsOf vs k).length ≤ k := by
  unfold numsOf
  rw [List.length_map]
  have := List.length_filter_le (fun v : Vl => decide (v.k = 1) && rightV v) (vs.take k)
  rw [List.length_take] at this
  omega
theorem right_num {v : Vl} (h1 : v.k = 1) (h : rightV v = true) : rightN v.n v.d = true ∧ v = numV v.n v.d := by
  rcases rightV_cases h with e | ⟨e1, e2⟩ | ⟨_, _, e⟩ | e | ⟨_, _, e⟩
  · rw [e] at h1; cases h1
  · exact ⟨e1, e2⟩
  · rw [e] at h1; cases h1
  · rw [e] at h1; cases h1
  · rw [e] at h1; cases h1
theorem numsOf_ok (vs : List Vl) (k : Nat) : ∀ x ∈ numsOf vs k, RtN x := by
  intro x hx
  unfold numsOf at hx
  obtain ⟨v, hv, rfl⟩ := List.mem_map.1 hx
  have h := (List.mem_filter.1 hv).2
  rw [Bool.and_eq_true, decide_eq_true_eq] at h
  exact (right_num h.1 h.2).1

theorem rowNews {w : World} {g : Nat} {ms : List Nm} (h : NumRow w g ms) : ∀ (j : Nat) (u : Value), (ms.flatMap Nm.cells)[j]? = some u → w.cell? ((⟨g, 0, none⟩ : Addr).add j) = some u := by
  intro j u hj
  have hl : j < (ms.flatMap Nm.cells).length := by
    rcases Nat.lt_or_ge j (ms.flatMap Nm.cells).length with h1 | h1
    · exact h1
    · rw [List.getElem?_eq_none h1] at hj; cases hj
  rw [flat6_len Nm.cells Nm.len] at hl
  have hk : j / 6 < ms.length := by omega
  have hi : j % 6 < 6 := Nat.mod_lt _ (by decide)
  have e : j = j / 6 * 6 + j % 6 := by omega
  have h6 := flat6 Nm.cells Nm.len ms (j / 6) (j % 6) hk hi
  rw [← e, hj] at h6
  have hx := List.getElem?_eq_getElem (l := ms) hk
  obtain ⟨c0, c1, c2, c3, c4, c5⟩ := h (j / 6) _ hx
  generalize ms[j / 6] = x at *
  rw [Go.WideShapes.add_plain, Nat.zero_add]
  generalize j / 6 = q at *
  generalize j % 6 = r at *
  subst e
  rcases r with _ | _ | _ | _ | _ | _ | r
  · exact c0.trans h6.symm
  · exact c1.trans h6.symm
  · exact c2.trans h6.symm
  · exact c3.trans h6.symm
  · exact c4.trans h6.symm
  · exact c5.trans h6.symm
  · omega
theorem cells_one (ms : List Nm) : ∀ u ∈ ms.flatMap Nm.cells, u.oneCell' = true := by
  intro u hu
  obtain ⟨x, _, hx⟩ := List.mem_flatMap.1 hu
  exact Nm.one x u hx
/-- 'append(s, x..)' of a row of numbers, empty or not. -/
theorem wpList_append_rows {w : World} {ops : Array Oper} {rest : List Oper} {o : Oper} {a : Act} {Q : Exit → Act → World → Prop} (hgd : o.guard = none) (s x : Operand)
    (ho : o.op = .call { callee := .builtin .append, args := #[s, x], argTypes := #[31, 31] })
    (base : Nat) (v : Value) (n : Nat) (xs : List Value) (hs : a.eval s = v) (hown : w.ownsRow base 35 6 v n xs)
    (xa : Option Addr) (xc : Nat) (ms : List Nm) (hx : a.eval x = .slice xa ms.length xc) (hz : ms = [] → xa = none ∧ xc = 0) (hr : RowAt w xa ms)
    (hle : n + ms.length ≤ 1000000) (hbase : base ≤ w.heap.size)
    (h : ∀ v' w', w'.ownsRow base 35 6 v' (n + ms.length) (xs ++ ms.flatMap Nm.cells) → w.grownBy w' v.ownBlock → wpList Tryz.prog ops Q rest (a.put o.dst v') w') : wpList Tryz.prog ops Q (o :: rest) a w := by
  obtain ⟨i0, hi, hzv, hsz, hby⟩ := zero_val
  cases hms : ms with
  | nil =>
    obtain ⟨rfl, rfl⟩ := hz hms
    subst hms
    refine wpList_append_own_none hgd s x _ ho base 35 i0 6 Tryz.underlying31 hi v n xs hs hown hx ?_
    have h2 := h v w (by simpa using hown) ⟨rfl, rfl, rfl, Nat.le_refl _, fun _ _ _ => rfl⟩
    exact h2
  | cons y r =>
    have hpos : 0 < ms.length := by rw [hms]; simp
    obtain ⟨g, rfl, hg, hrow⟩ := hr hpos
    refine wpList_append_lies _ hgd s x 31 ho base 35 i0 _ 6 56 Tryz.underlying31 hi hzv hsz hby rfl (by decide) v n xs hs hown ⟨g, 0, none⟩ ms.length xc (ms.flatMap Nm.cells) hx (flat6_len Nm.cells Nm.len ms) (rowNews hrow) (cells_one ms) hpos (by unfold maxLen; omega) (by omega) hbase _ rfl ?_
    intro g' cap' w' h1 h2 _ _
    exact h _ w' h1 h2

/-- A new block for a value. -/
structure FreshB (w : World) (h : Nat) : Prop where
  lt : h < w.heap.size
  blk : Blk w h (vArr blankV) 35
theorem FreshB.below {w w1 : World} {h : Nat} (z : FreshB w h) (hb : Below w.heap.size w w1) : FreshB w1 h := ⟨lcs hb h z.lt, z.blk.below hb⟩
def FreshV (B : Nat) (v : Value) (w : World) : Prop := ∃ h, v = .pointer (some ⟨h, 0, none⟩) ∧ B ≤ h ∧ FreshB w h
theorem FreshV.below {B : Nat} {v : Value} {w w1 : World} (h : FreshV B v w) (hb : Below w.heap.size w w1) : FreshV B v w1 := by
  obtain ⟨g, e, h0, h⟩ := h
  exact ⟨g, e, h0, h.below hb⟩
theorem fresh_new (w : World) : FreshB (w.alloc (.cells (vArr blankV) 35)) w.heap.size := ⟨by rw [sz_alloc]; omega, heap_alloc_new _ _⟩
theorem below_new' (w : World) (o : Obj) : Below w.heap.size w (w.alloc o) := (Below.refl _ _).alloc (Nat.le_refl _) _
/-- From m on the values are pointers to new blocks, each its own. -/
def DK (m : Nat) (k : Nat) (u : Value) (j : Nat) (v : Value) : Prop := m ≤ k → m ≤ j → u ≠ v
theorem DK.old {V : Nat → Value → World → Prop} {w : World} {m j n : Nat} {v : Value} (hj : j < m) : ∀ k u, k < n → k ≠ j → V k u w → DK m k u j v ∧ DK m j v k u :=
  fun k u _ _ _ => ⟨fun _ h => absurd h (by omega), fun h => absurd h (by omega)⟩
theorem DK.new {V : Nat → Value → World → Prop} {w : World} {m j n : Nat} (hV : ∀ k u, m ≤ k → k < n → V k u w → ∃ h, u = .pointer (some ⟨h, 0, none⟩) ∧ h < w.heap.size) :
    ∀ k u, k < n → k ≠ j → V k u w → DK m k u j (.pointer (some ⟨w.heap.size, 0, none⟩)) ∧ DK m j (.pointer (some ⟨w.heap.size, 0, none⟩)) k u := by
  intro k u hn _ h
  have key : m ≤ k → u ≠ .pointer (some ⟨w.heap.size, 0, none⟩) := by
    intro hk e
    obtain ⟨h', e2, z⟩ := hV k u hk hn h
    rw [e] at e2
    have : w.heap.size = h' := by first | (simp at e2; done) | (simp at e2; exact e2)
    omega
  exact ⟨fun hk _ => key hk, fun _ hk => (key hk).symm⟩
end Go.Proofs.YtangdbjoflnobaaGreatDoor
