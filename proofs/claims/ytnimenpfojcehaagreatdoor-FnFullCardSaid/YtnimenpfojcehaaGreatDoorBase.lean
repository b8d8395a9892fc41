/- A region that draws its order: a head of operations that read, or call what leaves a class of worlds, and a tail whose order is forced: one walk of the head in the text's order, then the tail, serves every order.
   A plain law over any program; beside it small laws on worlds of which all is known below a number of blocks. The plain functions of chapter 1 (numbers): what package num's functions answer, as Lean functions on whole numbers; no program in sight. Plain laws on texts and numbers read from them (chapter 1, 1.8 and 1.9); no program in sight. What Read answers (1.9); no program in sight. The plain values of chapter 2: a value as its six cells; which are right; no program in sight. Plain values, second part: what AsNumber, AsText, AsTruth, Cmp, Same answer; no program in sight. A fold under way (funcs.Acc) as a block of 22 cells; worlds in which one block alone has turned; no program in sight. A block that holds a value. Plain laws: the least and the greatest of a row of numbers, whatever their order; no program in sight. -/
import Derived.StillTail
import Derived.Deep.Quiet
import Derived.Below
import Derived.WalkKit
import Derived.IntWalk
import Derived.Lib.Strings
import Derived.Lib.IndexBytes
import Derived.Lib.Small
import Derived.OneCell
namespace Go.Proofs.YtnimenpfojcehaaGreatDoor
open Go Go.RowKit

section
variable {P : Program} {ops : Array Oper} {md : Region.Mode} {C : World → Prop}

/-- f operations of the head come up, in whatever order; behind them L. -/
def HeadQ (P : Program) (md : Region.Mode) (ops : Array Oper) (C : World → Prop) (n : Nat) (L : Array Bool → Act → Prop) : Nat → Array Bool → Act → Prop
  | 0, listed, a => L listed a
  | f + 1, listed, a => Region.ready md ops listed ≠ [] ∧ ∀ i ∈ Region.ready md ops listed, i < n ∧ qOp P ops C i (HeadQ P md ops C n L f (listed.setIfInBounds i true)) a

theorem HeadQ.any {n g : Nat} {L : Array Bool → Act → Prop} {Q : Exit → Act → World → Prop} (hL : ∀ listed a w, C w → L listed a → wpAny P md ops Q g listed a w) :
    ∀ (f : Nat) (listed : Array Bool) (a : Act) (w : World), C w → HeadQ P md ops C n L f listed a → wpAny P md ops Q (f + g) listed a w := by
  intro f
  induction f with
  | zero => intro listed a w hw h; rw [Nat.zero_add]; exact hL _ _ _ hw h
  | succ f ih =>
    intro listed a w hw h
    rw [show f + 1 + g = (f + g) + 1 by omega]
    exact ⟨fun h0 => absurd h0 h.1, fun i hi => wpOp_of_qOp hw (fun a' w' hw' h' => ih _ a' w' hw' h') (h.2 i hi).2⟩

theorem HeadQ.first {n i : Nat} {oi : Oper} {v : Value} {L : Array Bool → Act → Prop} (hi : ops[i]? = some oi) (hsel : ∀ (j : Nat) (o : Oper) cs b, ops[j]? = some o → o.op ≠ .select cs b)
    (hs : Region.sinkB md ops n = true) (hc : Region.chainB md ops n = true) (hn : n < ops.size) (hin : i < n)
    (hdone : ∀ listed a, L listed a → ∀ j ∈ Region.ready md ops listed, n ≤ j) :
    ∀ (f : Nat) (listed : Array Bool) (a : Act), HeadInv md ops n listed →
      (∀ j oj, ops[j]? = some oj → j ≠ i → listed.getD j true = false → (∀ e ∈ oj.after, Region.binds md e = true → e.on ≠ i) → oi.apart ops oj = true) →
      i ∈ Region.ready md ops listed → YieldsIn P ops C oi v a →
      HeadQ P md ops C n L f (listed.setIfInBounds i true) (a.put oi.dst v) → HeadQ P md ops C n L (f + 1) listed a := by
  intro f
  induction f with
  | zero =>
    intro listed a inv _ hr hy H
    refine ⟨fun h => (by rw [h] at hr; cases hr), fun j hj => ?_⟩
    have hjn : j < n := Nat.lt_of_not_le fun h => tail_waits hs hc hn inv _ i rfl hin (mem_ready.1 hr).1 j h hj
    refine ⟨hjn, ?_⟩
    by_cases hji : j = i
    · subst hji; exact hy.qOp hi H
    · exact absurd (hdone _ _ H j (ready_mono hj hji)) (by omega)
  | succ f ih =>
    intro listed a inv hfree hr hy H
    refine ⟨fun h => (by rw [h] at hr; cases hr), fun j hj => ?_⟩
    have hjn : j < n := Nat.lt_of_not_le fun h => tail_waits hs hc hn inv _ i rfl hin (mem_ready.1 hr).1 j h hj
    refine ⟨hjn, ?_⟩
    by_cases hji : j = i
    · subst hji; exact hy.qOp hi H
    · have h1 := (H.2 j (ready_mono hj hji)).2
      obtain ⟨hjun, oj, hoj, hall⟩ := mem_ready.1 hj
      have hnot : ∀ e ∈ oj.after, Region.binds md e = true → e.on ≠ i := fun e he hb heq => by
        have h2 := hall e he hb
        rw [heq, getD_both (mem_ready.1 hr).1] at h2
        cases h2
      have h2 := qOp_put hoj (hfree j oj hoj hji hjun hnot) (fun cs b => hsel i oi cs b hi) (fun cs b => hsel j oj cs b hoj) hy h1
      refine qOp_mono (fun a' h3 => ih (listed.setIfInBounds j true) a' (inv.set hj hjn) (fun k ok hk hki hun hno => ?_) (ready_mono hr (Ne.symm hji)) h3.1 ?_) h2
      · by_cases hjk : j = k
        · subst hjk; exact hfree j ok hk hki hjun hno
        · rw [getD_set_ne true hjk] at hun; exact hfree k ok hk hki hun hno
      · rw [Array.setIfInBounds_comm _ _ hji]
        exact h3.2

theorem HeadQ.lex {n g : Nat} {Lq : Act → Prop} (hsel : Region.noSelect ops = true) (hs : Region.sinkB md ops n = true) (hc : Region.chainB md ops n = true) (hn : n < ops.size) :
    ∀ (l : List Oper) (k : Nat) (listed : Array Bool) (a : Act), (∀ j, j < l.length → l[j]? = ops[k + j]?) → k + l.length = n → HeadInv md ops n listed →
    Region.lexHead md ops g l.length k listed = true → wpQuiet P ops C Lq l a →
    HeadQ P md ops C n (fun listed' a' => Region.seqB md ops g n listed' = true ∧ Lq a') l.length listed a := by
  intro l
  induction l with
  | nil =>
    intro k listed a _ hk _ hB h
    obtain rfl : k = n := by simpa using hk
    exact ⟨by simpa [Region.lexHead] using hB, h⟩
  | cons o l ih =>
    intro k listed a hl hk inv hB h
    have h0 : ops[k]? = some o := by simpa using (hl 0 (by simp)).symm
    simp only [List.length_cons, Region.lexHead, Bool.and_eq_true] at hB
    obtain ⟨⟨hr, hf⟩, hB'⟩ := hB
    have hkn : k < n := by simp only [List.length_cons] at hk; omega
    have hr' : k ∈ Region.ready md ops listed := by simpa using hr
    have hst : qOp P ops C k (wpQuiet P ops C Lq l) a := by unfold qOp; simp only [h0]; exact h
    obtain ⟨v, hy, hK⟩ := yieldsIn_of_qOp h0 hst
    exact HeadQ.first h0 (Region.noSelect_spec hsel) hs hc hn hkn (fun listed' a' hL => seqB_ready hL.1) l.length listed a inv (Region.free_spec h0 hf) hr' hy
      (ih (k + 1) _ _ (fun j hj => by have := hl (j + 1) (by simp; omega); simpa [Nat.add_assoc, Nat.add_comm 1 j] using this) (by simp only [List.length_cons] at hk; omega) (inv.set hr' hkn) hB' hK)

/-- The head quiet in the class C, the tail in its forced order, in every world of C. -/
theorem region_tail {id : Nat} {Q : Exit → Act → World → Prop} {a : Act} {w : World} {l : List Oper} (n : Nat) (C : World → Prop) (hm : P.follows .mixedOrders = true) (hB : Region.lexTailB .any l.toArray n = true)
    (hC : C { w with drawn := w.drawn + 1 })
    (h : wpQuiet P l.toArray C (fun a' => ∀ w', C w' → wpList P l.toArray Q (l.drop n) a' w') (l.take n) a) : (Code.region id l.toArray true).wp P Q a w := by
  simp only [Region.lexTailB, Bool.and_eq_true, decide_eq_true_eq] at hB
  obtain ⟨⟨⟨⟨hsel, hn⟩, hs⟩, hc⟩, hlex⟩ := hB
  have hn' : n < l.length := by simpa using hn
  have htl : (l.take n).length = n := by simp; omega
  have hdl : (l.drop n).length = l.toArray.size - n := by simp
  have inv0 : HeadInv .any l.toArray n (Array.replicate l.toArray.size false) :=
    ⟨by simp, fun j oj _ hl => (by rw [getD_replicate_false] at hl; cases hl), fun t _ ht => getD_in (by simpa using ht) (getD_replicate_false _ _)⟩
  have H := HeadQ.lex (md := .any) (g := l.toArray.size - n) hsel hs hc hn (l.take n) 0 _ a (fun j hj => by
    have hj' : j < n := by rw [htl] at hj; exact hj
    simp [hj']) (by simpa using htl) inv0 (by rw [htl]; exact hlex) h
  refine wp_region_any hm ?_
  have := HeadQ.any (Q := Q) (g := l.toArray.size - n) (fun listed a' w' hw' hL => by
    have := wpAny_of_seq (md := .any) (Q' := Q) (l.drop n) n listed a' w' (fun j => by simp [List.getElem?_drop]) (by rw [hdl]; exact hL.1) (hL.2 w' hw')
    rwa [hdl] at this) _ _ _ _ hC H
  rw [htl, show n + (l.toArray.size - n) = l.toArray.size by omega] at this
  exact this

theorem q_run {Q : Act → Prop} {a : Act} {o : Oper} {rest : List Oper} (hw : Region.wanted o (yielded ops a.tmps) = true)
    (h : ∃ v, (∀ w, C w → o.quietAt P a C w v) ∧ ∀ K : Act → Prop, (∀ a, wpQuiet P ops C Q rest a → K a) → K (a.put o.dst v)) : wpQuiet P ops C Q (o :: rest) a := by
  obtain ⟨v, hv, h⟩ := h
  simp only [wpQuiet, hw, if_true]
  exact ⟨v, hv, h _ fun _ h => h⟩
theorem q_skip {Q : Act → Prop} {a : Act} {o : Oper} {rest : List Oper} (hw : Region.wanted o (yielded ops a.tmps) = false)
    (h : ∀ K : Act → Prop, (∀ a, wpQuiet P ops C Q rest a → K a) → K (a.put o.dst undef)) : wpQuiet P ops C Q (o :: rest) a := by
  simp only [wpQuiet, hw, Bool.false_eq_true, if_false]
  exact h _ fun _ h => h
end

/-- The class: below its size the world is as it is now (a name that the walk's simp does not look into). -/
structure Bw (w w' : World) : Prop where
  out : Below w.heap.size w w'
theorem Bw.chain {w w1 w2 : World} (h : Bw w w1) (k : Below w1.heap.size w1 w2) : Bw w w2 := ⟨h.out.trans (k.mono h.out.size)⟩
theorem Bw.drewN {w w1 w2 : World} (h : Bw w w1) (k : ∃ n, w2 = w1.drewN n) : Bw w w2 := by
  obtain ⟨n, rfl⟩ := k
  exact ⟨⟨h.out.os, h.out.tape, h.out.output, h.out.size, h.out.block⟩⟩
theorem Bw.same {w w1 w2 : World} (h : Bw w w1) (k : w1 = w2) : Bw w w2 := k ▸ h
theorem region_below {P : Program} {id : Nat} {Q : Exit → Act → World → Prop} {a : Act} {w : World} {l : List Oper} (n : Nat) (hm : P.follows .mixedOrders = true) (hB : Region.lexTailB .any l.toArray n = true)
    (h : wpQuiet P l.toArray (Bw w) (fun a' => ∀ w', Bw w w' → wpList P l.toArray Q (l.drop n) a' w') (l.take n) a) : (Code.region id l.toArray true).wp P Q a w :=
  region_tail n (Bw w) hm hB ⟨(Below.refl _ _).drew⟩ h
/-- A new name for the world at hand. -/
theorem wp_rebase {P : Program} {c : Code} {Q : Exit → Act → World → Prop} {a : Act} {w : World} (h : ∀ w', Bw w w' → c.wp P Q a w') : c.wp P Q a w := h w ⟨Below.refl _ _⟩
theorem wpList_rebase {P : Program} {ops l : _} {Q : Exit → Act → World → Prop} {a : Act} {w : World} (h : ∀ w', Bw w w' → wpList P ops Q l a w') : wpList P ops Q l a w := h w ⟨Below.refl _ _⟩
/-- .. with no tail. -/
theorem region_below_all {P : Program} {id : Nat} {Q : Exit → Act → World → Prop} {a : Act} {w : World} {l : List Oper} (hm : P.follows .mixedOrders = true) (hB : Region.lexB .any l.toArray = true)
    (h : wpQuiet P l.toArray (Bw w) (fun a' => ∀ w', Bw w w' → Q .normal a' w') l a) : (Code.region id l.toArray true).wp P Q a w :=
  wp_region_quiet (C := Bw w) hm hB ⟨(Below.refl _ _).drew⟩ (by simpa using h)

/-! a block's number against the heap's size, as the walk spells them -/
@[go_sem] theorem sl_0_2 (a : Nat) : (a < a + 1 + 1) = True := by simp only [eq_iff_iff, iff_true]; omega
@[go_sem] theorem sl_0_3 (a : Nat) : (a < a + 1 + 1 + 1) = True := by simp only [eq_iff_iff, iff_true]; omega
@[go_sem] theorem sl_1_3 (a : Nat) : (a + 1 < a + 1 + 1 + 1) = True := by simp only [eq_iff_iff, iff_true]; omega
@[go_sem] theorem sl_0_4 (a : Nat) : (a < a + 1 + 1 + 1 + 1) = True := by simp only [eq_iff_iff, iff_true]; omega
@[go_sem] theorem sl_1_4 (a : Nat) : (a + 1 < a + 1 + 1 + 1 + 1) = True := by simp only [eq_iff_iff, iff_true]; omega
@[go_sem] theorem sl_2_4 (a : Nat) : (a + 1 + 1 < a + 1 + 1 + 1 + 1) = True := by simp only [eq_iff_iff, iff_true]; omega
@[go_sem] theorem sl_0_5 (a : Nat) : (a < a + 1 + 1 + 1 + 1 + 1) = True := by simp only [eq_iff_iff, iff_true]; omega
@[go_sem] theorem sl_1_5 (a : Nat) : (a + 1 < a + 1 + 1 + 1 + 1 + 1) = True := by simp only [eq_iff_iff, iff_true]; omega
@[go_sem] theorem sl_2_5 (a : Nat) : (a + 1 + 1 < a + 1 + 1 + 1 + 1 + 1) = True := by simp only [eq_iff_iff, iff_true]; omega
@[go_sem] theorem sl_3_5 (a : Nat) : (a + 1 + 1 + 1 < a + 1 + 1 + 1 + 1 + 1) = True := by simp only [eq_iff_iff, iff_true]; omega
@[go_sem] theorem sl_0_6 (a : Nat) : (a < a + 1 + 1 + 1 + 1 + 1 + 1) = True := by simp only [eq_iff_iff, iff_true]; omega
@[go_sem] theorem sl_1_6 (a : Nat) : (a + 1 < a + 1 + 1 + 1 + 1 + 1 + 1) = True := by simp only [eq_iff_iff, iff_true]; omega
@[go_sem] theorem sl_2_6 (a : Nat) : (a + 1 + 1 < a + 1 + 1 + 1 + 1 + 1 + 1) = True := by simp only [eq_iff_iff, iff_true]; omega
@[go_sem] theorem sl_3_6 (a : Nat) : (a + 1 + 1 + 1 < a + 1 + 1 + 1 + 1 + 1 + 1) = True := by simp only [eq_iff_iff, iff_true]; omega
@[go_sem] theorem sl_4_6 (a : Nat) : (a + 1 + 1 + 1 + 1 < a + 1 + 1 + 1 + 1 + 1 + 1) = True := by simp only [eq_iff_iff, iff_true]; omega
@[go_sem] theorem sl_0_7 (a : Nat) : (a < a + 1 + 1 + 1 + 1 + 1 + 1 + 1) = True := by simp only [eq_iff_iff, iff_true]; omega
@[go_sem] theorem sl_1_7 (a : Nat) : (a + 1 < a + 1 + 1 + 1 + 1 + 1 + 1 + 1) = True := by simp only [eq_iff_iff, iff_true]; omega
@[go_sem] theorem sl_2_7 (a : Nat) : (a + 1 + 1 < a + 1 + 1 + 1 + 1 + 1 + 1 + 1) = True := by simp only [eq_iff_iff, iff_true]; omega
@[go_sem] theorem sl_3_7 (a : Nat) : (a + 1 + 1 + 1 < a + 1 + 1 + 1 + 1 + 1 + 1 + 1) = True := by simp only [eq_iff_iff, iff_true]; omega
@[go_sem] theorem sl_4_7 (a : Nat) : (a + 1 + 1 + 1 + 1 < a + 1 + 1 + 1 + 1 + 1 + 1 + 1) = True := by simp only [eq_iff_iff, iff_true]; omega
@[go_sem] theorem sl_5_7 (a : Nat) : (a + 1 + 1 + 1 + 1 + 1 < a + 1 + 1 + 1 + 1 + 1 + 1 + 1) = True := by simp only [eq_iff_iff, iff_true]; omega
@[go_sem] theorem sl_0_8 (a : Nat) : (a < a + 1 + 1 + 1 + 1 + 1 + 1 + 1 + 1) = True := by simp only [eq_iff_iff, iff_true]; omega
@[go_sem] theorem sl_1_8 (a : Nat) : (a + 1 < a + 1 + 1 + 1 + 1 + 1 + 1 + 1 + 1) = True := by simp only [eq_iff_iff, iff_true]; omega
@[go_sem] theorem sl_2_8 (a : Nat) : (a + 1 + 1 < a + 1 + 1 + 1 + 1 + 1 + 1 + 1 + 1) = True := by simp only [eq_iff_iff, iff_true]; omega
@[go_sem] theorem sl_3_8 (a : Nat) : (a + 1 + 1 + 1 < a + 1 + 1 + 1 + 1 + 1 + 1 + 1 + 1) = True := by simp only [eq_iff_iff, iff_true]; omega
@[go_sem] theorem sl_4_8 (a : Nat) : (a + 1 + 1 + 1 + 1 < a + 1 + 1 + 1 + 1 + 1 + 1 + 1 + 1) = True := by simp only [eq_iff_iff, iff_true]; omega
@[go_sem] theorem sl_5_8 (a : Nat) : (a + 1 + 1 + 1 + 1 + 1 < a + 1 + 1 + 1 + 1 + 1 + 1 + 1 + 1) = True := by simp only [eq_iff_iff, iff_true]; omega
@[go_sem] theorem sl_6_8 (a : Nat) : (a + 1 + 1 + 1 + 1 + 1 + 1 < a + 1 + 1 + 1 + 1 + 1 + 1 + 1 + 1) = True := by simp only [eq_iff_iff, iff_true]; omega

theorem sz_alloc (w : World) (o : Obj) : (w.alloc o).heap.size = w.heap.size + 1 := by show (w.heap.push o).size = _; rw [Array.size_push]
theorem sz_setCell (w : World) (a : Addr) (u : Value) : (w.setCell a u).heap.size = w.heap.size := by simp [World.setCell]
theorem sz_drew (w : World) : w.drew.heap.size = w.heap.size := rfl
theorem sz_drewN (w : World) (n : Nat) : (w.drewN n).heap.size = w.heap.size := rfl
theorem sA (w : World) (o : Obj) : (w.alloc o).heap.size = w.heap.size + 1 := sz_alloc w o
theorem sC (w : World) (a : Addr) (u : Value) : (w.setCell a u).heap.size = w.heap.size := sz_setCell w a u
theorem sD (w : World) : w.drew.heap.size = w.heap.size := rfl
theorem sE (w : World) (n : Nat) : (w.drewN n).heap.size = w.heap.size := rfl
theorem bcell {W w1 : World} (hb : Below W.heap.size W w1) : (∀ b o, b < W.heap.size → w1.cell? ⟨b, o, none⟩ = W.cell? ⟨b, o, none⟩) ∧ (∀ b o, b < W.heap.size → w1.frozen? ⟨b, o, none⟩ = W.frozen? ⟨b, o, none⟩) :=
  ⟨fun b o h => hb.cell (p := ⟨b, o, none⟩) h, fun b o h => hb.frozen (p := ⟨b, o, none⟩) h⟩
theorem lcc {W w1 : World} (hb : Below W.heap.size W w1) (k : Nat) (hk : k < W.heap.size) : ∀ o, w1.cell? ⟨k, o, none⟩ = W.cell? ⟨k, o, none⟩ := fun o => hb.cell (p := ⟨k, o, none⟩) hk
theorem lcf {W w1 : World} (hb : Below W.heap.size W w1) (k : Nat) (hk : k < W.heap.size) : ∀ o, w1.frozen? ⟨k, o, none⟩ = W.frozen? ⟨k, o, none⟩ := fun o => hb.frozen (p := ⟨k, o, none⟩) hk
theorem lcff {W w1 : World} (hb : Below W.heap.size W w1) (k : Nat) (hk : k < W.heap.size) (hf : ∀ o, W.frozen? ⟨k, o, none⟩ = false) : ∀ o, w1.frozen? ⟨k, o, none⟩ = false := fun o => (hb.frozen (p := ⟨k, o, none⟩) hk).trans (hf o)
theorem lcs {W w1 : World} (hb : Below W.heap.size W w1) (k : Nat) (hk : k < W.heap.size) : k < w1.heap.size := Nat.lt_of_lt_of_le hk hb.size
theorem L1r {W w1 : World} (hb : Below W.heap.size W w1) (k : Nat) (hk : k < W.heap.size) {c0 : Option Value} (h : W.cell? ⟨k, 0, none⟩ = c0) : k < w1.heap.size ∧ w1.cell? ⟨k, 0, none⟩ = c0 := ⟨lcs hb k hk, (lcc hb k hk 0).trans h⟩
theorem L1 {W w1 : World} (hb : Below W.heap.size W w1) (k : Nat) (hk : k < W.heap.size) {c0 : Option Value} (h : W.cell? ⟨k, 0, none⟩ = c0) (hf : ∀ o, W.frozen? ⟨k, o, none⟩ = false) : k < w1.heap.size ∧ w1.cell? ⟨k, 0, none⟩ = c0 ∧ ∀ o, w1.frozen? ⟨k, o, none⟩ = false := ⟨lcs hb k hk, (lcc hb k hk 0).trans h, lcff hb k hk hf⟩
theorem L2 {W w1 : World} (hb : Below W.heap.size W w1) (k : Nat) (hk : k < W.heap.size) {c0 c1 : Option Value} (h : W.cell? ⟨k, 0, none⟩ = c0 ∧ W.cell? ⟨k, 1, none⟩ = c1) (hf : ∀ o, W.frozen? ⟨k, o, none⟩ = false) : k < w1.heap.size ∧ w1.cell? ⟨k, 0, none⟩ = c0 ∧ w1.cell? ⟨k, 1, none⟩ = c1 ∧ ∀ o, w1.frozen? ⟨k, o, none⟩ = false := ⟨lcs hb k hk, (lcc hb k hk 0).trans h.1, (lcc hb k hk 1).trans h.2, lcff hb k hk hf⟩
theorem L6r {W w1 : World} (hb : Below W.heap.size W w1) (k : Nat) (hk : k < W.heap.size) {c0 c1 c2 c3 c4 c5 : Option Value} (h : W.cell? ⟨k, 0, none⟩ = c0 ∧ W.cell? ⟨k, 1, none⟩ = c1 ∧ W.cell? ⟨k, 2, none⟩ = c2 ∧ W.cell? ⟨k, 3, none⟩ = c3 ∧ W.cell? ⟨k, 4, none⟩ = c4 ∧ W.cell? ⟨k, 5, none⟩ = c5) : k < w1.heap.size ∧ w1.cell? ⟨k, 0, none⟩ = c0 ∧ w1.cell? ⟨k, 1, none⟩ = c1 ∧ w1.cell? ⟨k, 2, none⟩ = c2 ∧ w1.cell? ⟨k, 3, none⟩ = c3 ∧ w1.cell? ⟨k, 4, none⟩ = c4 ∧ w1.cell? ⟨k, 5, none⟩ = c5 := ⟨lcs hb k hk, (lcc hb k hk 0).trans h.1, (lcc hb k hk 1).trans h.2.1, (lcc hb k hk 2).trans h.2.2.1, (lcc hb k hk 3).trans h.2.2.2.1, (lcc hb k hk 4).trans h.2.2.2.2.1, (lcc hb k hk 5).trans h.2.2.2.2.2⟩
theorem L6 {W w1 : World} (hb : Below W.heap.size W w1) (k : Nat) (hk : k < W.heap.size) {c0 c1 c2 c3 c4 c5 : Option Value} (h : W.cell? ⟨k, 0, none⟩ = c0 ∧ W.cell? ⟨k, 1, none⟩ = c1 ∧ W.cell? ⟨k, 2, none⟩ = c2 ∧ W.cell? ⟨k, 3, none⟩ = c3 ∧ W.cell? ⟨k, 4, none⟩ = c4 ∧ W.cell? ⟨k, 5, none⟩ = c5) (hf : ∀ o, W.frozen? ⟨k, o, none⟩ = false) : k < w1.heap.size ∧ w1.cell? ⟨k, 0, none⟩ = c0 ∧ w1.cell? ⟨k, 1, none⟩ = c1 ∧ w1.cell? ⟨k, 2, none⟩ = c2 ∧ w1.cell? ⟨k, 3, none⟩ = c3 ∧ w1.cell? ⟨k, 4, none⟩ = c4 ∧ w1.cell? ⟨k, 5, none⟩ = c5 ∧ ∀ o, w1.frozen? ⟨k, o, none⟩ = false := ⟨lcs hb k hk, (lcc hb k hk 0).trans h.1, (lcc hb k hk 1).trans h.2.1, (lcc hb k hk 2).trans h.2.2.1, (lcc hb k hk 3).trans h.2.2.2.1, (lcc hb k hk 4).trans h.2.2.2.2.1, (lcc hb k hk 5).trans h.2.2.2.2.2, lcff hb k hk hf⟩
theorem below_drewN {B : Nat} {w W : World} (h : Below B w W) (n : Nat) : Below B w (W.drewN n) := ⟨h.os, h.tape, h.output, h.size, h.block⟩
theorem below_then {B : Nat} {w w1 w2 : World} (h : Below B w w1) (hB : B ≤ w1.heap.size) (k : Below w1.heap.size w1 w2) : Below B w w2 := h.trans (k.mono hB)
end Go.Proofs.YtnimenpfojcehaaGreatDoor
namespace Go.Proofs.YtnimenpfojcehaaGreatDoor
open Go.RowKit

/-- It fits into an int. -/
structure I64 (x : Int) : Prop where
  lo : -9223372036854775808 ≤ x
  hi : x ≤ 9223372036854775807
structure Nm where
  n : Int
  d : Int
structure NmB where
  n : Int
  d : Int
  ok : Bool
def rightN (n d : Int) : Bool := decide (-1000000000000 ≤ n) && decide (n ≤ 1000000000000) && decide (1 ≤ d) && decide (d ≤ 1000000) && (Nat.gcd n.natAbs d.natAbs == 1)
def tk (n d : Int) : Nm := if rightN n d then ⟨n, d⟩ else ⟨0, 1⟩
def badB : NmB := ⟨0, 0, false⟩
def signed (minus : Bool) (x y : Nat) : NmB := if 1000000000000 < x ∨ 1000000 < y then badB else ⟨if minus then -(x : Int) else x, y, true⟩
def mk (n d : Int) : NmB := if d = 0 then badB else
  signed (decide (n < 0) != decide (d < 0)) (n.natAbs / Nat.gcd n.natAbs d.natAbs) (d.natAbs / Nat.gcd n.natAbs d.natAbs)
def add (n d m e : Int) : NmB := mk ((tk n d).n * (tk m e).d + (tk m e).n * (tk n d).d) ((tk n d).d * (tk m e).d)
def neg (n d : Int) : Nm := ⟨-(tk n d).n, (tk n d).d⟩
/-- n/d by m/e, over cross. -/
def prodQ (n d m e : Int) : NmB :=
  if (m ≠ 0 ∧ 1000000000000 / m.natAbs < n.natAbs) ∨ 1000000 < d * e then badB else if n * m = 0 then ⟨0, 1, true⟩ else ⟨n * m, d * e, true⟩
def prod (n d m e : Int) : NmB :=
  prodQ (n.tdiv (Nat.gcd n.natAbs e.natAbs : Nat)) (d / (Nat.gcd m.natAbs d.natAbs : Nat)) (m.tdiv (Nat.gcd m.natAbs d.natAbs : Nat)) (e / (Nat.gcd n.natAbs e.natAbs : Nat))
def mul (n d m e : Int) : NmB := prod (tk n d).n (tk n d).d (tk m e).n (tk m e).d
def div (n d m e : Int) : NmB := if (tk m e).n = 0 then badB else if (tk m e).n < 0 then prod (tk n d).n (tk n d).d (-(tk m e).d) (-(tk m e).n) else prod (tk n d).n (tk n d).d (tk m e).d (tk m e).n
def cmpI (x y : Int) : Int := if x < y then -1 else if y < x then 1 else 0
def cmpN (n d m e : Int) : Int := cmpI ((tk n d).n * (tk m e).d) ((tk m e).n * (tk n d).d)
def absN (n d : Int) : Nm := ⟨if (tk n d).n < 0 then -(tk n d).n else (tk n d).n, (tk n d).d⟩
def wholeN (n d : Int) : Int := if (tk n d).d = 1 then (tk n d).n else 0
def wholeB (n d : Int) : Bool := decide ((tk n d).d = 1)

theorem rightN_iff {n d : Int} : rightN n d = true ↔ (-1000000000000 ≤ n ∧ n ≤ 1000000000000 ∧ 1 ≤ d ∧ d ≤ 1000000 ∧ Nat.gcd n.natAbs d.natAbs = 1) := by
  unfold rightN
  simp only [Bool.and_eq_true, decide_eq_true_eq, beq_iff_eq]
  constructor
  · rintro ⟨⟨⟨⟨h1, h2⟩, h3⟩, h4⟩, h5⟩; exact ⟨h1, h2, h3, h4, h5⟩
  · rintro ⟨h1, h2, h3, h4, h5⟩; exact ⟨⟨⟨⟨h1, h2⟩, h3⟩, h4⟩, h5⟩
theorem rightN_out {n d : Int} (h : n < -1000000000000 ∨ 1000000000000 < n ∨ d < 1 ∨ 1000000 < d) : rightN n d = false := by
  cases h' : rightN n d
  · rfl
  · have := rightN_iff.1 h'; omega
theorem rightN_in {n d : Int} (h1 : -1000000000000 ≤ n) (h2 : n ≤ 1000000000000) (h3 : 1 ≤ d) (h4 : d ≤ 1000000) : rightN n d = (((Nat.gcd n.natAbs d.natAbs : Nat) : Int) == 1) := by
  rw [Bool.eq_iff_iff, rightN_iff, beq_iff_eq]
  constructor
  · intro h; rw [h.2.2.2.2]; rfl
  · intro h; exact ⟨h1, h2, h3, h4, by omega⟩
theorem tk_right (n d : Int) : rightN (tk n d).n (tk n d).d = true := by
  unfold tk
  by_cases h : rightN n d = true
  · rw [if_pos h]; exact h
  · rw [if_neg h]; decide
theorem tk_of {n d : Int} (h : rightN n d = true) : tk n d = ⟨n, d⟩ := by unfold tk; rw [if_pos h]
theorem tk_bd (n d : Int) : -1000000000000 ≤ (tk n d).n ∧ (tk n d).n ≤ 1000000000000 ∧ 1 ≤ (tk n d).d ∧ (tk n d).d ≤ 1000000 := by
  have := rightN_iff.1 (tk_right n d)
  omega
theorem mul_bd {x y a b : Int} (h1 : -a ≤ x) (h2 : x ≤ a) (h3 : 0 ≤ y) (h4 : y ≤ b) : -(a * b) ≤ x * y ∧ x * y ≤ a * b := by
  have ha : 0 ≤ a := by omega
  have e2 : a * y ≤ a * b := Int.mul_le_mul_of_nonneg_left h4 ha
  constructor
  · have e1 : (-a) * y ≤ x * y := Int.mul_le_mul_of_nonneg_right h1 h3
    rw [Int.neg_mul] at e1
    omega
  · have e1 : x * y ≤ a * y := Int.mul_le_mul_of_nonneg_right h2 h3
    omega
theorem tk_mul (n d m e : Int) : -1000000000000000000 ≤ (tk n d).n * (tk m e).d ∧ (tk n d).n * (tk m e).d ≤ 1000000000000000000 := by
  obtain ⟨h1, h2, _, _⟩ := tk_bd n d
  obtain ⟨_, _, h3, h4⟩ := tk_bd m e
  have := mul_bd h1 h2 (by omega) h4
  omega
theorem tk_muld (n d m e : Int) : 1 ≤ (tk n d).d * (tk m e).d ∧ (tk n d).d * (tk m e).d ≤ 1000000000000 := by
  obtain ⟨_, _, h1, h2⟩ := tk_bd n d
  obtain ⟨_, _, h3, h4⟩ := tk_bd m e
  have := mul_bd (a := 1000000) (b := 1000000) (by omega) h2 (by omega) h4
  have := Int.mul_pos (show 0 < (tk n d).d by omega) (show 0 < (tk m e).d by omega)
  omega
theorem w64 {x : Int} (h0 : -9223372036854775808 ≤ x) (h1 : x ≤ 9223372036854775807) : IntKind.i64.wrap x = x := IntWalk.i64_in _ (by omega)
theorem tk_wrap (n d m e : Int) : IntKind.i64.wrap ((tk n d).n * (tk m e).d) = (tk n d).n * (tk m e).d := by
  have := tk_mul n d m e
  exact w64 (by omega) (by omega)
theorem tk_wrapd (n d m e : Int) : IntKind.i64.wrap ((tk n d).d * (tk m e).d) = (tk n d).d * (tk m e).d := by
  have := tk_muld n d m e
  exact w64 (by omega) (by omega)
/-! what Make answers -/
theorem signed_bd (b : Bool) (x y : Nat) : -1000000000000 ≤ (signed b x y).n ∧ (signed b x y).n ≤ 1000000000000 ∧ 0 ≤ (signed b x y).d ∧ (signed b x y).d ≤ 1000000 := by
  unfold signed
  split
  · simp [badB]
  · cases b <;> simp only [Bool.false_eq_true, if_true, if_false] <;> omega
theorem mk_bd (n d : Int) : -1000000000000 ≤ (mk n d).n ∧ (mk n d).n ≤ 1000000000000 ∧ 0 ≤ (mk n d).d ∧ (mk n d).d ≤ 1000000 := by
  unfold mk
  split
  · simp [badB]
  · exact signed_bd _ _ _
theorem I64.of {x : Int} (h0 : -1000000000000 ≤ x) (h1 : x ≤ 1000000000000) : I64 x := ⟨by omega, by omega⟩

/-! quotients rounded down -/
theorem ediv_bd {n d a : Int} (hd : 0 < d) (h0 : -a ≤ n) (h1 : n ≤ a) (ha : 0 ≤ a) : -a ≤ n / d ∧ n / d ≤ a := by
  constructor
  · refine Int.le_ediv_of_mul_le hd ?_
    have : (-a) * d ≤ (-a) * 1 := Int.mul_le_mul_of_nonpos_left (by omega) (by omega)
    omega
  · refine Int.ediv_le_of_le_mul hd ?_
    have : a * 1 ≤ a * d := Int.mul_le_mul_of_nonneg_left (by omega) ha
    omega
end Go.Proofs.YtnimenpfojcehaaGreatDoor
namespace Go.Proofs.YtnimenpfojcehaaGreatDoor
open Go Go.RowKit

/-- a text's bytes as a text again -/
def txt (l : List UInt8) : ByteArray := ⟨l.toArray⟩
theorem txt_list (l : List UInt8) : (txt l).data.toList = l := by simp [txt]
theorem txt_size (l : List UInt8) : (txt l).size = l.length := by simp [txt, ByteArray.size]
theorem txt_of (s : ByteArray) : txt s.data.toList = s := by
  obtain ⟨⟨x⟩⟩ := s
  rfl
theorem txt_ext (s : ByteArray) (a b : Nat) : s.extract a b = txt ((s.data.toList.drop a).take (b - a)) := by
  rw [← txt_of (s.extract a b), Lib.extract_data]
theorem txt_drop (s : ByteArray) (k : Nat) : s.extract k s.size = txt (s.data.toList.drop k) := by
  rw [txt_ext, List.take_of_length_le (by simp)]
structure Dg where
  n : Int
  rest : List UInt8
  ok : Bool
/-- digits at the beginning of a text -/
def dg (n : Int) (any : Bool) : List UInt8 → Dg
  | [] => ⟨n, [], any⟩
  | c :: l => if 48 ≤ (c.toNat : Int) ∧ (c.toNat : Int) ≤ 57 then
      (if (1000000000000000000 - ((c.toNat : Int) - 48)) / 10 < n then ⟨0, [], false⟩ else dg (10 * n + ((c.toNat : Int) - 48)) true l)
    else ⟨n, c :: l, any⟩
def digits (s : List UInt8) : Dg := dg 0 false s
theorem dg_bd : ∀ (l : List UInt8) (n : Int) (any : Bool), 0 ≤ n → n ≤ 1000000000000000000 → 0 ≤ (dg n any l).n ∧ (dg n any l).n ≤ 1000000000000000000
  | [], n, any, h0, h1 => ⟨h0, h1⟩
  | c :: l, n, any, h0, h1 => by
    unfold dg
    split
    · split
      · exact ⟨by simp, by simp⟩
      · exact dg_bd l _ _ (by omega) (by omega)
    · exact ⟨h0, h1⟩
theorem digits_bd (l : List UInt8) : 0 ≤ (digits l).n ∧ (digits l).n ≤ 1000000000000000000 := dg_bd l 0 false (by omega) (by omega)
theorem dg_rest : ∀ (l : List UInt8) (n : Int) (any : Bool), (dg n any l).rest.length ≤ l.length
  | [], n, any => by simp [dg]
  | c :: l, n, any => by
    unfold dg
    split
    · split
      · simp
      · have := dg_rest l (10 * n + ((c.toNat : Int) - 48)) true; simp only [List.length_cons]; omega
    · simp
theorem drop_cons (s : ByteArray) (k : Nat) (h : k < s.size) : s.data.toList.drop k = s[k] :: s.data.toList.drop (k + 1) :=
  List.drop_eq_getElem_cons (by simpa using h)
end Go.Proofs.YtnimenpfojcehaaGreatDoor
namespace Go.Proofs.YtnimenpfojcehaaGreatDoor
open Go Go.RowKit

def pow10 (k : Nat) : Int := ((10 ^ k : Nat) : Int)
def sgn (minus : Bool) (n : Int) : Int := if minus then -n else n
/-- behind the sign: digits, then what is behind them -/
def readP (minus : Bool) (n : Int) (ok : Bool) : List UInt8 → NmB
  | [] => if ok then mk (sgn minus n) 1 else badB
  | c :: r =>
    if ok = false ∨ (digits r).ok = false ∨ (digits r).rest ≠ [] then badB
    else if c.toNat = 47 then mk (sgn minus n) (digits r).n
    else if c.toNat ≠ 46 ∨ 6 < r.length ∨ 1000000000000 < n then badB
    else mk (sgn minus (n * pow10 r.length + (digits r).n)) (pow10 r.length)
def readS (minus : Bool) (s : List UInt8) : NmB := readP minus (digits s).n (digits s).ok (digits s).rest
def readN (s : List UInt8) : NmB := readS (Lib.hasPrefix s [45]) (Lib.trimPrefix s [45])
end Go.Proofs.YtnimenpfojcehaaGreatDoor
namespace Go.Proofs.YtnimenpfojcehaaGreatDoor
open Go.RowKit

/-- An api.Value: kind, number (above, below), text, truth, fault. -/
structure Vl where
  k : Int
  n : Int
  d : Int
  t : ByteArray
  b : Bool
  f : Int
deriving DecidableEq
/-- Its numbers fit into ints, its text into memory. -/
structure Vl.In (x : Vl) : Prop where
  k : I64 x.k
  n : I64 x.n
  d : I64 x.d
  f : I64 x.f
  t : x.t.size ≤ 140737488351232
def veq (x y : Vl) : Bool := decide (x = y)
def noT : ByteArray := ⟨#[]⟩
def blankV : Vl := ⟨0, 0, 0, noT, false, 0⟩
def numV (n d : Int) : Vl := ⟨1, n, d, noT, false, 0⟩
def textV (t : ByteArray) : Vl := ⟨2, 0, 0, t, false, 0⟩
def truthV (b : Bool) : Vl := ⟨3, 0, 0, noT, b, 0⟩
def faultV (f : Int) : Vl := ⟨4, 0, 0, noT, false, f⟩
def plainT (t : ByteArray) : Bool := t.data.toList.all fun c => decide (32 ≤ c.toNat) && decide (c.toNat ≤ 126)
def okc (c : UInt8) : Bool := decide (32 ≤ c.toNat) && decide (c.toNat ≤ 126)
theorem plainT_eq (t : ByteArray) : plainT t = t.data.toList.all okc := rfl
theorem take_snoc (s : ByteArray) (k : Nat) (h : k < s.size) : s.data.toList.take (k + 1) = s.data.toList.take k ++ [s[k]] := by
  rw [List.take_succ_eq_append_getElem (by simpa using h)]; rfl
theorem plain_no {t : ByteArray} {k : Nat} (h : k < t.size) (hc : okc t[k] = false) : plainT t = false := by
  rw [plainT_eq, List.all_eq_false]
  refine ⟨t[k], ?_, by simp [hc]⟩
  exact List.getElem_mem (l := t.data.toList) (by simpa using h)
theorem plain_all {t : ByteArray} (h : (t.data.toList.take t.size).all okc = true) : plainT t = true := by
  rw [plainT_eq]
  rwa [List.take_of_length_le (by simp)] at h
theorem plain_step {t : ByteArray} {k : Nat} (h : k < t.size) (ha : (t.data.toList.take k).all okc = true) (hc : okc t[k] = true) : (t.data.toList.take (k + 1)).all okc = true := by
  rw [take_snoc t k h, List.all_append, ha]; simp [hc]
def rightV (x : Vl) : Bool :=
  if x.k = 0 then veq x blankV
  else if x.k = 1 then rightN x.n x.d && veq x (numV x.n x.d)
  else if x.k = 2 then (decide (x.t.size ≤ 256) && plainT x.t) && veq x (textV x.t)
  else if x.k = 3 then veq x (truthV x.b)
  else if x.k = 4 then (decide (1 ≤ x.f) && decide (x.f ≤ 8)) && veq x (faultV x.f)
  else false
def tkV (x : Vl) : Vl := if rightV x then x else faultV 2

/-! what the makers answer -/
def faultF (c : Int) : Vl := if c < 1 ∨ 8 < c then faultV 2 else faultV c
def textF (t : ByteArray) : Vl := if plainT t then (if 256 < t.size then faultV 7 else textV t) else faultV 2
def numF (n d : Int) : Vl := numV (tk n d).n (tk n d).d
def toldF (n d : Int) (ok : Bool) : Vl := if ok then numF n d else faultV 4
def wordT (b : Bool) : ByteArray := if b then ⟨#[84, 82, 85, 69]⟩ else ⟨#[70, 65, 76, 83, 69]⟩
end Go.Proofs.YtnimenpfojcehaaGreatDoor
namespace Go.Proofs.YtnimenpfojcehaaGreatDoor
open Go Go.RowKit

theorem veq_true {x y : Vl} : veq x y = true ↔ x = y := by unfold veq; simp
theorem rightV_num {n d : Int} : rightV (numV n d) = rightN n d := by
  unfold rightV numV
  simp [veq_true.2]
theorem tkV_right (x : Vl) : rightV (tkV x) = true := by
  unfold tkV
  by_cases h : rightV x = true
  · rw [if_pos h]; exact h
  · rw [if_neg h]; decide
theorem tkV_of {x : Vl} (h : rightV x = true) : tkV x = x := by unfold tkV; rw [if_pos h]
theorem tkV_tkV (x : Vl) : tkV (tkV x) = tkV x := tkV_of (tkV_right x)
theorem tkV_in {x : Vl} (h : x.In) : (tkV x).In := by
  unfold tkV
  by_cases hr : rightV x = true
  · rw [if_pos hr]; exact h
  · rw [if_neg hr]; exact ⟨⟨by decide, by decide⟩, ⟨by decide, by decide⟩, ⟨by decide, by decide⟩, ⟨by decide, by decide⟩, by decide⟩
/-- The five makes of a right value. -/
theorem rightV_cases {x : Vl} (h : rightV x = true) : x = blankV ∨ (rightN x.n x.d = true ∧ x = numV x.n x.d) ∨ (x.t.size ≤ 256 ∧ plainT x.t = true ∧ x = textV x.t) ∨ x = truthV x.b ∨ (1 ≤ x.f ∧ x.f ≤ 8 ∧ x = faultV x.f) := by
  unfold rightV at h
  split at h
  · exact Or.inl (veq_true.1 h)
  split at h
  · rw [Bool.and_eq_true] at h; exact Or.inr (Or.inl ⟨h.1, veq_true.1 h.2⟩)
  split at h
  · simp only [Bool.and_eq_true, decide_eq_true_eq] at h; exact Or.inr (Or.inr (Or.inl ⟨h.1.1, h.1.2, veq_true.1 h.2⟩))
  split at h
  · exact Or.inr (Or.inr (Or.inr (Or.inl (veq_true.1 h))))
  split at h
  · simp only [Bool.and_eq_true, decide_eq_true_eq] at h; exact Or.inr (Or.inr (Or.inr (Or.inr ⟨h.1.1, h.1.2, veq_true.1 h.2⟩)))
  · cases h
theorem rightV_k {x : Vl} (h : rightV x = true) : x.k = 0 ∨ x.k = 1 ∨ x.k = 2 ∨ x.k = 3 ∨ x.k = 4 := by
  rcases rightV_cases h with h | ⟨_, h⟩ | ⟨_, _, h⟩ | h | ⟨_, _, h⟩ <;> rw [h] <;> simp [blankV, numV, textV, truthV, faultV]
theorem right_in {x : Vl} (h : rightV x = true) : x.In := by
  have z : I64 0 := ⟨by decide, by decide⟩
  rcases rightV_cases h with h | ⟨h1, h⟩ | ⟨h1, _, h⟩ | h | ⟨h1, h2, h⟩
  · rw [h]; exact ⟨z, z, z, z, by decide⟩
  · have := rightN_iff.1 h1
    rw [h]; exact ⟨⟨by simp [numV], by simp [numV]⟩, ⟨by simp [numV]; omega, by simp [numV]; omega⟩, ⟨by simp [numV]; omega, by simp [numV]; omega⟩, z, by simp [numV, noT, ByteArray.size]⟩
  · rw [h]; exact ⟨⟨by simp [textV], by simp [textV]⟩, z, z, z, by simp [textV]; omega⟩
  · rw [h]; exact ⟨⟨by simp [truthV], by simp [truthV]⟩, z, z, z, by simp [truthV, noT, ByteArray.size]⟩
  · rw [h]; exact ⟨⟨by simp [faultV], by simp [faultV]⟩, z, z, ⟨by simp [faultV]; omega, by simp [faultV]; omega⟩, by simp [faultV, noT, ByteArray.size]⟩

structure AN where
  n : Int
  d : Int
  e : Vl
def asNumT (v : Vl) : AN :=
  if v.k = 1 then ⟨v.n, v.d, blankV⟩ else if v.k = 3 then (if v.b then ⟨1, 1, blankV⟩ else ⟨0, 1, blankV⟩) else if v.k = 0 then ⟨0, 1, blankV⟩
  else if v.k = 2 then (if (readN v.t.data.toList).ok then ⟨(readN v.t.data.toList).n, (readN v.t.data.toList).d, blankV⟩ else ⟨0, 0, faultV 2⟩) else ⟨0, 0, v⟩
def asNum (x : Vl) : AN := asNumT (tkV x)
end Go.Proofs.YtnimenpfojcehaaGreatDoor
namespace Go.Proofs.YtnimenpfojcehaaGreatDoor
open Go Go.RowKit

/-- api.Acc -/
structure AccS where
  fn : Int
  count : Int
  n : Int
  d : Int
  v : Vl
  needle : Vl
  has : Bool
  full : Bool
  wants : Bool
  hn : Int
  hd : Int
def accArr (S : AccS) (kd : Value) : Array Value :=
  #[.int .i64 S.fn, .int .i64 S.count, .int .i64 S.n, .int .i64 S.d,
    .int .i64 S.v.k, .int .i64 S.v.n, .int .i64 S.v.d, .string S.v.t, .bool S.v.b, .int .i64 S.v.f,
    .int .i64 S.needle.k, .int .i64 S.needle.n, .int .i64 S.needle.d, .string S.needle.t, .bool S.needle.b, .int .i64 S.needle.f,
    .bool S.has, .bool S.full, .bool S.wants, .int .i64 S.hn, .int .i64 S.hd, kd]

/-- Block b is this, none of its cells frozen. -/
def Blk (w : World) (b : Nat) (arr : Array Value) (t : TypeId) : Prop := w.heap[b]? = some (.cells arr t (0, 0))
theorem Blk.cast {w : World} {b : Nat} {arr arr' : Array Value} {t : TypeId} (h : Blk w b arr t) (e : arr = arr') : Blk w b arr' t := e ▸ h
theorem Blk.lt {w : World} {b : Nat} {arr : Array Value} {t : TypeId} (h : Blk w b arr t) : b < w.heap.size := lt_of_block h
theorem Blk.cell {w : World} {b : Nat} {arr : Array Value} {t : TypeId} (h : Blk w b arr t) (o : Nat) : w.cell? ⟨b, o, none⟩ = arr[o]? := by
  unfold Blk at h
  simp [World.cell?, h]
theorem Blk.free {w : World} {b : Nat} {arr : Array Value} {t : TypeId} (h : Blk w b arr t) : ∀ o, w.frozen? ⟨b, o, none⟩ = false := by
  intro o
  unfold Blk at h
  simp [World.frozen?, h]
theorem Blk.set {w : World} {b : Nat} {arr : Array Value} {t : TypeId} (h : Blk w b arr t) (o : Nat) (u : Value) : Blk (w.setCell ⟨b, o, none⟩ u) b (arr.setIfInBounds o u) t := by
  have hlt := h.lt
  unfold Blk at h
  have h' : w.heap[b] = .cells arr t (0, 0) := by simpa [Array.getElem?_eq_getElem hlt] using h
  show (w.heap.modify b _)[b]? = _
  rw [Array.getElem?_eq_getElem (by simpa using hlt), Array.getElem_modify_self, h']
  rfl
theorem Blk.set_ne {w : World} {b : Nat} {arr : Array Value} {t : TypeId} (h : Blk w b arr t) {c o : Nat} (hne : b ≠ c) (u : Value) : Blk (w.setCell ⟨c, o, none⟩ u) b arr t := by
  unfold Blk
  rw [Below.heap_setCell _ _ _ _ hne]
  exact h
theorem Blk.alloc {w : World} {b : Nat} {arr : Array Value} {t : TypeId} (h : Blk w b arr t) (o : Obj) : Blk (w.alloc o) b arr t := by
  unfold Blk
  rw [Below.heap_alloc _ _ _ h.lt]
  exact h
theorem Blk.drew {w : World} {b : Nat} {arr : Array Value} {t : TypeId} (h : Blk w b arr t) : Blk w.drew b arr t := h
theorem Blk.drewN {w : World} {b : Nat} {arr : Array Value} {t : TypeId} (h : Blk w b arr t) (n : Nat) : Blk (w.drewN n) b arr t := h
theorem Blk.below {w w1 : World} {b : Nat} {arr : Array Value} {t : TypeId} (h : Blk w b arr t) (hb : Below w.heap.size w w1) : Blk w1 b arr t := by
  unfold Blk
  rw [hb.block b h.lt]
  exact h

/-- Below B the world is as it was, but for block b. -/
structure But (B : Nat) (b : Nat) (w w' : World) : Prop where
  os : w'.os = w.os
  tape : w'.tape = w.tape
  output : w'.output = w.output
  size : w.heap.size ≤ w'.heap.size
  block : ∀ k, k < B → k ≠ b → w'.heap[k]? = w.heap[k]?
theorem But.of_below {B b : Nat} {w w' : World} (h : Below B w w') : But B b w w' := ⟨h.os, h.tape, h.output, h.size, fun k hk _ => h.block k hk⟩
theorem But.refl (B b : Nat) (w : World) : But B b w w := But.of_below (Below.refl _ _)
theorem But.trans {B b : Nat} {w w1 w2 : World} (h : But B b w w1) (k : But B b w1 w2) : But B b w w2 :=
  ⟨k.os.trans h.os, k.tape.trans h.tape, k.output.trans h.output, Nat.le_trans h.size k.size, fun i hi hne => (k.block i hi hne).trans (h.block i hi hne)⟩
theorem But.mono {B B' b : Nat} {w w' : World} (h : But B b w w') (hB : B' ≤ B) : But B' b w w' := ⟨h.os, h.tape, h.output, h.size, fun k hk => h.block k (Nat.lt_of_lt_of_le hk hB)⟩
theorem But.setCell {B b : Nat} {w w1 : World} (h : But B b w w1) (o : Nat) (u : Value) : But B b w (w1.setCell ⟨b, o, none⟩ u) :=
  h.trans ⟨rfl, rfl, rfl, by simp [World.setCell], fun k _ hne => Below.heap_setCell _ _ _ _ hne⟩
theorem But.setNew {B b : Nat} {w w1 : World} (h : But B b w w1) {p : Addr} (hp : B ≤ p.block) (u : Value) : But B b w (w1.setCell p u) :=
  h.trans ⟨rfl, rfl, rfl, by simp [World.setCell], fun k hk _ => Below.heap_setCell _ _ _ _ (by omega)⟩
theorem But.alloc {B b : Nat} {w w1 : World} (h : But B b w w1) (hB : B ≤ w1.heap.size) (o : Obj) : But B b w (w1.alloc o) :=
  h.trans (But.of_below ((Below.refl _ _).alloc hB o))
theorem But.drew {B b : Nat} {w w1 : World} (h : But B b w w1) : But B b w w1.drew := ⟨h.os, h.tape, h.output, h.size, h.block⟩
theorem But.drewN {B b : Nat} {w w1 : World} (h : But B b w w1) (n : Nat) : But B b w (w1.drewN n) := ⟨h.os, h.tape, h.output, h.size, h.block⟩
theorem But.then {B b : Nat} {w w1 w2 : World} (h : But B b w w1) (hB : B ≤ w1.heap.size) (k : But w1.heap.size b w1 w2) : But B b w w2 := h.trans (k.mono hB)
theorem But.thenBelow {B b : Nat} {w w1 w2 : World} (h : But B b w w1) (hB : B ≤ w1.heap.size) (k : Below w1.heap.size w1 w2) : But B b w w2 := h.trans (But.of_below (k.mono hB))
/-- What a block held that is not b, it holds. -/
theorem Blk.but {w w1 : World} {b c : Nat} {arr : Array Value} {t : TypeId} (h : Blk w c arr t) (hb : But w.heap.size b w w1) (hne : c ≠ b) : Blk w1 c arr t := by
  unfold Blk
  rw [hb.block c h.lt hne]
  exact h
theorem But.cell {w w1 : World} {b : Nat} (hb : But w.heap.size b w w1) (k : Nat) (hk : k < w.heap.size) (hne : k ≠ b) (o : Nat) : w1.cell? ⟨k, o, none⟩ = w.cell? ⟨k, o, none⟩ :=
  World.cell?_of_block (w := w) (a := ⟨k, o, none⟩) (hb.block k hk hne)
theorem But.frozen {w w1 : World} {b : Nat} (hb : But w.heap.size b w w1) (k : Nat) (hk : k < w.heap.size) (hne : k ≠ b) (o : Nat) : w1.frozen? ⟨k, o, none⟩ = w.frozen? ⟨k, o, none⟩ :=
  World.frozen?_of_block (w := w) (a := ⟨k, o, none⟩) (hb.block k hk hne)
end Go.Proofs.YtnimenpfojcehaaGreatDoor
namespace Go.Proofs.YtnimenpfojcehaaGreatDoor
open Go Go.RowKit

def vArr (v : Vl) : Array Value := #[.int .i64 v.k, .int .i64 v.n, .int .i64 v.d, .string v.t, .bool v.b, .int .i64 v.f]
theorem Blk.v6 {w : World} {b : Nat} {v : Vl} {t : TypeId} (h : Blk w b (vArr v) t) : w.cell? ⟨b, 0, none⟩ = some (.int .i64 v.k) ∧ w.cell? ⟨b, 1, none⟩ = some (.int .i64 v.n) ∧ w.cell? ⟨b, 2, none⟩ = some (.int .i64 v.d) ∧ w.cell? ⟨b, 3, none⟩ = some (.string v.t) ∧ w.cell? ⟨b, 4, none⟩ = some (.bool v.b) ∧ w.cell? ⟨b, 5, none⟩ = some (.int .i64 v.f) :=
  ⟨h.cell 0, h.cell 1, h.cell 2, h.cell 3, h.cell 4, h.cell 5⟩
end Go.Proofs.YtnimenpfojcehaaGreatDoor
namespace Go.Proofs.YtnimenpfojcehaaGreatDoor
open Go Go.RowKit

def RtN (x : Nm) : Prop := rightN x.n x.d = true
theorem RtN.pos {x : Nm} (h : RtN x) : 0 < x.d := by have := rightN_iff.1 h; omega
end Go.Proofs.YtnimenpfojcehaaGreatDoor
