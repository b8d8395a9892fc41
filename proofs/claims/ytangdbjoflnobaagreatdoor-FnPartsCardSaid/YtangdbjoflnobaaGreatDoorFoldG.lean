/- The walk of the law's fold, by what a cell does to the fold; SUM, AVERAGE, COUNT, COUNTA of a row of numbers, and what they come to. -/
import Derived.Test.YtangdbjoflnobaaGreatDoorAccH
import Derived.Test.YtangdbjoflnobaaGreatDoorFold
namespace Go.Proofs.YtangdbjoflnobaaGreatDoor
open Go Go.RowKit
set_option linter.unusedSimpArgs false
set_option linter.unusedVariables false

/-- A fold, by what it is at the beginning and what a cell does to it; F: what holds behind k cells. -/
structure FoldOf (K : Int) (kd : Value) (S0 : AccS) (st : AccS → Nm → AccS) (F : Nat → AccS → Prop) : Prop where
  op : ∀ w : World, Calls Tryz.prog 38 #[.int .i64 K] w fun e w' => e = .returned (.tuple #[.pointer (some ⟨w.heap.size, 0, none⟩), .int .i64 0]) ∧ Blk w' w.heap.size (accArr S0 kd) 104 ∧ Below w.heap.size w w'
  zero : F 0 S0
  step : ∀ k S x, k < 1000000 → F k S → RtN x → F (k + 1) (st S x) ∧ ∀ b, Turns 41 #[.pointer (some ⟨b, 0, none⟩), .agg #[.int .i64 1, .int .i64 x.n, .int .i64 x.d, .string ⟨#[]⟩, .bool false, .int .i64 0]] b S (st S x) kd

theorem FoldOf.at {K : Int} {kd : Value} {S0 : AccS} {st : AccS → Nm → AccS} {F : Nat → AccS → Prop} (H : FoldOf K kd S0 st F) {ns : List Nm} (hl : ∀ y ∈ ns, RtN y) (hnb : ns.length ≤ 1000000) : F ns.length (accF st S0 ns) := by
  have : ∀ k, k ≤ ns.length → F k (accF st S0 (ns.take k)) := by
    intro k
    induction k with
    | zero => intro _; rw [List.take_zero]; exact H.zero
    | succ k ih =>
      intro hk
      have hx := List.getElem?_eq_getElem (l := ns) (i := k) (by omega)
      rw [List.take_add_one, hx]
      show F (k + 1) (accF st S0 (ns.take k ++ [_]))
      rw [accF_snoc]
      exact (H.step k _ _ (by omega) (ih (by omega)) (hl _ (List.getElem_mem _))).1
  have h := this ns.length (Nat.le_refl _)
  rwa [List.take_length] at h

set_option maxHeartbeats 2000000 in
theorem law_foldG {K : Int} {kd : Value} {S0 : AccS} {st : AccS → Nm → AccS} {F : Nat → AccS → Prop} (H : FoldOf K kd S0 st F) (ns : List Nm) (hl : ∀ y ∈ ns, RtN y) (a : Option Addr) (n cap : Nat) (hn : ns.length = n) (hnb : n ≤ 1000000) (w : World)
    (hr : 0 < n → ∃ g, a = some ⟨g, 0, none⟩ ∧ g < w.heap.size ∧ NumRow w g ns) :
    Calls Tryz.prog 27 #[.int .i64 K, .slice a n cap] w fun e w' => e = .returned (.pointer (some ⟨w.heap.size, 0, none⟩)) ∧ Blk w' w.heap.size (accArr (accF st S0 ns) kd) 104 ∧ Below w.heap.size w w' := by
  have HR := Lib.hid hr
  have HL := Lib.hid hl
  have HH := Lib.hid H
  have HN := Lib.hid hn
  clear hr hl H hn
  go_enter Tryz.func27, Tryz.ntmps27
  go_wp2_with fail
  refine (HH.out.op _).mono ?_
  rintro e w1 ⟨rfl, A1, hb⟩
  go_wp2
  go_loopw [7] (fun i wr => ∃ k : Nat, k ≤ n ∧ i = .int .i64 k ∧ Blk wr w.heap.size (accArr (accF st S0 (ns.take k)) kd) 104 ∧ Below w.heap.size w wr) (fun i _ => n - (intOf i).toNat)
  case atStart => exact ⟨0, by omega, rfl, A1, hb⟩
  case round =>
    clear A1 hb
    obtain ⟨k, hk, rfl, A, hbk⟩ := hrel
    by_cases hlt : k < n
    · obtain ⟨g, rfl, hg, hrow⟩ := HR.out (by omega)
      obtain ⟨x, hx⟩ : ∃ x, ns[k]? = some x := ⟨_, List.getElem?_eq_getElem (by rw [HN.out]; exact hlt)⟩
      obtain ⟨c0, c1, c2, c3, c4, c5⟩ := (hrow.below hg hbk) k x hx
      have hxr : RtN x := HL.out x (List.mem_of_getElem? hx)
      have hF : F k (accF st S0 (ns.take k)) := by
        have h := HH.out.at (ns := ns.take k) (fun y hy => HL.out y (List.mem_of_mem_take hy)) (by rw [List.length_take]; omega)
        have e : (ns.take k).length = k := by rw [List.length_take, HN.out]; omega
        rwa [e] at h
      have HT := Lib.hid ((HH.out.step k _ x (by omega) hF hxr).2 w.heap.size)
      have HA := Lib.hid A
      have hlA := A.lt
      have hsk := hbk.size
      have HB := Lib.hid hbk
      have HX := Lib.hid hx
      clear A hbk hx hxr hF hrow
      go_wp2_with fail
      refine (HT.out.out _ HA.out).mono ?_
      rintro e w2 ⟨rfl, A2, hb2⟩
      go_wp2
      go_roundw
      case rel =>
        refine ⟨k + 1, by omega, by go_num, ?_, HB.out.trans (but_below' hb2 (by have := HB.out.size; omega) (Nat.le_refl _))⟩
        have e1 : ns.take (k + 1) = ns.take k ++ [x] := by rw [List.take_add_one, HX.out]; rfl
        rw [e1, accF_snoc]; exact A2
      case measure => simp [intOf]; omega
    · obtain rfl : k = n := by omega
      go_wp2
      go_ret
      refine ⟨rfl, ?_, hbk⟩
      rw [List.take_of_length_le (by rw [HN.out]; exact Nat.le_refl _)] at A
      exact A

structure FN (K : Int) (k : Nat) (S : AccS) : Prop where
  fn : S.fn = K
  wants : S.wants = false
  n : I64 S.n
  d : I64 S.d
  c0 : 0 ≤ S.count
  c1 : S.count ≤ k
theorem add_i64 (n d m e : Int) : I64 (add n d m e).n ∧ I64 (add n d m e).d := by
  have h : -1000000000000 ≤ (add n d m e).n ∧ (add n d m e).n ≤ 1000000000000 ∧ 0 ≤ (add n d m e).d ∧ (add n d m e).d ≤ 1000000 := mk_bd _ _
  exact ⟨I64.of h.1 h.2.1, I64.of (by omega) (by omega)⟩
theorem num_right_in {x : Nm} (hx : RtN x) : rightV ⟨1, x.n, x.d, ⟨#[]⟩, false, 0⟩ = true := (rightV_num (n := x.n) (d := x.d)).trans hx
theorem fold1 : FoldOf 1 kdN (acc0 1 0) st1 (FN 1) where
  op := funcs_Open1
  zero := ⟨rfl, rfl, ⟨by decide, by decide⟩, ⟨by decide, by decide⟩, by decide, by decide⟩
  step := by
    intro k S x hk h hx
    unfold st1
    cases hu : S.full
    · simp only [Bool.false_eq_true, if_false]
      have hi := add_i64 S.n S.d x.n x.d
      constructor
      · unfold AccS.sets
        split
        · exact ⟨h.fn, h.wants, hi.1, hi.2, h.c0, by have := h.c1; simp only; omega⟩
        · exact ⟨h.fn, h.wants, h.n, h.d, h.c0, by have := h.c1; simp only; omega⟩
      · intro b
        refine acc_Cell b _ _ _ _ _ _ _ _ ⟨1, x.n, x.d, ⟨#[]⟩, false, 0⟩ (tkV_of (num_right_in hx)).symm (right_in (num_right_in hx)) hu h.wants ?_
        refine numbers_cell1 b _ _ _ _ rfl ?_
        refine acc_takes1 b _ _ _ _ _ h.fn ?_
        exact ⟨fun wx hA => acc_adds b S kdN x.n x.d wx hA h.n h.d hx.i64.1 hx.i64.2⟩
    · simp only [if_true]
      exact ⟨⟨h.fn, h.wants, h.n, h.d, h.c0, by have := h.c1; omega⟩, fun b => acc_Cell_full b S kdN _ _ _ _ _ _ hu⟩
theorem fold7 : FoldOf 7 kdN (acc0 7 0) st7 (FN 7) where
  op := funcs_Open7
  zero := ⟨rfl, rfl, ⟨by decide, by decide⟩, ⟨by decide, by decide⟩, by decide, by decide⟩
  step := by
    intro k S x hk h hx
    have hc := h.c1
    unfold st7
    cases hu : S.full
    · simp only [Bool.false_eq_true, if_false]
      have hi := add_i64 S.n S.d x.n x.d
      constructor
      · unfold AccS.one
        split
        · exact ⟨h.fn, h.wants, hi.1, hi.2, by have := h.c0; simp only; omega, by simp only; omega⟩
        · exact ⟨h.fn, h.wants, h.n, h.d, h.c0, by simp only; omega⟩
      · intro b
        refine acc_Cell b _ _ _ _ _ _ _ _ ⟨1, x.n, x.d, ⟨#[]⟩, false, 0⟩ (tkV_of (num_right_in hx)).symm (right_in (num_right_in hx)) hu h.wants ?_
        refine numbers_cell1 b _ _ _ _ rfl ?_
        refine acc_takes7 b _ _ _ _ _ h.fn ?_
        exact acc_addsOne b S kdN x.n x.d h.n h.d hx.i64.1 hx.i64.2 h.c0 (by omega)
    · simp only [if_true]
      exact ⟨⟨h.fn, h.wants, h.n, h.d, h.c0, by omega⟩, fun b => acc_Cell_full b S kdN _ _ _ _ _ _ hu⟩
theorem fold3 : FoldOf 3 kdC (acc0 3 0) stC (FN 3) where
  op := funcs_Open3
  zero := ⟨rfl, rfl, ⟨by decide, by decide⟩, ⟨by decide, by decide⟩, by decide, by decide⟩
  step := by
    intro k S x hk h hx
    have hc := h.c1
    have hc0 := h.c0
    unfold stC
    cases hu : S.full
    · simp only [Bool.false_eq_true, if_false]
      constructor
      · exact ⟨h.fn, h.wants, h.n, h.d, by simp only; omega, by simp only; omega⟩
      · intro b
        refine acc_CellC b _ _ _ _ _ _ _ _ ⟨1, x.n, x.d, ⟨#[]⟩, false, 0⟩ (tkV_of (num_right_in hx)).symm (right_in (num_right_in hx)) hu h.wants ?_
        have h2 := counts_cell1 b S kdC ⟨1, x.n, x.d, ⟨#[]⟩, false, 0⟩ rfl hc0 (by omega)
        rw [hu] at h2
        exact h2
    · simp only [if_true]
      exact ⟨⟨h.fn, h.wants, h.n, h.d, h.c0, by omega⟩, fun b => acc_Cell_full b S kdC _ _ _ _ _ _ hu⟩
theorem fold4 : FoldOf 4 kdC (acc0 4 0) stC (FN 4) where
  op := funcs_Open4
  zero := ⟨rfl, rfl, ⟨by decide, by decide⟩, ⟨by decide, by decide⟩, by decide, by decide⟩
  step := by
    intro k S x hk h hx
    have hc := h.c1
    have hc0 := h.c0
    unfold stC
    cases hu : S.full
    · simp only [Bool.false_eq_true, if_false]
      constructor
      · exact ⟨h.fn, h.wants, h.n, h.d, by simp only; omega, by simp only; omega⟩
      · intro b
        refine acc_CellC b _ _ _ _ _ _ _ _ ⟨1, x.n, x.d, ⟨#[]⟩, false, 0⟩ (tkV_of (num_right_in hx)).symm (right_in (num_right_in hx)) hu h.wants ?_
        have h2 := counts_cell1 b S kdC ⟨1, x.n, x.d, ⟨#[]⟩, false, 0⟩ rfl hc0 (by omega)
        rw [hu] at h2
        exact h2
    · simp only [if_true]
      exact ⟨⟨h.fn, h.wants, h.n, h.d, h.c0, by omega⟩, fun b => acc_Cell_full b S kdC _ _ _ _ _ _ hu⟩

/-! what they come to -/
def sumV (l : List Nm) : Vl := if (sumB l).ok then numF (sumB l).n (sumB l).d else faultF 4
theorem res1 (l : List Nm) (p : Nat) (w : World) (hA : Blk w p (accArr (accF st1 (acc0 1 0) l) kdN) 104) :
    Calls Tryz.prog 28 #[.pointer (some ⟨p, 0, none⟩)] w fun e w' => e = .returned (.agg #[.int .i64 (sumV l).k, .int .i64 (sumV l).n, .int .i64 (sumV l).d, .string (sumV l).t, .bool (sumV l).b, .int .i64 (sumV l).f]) ∧ Below w.heap.size w w' := by
  have h := acc1_ok l
  unfold sumV
  cases hk : (sumB l).ok
  · obtain ⟨hf, hv⟩ := h.2 hk
    have R := acc_Result_full p _ kdN w hA hf
    rw [hv] at R
    exact R
  · rw [h.1 hk] at hA
    have hb := sumB_bd l
    exact acc_Result1 p _ w hA rfl rfl (I64.of hb.1 hb.2.1) (I64.of (by simp only; omega) (by simp only; omega))
theorem res3 (l : List Nm) (hl : l.length ≤ 1000000) (p : Nat) (w : World) (hA : Blk w p (accArr (accF stC (acc0 3 0) l) kdC) 104) :
    Calls Tryz.prog 28 #[.pointer (some ⟨p, 0, none⟩)] w fun e w' => e = .returned (.agg #[.int .i64 (numF l.length 1).k, .int .i64 (numF l.length 1).n, .int .i64 (numF l.length 1).d, .string (numF l.length 1).t, .bool (numF l.length 1).b, .int .i64 (numF l.length 1).f]) ∧ Below w.heap.size w w' := by
  rw [accC_ok] at hA
  have R := acc_Result3 p _ w hA rfl rfl (I64.of (by simp only; omega) (by simp only; omega))
  have e : wholeF (l.length : Int) = numF l.length 1 := wholeF_of (by omega) (by omega)
  simp only [e] at R
  exact R
theorem res4 (l : List Nm) (hl : l.length ≤ 1000000) (p : Nat) (w : World) (hA : Blk w p (accArr (accF stC (acc0 4 0) l) kdC) 104) :
    Calls Tryz.prog 28 #[.pointer (some ⟨p, 0, none⟩)] w fun e w' => e = .returned (.agg #[.int .i64 (numF l.length 1).k, .int .i64 (numF l.length 1).n, .int .i64 (numF l.length 1).d, .string (numF l.length 1).t, .bool (numF l.length 1).b, .int .i64 (numF l.length 1).f]) ∧ Below w.heap.size w w' := by
  rw [accC_ok] at hA
  have R := acc_Result4 p _ w hA rfl rfl (I64.of (by simp only; omega) (by simp only; omega))
  have e : wholeF (l.length : Int) = numF l.length 1 := wholeF_of (by omega) (by omega)
  simp only [e] at R
  exact R
end Go.Proofs.YtangdbjoflnobaaGreatDoor
