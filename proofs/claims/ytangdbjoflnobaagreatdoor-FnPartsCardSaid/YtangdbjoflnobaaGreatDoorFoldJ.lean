/- PRODUCT, SUMSQ, AND, OR, XOR of a row of numbers; folds of two rows, one behind the other. -/
import Derived.Test.YtangdbjoflnobaaGreatDoorAccJ
import Derived.Test.YtangdbjoflnobaaGreatDoorRowN
namespace Go.Proofs.YtangdbjoflnobaaGreatDoor
open Go Go.RowKit
set_option linter.unusedSimpArgs false
set_option linter.unusedVariables false

def st2 (S : AccS) (x : Nm) : AccS := if S.full then S else S.sets (mul S.n S.d x.n x.d)
def st12 (S : AccS) (x : Nm) : AccS := if S.full then S else S.square (mul x.n x.d x.n x.d)
def st8 (S : AccS) (x : Nm) : AccS := if S.full then S else if x.n = 0 then { S with full := true, v := truthV false } else S
def st9 (S : AccS) (x : Nm) : AccS := if S.full then S else if x.n = 0 then S else { S with full := true, v := truthV true }
def st10 (S : AccS) (x : Nm) : AccS := if S.full then S else if x.n = 0 then S else { S with count := S.count + 1 }
theorem st2_full {S : AccS} {x : Nm} (h : S.full = true) : st2 S x = S := if_pos h
theorem st12_full {S : AccS} {x : Nm} (h : S.full = true) : st12 S x = S := if_pos h
theorem st8_full {S : AccS} {x : Nm} (h : S.full = true) : st8 S x = S := if_pos h
theorem st9_full {S : AccS} {x : Nm} (h : S.full = true) : st9 S x = S := if_pos h
theorem acc2_ok (l : List Nm) : ((prodB l).ok = true → accF st2 (acc0 2 1) l = { acc0 2 1 with n := (prodB l).n, d := (prodB l).d }) ∧ ((prodB l).ok = false → (accF st2 (acc0 2 1) l).full = true ∧ (accF st2 (acc0 2 1) l).v = faultF 4) := by
  refine snocs (P := fun l => ((prodB l).ok = true → accF st2 (acc0 2 1) l = { acc0 2 1 with n := (prodB l).n, d := (prodB l).d }) ∧ ((prodB l).ok = false → (accF st2 (acc0 2 1) l).full = true ∧ (accF st2 (acc0 2 1) l).v = faultF 4)) ⟨fun _ => rfl, fun h => (by cases h)⟩ ?_ l
  intro l x ⟨h1, h2⟩
  rw [accF_snoc, prodB_snoc]
  unfold mulB
  cases hk : (prodB l).ok
  · obtain ⟨hf, hv⟩ := h2 hk
    simp only [Bool.false_eq_true, if_false]
    refine ⟨fun h => (by rw [hk] at h; cases h), fun _ => ?_⟩
    rw [st2_full hf]
    exact ⟨hf, hv⟩
  · rw [h1 hk]
    simp only [if_true]
    unfold st2 AccS.sets
    have e0 : ({ acc0 2 1 with n := (prodB l).n, d := (prodB l).d } : AccS).full = false := rfl
    rw [e0]
    simp only [Bool.false_eq_true, if_false]
    cases ha : (mul (prodB l).n (prodB l).d x.n x.d).ok
    · exact ⟨fun h => (by cases h), fun _ => (by simp)⟩
    · exact ⟨fun _ => (by simp), fun h => (by cases h)⟩
theorem acc12_ok (l : List Nm) : ((sqB l).ok = true → accF st12 (acc0 12 0) l = { acc0 12 0 with n := (sqB l).n, d := (sqB l).d }) ∧ ((sqB l).ok = false → (accF st12 (acc0 12 0) l).full = true ∧ (accF st12 (acc0 12 0) l).v = faultF 4) := by
  refine snocs (P := fun l => ((sqB l).ok = true → accF st12 (acc0 12 0) l = { acc0 12 0 with n := (sqB l).n, d := (sqB l).d }) ∧ ((sqB l).ok = false → (accF st12 (acc0 12 0) l).full = true ∧ (accF st12 (acc0 12 0) l).v = faultF 4)) ⟨fun _ => rfl, fun h => (by cases h)⟩ ?_ l
  intro l x ⟨h1, h2⟩
  rw [accF_snoc, sqB_snoc]
  unfold sqB1
  cases hk : (sqB l).ok
  · obtain ⟨hf, hv⟩ := h2 hk
    simp only [Bool.false_eq_true, if_false]
    refine ⟨fun h => (by rw [hk] at h; cases h), fun _ => ?_⟩
    rw [st12_full hf]
    exact ⟨hf, hv⟩
  · rw [h1 hk]
    simp only [if_true]
    unfold st12 AccS.square
    have e0 : ({ acc0 12 0 with n := (sqB l).n, d := (sqB l).d } : AccS).full = false := rfl
    rw [e0]
    simp only [Bool.false_eq_true, if_false]
    cases hm : (mul x.n x.d x.n x.d).ok
    · simp only [Bool.false_eq_true, if_false]
      exact ⟨fun h => (by cases h), fun _ => ⟨by first | rfl | trivial, by first | rfl | trivial⟩⟩
    · simp only [if_true]
      unfold AccS.sets
      cases ha : (add (sqB l).n (sqB l).d (mul x.n x.d x.n x.d).n (mul x.n x.d x.n x.d).d).ok
      · exact ⟨fun h => (by cases h), fun _ => (by simp)⟩
      · exact ⟨fun _ => (by simp), fun h => (by cases h)⟩
theorem acc8_ok (l : List Nm) : (andB l = true → accF st8 (acc0 8 0) l = acc0 8 0) ∧ (andB l = false → (accF st8 (acc0 8 0) l).full = true ∧ (accF st8 (acc0 8 0) l).v = truthV false) := by
  refine snocs (P := fun l => (andB l = true → accF st8 (acc0 8 0) l = acc0 8 0) ∧ (andB l = false → (accF st8 (acc0 8 0) l).full = true ∧ (accF st8 (acc0 8 0) l).v = truthV false)) ⟨fun _ => rfl, fun h => (by cases h)⟩ ?_ l
  intro l x ⟨h1, h2⟩
  rw [accF_snoc, and_parts]
  cases hk : andB l
  · obtain ⟨hf, hv⟩ := h2 hk
    rw [Bool.false_and, st8_full hf]
    exact ⟨fun h => (by cases h), fun _ => ⟨hf, hv⟩⟩
  · rw [h1 hk, Bool.true_and]
    unfold st8 andB
    by_cases h0 : x.n = 0
    · simp [acc0, h0]
    · simp [acc0, h0]
theorem acc9_ok (l : List Nm) : (orB l = false → accF st9 (acc0 9 0) l = acc0 9 0) ∧ (orB l = true → (accF st9 (acc0 9 0) l).full = true ∧ (accF st9 (acc0 9 0) l).v = truthV true) := by
  refine snocs (P := fun l => (orB l = false → accF st9 (acc0 9 0) l = acc0 9 0) ∧ (orB l = true → (accF st9 (acc0 9 0) l).full = true ∧ (accF st9 (acc0 9 0) l).v = truthV true)) ⟨fun _ => rfl, fun h => (by cases h)⟩ ?_ l
  intro l x ⟨h1, h2⟩
  rw [accF_snoc, or_parts]
  cases hk : orB l
  · rw [h1 hk, Bool.false_or]
    unfold st9 orB
    by_cases h0 : x.n = 0
    · simp [acc0, h0]
    · simp [acc0, h0]
  · obtain ⟨hf, hv⟩ := h2 hk
    rw [Bool.true_or, st9_full hf]
    exact ⟨fun h => (by cases h), fun _ => ⟨hf, hv⟩⟩
theorem acc10_ok (l : List Nm) : accF st10 (acc0 10 0) l = { acc0 10 0 with count := xorC l } := by
  refine snocs (P := fun l => accF st10 (acc0 10 0) l = { acc0 10 0 with count := xorC l }) rfl ?_ l
  intro l x h
  rw [accF_snoc, h, xorC_snoc]
  unfold st10
  by_cases h0 : x.n = 0
  · simp [acc0, h0]
  · simp [acc0, h0]

theorem mul_i64 (n d m e : Int) : I64 (mul n d m e).n ∧ I64 (mul n d m e).d := by
  have h := mul_bds n d m e
  exact ⟨I64.of h.1 h.2.1, I64.of (by omega) (by omega)⟩
theorem fold2 : FoldOf 2 kdN (acc0 2 1) st2 (FN 2) where
  op := funcs_Open2
  zero := ⟨rfl, rfl, ⟨by decide, by decide⟩, ⟨by decide, by decide⟩, by decide, by decide⟩
  step := by
    intro k S x hk h hx
    unfold st2
    cases hu : S.full
    · simp only [Bool.false_eq_true, if_false]
      have hi := mul_i64 S.n S.d x.n x.d
      constructor
      · unfold AccS.sets
        split
        · exact ⟨h.fn, h.wants, hi.1, hi.2, h.c0, by have := h.c1; simp only; omega⟩
        · exact ⟨h.fn, h.wants, h.n, h.d, h.c0, by have := h.c1; simp only; omega⟩
      · intro b
        refine acc_Cell b _ _ _ _ _ _ _ _ ⟨1, x.n, x.d, ⟨#[]⟩, false, 0⟩ (tkV_of (num_right_in hx)).symm (right_in (num_right_in hx)) hu h.wants ?_
        refine numbers_cell1 b _ _ _ _ rfl ?_
        refine acc_takes2 b _ _ _ _ _ h.fn ?_
        exact ⟨fun wx hA => acc_multiplies b S kdN x.n x.d wx hA h.n h.d hx.i64.1 hx.i64.2⟩
    · simp only [if_true]
      exact ⟨⟨h.fn, h.wants, h.n, h.d, h.c0, by have := h.c1; omega⟩, fun b => acc_Cell_full b S kdN _ _ _ _ _ _ hu⟩
theorem fold12 : FoldOf 12 kdN (acc0 12 0) st12 (FN 12) where
  op := funcs_Open12
  zero := ⟨rfl, rfl, ⟨by decide, by decide⟩, ⟨by decide, by decide⟩, by decide, by decide⟩
  step := by
    intro k S x hk h hx
    unfold st12
    cases hu : S.full
    · simp only [Bool.false_eq_true, if_false]
      constructor
      · unfold AccS.square
        split
        · unfold AccS.sets
          have hi := add_i64 S.n S.d (mul x.n x.d x.n x.d).n (mul x.n x.d x.n x.d).d
          split
          · exact ⟨h.fn, h.wants, hi.1, hi.2, h.c0, by have := h.c1; simp only; omega⟩
          · exact ⟨h.fn, h.wants, h.n, h.d, h.c0, by have := h.c1; simp only; omega⟩
        · exact ⟨h.fn, h.wants, h.n, h.d, h.c0, by have := h.c1; simp only; omega⟩
      · intro b
        refine acc_Cell b _ _ _ _ _ _ _ _ ⟨1, x.n, x.d, ⟨#[]⟩, false, 0⟩ (tkV_of (num_right_in hx)).symm (right_in (num_right_in hx)) hu h.wants ?_
        refine numbers_cell1 b _ _ _ _ rfl ?_
        refine acc_takes12 b _ _ _ _ _ h.fn ?_
        exact acc_addsSquare b S kdN x.n x.d h.n h.d hx.i64.1 hx.i64.2
    · simp only [if_true]
      exact ⟨⟨h.fn, h.wants, h.n, h.d, h.c0, by have := h.c1; omega⟩, fun b => acc_Cell_full b S kdN _ _ _ _ _ _ hu⟩
theorem cellT (b : Nat) (S S' : AccS) (x : Nm) (hx : RtN x) (hu : S.full = false) (hw : S.wants = false) (HM : Turns 288 #[.pointer (some ⟨b, 0, none⟩), .bool (x.n != 0)] b S S' kdT) :
    Turns 41 #[.pointer (some ⟨b, 0, none⟩), .agg #[.int .i64 1, .int .i64 x.n, .int .i64 x.d, .string ⟨#[]⟩, .bool false, .int .i64 0]] b S S' kdT := by
  refine acc_CellT b _ _ _ _ _ _ _ _ ⟨1, x.n, x.d, ⟨#[]⟩, false, 0⟩ (tkV_of (num_right_in hx)).symm (right_in (num_right_in hx)) hu hw ?_
  exact truths_cell_num b S S' kdT x.n x.d (truths_feed_num b S S' kdT x.n x.d hx HM)
theorem ne_true {n : Int} (h : ¬ n = 0) : (n != 0) = true := by simp [h]
theorem fold8 : FoldOf 8 kdT (acc0 8 0) st8 (FN 8) where
  op := funcs_Open8
  zero := ⟨rfl, rfl, ⟨by decide, by decide⟩, ⟨by decide, by decide⟩, by decide, by decide⟩
  step := by
    intro k S x hk h hx
    have hc := h.c1
    unfold st8
    cases hu : S.full
    · simp only [Bool.false_eq_true, if_false]
      by_cases h0 : x.n = 0
      · rw [if_pos h0]
        refine ⟨⟨h.fn, h.wants, h.n, h.d, h.c0, by simp only; omega⟩, fun b => cellT b S _ x hx hu h.wants ?_⟩
        rw [h0]
        exact takesTruth_end8 b S kdT h.fn
      · rw [if_neg h0]
        refine ⟨⟨h.fn, h.wants, h.n, h.d, h.c0, by omega⟩, fun b => cellT b S _ x hx hu h.wants ?_⟩
        rw [ne_true h0]
        exact takesTruth_stay8 b S kdT h.fn
    · simp only [if_true]
      exact ⟨⟨h.fn, h.wants, h.n, h.d, h.c0, by omega⟩, fun b => acc_Cell_full b S kdT _ _ _ _ _ _ hu⟩
theorem fold9 : FoldOf 9 kdT (acc0 9 0) st9 (FN 9) where
  op := funcs_Open9
  zero := ⟨rfl, rfl, ⟨by decide, by decide⟩, ⟨by decide, by decide⟩, by decide, by decide⟩
  step := by
    intro k S x hk h hx
    have hc := h.c1
    unfold st9
    cases hu : S.full
    · simp only [Bool.false_eq_true, if_false]
      by_cases h0 : x.n = 0
      · rw [if_pos h0]
        refine ⟨⟨h.fn, h.wants, h.n, h.d, h.c0, by omega⟩, fun b => cellT b S _ x hx hu h.wants ?_⟩
        rw [h0]
        exact takesTruth_stay9 b S kdT h.fn
      · rw [if_neg h0]
        refine ⟨⟨h.fn, h.wants, h.n, h.d, h.c0, by simp only; omega⟩, fun b => cellT b S _ x hx hu h.wants ?_⟩
        rw [ne_true h0]
        exact takesTruth_end9 b S kdT h.fn
    · simp only [if_true]
      exact ⟨⟨h.fn, h.wants, h.n, h.d, h.c0, by omega⟩, fun b => acc_Cell_full b S kdT _ _ _ _ _ _ hu⟩
theorem fold10 : FoldOf 10 kdT (acc0 10 0) st10 (FN 10) where
  op := funcs_Open10
  zero := ⟨rfl, rfl, ⟨by decide, by decide⟩, ⟨by decide, by decide⟩, by decide, by decide⟩
  step := by
    intro k S x hk h hx
    have hc := h.c1
    have hc0 := h.c0
    unfold st10
    cases hu : S.full
    · simp only [Bool.false_eq_true, if_false]
      by_cases h0 : x.n = 0
      · rw [if_pos h0]
        refine ⟨⟨h.fn, h.wants, h.n, h.d, h.c0, by omega⟩, fun b => cellT b S _ x hx hu h.wants ?_⟩
        rw [h0]
        exact takesTruth_stay10 b S kdT h.fn
      · rw [if_neg h0]
        refine ⟨⟨h.fn, h.wants, h.n, h.d, by simp only; omega, by simp only; omega⟩, fun b => ?_⟩
        have hm := takesTruth_more b S kdT h.fn hc0 (by omega)
        rw [← ne_true h0] at hm
        rw [hu] at hm
        exact cellT b S _ x hx hu h.wants hm
    · simp only [if_true]
      exact ⟨⟨h.fn, h.wants, h.n, h.d, h.c0, by omega⟩, fun b => acc_Cell_full b S kdT _ _ _ _ _ _ hu⟩

/-! what they come to -/
def prodV (l : List Nm) : Vl := if (prodB l).ok then numF (prodB l).n (prodB l).d else faultF 4
def sqV (l : List Nm) : Vl := if (sqB l).ok then numF (sqB l).n (sqB l).d else faultF 4
theorem prodB_i64 (l : List Nm) : I64 (prodB l).n ∧ I64 (prodB l).d := by
  refine snocs (P := fun l => I64 (prodB l).n ∧ I64 (prodB l).d) ⟨⟨by decide, by decide⟩, ⟨by decide, by decide⟩⟩ ?_ l
  intro l x ih
  rw [prodB_snoc]
  unfold mulB
  split
  · exact mul_i64 _ _ _ _
  · exact ih
theorem sqB_i64 (l : List Nm) : I64 (sqB l).n ∧ I64 (sqB l).d := by
  refine snocs (P := fun l => I64 (sqB l).n ∧ I64 (sqB l).d) ⟨⟨by decide, by decide⟩, ⟨by decide, by decide⟩⟩ ?_ l
  intro l x ih
  rw [sqB_snoc]
  unfold sqB1
  split
  · split
    · exact add_i64 _ _ _ _
    · exact ⟨⟨by decide, by decide⟩, ⟨by decide, by decide⟩⟩
  · exact ih
theorem res2 (l : List Nm) (p : Nat) (w : World) (hA : Blk w p (accArr (accF st2 (acc0 2 1) l) kdN) 104) :
    Calls Tryz.prog 28 #[.pointer (some ⟨p, 0, none⟩)] w fun e w' => e = .returned (.agg #[.int .i64 (prodV l).k, .int .i64 (prodV l).n, .int .i64 (prodV l).d, .string (prodV l).t, .bool (prodV l).b, .int .i64 (prodV l).f]) ∧ Below w.heap.size w w' := by
  have h := acc2_ok l
  unfold prodV
  cases hk : (prodB l).ok
  · obtain ⟨hf, hv⟩ := h.2 hk
    have R := acc_Result_full p _ kdN w hA hf
    rw [hv] at R
    exact R
  · rw [h.1 hk] at hA
    exact acc_Result2 p _ w hA rfl rfl (prodB_i64 l).1 (prodB_i64 l).2
theorem res12 (l : List Nm) (p : Nat) (w : World) (hA : Blk w p (accArr (accF st12 (acc0 12 0) l) kdN) 104) :
    Calls Tryz.prog 28 #[.pointer (some ⟨p, 0, none⟩)] w fun e w' => e = .returned (.agg #[.int .i64 (sqV l).k, .int .i64 (sqV l).n, .int .i64 (sqV l).d, .string (sqV l).t, .bool (sqV l).b, .int .i64 (sqV l).f]) ∧ Below w.heap.size w w' := by
  have h := acc12_ok l
  unfold sqV
  cases hk : (sqB l).ok
  · obtain ⟨hf, hv⟩ := h.2 hk
    have R := acc_Result_full p _ kdN w hA hf
    rw [hv] at R
    exact R
  · rw [h.1 hk] at hA
    exact acc_Result12 p _ w hA rfl rfl (sqB_i64 l).1 (sqB_i64 l).2
theorem res8 (l : List Nm) (p : Nat) (w : World) (hA : Blk w p (accArr (accF st8 (acc0 8 0) l) kdT) 104) :
    Calls Tryz.prog 28 #[.pointer (some ⟨p, 0, none⟩)] w fun e w' => e = .returned (.agg #[.int .i64 (truthV (andB l)).k, .int .i64 (truthV (andB l)).n, .int .i64 (truthV (andB l)).d, .string (truthV (andB l)).t, .bool (truthV (andB l)).b, .int .i64 (truthV (andB l)).f]) ∧ Below w.heap.size w w' := by
  have h := acc8_ok l
  cases hk : andB l
  · obtain ⟨hf, hv⟩ := h.2 hk
    have R := acc_Result_full p _ kdT w hA hf
    rw [hv] at R
    exact R
  · rw [h.1 hk] at hA
    exact acc_Result8 p _ w hA rfl rfl
theorem res9 (l : List Nm) (p : Nat) (w : World) (hA : Blk w p (accArr (accF st9 (acc0 9 0) l) kdT) 104) :
    Calls Tryz.prog 28 #[.pointer (some ⟨p, 0, none⟩)] w fun e w' => e = .returned (.agg #[.int .i64 (truthV (orB l)).k, .int .i64 (truthV (orB l)).n, .int .i64 (truthV (orB l)).d, .string (truthV (orB l)).t, .bool (truthV (orB l)).b, .int .i64 (truthV (orB l)).f]) ∧ Below w.heap.size w w' := by
  have h := acc9_ok l
  cases hk : orB l
  · rw [h.1 hk] at hA
    exact acc_Result9 p _ w hA rfl rfl
  · obtain ⟨hf, hv⟩ := h.2 hk
    have R := acc_Result_full p _ kdT w hA hf
    rw [hv] at R
    exact R
theorem res10 (l : List Nm) (hl : l.length ≤ 1000000) (p : Nat) (w : World) (hA : Blk w p (accArr (accF st10 (acc0 10 0) l) kdT) 104) :
    Calls Tryz.prog 28 #[.pointer (some ⟨p, 0, none⟩)] w fun e w' => e = .returned (.agg #[.int .i64 (truthV (xorB l)).k, .int .i64 (truthV (xorB l)).n, .int .i64 (truthV (xorB l)).d, .string (truthV (xorB l)).t, .bool (truthV (xorB l)).b, .int .i64 (truthV (xorB l)).f]) ∧ Below w.heap.size w w' := by
  rw [acc10_ok] at hA
  have hb := xorC_bd l
  have R := acc_Result10 p _ w hA rfl rfl hb.1 (by have := hb.2; simp only; omega)
  have e : (((xorC l) % 2 == 1) : Bool) = xorB l := by unfold xorB; rw [Int.tmod_eq_emod_of_nonneg hb.1, Bool.eq_iff_iff]; simp
  simp only [e] at R
  exact R

/-- A fold of numbers, what it comes to, and the operation that puts two rows together. -/
structure FoldK (K op : Int) (kd : Value) (S : List Nm → AccS) (R : List Nm → Vl) : Prop where
  fold : ∀ (ms : List Nm), (∀ y ∈ ms, RtN y) → ms.length ≤ 1000000 → ∀ (xa : Option Addr) (xc : Nat) (wx : World), RowAt wx xa ms →
    Calls Tryz.prog 27 #[.int .i64 K, .slice xa ms.length xc] wx fun e w' => e = .returned (.pointer (some ⟨wx.heap.size, 0, none⟩)) ∧ Blk w' wx.heap.size (accArr (S ms) kd) 104 ∧ Below wx.heap.size wx w'
  res : ∀ (ms : List Nm), ms.length ≤ 1000000 → ∀ (p : Nat) (w : World), Blk w p (accArr (S ms) kd) 104 →
    Calls Tryz.prog 28 #[.pointer (some ⟨p, 0, none⟩)] w fun e w' => e = .returned (.agg #[.int .i64 (R ms).k, .int .i64 (R ms).n, .int .i64 (R ms).d, .string (R ms).t, .bool (R ms).b, .int .i64 (R ms).f]) ∧ Below w.heap.size w w'
  bin : ∀ (l r : List Nm), (∀ y ∈ l, RtN y) → (∀ y ∈ r, RtN y) → l.length + r.length ≤ 1000000 → (R l).k = 1 → (R r).k = 1 → (R (l ++ r)).k = 1 → ∀ w : World,
    Calls Tryz.prog 32 #[.int .i64 op, .agg #[.int .i64 (R l).k, .int .i64 (R l).n, .int .i64 (R l).d, .string (R l).t, .bool (R l).b, .int .i64 (R l).f], .agg #[.int .i64 (R r).k, .int .i64 (R r).n, .int .i64 (R r).d, .string (R r).t, .bool (R r).b, .int .i64 (R r).f]] w fun e w' => e = .returned (.agg #[.int .i64 (R (l ++ r)).k, .int .i64 (R (l ++ r)).n, .int .i64 (R (l ++ r)).d, .string (R (l ++ r)).t, .bool (R (l ++ r)).b, .int .i64 (R (l ++ r)).f]) ∧ Below w.heap.size w w'
theorem sumV_ok {l : List Nm} (h : (sumV l).k = 1) : (sumB l).ok = true := by
  cases hk : (sumB l).ok
  · unfold sumV at h
    rw [hk] at h
    cases h
  · rfl
theorem prodV_ok {l : List Nm} (h : (prodV l).k = 1) : (prodB l).ok = true := by
  cases hk : (prodB l).ok
  · unfold prodV at h
    rw [hk] at h
    cases h
  · rfl
theorem sqV_ok {l : List Nm} (h : (sqV l).k = 1) : (sqB l).ok = true := by
  cases hk : (sqB l).ok
  · unfold sqV at h
    rw [hk] at h
    cases h
  · rfl
theorem numF_of {n d : Int} (h : rightN n d = true) : numF n d = numV n d := by unfold numF; rw [tk_of h]
theorem foldK1 : FoldK 1 11 kdN (accF st1 (acc0 1 0)) sumV where
  fold ms hms hb xa xc wx h := law_foldG fold1 ms hms xa ms.length xc rfl hb wx h
  res ms _ p w hA := res1 ms p w hA
  bin l r hl hr hb h1 h2 h3 w := by
    have k1 := sumV_ok h1
    have k2 := sumV_ok h2
    have k3 := sumV_ok h3
    have r1 := (sumB_exact hl k1).1
    have r2 := (sumB_exact hr k2).1
    have e1 : sumV l = numV (sumB l).n (sumB l).d := by unfold sumV; rw [if_pos k1, numF_of r1]
    have e2 : sumV r = numV (sumB r).n (sumB r).d := by unfold sumV; rw [if_pos k2, numF_of r2]
    have e3 : sumV (l ++ r) = toldB (add (sumB l).n (sumB l).d (sumB r).n (sumB r).d) := by rw [sum_parts hl hr k1 k2 k3]; unfold sumV toldB toldF; simp [k3]
    rw [e1, e2, e3]
    exact value_Bin11 _ _ _ _ w r1 r2
theorem foldK2 : FoldK 2 13 kdN (accF st2 (acc0 2 1)) prodV where
  fold ms hms hb xa xc wx h := law_foldG fold2 ms hms xa ms.length xc rfl hb wx h
  res ms _ p w hA := res2 ms p w hA
  bin l r hl hr hb h1 h2 h3 w := by
    have k1 := prodV_ok h1
    have k2 := prodV_ok h2
    have k3 := prodV_ok h3
    have r1 := (prodB_exact hl k1).1
    have r2 := (prodB_exact hr k2).1
    have e1 : prodV l = numV (prodB l).n (prodB l).d := by unfold prodV; rw [if_pos k1, numF_of r1]
    have e2 : prodV r = numV (prodB r).n (prodB r).d := by unfold prodV; rw [if_pos k2, numF_of r2]
    have e3 : prodV (l ++ r) = toldB (mul (prodB l).n (prodB l).d (prodB r).n (prodB r).d) := by rw [prod_parts hl hr k1 k2 k3]; unfold prodV toldB toldF; simp [k3]
    rw [e1, e2, e3]
    exact value_Bin13 _ _ _ _ w r1 r2
theorem foldK12 : FoldK 12 11 kdN (accF st12 (acc0 12 0)) sqV where
  fold ms hms hb xa xc wx h := law_foldG fold12 ms hms xa ms.length xc rfl hb wx h
  res ms _ p w hA := res12 ms p w hA
  bin l r hl hr hb h1 h2 h3 w := by
    have k1 := sqV_ok h1
    have k2 := sqV_ok h2
    have k3 := sqV_ok h3
    have r1 := (sqB_exact hl k1).1
    have r2 := (sqB_exact hr k2).1
    have e1 : sqV l = numV (sqB l).n (sqB l).d := by unfold sqV; rw [if_pos k1, numF_of r1]
    have e2 : sqV r = numV (sqB r).n (sqB r).d := by unfold sqV; rw [if_pos k2, numF_of r2]
    have e3 : sqV (l ++ r) = toldB (add (sqB l).n (sqB l).d (sqB r).n (sqB r).d) := by rw [sq_parts hl hr k1 k2 k3]; unfold sqV toldB toldF; simp [k3]
    rw [e1, e2, e3]
    exact value_Bin11 _ _ _ _ w r1 r2
theorem foldK3 : FoldK 3 11 kdC (accF stC (acc0 3 0)) (fun l => numF l.length 1) where
  fold ms hms hb xa xc wx h := law_foldG fold3 ms hms xa ms.length xc rfl hb wx h
  res ms hb p w hA := res3 ms hb p w hA
  bin l r hl hr hb h1 h2 h3 w := by
    have r1 : rightN (l.length : Int) 1 = true := right_whole (by omega) (by omega)
    have r2 : rightN (r.length : Int) 1 = true := right_whole (by omega) (by omega)
    have e3 : toldB (add (l.length : Int) 1 (r.length : Int) 1) = numF ((l ++ r).length : Int) 1 := by
      unfold add
      rw [tk_of r1, tk_of r2]
      simp only [Int.mul_one]
      rw [mk_whole (by omega) (by omega), List.length_append]
      unfold toldB toldF
      simp
    rw [← e3, numF_of r1, numF_of r2]
    exact value_Bin11 _ _ _ _ w r1 r2
end Go.Proofs.YtangdbjoflnobaaGreatDoor
