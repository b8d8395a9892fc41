/- Walks of the law's fold at MIN and MAX: what it keeps of a row of numbers. -/
import Derived.Test.YtangdbjoflnobaaGreatDoorAccF
import Derived.Test.YtangdbjoflnobaaGreatDoorLeastP
namespace Go.Proofs.YtangdbjoflnobaaGreatDoor
open Go Go.RowKit
set_option linter.unusedSimpArgs false
set_option linter.unusedVariables false

/-- A fold of numbers behind a row. -/
def accB (K side : Int) (l : List Nm) : AccS := if l = [] then acc0 K 0 else { acc0 K 0 with n := (best side l).n, d := (best side l).d, has := true }
theorem best_snoc (side : Int) {l : List Nm} (h : l ≠ []) (x : Nm) : best side (l ++ [x]) = stepQ side (best side l) x := by
  cases l with
  | nil => exact absurd rfl h
  | cons y r => show (r ++ [x]).foldl (stepQ side) y = _; rw [List.foldl_append]; rfl
theorem accB_step (K side : Int) (l : List Nm) (x : Nm) : (accB K side l).keep x.n x.d side = accB K side (l ++ [x]) := by
  by_cases h : l = []
  · subst h
    unfold accB AccS.keep
    simp [acc0, best]
  · have e1 : accB K side l = { acc0 K 0 with n := (best side l).n, d := (best side l).d, has := true } := by unfold accB; rw [if_neg h]
    have e2 : accB K side (l ++ [x]) = { acc0 K 0 with n := (best side (l ++ [x])).n, d := (best side (l ++ [x])).d, has := true } := by unfold accB; rw [if_neg (by simp)]
    rw [e1, e2, best_snoc side h]
    unfold AccS.keep stepQ
    by_cases hb : beyond side x (best side l)
    · rw [if_pos hb]
      exact if_pos (Or.inr hb)
    · rw [if_neg hb]
      exact if_neg (by rintro (h1 | h1); cases h1; exact hb h1)
theorem accB_i64 (K : Int) {side : Int} (hs : side = -1 ∨ side = 1) {l : List Nm} (hl : ∀ x ∈ l, RtN x) : I64 (accB K side l).n ∧ I64 (accB K side l).d := by
  unfold accB
  by_cases h : l = []
  · rw [if_pos h]; exact ⟨⟨by simp [acc0], by simp [acc0]⟩, ⟨by simp [acc0], by simp [acc0]⟩⟩
  · rw [if_neg h]
    have := rightN_iff.1 (best_spec hs hl h).2.1
    exact ⟨⟨by simp; omega, by simp; omega⟩, ⟨by simp; omega, by simp; omega⟩⟩
theorem RtN.i64 {x : Nm} (h : RtN x) : I64 x.n ∧ I64 x.d := by
  have := rightN_iff.1 h
  exact ⟨⟨by omega, by omega⟩, ⟨by omega, by omega⟩⟩
theorem accB_full (K side : Int) (l : List Nm) : (accB K side l).full = false := by unfold accB; split <;> rfl
theorem accB_wants (K side : Int) (l : List Nm) : (accB K side l).wants = false := by unfold accB; split <;> rfl
theorem accB_fn (K side : Int) (l : List Nm) : (accB K side l).fn = K := by unfold accB; split <;> rfl

/-- A row of numbers as values, six cells each. -/
def NumRow (w : World) (g : Nat) (ns : List Nm) : Prop := ∀ k x, ns[k]? = some x →
  w.cell? ⟨g, k * 6, none⟩ = some (.int .i64 1) ∧ w.cell? ⟨g, k * 6 + 1, none⟩ = some (.int .i64 x.n) ∧ w.cell? ⟨g, k * 6 + 2, none⟩ = some (.int .i64 x.d) ∧
  w.cell? ⟨g, k * 6 + 3, none⟩ = some (.string ⟨#[]⟩) ∧ w.cell? ⟨g, k * 6 + 4, none⟩ = some (.bool false) ∧ w.cell? ⟨g, k * 6 + 5, none⟩ = some (.int .i64 0)
theorem NumRow.below {w w' : World} {g : Nat} {ns : List Nm} (h : NumRow w g ns) (hg : g < w.heap.size) (hb : Below w.heap.size w w') : NumRow w' g ns := by
  intro k x hx
  obtain ⟨h0, h1, h2, h3, h4, h5⟩ := h k x hx
  have e := fun o => lcc hb g hg o
  exact ⟨(e _).trans h0, (e _).trans h1, (e _).trans h2, (e _).trans h3, (e _).trans h4, (e _).trans h5⟩

theorem but_below' {B B0 b : Nat} {w w' : World} (h : But B b w w') (h1 : B0 ≤ B) (h2 : B0 ≤ b) : Below B0 w w' :=
  ⟨h.os, h.tape, h.output, h.size, fun k hk => h.block k (by omega) (by omega)⟩

theorem cell_turns5 (b : Nat) (l : List Nm) (x : Nm) (hl : ∀ y ∈ l, RtN y) (hx : RtN x) :
    Turns 41 #[.pointer (some ⟨b, 0, none⟩), .agg #[.int .i64 1, .int .i64 x.n, .int .i64 x.d, .string ⟨#[]⟩, .bool false, .int .i64 0]] b (accB 5 (-1) l) (accB 5 (-1) (l ++ [x])) kdN := by
  have hr : rightV ⟨1, x.n, x.d, ⟨#[]⟩, false, 0⟩ = true := (rightV_num (n := x.n) (d := x.d)).trans hx
  refine acc_Cell b _ _ _ _ _ _ _ _ ⟨1, x.n, x.d, ⟨#[]⟩, false, 0⟩ (tkV_of hr).symm (right_in hr) (accB_full _ _ _) (accB_wants _ _ _) ?_
  refine numbers_cell1 b _ _ _ _ rfl ?_
  refine acc_takes5 b _ _ _ _ _ (accB_fn _ _ _) ?_
  rw [← accB_step]
  have h := accB_i64 5 (side := (-1)) (by decide) hl
  exact acc_least b _ kdN x.n x.d h.1 h.2 hx.i64.1 hx.i64.2

theorem res_best5 (l : List Nm) (hne : l ≠ []) (hl : ∀ y ∈ l, RtN y) (p : Nat) (w : World) (hA : Blk w p (accArr (accB 5 (-1) l) kdN) 104) :
    Calls Tryz.prog 28 #[.pointer (some ⟨p, 0, none⟩)] w fun e w' => e = .returned (.agg #[.int .i64 1, .int .i64 (best (-1) l).n, .int .i64 (best (-1) l).d, .string ⟨#[]⟩, .bool false, .int .i64 0]) ∧ Below w.heap.size w w' := by
  have h := accB_i64 5 (side := (-1)) (by decide) hl
  have hR := acc_Result5 p _ w hA (accB_full _ _ _) (accB_fn _ _ _) h.1 h.2
  have e1 : (accB 5 (-1) l).n = (best (-1) l).n := by unfold accB; rw [if_neg hne]
  have e2 : (accB 5 (-1) l).d = (best (-1) l).d := by unfold accB; rw [if_neg hne]
  have e3 : numF (best (-1) l).n (best (-1) l).d = numV (best (-1) l).n (best (-1) l).d := by
    unfold numF; rw [tk_of (best_spec (side := (-1)) (by decide) hl hne).2.1]
  rw [e1, e2, e3] at hR
  exact hR

set_option maxHeartbeats 2000000 in
theorem law_fold5 (ns : List Nm) (hl : ∀ y ∈ ns, RtN y) (g n cap : Nat) (hn : ns.length = n) (hnb : n ≤ 1000000) (w : World) (hg : g < w.heap.size) (hr : NumRow w g ns) :
    Calls Tryz.prog 27 #[.int .i64 5, .slice (some ⟨g, 0, none⟩) n cap] w fun e w' => e = .returned (.pointer (some ⟨w.heap.size, 0, none⟩)) ∧ Blk w' w.heap.size (accArr (accB 5 (-1) ns) kdN) 104 ∧ Below w.heap.size w w' := by
  have HR := Lib.hid hr
  have HL := Lib.hid hl
  clear hr hl
  go_enter Tryz.func27, Tryz.ntmps27
  go_wp2_with fail
  refine (funcs_Open5 _).mono ?_
  rintro e w1 ⟨rfl, A1, hb⟩
  go_wp2
  go_loopw [7] (fun i wr => ∃ k : Nat, k ≤ n ∧ i = .int .i64 k ∧ Blk wr w.heap.size (accArr (accB 5 (-1) (ns.take k)) kdN) 104 ∧ Below w.heap.size w wr) (fun i _ => n - (intOf i).toNat)
  case atStart => exact ⟨0, by omega, rfl, A1, hb⟩
  case round =>
    clear A1 hb
    obtain ⟨k, hk, rfl, A, hbk⟩ := hrel
    by_cases hlt : k < n
    · obtain ⟨x, hx⟩ : ∃ x, ns[k]? = some x := ⟨_, List.getElem?_eq_getElem (by omega)⟩
      obtain ⟨c0, c1, c2, c3, c4, c5⟩ := (HR.out.below hg hbk) k x hx
      have hxr : RtN x := HL.out x (List.mem_of_getElem? hx)
      have HT := cell_turns5 w.heap.size (ns.take k) x (fun y hy => HL.out y (List.mem_of_mem_take hy)) hxr
      have HA := Lib.hid A
      have hlA := A.lt
      have hsk := hbk.size
      have HB := Lib.hid hbk
      have HX := Lib.hid hx
      clear A hbk hx hxr
      go_wp2_with fail
      refine (HT.out _ HA.out).mono ?_
      rintro e w2 ⟨rfl, A2, hb2⟩
      go_wp2
      go_roundw
      case rel =>
        refine ⟨k + 1, by omega, by go_num, ?_, HB.out.trans (but_below' hb2 (by have := HB.out.size; omega) (Nat.le_refl _))⟩
        have e1 : ns.take (k + 1) = ns.take k ++ [x] := by rw [List.take_add_one, HX.out]; rfl
        rw [e1]; exact A2
      case measure => simp [intOf]; omega
    · obtain rfl : k = n := by omega
      go_wp2
      go_ret
      refine ⟨rfl, ?_, hbk⟩
      rw [List.take_of_length_le (by omega)] at A
      exact A
theorem cell_turns6 (b : Nat) (l : List Nm) (x : Nm) (hl : ∀ y ∈ l, RtN y) (hx : RtN x) :
    Turns 41 #[.pointer (some ⟨b, 0, none⟩), .agg #[.int .i64 1, .int .i64 x.n, .int .i64 x.d, .string ⟨#[]⟩, .bool false, .int .i64 0]] b (accB 6 1 l) (accB 6 1 (l ++ [x])) kdN := by
  have hr : rightV ⟨1, x.n, x.d, ⟨#[]⟩, false, 0⟩ = true := (rightV_num (n := x.n) (d := x.d)).trans hx
  refine acc_Cell b _ _ _ _ _ _ _ _ ⟨1, x.n, x.d, ⟨#[]⟩, false, 0⟩ (tkV_of hr).symm (right_in hr) (accB_full _ _ _) (accB_wants _ _ _) ?_
  refine numbers_cell1 b _ _ _ _ rfl ?_
  refine acc_takes6 b _ _ _ _ _ (accB_fn _ _ _) ?_
  rw [← accB_step]
  have h := accB_i64 6 (side := 1) (by decide) hl
  exact acc_greatest b _ kdN x.n x.d h.1 h.2 hx.i64.1 hx.i64.2

theorem res_best6 (l : List Nm) (hne : l ≠ []) (hl : ∀ y ∈ l, RtN y) (p : Nat) (w : World) (hA : Blk w p (accArr (accB 6 1 l) kdN) 104) :
    Calls Tryz.prog 28 #[.pointer (some ⟨p, 0, none⟩)] w fun e w' => e = .returned (.agg #[.int .i64 1, .int .i64 (best 1 l).n, .int .i64 (best 1 l).d, .string ⟨#[]⟩, .bool false, .int .i64 0]) ∧ Below w.heap.size w w' := by
  have h := accB_i64 6 (side := 1) (by decide) hl
  have hR := acc_Result6 p _ w hA (accB_full _ _ _) (accB_fn _ _ _) h.1 h.2
  have e1 : (accB 6 1 l).n = (best 1 l).n := by unfold accB; rw [if_neg hne]
  have e2 : (accB 6 1 l).d = (best 1 l).d := by unfold accB; rw [if_neg hne]
  have e3 : numF (best 1 l).n (best 1 l).d = numV (best 1 l).n (best 1 l).d := by
    unfold numF; rw [tk_of (best_spec (side := 1) (by decide) hl hne).2.1]
  rw [e1, e2, e3] at hR
  exact hR

set_option maxHeartbeats 2000000 in
theorem law_fold6 (ns : List Nm) (hl : ∀ y ∈ ns, RtN y) (g n cap : Nat) (hn : ns.length = n) (hnb : n ≤ 1000000) (w : World) (hg : g < w.heap.size) (hr : NumRow w g ns) :
    Calls Tryz.prog 27 #[.int .i64 6, .slice (some ⟨g, 0, none⟩) n cap] w fun e w' => e = .returned (.pointer (some ⟨w.heap.size, 0, none⟩)) ∧ Blk w' w.heap.size (accArr (accB 6 1 ns) kdN) 104 ∧ Below w.heap.size w w' := by
  have HR := Lib.hid hr
  have HL := Lib.hid hl
  clear hr hl
  go_enter Tryz.func27, Tryz.ntmps27
  go_wp2_with fail
  refine (funcs_Open6 _).mono ?_
  rintro e w1 ⟨rfl, A1, hb⟩
  go_wp2
  go_loopw [7] (fun i wr => ∃ k : Nat, k ≤ n ∧ i = .int .i64 k ∧ Blk wr w.heap.size (accArr (accB 6 1 (ns.take k)) kdN) 104 ∧ Below w.heap.size w wr) (fun i _ => n - (intOf i).toNat)
  case atStart => exact ⟨0, by omega, rfl, A1, hb⟩
  case round =>
    clear A1 hb
    obtain ⟨k, hk, rfl, A, hbk⟩ := hrel
    by_cases hlt : k < n
    · obtain ⟨x, hx⟩ : ∃ x, ns[k]? = some x := ⟨_, List.getElem?_eq_getElem (by omega)⟩
      obtain ⟨c0, c1, c2, c3, c4, c5⟩ := (HR.out.below hg hbk) k x hx
      have hxr : RtN x := HL.out x (List.mem_of_getElem? hx)
      have HT := cell_turns6 w.heap.size (ns.take k) x (fun y hy => HL.out y (List.mem_of_mem_take hy)) hxr
      have HA := Lib.hid A
      have hlA := A.lt
      have hsk := hbk.size
      have HB := Lib.hid hbk
      have HX := Lib.hid hx
      clear A hbk hx hxr
      go_wp2_with fail
      refine (HT.out _ HA.out).mono ?_
      rintro e w2 ⟨rfl, A2, hb2⟩
      go_wp2
      go_roundw
      case rel =>
        refine ⟨k + 1, by omega, by go_num, ?_, HB.out.trans (but_below' hb2 (by have := HB.out.size; omega) (Nat.le_refl _))⟩
        have e1 : ns.take (k + 1) = ns.take k ++ [x] := by rw [List.take_add_one, HX.out]; rfl
        rw [e1]; exact A2
      case measure => simp [intOf]; omega
    · obtain rfl : k = n := by omega
      go_wp2
      go_ret
      refine ⟨rfl, ?_, hbk⟩
      rw [List.take_of_length_le (by omega)] at A
      exact A
end Go.Proofs.YtangdbjoflnobaaGreatDoor
