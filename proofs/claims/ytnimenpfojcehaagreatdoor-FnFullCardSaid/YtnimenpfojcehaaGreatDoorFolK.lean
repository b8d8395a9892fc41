/- Plain laws of all folds and searches: a state that may be stays one; what it comes to counts; no program in sight. -/
import Derived.Test.YtnimenpfojcehaaGreatDoorFolJ
import Derived.Test.YtnimenpfojcehaaGreatDoorBx2
namespace Go.Proofs.YtnimenpfojcehaaGreatDoor
open Go Go.RowKit
set_option linter.unusedSimpArgs false
set_option linter.unusedVariables false

theorem mul_ok_right {n d m e : Int} (h1 : rightN n d = true) (h2 : rightN m e = true) (h : (mul n d m e).ok = true) : rightN (mul n d m e).n (mul n d m e).d = true :=
  (mul_right' (x := ⟨n, d⟩) (y := ⟨m, e⟩) h1 h2 h).1
theorem add_ok_right {n d m e : Int} (h : (add n d m e).ok = true) : rightN (add n d m e).n (add n d m e).d = true := mk_ok_right h
theorem asNum_e_right (x : Vl) : rightV (asNum x).e = true := by
  have h := tkV_right x
  unfold asNum
  generalize tkV x = v at *
  unfold asNumT
  repeat' split
  all_goals first | exact h | rfl
theorem asNum_n_right {x : Vl} (h4 : ¬ (asNum x).e.k = 4) : rightN (asNum x).n (asNum x).d = true := by
  have h := tkV_right x
  unfold asNum at h4 ⊢
  generalize tkV x = v at *
  unfold asNumT at h4 ⊢
  split
  · rename_i h1
    unfold rightV at h
    rw [if_neg (by omega), if_pos h1] at h
    simp only [Bool.and_eq_true] at h
    exact h.1
  · rename_i h1
    rw [if_neg h1] at h4
    split
    · split <;> decide
    · rename_i h3
      rw [if_neg h3] at h4
      split
      · decide
      · rename_i h0
        rw [if_neg h0] at h4
        split
        · rename_i h2
          rw [if_pos h2] at h4
          split
          · rename_i hr; exact readN_right hr
          · rename_i hr; rw [if_neg hr] at h4; exact absurd rfl h4
        · rename_i h2
          rw [if_neg h2] at h4
          exfalso
          unfold rightV at h
          rw [if_neg h0, if_neg h1, if_neg h2, if_neg h3, if_neg h4] at h
          cases h
theorem asTru_e_right (x : Vl) : rightV (asTru x).e = true := by
  have h := tkV_right x
  unfold asTru
  generalize tkV x = v at *
  unfold asTruT
  repeat' split
  all_goals first | exact h | rfl
theorem joinV_right (a b : Vl) : rightV (joinV a b) = true := by
  unfold joinV
  split
  · exact tkV_right a
  split
  · exact tkV_right b
  exact right_text _
theorem num_right_of {x : Vl} (h : rightV x = true) (hk : x.k = 1) : rightN x.n x.d = true := by
  unfold rightV at h
  rw [if_neg (by omega), if_pos hk] at h
  simp only [Bool.and_eq_true] at h
  exact h.1
theorem wholeF_right (n : Int) : rightV (wholeF n) = true := right_told _ _ _

theorem OkS.up {S : AccS} {m k : Int} (h : OkS S m) (hk : m ≤ k) : OkS S k := ⟨h.fn, h.c0, Int.le_trans h.c1 hk, h.nd, h.v, h.nl, h.w0, h.w1, h.gcd⟩
theorem OkS.more {S : AccS} {m : Int} (h : OkS S m) : OkS { S with count := S.count + 1 } (m + 1) :=
  ⟨h.fn, by have := h.c0; show 0 ≤ S.count + 1; omega, by have := h.c1; show S.count + 1 ≤ m + 1; omega, h.nd, h.v, h.nl, h.w0, h.w1, h.gcd⟩
theorem OkS.ends {S : AccS} {m : Int} (h : OkS S m) (hw : S.wants = false) {v : Vl} (hv : rightV v = true) : OkS (S.ends v) m :=
  ⟨h.fn, h.c0, h.c1, h.nd, hv, h.nl, h.w0, fun e => absurd (hw.symm.trans e) (by decide), h.gcd⟩
theorem OkS.num {S : AccS} {m n d : Int} (h : OkS S m) (hr : rightN n d = true) (hg : S.fn = 13 → d = 1 ∧ 0 ≤ n) : OkS { S with n := n, d := d } m :=
  ⟨h.fn, h.c0, h.c1, hr, h.v, h.nl, h.w0, h.w1, hg⟩
theorem OkS.sets {S : AccS} {m : Int} (h : OkS S m) (hw : S.wants = false) {r : NmB} (hr : r.ok = true → rightN r.n r.d = true) (h13 : ¬ S.fn = 13) : OkS (S.sets r) m := by
  unfold AccS.sets
  split
  · rename_i hok; exact h.num (hr hok) fun e => absurd e h13
  · exact h.ends hw (right_fault 4)
theorem OkS.one {S : AccS} {m : Int} (h : OkS S m) (hw : S.wants = false) {r : NmB} (hr : r.ok = true → rightN r.n r.d = true) (h13 : ¬ S.fn = 13) : OkS (S.one r) (m + 1) := by
  unfold AccS.one
  split
  · rename_i hok; exact (h.num (hr hok) fun e => absurd e h13).more
  · exact (h.ends hw (right_fault 4)).up (by omega)
theorem OkS.square {S : AccS} {m : Int} (h : OkS S m) (hw : S.wants = false) {r : NmB} (h13 : ¬ S.fn = 13) : OkS (S.square r) m := by
  unfold AccS.square
  split
  · exact h.sets hw add_ok_right h13
  · exact h.ends hw (right_fault 4)
theorem OkS.keep {S : AccS} {m n d s : Int} (h : OkS S m) (hr : rightN n d = true) (h13 : ¬ S.fn = 13) : OkS (S.keep n d s) m := by
  unfold AccS.keep
  split
  · exact ⟨h.fn, h.c0, h.c1, hr, h.v, h.nl, h.w0, h.w1, fun e => absurd e h13⟩
  · exact ⟨h.fn, h.c0, h.c1, h.nd, h.v, h.nl, h.w0, h.w1, h.gcd⟩
theorem OkS.divides {S : AccS} {m n d : Int} (h : OkS S m) (hw : S.wants = false) : OkS (S.divides n d) m := by
  unfold AccS.divides
  split
  · have b1 := whole_abs_bd n d
    have b2 := whole_abs_bd S.n S.d
    refine h.num ?_ fun _ => ⟨rfl, by omega⟩
    generalize wholeN (absN n d).n (absN n d).d = x at *
    generalize wholeN (absN S.n S.d).n (absN S.n S.d).d = y at *
    rw [rightN_iff]
    have hg : Nat.gcd x.natAbs y.natAbs ≤ 1000000000000 := by
      by_cases hx : x.natAbs = 0
      · rw [hx, Nat.gcd_zero_left]; omega
      · exact Nat.le_trans (Nat.gcd_le_left _ (by omega)) (by omega)
    refine ⟨by omega, by omega, by omega, by omega, by simp⟩
  · exact h.ends hw (right_fault 8)
theorem OkS.takes {S : AccS} {m n d : Int} (h : OkS S m) (hw : S.wants = false) (hr : rightN n d = true) (hf : S.fn = 1 ∨ S.fn = 2 ∨ S.fn = 5 ∨ S.fn = 6 ∨ S.fn = 7 ∨ S.fn = 12 ∨ S.fn = 13) : OkS (S.takes n d) (m + 1) := by
  have hu : m ≤ m + 1 := by omega
  unfold AccS.takes
  split
  · exact (h.sets hw add_ok_right (by omega)).up hu
  split
  · exact (h.square hw (by omega)).up hu
  split
  · exact h.one hw add_ok_right (by omega)
  split
  · exact (h.sets hw (mul_ok_right h.nd hr) (by omega)).up hu
  split
  · exact (h.keep hr (by omega)).up hu
  split
  · exact (h.keep hr (by omega)).up hu
  · exact (h.divides hw).up hu
theorem OkS.says {S : AccS} {m : Int} (h : OkS S m) (hw : S.wants = false) (b : Bool) : OkS (S.says b) (m + 1) := by
  have hu : m ≤ m + 1 := by omega
  unfold AccS.says
  repeat' split
  · exact h.more
  · exact h.up hu
  · exact h.up hu
  · exact (h.ends hw (right_truth _)).up hu
  · exact (h.ends hw (right_truth _)).up hu
  · exact h.up hu
theorem OkS.feedT {S : AccS} {m : Int} (h : OkS S m) (hw : S.wants = false) (x : Vl) : OkS (S.feedT x) (m + 1) := by
  have hu : m ≤ m + 1 := by omega
  unfold AccS.feedT
  split
  · exact h.up hu
  split
  · exact (h.ends hw (asTru_e_right x)).up hu
  · exact h.says hw _
theorem OkS.cellT {S : AccS} {m : Int} (h : OkS S m) (hw : S.wants = false) (x : Vl) : OkS (S.cellT x) (m + 1) := by
  unfold AccS.cellT
  split
  · exact h.up (by omega)
  · exact h.feedT hw x
theorem OkS.feedC {S : AccS} {m : Int} (h : OkS S m) (x : Vl) : OkS (S.feedC x) (m + 1) := by
  unfold AccS.feedC
  split
  · exact h.more
  · exact h.up (by omega)
theorem OkS.cellC {S : AccS} {m : Int} (h : OkS S m) (x : Vl) : OkS (S.cellC x) (m + 1) := by
  unfold AccS.cellC
  split
  · exact h.more
  · exact h.up (by omega)
theorem OkS.feedV {S : AccS} {m : Int} (h : OkS S m) (hw : S.wants = false) {x : Vl} (hx : rightV x = true) : OkS (S.feedV x) (m + 1) := by
  have hu : m ≤ m + 1 := by omega
  unfold AccS.feedV
  split
  · exact h.up hu
  split
  · exact (h.ends hw hx).up hu
  split
  · exact ⟨h.fn, h.c0, Int.le_trans h.c1 hu, h.nd, hx, h.nl, h.w0, h.w1, h.gcd⟩
  · exact ⟨h.fn, h.c0, Int.le_trans h.c1 hu, h.nd, joinV_right _ _, h.nl, h.w0, fun e => absurd (hw.symm.trans e) (by decide), h.gcd⟩
theorem OkS.feedS {S : AccS} {m : Int} (h : OkS S m) (hw : S.wants = false) {x : Vl} (hx : rightV x = true) : OkS (S.feedS x) (m + 1) := by
  have hu : m ≤ m + 1 := by omega
  unfold AccS.feedS
  repeat' split
  · exact h.up hu
  · exact ⟨h.fn, h.c0, Int.le_trans h.c1 hu, h.nd, hx, hx, h.w0, fun e => absurd (hw.symm.trans e) (by decide), h.gcd⟩
  · exact ⟨h.fn, h.c0, Int.le_trans h.c1 hu, h.nd, h.v, hx, h.w0, h.w1, h.gcd⟩
theorem OkS.feedN {S : AccS} {m : Int} (h : OkS S m) (hw : S.wants = false) (x : Vl) (hf : S.fn = 1 ∨ S.fn = 2 ∨ S.fn = 5 ∨ S.fn = 6 ∨ S.fn = 7 ∨ S.fn = 12 ∨ S.fn = 13) : OkS (S.feedN x) (m + 1) := by
  have hu : m ≤ m + 1 := by omega
  unfold AccS.feedN
  split
  · exact h.up hu
  split
  · exact (h.ends hw (asNum_e_right x)).up hu
  · rename_i h4; exact h.takes hw (asNum_n_right h4) hf
theorem OkS.cellN {S : AccS} {m : Int} (h : OkS S m) (hw : S.wants = false) {x : Vl} (hx : rightV x = true) (hf : S.fn = 1 ∨ S.fn = 2 ∨ S.fn = 5 ∨ S.fn = 6 ∨ S.fn = 7 ∨ S.fn = 12 ∨ S.fn = 13) : OkS (S.cellN x) (m + 1) := by
  have hu : m ≤ m + 1 := by omega
  unfold AccS.cellN
  split
  · rename_i hk; exact h.takes hw (num_right_of hx hk) hf
  split
  · exact (h.ends hw hx).up hu
  · exact h.up hu
theorem OkS.cellM {S : AccS} {m : Int} (h : OkS S m) (hw : S.wants = false) (x : Vl) : OkS (S.cellM x) (m + 1) := by
  unfold AccS.cellM
  split
  · exact h.more.ends hw (wholeF_right _)
  · exact h.more
theorem OkS.asks {S : AccS} {m : Int} (h : OkS S m) (hu : S.full = false) (hw : S.wants = false) (hf : S.fn = 22 ∨ S.fn = 23) (b : Bool) : OkS { S with wants := b } (m + 1) :=
  ⟨h.fn, h.c0, Int.le_trans h.c1 (by omega), h.nd, h.v, h.nl, fun _ => h.w0 hw, fun _ => ⟨hu, Or.inr ⟨hf, h.w0 hw⟩⟩, h.gcd⟩
theorem OkS.cellP {S : AccS} {m : Int} (h : OkS S m) (hu : S.full = false) (hw : S.wants = false) (hf : S.fn = 24) {x : Vl} (hx : rightV x = true) : OkS (S.cellP x) (m + 1) := by
  unfold AccS.cellP
  split
  · rename_i hk
    exact ⟨h.fn, h.c0, Int.le_trans h.c1 (by omega), h.nd, h.v, h.nl, fun e => (by cases e), fun _ => ⟨hu, Or.inl ⟨hf, num_right_of hx hk⟩⟩, h.gcd⟩
  split
  · exact (h.ends hw hx).up (by omega)
  · exact h.up (by omega)
theorem OkS.served {S : AccS} {m : Int} (h : OkS S m) : OkS S.served m := ⟨h.fn, h.c0, h.c1, h.nd, h.v, h.nl, fun _ => ⟨rfl, rfl⟩, fun e => (by cases e), h.gcd⟩
theorem OkS.pairN {S : AccS} {m : Int} (h : OkS S m) (hw : S.wants = false) {x : Vl} (hx : rightV x = true) (h13 : ¬ S.fn = 13) : OkS (S.pairN x) m := by
  unfold AccS.pairN
  split
  · exact h.sets hw add_ok_right h13
  split
  · exact h.ends hw hx
  · exact h

theorem OkS.fed {S : AccS} {m : Int} (h : OkS S m) (v : Vl) : OkS (S.fedG v) (m + 1) := by
  have hx := tkV_right v
  unfold AccS.fedG
  split
  · exact h.up (by omega)
  split
  · exact h.up (by omega)
  rename_i hu hw
  have hw' : S.wants = false := by simpa using hw
  unfold AccS.fedK
  split
  · exact h.feedT hw' _
  split
  · exact h.feedC _
  split
  · exact h.feedV hw' hx
  split
  · exact h.feedS hw' hx
  split
  · exact h.up (by omega)
  · refine h.feedN hw' _ ?_
    have := h.fn; unfold IsFold at this; omega
theorem OkS.cel {S : AccS} {m : Int} (h : OkS S m) (N : NmS) (v : Vl) : OkS (S.celG N v) (m + 1) := by
  have hx := tkV_right v
  unfold AccS.celG
  split
  · exact h.up (by omega)
  split
  · exact h.up (by omega)
  rename_i hu hw
  have hu' : S.full = false := by simpa using hu
  have hw' : S.wants = false := by simpa using hw
  unfold AccS.celK
  split
  · exact h.cellT hw' _
  split
  · exact h.cellC _
  split
  · exact h.feedV hw' hx
  split
  · exact h.cellM hw' _
  split
  · split
    · exact h.more
    · exact h.up (by omega)
  split
  · exact h.asks hu' hw' (by omega) _
  split
  · exact h.asks hu' hw' (by omega) _
  split
  · exact h.cellP hu' hw' (by assumption) hx
  · refine h.cellN hw' hx ?_
    have := h.fn; unfold IsFold at this; omega
theorem OkS.par {S : AccS} {m : Int} (h : OkS S m) (v : Vl) : OkS (S.parG v) (m + 1) := by
  have hx := tkV_right v
  unfold AccS.parG
  split
  · exact h.up (by omega)
  split
  · exact h.up (by omega)
  unfold AccS.parK
  split
  · rename_i hf; exact (h.served.pairN rfl hx (by show ¬ S.fn = 13; omega)).up (by omega)
  split
  · exact (h.served.ends rfl hx).up (by omega)
  split
  · rename_i hf
    have h13 : ¬ S.served.fn = 13 := by show ¬ S.fn = 13; omega
    unfold AccS.parP
    split
    · split
      · exact (h.served.pairN rfl (right_told _ _ _) h13).up (by omega)
      · exact (h.served.ends rfl (right_told _ _ _)).up (by omega)
    · exact (h.served.pairN rfl hx h13).up (by omega)
  · exact h.served.up (by omega)
theorem okS_open {id : Int} (h : IsFold id) : OkS (openS id) 0 := by
  unfold openS
  split
  · rename_i e; exact ⟨by decide, by decide, by decide, by decide, by decide, by decide, fun _ => ⟨rfl, rfl⟩, fun e => (by cases e), fun e => (by cases e)⟩
  split
  · rename_i e; exact ⟨by decide, by decide, by decide, by decide, by decide, by decide, fun _ => ⟨rfl, rfl⟩, fun e => (by cases e), fun e => (by cases e)⟩
  · exact ⟨h, Int.le_refl 0, Int.le_refl 0, (by decide : rightN 0 1 = true), (by decide : rightV blankV = true), (by decide : rightV blankV = true), fun _ => ⟨rfl, rfl⟩, fun e => (by cases e), fun _ => ⟨rfl, Int.le_refl 0⟩⟩
theorem sets_fn (S : AccS) (r : NmB) : (S.sets r).fn = S.fn := by unfold AccS.sets; split <;> rfl
theorem one_fn (S : AccS) (r : NmB) : (S.one r).fn = S.fn := by unfold AccS.one; split <;> rfl
theorem square_fn (S : AccS) (r : NmB) : (S.square r).fn = S.fn := by
  unfold AccS.square
  split
  · exact sets_fn _ _
  · rfl
theorem keep_fn (S : AccS) (n d s : Int) : (S.keep n d s).fn = S.fn := by unfold AccS.keep; split <;> rfl
theorem divides_fn (S : AccS) (n d : Int) : (S.divides n d).fn = S.fn := by unfold AccS.divides; split <;> rfl
theorem takes_fn (S : AccS) (n d : Int) : (S.takes n d).fn = S.fn := by
  unfold AccS.takes
  simp only [apply_ite AccS.fn, sets_fn, one_fn, square_fn, keep_fn, divides_fn, ite_self]
theorem ends_fn (S : AccS) (v : Vl) : (S.ends v).fn = S.fn := rfl
theorem says_fn (S : AccS) (b : Bool) : (S.says b).fn = S.fn := by
  unfold AccS.says
  simp only [apply_ite AccS.fn, ends_fn, ite_self]
theorem feedT_fn (S : AccS) (x : Vl) : (S.feedT x).fn = S.fn := by
  unfold AccS.feedT
  simp only [apply_ite AccS.fn, ends_fn, says_fn, ite_self]
theorem cellT_fn (S : AccS) (x : Vl) : (S.cellT x).fn = S.fn := by
  unfold AccS.cellT
  simp only [apply_ite AccS.fn, feedT_fn, ite_self]
theorem feedC_fn (S : AccS) (x : Vl) : (S.feedC x).fn = S.fn := by unfold AccS.feedC; split <;> rfl
theorem cellC_fn (S : AccS) (x : Vl) : (S.cellC x).fn = S.fn := by unfold AccS.cellC; split <;> rfl
theorem joined_fn (S : AccS) (x : Vl) : (S.joined x).fn = S.fn := rfl
theorem feedV_fn (S : AccS) (x : Vl) : (S.feedV x).fn = S.fn := by
  unfold AccS.feedV
  simp only [apply_ite AccS.fn, ends_fn, joined_fn, ite_self]
theorem feedS_fn (S : AccS) (x : Vl) : (S.feedS x).fn = S.fn := by
  unfold AccS.feedS
  simp only [apply_ite AccS.fn, ite_self]
theorem feedN_fn (S : AccS) (x : Vl) : (S.feedN x).fn = S.fn := by
  unfold AccS.feedN
  simp only [apply_ite AccS.fn, ends_fn, takes_fn, ite_self]
theorem cellN_fn (S : AccS) (x : Vl) : (S.cellN x).fn = S.fn := by
  unfold AccS.cellN
  simp only [apply_ite AccS.fn, ends_fn, takes_fn, ite_self]
theorem cellM_fn (S : AccS) (x : Vl) : (S.cellM x).fn = S.fn := by unfold AccS.cellM; split <;> rfl
theorem cellP_fn (S : AccS) (x : Vl) : (S.cellP x).fn = S.fn := by
  unfold AccS.cellP
  simp only [apply_ite AccS.fn, ends_fn, ite_self]
theorem served_fn (S : AccS) : S.served.fn = S.fn := rfl
theorem pairN_fn (S : AccS) (x : Vl) : (S.pairN x).fn = S.fn := by
  unfold AccS.pairN
  simp only [apply_ite AccS.fn, ends_fn, sets_fn, ite_self]
theorem fn_fed (S : AccS) (v : Vl) : (S.fedG v).fn = S.fn := by
  unfold AccS.fedG AccS.fedK
  simp only [apply_ite AccS.fn, feedT_fn, feedC_fn, feedV_fn, feedS_fn, feedN_fn, ite_self]
theorem fn_cel (S : AccS) (N : NmS) (v : Vl) : (S.celG N v).fn = S.fn := by
  unfold AccS.celG AccS.celK
  simp only [apply_ite AccS.fn, cellT_fn, cellC_fn, feedV_fn, cellM_fn, cellP_fn, cellN_fn, ite_self]
theorem fn_par (S : AccS) (v : Vl) : (S.parG v).fn = S.fn := by
  unfold AccS.parG AccS.parK AccS.parP
  simp only [apply_ite AccS.fn, pairN_fn, ends_fn, served_fn, ite_self]
theorem fn_open (id : Int) : (openS id).fn = id := by
  unfold openS
  repeat' split
  all_goals first | rfl | (rename_i h; exact h.symm)
end Go.Proofs.YtnimenpfojcehaaGreatDoor
