/- Walks of package value, second part: the makers. -/
import Derived.Test.YtnimenpfojcehaaGreatDoorValA
namespace Go.Proofs.YtnimenpfojcehaaGreatDoor
open Go.RowKit
set_option linter.unusedSimpArgs false
set_option linter.unusedVariables false

set_option maxHeartbeats 400000 in
theorem value_Fault (c : Int) (w : World) :
    Calls Tryz.prog 34 #[.int .i64 c] w fun e w' => e = .returned (.agg #[.int .i64 (faultF c).k, .int .i64 (faultF c).n, .int .i64 (faultF c).d, .string (faultF c).t, .bool (faultF c).b, .int .i64 (faultF c).f]) ∧ Below w.heap.size w w' := by
  by_cases h1 : c < 1
  · have HF : Hid (faultF c = faultV 2) := by unfold Hid faultF; rw [if_pos (Or.inl h1)]
    go_enter Tryz.func34, Tryz.ntmps34
    go_wp2
    refine bodyPost_ret (v := .agg #[.int .i64 (faultF c).k, .int .i64 (faultF c).n, .int .i64 (faultF c).d, .string (faultF c).t, .bool (faultF c).b, .int .i64 (faultF c).f]) (by rw [HF.out]; simp [results, Tryz.results34, go_sem, faultV, noT]) rfl ⟨rfl, ?_⟩
    focus
      repeat with_reducible first | exact Below.refl _ _ | refine below_drewN ?_ _ | refine Below.drew ?_ | refine Below.setCell ?_ ?_ _ | refine Below.alloc ?_ ?_ _ | refine below_then ?_ ?_ (by with_reducible assumption)
      all_goals first | omega | (simp only [sA, sC, sD, sE]; omega) | (simp; done) | (simp; omega)
  by_cases h2 : 8 < c
  · have HF : Hid (faultF c = faultV 2) := by unfold Hid faultF; rw [if_pos (Or.inr h2)]
    go_enter Tryz.func34, Tryz.ntmps34
    go_wp2
    refine bodyPost_ret (v := .agg #[.int .i64 (faultF c).k, .int .i64 (faultF c).n, .int .i64 (faultF c).d, .string (faultF c).t, .bool (faultF c).b, .int .i64 (faultF c).f]) (by rw [HF.out]; simp [results, Tryz.results34, go_sem, faultV, noT]) rfl ⟨rfl, ?_⟩
    focus
      repeat with_reducible first | exact Below.refl _ _ | refine below_drewN ?_ _ | refine Below.drew ?_ | refine Below.setCell ?_ ?_ _ | refine Below.alloc ?_ ?_ _ | refine below_then ?_ ?_ (by with_reducible assumption)
      all_goals first | omega | (simp only [sA, sC, sD, sE]; omega) | (simp; done) | (simp; omega)
  have HF : Hid (faultF c = faultV c) := by unfold Hid faultF; rw [if_neg (by omega)]
  go_enter Tryz.func34, Tryz.ntmps34
  go_wp2
  refine bodyPost_ret (v := .agg #[.int .i64 (faultF c).k, .int .i64 (faultF c).n, .int .i64 (faultF c).d, .string (faultF c).t, .bool (faultF c).b, .int .i64 (faultF c).f]) (by rw [HF.out]; simp [results, Tryz.results34, go_sem, faultV, noT]) rfl ⟨rfl, ?_⟩
  focus
    repeat with_reducible first | exact Below.refl _ _ | refine below_drewN ?_ _ | refine Below.drew ?_ | refine Below.setCell ?_ ?_ _ | refine Below.alloc ?_ ?_ _ | refine below_then ?_ ?_ (by with_reducible assumption)
    all_goals first | omega | (simp only [sA, sC, sD, sE]; omega) | (simp; done) | (simp; omega)

set_option maxHeartbeats 400000 in
theorem value_Truth (b : Bool) (w : World) :
    Calls Tryz.prog 36 #[.bool b] w fun e w' => e = .returned (.agg #[.int .i64 (truthV b).k, .int .i64 (truthV b).n, .int .i64 (truthV b).d, .string (truthV b).t, .bool (truthV b).b, .int .i64 (truthV b).f]) ∧ Below w.heap.size w w' := by
  go_enter Tryz.func36, Tryz.ntmps36
  go_wp2
  refine bodyPost_ret (v := .agg #[.int .i64 (truthV b).k, .int .i64 (truthV b).n, .int .i64 (truthV b).d, .string (truthV b).t, .bool (truthV b).b, .int .i64 (truthV b).f]) (by simp [results, Tryz.results36, go_sem, truthV, noT]) rfl ⟨rfl, ?_⟩
  focus
    repeat with_reducible first | exact Below.refl _ _ | refine below_drewN ?_ _ | refine Below.drew ?_ | refine Below.setCell ?_ ?_ _ | refine Below.alloc ?_ ?_ _ | refine below_then ?_ ?_ (by with_reducible assumption)
    all_goals first | omega | (simp only [sA, sC, sD, sE]; omega) | (simp; done) | (simp; omega)

set_option maxHeartbeats 400000 in
theorem value_Blank (w : World) :
    Calls Tryz.prog 77 #[] w fun e w' => e = .returned (.agg #[.int .i64 (blankV).k, .int .i64 (blankV).n, .int .i64 (blankV).d, .string (blankV).t, .bool (blankV).b, .int .i64 (blankV).f]) ∧ Below w.heap.size w w' := by
  go_enter Tryz.func77, Tryz.ntmps77
  go_wp2
  refine bodyPost_ret (v := .agg #[.int .i64 (blankV).k, .int .i64 (blankV).n, .int .i64 (blankV).d, .string (blankV).t, .bool (blankV).b, .int .i64 (blankV).f]) (by simp [results, Tryz.results77, go_sem, blankV, noT]) rfl ⟨rfl, ?_⟩
  focus
    repeat with_reducible first | exact Below.refl _ _ | refine below_drewN ?_ _ | refine Below.drew ?_ | refine Below.setCell ?_ ?_ _ | refine Below.alloc ?_ ?_ _ | refine below_then ?_ ?_ (by with_reducible assumption)
    all_goals first | omega | (simp only [sA, sC, sD, sE]; omega) | (simp; done) | (simp; omega)

set_option maxHeartbeats 400000 in
theorem value_number (n : Int) (w : World) :
    Calls Tryz.prog 79 #[.int .i64 n] w fun e w' => e = .returned (.agg #[.int .i64 n, .int .i64 1]) ∧ Below w.heap.size w w' := by
  go_enter Tryz.func79, Tryz.ntmps79
  go_wp2
  refine bodyPost_ret (v := .agg #[.int .i64 n, .int .i64 1]) (by simp [results, Tryz.results79, go_sem]) rfl ⟨rfl, ?_⟩
  focus
    repeat with_reducible first | exact Below.refl _ _ | refine below_drewN ?_ _ | refine Below.drew ?_ | refine Below.setCell ?_ ?_ _ | refine Below.alloc ?_ ?_ _ | refine below_then ?_ ?_ (by with_reducible assumption)
    all_goals first | omega | (simp only [sA, sC, sD, sE]; omega) | (simp; done) | (simp; omega)

set_option maxHeartbeats 400000 in
theorem value_word (b : Bool) (w : World) :
    Calls Tryz.prog 78 #[.bool b] w fun e w' => e = .returned (.string (wordT b)) ∧ w = w' := by
  cases b
  all_goals
    go_enter Tryz.func78, Tryz.ntmps78
    go_wp2
    go_ret
    exact ⟨rfl, rfl⟩

set_option maxHeartbeats 400000 in
theorem value_Text (t : ByteArray) (w : World) (ht : t.size ≤ 140737488351232) :
    Calls Tryz.prog 24 #[.string t] w fun e w' => e = .returned (.agg #[.int .i64 (textF t).k, .int .i64 (textF t).n, .int .i64 (textF t).d, .string (textF t).t, .bool (textF t).b, .int .i64 (textF t).f]) ∧ Below w.heap.size w w' := by
  cases hp : plainT t
  · have HF : Hid (textF t = faultF 2) := by unfold Hid textF; rw [if_neg (by simp [hp])]; rfl
    have HP := Lib.hid hp
    clear hp
    go_enter Tryz.func24, Tryz.ntmps24
    go_wp2_with fail
    refine (value_plain _ _ ht).mono ?_
    rintro e w1 ⟨rfl, rfl⟩
    rw [HP.out]
    go_wp2_with fail
    refine (value_Fault _ _).mono ?_
    rintro e w1 ⟨rfl, hb⟩
    have c1 := lcc hb (w.heap.size) (by (first | omega | (simp only [sz_alloc, sz_setCell, sz_drew, sz_drewN]; omega) | (simp; done) | (simp; omega)))
    have f1 := lcf hb (w.heap.size) (by (first | omega | (simp only [sz_alloc, sz_setCell, sz_drew, sz_drewN]; omega) | (simp; done) | (simp; omega)))
    have s1 := lcs hb (w.heap.size) (by (first | omega | (simp only [sz_alloc, sz_setCell, sz_drew, sz_drewN]; omega) | (simp; done) | (simp; omega)))
    go_wp2
    refine bodyPost_ret (v := .agg #[.int .i64 (textF t).k, .int .i64 (textF t).n, .int .i64 (textF t).d, .string (textF t).t, .bool (textF t).b, .int .i64 (textF t).f]) (by rw [HF.out]; simp [results, Tryz.results24, go_sem, c1]) rfl ⟨rfl, ?_⟩
    focus
      repeat with_reducible first | exact Below.refl _ _ | refine below_drewN ?_ _ | refine Below.drew ?_ | refine Below.setCell ?_ ?_ _ | refine Below.alloc ?_ ?_ _ | refine below_then ?_ ?_ (by with_reducible assumption)
      all_goals first | omega | (simp only [sA, sC, sD, sE]; omega) | (simp; done) | (simp; omega)
  by_cases hs : 256 < t.size
  · have HF : Hid (textF t = faultF 7) := by unfold Hid textF; rw [if_pos hp, if_pos hs]; rfl
    have HP := Lib.hid hp
    clear hp
    go_enter Tryz.func24, Tryz.ntmps24
    go_wp2_with fail
    refine (value_plain _ _ ht).mono ?_
    rintro e w1 ⟨rfl, rfl⟩
    rw [HP.out]
    go_wp2_with fail
    refine (value_Fault _ _).mono ?_
    rintro e w1 ⟨rfl, hb⟩
    have c2 := lcc hb (w.heap.size) (by (first | omega | (simp only [sz_alloc, sz_setCell, sz_drew, sz_drewN]; omega) | (simp; done) | (simp; omega)))
    have f2 := lcf hb (w.heap.size) (by (first | omega | (simp only [sz_alloc, sz_setCell, sz_drew, sz_drewN]; omega) | (simp; done) | (simp; omega)))
    have s2 := lcs hb (w.heap.size) (by (first | omega | (simp only [sz_alloc, sz_setCell, sz_drew, sz_drewN]; omega) | (simp; done) | (simp; omega)))
    go_wp2
    refine bodyPost_ret (v := .agg #[.int .i64 (textF t).k, .int .i64 (textF t).n, .int .i64 (textF t).d, .string (textF t).t, .bool (textF t).b, .int .i64 (textF t).f]) (by rw [HF.out]; simp [results, Tryz.results24, go_sem, c2]) rfl ⟨rfl, ?_⟩
    focus
      repeat with_reducible first | exact Below.refl _ _ | refine below_drewN ?_ _ | refine Below.drew ?_ | refine Below.setCell ?_ ?_ _ | refine Below.alloc ?_ ?_ _ | refine below_then ?_ ?_ (by with_reducible assumption)
      all_goals first | omega | (simp only [sA, sC, sD, sE]; omega) | (simp; done) | (simp; omega)
  have HF : Hid (textF t = textV t) := by unfold Hid textF; rw [if_pos hp, if_neg hs]
  have HP := Lib.hid hp
  clear hp
  go_enter Tryz.func24, Tryz.ntmps24
  go_wp2_with fail
  refine (value_plain _ _ ht).mono ?_
  rintro e w1 ⟨rfl, rfl⟩
  rw [HP.out]
  go_wp2
  refine bodyPost_ret (v := .agg #[.int .i64 (textF t).k, .int .i64 (textF t).n, .int .i64 (textF t).d, .string (textF t).t, .bool (textF t).b, .int .i64 (textF t).f]) (by rw [HF.out]; simp [results, Tryz.results24, go_sem, textV]) rfl ⟨rfl, ?_⟩
  focus
    repeat with_reducible first | exact Below.refl _ _ | refine below_drewN ?_ _ | refine Below.drew ?_ | refine Below.setCell ?_ ?_ _ | refine Below.alloc ?_ ?_ _ | refine below_then ?_ ?_ (by with_reducible assumption)
    all_goals first | omega | (simp only [sA, sC, sD, sE]; omega) | (simp; done) | (simp; omega)

set_option maxHeartbeats 400000 in
theorem value_Number (n d : Int) (w : World) (hn : I64 n) (hd : I64 d) :
    Calls Tryz.prog 47 #[.agg #[.int .i64 n, .int .i64 d]] w fun e w' => e = .returned (.agg #[.int .i64 (numF n d).k, .int .i64 (numF n d).n, .int .i64 (numF n d).d, .string (numF n d).t, .bool (numF n d).b, .int .i64 (numF n d).f]) ∧ Below w.heap.size w w' := by
  cases hr : rightN n d
  · have HF : Hid (numF n d = numV 0 1) := by unfold Hid numF tk; rw [hr]; rfl
    have HR := Lib.hid hr
    clear hr
    go_enter Tryz.func47, Tryz.ntmps47
    go_wp2_with fail
    refine (num_Right _ _ _ hn hd).mono ?_
    rintro e w1 ⟨rfl, hb⟩
    rw [HR.out]
    have c3 := lcc hb (w.heap.size) (by (first | omega | (simp only [sz_alloc, sz_setCell, sz_drew, sz_drewN]; omega) | (simp; done) | (simp; omega)))
    have f3 := lcf hb (w.heap.size) (by (first | omega | (simp only [sz_alloc, sz_setCell, sz_drew, sz_drewN]; omega) | (simp; done) | (simp; omega)))
    have s3 := lcs hb (w.heap.size) (by (first | omega | (simp only [sz_alloc, sz_setCell, sz_drew, sz_drewN]; omega) | (simp; done) | (simp; omega)))
    have c4 := lcc hb (w.heap.size + 1) (by (first | omega | (simp only [sz_alloc, sz_setCell, sz_drew, sz_drewN]; omega) | (simp; done) | (simp; omega)))
    have f4 := lcf hb (w.heap.size + 1) (by (first | omega | (simp only [sz_alloc, sz_setCell, sz_drew, sz_drewN]; omega) | (simp; done) | (simp; omega)))
    have s4 := lcs hb (w.heap.size + 1) (by (first | omega | (simp only [sz_alloc, sz_setCell, sz_drew, sz_drewN]; omega) | (simp; done) | (simp; omega)))
    go_wp2
    refine bodyPost_ret (v := .agg #[.int .i64 (numF n d).k, .int .i64 (numF n d).n, .int .i64 (numF n d).d, .string (numF n d).t, .bool (numF n d).b, .int .i64 (numF n d).f]) (by rw [HF.out]; simp [results, Tryz.results47, go_sem, c3, c4, numV, noT]) rfl ⟨rfl, ?_⟩
    focus
      repeat with_reducible first | exact Below.refl _ _ | refine below_drewN ?_ _ | refine Below.drew ?_ | refine Below.setCell ?_ ?_ _ | refine Below.alloc ?_ ?_ _ | refine below_then ?_ ?_ (by with_reducible assumption)
      all_goals first | omega | (simp only [sA, sC, sD, sE]; omega) | (simp; done) | (simp; omega)
  · have HF : Hid (numF n d = numV n d) := by unfold Hid numF tk; rw [hr]; rfl
    have HR := Lib.hid hr
    clear hr
    go_enter Tryz.func47, Tryz.ntmps47
    go_wp2_with fail
    refine (num_Right _ _ _ hn hd).mono ?_
    rintro e w1 ⟨rfl, hb⟩
    rw [HR.out]
    have c5 := lcc hb (w.heap.size) (by (first | omega | (simp only [sz_alloc, sz_setCell, sz_drew, sz_drewN]; omega) | (simp; done) | (simp; omega)))
    have f5 := lcf hb (w.heap.size) (by (first | omega | (simp only [sz_alloc, sz_setCell, sz_drew, sz_drewN]; omega) | (simp; done) | (simp; omega)))
    have s5 := lcs hb (w.heap.size) (by (first | omega | (simp only [sz_alloc, sz_setCell, sz_drew, sz_drewN]; omega) | (simp; done) | (simp; omega)))
    have c6 := lcc hb (w.heap.size + 1) (by (first | omega | (simp only [sz_alloc, sz_setCell, sz_drew, sz_drewN]; omega) | (simp; done) | (simp; omega)))
    have f6 := lcf hb (w.heap.size + 1) (by (first | omega | (simp only [sz_alloc, sz_setCell, sz_drew, sz_drewN]; omega) | (simp; done) | (simp; omega)))
    have s6 := lcs hb (w.heap.size + 1) (by (first | omega | (simp only [sz_alloc, sz_setCell, sz_drew, sz_drewN]; omega) | (simp; done) | (simp; omega)))
    go_wp2
    refine bodyPost_ret (v := .agg #[.int .i64 (numF n d).k, .int .i64 (numF n d).n, .int .i64 (numF n d).d, .string (numF n d).t, .bool (numF n d).b, .int .i64 (numF n d).f]) (by rw [HF.out]; simp [results, Tryz.results47, go_sem, c5, c6, numV, noT]) rfl ⟨rfl, ?_⟩
    focus
      repeat with_reducible first | exact Below.refl _ _ | refine below_drewN ?_ _ | refine Below.drew ?_ | refine Below.setCell ?_ ?_ _ | refine Below.alloc ?_ ?_ _ | refine below_then ?_ ?_ (by with_reducible assumption)
      all_goals first | omega | (simp only [sA, sC, sD, sE]; omega) | (simp; done) | (simp; omega)

set_option maxHeartbeats 400000 in
theorem value_taken (k n d : Int) (t : ByteArray) (b : Bool) (f : Int) (w : World) (hx : Vl.In ⟨k, n, d, t, b, f⟩) :
    Calls Tryz.prog 52 #[.agg #[.int .i64 k, .int .i64 n, .int .i64 d, .string t, .bool b, .int .i64 f]] w fun e w' => e = .returned (.agg #[.int .i64 (tkV ⟨k, n, d, t, b, f⟩).k, .int .i64 (tkV ⟨k, n, d, t, b, f⟩).n, .int .i64 (tkV ⟨k, n, d, t, b, f⟩).d, .string (tkV ⟨k, n, d, t, b, f⟩).t, .bool (tkV ⟨k, n, d, t, b, f⟩).b, .int .i64 (tkV ⟨k, n, d, t, b, f⟩).f]) ∧ Below w.heap.size w w' := by
  cases hr : rightV ⟨k, n, d, t, b, f⟩
  · have HF : Hid (tkV ⟨k, n, d, t, b, f⟩ = faultF 2) := by unfold Hid tkV; rw [hr]; rfl
    have HR := Lib.hid hr
    clear hr
    go_enter Tryz.func52, Tryz.ntmps52
    go_wp2_with fail
    refine (value_Right _ _ _ _ _ _ _ hx).mono ?_
    rintro e w1 ⟨rfl, hb⟩
    rw [HR.out]
    have c9 := lcc hb (w.heap.size) (by (first | omega | (simp only [sz_alloc, sz_setCell, sz_drew, sz_drewN]; omega) | (simp; done) | (simp; omega)))
    have f9 := lcf hb (w.heap.size) (by (first | omega | (simp only [sz_alloc, sz_setCell, sz_drew, sz_drewN]; omega) | (simp; done) | (simp; omega)))
    have s9 := lcs hb (w.heap.size) (by (first | omega | (simp only [sz_alloc, sz_setCell, sz_drew, sz_drewN]; omega) | (simp; done) | (simp; omega)))
    have c10 := lcc hb (w.heap.size + 1) (by (first | omega | (simp only [sz_alloc, sz_setCell, sz_drew, sz_drewN]; omega) | (simp; done) | (simp; omega)))
    have f10 := lcf hb (w.heap.size + 1) (by (first | omega | (simp only [sz_alloc, sz_setCell, sz_drew, sz_drewN]; omega) | (simp; done) | (simp; omega)))
    have s10 := lcs hb (w.heap.size + 1) (by (first | omega | (simp only [sz_alloc, sz_setCell, sz_drew, sz_drewN]; omega) | (simp; done) | (simp; omega)))
    go_wp2_with fail
    refine (value_Fault _ _).mono ?_
    rintro e w2 ⟨rfl, hb2⟩
    have c11 := lcc hb2 (w.heap.size + 1) (by (first | omega | (simp only [sz_alloc, sz_setCell, sz_drew, sz_drewN]; omega) | (simp; done) | (simp; omega)))
    have f11 := lcf hb2 (w.heap.size + 1) (by (first | omega | (simp only [sz_alloc, sz_setCell, sz_drew, sz_drewN]; omega) | (simp; done) | (simp; omega)))
    have s11 := lcs hb2 (w.heap.size + 1) (by (first | omega | (simp only [sz_alloc, sz_setCell, sz_drew, sz_drewN]; omega) | (simp; done) | (simp; omega)))
    go_wp2
    refine bodyPost_ret (v := .agg #[.int .i64 (tkV ⟨k, n, d, t, b, f⟩).k, .int .i64 (tkV ⟨k, n, d, t, b, f⟩).n, .int .i64 (tkV ⟨k, n, d, t, b, f⟩).d, .string (tkV ⟨k, n, d, t, b, f⟩).t, .bool (tkV ⟨k, n, d, t, b, f⟩).b, .int .i64 (tkV ⟨k, n, d, t, b, f⟩).f]) (by rw [HF.out]; simp [results, Tryz.results52, go_sem, c9, c10, c11]) rfl ⟨rfl, ?_⟩
    focus
      repeat with_reducible first | exact Below.refl _ _ | refine below_drewN ?_ _ | refine Below.drew ?_ | refine Below.setCell ?_ ?_ _ | refine Below.alloc ?_ ?_ _ | refine below_then ?_ ?_ (by with_reducible assumption)
      all_goals first | omega | (simp only [sA, sC, sD, sE]; omega) | (simp; done) | (simp; omega)
  · have HF : Hid (tkV ⟨k, n, d, t, b, f⟩ = ⟨k, n, d, t, b, f⟩) := by unfold Hid tkV; rw [hr]; rfl
    have HR := Lib.hid hr
    clear hr
    go_enter Tryz.func52, Tryz.ntmps52
    go_wp2_with fail
    refine (value_Right _ _ _ _ _ _ _ hx).mono ?_
    rintro e w1 ⟨rfl, hb⟩
    rw [HR.out]
    have c12 := lcc hb (w.heap.size) (by (first | omega | (simp only [sz_alloc, sz_setCell, sz_drew, sz_drewN]; omega) | (simp; done) | (simp; omega)))
    have f12 := lcf hb (w.heap.size) (by (first | omega | (simp only [sz_alloc, sz_setCell, sz_drew, sz_drewN]; omega) | (simp; done) | (simp; omega)))
    have s12 := lcs hb (w.heap.size) (by (first | omega | (simp only [sz_alloc, sz_setCell, sz_drew, sz_drewN]; omega) | (simp; done) | (simp; omega)))
    have c13 := lcc hb (w.heap.size + 1) (by (first | omega | (simp only [sz_alloc, sz_setCell, sz_drew, sz_drewN]; omega) | (simp; done) | (simp; omega)))
    have f13 := lcf hb (w.heap.size + 1) (by (first | omega | (simp only [sz_alloc, sz_setCell, sz_drew, sz_drewN]; omega) | (simp; done) | (simp; omega)))
    have s13 := lcs hb (w.heap.size + 1) (by (first | omega | (simp only [sz_alloc, sz_setCell, sz_drew, sz_drewN]; omega) | (simp; done) | (simp; omega)))
    go_wp2
    refine bodyPost_ret (v := .agg #[.int .i64 (tkV ⟨k, n, d, t, b, f⟩).k, .int .i64 (tkV ⟨k, n, d, t, b, f⟩).n, .int .i64 (tkV ⟨k, n, d, t, b, f⟩).d, .string (tkV ⟨k, n, d, t, b, f⟩).t, .bool (tkV ⟨k, n, d, t, b, f⟩).b, .int .i64 (tkV ⟨k, n, d, t, b, f⟩).f]) (by rw [HF.out]; simp [results, Tryz.results52, go_sem, c12, c13]) rfl ⟨rfl, ?_⟩
    focus
      repeat with_reducible first | exact Below.refl _ _ | refine below_drewN ?_ _ | refine Below.drew ?_ | refine Below.setCell ?_ ?_ _ | refine Below.alloc ?_ ?_ _ | refine below_then ?_ ?_ (by with_reducible assumption)
      all_goals first | omega | (simp only [sA, sC, sD, sE]; omega) | (simp; done) | (simp; omega)
end Go.Proofs.YtnimenpfojcehaaGreatDoor
