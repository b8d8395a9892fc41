/- Walks of package funcs: the functions of texts. -/
import Derived.Test.YtodopbdngikpcaaGreatDoorCutX
import Derived.Test.YtodopbdngikpcaaGreatDoorTextsA
import Derived.Test.YtodopbdngikpcaaGreatDoorShelfU
namespace Go.Proofs.YtodopbdngikpcaaGreatDoor
open Go Go.RowKit
set_option linter.unusedSimpArgs false
set_option linter.unusedVariables false

/-- What the library's functions on texts read of the world. -/
def MaxL (w : World) : Prop := 2 < w.heap.size ∧ ∃ m : Int, w.cell? ⟨2, 0, none⟩ = some (.int .i64 m)
theorem MaxL.below {w w' : World} (h : MaxL w) (hb : Below w.heap.size w w') : MaxL w' := by
  obtain ⟨h0, m, hm⟩ := h
  exact ⟨lcs hb 2 h0, m, (lcc hb 2 h0 0).trans hm⟩
structure Laid (w : World) : Prop where
  sp : SpTab w
  mx : MaxL w
  p10 : Pow10 w
theorem Laid.below {w w' : World} (h : Laid w) (hb : Below w.heap.size w w') : Laid w' :=
  ⟨h.sp.below hb (by have := h.mx.1; omega), h.mx.below hb, h.p10.below hb⟩
def findV (s t : ByteArray) : Vl := if Lib.index t.data.toList s.data.toList < 0 then faultF 5 else wholeF (Lib.index t.data.toList s.data.toList + 1)

set_option maxHeartbeats 1000000 in
theorem ofTexts54 (t : ByteArray) (aN : Option Addr) (lN cN gt off lT cT : Nat) (tr : Bool) (w : World) (hlT : 1 ≤ lT) (hcT : lT ≤ cT) (hg : gt < w.heap.size) (c0 : w.cell? ⟨gt, off, none⟩ = some (.string t)) (hp : plainT t = true) (hs : t.size ≤ 256) :
    Calls Tryz.prog 40 #[.int .i64 54, .agg #[.slice aN lN cN, .slice (some ⟨gt, off, none⟩) lT cT, .bool tr]] w fun e w' => e = .returned (.agg #[.int .i64 (textF (upT t)).k, .int .i64 (textF (upT t)).n, .int .i64 (textF (upT t)).d, .string (textF (upT t)).t, .bool (textF (upT t)).b, .int .i64 (textF (upT t)).f]) ∧ Below w.heap.size w w' := by
  have hne : ¬ gt = w.heap.size := by omega
  have hne' : ¬ w.heap.size = gt := by omega
  have HU : Hid (∀ wx, Calls Tryz.prog 74 #[.string t] wx fun e w' => e = .returned (.string (upT t)) ∧ Below wx.heap.size wx w') := fun wx => Tryz.strings_ToUpper_ascii t wx (by omega) (okc_ascii hp)
  have HV := Lib.hid fun wx => value_Text (upT t) wx (by have := (up_ok hp hs).2; omega)
  clear hp hs
  go_enter Tryz.func40, Tryz.ntmps40
  go_wp2_with fail
  refine (HU.out _).mono ?_
  rintro e w1 ⟨rfl, hb⟩
  have s1 := lcs hb (w.heap.size + 1) (by (first | omega | (simp only [sz_alloc, sz_setCell, sz_drew, sz_drewN]; omega) | (simp; done) | (simp; omega)))
  have c1_0 := (lcc hb (w.heap.size + 1) (by (first | omega | (simp only [sz_alloc, sz_setCell, sz_drew, sz_drewN]; omega) | (simp; done) | (simp; omega))) 0).trans (by go_simp; exact rfl)
  have c1_1 := (lcc hb (w.heap.size + 1) (by (first | omega | (simp only [sz_alloc, sz_setCell, sz_drew, sz_drewN]; omega) | (simp; done) | (simp; omega))) 1).trans (by go_simp; exact rfl)
  have c1_2 := (lcc hb (w.heap.size + 1) (by (first | omega | (simp only [sz_alloc, sz_setCell, sz_drew, sz_drewN]; omega) | (simp; done) | (simp; omega))) 2).trans (by go_simp; exact rfl)
  have c1_3 := (lcc hb (w.heap.size + 1) (by (first | omega | (simp only [sz_alloc, sz_setCell, sz_drew, sz_drewN]; omega) | (simp; done) | (simp; omega))) 3).trans (by go_simp; exact rfl)
  have c1_4 := (lcc hb (w.heap.size + 1) (by (first | omega | (simp only [sz_alloc, sz_setCell, sz_drew, sz_drewN]; omega) | (simp; done) | (simp; omega))) 4).trans (by go_simp; exact rfl)
  have c1_5 := (lcc hb (w.heap.size + 1) (by (first | omega | (simp only [sz_alloc, sz_setCell, sz_drew, sz_drewN]; omega) | (simp; done) | (simp; omega))) 5).trans (by go_simp; exact rfl)
  have f1 := lcff hb (w.heap.size + 1) (by (first | omega | (simp only [sz_alloc, sz_setCell, sz_drew, sz_drewN]; omega) | (simp; done) | (simp; omega))) (by intro o; go_simp)
  go_wp2_with fail
  refine (HV.out _).mono ?_
  rintro e w2 ⟨rfl, hb⟩
  have s2 := lcs hb (w.heap.size + 1) (by (first | omega | (simp only [sz_alloc, sz_setCell, sz_drew, sz_drewN]; omega) | (simp; done) | (simp; omega)))
  have c2_0 := (lcc hb (w.heap.size + 1) (by (first | omega | (simp only [sz_alloc, sz_setCell, sz_drew, sz_drewN]; omega) | (simp; done) | (simp; omega))) 0).trans (by go_simp; exact rfl)
  have c2_1 := (lcc hb (w.heap.size + 1) (by (first | omega | (simp only [sz_alloc, sz_setCell, sz_drew, sz_drewN]; omega) | (simp; done) | (simp; omega))) 1).trans (by go_simp; exact rfl)
  have c2_2 := (lcc hb (w.heap.size + 1) (by (first | omega | (simp only [sz_alloc, sz_setCell, sz_drew, sz_drewN]; omega) | (simp; done) | (simp; omega))) 2).trans (by go_simp; exact rfl)
  have c2_3 := (lcc hb (w.heap.size + 1) (by (first | omega | (simp only [sz_alloc, sz_setCell, sz_drew, sz_drewN]; omega) | (simp; done) | (simp; omega))) 3).trans (by go_simp; exact rfl)
  have c2_4 := (lcc hb (w.heap.size + 1) (by (first | omega | (simp only [sz_alloc, sz_setCell, sz_drew, sz_drewN]; omega) | (simp; done) | (simp; omega))) 4).trans (by go_simp; exact rfl)
  have c2_5 := (lcc hb (w.heap.size + 1) (by (first | omega | (simp only [sz_alloc, sz_setCell, sz_drew, sz_drewN]; omega) | (simp; done) | (simp; omega))) 5).trans (by go_simp; exact rfl)
  have f2 := lcff hb (w.heap.size + 1) (by (first | omega | (simp only [sz_alloc, sz_setCell, sz_drew, sz_drewN]; omega) | (simp; done) | (simp; omega))) (by intro o; go_simp)
  clear c1_0 c1_1 c1_2 c1_3 c1_4 c1_5 f1
  go_wp2
  refine bodyPost_ret (v := .agg #[.int .i64 (textF (upT t)).k, .int .i64 (textF (upT t)).n, .int .i64 (textF (upT t)).d, .string (textF (upT t)).t, .bool (textF (upT t)).b, .int .i64 (textF (upT t)).f]) (by simp [results, Tryz.results40, go_sem, c2_0, c2_1, c2_2, c2_3, c2_4, c2_5]) rfl ⟨rfl, ?_⟩
  repeat (first | with_reducible exact Below.refl _ _ | with_reducible refine below_drewN ?_ _ | with_reducible refine Below.drew ?_ | with_reducible refine Below.setCell ?_ (by (first | omega | (simp only [sz_alloc, sz_setCell, sz_drew, sz_drewN]; omega) | (simp; done) | (simp; omega))) _ | with_reducible refine Below.alloc ?_ (by (first | omega | (simp only [sz_alloc, sz_setCell, sz_drew, sz_drewN]; omega) | (simp; done) | (simp; omega))) _ | with_reducible refine below_then ?_ ?_ (by with_reducible assumption) | (first | omega | (simp only [sz_alloc, sz_setCell, sz_drew, sz_drewN]; omega) | (simp; done) | (simp; omega)))
set_option maxHeartbeats 1000000 in
theorem ofTexts55 (t : ByteArray) (aN : Option Addr) (lN cN gt off lT cT : Nat) (tr : Bool) (w : World) (hlT : 1 ≤ lT) (hcT : lT ≤ cT) (hg : gt < w.heap.size) (c0 : w.cell? ⟨gt, off, none⟩ = some (.string t)) (hp : plainT t = true) (hs : t.size ≤ 256) :
    Calls Tryz.prog 40 #[.int .i64 55, .agg #[.slice aN lN cN, .slice (some ⟨gt, off, none⟩) lT cT, .bool tr]] w fun e w' => e = .returned (.agg #[.int .i64 (textF (loT t)).k, .int .i64 (textF (loT t)).n, .int .i64 (textF (loT t)).d, .string (textF (loT t)).t, .bool (textF (loT t)).b, .int .i64 (textF (loT t)).f]) ∧ Below w.heap.size w w' := by
  have hne : ¬ gt = w.heap.size := by omega
  have hne' : ¬ w.heap.size = gt := by omega
  have HU : Hid (∀ wx, Calls Tryz.prog 75 #[.string t] wx fun e w' => e = .returned (.string (loT t)) ∧ Below wx.heap.size wx w') := fun wx => Tryz.strings_ToLower_ascii t wx (by omega) (okc_ascii hp)
  have HV := Lib.hid fun wx => value_Text (loT t) wx (by have := (lo_ok hp hs).2; omega)
  clear hp hs
  go_enter Tryz.func40, Tryz.ntmps40
  go_wp2_with fail
  refine (HU.out _).mono ?_
  rintro e w1 ⟨rfl, hb⟩
  have s3 := lcs hb (w.heap.size + 1) (by (first | omega | (simp only [sz_alloc, sz_setCell, sz_drew, sz_drewN]; omega) | (simp; done) | (simp; omega)))
  have c3_0 := (lcc hb (w.heap.size + 1) (by (first | omega | (simp only [sz_alloc, sz_setCell, sz_drew, sz_drewN]; omega) | (simp; done) | (simp; omega))) 0).trans (by go_simp; exact rfl)
  have c3_1 := (lcc hb (w.heap.size + 1) (by (first | omega | (simp only [sz_alloc, sz_setCell, sz_drew, sz_drewN]; omega) | (simp; done) | (simp; omega))) 1).trans (by go_simp; exact rfl)
  have c3_2 := (lcc hb (w.heap.size + 1) (by (first | omega | (simp only [sz_alloc, sz_setCell, sz_drew, sz_drewN]; omega) | (simp; done) | (simp; omega))) 2).trans (by go_simp; exact rfl)
  have c3_3 := (lcc hb (w.heap.size + 1) (by (first | omega | (simp only [sz_alloc, sz_setCell, sz_drew, sz_drewN]; omega) | (simp; done) | (simp; omega))) 3).trans (by go_simp; exact rfl)
  have c3_4 := (lcc hb (w.heap.size + 1) (by (first | omega | (simp only [sz_alloc, sz_setCell, sz_drew, sz_drewN]; omega) | (simp; done) | (simp; omega))) 4).trans (by go_simp; exact rfl)
  have c3_5 := (lcc hb (w.heap.size + 1) (by (first | omega | (simp only [sz_alloc, sz_setCell, sz_drew, sz_drewN]; omega) | (simp; done) | (simp; omega))) 5).trans (by go_simp; exact rfl)
  have f3 := lcff hb (w.heap.size + 1) (by (first | omega | (simp only [sz_alloc, sz_setCell, sz_drew, sz_drewN]; omega) | (simp; done) | (simp; omega))) (by intro o; go_simp)
  go_wp2_with fail
  refine (HV.out _).mono ?_
  rintro e w2 ⟨rfl, hb⟩
  have s4 := lcs hb (w.heap.size + 1) (by (first | omega | (simp only [sz_alloc, sz_setCell, sz_drew, sz_drewN]; omega) | (simp; done) | (simp; omega)))
  have c4_0 := (lcc hb (w.heap.size + 1) (by (first | omega | (simp only [sz_alloc, sz_setCell, sz_drew, sz_drewN]; omega) | (simp; done) | (simp; omega))) 0).trans (by go_simp; exact rfl)
  have c4_1 := (lcc hb (w.heap.size + 1) (by (first | omega | (simp only [sz_alloc, sz_setCell, sz_drew, sz_drewN]; omega) | (simp; done) | (simp; omega))) 1).trans (by go_simp; exact rfl)
  have c4_2 := (lcc hb (w.heap.size + 1) (by (first | omega | (simp only [sz_alloc, sz_setCell, sz_drew, sz_drewN]; omega) | (simp; done) | (simp; omega))) 2).trans (by go_simp; exact rfl)
  have c4_3 := (lcc hb (w.heap.size + 1) (by (first | omega | (simp only [sz_alloc, sz_setCell, sz_drew, sz_drewN]; omega) | (simp; done) | (simp; omega))) 3).trans (by go_simp; exact rfl)
  have c4_4 := (lcc hb (w.heap.size + 1) (by (first | omega | (simp only [sz_alloc, sz_setCell, sz_drew, sz_drewN]; omega) | (simp; done) | (simp; omega))) 4).trans (by go_simp; exact rfl)
  have c4_5 := (lcc hb (w.heap.size + 1) (by (first | omega | (simp only [sz_alloc, sz_setCell, sz_drew, sz_drewN]; omega) | (simp; done) | (simp; omega))) 5).trans (by go_simp; exact rfl)
  have f4 := lcff hb (w.heap.size + 1) (by (first | omega | (simp only [sz_alloc, sz_setCell, sz_drew, sz_drewN]; omega) | (simp; done) | (simp; omega))) (by intro o; go_simp)
  clear c3_0 c3_1 c3_2 c3_3 c3_4 c3_5 f3
  go_wp2
  refine bodyPost_ret (v := .agg #[.int .i64 (textF (loT t)).k, .int .i64 (textF (loT t)).n, .int .i64 (textF (loT t)).d, .string (textF (loT t)).t, .bool (textF (loT t)).b, .int .i64 (textF (loT t)).f]) (by simp [results, Tryz.results40, go_sem, c4_0, c4_1, c4_2, c4_3, c4_4, c4_5]) rfl ⟨rfl, ?_⟩
  repeat (first | with_reducible exact Below.refl _ _ | with_reducible refine below_drewN ?_ _ | with_reducible refine Below.drew ?_ | with_reducible refine Below.setCell ?_ (by (first | omega | (simp only [sz_alloc, sz_setCell, sz_drew, sz_drewN]; omega) | (simp; done) | (simp; omega))) _ | with_reducible refine Below.alloc ?_ (by (first | omega | (simp only [sz_alloc, sz_setCell, sz_drew, sz_drewN]; omega) | (simp; done) | (simp; omega))) _ | with_reducible refine below_then ?_ ?_ (by with_reducible assumption) | (first | omega | (simp only [sz_alloc, sz_setCell, sz_drew, sz_drewN]; omega) | (simp; done) | (simp; omega)))
set_option maxHeartbeats 1000000 in
theorem ofTexts48 (t : ByteArray) (aN : Option Addr) (lN cN gt off lT cT : Nat) (tr : Bool) (w : World) (hlT : 1 ≤ lT) (hcT : lT ≤ cT) (hg : gt < w.heap.size) (c0 : w.cell? ⟨gt, off, none⟩ = some (.string t)) (hs : t.size ≤ 256) :
    Calls Tryz.prog 40 #[.int .i64 48, .agg #[.slice aN lN cN, .slice (some ⟨gt, off, none⟩) lT cT, .bool tr]] w fun e w' => e = .returned (.agg #[.int .i64 (wholeF t.size).k, .int .i64 (wholeF t.size).n, .int .i64 (wholeF t.size).d, .string (wholeF t.size).t, .bool (wholeF t.size).b, .int .i64 (wholeF t.size).f]) ∧ Below w.heap.size w w' := by
  have hne : ¬ gt = w.heap.size := by omega
  have hne' : ¬ w.heap.size = gt := by omega
  have HW := Lib.hid fun wx => funcs_whole (t.size : Int) wx ⟨by omega, by omega⟩
  go_enter Tryz.func40, Tryz.ntmps40
  go_wp2_with fail
  refine (HW.out _).mono ?_
  rintro e w1 ⟨rfl, hb⟩
  have s5 := lcs hb (w.heap.size + 1) (by (first | omega | (simp only [sz_alloc, sz_setCell, sz_drew, sz_drewN]; omega) | (simp; done) | (simp; omega)))
  have c5_0 := (lcc hb (w.heap.size + 1) (by (first | omega | (simp only [sz_alloc, sz_setCell, sz_drew, sz_drewN]; omega) | (simp; done) | (simp; omega))) 0).trans (by go_simp; exact rfl)
  have c5_1 := (lcc hb (w.heap.size + 1) (by (first | omega | (simp only [sz_alloc, sz_setCell, sz_drew, sz_drewN]; omega) | (simp; done) | (simp; omega))) 1).trans (by go_simp; exact rfl)
  have c5_2 := (lcc hb (w.heap.size + 1) (by (first | omega | (simp only [sz_alloc, sz_setCell, sz_drew, sz_drewN]; omega) | (simp; done) | (simp; omega))) 2).trans (by go_simp; exact rfl)
  have c5_3 := (lcc hb (w.heap.size + 1) (by (first | omega | (simp only [sz_alloc, sz_setCell, sz_drew, sz_drewN]; omega) | (simp; done) | (simp; omega))) 3).trans (by go_simp; exact rfl)
  have c5_4 := (lcc hb (w.heap.size + 1) (by (first | omega | (simp only [sz_alloc, sz_setCell, sz_drew, sz_drewN]; omega) | (simp; done) | (simp; omega))) 4).trans (by go_simp; exact rfl)
  have c5_5 := (lcc hb (w.heap.size + 1) (by (first | omega | (simp only [sz_alloc, sz_setCell, sz_drew, sz_drewN]; omega) | (simp; done) | (simp; omega))) 5).trans (by go_simp; exact rfl)
  have f5 := lcff hb (w.heap.size + 1) (by (first | omega | (simp only [sz_alloc, sz_setCell, sz_drew, sz_drewN]; omega) | (simp; done) | (simp; omega))) (by intro o; go_simp)
  go_wp2
  refine bodyPost_ret (v := .agg #[.int .i64 (wholeF t.size).k, .int .i64 (wholeF t.size).n, .int .i64 (wholeF t.size).d, .string (wholeF t.size).t, .bool (wholeF t.size).b, .int .i64 (wholeF t.size).f]) (by simp [results, Tryz.results40, go_sem, c5_0, c5_1, c5_2, c5_3, c5_4, c5_5]) rfl ⟨rfl, ?_⟩
  repeat (first | with_reducible exact Below.refl _ _ | with_reducible refine below_drewN ?_ _ | with_reducible refine Below.drew ?_ | with_reducible refine Below.setCell ?_ (by (first | omega | (simp only [sz_alloc, sz_setCell, sz_drew, sz_drewN]; omega) | (simp; done) | (simp; omega))) _ | with_reducible refine Below.alloc ?_ (by (first | omega | (simp only [sz_alloc, sz_setCell, sz_drew, sz_drewN]; omega) | (simp; done) | (simp; omega))) _ | with_reducible refine below_then ?_ ?_ (by with_reducible assumption) | (first | omega | (simp only [sz_alloc, sz_setCell, sz_drew, sz_drewN]; omega) | (simp; done) | (simp; omega)))
set_option maxHeartbeats 1000000 in
theorem ofTexts53 (s t : ByteArray) (aN : Option Addr) (lN cN gt off lT cT : Nat) (tr : Bool) (w : World) (hlT : 2 ≤ lT) (hcT : lT ≤ cT) (hg : gt < w.heap.size) (c0 : w.cell? ⟨gt, off, none⟩ = some (.string s)) (c1 : w.cell? ⟨gt, off + 1, none⟩ = some (.string t)) (hs : t.size ≤ 256) (hm : MaxL w) :
    Calls Tryz.prog 40 #[.int .i64 53, .agg #[.slice aN lN cN, .slice (some ⟨gt, off, none⟩) lT cT, .bool tr]] w fun e w' => e = .returned (.agg #[.int .i64 (findV s t).k, .int .i64 (findV s t).n, .int .i64 (findV s t).d, .string (findV s t).t, .bool (findV s t).b, .int .i64 (findV s t).f]) ∧ Below w.heap.size w w' := by
  have hne : ¬ gt = w.heap.size := by omega
  have hne' : ¬ w.heap.size = gt := by omega
  have HI : Hid (∀ wx, Below w.heap.size w wx → Calls Tryz.prog 78 #[.string t, .string s] wx fun e w' => e = .returned (.int .i64 (Lib.index t.data.toList s.data.toList)) ∧ w' = wx) := by
    intro wx h
    obtain ⟨_, m, hx⟩ := hm.below h
    exact Tryz.strings_Index t s m wx (by omega) hx
  have hle := Lib.index_le t.data.toList s.data.toList
  have hsz : t.data.toList.length = t.size := by rw [Array.length_toList]; rfl
  rw [hsz] at hle
  have hge := Lib.index_ge t.data.toList s.data.toList
  have HQ : findV s t = if Lib.index t.data.toList s.data.toList < 0 then faultF 5 else wholeF (Lib.index t.data.toList s.data.toList + 1) := rfl
  have HF := Lib.hid fun wx => value_Fault 5 wx
  generalize Lib.index t.data.toList s.data.toList = k at *
  have HW := Lib.hid fun wx => funcs_whole (k + 1) wx ⟨by omega, by omega⟩
  generalize findV s t = Q at *
  generalize wholeF (k + 1) = R at *
  generalize faultF 5 = F at *
  clear hsz hm
  by_cases hk : k < 0
  · rw [if_pos hk] at HQ
    subst HQ
    go_enter Tryz.func40, Tryz.ntmps40
    go_wp2_with fail
    refine (HI.out _ ?_).mono ?_
    · repeat (first | with_reducible exact Below.refl _ _ | with_reducible refine below_drewN ?_ _ | with_reducible refine Below.drew ?_ | with_reducible refine Below.setCell ?_ (by (first | omega | (simp only [sz_alloc, sz_setCell, sz_drew, sz_drewN]; omega) | (simp; done) | (simp; omega))) _ | with_reducible refine Below.alloc ?_ (by (first | omega | (simp only [sz_alloc, sz_setCell, sz_drew, sz_drewN]; omega) | (simp; done) | (simp; omega))) _ | with_reducible refine below_then ?_ ?_ (by with_reducible assumption) | (first | omega | (simp only [sz_alloc, sz_setCell, sz_drew, sz_drewN]; omega) | (simp; done) | (simp; omega)))
    rintro e w1 ⟨rfl, rfl⟩
    go_wp2_with fail
    refine (HF.out _).mono ?_
    rintro e w2 ⟨rfl, hb2⟩
    have s6 := lcs hb2 (w.heap.size + 1) (by (first | omega | (simp only [sz_alloc, sz_setCell, sz_drew, sz_drewN]; omega) | (simp; done) | (simp; omega)))
    have c6_0 := (lcc hb2 (w.heap.size + 1) (by (first | omega | (simp only [sz_alloc, sz_setCell, sz_drew, sz_drewN]; omega) | (simp; done) | (simp; omega))) 0).trans (by go_simp; exact rfl)
    have c6_1 := (lcc hb2 (w.heap.size + 1) (by (first | omega | (simp only [sz_alloc, sz_setCell, sz_drew, sz_drewN]; omega) | (simp; done) | (simp; omega))) 1).trans (by go_simp; exact rfl)
    have c6_2 := (lcc hb2 (w.heap.size + 1) (by (first | omega | (simp only [sz_alloc, sz_setCell, sz_drew, sz_drewN]; omega) | (simp; done) | (simp; omega))) 2).trans (by go_simp; exact rfl)
    have c6_3 := (lcc hb2 (w.heap.size + 1) (by (first | omega | (simp only [sz_alloc, sz_setCell, sz_drew, sz_drewN]; omega) | (simp; done) | (simp; omega))) 3).trans (by go_simp; exact rfl)
    have c6_4 := (lcc hb2 (w.heap.size + 1) (by (first | omega | (simp only [sz_alloc, sz_setCell, sz_drew, sz_drewN]; omega) | (simp; done) | (simp; omega))) 4).trans (by go_simp; exact rfl)
    have c6_5 := (lcc hb2 (w.heap.size + 1) (by (first | omega | (simp only [sz_alloc, sz_setCell, sz_drew, sz_drewN]; omega) | (simp; done) | (simp; omega))) 5).trans (by go_simp; exact rfl)
    have f6 := lcff hb2 (w.heap.size + 1) (by (first | omega | (simp only [sz_alloc, sz_setCell, sz_drew, sz_drewN]; omega) | (simp; done) | (simp; omega))) (by intro o; go_simp)
    go_wp2
    refine bodyPost_ret (v := .agg #[.int .i64 (Q).k, .int .i64 (Q).n, .int .i64 (Q).d, .string (Q).t, .bool (Q).b, .int .i64 (Q).f]) (by simp [results, Tryz.results40, go_sem, c6_0, c6_1, c6_2, c6_3, c6_4, c6_5]) rfl ⟨rfl, ?_⟩
    repeat (first | with_reducible exact Below.refl _ _ | with_reducible refine below_drewN ?_ _ | with_reducible refine Below.drew ?_ | with_reducible refine Below.setCell ?_ (by (first | omega | (simp only [sz_alloc, sz_setCell, sz_drew, sz_drewN]; omega) | (simp; done) | (simp; omega))) _ | with_reducible refine Below.alloc ?_ (by (first | omega | (simp only [sz_alloc, sz_setCell, sz_drew, sz_drewN]; omega) | (simp; done) | (simp; omega))) _ | with_reducible refine below_then ?_ ?_ (by with_reducible assumption) | (first | omega | (simp only [sz_alloc, sz_setCell, sz_drew, sz_drewN]; omega) | (simp; done) | (simp; omega)))
  · rw [if_neg hk] at HQ
    subst HQ
    go_enter Tryz.func40, Tryz.ntmps40
    go_wp2_with fail
    refine (HI.out _ ?_).mono ?_
    · repeat (first | with_reducible exact Below.refl _ _ | with_reducible refine below_drewN ?_ _ | with_reducible refine Below.drew ?_ | with_reducible refine Below.setCell ?_ (by (first | omega | (simp only [sz_alloc, sz_setCell, sz_drew, sz_drewN]; omega) | (simp; done) | (simp; omega))) _ | with_reducible refine Below.alloc ?_ (by (first | omega | (simp only [sz_alloc, sz_setCell, sz_drew, sz_drewN]; omega) | (simp; done) | (simp; omega))) _ | with_reducible refine below_then ?_ ?_ (by with_reducible assumption) | (first | omega | (simp only [sz_alloc, sz_setCell, sz_drew, sz_drewN]; omega) | (simp; done) | (simp; omega)))
    rintro e w1 ⟨rfl, rfl⟩
    go_wp2_with fail
    refine (HW.out _).mono ?_
    rintro e w2 ⟨rfl, hb2⟩
    have s7 := lcs hb2 (w.heap.size + 1) (by (first | omega | (simp only [sz_alloc, sz_setCell, sz_drew, sz_drewN]; omega) | (simp; done) | (simp; omega)))
    have c7_0 := (lcc hb2 (w.heap.size + 1) (by (first | omega | (simp only [sz_alloc, sz_setCell, sz_drew, sz_drewN]; omega) | (simp; done) | (simp; omega))) 0).trans (by go_simp; exact rfl)
    have c7_1 := (lcc hb2 (w.heap.size + 1) (by (first | omega | (simp only [sz_alloc, sz_setCell, sz_drew, sz_drewN]; omega) | (simp; done) | (simp; omega))) 1).trans (by go_simp; exact rfl)
    have c7_2 := (lcc hb2 (w.heap.size + 1) (by (first | omega | (simp only [sz_alloc, sz_setCell, sz_drew, sz_drewN]; omega) | (simp; done) | (simp; omega))) 2).trans (by go_simp; exact rfl)
    have c7_3 := (lcc hb2 (w.heap.size + 1) (by (first | omega | (simp only [sz_alloc, sz_setCell, sz_drew, sz_drewN]; omega) | (simp; done) | (simp; omega))) 3).trans (by go_simp; exact rfl)
    have c7_4 := (lcc hb2 (w.heap.size + 1) (by (first | omega | (simp only [sz_alloc, sz_setCell, sz_drew, sz_drewN]; omega) | (simp; done) | (simp; omega))) 4).trans (by go_simp; exact rfl)
    have c7_5 := (lcc hb2 (w.heap.size + 1) (by (first | omega | (simp only [sz_alloc, sz_setCell, sz_drew, sz_drewN]; omega) | (simp; done) | (simp; omega))) 5).trans (by go_simp; exact rfl)
    have f7 := lcff hb2 (w.heap.size + 1) (by (first | omega | (simp only [sz_alloc, sz_setCell, sz_drew, sz_drewN]; omega) | (simp; done) | (simp; omega))) (by intro o; go_simp)
    go_wp2
    refine bodyPost_ret (v := .agg #[.int .i64 (Q).k, .int .i64 (Q).n, .int .i64 (Q).d, .string (Q).t, .bool (Q).b, .int .i64 (Q).f]) (by simp [results, Tryz.results40, go_sem, c7_0, c7_1, c7_2, c7_3, c7_4, c7_5]) rfl ⟨rfl, ?_⟩
    repeat (first | with_reducible exact Below.refl _ _ | with_reducible refine below_drewN ?_ _ | with_reducible refine Below.drew ?_ | with_reducible refine Below.setCell ?_ (by (first | omega | (simp only [sz_alloc, sz_setCell, sz_drew, sz_drewN]; omega) | (simp; done) | (simp; omega))) _ | with_reducible refine Below.alloc ?_ (by (first | omega | (simp only [sz_alloc, sz_setCell, sz_drew, sz_drewN]; omega) | (simp; done) | (simp; omega))) _ | with_reducible refine below_then ?_ ?_ (by with_reducible assumption) | (first | omega | (simp only [sz_alloc, sz_setCell, sz_drew, sz_drewN]; omega) | (simp; done) | (simp; omega)))
set_option maxHeartbeats 1000000 in
theorem ofTexts_piece (id : Int) (s : ByteArray) (ns : List Nm) (aN : Option Addr) (lN cN gt off lT cT : Nat) (tr : Bool) (w : World) (hid : id = 49 ∨ id = 50 ∨ id = 51 ∨ id = 52) (hlT : 1 ≤ lT) (hcT : lT ≤ cT) (hg : gt < w.heap.size) (c0 : w.cell? ⟨gt, off, none⟩ = some (.string s)) (hs : s.size ≤ 256)
    (hn : ns.length = lN) (h1 : 1 ≤ lN) (h51 : id = 51 → 2 ≤ lN) (hc : lN ≤ cN) (hin : ∀ x ∈ ns, I64 x.n ∧ I64 x.d) (hr : NmAt w aN ns) :
    Calls Tryz.prog 40 #[.int .i64 id, .agg #[.slice aN lN cN, .slice (some ⟨gt, off, none⟩) lT cT, .bool tr]] w fun e w' => e = .returned (.agg #[.int .i64 (pieceP id s ns).k, .int .i64 (pieceP id s ns).n, .int .i64 (pieceP id s ns).d, .string (pieceP id s ns).t, .bool (pieceP id s ns).b, .int .i64 (pieceP id s ns).f]) ∧ Below w.heap.size w w' := by
  have hne : ¬ gt = w.heap.size := by omega
  have hne' : ¬ w.heap.size = gt := by omega
  have HP : Hid (∀ wx, Below w.heap.size w wx → Calls Tryz.prog 79 #[.int .i64 id, .string s, .slice aN lN cN] wx fun e w' => e = .returned (.agg #[.int .i64 (pieceP id s ns).k, .int .i64 (pieceP id s ns).n, .int .i64 (pieceP id s ns).d, .string (pieceP id s ns).t, .bool (pieceP id s ns).b, .int .i64 (pieceP id s ns).f]) ∧ Below wx.heap.size wx w') := by
    intro wx h
    exact funcs_piece id s ns aN lN cN wx hid hn h1 h51 hc hin (NmAt.below hr h) hs
  have k0 : (id == 48) = false := by rw [beq_eq_false_iff_ne]; omega
  have k1 : (id == 54) = false := by rw [beq_eq_false_iff_ne]; omega
  have k2 : (id == 55) = false := by rw [beq_eq_false_iff_ne]; omega
  have k3 : (id == 56) = false := by rw [beq_eq_false_iff_ne]; omega
  have k4 : (id == 53) = false := by rw [beq_eq_false_iff_ne]; omega
  generalize pieceP id s ns = Q at *
  clear hid hr hin h51 hn
  go_enter Tryz.func40, Tryz.ntmps40
  go_wp2_with fail
  refine (HP.out _ ?_).mono ?_
  · repeat (first | with_reducible exact Below.refl _ _ | with_reducible refine below_drewN ?_ _ | with_reducible refine Below.drew ?_ | with_reducible refine Below.setCell ?_ (by (first | omega | (simp only [sz_alloc, sz_setCell, sz_drew, sz_drewN]; omega) | (simp; done) | (simp; omega))) _ | with_reducible refine Below.alloc ?_ (by (first | omega | (simp only [sz_alloc, sz_setCell, sz_drew, sz_drewN]; omega) | (simp; done) | (simp; omega))) _ | with_reducible refine below_then ?_ ?_ (by with_reducible assumption) | (first | omega | (simp only [sz_alloc, sz_setCell, sz_drew, sz_drewN]; omega) | (simp; done) | (simp; omega)))
  rintro e w2 ⟨rfl, hb2⟩
  have s8 := lcs hb2 (w.heap.size + 1) (by (first | omega | (simp only [sz_alloc, sz_setCell, sz_drew, sz_drewN]; omega) | (simp; done) | (simp; omega)))
  have c8_0 := (lcc hb2 (w.heap.size + 1) (by (first | omega | (simp only [sz_alloc, sz_setCell, sz_drew, sz_drewN]; omega) | (simp; done) | (simp; omega))) 0).trans (by go_simp; exact rfl)
  have c8_1 := (lcc hb2 (w.heap.size + 1) (by (first | omega | (simp only [sz_alloc, sz_setCell, sz_drew, sz_drewN]; omega) | (simp; done) | (simp; omega))) 1).trans (by go_simp; exact rfl)
  have c8_2 := (lcc hb2 (w.heap.size + 1) (by (first | omega | (simp only [sz_alloc, sz_setCell, sz_drew, sz_drewN]; omega) | (simp; done) | (simp; omega))) 2).trans (by go_simp; exact rfl)
  have c8_3 := (lcc hb2 (w.heap.size + 1) (by (first | omega | (simp only [sz_alloc, sz_setCell, sz_drew, sz_drewN]; omega) | (simp; done) | (simp; omega))) 3).trans (by go_simp; exact rfl)
  have c8_4 := (lcc hb2 (w.heap.size + 1) (by (first | omega | (simp only [sz_alloc, sz_setCell, sz_drew, sz_drewN]; omega) | (simp; done) | (simp; omega))) 4).trans (by go_simp; exact rfl)
  have c8_5 := (lcc hb2 (w.heap.size + 1) (by (first | omega | (simp only [sz_alloc, sz_setCell, sz_drew, sz_drewN]; omega) | (simp; done) | (simp; omega))) 5).trans (by go_simp; exact rfl)
  have f8 := lcff hb2 (w.heap.size + 1) (by (first | omega | (simp only [sz_alloc, sz_setCell, sz_drew, sz_drewN]; omega) | (simp; done) | (simp; omega))) (by intro o; go_simp)
  go_wp2
  refine bodyPost_ret (v := .agg #[.int .i64 (Q).k, .int .i64 (Q).n, .int .i64 (Q).d, .string (Q).t, .bool (Q).b, .int .i64 (Q).f]) (by simp [results, Tryz.results40, go_sem, c8_0, c8_1, c8_2, c8_3, c8_4, c8_5]) rfl ⟨rfl, ?_⟩
  repeat (first | with_reducible exact Below.refl _ _ | with_reducible refine below_drewN ?_ _ | with_reducible refine Below.drew ?_ | with_reducible refine Below.setCell ?_ (by (first | omega | (simp only [sz_alloc, sz_setCell, sz_drew, sz_drewN]; omega) | (simp; done) | (simp; omega))) _ | with_reducible refine Below.alloc ?_ (by (first | omega | (simp only [sz_alloc, sz_setCell, sz_drew, sz_drewN]; omega) | (simp; done) | (simp; omega))) _ | with_reducible refine below_then ?_ ?_ (by with_reducible assumption) | (first | omega | (simp only [sz_alloc, sz_setCell, sz_drew, sz_drewN]; omega) | (simp; done) | (simp; omega)))
set_option maxHeartbeats 1000000 in
theorem ofTexts56 (t : ByteArray) (aN : Option Addr) (lN cN gt off lT cT : Nat) (tr : Bool) (w : World) (hlT : 1 ≤ lT) (hcT : lT ≤ cT) (hg : gt < w.heap.size) (c0 : w.cell? ⟨gt, off, none⟩ = some (.string t)) (hp : plainT t = true) (hs : t.size ≤ 256) (htab : SpTab w) :
    Calls Tryz.prog 40 #[.int .i64 56, .agg #[.slice aN lN cN, .slice (some ⟨gt, off, none⟩) lT cT, .bool tr]] w fun e w' => e = .returned (.agg #[.int .i64 (textF (trT t)).k, .int .i64 (textF (trT t)).n, .int .i64 (textF (trT t)).d, .string (textF (trT t)).t, .bool (textF (trT t)).b, .int .i64 (textF (trT t)).f]) ∧ Below w.heap.size w w' := by
  have hne : ¬ gt = w.heap.size := by omega
  have hne' : ¬ w.heap.size = gt := by omega
  have hT := trim_ok hp hs
  have HV := Lib.hid fun wx => value_Text (trT t) wx (by have := hT.2; omega)
  have HF : Hid (∀ wx : World, Below w.heap.size w wx → Calls Tryz.prog 77 #[.string t] wx fun e w' => ∃ sl, e = .returned sl ∧ Below wx.heap.size wx w' ∧
      Hid (Calls Tryz.prog 76 #[sl, .string ⟨#[32]⟩] w' fun e w'' => e = .returned (.string (trT t)) ∧ Below w'.heap.size w' w'')) := by
    intro wx hb
    have h0 : 0 < w.heap.size := by omega
    refine (Tryz.strings_Fields t wx (by omega) (okc_ascii hp) (SpTab.below htab hb h0)).mono ?_
    rintro e w' ⟨rfl, rfl⟩
    refine ⟨_, rfl, (Below.refl _ _).alloc (Nat.le_refl _) _, ?_⟩
    have eF : trT t = ⟨(Lib.join (Lib.fields t.data.toList) [32]).toArray⟩ := rfl
    cases hf : Lib.fields t.data.toList with
    | nil =>
      rw [hf] at eF
      refine (Tryz.strings_Join_none _ _ _ _).mono ?_
      rintro e w'' ⟨rfl, rfl⟩
      exact ⟨by rw [eF]; rfl, Below.refl _ _⟩
    | cons x r =>
      rw [← hf]
      have hmap : ((Lib.fields t.data.toList).map fun l => (⟨l.toArray⟩ : ByteArray)).map (·.data.toList) = Lib.fields t.data.toList := by
        rw [List.map_map]
        conv => rhs; rw [← List.map_id (Lib.fields t.data.toList)]
        apply List.map_congr_left
        intro l _
        simp
      have hlen : ((Lib.fields t.data.toList).map fun l => (⟨l.toArray⟩ : ByteArray)).length = (Lib.fields t.data.toList).length := by simp
      have hle := trim_len t.data.toList
      have e2 : t.size = t.data.toList.length := Array.length_toList.symm
      have hcnt : (Lib.fields t.data.toList).length ≤ 140737488355328 := by
        have hj : (Lib.join (Lib.fields t.data.toList) [32]).length ≤ t.data.toList.length := hle
        rw [hf, Lib.join_length] at hj
        rw [hf]
        simp at hj ⊢
        omega
      have J := Tryz.strings_Join wx.heap.size 0 (Lib.fields t.data.toList).length ((Lib.fields t.data.toList).map fun l => (⟨l.toArray⟩ : ByteArray)) ⟨#[32]⟩
        (wx.alloc (.cells ((Lib.fields t.data.toList).map fun l => Value.string ⟨l.toArray⟩).toArray 9)) (by
          intro j y hy
          simp only [List.getElem?_map, Option.map_eq_some_iff] at hy
          obtain ⟨l, hl, rfl⟩ := hy
          unfold World.cell?
          rw [heap_alloc_new]
          simp [hl]) (by simp) (by rw [hlen]; exact hcnt) (by rw [hlen]; exact Nat.le_refl _) (by
          rw [hmap]
          have hj : (Lib.join (Lib.fields t.data.toList) [32]).length ≤ t.data.toList.length := hle
          have : (Lib.join (Lib.fields t.data.toList) (ByteArray.mk #[32]).data.toList).length = (Lib.join (Lib.fields t.data.toList) [32]).length := rfl
          omega)
      rw [hlen, hmap] at J
      refine J.mono ?_
      rintro e w'' ⟨rfl, hb2⟩
      exact ⟨rfl, hb2⟩
  clear hp hs htab hT
  go_enter Tryz.func40, Tryz.ntmps40
  go_wp2_with fail
  refine (HF.out _ ?_).mono ?_
  · repeat (first | with_reducible exact Below.refl _ _ | with_reducible refine below_drewN ?_ _ | with_reducible refine Below.drew ?_ | with_reducible refine Below.setCell ?_ (by (first | omega | (simp only [sz_alloc, sz_setCell, sz_drew, sz_drewN]; omega) | (simp; done) | (simp; omega))) _ | with_reducible refine Below.alloc ?_ (by (first | omega | (simp only [sz_alloc, sz_setCell, sz_drew, sz_drewN]; omega) | (simp; done) | (simp; omega))) _ | with_reducible refine below_then ?_ ?_ (by with_reducible assumption) | (first | omega | (simp only [sz_alloc, sz_setCell, sz_drew, sz_drewN]; omega) | (simp; done) | (simp; omega)))
  rintro e w1 ⟨sl, rfl, hb, HJ⟩
  have s9 := lcs hb (w.heap.size + 1) (by (first | omega | (simp only [sz_alloc, sz_setCell, sz_drew, sz_drewN]; omega) | (simp; done) | (simp; omega)))
  have c9_0 := (lcc hb (w.heap.size + 1) (by (first | omega | (simp only [sz_alloc, sz_setCell, sz_drew, sz_drewN]; omega) | (simp; done) | (simp; omega))) 0).trans (by go_simp; exact rfl)
  have c9_1 := (lcc hb (w.heap.size + 1) (by (first | omega | (simp only [sz_alloc, sz_setCell, sz_drew, sz_drewN]; omega) | (simp; done) | (simp; omega))) 1).trans (by go_simp; exact rfl)
  have c9_2 := (lcc hb (w.heap.size + 1) (by (first | omega | (simp only [sz_alloc, sz_setCell, sz_drew, sz_drewN]; omega) | (simp; done) | (simp; omega))) 2).trans (by go_simp; exact rfl)
  have c9_3 := (lcc hb (w.heap.size + 1) (by (first | omega | (simp only [sz_alloc, sz_setCell, sz_drew, sz_drewN]; omega) | (simp; done) | (simp; omega))) 3).trans (by go_simp; exact rfl)
  have c9_4 := (lcc hb (w.heap.size + 1) (by (first | omega | (simp only [sz_alloc, sz_setCell, sz_drew, sz_drewN]; omega) | (simp; done) | (simp; omega))) 4).trans (by go_simp; exact rfl)
  have c9_5 := (lcc hb (w.heap.size + 1) (by (first | omega | (simp only [sz_alloc, sz_setCell, sz_drew, sz_drewN]; omega) | (simp; done) | (simp; omega))) 5).trans (by go_simp; exact rfl)
  have f9 := lcff hb (w.heap.size + 1) (by (first | omega | (simp only [sz_alloc, sz_setCell, sz_drew, sz_drewN]; omega) | (simp; done) | (simp; omega))) (by intro o; go_simp)
  go_wp2_with fail
  refine HJ.out.mono ?_
  rintro e w2 ⟨rfl, hb⟩
  have s10 := lcs hb (w.heap.size + 1) (by (first | omega | (simp only [sz_alloc, sz_setCell, sz_drew, sz_drewN]; omega) | (simp; done) | (simp; omega)))
  have c10_0 := (lcc hb (w.heap.size + 1) (by (first | omega | (simp only [sz_alloc, sz_setCell, sz_drew, sz_drewN]; omega) | (simp; done) | (simp; omega))) 0).trans (by go_simp; exact rfl)
  have c10_1 := (lcc hb (w.heap.size + 1) (by (first | omega | (simp only [sz_alloc, sz_setCell, sz_drew, sz_drewN]; omega) | (simp; done) | (simp; omega))) 1).trans (by go_simp; exact rfl)
  have c10_2 := (lcc hb (w.heap.size + 1) (by (first | omega | (simp only [sz_alloc, sz_setCell, sz_drew, sz_drewN]; omega) | (simp; done) | (simp; omega))) 2).trans (by go_simp; exact rfl)
  have c10_3 := (lcc hb (w.heap.size + 1) (by (first | omega | (simp only [sz_alloc, sz_setCell, sz_drew, sz_drewN]; omega) | (simp; done) | (simp; omega))) 3).trans (by go_simp; exact rfl)
  have c10_4 := (lcc hb (w.heap.size + 1) (by (first | omega | (simp only [sz_alloc, sz_setCell, sz_drew, sz_drewN]; omega) | (simp; done) | (simp; omega))) 4).trans (by go_simp; exact rfl)
  have c10_5 := (lcc hb (w.heap.size + 1) (by (first | omega | (simp only [sz_alloc, sz_setCell, sz_drew, sz_drewN]; omega) | (simp; done) | (simp; omega))) 5).trans (by go_simp; exact rfl)
  have f10 := lcff hb (w.heap.size + 1) (by (first | omega | (simp only [sz_alloc, sz_setCell, sz_drew, sz_drewN]; omega) | (simp; done) | (simp; omega))) (by intro o; go_simp)
  clear c9_0 c9_1 c9_2 c9_3 c9_4 c9_5 f9
  go_wp2_with fail
  refine (HV.out _).mono ?_
  rintro e w3 ⟨rfl, hb⟩
  have s11 := lcs hb (w.heap.size + 1) (by (first | omega | (simp only [sz_alloc, sz_setCell, sz_drew, sz_drewN]; omega) | (simp; done) | (simp; omega)))
  have c11_0 := (lcc hb (w.heap.size + 1) (by (first | omega | (simp only [sz_alloc, sz_setCell, sz_drew, sz_drewN]; omega) | (simp; done) | (simp; omega))) 0).trans (by go_simp; exact rfl)
  have c11_1 := (lcc hb (w.heap.size + 1) (by (first | omega | (simp only [sz_alloc, sz_setCell, sz_drew, sz_drewN]; omega) | (simp; done) | (simp; omega))) 1).trans (by go_simp; exact rfl)
  have c11_2 := (lcc hb (w.heap.size + 1) (by (first | omega | (simp only [sz_alloc, sz_setCell, sz_drew, sz_drewN]; omega) | (simp; done) | (simp; omega))) 2).trans (by go_simp; exact rfl)
  have c11_3 := (lcc hb (w.heap.size + 1) (by (first | omega | (simp only [sz_alloc, sz_setCell, sz_drew, sz_drewN]; omega) | (simp; done) | (simp; omega))) 3).trans (by go_simp; exact rfl)
  have c11_4 := (lcc hb (w.heap.size + 1) (by (first | omega | (simp only [sz_alloc, sz_setCell, sz_drew, sz_drewN]; omega) | (simp; done) | (simp; omega))) 4).trans (by go_simp; exact rfl)
  have c11_5 := (lcc hb (w.heap.size + 1) (by (first | omega | (simp only [sz_alloc, sz_setCell, sz_drew, sz_drewN]; omega) | (simp; done) | (simp; omega))) 5).trans (by go_simp; exact rfl)
  have f11 := lcff hb (w.heap.size + 1) (by (first | omega | (simp only [sz_alloc, sz_setCell, sz_drew, sz_drewN]; omega) | (simp; done) | (simp; omega))) (by intro o; go_simp)
  clear c10_0 c10_1 c10_2 c10_3 c10_4 c10_5 f10
  go_wp2
  refine bodyPost_ret (v := .agg #[.int .i64 (textF (trT t)).k, .int .i64 (textF (trT t)).n, .int .i64 (textF (trT t)).d, .string (textF (trT t)).t, .bool (textF (trT t)).b, .int .i64 (textF (trT t)).f]) (by simp [results, Tryz.results40, go_sem, c11_0, c11_1, c11_2, c11_3, c11_4, c11_5]) rfl ⟨rfl, ?_⟩
  repeat (first | with_reducible exact Below.refl _ _ | with_reducible refine below_drewN ?_ _ | with_reducible refine Below.drew ?_ | with_reducible refine Below.setCell ?_ (by (first | omega | (simp only [sz_alloc, sz_setCell, sz_drew, sz_drewN]; omega) | (simp; done) | (simp; omega))) _ | with_reducible refine Below.alloc ?_ (by (first | omega | (simp only [sz_alloc, sz_setCell, sz_drew, sz_drewN]; omega) | (simp; done) | (simp; omega))) _ | with_reducible refine below_then ?_ ?_ (by with_reducible assumption) | (first | omega | (simp only [sz_alloc, sz_setCell, sz_drew, sz_drewN]; omega) | (simp; done) | (simp; omega)))

end Go.Proofs.YtodopbdngikpcaaGreatDoor
