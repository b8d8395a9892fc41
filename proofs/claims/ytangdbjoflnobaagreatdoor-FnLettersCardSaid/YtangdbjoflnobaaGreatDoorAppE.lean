/- Walks of package funcs: ofTexts at TRIM; Apply at UPPER, LOWER, TRIM with one text. -/
import Derived.Test.YtangdbjoflnobaaGreatDoorAppD
import Derived.Test.YtangdbjoflnobaaGreatDoorLettersP
import Derived.WalkSmall
import Derived.Lib.LaidTab
namespace Go.Proofs.YtangdbjoflnobaaGreatDoor
open Go Go.RowKit
set_option linter.unusedSimpArgs false
set_option linter.unusedVariables false

theorem okc_ascii {t : ByteArray} (hp : plainT t = true) : ∀ (j : Nat) (b : UInt8), t.data.toList[j]? = some b → b.toNat < 128 := by
  intro j b h
  rw [plainT_eq] at hp
  have := List.all_eq_true.1 hp b (List.mem_of_getElem? h)
  simp [okc] at this
  omega
def upT (t : ByteArray) : ByteArray := ⟨(Lib.toUpperA t.data.toList).toArray⟩
def loT (t : ByteArray) : ByteArray := ⟨(Lib.toLowerA t.data.toList).toArray⟩
def trT (t : ByteArray) : ByteArray := ⟨(trimL t.data.toList).toArray⟩
def SpTab (w : World) : Prop := Lib.TabIs Tryz.prog w "strings.asciiSpace" .u8 Lib.asciiSpaceTab
theorem SpTab.below {w w1 : World} (h : SpTab w) (hb : Below w.heap.size w w1) (h0 : 0 < w.heap.size) : SpTab w1 :=
  var?_below hb (by kernel_rfl : (Tryz.prog).globalNamed "strings.asciiSpace" = some 0) h0 h

theorem trim_ok {t : ByteArray} (hp : plainT t = true) (hs : t.size ≤ 256) : plainT (trT t) = true ∧ (trT t).size ≤ 256 := by
  refine ⟨?_, ?_⟩
  · rw [plainT_eq] at hp ⊢
    simpa [trT] using trim_all hp
  · have := trim_len t.data.toList
    have e : (trT t).size = (trimL t.data.toList).length := by show (trimL t.data.toList).toArray.size = _; exact List.size_toArray
    have e2 : t.size = t.data.toList.length := Array.length_toList.symm
    omega

set_option maxHeartbeats 1000000 in
theorem funcs_ofTexts56 (t : ByteArray) (gt cap : Nat) (w : World) (hg : gt < w.heap.size) (c0 : w.cell? ⟨gt, 0, none⟩ = some (.string t)) (hp : plainT t = true) (hs : t.size ≤ 256) (htab : SpTab w) :
    Calls Tryz.prog 60 #[.int .i64 56, .agg #[.slice none 0 0, .slice (some ⟨gt, 0, none⟩) 1 cap, .bool false]] w fun e w' => e = .returned (.agg #[.int .i64 (textV (trT t)).k, .int .i64 (textV (trT t)).n, .int .i64 (textV (trT t)).d, .string (textV (trT t)).t, .bool (textV (trT t)).b, .int .i64 (textV (trT t)).f]) ∧ Below w.heap.size w w' := by
  have hne : ¬ gt = w.heap.size := by omega
  have hne' : ¬ w.heap.size = gt := by omega
  have hT := trim_ok hp hs
  have HV := Lib.hid fun wx => value_Text (trT t) wx (by have := hT.2; omega)
  have eV : textF (trT t) = textV (trT t) := by unfold textF; rw [if_pos hT.1, if_neg (by have := hT.2; omega)]
  rw [eV] at HV
  have HF : Hid (∀ wx : World, Below w.heap.size w wx → Calls Tryz.prog 97 #[.string t] wx fun e w' => ∃ sl, e = .returned sl ∧ Below wx.heap.size wx w' ∧
      Hid (Calls Tryz.prog 96 #[sl, .string ⟨#[32]⟩] w' fun e w'' => e = .returned (.string (trT t)) ∧ Below w'.heap.size w' w'')) := by
    intro wx hb
    have h0 : 0 < w.heap.size := by omega
    refine (Tryz.strings_Fields t wx (by omega) (okc_ascii hp) (SpTab.below htab hb h0)).mono ?_
    rintro e w' ⟨rfl, rfl⟩
    refine ⟨_, rfl, (Below.refl _ _).alloc (Nat.le_refl _) _, ?_⟩
    have eF : trT t = ⟨(Lib.join (Lib.fields t.data.toList) [32]).toArray⟩ := rfl
    cases hf : Lib.fields t.data.toList with
    | nil =>
      rw [hf] at eF
      refine (Tryz.strings_Join_none _ _ _ _).mono ?_
      rintro e w'' ⟨rfl, rfl⟩
      exact ⟨by rw [eF]; rfl, Below.refl _ _⟩
    | cons x r =>
      rw [← hf]
      have hmap : ((Lib.fields t.data.toList).map fun l => (⟨l.toArray⟩ : ByteArray)).map (·.data.toList) = Lib.fields t.data.toList := by
        rw [List.map_map]
        conv => rhs; rw [← List.map_id (Lib.fields t.data.toList)]
        apply List.map_congr_left
        intro l _
        simp
      have hlen : ((Lib.fields t.data.toList).map fun l => (⟨l.toArray⟩ : ByteArray)).length = (Lib.fields t.data.toList).length := by simp
      have hle := trim_len t.data.toList
      have e2 : t.size = t.data.toList.length := Array.length_toList.symm
      have hcnt : (Lib.fields t.data.toList).length ≤ 140737488355328 := by
        have hj : (Lib.join (Lib.fields t.data.toList) [32]).length ≤ t.data.toList.length := hle
        rw [hf, Lib.join_length] at hj
        rw [hf]
        simp at hj ⊢
        omega
      have J := Tryz.strings_Join wx.heap.size 0 (Lib.fields t.data.toList).length ((Lib.fields t.data.toList).map fun l => (⟨l.toArray⟩ : ByteArray)) ⟨#[32]⟩
        (wx.alloc (.cells ((Lib.fields t.data.toList).map fun l => Value.string ⟨l.toArray⟩).toArray 9)) (by
          intro j y hy
          simp only [List.getElem?_map, Option.map_eq_some_iff] at hy
          obtain ⟨l, hl, rfl⟩ := hy
          unfold World.cell?
          rw [heap_alloc_new]
          simp [hl]) (by simp) (by rw [hlen]; exact hcnt) (by rw [hlen]; exact Nat.le_refl _) (by
          rw [hmap]
          have hj : (Lib.join (Lib.fields t.data.toList) [32]).length ≤ t.data.toList.length := hle
          have : (Lib.join (Lib.fields t.data.toList) (ByteArray.mk #[32]).data.toList).length = (Lib.join (Lib.fields t.data.toList) [32]).length := rfl
          omega)
      rw [hlen, hmap] at J
      refine J.mono ?_
      rintro e w'' ⟨rfl, hb2⟩
      exact ⟨rfl, hb2⟩
  clear eV hp hs htab hT
  go_enter Tryz.func60, Tryz.ntmps60
  go_wp2_with fail
  refine (HF.out _ ?_).mono ?_
  · repeat (first | with_reducible exact Below.refl _ _ | with_reducible refine below_drewN ?_ _ | with_reducible refine Below.drew ?_ | with_reducible refine Below.setCell ?_ (by (first | omega | (simp only [sz_alloc, sz_setCell, sz_drew, sz_drewN]; omega) | (simp; done) | (simp; omega))) _ | with_reducible refine Below.alloc ?_ (by (first | omega | (simp only [sz_alloc, sz_setCell, sz_drew, sz_drewN]; omega) | (simp; done) | (simp; omega))) _ | with_reducible refine below_then ?_ ?_ (by with_reducible assumption) | (first | omega | (simp only [sz_alloc, sz_setCell, sz_drew, sz_drewN]; omega) | (simp; done) | (simp; omega)))
  rintro e w1 ⟨sl, rfl, hb, HJ⟩
  have s1 := lcs hb (w.heap.size + 1) (by (first | omega | (simp only [sz_alloc, sz_setCell, sz_drew, sz_drewN]; omega) | (simp; done) | (simp; omega)))
  have c1_0 := (lcc hb (w.heap.size + 1) (by (first | omega | (simp only [sz_alloc, sz_setCell, sz_drew, sz_drewN]; omega) | (simp; done) | (simp; omega))) 0).trans (by go_simp; exact rfl)
  have c1_1 := (lcc hb (w.heap.size + 1) (by (first | omega | (simp only [sz_alloc, sz_setCell, sz_drew, sz_drewN]; omega) | (simp; done) | (simp; omega))) 1).trans (by go_simp; exact rfl)
  have c1_2 := (lcc hb (w.heap.size + 1) (by (first | omega | (simp only [sz_alloc, sz_setCell, sz_drew, sz_drewN]; omega) | (simp; done) | (simp; omega))) 2).trans (by go_simp; exact rfl)
  have c1_3 := (lcc hb (w.heap.size + 1) (by (first | omega | (simp only [sz_alloc, sz_setCell, sz_drew, sz_drewN]; omega) | (simp; done) | (simp; omega))) 3).trans (by go_simp; exact rfl)
  have c1_4 := (lcc hb (w.heap.size + 1) (by (first | omega | (simp only [sz_alloc, sz_setCell, sz_drew, sz_drewN]; omega) | (simp; done) | (simp; omega))) 4).trans (by go_simp; exact rfl)
  have c1_5 := (lcc hb (w.heap.size + 1) (by (first | omega | (simp only [sz_alloc, sz_setCell, sz_drew, sz_drewN]; omega) | (simp; done) | (simp; omega))) 5).trans (by go_simp; exact rfl)
  have f1 := lcff hb (w.heap.size + 1) (by (first | omega | (simp only [sz_alloc, sz_setCell, sz_drew, sz_drewN]; omega) | (simp; done) | (simp; omega))) (by intro o; go_simp)
  go_wp2_with fail
  refine HJ.out.mono ?_
  rintro e w2 ⟨rfl, hb⟩
  have s2 := lcs hb (w.heap.size + 1) (by (first | omega | (simp only [sz_alloc, sz_setCell, sz_drew, sz_drewN]; omega) | (simp; done) | (simp; omega)))
  have c2_0 := (lcc hb (w.heap.size + 1) (by (first | omega | (simp only [sz_alloc, sz_setCell, sz_drew, sz_drewN]; omega) | (simp; done) | (simp; omega))) 0).trans (by go_simp; exact rfl)
  have c2_1 := (lcc hb (w.heap.size + 1) (by (first | omega | (simp only [sz_alloc, sz_setCell, sz_drew, sz_drewN]; omega) | (simp; done) | (simp; omega))) 1).trans (by go_simp; exact rfl)
  have c2_2 := (lcc hb (w.heap.size + 1) (by (first | omega | (simp only [sz_alloc, sz_setCell, sz_drew, sz_drewN]; omega) | (simp; done) | (simp; omega))) 2).trans (by go_simp; exact rfl)
  have c2_3 := (lcc hb (w.heap.size + 1) (by (first | omega | (simp only [sz_alloc, sz_setCell, sz_drew, sz_drewN]; omega) | (simp; done) | (simp; omega))) 3).trans (by go_simp; exact rfl)
  have c2_4 := (lcc hb (w.heap.size + 1) (by (first | omega | (simp only [sz_alloc, sz_setCell, sz_drew, sz_drewN]; omega) | (simp; done) | (simp; omega))) 4).trans (by go_simp; exact rfl)
  have c2_5 := (lcc hb (w.heap.size + 1) (by (first | omega | (simp only [sz_alloc, sz_setCell, sz_drew, sz_drewN]; omega) | (simp; done) | (simp; omega))) 5).trans (by go_simp; exact rfl)
  have f2 := lcff hb (w.heap.size + 1) (by (first | omega | (simp only [sz_alloc, sz_setCell, sz_drew, sz_drewN]; omega) | (simp; done) | (simp; omega))) (by intro o; go_simp)
  clear c1_0 c1_1 c1_2 c1_3 c1_4 c1_5 f1
  go_wp2_with fail
  refine (HV.out _).mono ?_
  rintro e w3 ⟨rfl, hb⟩
  have s3 := lcs hb (w.heap.size + 1) (by (first | omega | (simp only [sz_alloc, sz_setCell, sz_drew, sz_drewN]; omega) | (simp; done) | (simp; omega)))
  have c3_0 := (lcc hb (w.heap.size + 1) (by (first | omega | (simp only [sz_alloc, sz_setCell, sz_drew, sz_drewN]; omega) | (simp; done) | (simp; omega))) 0).trans (by go_simp; exact rfl)
  have c3_1 := (lcc hb (w.heap.size + 1) (by (first | omega | (simp only [sz_alloc, sz_setCell, sz_drew, sz_drewN]; omega) | (simp; done) | (simp; omega))) 1).trans (by go_simp; exact rfl)
  have c3_2 := (lcc hb (w.heap.size + 1) (by (first | omega | (simp only [sz_alloc, sz_setCell, sz_drew, sz_drewN]; omega) | (simp; done) | (simp; omega))) 2).trans (by go_simp; exact rfl)
  have c3_3 := (lcc hb (w.heap.size + 1) (by (first | omega | (simp only [sz_alloc, sz_setCell, sz_drew, sz_drewN]; omega) | (simp; done) | (simp; omega))) 3).trans (by go_simp; exact rfl)
  have c3_4 := (lcc hb (w.heap.size + 1) (by (first | omega | (simp only [sz_alloc, sz_setCell, sz_drew, sz_drewN]; omega) | (simp; done) | (simp; omega))) 4).trans (by go_simp; exact rfl)
  have c3_5 := (lcc hb (w.heap.size + 1) (by (first | omega | (simp only [sz_alloc, sz_setCell, sz_drew, sz_drewN]; omega) | (simp; done) | (simp; omega))) 5).trans (by go_simp; exact rfl)
  have f3 := lcff hb (w.heap.size + 1) (by (first | omega | (simp only [sz_alloc, sz_setCell, sz_drew, sz_drewN]; omega) | (simp; done) | (simp; omega))) (by intro o; go_simp)
  clear c2_0 c2_1 c2_2 c2_3 c2_4 c2_5 f2
  go_wp2
  refine bodyPost_ret (v := .agg #[.int .i64 (textV (trT t)).k, .int .i64 (textV (trT t)).n, .int .i64 (textV (trT t)).d, .string (textV (trT t)).t, .bool (textV (trT t)).b, .int .i64 (textV (trT t)).f]) (by simp [results, Tryz.results60, go_sem, c3_0, c3_1, c3_2, c3_3, c3_4, c3_5]) rfl ⟨rfl, ?_⟩
  repeat (first | with_reducible exact Below.refl _ _ | with_reducible refine below_drewN ?_ _ | with_reducible refine Below.drew ?_ | with_reducible refine Below.setCell ?_ (by (first | omega | (simp only [sz_alloc, sz_setCell, sz_drew, sz_drewN]; omega) | (simp; done) | (simp; omega))) _ | with_reducible refine Below.alloc ?_ (by (first | omega | (simp only [sz_alloc, sz_setCell, sz_drew, sz_drewN]; omega) | (simp; done) | (simp; omega))) _ | with_reducible refine below_then ?_ ?_ (by with_reducible assumption) | (first | omega | (simp only [sz_alloc, sz_setCell, sz_drew, sz_drewN]; omega) | (simp; done) | (simp; omega)))

theorem up_ok {t : ByteArray} (hp : plainT t = true) (hs : t.size ≤ 256) : plainT (upT t) = true ∧ (upT t).size ≤ 256 := by
  refine ⟨?_, ?_⟩
  · rw [plainT_eq] at hp ⊢
    show ((Lib.toUpperA t.data.toList).toArray.toList).all okc = true
    rw [List.all_eq_true] at hp ⊢
    intro b hb
    simp only [Lib.toUpperA, List.mem_map] at hb
    obtain ⟨c, hc, rfl⟩ := hb
    exact okc_upper (hp c hc)
  · have e : (upT t).size = t.size := by show ((Lib.toUpperA t.data.toList).toArray).size = t.data.size; rw [List.size_toArray, Lib.toUpperA, List.length_map, Array.length_toList]
    omega
theorem lo_ok {t : ByteArray} (hp : plainT t = true) (hs : t.size ≤ 256) : plainT (loT t) = true ∧ (loT t).size ≤ 256 := by
  refine ⟨?_, ?_⟩
  · rw [plainT_eq] at hp ⊢
    show ((Lib.toLowerA t.data.toList).toArray.toList).all okc = true
    rw [List.all_eq_true] at hp ⊢
    intro b hb
    simp only [Lib.toLowerA, List.mem_map] at hb
    obtain ⟨c, hc, rfl⟩ := hb
    exact okc_lower (hp c hc)
  · have e : (loT t).size = t.size := by show ((Lib.toLowerA t.data.toList).toArray).size = t.data.size; rw [List.size_toArray, Lib.toLowerA, List.length_map, Array.length_toList]
    omega
theorem upT_len (t : ByteArray) : (upT t).size = t.size := by show ((Lib.toUpperA t.data.toList).toArray).size = t.data.size; rw [List.size_toArray, Lib.toUpperA, List.length_map, Array.length_toList]

/-- One text lies at block g. -/
structure TextAt (w : World) (g : Nat) (t : ByteArray) : Prop where
  lt : g < w.heap.size
  c0 : w.cell? ⟨g, 0, none⟩ = some (.int .i64 2)
  c1 : w.cell? ⟨g, 1, none⟩ = some (.int .i64 0)
  c2 : w.cell? ⟨g, 2, none⟩ = some (.int .i64 0)
  c3 : w.cell? ⟨g, 3, none⟩ = some (.string t)
  c4 : w.cell? ⟨g, 4, none⟩ = some (.bool false)
  c5 : w.cell? ⟨g, 5, none⟩ = some (.int .i64 0)
theorem TextAt.below {w w1 : World} {g : Nat} {t : ByteArray} (h : TextAt w g t) (hb : Below w.heap.size w w1) : TextAt w1 g t := by
  have L := lcc hb g h.lt
  exact ⟨lcs hb g h.lt, (L _).trans h.c0, (L _).trans h.c1, (L _).trans h.c2, (L _).trans h.c3, (L _).trans h.c4, (L _).trans h.c5⟩

theorem apply_up {t : ByteArray} {g c : Nat} {w : World} (hp : plainT t = true) (hs : t.size ≤ 256) (h : TextAt w g t) :
    Calls Tryz.prog 23 #[.int .i64 54, .slice (some ⟨g, 0, none⟩) 1 c] w fun e w' => e = .returned (.agg #[.int .i64 (textV (upT t)).k, .int .i64 (textV (upT t)).n, .int .i64 (textV (upT t)).d, .string (textV (upT t)).t, .bool (textV (upT t)).b, .int .i64 (textV (upT t)).f]) ∧ Below w.heap.size w w' :=
  funcs_Apply54 t g c w hp hs h.lt h.c0 h.c1 h.c2 h.c3 h.c4 h.c5 _ (fun wx gt cap _ hg hc => funcs_ofTexts54 t (upT t) gt cap wx hg hc (up_ok hp hs).1 (up_ok hp hs).2 (fun wy => Tryz.strings_ToUpper_ascii t wy (by omega) (okc_ascii hp)))
theorem apply_lo {t : ByteArray} {g c : Nat} {w : World} (hp : plainT t = true) (hs : t.size ≤ 256) (h : TextAt w g t) :
    Calls Tryz.prog 23 #[.int .i64 55, .slice (some ⟨g, 0, none⟩) 1 c] w fun e w' => e = .returned (.agg #[.int .i64 (textV (loT t)).k, .int .i64 (textV (loT t)).n, .int .i64 (textV (loT t)).d, .string (textV (loT t)).t, .bool (textV (loT t)).b, .int .i64 (textV (loT t)).f]) ∧ Below w.heap.size w w' :=
  funcs_Apply55 t g c w hp hs h.lt h.c0 h.c1 h.c2 h.c3 h.c4 h.c5 _ (fun wx gt cap _ hg hc => funcs_ofTexts55 t (loT t) gt cap wx hg hc (lo_ok hp hs).1 (lo_ok hp hs).2 (fun wy => Tryz.strings_ToLower_ascii t wy (by omega) (okc_ascii hp)))
theorem apply_tr {t : ByteArray} {g c : Nat} {w : World} (hp : plainT t = true) (hs : t.size ≤ 256) (h : TextAt w g t) (ht : SpTab w) :
    Calls Tryz.prog 23 #[.int .i64 56, .slice (some ⟨g, 0, none⟩) 1 c] w fun e w' => e = .returned (.agg #[.int .i64 (textV (trT t)).k, .int .i64 (textV (trT t)).n, .int .i64 (textV (trT t)).d, .string (textV (trT t)).t, .bool (textV (trT t)).b, .int .i64 (textV (trT t)).f]) ∧ Below w.heap.size w w' :=
  funcs_Apply56 t g c w hp hs h.lt h.c0 h.c1 h.c2 h.c3 h.c4 h.c5 _ (fun wx gt cap hb hg hc => funcs_ofTexts56 t gt cap wx hg hc hp hs (ht.below hb (by have := h.lt; omega)))
end Go.Proofs.YtangdbjoflnobaaGreatDoor
