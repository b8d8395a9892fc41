/- The walk of FnLetters. -/
import Derived.Test.YtangdbjoflnobaaGreatDoorAppE
import Derived.Test.YtangdbjoflnobaaGreatDoorAble
import Derived.Test.YtangdbjoflnobaaGreatDoorEach
import Derived.Deep.Cut
import Derived.WideShapes
namespace Go.Proofs.YtangdbjoflnobaaGreatDoor
open Go Go.RowKit
set_option linter.unusedSimpArgs false
set_option linter.unusedVariables false

def TV (t : ByteArray) : Value := .agg #[.int .i64 2, .int .i64 0, .int .i64 0, .string t, .bool false, .int .i64 0]
/-- A list of one text. -/
def OneText (t : ByteArray) (v : Value) (w : World) : Prop := ∃ g, v = .slice (some ⟨g, 0, none⟩) 1 1 ∧ TextAt w g t
theorem OneText.below {t : ByteArray} {v : Value} {w w1 : World} (h : OneText t v w) (hb : Below w.heap.size w w1) : OneText t v w1 := by
  obtain ⟨g, e, h⟩ := h
  exact ⟨g, e, h.below hb⟩
/-- A new block for a value. -/
structure Zero (w : World) (h : Nat) : Prop where
  lt : h < w.heap.size
  c0 : w.cell? ⟨h, 0, none⟩ = some (.int .i64 0)
  c1 : w.cell? ⟨h, 1, none⟩ = some (.int .i64 0)
  c2 : w.cell? ⟨h, 2, none⟩ = some (.int .i64 0)
  c3 : w.cell? ⟨h, 3, none⟩ = some (.string ⟨#[]⟩)
  c4 : w.cell? ⟨h, 4, none⟩ = some (.bool false)
  c5 : w.cell? ⟨h, 5, none⟩ = some (.int .i64 0)
  fr : ∀ o, w.frozen? ⟨h, o, none⟩ = false
theorem Zero.below {w w1 : World} {h : Nat} (z : Zero w h) (hb : Below w.heap.size w w1) : Zero w1 h := by
  have L := lcc hb h z.lt
  exact ⟨lcs hb h z.lt, (L _).trans z.c0, (L _).trans z.c1, (L _).trans z.c2, (L _).trans z.c3, (L _).trans z.c4, (L _).trans z.c5, lcff hb h z.lt z.fr⟩
def NewV (B : Nat) (v : Value) (w : World) : Prop := ∃ h, v = .pointer (some ⟨h, 0, none⟩) ∧ B ≤ h ∧ Zero w h
theorem NewV.below {B : Nat} {v : Value} {w w1 : World} (h : NewV B v w) (hb : Below w.heap.size w w1) : NewV B v w1 := by
  obtain ⟨g, e, h0, h⟩ := h
  exact ⟨g, e, h0, h.below hb⟩

def V6 (B : Nat) (t : ByteArray) : Nat → Value → World → Prop
  | 0, v, _ => v = TV t
  | 1, v, w => OneText t v w
  | 2, v, _ => v = TV (upT t)
  | 3, v, _ => v = TV t
  | 4, v, w => OneText t v w
  | 5, v, _ => v = TV (loT t)
  | 6, v, _ => v = TV t
  | 7, v, w => OneText t v w
  | 8, v, _ => v = TV (trT t)
  | _, v, w => NewV B v w
def D6 (k : Nat) (u : Value) (j : Nat) (v : Value) : Prop := 9 ≤ k → 9 ≤ j → u ≠ v
theorem V6.below {B : Nat} {t : ByteArray} : ∀ k v w1 w2, V6 B t k v w1 → Below w1.heap.size w1 w2 → V6 B t k v w2 := by
  intro k v w1 w2 h hb
  rcases k with _ | _ | _ | _ | _ | _ | _ | _ | _ | k
  all_goals first | exact h | exact OneText.below h hb | exact NewV.below h hb
theorem D6.old {B : Nat} {t : ByteArray} {w : World} {j n : Nat} {v : Value} (hj : j < 9) : ∀ k u, k < n → k ≠ j → V6 B t k u w → D6 k u j v ∧ D6 j v k u :=
  fun k u _ _ _ => ⟨fun _ h => absurd h (by omega), fun h => absurd h (by omega)⟩
theorem D6.new {B : Nat} {t : ByteArray} {w : World} {j n : Nat} : ∀ k u, k < n → k ≠ j → V6 B t k u w → D6 k u j (.pointer (some ⟨w.heap.size, 0, none⟩)) ∧ D6 j (.pointer (some ⟨w.heap.size, 0, none⟩)) k u := by
  intro k u _ _ h
  have key : 9 ≤ k → u ≠ .pointer (some ⟨w.heap.size, 0, none⟩) := by
    intro hk e
    obtain ⟨m, rfl⟩ : ∃ m, k = m + 9 := ⟨k - 9, by omega⟩
    obtain ⟨h, e2, _, z⟩ : NewV B u w := h
    rw [e] at e2
    simp at e2
    have := z.lt
    omega
  exact ⟨fun hk _ => key hk, fun _ hk => (key hk).symm⟩

def V7 (s : ByteArray) (p4 : Nat) : Nat → Value → World → Prop
  | 0, v, _ => v = TV (loT s)
  | 1, v, w => OneText (loT s) v w
  | 2, v, _ => v = TV (upT s)
  | 3, v, _ => v = TV (upT s)
  | 4, v, _ => v = .bool false
  | 5, v, _ => v = .bool false
  | 6, v, _ => v = TV (upT s)
  | 7, v, w => OneText (upT s) v w
  | 8, v, _ => v = TV (loT s)
  | 9, v, _ => v = TV (loT s)
  | 10, v, _ => v = .bool false
  | 11, v, _ => v = .bool false
  | 12, v, _ => v = .bool false
  | 13, v, _ => v = TV (upT s)
  | 14, v, w => OneText (upT s) v w
  | 15, v, _ => v = TV (upT s)
  | 16, v, _ => v = TV (upT s)
  | 17, v, _ => v = .bool false
  | 18, v, _ => v = .bool false
  | 19, v, _ => v = .bool false
  | 20, v, _ => v = TV (trT s)
  | 21, v, w => OneText (trT s) v w
  | 22, v, _ => v = TV (trT s)
  | 23, v, _ => v = TV (trT s)
  | 24, v, _ => v = .bool false
  | 25, v, _ => v = .bool false
  | 26, v, _ => v = .bool false
  | 27, v, _ => v = .pointer (some ⟨p4, 3, none⟩)
  | 28, v, _ => v = .string (upT s)
  | 29, v, _ => v = .int .i64 s.size
  | 30, v, _ => v = .string s
  | 31, v, _ => v = .int .i64 s.size
  | 32, v, _ => v = .bool false
  | _, _, _ => True
theorem V7.below {s : ByteArray} {p4 : Nat} : ∀ k v w1 w2, V7 s p4 k v w1 → Below w1.heap.size w1 w2 → V7 s p4 k v w2 := by
  intro k v w1 w2 h hb
  rcases k with _ | _ | _ | _ | _ | _ | _ | _ | _ | _ | _ | _ | _ | _ | _ | _ | _ | _ | _ | _ | _ | _ | _ | _ | _ | _ | _ | _ | _ | _ | _ | _ | _ | k
  all_goals first | exact h | exact OneText.below h hb
theorem BA.ext {x y : ByteArray} (h : x.data.toList = y.data.toList) : x = y := by
  obtain ⟨⟨x⟩⟩ := x
  obtain ⟨⟨y⟩⟩ := y
  simp only at h
  rw [h]
theorem up_lo (s : ByteArray) : upT (loT s) = upT s := BA.ext (by
  show Lib.toUpperA (Lib.toLowerA s.data.toList) = Lib.toUpperA s.data.toList
  simp only [Lib.toUpperA, Lib.toLowerA, List.map_map]
  exact List.map_congr_left fun b _ => upper_lower b)
theorem lo_up (s : ByteArray) : loT (upT s) = loT s := BA.ext (by
  show Lib.toLowerA (Lib.toUpperA s.data.toList) = Lib.toLowerA s.data.toList
  simp only [Lib.toUpperA, Lib.toLowerA, List.map_map]
  exact List.map_congr_left fun b _ => lower_upper b)
theorem up_up (s : ByteArray) : upT (upT s) = upT s := BA.ext (by
  show Lib.toUpperA (Lib.toUpperA s.data.toList) = Lib.toUpperA s.data.toList
  simp only [Lib.toUpperA, List.map_map]
  exact List.map_congr_left fun b _ => upper_upper b)
theorem tr_tr (s : ByteArray) : trT (trT s) = trT s := BA.ext (by
  show trimL (trimL s.data.toList) = trimL s.data.toList
  exact trim_trim _)
/-! rows of bytes -/
def byteL (l : List UInt8) : List Value := l.map fun b => .int .u8 b.toNat
theorem byteL_one (b : UInt8) : ∀ u ∈ byteL [b], u.oneCell' = true := by
  intro u hu
  simp only [byteL, List.map_cons, List.map_nil, List.mem_singleton] at hu
  subst hu; rfl
theorem zero_byte : ∃ i, Tryz.prog.info? 5 = some i ∧ i.zero = some (.int .u8 0) ∧ i.size = 1 ∧ i.bytes = 1 := by
  have h : (Tryz.prog.info? 5).map (fun i => (i.zero, i.size, i.bytes)) = some (some (.int .u8 0), 1, 1) := by kernel_rfl
  cases hi : Tryz.prog.info? 5 with
  | none => rw [hi] at h; cases h
  | some i => rw [hi] at h; simp only [Option.map_some, Option.some.injEq, Prod.mk.injEq] at h; exact ⟨i, rfl, h.1, h.2.1, h.2.2⟩
theorem fold_push (l : List UInt8) : ∀ r : ByteArray, ((l.map fun b => (b.toNat : Int)).foldl (fun r n => r.push (UInt8.ofNat n.toNat)) r) = ⟨r.data ++ l.toArray⟩ := by
  induction l with
  | nil => intro r; obtain ⟨r⟩ := r; simp
  | cons b l ih =>
    intro r
    rw [List.map_cons, List.foldl_cons, ih]
    obtain ⟨r⟩ := r
    have e : UInt8.ofNat ((b.toNat : Int).toNat) = b := by simp
    rw [e]
    apply congrArg ByteArray.mk
    show r.push b ++ l.toArray = r ++ (b :: l).toArray
    simp
theorem run_conv_own (w : World) (v : Value) (bs : List UInt8) (base : Nat) (h : w.ownsRow base 5 1 v bs.length (byteL bs)) :
    (convert 54 9 v).run Tryz.prog w = .ok (.string ⟨bs.toArray⟩) w := by
  by_cases hn : 0 < bs.length
  · obtain ⟨g, cap, rfl, _, _⟩ := h.form hn
    rw [run_convert_bytes_string w _ _ 5 _ _ _ Tryz.underlying54 Tryz.underlying5 Tryz.underlying9]
    have hl := run_loadCells_list (P := Tryz.prog) (w := w) ⟨g, 0, none⟩ (byteL bs) (fun j u hj => by
      have hjl : j < bs.length := by
        rcases Nat.lt_or_ge j bs.length with h1 | h1
        · exact h1
        · rw [List.getElem?_eq_none (by simpa [byteL] using h1)] at hj; cases hj
      have := h.cellAt j (by omega)
      rw [hj] at this
      rw [Go.WideShapes.add_plain, Nat.zero_add]
      exact this)
    have hlen : (byteL bs).length = bs.length := by simp [byteL]
    rw [hlen] at hl
    have hbl : byteL bs = (bs.map fun b => (b.toNat : Int)).map (Value.int .u8) := by simp [byteL]
    rw [hbl] at hl
    rw [run_bytesToString w _ _ _ _ hl, fold_push]
    congr 3
    show #[] ++ bs.toArray = bs.toArray
    simp
  · have hb : bs = [] := List.length_eq_zero_iff.1 (by omega)
    subst hb
    rcases h.2 with ⟨rfl, _⟩ | ⟨g, cap, cur, rfl, _⟩
    · rw [run_convert_bytes_string w _ _ 5 _ _ _ Tryz.underlying54 Tryz.underlying5 Tryz.underlying9]
      rfl
    · rw [run_convert_bytes_string w _ _ 5 _ _ _ Tryz.underlying54 Tryz.underlying5 Tryz.underlying9]
      rfl
theorem ba_at {s : ByteArray} {k : Nat} (h : k < s.size) : s.data.toList[k]? = some s[k] := by
  have h' : k < s.data.toList.length := by rw [Array.length_toList]; exact h
  rw [List.getElem?_eq_getElem h']
  rfl
theorem trim_gap_at (s : ByteArray) {k : Nat} (hlt : k < (trT s).size) (h : (trT s)[k] = 32) : 0 < k ∧ k + 1 < (trT s).size ∧ ∀ j (hj : j < (trT s).size), k = j + 1 → (trT s)[j] ≠ 32 := by
  have hl : (trT s).data.toList = trimL s.data.toList := rfl
  have hsz : (trT s).size = (trT s).data.toList.length := Array.length_toList.symm
  have e : trimL s.data.toList = (trT s).data.toList.take k ++ 32 :: (trT s).data.toList.drop (k + 1) := by
    rw [← hl]
    have h' : k < (trT s).data.toList.length := by rw [← hsz]; exact hlt
    have h2 : (trT s).data.toList[k] = 32 := by
      have := ba_at hlt
      rw [List.getElem?_eq_getElem h', h] at this
      exact Option.some.inj this
    rw [← h2, ← List.drop_eq_getElem_cons, List.take_append_drop]
  obtain ⟨g1, g2, g3⟩ := trim_gap e
  refine ⟨?_, ?_, ?_⟩
  · rcases Nat.eq_zero_or_pos k with h0 | h0
    · subst h0; exact absurd rfl g1
    · exact h0
  · rcases Nat.lt_or_ge (k + 1) (trT s).size with h0 | h0
    · exact h0
    · exact absurd (List.drop_eq_nil_iff.2 (by omega)) g2
  · intro j hj hk
    refine g3 _ ?_
    subst hk
    rw [List.getLast?_eq_getElem?, List.length_take, List.getElem?_take, if_pos (by omega)]
    have : min (j + 1) (trT s).data.toList.length - 1 = j := by omega
    rw [this]
    exact ba_at hj
def solidT (s : ByteArray) (k : Nat) : List UInt8 := solid (s.data.toList.take k)
theorem solidT_step {s : ByteArray} {k : Nat} (h : k < s.size) : solidT s (k + 1) = if s[k] = 32 then solidT s k else solidT s k ++ [s[k]] := by
  unfold solidT
  have e : s.data.toList[k]? = some s[k] := by
    have h' : k < s.data.toList.length := by rw [Array.length_toList]; exact h
    rw [List.getElem?_eq_getElem h']
    rfl
  rw [List.take_add_one, e]
  show solid (_ ++ [s[k]]) = _
  rw [solid_app]
  by_cases hb : s[k] = 32
  · rw [if_pos hb]; simp [solid, hb]
  · rw [if_neg hb]; simp [solid, hb]
theorem solidT_len (s : ByteArray) (k : Nat) : (solidT s k).length ≤ k := by
  unfold solidT solid
  have := List.length_filter_le (fun b : UInt8 => !(b == 32)) (s.data.toList.take k)
  rw [List.length_take] at this
  omega
theorem solidT_all {s : ByteArray} : solidT s s.size = solid s.data.toList := by
  unfold solidT
  rw [List.take_of_length_le (by rw [Array.length_toList]; exact Nat.le_refl _)]
/-- The loops' worlds: a row of the bytes of the first k that are no blank. -/
structure Lt (w w0 : World) (s : ByteArray) (B : Nat) (x i : Value) (k : Nat) (wr : World) : Prop where
  le : k ≤ s.size
  i : i = .int .i64 k
  below : Below w.heap.size w wr
  from0 : Below w0.heap.size w0 wr
  own : wr.ownsRow B 5 1 x (solidT s k).length (byteL (solidT s k))

theorem textAt_new (w : World) (t : ByteArray) (ty : TypeId) : TextAt (w.alloc (.cells #[.int .i64 2, .int .i64 0, .int .i64 0, .string t, .bool false, .int .i64 0] ty)) w.heap.size t :=
  ⟨by rw [sz_alloc]; omega, by go_simp, by go_simp, by go_simp, by go_simp, by go_simp, by go_simp⟩
theorem zero_new (w : World) (ty : TypeId) : Zero (w.alloc (.cells #[.int .i64 0, .int .i64 0, .int .i64 0, .string ⟨#[]⟩, .bool false, .int .i64 0] ty)) w.heap.size :=
  ⟨by rw [sz_alloc]; omega, by go_simp, by go_simp, by go_simp, by go_simp, by go_simp, by go_simp, by intro o; go_simp⟩
theorem below_new (w : World) (o : Obj) : Below w.heap.size w (w.alloc o) := (Below.refl _ _).alloc (Nat.le_refl _) _

set_option maxRecDepth 100000 in
set_option maxHeartbeats 40000000 in
theorem law_FnLetters0 (s : ByteArray) (w : World) (hs : s.size ≤ 140737488351232) (h0w : 0 < w.heap.size) (htab : SpTab w) :
    Calls Tryz.prog 7 #[.string s] w fun e w' => e = .returned (.bool true) ∧ Below w.heap.size w w' := by
  have HT := Lib.hid fun wx => value_Text s wx hs
  by_cases hp : plainT s = true ∧ s.size ≤ 256
  case neg =>
    obtain ⟨f, hf⟩ : ∃ f, textF s = faultV f := by
      unfold textF
      split
      · split
        · exact ⟨7, rfl⟩
        · rename_i h1 h2
          exact absurd ⟨h1, by omega⟩ hp
      · exact ⟨2, rfl⟩
    rw [hf] at HT
    clear hf hp
    go_enter Tryz.func7, Tryz.ntmps7
    go_wp2_with fail
    refine (law_able _).mono ?_
    rintro e w1 ⟨rfl, hb⟩
    have hb1 := hb
    go_wp2_with fail
    refine (HT.out _).mono ?_
    rintro e w2 ⟨rfl, hb⟩
    have hb2 := hb1.trans (hb.mono hb1.size)
    have hsz := hb2.size
    go_wp2
    go_ret
    refine ⟨rfl, ?_⟩
    repeat (first | with_reducible exact Below.refl _ _ | with_reducible refine below_drewN ?_ _ | with_reducible refine Below.drew ?_ | with_reducible refine Below.setCell ?_ (by (first | omega | (simp only [sz_alloc, sz_setCell, sz_drew, sz_drewN]; omega) | (simp; done) | (simp; omega))) _ | with_reducible refine Below.alloc ?_ (by (first | omega | (simp only [sz_alloc, sz_setCell, sz_drew, sz_drewN]; omega) | (simp; done) | (simp; omega))) _ | with_reducible refine below_then ?_ ?_ (by with_reducible assumption) | (first | omega | (simp only [sz_alloc, sz_setCell, sz_drew, sz_drewN]; omega) | (simp; done) | (simp; omega)))
  case pos =>
    obtain ⟨hp, hs2⟩ := hp
    have hT : textF s = textV s := by unfold textF; rw [if_pos hp, if_neg (by omega)]
    rw [hT] at HT
    simp only [textV] at HT
    clear hT
    go_enter Tryz.func7, Tryz.ntmps7
    go_wp2_with fail
    refine (law_able _).mono ?_
    rintro e w1 ⟨rfl, hb⟩
    have hb1 := hb
    go_wp2_with fail
    refine (HT.out _).mono ?_
    rintro e w2 ⟨rfl, hb⟩
    have hb2 := hb1.trans (hb.mono hb1.size)
    have hsz := hb2.size
    go_upto_region 6 with (fail)
    refine wp_rebase ?_
    intro w3 hb'
    have hb := hb'.out
    have hbw3 : Below w2.heap.size w2 w3 := by
      refine Below.trans ?_ (hb.mono (by simp only [sz_alloc, sz_setCell]; omega))
      repeat (first | with_reducible exact Below.refl _ _ | with_reducible refine below_drewN ?_ _ | with_reducible refine Below.drew ?_ | with_reducible refine Below.setCell ?_ (by (first | omega | (simp only [sz_alloc, sz_setCell, sz_drew, sz_drewN]; omega) | (simp; done) | (simp; omega))) _ | with_reducible refine Below.alloc ?_ (by (first | omega | (simp only [sz_alloc, sz_setCell, sz_drew, sz_drewN]; omega) | (simp; done) | (simp; omega))) _ | with_reducible refine below_then ?_ ?_ (by with_reducible assumption) | (first | omega | (simp only [sz_alloc, sz_setCell, sz_drew, sz_drewN]; omega) | (simp; done) | (simp; omega)))
    clear hb'
    have s1 := lcs hb (w2.heap.size) (by (first | omega | (simp only [sz_alloc, sz_setCell, sz_drew, sz_drewN]; omega) | (simp; done) | (simp; omega)))
    have c1_0 := (lcc hb (w2.heap.size) (by (first | omega | (simp only [sz_alloc, sz_setCell, sz_drew, sz_drewN]; omega) | (simp; done) | (simp; omega))) 0).trans (by go_simp; exact rfl)
    have c1_1 := (lcc hb (w2.heap.size) (by (first | omega | (simp only [sz_alloc, sz_setCell, sz_drew, sz_drewN]; omega) | (simp; done) | (simp; omega))) 1).trans (by go_simp; exact rfl)
    have c1_2 := (lcc hb (w2.heap.size) (by (first | omega | (simp only [sz_alloc, sz_setCell, sz_drew, sz_drewN]; omega) | (simp; done) | (simp; omega))) 2).trans (by go_simp; exact rfl)
    have c1_3 := (lcc hb (w2.heap.size) (by (first | omega | (simp only [sz_alloc, sz_setCell, sz_drew, sz_drewN]; omega) | (simp; done) | (simp; omega))) 3).trans (by go_simp; exact rfl)
    have c1_4 := (lcc hb (w2.heap.size) (by (first | omega | (simp only [sz_alloc, sz_setCell, sz_drew, sz_drewN]; omega) | (simp; done) | (simp; omega))) 4).trans (by go_simp; exact rfl)
    have c1_5 := (lcc hb (w2.heap.size) (by (first | omega | (simp only [sz_alloc, sz_setCell, sz_drew, sz_drewN]; omega) | (simp; done) | (simp; omega))) 5).trans (by go_simp; exact rfl)
    have f1 := lcff hb (w2.heap.size) (by (first | omega | (simp only [sz_alloc, sz_setCell, sz_drew, sz_drewN]; omega) | (simp; done) | (simp; omega))) (by intro o; go_simp)
    have TA : TextAt w3 w2.heap.size s := ⟨by assumption, by assumption, by assumption, by assumption, by assumption, by assumption, by assumption⟩
    refine wp_act fun a ha => ?_
    refine region_eachD 12 (V6 w3.heap.size s) D6 (by kernel_rfl) (by kernel_rfl) V6.below ?_ ?_
    · intro j hj o ho vs wx hw hk
      have hbx := hw.out
      have hzx := hbx.size
      have TX := TA.below hbx
      obtain ⟨l0, x0, x1, x2, x3, x4, x5⟩ := TX
      rcases j with _ | _ | _ | _ | _ | _ | _ | _ | _ | _ | _ | _ | j
      · obtain rfl : _ = o := Option.some.inj ho
        clear ho hk
        change wpList _ _ (OneQ _ a _) _ a _
        subst ha
        go_wp2
        exact ⟨_, rfl, Below.refl _ _, rfl, D6.old (by decide)⟩
      · obtain rfl : _ = o := Option.some.inj ho
        have h0 : vs 0 = TV s := hk 0 (by decide) rfl
        clear ho hk
        change wpList _ _ (OneQ _ (Act.put a (some 18) (vs 0)) _) _ (Act.put a (some 18) (vs 0)) _
        rw [h0]
        unfold TV
        subst ha
        go_wp2
        exact ⟨_, rfl, below_new _ _, ⟨_, rfl, textAt_new _ _ _⟩, D6.old (by decide)⟩
      · obtain rfl : _ = o := Option.some.inj ho
        obtain ⟨g, h1, hg⟩ : OneText s (vs 1) wx := hk 1 (by decide) rfl
        clear ho hk
        change wpList _ _ (OneQ _ (Act.put a (some 19) (vs 1)) _) _ (Act.put a (some 19) (vs 1)) _
        rw [h1]
        subst ha
        go_wp2_with fail
        refine (apply_up hp hs2 hg).mono ?_
        rintro e w' ⟨rfl, hb'⟩
        go_wp2
        exact ⟨_, rfl, hb', rfl, D6.old (by decide)⟩
      · obtain rfl : _ = o := Option.some.inj ho
        clear ho hk
        change wpList _ _ (OneQ _ a _) _ a _
        subst ha
        go_wp2
        exact ⟨_, rfl, Below.refl _ _, rfl, D6.old (by decide)⟩
      · obtain rfl : _ = o := Option.some.inj ho
        have h0 : vs 3 = TV s := hk 3 (by decide) rfl
        clear ho hk
        change wpList _ _ (OneQ _ (Act.put a (some 21) (vs 3)) _) _ (Act.put a (some 21) (vs 3)) _
        rw [h0]
        unfold TV
        subst ha
        go_wp2
        exact ⟨_, rfl, below_new _ _, ⟨_, rfl, textAt_new _ _ _⟩, D6.old (by decide)⟩
      · obtain rfl : _ = o := Option.some.inj ho
        obtain ⟨g, h1, hg⟩ : OneText s (vs 4) wx := hk 4 (by decide) rfl
        clear ho hk
        change wpList _ _ (OneQ _ (Act.put a (some 22) (vs 4)) _) _ (Act.put a (some 22) (vs 4)) _
        rw [h1]
        subst ha
        go_wp2_with fail
        refine (apply_lo hp hs2 hg).mono ?_
        rintro e w' ⟨rfl, hb'⟩
        go_wp2
        exact ⟨_, rfl, hb', rfl, D6.old (by decide)⟩
      · obtain rfl : _ = o := Option.some.inj ho
        clear ho hk
        change wpList _ _ (OneQ _ a _) _ a _
        subst ha
        go_wp2
        exact ⟨_, rfl, Below.refl _ _, rfl, D6.old (by decide)⟩
      · obtain rfl : _ = o := Option.some.inj ho
        have h0 : vs 6 = TV s := hk 6 (by decide) rfl
        clear ho hk
        change wpList _ _ (OneQ _ (Act.put a (some 24) (vs 6)) _) _ (Act.put a (some 24) (vs 6)) _
        rw [h0]
        unfold TV
        subst ha
        go_wp2
        exact ⟨_, rfl, below_new _ _, ⟨_, rfl, textAt_new _ _ _⟩, D6.old (by decide)⟩
      · obtain rfl : _ = o := Option.some.inj ho
        obtain ⟨g, h1, hg⟩ : OneText s (vs 7) wx := hk 7 (by decide) rfl
        clear ho hk
        change wpList _ _ (OneQ _ (Act.put a (some 25) (vs 7)) _) _ (Act.put a (some 25) (vs 7)) _
        rw [h1]
        subst ha
        go_wp2_with fail
        refine (apply_tr hp hs2 hg (htab.below (hb2.trans ((hbw3.trans (hbx.mono hbw3.size)).mono hb2.size)) h0w)).mono ?_
        rintro e w' ⟨rfl, hb'⟩
        go_wp2
        exact ⟨_, rfl, hb', rfl, D6.old (by decide)⟩
      · obtain rfl : _ = o := Option.some.inj ho
        clear ho hk
        change wpList _ _ (OneQ _ a _) _ a _
        subst ha
        go_wp2
        exact ⟨_, rfl, below_new _ _, ⟨_, rfl, by omega, zero_new _ _⟩, D6.new⟩
      · obtain rfl : _ = o := Option.some.inj ho
        clear ho hk
        change wpList _ _ (OneQ _ a _) _ a _
        subst ha
        go_wp2
        exact ⟨_, rfl, below_new _ _, ⟨_, rfl, by omega, zero_new _ _⟩, D6.new⟩
      · obtain rfl : _ = o := Option.some.inj ho
        clear ho hk
        change wpList _ _ (OneQ _ a _) _ a _
        subst ha
        go_wp2
        exact ⟨_, rfl, below_new _ _, ⟨_, rfl, by omega, zero_new _ _⟩, D6.new⟩
      · omega
    · intro vs wx hw hv hD
      have hbx := hw.out
      have hzx := hbx.size
      have e0 : vs 0 = TV s := hv 0 (by decide)
      obtain ⟨g1, e1, _⟩ : OneText s (vs 1) wx := hv 1 (by decide)
      have e2 : vs 2 = TV (upT s) := hv 2 (by decide)
      have e3 : vs 3 = TV s := hv 3 (by decide)
      obtain ⟨g4, e4, _⟩ : OneText s (vs 4) wx := hv 4 (by decide)
      have e5 : vs 5 = TV (loT s) := hv 5 (by decide)
      have e6 : vs 6 = TV s := hv 6 (by decide)
      obtain ⟨g7, e7, _⟩ : OneText s (vs 7) wx := hv 7 (by decide)
      have e8 : vs 8 = TV (trT s) := hv 8 (by decide)
      obtain ⟨p4, e9, hB4, z4⟩ : NewV w3.heap.size (vs 9) wx := hv 9 (by decide)
      obtain ⟨p5, e10, hB5, z5⟩ : NewV w3.heap.size (vs 10) wx := hv 10 (by decide)
      obtain ⟨p6, e11, hB6, z6⟩ : NewV w3.heap.size (vs 11) wx := hv 11 (by decide)
      have n45 : ¬ p4 = p5 := by intro h; exact hD 9 10 (by decide) (by decide) (by decide) (by decide) (by decide) (by rw [e9, e10, h])
      have n46 : ¬ p4 = p6 := by intro h; exact hD 9 11 (by decide) (by decide) (by decide) (by decide) (by decide) (by rw [e9, e11, h])
      have n56 : ¬ p5 = p6 := by intro h; exact hD 10 11 (by decide) (by decide) (by decide) (by decide) (by decide) (by rw [e10, e11, h])
      have n54 : ¬ p5 = p4 := fun h => n45 h.symm
      have n64 : ¬ p6 = p4 := fun h => n46 h.symm
      have n65 : ¬ p6 = p5 := fun h => n56 h.symm
      clear hv hD hw
      change wpList _ _ _ _ (Act.put (Act.put (Act.put (Act.put (Act.put (Act.put (Act.put (Act.put (Act.put (Act.put (Act.put (Act.put a (some 18) (vs 0)) (some 19) (vs 1)) (some 20) (vs 2)) (some 21) (vs 3)) (some 22) (vs 4)) (some 23) (vs 5)) (some 24) (vs 6)) (some 25) (vs 7)) (some 26) (vs 8)) (some 4) (vs 9)) (some 5) (vs 10)) (some 6) (vs 11)) _
      rw [e0, e1, e2, e3, e4, e5, e6, e7, e8, e9, e10, e11]
      unfold TV
      subst ha
      clear e0 e1 e2 e3 e4 e5 e6 e7 e8 e9 e10 e11
      obtain ⟨l4, a0, a1, a2, a3, a4, a5, af⟩ := z4
      obtain ⟨l5, b0, b1, b2, b3, b4, b5, bf⟩ := z5
      obtain ⟨l6, d0, d1, d2, d3, d4, d5, df⟩ := z6
      have hbX : Below w.heap.size w wx := hb2.trans ((hbw3.trans (hbx.mono hbw3.size)).mono hb2.size)
      have hX := hbX.size
      simp only [List.drop_succ_cons, List.drop_zero]
      refine wpList_cut ?_
      go_wp2
      unfold ThenL
      refine wpList_rebase ?_
      intro w4 hb'
      have hb := hb'.out
      clear hb'
      have hbY : Below w.heap.size w w4 := by
        repeat (first | with_reducible exact Below.refl _ _ | with_reducible refine below_drewN ?_ _ | with_reducible refine Below.drew ?_ | with_reducible refine Below.setCell ?_ (by (first | omega | (simp only [sz_alloc, sz_setCell, sz_drew, sz_drewN]; omega) | (simp; done) | (simp; omega))) _ | with_reducible refine Below.alloc ?_ (by (first | omega | (simp only [sz_alloc, sz_setCell, sz_drew, sz_drewN]; omega) | (simp; done) | (simp; omega))) _ | with_reducible refine below_then ?_ ?_ (by with_reducible assumption) | (first | omega | (simp only [sz_alloc, sz_setCell, sz_drew, sz_drewN]; omega) | (simp; done) | (simp; omega)))
      have hzY := hbY.size
      have s2 := lcs hb (p4) (by (first | omega | (simp only [sz_alloc, sz_setCell, sz_drew, sz_drewN]; omega) | (simp; done) | (simp; omega)))
      have c2_0 := (lcc hb (p4) (by (first | omega | (simp only [sz_alloc, sz_setCell, sz_drew, sz_drewN]; omega) | (simp; done) | (simp; omega))) 0).trans (by go_simp; exact rfl)
      have c2_1 := (lcc hb (p4) (by (first | omega | (simp only [sz_alloc, sz_setCell, sz_drew, sz_drewN]; omega) | (simp; done) | (simp; omega))) 1).trans (by go_simp; exact rfl)
      have c2_2 := (lcc hb (p4) (by (first | omega | (simp only [sz_alloc, sz_setCell, sz_drew, sz_drewN]; omega) | (simp; done) | (simp; omega))) 2).trans (by go_simp; exact rfl)
      have c2_3 := (lcc hb (p4) (by (first | omega | (simp only [sz_alloc, sz_setCell, sz_drew, sz_drewN]; omega) | (simp; done) | (simp; omega))) 3).trans (by go_simp; exact rfl)
      have c2_4 := (lcc hb (p4) (by (first | omega | (simp only [sz_alloc, sz_setCell, sz_drew, sz_drewN]; omega) | (simp; done) | (simp; omega))) 4).trans (by go_simp; exact rfl)
      have c2_5 := (lcc hb (p4) (by (first | omega | (simp only [sz_alloc, sz_setCell, sz_drew, sz_drewN]; omega) | (simp; done) | (simp; omega))) 5).trans (by go_simp; exact rfl)
      have f2 := lcff hb (p4) (by (first | omega | (simp only [sz_alloc, sz_setCell, sz_drew, sz_drewN]; omega) | (simp; done) | (simp; omega))) (by intro o; go_simp)
      have s3 := lcs hb (p5) (by (first | omega | (simp only [sz_alloc, sz_setCell, sz_drew, sz_drewN]; omega) | (simp; done) | (simp; omega)))
      have c3_0 := (lcc hb (p5) (by (first | omega | (simp only [sz_alloc, sz_setCell, sz_drew, sz_drewN]; omega) | (simp; done) | (simp; omega))) 0).trans (by go_simp; exact rfl)
      have c3_1 := (lcc hb (p5) (by (first | omega | (simp only [sz_alloc, sz_setCell, sz_drew, sz_drewN]; omega) | (simp; done) | (simp; omega))) 1).trans (by go_simp; exact rfl)
      have c3_2 := (lcc hb (p5) (by (first | omega | (simp only [sz_alloc, sz_setCell, sz_drew, sz_drewN]; omega) | (simp; done) | (simp; omega))) 2).trans (by go_simp; exact rfl)
      have c3_3 := (lcc hb (p5) (by (first | omega | (simp only [sz_alloc, sz_setCell, sz_drew, sz_drewN]; omega) | (simp; done) | (simp; omega))) 3).trans (by go_simp; exact rfl)
      have c3_4 := (lcc hb (p5) (by (first | omega | (simp only [sz_alloc, sz_setCell, sz_drew, sz_drewN]; omega) | (simp; done) | (simp; omega))) 4).trans (by go_simp; exact rfl)
      have c3_5 := (lcc hb (p5) (by (first | omega | (simp only [sz_alloc, sz_setCell, sz_drew, sz_drewN]; omega) | (simp; done) | (simp; omega))) 5).trans (by go_simp; exact rfl)
      have f3 := lcff hb (p5) (by (first | omega | (simp only [sz_alloc, sz_setCell, sz_drew, sz_drewN]; omega) | (simp; done) | (simp; omega))) (by intro o; go_simp)
      have s4 := lcs hb (p6) (by (first | omega | (simp only [sz_alloc, sz_setCell, sz_drew, sz_drewN]; omega) | (simp; done) | (simp; omega)))
      have c4_0 := (lcc hb (p6) (by (first | omega | (simp only [sz_alloc, sz_setCell, sz_drew, sz_drewN]; omega) | (simp; done) | (simp; omega))) 0).trans (by go_simp; exact rfl)
      have c4_1 := (lcc hb (p6) (by (first | omega | (simp only [sz_alloc, sz_setCell, sz_drew, sz_drewN]; omega) | (simp; done) | (simp; omega))) 1).trans (by go_simp; exact rfl)
      have c4_2 := (lcc hb (p6) (by (first | omega | (simp only [sz_alloc, sz_setCell, sz_drew, sz_drewN]; omega) | (simp; done) | (simp; omega))) 2).trans (by go_simp; exact rfl)
      have c4_3 := (lcc hb (p6) (by (first | omega | (simp only [sz_alloc, sz_setCell, sz_drew, sz_drewN]; omega) | (simp; done) | (simp; omega))) 3).trans (by go_simp; exact rfl)
      have c4_4 := (lcc hb (p6) (by (first | omega | (simp only [sz_alloc, sz_setCell, sz_drew, sz_drewN]; omega) | (simp; done) | (simp; omega))) 4).trans (by go_simp; exact rfl)
      have c4_5 := (lcc hb (p6) (by (first | omega | (simp only [sz_alloc, sz_setCell, sz_drew, sz_drewN]; omega) | (simp; done) | (simp; omega))) 5).trans (by go_simp; exact rfl)
      have f4 := lcff hb (p6) (by (first | omega | (simp only [sz_alloc, sz_setCell, sz_drew, sz_drewN]; omega) | (simp; done) | (simp; omega))) (by intro o; go_simp)
      clear c1_0 c1_1 c1_2 c1_3 c1_4 c1_5 f1
      clear hbX
      refine wpList_cut ?_
      go_wp2
      unfold ThenL
      refine wpList_rebase ?_
      intro w5 hb'
      have hb := hb'.out
      clear hb'
      have hbZ : Below w.heap.size w w5 := by
        repeat (first | with_reducible exact Below.refl _ _ | with_reducible refine below_drewN ?_ _ | with_reducible refine Below.drew ?_ | with_reducible refine Below.setCell ?_ (by (first | omega | (simp only [sz_alloc, sz_setCell, sz_drew, sz_drewN]; omega) | (simp; done) | (simp; omega))) _ | with_reducible refine Below.alloc ?_ (by (first | omega | (simp only [sz_alloc, sz_setCell, sz_drew, sz_drewN]; omega) | (simp; done) | (simp; omega))) _ | with_reducible refine below_then ?_ ?_ (by with_reducible assumption) | (first | omega | (simp only [sz_alloc, sz_setCell, sz_drew, sz_drewN]; omega) | (simp; done) | (simp; omega)))
      have hzZ := hbZ.size
      have s5 := lcs hb (p4) (by (first | omega | (simp only [sz_alloc, sz_setCell, sz_drew, sz_drewN]; omega) | (simp; done) | (simp; omega)))
      have c5_0 := (lcc hb (p4) (by (first | omega | (simp only [sz_alloc, sz_setCell, sz_drew, sz_drewN]; omega) | (simp; done) | (simp; omega))) 0).trans (by go_simp; exact rfl)
      have c5_1 := (lcc hb (p4) (by (first | omega | (simp only [sz_alloc, sz_setCell, sz_drew, sz_drewN]; omega) | (simp; done) | (simp; omega))) 1).trans (by go_simp; exact rfl)
      have c5_2 := (lcc hb (p4) (by (first | omega | (simp only [sz_alloc, sz_setCell, sz_drew, sz_drewN]; omega) | (simp; done) | (simp; omega))) 2).trans (by go_simp; exact rfl)
      have c5_3 := (lcc hb (p4) (by (first | omega | (simp only [sz_alloc, sz_setCell, sz_drew, sz_drewN]; omega) | (simp; done) | (simp; omega))) 3).trans (by go_simp; exact rfl)
      have c5_4 := (lcc hb (p4) (by (first | omega | (simp only [sz_alloc, sz_setCell, sz_drew, sz_drewN]; omega) | (simp; done) | (simp; omega))) 4).trans (by go_simp; exact rfl)
      have c5_5 := (lcc hb (p4) (by (first | omega | (simp only [sz_alloc, sz_setCell, sz_drew, sz_drewN]; omega) | (simp; done) | (simp; omega))) 5).trans (by go_simp; exact rfl)
      have f5 := lcff hb (p4) (by (first | omega | (simp only [sz_alloc, sz_setCell, sz_drew, sz_drewN]; omega) | (simp; done) | (simp; omega))) (by intro o; go_simp)
      have s6 := lcs hb (p5) (by (first | omega | (simp only [sz_alloc, sz_setCell, sz_drew, sz_drewN]; omega) | (simp; done) | (simp; omega)))
      have c6_0 := (lcc hb (p5) (by (first | omega | (simp only [sz_alloc, sz_setCell, sz_drew, sz_drewN]; omega) | (simp; done) | (simp; omega))) 0).trans (by go_simp; exact rfl)
      have c6_1 := (lcc hb (p5) (by (first | omega | (simp only [sz_alloc, sz_setCell, sz_drew, sz_drewN]; omega) | (simp; done) | (simp; omega))) 1).trans (by go_simp; exact rfl)
      have c6_2 := (lcc hb (p5) (by (first | omega | (simp only [sz_alloc, sz_setCell, sz_drew, sz_drewN]; omega) | (simp; done) | (simp; omega))) 2).trans (by go_simp; exact rfl)
      have c6_3 := (lcc hb (p5) (by (first | omega | (simp only [sz_alloc, sz_setCell, sz_drew, sz_drewN]; omega) | (simp; done) | (simp; omega))) 3).trans (by go_simp; exact rfl)
      have c6_4 := (lcc hb (p5) (by (first | omega | (simp only [sz_alloc, sz_setCell, sz_drew, sz_drewN]; omega) | (simp; done) | (simp; omega))) 4).trans (by go_simp; exact rfl)
      have c6_5 := (lcc hb (p5) (by (first | omega | (simp only [sz_alloc, sz_setCell, sz_drew, sz_drewN]; omega) | (simp; done) | (simp; omega))) 5).trans (by go_simp; exact rfl)
      have f6 := lcff hb (p5) (by (first | omega | (simp only [sz_alloc, sz_setCell, sz_drew, sz_drewN]; omega) | (simp; done) | (simp; omega))) (by intro o; go_simp)
      have s7 := lcs hb (p6) (by (first | omega | (simp only [sz_alloc, sz_setCell, sz_drew, sz_drewN]; omega) | (simp; done) | (simp; omega)))
      have c7_0 := (lcc hb (p6) (by (first | omega | (simp only [sz_alloc, sz_setCell, sz_drew, sz_drewN]; omega) | (simp; done) | (simp; omega))) 0).trans (by go_simp; exact rfl)
      have c7_1 := (lcc hb (p6) (by (first | omega | (simp only [sz_alloc, sz_setCell, sz_drew, sz_drewN]; omega) | (simp; done) | (simp; omega))) 1).trans (by go_simp; exact rfl)
      have c7_2 := (lcc hb (p6) (by (first | omega | (simp only [sz_alloc, sz_setCell, sz_drew, sz_drewN]; omega) | (simp; done) | (simp; omega))) 2).trans (by go_simp; exact rfl)
      have c7_3 := (lcc hb (p6) (by (first | omega | (simp only [sz_alloc, sz_setCell, sz_drew, sz_drewN]; omega) | (simp; done) | (simp; omega))) 3).trans (by go_simp; exact rfl)
      have c7_4 := (lcc hb (p6) (by (first | omega | (simp only [sz_alloc, sz_setCell, sz_drew, sz_drewN]; omega) | (simp; done) | (simp; omega))) 4).trans (by go_simp; exact rfl)
      have c7_5 := (lcc hb (p6) (by (first | omega | (simp only [sz_alloc, sz_setCell, sz_drew, sz_drewN]; omega) | (simp; done) | (simp; omega))) 5).trans (by go_simp; exact rfl)
      have f7 := lcff hb (p6) (by (first | omega | (simp only [sz_alloc, sz_setCell, sz_drew, sz_drewN]; omega) | (simp; done) | (simp; omega))) (by intro o; go_simp)
      clear c2_0 c2_1 c2_2 c2_3 c2_4 c2_5 f2 c3_0 c3_1 c3_2 c3_3 c3_4 c3_5 f3 c4_0 c4_1 c4_2 c4_3 c4_4 c4_5 f4
      clear hbY
      refine wpList_cut ?_
      go_wp2
      unfold ThenL
      refine wpList_rebase ?_
      intro w6 hb'
      have hb := hb'.out
      clear hb'
      have hbU : Below w.heap.size w w6 := by
        repeat (first | with_reducible exact Below.refl _ _ | with_reducible refine below_drewN ?_ _ | with_reducible refine Below.drew ?_ | with_reducible refine Below.setCell ?_ (by (first | omega | (simp only [sz_alloc, sz_setCell, sz_drew, sz_drewN]; omega) | (simp; done) | (simp; omega))) _ | with_reducible refine Below.alloc ?_ (by (first | omega | (simp only [sz_alloc, sz_setCell, sz_drew, sz_drewN]; omega) | (simp; done) | (simp; omega))) _ | with_reducible refine below_then ?_ ?_ (by with_reducible assumption) | (first | omega | (simp only [sz_alloc, sz_setCell, sz_drew, sz_drewN]; omega) | (simp; done) | (simp; omega)))
      have hzU := hbU.size
      have s8 := lcs hb (p4) (by (first | omega | (simp only [sz_alloc, sz_setCell, sz_drew, sz_drewN]; omega) | (simp; done) | (simp; omega)))
      have c8_0 := (lcc hb (p4) (by (first | omega | (simp only [sz_alloc, sz_setCell, sz_drew, sz_drewN]; omega) | (simp; done) | (simp; omega))) 0).trans (by go_simp; exact rfl)
      have c8_1 := (lcc hb (p4) (by (first | omega | (simp only [sz_alloc, sz_setCell, sz_drew, sz_drewN]; omega) | (simp; done) | (simp; omega))) 1).trans (by go_simp; exact rfl)
      have c8_2 := (lcc hb (p4) (by (first | omega | (simp only [sz_alloc, sz_setCell, sz_drew, sz_drewN]; omega) | (simp; done) | (simp; omega))) 2).trans (by go_simp; exact rfl)
      have c8_3 := (lcc hb (p4) (by (first | omega | (simp only [sz_alloc, sz_setCell, sz_drew, sz_drewN]; omega) | (simp; done) | (simp; omega))) 3).trans (by go_simp; exact rfl)
      have c8_4 := (lcc hb (p4) (by (first | omega | (simp only [sz_alloc, sz_setCell, sz_drew, sz_drewN]; omega) | (simp; done) | (simp; omega))) 4).trans (by go_simp; exact rfl)
      have c8_5 := (lcc hb (p4) (by (first | omega | (simp only [sz_alloc, sz_setCell, sz_drew, sz_drewN]; omega) | (simp; done) | (simp; omega))) 5).trans (by go_simp; exact rfl)
      have f8 := lcff hb (p4) (by (first | omega | (simp only [sz_alloc, sz_setCell, sz_drew, sz_drewN]; omega) | (simp; done) | (simp; omega))) (by intro o; go_simp)
      have s9 := lcs hb (p5) (by (first | omega | (simp only [sz_alloc, sz_setCell, sz_drew, sz_drewN]; omega) | (simp; done) | (simp; omega)))
      have c9_0 := (lcc hb (p5) (by (first | omega | (simp only [sz_alloc, sz_setCell, sz_drew, sz_drewN]; omega) | (simp; done) | (simp; omega))) 0).trans (by go_simp; exact rfl)
      have c9_1 := (lcc hb (p5) (by (first | omega | (simp only [sz_alloc, sz_setCell, sz_drew, sz_drewN]; omega) | (simp; done) | (simp; omega))) 1).trans (by go_simp; exact rfl)
      have c9_2 := (lcc hb (p5) (by (first | omega | (simp only [sz_alloc, sz_setCell, sz_drew, sz_drewN]; omega) | (simp; done) | (simp; omega))) 2).trans (by go_simp; exact rfl)
      have c9_3 := (lcc hb (p5) (by (first | omega | (simp only [sz_alloc, sz_setCell, sz_drew, sz_drewN]; omega) | (simp; done) | (simp; omega))) 3).trans (by go_simp; exact rfl)
      have c9_4 := (lcc hb (p5) (by (first | omega | (simp only [sz_alloc, sz_setCell, sz_drew, sz_drewN]; omega) | (simp; done) | (simp; omega))) 4).trans (by go_simp; exact rfl)
      have c9_5 := (lcc hb (p5) (by (first | omega | (simp only [sz_alloc, sz_setCell, sz_drew, sz_drewN]; omega) | (simp; done) | (simp; omega))) 5).trans (by go_simp; exact rfl)
      have f9 := lcff hb (p5) (by (first | omega | (simp only [sz_alloc, sz_setCell, sz_drew, sz_drewN]; omega) | (simp; done) | (simp; omega))) (by intro o; go_simp)
      have s10 := lcs hb (p6) (by (first | omega | (simp only [sz_alloc, sz_setCell, sz_drew, sz_drewN]; omega) | (simp; done) | (simp; omega)))
      have c10_0 := (lcc hb (p6) (by (first | omega | (simp only [sz_alloc, sz_setCell, sz_drew, sz_drewN]; omega) | (simp; done) | (simp; omega))) 0).trans (by go_simp; exact rfl)
      have c10_1 := (lcc hb (p6) (by (first | omega | (simp only [sz_alloc, sz_setCell, sz_drew, sz_drewN]; omega) | (simp; done) | (simp; omega))) 1).trans (by go_simp; exact rfl)
      have c10_2 := (lcc hb (p6) (by (first | omega | (simp only [sz_alloc, sz_setCell, sz_drew, sz_drewN]; omega) | (simp; done) | (simp; omega))) 2).trans (by go_simp; exact rfl)
      have c10_3 := (lcc hb (p6) (by (first | omega | (simp only [sz_alloc, sz_setCell, sz_drew, sz_drewN]; omega) | (simp; done) | (simp; omega))) 3).trans (by go_simp; exact rfl)
      have c10_4 := (lcc hb (p6) (by (first | omega | (simp only [sz_alloc, sz_setCell, sz_drew, sz_drewN]; omega) | (simp; done) | (simp; omega))) 4).trans (by go_simp; exact rfl)
      have c10_5 := (lcc hb (p6) (by (first | omega | (simp only [sz_alloc, sz_setCell, sz_drew, sz_drewN]; omega) | (simp; done) | (simp; omega))) 5).trans (by go_simp; exact rfl)
      have f10 := lcff hb (p6) (by (first | omega | (simp only [sz_alloc, sz_setCell, sz_drew, sz_drewN]; omega) | (simp; done) | (simp; omega))) (by intro o; go_simp)
      clear c5_0 c5_1 c5_2 c5_3 c5_4 c5_5 f5 c6_0 c6_1 c6_2 c6_3 c6_4 c6_5 f6 c7_0 c7_1 c7_2 c7_3 c7_4 c7_5 f7
      clear hbZ
      go_upto_region 7 with (fail)
      have T4 : TextAt w6 p4 (upT s) := ⟨by assumption, by assumption, by assumption, by assumption, by assumption, by assumption, by assumption⟩
      have T5 : TextAt w6 p5 (loT s) := ⟨by assumption, by assumption, by assumption, by assumption, by assumption, by assumption, by assumption⟩
      have T6 : TextAt w6 p6 (trT s) := ⟨by assumption, by assumption, by assumption, by assumption, by assumption, by assumption, by assumption⟩
      have HU := up_ok hp hs2
      have HL := lo_ok hp hs2
      have HR := trim_ok hp hs2
      have q1 := up_lo s
      have q2 := lo_up s
      have q3 := up_up s
      have q4 := tr_tr s
      clear a0 a1 a2 a3 a4 a5 af b0 b1 b2 b3 b4 b5 bf d0 d1 d2 d3 d4 d5 df
      refine wp_act fun a ha => ?_
      refine region_each 33 (V7 s p4) (by kernel_rfl) (by kernel_rfl) V7.below ?_ ?_
      · intro j hj o ho vs wx hw hk
        have hbx := hw.out
        rcases j with _ | _ | _ | _ | _ | _ | _ | _ | _ | _ | _ | _ | _ | _ | _ | _ | _ | _ | _ | _ | _ | _ | _ | _ | _ | _ | _ | _ | _ | _ | _ | _ | _ | j
        · obtain rfl : _ = o := Option.some.inj ho
          clear ho hk
          change wpList _ _ (OneQ _ a _) _ a _
          subst ha
          obtain ⟨_, _, _, _, _, _, _⟩ := T5.below hbx
          go_wp2
          exact ⟨_, rfl, Below.refl _ _, rfl⟩
        · obtain rfl : _ = o := Option.some.inj ho
          have y0 : vs 0 = TV (loT s) := hk 0 (by decide) rfl
          clear ho hk
          change wpList _ _ (OneQ _ (Act.put a (some 27) (vs 0)) _) _ (Act.put a (some 27) (vs 0)) _
          rw [y0]
          unfold TV
          subst ha
          go_wp2
          exact ⟨_, rfl, below_new _ _, ⟨_, rfl, textAt_new _ _ _⟩⟩
        · obtain rfl : _ = o := Option.some.inj ho
          obtain ⟨g, y1, hg⟩ : OneText (loT s) (vs 1) wx := hk 1 (by decide) rfl
          clear ho hk
          change wpList _ _ (OneQ _ (Act.put a (some 28) (vs 1)) _) _ (Act.put a (some 28) (vs 1)) _
          rw [y1]
          subst ha
          go_wp2_with fail
          refine (apply_up HL.1 HL.2 hg).mono ?_
          rintro e w' ⟨rfl, hb'⟩
          go_wp2
          exact ⟨_, rfl, hb', rfl⟩
        · obtain rfl : _ = o := Option.some.inj ho
          clear ho hk
          change wpList _ _ (OneQ _ a _) _ a _
          subst ha
          obtain ⟨_, _, _, _, _, _, _⟩ := T4.below hbx
          go_wp2
          exact ⟨_, rfl, Below.refl _ _, rfl⟩
        · obtain rfl : _ = o := Option.some.inj ho
          have y2 : vs 2 = TV (upT s) := hk 2 (by decide) rfl
          have y3 : vs 3 = TV (upT s) := hk 3 (by decide) rfl
          clear ho hk
          change wpList _ _ (OneQ _ (Act.put (Act.put a (some 29) (vs 2)) (some 30) (vs 3)) _) _ (Act.put (Act.put a (some 29) (vs 2)) (some 30) (vs 3)) _
          rw [y2, y3]
          unfold TV
          subst ha
          go_wp2
          exact ⟨_, rfl, Below.refl _ _, by first | rfl | (simp [veq_true.2, upT_len, V7]; done)⟩
        · obtain rfl : _ = o := Option.some.inj ho
          have y4 : vs 4 = .bool false := hk 4 (by decide) rfl
          clear ho hk
          change wpList _ _ (OneQ _ (Act.put a (some 31) (vs 4)) _) _ (Act.put a (some 31) (vs 4)) _
          rw [y4]
          subst ha
          go_wp2
          exact ⟨_, rfl, Below.refl _ _, by first | rfl | (simp [veq_true.2, upT_len, V7]; done)⟩
        · obtain rfl : _ = o := Option.some.inj ho
          have y5 : vs 5 = .bool false := hk 5 (by decide) rfl
          clear ho hk
          change wpList _ _ (OneQ _ (Act.put a (some 32) (vs 5)) _) _ (Act.put a (some 32) (vs 5)) _
          rw [y5]
          subst ha
          obtain ⟨_, _, _, _, _, _, _⟩ := T4.below hbx
          go_wp2
          exact ⟨_, rfl, Below.refl _ _, rfl⟩
        · obtain rfl : _ = o := Option.some.inj ho
          have y5 : vs 5 = .bool false := hk 5 (by decide) rfl
          have y6 : vs 6 = TV (upT s) := hk 6 (by decide) rfl
          clear ho hk
          change wpList _ _ (OneQ _ (Act.put (Act.put a (some 32) (vs 5)) (some 33) (vs 6)) _) _ (Act.put (Act.put a (some 32) (vs 5)) (some 33) (vs 6)) _
          rw [y5, y6]
          unfold TV
          subst ha
          go_wp2
          exact ⟨_, rfl, below_new _ _, ⟨_, rfl, textAt_new _ _ _⟩⟩
        · obtain rfl : _ = o := Option.some.inj ho
          have y5 : vs 5 = .bool false := hk 5 (by decide) rfl
          obtain ⟨g, y7, hg⟩ : OneText (upT s) (vs 7) wx := hk 7 (by decide) rfl
          clear ho hk
          change wpList _ _ (OneQ _ (Act.put (Act.put a (some 32) (vs 5)) (some 34) (vs 7)) _) _ (Act.put (Act.put a (some 32) (vs 5)) (some 34) (vs 7)) _
          rw [y5, y7]
          subst ha
          go_wp2_with fail
          refine (apply_lo HU.1 HU.2 hg).mono ?_
          rintro e w' ⟨rfl, hb'⟩
          go_wp2
          exact ⟨_, rfl, hb', rfl⟩
        · obtain rfl : _ = o := Option.some.inj ho
          have y5 : vs 5 = .bool false := hk 5 (by decide) rfl
          clear ho hk
          change wpList _ _ (OneQ _ (Act.put a (some 32) (vs 5)) _) _ (Act.put a (some 32) (vs 5)) _
          rw [y5]
          subst ha
          obtain ⟨_, _, _, _, _, _, _⟩ := T5.below hbx
          go_wp2
          exact ⟨_, rfl, Below.refl _ _, rfl⟩
        · obtain rfl : _ = o := Option.some.inj ho
          have y5 : vs 5 = .bool false := hk 5 (by decide) rfl
          have y8 : vs 8 = TV (loT s) := hk 8 (by decide) rfl
          have y9 : vs 9 = TV (loT s) := hk 9 (by decide) rfl
          clear ho hk
          change wpList _ _ (OneQ _ (Act.put (Act.put (Act.put a (some 32) (vs 5)) (some 35) (vs 8)) (some 36) (vs 9)) _) _ (Act.put (Act.put (Act.put a (some 32) (vs 5)) (some 35) (vs 8)) (some 36) (vs 9)) _
          rw [y5, y8, y9]
          unfold TV
          subst ha
          go_wp2
          exact ⟨_, rfl, Below.refl _ _, by first | rfl | (simp [veq_true.2, upT_len, V7]; done)⟩
        · obtain rfl : _ = o := Option.some.inj ho
          have y5 : vs 5 = .bool false := hk 5 (by decide) rfl
          have y10 : vs 10 = .bool false := hk 10 (by decide) rfl
          clear ho hk
          change wpList _ _ (OneQ _ (Act.put (Act.put a (some 32) (vs 5)) (some 37) (vs 10)) _) _ (Act.put (Act.put a (some 32) (vs 5)) (some 37) (vs 10)) _
          rw [y5, y10]
          subst ha
          go_wp2
          exact ⟨_, rfl, Below.refl _ _, by first | rfl | (simp [veq_true.2, upT_len, V7]; done)⟩
        · obtain rfl : _ = o := Option.some.inj ho
          have y11 : vs 11 = .bool false := hk 11 (by decide) rfl
          clear ho hk
          change wpList _ _ (OneQ _ (Act.put a (some 38) (vs 11)) _) _ (Act.put a (some 38) (vs 11)) _
          rw [y11]
          subst ha
          go_wp2
          exact ⟨_, rfl, Below.refl _ _, by first | rfl | (simp [veq_true.2, upT_len, V7]; done)⟩
        · obtain rfl : _ = o := Option.some.inj ho
          have y12 : vs 12 = .bool false := hk 12 (by decide) rfl
          clear ho hk
          change wpList _ _ (OneQ _ (Act.put a (some 39) (vs 12)) _) _ (Act.put a (some 39) (vs 12)) _
          rw [y12]
          subst ha
          obtain ⟨_, _, _, _, _, _, _⟩ := T4.below hbx
          go_wp2
          exact ⟨_, rfl, Below.refl _ _, rfl⟩
        · obtain rfl : _ = o := Option.some.inj ho
          have y12 : vs 12 = .bool false := hk 12 (by decide) rfl
          have y13 : vs 13 = TV (upT s) := hk 13 (by decide) rfl
          clear ho hk
          change wpList _ _ (OneQ _ (Act.put (Act.put a (some 39) (vs 12)) (some 40) (vs 13)) _) _ (Act.put (Act.put a (some 39) (vs 12)) (some 40) (vs 13)) _
          rw [y12, y13]
          unfold TV
          subst ha
          go_wp2
          exact ⟨_, rfl, below_new _ _, ⟨_, rfl, textAt_new _ _ _⟩⟩
        · obtain rfl : _ = o := Option.some.inj ho
          have y12 : vs 12 = .bool false := hk 12 (by decide) rfl
          obtain ⟨g, y14, hg⟩ : OneText (upT s) (vs 14) wx := hk 14 (by decide) rfl
          clear ho hk
          change wpList _ _ (OneQ _ (Act.put (Act.put a (some 39) (vs 12)) (some 41) (vs 14)) _) _ (Act.put (Act.put a (some 39) (vs 12)) (some 41) (vs 14)) _
          rw [y12, y14]
          subst ha
          go_wp2_with fail
          refine (apply_up HU.1 HU.2 hg).mono ?_
          rintro e w' ⟨rfl, hb'⟩
          go_wp2
          exact ⟨_, rfl, hb', rfl⟩
        · obtain rfl : _ = o := Option.some.inj ho
          have y12 : vs 12 = .bool false := hk 12 (by decide) rfl
          clear ho hk
          change wpList _ _ (OneQ _ (Act.put a (some 39) (vs 12)) _) _ (Act.put a (some 39) (vs 12)) _
          rw [y12]
          subst ha
          obtain ⟨_, _, _, _, _, _, _⟩ := T4.below hbx
          go_wp2
          exact ⟨_, rfl, Below.refl _ _, rfl⟩
        · obtain rfl : _ = o := Option.some.inj ho
          have y12 : vs 12 = .bool false := hk 12 (by decide) rfl
          have y15 : vs 15 = TV (upT s) := hk 15 (by decide) rfl
          have y16 : vs 16 = TV (upT s) := hk 16 (by decide) rfl
          clear ho hk
          change wpList _ _ (OneQ _ (Act.put (Act.put (Act.put a (some 39) (vs 12)) (some 42) (vs 15)) (some 43) (vs 16)) _) _ (Act.put (Act.put (Act.put a (some 39) (vs 12)) (some 42) (vs 15)) (some 43) (vs 16)) _
          rw [y12, y15, y16]
          unfold TV
          subst ha
          go_wp2
          exact ⟨_, rfl, Below.refl _ _, by first | rfl | (simp [veq_true.2, upT_len, V7]; done)⟩
        · obtain rfl : _ = o := Option.some.inj ho
          have y12 : vs 12 = .bool false := hk 12 (by decide) rfl
          have y17 : vs 17 = .bool false := hk 17 (by decide) rfl
          clear ho hk
          change wpList _ _ (OneQ _ (Act.put (Act.put a (some 39) (vs 12)) (some 44) (vs 17)) _) _ (Act.put (Act.put a (some 39) (vs 12)) (some 44) (vs 17)) _
          rw [y12, y17]
          subst ha
          go_wp2
          exact ⟨_, rfl, Below.refl _ _, by first | rfl | (simp [veq_true.2, upT_len, V7]; done)⟩
        · obtain rfl : _ = o := Option.some.inj ho
          have y18 : vs 18 = .bool false := hk 18 (by decide) rfl
          clear ho hk
          change wpList _ _ (OneQ _ (Act.put a (some 45) (vs 18)) _) _ (Act.put a (some 45) (vs 18)) _
          rw [y18]
          subst ha
          go_wp2
          exact ⟨_, rfl, Below.refl _ _, by first | rfl | (simp [veq_true.2, upT_len, V7]; done)⟩
        · obtain rfl : _ = o := Option.some.inj ho
          have y19 : vs 19 = .bool false := hk 19 (by decide) rfl
          clear ho hk
          change wpList _ _ (OneQ _ (Act.put a (some 46) (vs 19)) _) _ (Act.put a (some 46) (vs 19)) _
          rw [y19]
          subst ha
          obtain ⟨_, _, _, _, _, _, _⟩ := T6.below hbx
          go_wp2
          exact ⟨_, rfl, Below.refl _ _, rfl⟩
        · obtain rfl : _ = o := Option.some.inj ho
          have y19 : vs 19 = .bool false := hk 19 (by decide) rfl
          have y20 : vs 20 = TV (trT s) := hk 20 (by decide) rfl
          clear ho hk
          change wpList _ _ (OneQ _ (Act.put (Act.put a (some 46) (vs 19)) (some 47) (vs 20)) _) _ (Act.put (Act.put a (some 46) (vs 19)) (some 47) (vs 20)) _
          rw [y19, y20]
          unfold TV
          subst ha
          go_wp2
          exact ⟨_, rfl, below_new _ _, ⟨_, rfl, textAt_new _ _ _⟩⟩
        · obtain rfl : _ = o := Option.some.inj ho
          have y19 : vs 19 = .bool false := hk 19 (by decide) rfl
          obtain ⟨g, y21, hg⟩ : OneText (trT s) (vs 21) wx := hk 21 (by decide) rfl
          clear ho hk
          change wpList _ _ (OneQ _ (Act.put (Act.put a (some 46) (vs 19)) (some 48) (vs 21)) _) _ (Act.put (Act.put a (some 46) (vs 19)) (some 48) (vs 21)) _
          rw [y19, y21]
          subst ha
          go_wp2_with fail
          refine (apply_tr HR.1 HR.2 hg (htab.below (hbU.trans (hbx.mono hbU.size)) h0w)).mono ?_
          rintro e w' ⟨rfl, hb'⟩
          go_wp2
          exact ⟨_, rfl, hb', rfl⟩
        · obtain rfl : _ = o := Option.some.inj ho
          have y19 : vs 19 = .bool false := hk 19 (by decide) rfl
          clear ho hk
          change wpList _ _ (OneQ _ (Act.put a (some 46) (vs 19)) _) _ (Act.put a (some 46) (vs 19)) _
          rw [y19]
          subst ha
          obtain ⟨_, _, _, _, _, _, _⟩ := T6.below hbx
          go_wp2
          exact ⟨_, rfl, Below.refl _ _, rfl⟩
        · obtain rfl : _ = o := Option.some.inj ho
          have y19 : vs 19 = .bool false := hk 19 (by decide) rfl
          have y22 : vs 22 = TV (trT s) := hk 22 (by decide) rfl
          have y23 : vs 23 = TV (trT s) := hk 23 (by decide) rfl
          clear ho hk
          change wpList _ _ (OneQ _ (Act.put (Act.put (Act.put a (some 46) (vs 19)) (some 49) (vs 22)) (some 50) (vs 23)) _) _ (Act.put (Act.put (Act.put a (some 46) (vs 19)) (some 49) (vs 22)) (some 50) (vs 23)) _
          rw [y19, y22, y23]
          unfold TV
          subst ha
          go_wp2
          exact ⟨_, rfl, Below.refl _ _, by first | rfl | (simp [veq_true.2, upT_len, V7]; done)⟩
        · obtain rfl : _ = o := Option.some.inj ho
          have y19 : vs 19 = .bool false := hk 19 (by decide) rfl
          have y24 : vs 24 = .bool false := hk 24 (by decide) rfl
          clear ho hk
          change wpList _ _ (OneQ _ (Act.put (Act.put a (some 46) (vs 19)) (some 51) (vs 24)) _) _ (Act.put (Act.put a (some 46) (vs 19)) (some 51) (vs 24)) _
          rw [y19, y24]
          subst ha
          go_wp2
          exact ⟨_, rfl, Below.refl _ _, by first | rfl | (simp [veq_true.2, upT_len, V7]; done)⟩
        · obtain rfl : _ = o := Option.some.inj ho
          have y25 : vs 25 = .bool false := hk 25 (by decide) rfl
          clear ho hk
          change wpList _ _ (OneQ _ (Act.put a (some 52) (vs 25)) _) _ (Act.put a (some 52) (vs 25)) _
          rw [y25]
          subst ha
          go_wp2
          exact ⟨_, rfl, Below.refl _ _, by first | rfl | (simp [veq_true.2, upT_len, V7]; done)⟩
        · obtain rfl : _ = o := Option.some.inj ho
          have y26 : vs 26 = .bool false := hk 26 (by decide) rfl
          clear ho hk
          change wpList _ _ (OneQ _ (Act.put a (some 53) (vs 26)) _) _ (Act.put a (some 53) (vs 26)) _
          rw [y26]
          subst ha
          go_wp2
          exact ⟨_, rfl, Below.refl _ _, by first | rfl | (simp [veq_true.2, upT_len, V7]; done)⟩
        · obtain rfl : _ = o := Option.some.inj ho
          have y26 : vs 26 = .bool false := hk 26 (by decide) rfl
          have y27 : vs 27 = .pointer (some ⟨p4, 3, none⟩) := hk 27 (by decide) rfl
          clear ho hk
          change wpList _ _ (OneQ _ (Act.put (Act.put a (some 53) (vs 26)) (some 54) (vs 27)) _) _ (Act.put (Act.put a (some 53) (vs 26)) (some 54) (vs 27)) _
          rw [y26, y27]
          subst ha
          obtain ⟨_, _, _, _, _, _, _⟩ := T4.below hbx
          go_wp2
          exact ⟨_, rfl, Below.refl _ _, rfl⟩
        · obtain rfl : _ = o := Option.some.inj ho
          have y26 : vs 26 = .bool false := hk 26 (by decide) rfl
          have y28 : vs 28 = .string (upT s) := hk 28 (by decide) rfl
          clear ho hk
          change wpList _ _ (OneQ _ (Act.put (Act.put a (some 53) (vs 26)) (some 55) (vs 28)) _) _ (Act.put (Act.put a (some 53) (vs 26)) (some 55) (vs 28)) _
          rw [y26, y28]
          subst ha
          go_wp2
          exact ⟨_, rfl, Below.refl _ _, by first | rfl | (simp [veq_true.2, upT_len, V7]; done)⟩
        · obtain rfl : _ = o := Option.some.inj ho
          have y26 : vs 26 = .bool false := hk 26 (by decide) rfl
          clear ho hk
          change wpList _ _ (OneQ _ (Act.put a (some 53) (vs 26)) _) _ (Act.put a (some 53) (vs 26)) _
          rw [y26]
          subst ha
          go_wp2
          exact ⟨_, rfl, Below.refl _ _, by first | rfl | (simp [veq_true.2, upT_len, V7]; done)⟩
        · obtain rfl : _ = o := Option.some.inj ho
          have y26 : vs 26 = .bool false := hk 26 (by decide) rfl
          have y30 : vs 30 = .string s := hk 30 (by decide) rfl
          clear ho hk
          change wpList _ _ (OneQ _ (Act.put (Act.put a (some 53) (vs 26)) (some 57) (vs 30)) _) _ (Act.put (Act.put a (some 53) (vs 26)) (some 57) (vs 30)) _
          rw [y26, y30]
          subst ha
          go_wp2
          exact ⟨_, rfl, Below.refl _ _, by first | rfl | (simp [veq_true.2, upT_len, V7]; done)⟩
        · obtain rfl : _ = o := Option.some.inj ho
          have y26 : vs 26 = .bool false := hk 26 (by decide) rfl
          have y29 : vs 29 = .int .i64 s.size := hk 29 (by decide) rfl
          have y31 : vs 31 = .int .i64 s.size := hk 31 (by decide) rfl
          clear ho hk
          change wpList _ _ (OneQ _ (Act.put (Act.put (Act.put a (some 53) (vs 26)) (some 56) (vs 29)) (some 58) (vs 31)) _) _ (Act.put (Act.put (Act.put a (some 53) (vs 26)) (some 56) (vs 29)) (some 58) (vs 31)) _
          rw [y26, y29, y31]
          subst ha
          go_wp2
          exact ⟨_, rfl, Below.refl _ _, by first | rfl | (simp [veq_true.2, upT_len, V7]; done)⟩
        · omega
      · intro vs wx hw hv
        have hbx := hw.out
        have y0 : vs 0 = TV (loT s) := hv 0 (by decide)
        obtain ⟨g1, y1, _⟩ : OneText (loT s) (vs 1) wx := hv 1 (by decide)
        have y2 : vs 2 = TV (upT s) := hv 2 (by decide)
        have y3 : vs 3 = TV (upT s) := hv 3 (by decide)
        have y4 : vs 4 = .bool false := hv 4 (by decide)
        have y5 : vs 5 = .bool false := hv 5 (by decide)
        have y6 : vs 6 = TV (upT s) := hv 6 (by decide)
        obtain ⟨g7, y7, _⟩ : OneText (upT s) (vs 7) wx := hv 7 (by decide)
        have y8 : vs 8 = TV (loT s) := hv 8 (by decide)
        have y9 : vs 9 = TV (loT s) := hv 9 (by decide)
        have y10 : vs 10 = .bool false := hv 10 (by decide)
        have y11 : vs 11 = .bool false := hv 11 (by decide)
        have y12 : vs 12 = .bool false := hv 12 (by decide)
        have y13 : vs 13 = TV (upT s) := hv 13 (by decide)
        obtain ⟨g14, y14, _⟩ : OneText (upT s) (vs 14) wx := hv 14 (by decide)
        have y15 : vs 15 = TV (upT s) := hv 15 (by decide)
        have y16 : vs 16 = TV (upT s) := hv 16 (by decide)
        have y17 : vs 17 = .bool false := hv 17 (by decide)
        have y18 : vs 18 = .bool false := hv 18 (by decide)
        have y19 : vs 19 = .bool false := hv 19 (by decide)
        have y20 : vs 20 = TV (trT s) := hv 20 (by decide)
        obtain ⟨g21, y21, _⟩ : OneText (trT s) (vs 21) wx := hv 21 (by decide)
        have y22 : vs 22 = TV (trT s) := hv 22 (by decide)
        have y23 : vs 23 = TV (trT s) := hv 23 (by decide)
        have y24 : vs 24 = .bool false := hv 24 (by decide)
        have y25 : vs 25 = .bool false := hv 25 (by decide)
        have y26 : vs 26 = .bool false := hv 26 (by decide)
        have y27 : vs 27 = .pointer (some ⟨p4, 3, none⟩) := hv 27 (by decide)
        have y28 : vs 28 = .string (upT s) := hv 28 (by decide)
        have y29 : vs 29 = .int .i64 s.size := hv 29 (by decide)
        have y30 : vs 30 = .string s := hv 30 (by decide)
        have y31 : vs 31 = .int .i64 s.size := hv 31 (by decide)
        have y32 : vs 32 = .bool false := hv 32 (by decide)
        clear hv hw
        change wpList _ _ _ _ (Act.put (Act.put (Act.put (Act.put (Act.put (Act.put (Act.put (Act.put (Act.put (Act.put (Act.put (Act.put (Act.put (Act.put (Act.put (Act.put (Act.put (Act.put (Act.put (Act.put (Act.put (Act.put (Act.put (Act.put (Act.put (Act.put (Act.put (Act.put (Act.put (Act.put (Act.put (Act.put (Act.put a (some 27) (vs 0)) (some 28) (vs 1)) (some 29) (vs 2)) (some 30) (vs 3)) (some 31) (vs 4)) (some 32) (vs 5)) (some 33) (vs 6)) (some 34) (vs 7)) (some 35) (vs 8)) (some 36) (vs 9)) (some 37) (vs 10)) (some 38) (vs 11)) (some 39) (vs 12)) (some 40) (vs 13)) (some 41) (vs 14)) (some 42) (vs 15)) (some 43) (vs 16)) (some 44) (vs 17)) (some 45) (vs 18)) (some 46) (vs 19)) (some 47) (vs 20)) (some 48) (vs 21)) (some 49) (vs 22)) (some 50) (vs 23)) (some 51) (vs 24)) (some 52) (vs 25)) (some 53) (vs 26)) (some 54) (vs 27)) (some 55) (vs 28)) (some 56) (vs 29)) (some 57) (vs 30)) (some 58) (vs 31)) (some 59) (vs 32)) _
        rw [y0, y1, y2, y3, y4, y5, y6, y7, y8, y9, y10, y11, y12, y13, y14, y15, y16, y17, y18, y19, y20, y21, y22, y23, y24, y25, y26, y27, y28, y29, y30, y31, y32]
        unfold TV
        subst ha
        clear y0 y1 y2 y3 y4 y5 y6 y7 y8 y9 y10 y11 y12 y13 y14 y15 y16 y17 y18 y19 y20 y21 y22 y23 y24 y25 y26 y27 y28 y29 y30 y31 y32
        simp only [List.drop_succ_cons, List.drop_zero]
        go_wp2
        have hbX := hbU.trans (hbx.mono hbU.size)
        have hX := hbX.size
        have TX := T6.below hbx
        have hpl : s.data.toList.all okc = true := hp
        clear T4 T5 T6 hbU hbx HT HU HL HR q1 q2 q3 q4 TA hb2 hb1 htab
        obtain ⟨i0, hi, hz, hsz', hby⟩ := zero_byte
        go_loopw [7, 9] (fun x i wr => ∃ k, Lt w wx s wx.heap.size x i k wr) (fun _ i _ => s.size - (intOf i).toNat)
        case atStart => exact ⟨0, Nat.zero_le _, rfl, hbX, Below.refl _ _, World.ownsRow_nil _ _ _ _⟩
        case round =>
          obtain ⟨k, hk, rfl, hbk, hbk0, hown⟩ := hrel
          have hsk := hbk.size
          have hsk0 := hbk0.size
          by_cases hlt : k < s.size
          · have hstep := solidT_step hlt
            have hlen := solidT_len s k
            by_cases hb32 : s[k] = 32
            · rw [if_pos hb32] at hstep
              have hc : ((s[k].toNat : Int) != 32) = false := by rw [hb32]; rfl
              have HB := Lib.hid (And.intro hbk (And.intro hbk0 (And.intro hown hstep)))
              clear hbk hbk0 hown hstep
              go_wp2
              go_roundw
              case rel => exact ⟨k + 1, by omega, by go_num, HB.out.1, HB.out.2.1, by rw [HB.out.2.2.2]; exact HB.out.2.2.1⟩
              case measure => simp [intOf]; omega
            · rw [if_neg hb32] at hstep
              have hc : ((s[k].toNat : Int) != 32) = true := by
                have : s[k].toNat ≠ 32 := fun h => hb32 (UInt8.toNat_inj.1 h)
                simp; omega
              have HB := Lib.hid (And.intro hbk (And.intro hbk0 hstep))
              have hown3 := hown
              clear hbk hbk0 hstep hown
              go_wp2_with (first
                | (at_builtin; refine wpList_append_lies _ rfl _ _ 54 rfl wx.heap.size 5 i0 _ 1 1 Tryz.underlying54 hi hz hsz' hby rfl (by decide) _ (solidT s k).length _ rfl (hown3.alloc _) ⟨wr.heap.size, 0, none⟩ 1 1 (byteL [s[k]]) rfl rfl (World.news_of_block (heap_alloc_new _ _)) (byteL_one _) (by decide) (by unfold maxLen; omega) (by omega) (by simp; omega) _ rfl ?_; intro g capg w5 hown5 hgrow5 hat5 hlt5)
                | fail)
              go_roundw
              case rel =>
                refine ⟨k + 1, by omega, by go_num, below_grownBy (HB.out.1.alloc (by omega) _) hgrow5 (own_mono (hown3.alloc _) (by omega)) (by simp; omega), below_grownBy (HB.out.2.1.alloc (by omega) _) hgrow5 (hown3.alloc _) (by simp; omega), ?_⟩
                rw [HB.out.2.2, List.length_append]
                simpa [byteL] using hown5
              case measure => simp [intOf]; omega
          · obtain rfl : k = s.size := by omega
            have TK := TX.below hbk0
            have HZ : solidT (trT s) (trT s).size = solidT s s.size := by
              rw [solidT_all, solidT_all]
              exact solid_trim hpl
            have HZh := Lib.hid HZ
            have hZl := solidT_len s s.size
            have HO := Lib.hid hown
            have htl : (trT s).size ≤ 256 := (trim_ok hp hs2).2
            have TKh := Lib.hid TK
            clear HZ hown TK TX
            obtain ⟨wq, rfl⟩ : ∃ x : World, x = wr := ⟨_, rfl⟩
            go_wp2
            go_loopw [8, 10] (fun y i wr => ∃ k, Lt w wq (trT s) wq.heap.size y i k wr) (fun _ i _ => (trT s).size - (intOf i).toNat)
            case atStart => exact ⟨0, Nat.zero_le _, rfl, hbk, Below.refl _ _, World.ownsRow_nil _ _ _ _⟩
            case round =>
              obtain ⟨m, hm, rfl, hbm, hbm0, hown⟩ := hrel
              have hsm := hbm.size
              have hsm0 := hbm0.size
              obtain ⟨l6, u0, u1, u2, u3, u4, u5⟩ := TKh.out.below hbm0
              by_cases hlt : m < (trT s).size
              · have hstep := solidT_step hlt
                have hlen := solidT_len (trT s) m
                by_cases hb32 : (trT s)[m] = 32
                · rw [if_pos hb32] at hstep
                  obtain ⟨gg1, gg2, gg3⟩ := trim_gap_at s hlt hb32
                  obtain ⟨j, rfl⟩ : ∃ j, m = j + 1 := ⟨m - 1, by omega⟩
                  have hj := gg3 j (by omega) rfl
                  have hc : (((trT s)[j + 1].toNat : Int) != 32) = false := by rw [hb32]; rfl
                  have hc2 : (((trT s)[j].toNat : Int) == 32) = false := by
                    have : (trT s)[j].toNat ≠ 32 := fun h => hj (UInt8.toNat_inj.1 h)
                    simp; omega
                  have hc3 : (((j : Int) + 1) == 0) = false := by simp; omega
                  have hc4 : (((j : Int) + 1) == (((trT s).size : Int) - 1)) = false := by simp; omega
                  have HB := Lib.hid (And.intro hbm (And.intro hbm0 (And.intro hown hstep)))
                  clear hbm hbm0 hown hstep gg3 hb32 hj
                  go_wp2
                  go_roundw
                  case rel => exact ⟨j + 1 + 1, by omega, by go_num, HB.out.1, HB.out.2.1, by rw [HB.out.2.2.2]; exact HB.out.2.2.1⟩
                  case measure => simp [intOf]; omega
                · rw [if_neg hb32] at hstep
                  have hc : (((trT s)[m].toNat : Int) != 32) = true := by
                    have : (trT s)[m].toNat ≠ 32 := fun h => hb32 (UInt8.toNat_inj.1 h)
                    simp; omega
                  have HB := Lib.hid (And.intro hbm (And.intro hbm0 hstep))
                  have hown3 := hown
                  clear hbm hbm0 hstep hown
                  go_wp2_with (first
                    | (at_builtin; refine wpList_append_lies _ rfl _ _ 54 rfl wq.heap.size 5 i0 _ 1 1 Tryz.underlying54 hi hz hsz' hby rfl (by decide) _ (solidT (trT s) m).length _ rfl (hown3.alloc _) ⟨wr.heap.size, 0, none⟩ 1 1 (byteL [(trT s)[m]]) rfl rfl (World.news_of_block (heap_alloc_new _ _)) (byteL_one _) (by decide) (by unfold maxLen; omega) (by omega) (by simp; omega) _ rfl ?_; intro g capg w5 hown5 hgrow5 hat5 hlt5)
                    | fail)
                  go_roundw
                  case rel =>
                    refine ⟨m + 1, by omega, by go_num, below_grownBy (HB.out.1.alloc (by omega) _) hgrow5 (own_mono (hown3.alloc _) (by omega)) (by simp; omega), below_grownBy (HB.out.2.1.alloc (by omega) _) hgrow5 (hown3.alloc _) (by simp; omega), ?_⟩
                    rw [HB.out.2.2, List.length_append]
                    simpa [byteL] using hown5
                  case measure => simp [intOf]; omega
              · obtain rfl : m = (trT s).size := by omega
                have HA := run_conv_own _ _ _ _ (own_below HO.out hbm0)
                rw [HZh.out] at hown
                have HA2 := run_conv_own _ _ _ _ hown
                have hbmh := Lib.hid hbm
                clear hown hbm hbm0
                go_wp2
                go_ret
                exact ⟨rfl, hbmh.out⟩
end Go.Proofs.YtangdbjoflnobaaGreatDoor
