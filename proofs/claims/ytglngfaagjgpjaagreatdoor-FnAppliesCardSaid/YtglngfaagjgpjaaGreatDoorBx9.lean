/- Plain laws: capitals, small letters, and texts without needless blanks; no program in sight. Texts in great and small letters, trimmed: still texts. The reference's trimming and turning of letters: the plain law, and the walks. Walks of the reference's package for functions: trimmed and lettered. Walks of the reference's package for functions: counts. -/
import Derived.Test.YtglngfaagjgpjaaGreatDoorBx1
import Derived.Lib.Case
import Derived.Lib.Fields
import Derived.Lib.Join
import Derived.Test.YtglngfaagjgpjaaGreatDoorValC
import Derived.WalkSmall
import Derived.Lib.LaidTab
import Derived.Test.YtglngfaagjgpjaaGreatDoorTakeA
import Derived.Test.YtglngfaagjgpjaaGreatDoorBx2
import Derived.Test.YtglngfaagjgpjaaGreatDoorCutX
namespace Go.Proofs.YtglngfaagjgpjaaGreatDoor
open Go Go.RowKit Go.Lib

theorem byte_all {p : UInt8 → Bool} (h : ∀ n, n < 256 → p (UInt8.ofNat n) = true) (b : UInt8) : p b = true := by
  have := h b.toNat b.toNat_lt
  rwa [UInt8.ofNat_toNat] at this
theorem okc_upper {b : UInt8} (h : okc b = true) : okc (upperB b) = true := by
  have := byte_all (p := fun b => !okc b || okc (upperB b)) (by decide +kernel) b
  simpa [h] using this
theorem okc_lower {b : UInt8} (h : okc b = true) : okc (lowerB b) = true := by
  have := byte_all (p := fun b => !okc b || okc (lowerB b)) (by decide +kernel) b
  simpa [h] using this
theorem okc_sp {b : UInt8} (h : okc b = true) : isSp b = (b == 32) := by
  have := byte_all (p := fun b => !okc b || (isSp b == (b == 32))) (by decide +kernel) b
  simpa [h] using this

theorem joinTail_cons (sep y : List UInt8) (r : List (List UInt8)) : joinTail sep (y :: r) = sep ++ y ++ joinTail sep r := by simp [joinTail]
/-- A text's words, one blank between. -/
def trimL (s : List UInt8) : List UInt8 := Lib.join (fields s) [32]
theorem joinTail_all : ∀ (r : List (List UInt8)), (∀ x ∈ r, x.all okc = true) → (joinTail [32] r).all okc = true := by
  intro r
  induction r with
  | nil => intro _; rfl
  | cons y r ih =>
    intro h
    rw [joinTail_cons, List.all_append, List.all_append, ih (fun x hx => h x (by simp [hx])), h y (by simp)]
    decide
theorem fieldsGo_all : ∀ (l cur : List UInt8), cur.all okc = true → l.all okc = true → ∀ x ∈ fieldsGo cur l, x.all okc = true := by
  intro l
  induction l with
  | nil => intro cur hc _ x hx; cases cur with
    | nil => simp [fieldsGo] at hx
    | cons c r => simp [fieldsGo] at hx; rw [hx]; exact hc
  | cons b l ih =>
    intro cur hc hl x hx
    rw [List.all_cons, Bool.and_eq_true] at hl
    cases hb : isSp b
    · rw [fieldsGo_more _ _ _ hb] at hx
      exact ih _ (by rw [List.all_append, hc]; simp [hl.1]) hl.2 x hx
    · cases cur with
      | nil => rw [fieldsGo_sp _ _ hb] at hx; exact ih _ rfl hl.2 x hx
      | cons c r =>
        rw [fieldsGo_end _ _ _ hb (by simp)] at hx
        rcases List.mem_cons.1 hx with rfl | hx
        · exact hc
        · exact ih _ rfl hl.2 x hx
theorem trim_all {s : List UInt8} (h : s.all okc = true) : (trimL s).all okc = true := by
  unfold trimL
  have hf := fieldsGo_all s [] rfl h
  have hf' : ∀ x ∈ fields s, x.all okc = true := hf
  cases he : fields s with
  | nil => rfl
  | cons x r =>
    rw [he] at hf'
    rw [join_cons, List.all_append, hf' x (by simp), joinTail_all r (fun y hy => hf' y (by simp [hy]))]
    rfl
theorem trim_len (s : List UInt8) : (trimL s).length ≤ s.length := by
  have key : ∀ (l cur : List UInt8), (Lib.join (fieldsGo cur l) [32]).length ≤ cur.length + l.length := by
    intro l
    induction l with
    | nil => intro cur; cases cur <;> simp [fieldsGo, Lib.join, List.intercalate]
    | cons b l ih =>
      intro cur
      cases hb : isSp b
      · rw [fieldsGo_more _ _ _ hb]; have := ih (cur ++ [b]); simp at this ⊢; omega
      · cases cur with
        | nil => rw [fieldsGo_sp _ _ hb]; have := ih []; simp at this ⊢; omega
        | cons c r =>
          rw [fieldsGo_end _ _ _ hb (by simp), join_cons]
          have := ih []
          cases hf : fieldsGo [] l with
          | nil => simp [joinTail]
          | cons y q =>
            rw [hf, join_cons] at this
            rw [joinTail_cons]
            simp at this ⊢
            omega
  have := key s []
  show (Lib.join (fieldsGo [] s) [32]).length ≤ s.length
  simpa using this
end Go.Proofs.YtglngfaagjgpjaaGreatDoor
namespace Go.Proofs.YtglngfaagjgpjaaGreatDoor
open Go Go.RowKit
set_option linter.unusedSimpArgs false
set_option linter.unusedVariables false

theorem okc_ascii {t : ByteArray} (hp : plainT t = true) : ∀ (j : Nat) (b : UInt8), t.data.toList[j]? = some b → b.toNat < 128 := by
  intro j b h
  rw [plainT_eq] at hp
  have := List.all_eq_true.1 hp b (List.mem_of_getElem? h)
  simp [okc] at this
  omega
def upT (t : ByteArray) : ByteArray := ⟨(Lib.toUpperA t.data.toList).toArray⟩
def loT (t : ByteArray) : ByteArray := ⟨(Lib.toLowerA t.data.toList).toArray⟩
def trT (t : ByteArray) : ByteArray := ⟨(trimL t.data.toList).toArray⟩
def SpTab (w : World) : Prop := Lib.TabIs Tryz.prog w "strings.asciiSpace" .u8 Lib.asciiSpaceTab
theorem SpTab.below {w w1 : World} (h : SpTab w) (hb : Below w.heap.size w w1) (h0 : 0 < w.heap.size) : SpTab w1 :=
  var?_below hb (by kernel_rfl : (Tryz.prog).globalNamed "strings.asciiSpace" = some 0) h0 h

theorem trim_ok {t : ByteArray} (hp : plainT t = true) (hs : t.size ≤ 256) : plainT (trT t) = true ∧ (trT t).size ≤ 256 := by
  refine ⟨?_, ?_⟩
  · rw [plainT_eq] at hp ⊢
    simpa [trT] using trim_all hp
  · have := trim_len t.data.toList
    have e : (trT t).size = (trimL t.data.toList).length := by show (trimL t.data.toList).toArray.size = _; exact List.size_toArray
    have e2 : t.size = t.data.toList.length := Array.length_toList.symm
    omega

theorem up_ok {t : ByteArray} (hp : plainT t = true) (hs : t.size ≤ 256) : plainT (upT t) = true ∧ (upT t).size ≤ 256 := by
  refine ⟨?_, ?_⟩
  · rw [plainT_eq] at hp ⊢
    show ((Lib.toUpperA t.data.toList).toArray.toList).all okc = true
    rw [List.all_eq_true] at hp ⊢
    intro b hb
    simp only [Lib.toUpperA, List.mem_map] at hb
    obtain ⟨c, hc, rfl⟩ := hb
    exact okc_upper (hp c hc)
  · have e : (upT t).size = t.size := by show ((Lib.toUpperA t.data.toList).toArray).size = t.data.size; rw [List.size_toArray, Lib.toUpperA, List.length_map, Array.length_toList]
    omega
theorem lo_ok {t : ByteArray} (hp : plainT t = true) (hs : t.size ≤ 256) : plainT (loT t) = true ∧ (loT t).size ≤ 256 := by
  refine ⟨?_, ?_⟩
  · rw [plainT_eq] at hp ⊢
    show ((Lib.toLowerA t.data.toList).toArray.toList).all okc = true
    rw [List.all_eq_true] at hp ⊢
    intro b hb
    simp only [Lib.toLowerA, List.mem_map] at hb
    obtain ⟨c, hc, rfl⟩ := hb
    exact okc_lower (hp c hc)
  · have e : (loT t).size = t.size := by show ((Lib.toLowerA t.data.toList).toArray).size = t.data.size; rw [List.size_toArray, Lib.toLowerA, List.length_map, Array.length_toList]
    omega
end Go.Proofs.YtglngfaagjgpjaaGreatDoor
namespace Go.Proofs.YtglngfaagjgpjaaGreatDoor
open Go Go.RowKit
set_option linter.unusedSimpArgs false
set_option linter.unusedVariables false
/-! rows of bytes -/
def byteL (l : List UInt8) : List Value := l.map fun b => .int .u8 b.toNat
theorem zero_byte : ∃ i, Tryz.prog.info? 5 = some i ∧ i.zero = some (.int .u8 0) ∧ i.size = 1 ∧ i.bytes = 1 := by
  have h : (Tryz.prog.info? 5).map (fun i => (i.zero, i.size, i.bytes)) = some (some (.int .u8 0), 1, 1) := by kernel_rfl
  cases hi : Tryz.prog.info? 5 with
  | none => rw [hi] at h; cases h
  | some i => rw [hi] at h; simp only [Option.map_some, Option.some.injEq, Prod.mk.injEq] at h; exact ⟨i, rfl, h.1, h.2.1, h.2.2⟩
theorem fold_push (l : List UInt8) : ∀ r : ByteArray, ((l.map fun b => (b.toNat : Int)).foldl (fun r n => r.push (UInt8.ofNat n.toNat)) r) = ⟨r.data ++ l.toArray⟩ := by
  induction l with
  | nil => intro r; obtain ⟨r⟩ := r; simp
  | cons b l ih =>
    intro r
    rw [List.map_cons, List.foldl_cons, ih]
    obtain ⟨r⟩ := r
    have e : UInt8.ofNat ((b.toNat : Int).toNat) = b := by simp
    rw [e]
    apply congrArg ByteArray.mk
    show r.push b ++ l.toArray = r ++ (b :: l).toArray
    simp
theorem run_conv_own (w : World) (v : Value) (bs : List UInt8) (base : Nat) (h : w.ownsRow base 5 1 v bs.length (byteL bs)) :
    (convert 153 9 v).run Tryz.prog w = .ok (.string ⟨bs.toArray⟩) w := by
  by_cases hn : 0 < bs.length
  · obtain ⟨g, cap, rfl, _, _⟩ := h.form hn
    rw [run_convert_bytes_string w _ _ 5 _ _ _ Tryz.underlying153 Tryz.underlying5 Tryz.underlying9]
    have hl := run_loadCells_list (P := Tryz.prog) (w := w) ⟨g, 0, none⟩ (byteL bs) (fun j u hj => by
      have hjl : j < bs.length := by
        rcases Nat.lt_or_ge j bs.length with h1 | h1
        · exact h1
        · rw [List.getElem?_eq_none (by simpa [byteL] using h1)] at hj; cases hj
      have := h.cellAt j (by omega)
      rw [hj] at this
      rw [Go.WideShapes.add_plain, Nat.zero_add]
      exact this)
    have hlen : (byteL bs).length = bs.length := by simp [byteL]
    rw [hlen] at hl
    have hbl : byteL bs = (bs.map fun b => (b.toNat : Int)).map (Value.int .u8) := by simp [byteL]
    rw [hbl] at hl
    rw [run_bytesToString w _ _ _ _ hl, fold_push]
    congr 3
    show #[] ++ bs.toArray = bs.toArray
    simp
  · have hb : bs = [] := List.length_eq_zero_iff.1 (by omega)
    subst hb
    rcases h.2 with ⟨rfl, _⟩ | ⟨g, cap, cur, rfl, _⟩
    · rw [run_convert_bytes_string w _ _ 5 _ _ _ Tryz.underlying153 Tryz.underlying5 Tryz.underlying9]
      rfl
    · rw [run_convert_bytes_string w _ _ 5 _ _ _ Tryz.underlying153 Tryz.underlying5 Tryz.underlying9]
      rfl

/-! trimming, as the reference goes -/
def trimGo (out : List UInt8) (sp : Bool) : List UInt8 → List UInt8
  | [] => out
  | c :: l => if c = 32 then trimGo out true l else trimGo (if out ≠ [] ∧ sp = true then out ++ [32] ++ [c] else out ++ [c]) false l
theorem joinTail_snoc (sep x : List UInt8) : ∀ r : List (List UInt8), Lib.joinTail sep (r ++ [x]) = Lib.joinTail sep r ++ sep ++ x
  | [] => by simp [Lib.joinTail]
  | y :: r => by
    have ih := joinTail_snoc sep x r
    rw [List.cons_append, joinTail_cons, joinTail_cons, ih]
    simp
theorem join_snoc (sep x : List UInt8) (ws : List (List UInt8)) : Lib.join (ws ++ [x]) sep = if ws = [] then x else Lib.join ws sep ++ sep ++ x := by
  cases ws with
  | nil => simp [Lib.join, Lib.joinTail]
  | cons y r =>
    rw [if_neg (by simp)]
    rw [List.cons_append, Lib.join_cons, Lib.join_cons, joinTail_snoc]
    simp
theorem join_ne {sep : List UInt8} {ws : List (List UInt8)} (h : ∀ x ∈ ws, x ≠ []) : Lib.join ws sep = [] ↔ ws = [] := by
  cases ws with
  | nil => simp [Lib.join]
  | cons y r =>
    have hy := h y (by simp)
    constructor
    · intro e
      rw [Lib.join_cons] at e
      have := e
      exact absurd (List.append_eq_nil_iff.1 this).1 hy
    · intro e; cases e
theorem fieldsGo_cons (cur : List UInt8) (b : UInt8) (l : List UInt8) : Lib.fieldsGo cur (b :: l) = if Lib.isSp b then (if cur.isEmpty then Lib.fieldsGo [] l else cur :: Lib.fieldsGo [] l) else Lib.fieldsGo (cur ++ [b]) l := by rw [Lib.fieldsGo]
theorem trimGo_fields : ∀ (l : List UInt8), (∀ b ∈ l, Lib.isSp b = (b == 32)) →
    (∀ ws, (∀ x ∈ ws, x ≠ []) → trimGo (Lib.join ws [32]) true l = Lib.join (ws ++ Lib.fieldsGo [] l) [32]) ∧
    (∀ ws cur, (∀ x ∈ ws, x ≠ []) → cur ≠ [] → trimGo (Lib.join (ws ++ [cur]) [32]) false l = Lib.join (ws ++ Lib.fieldsGo cur l) [32])
  | [], _ => by
    refine ⟨fun ws h => by simp [trimGo, Lib.fieldsGo], fun ws cur h hc => ?_⟩
    have : cur.isEmpty = false := by cases cur with
      | nil => exact absurd rfl hc
      | cons _ _ => rfl
    simp [trimGo, Lib.fieldsGo, this]
  | c :: l, hb => by
    obtain ⟨hA, hB⟩ := trimGo_fields l (fun b h => hb b (List.mem_cons_of_mem _ h))
    have hc := hb c (by simp)
    by_cases h32 : c = 32
    · have hs : Lib.isSp c = true := by rw [hc]; simp [h32]
      refine ⟨fun ws h => ?_, fun ws cur h hcur => ?_⟩
      · rw [trimGo, if_pos h32, hA ws h]
        rw [fieldsGo_cons, if_pos hs, if_pos (by rfl)]
      · have he : cur.isEmpty = false := by cases cur with
          | nil => exact absurd rfl hcur
          | cons _ _ => rfl
        rw [trimGo, if_pos h32, hA (ws ++ [cur]) (by
          intro x hx
          rcases List.mem_append.1 hx with hx | hx
          · exact h x hx
          · rw [List.mem_singleton.1 hx]; exact hcur)]
        rw [fieldsGo_cons, if_pos hs, he]
        simp
    · have hs : ¬ Lib.isSp c = true := by rw [hc]; simp [h32]
      refine ⟨fun ws h => ?_, fun ws cur h hcur => ?_⟩
      · rw [trimGo, if_neg h32]
        have e : (if Lib.join ws [32] ≠ [] ∧ true = true then Lib.join ws [32] ++ [32] ++ [c] else Lib.join ws [32] ++ [c]) = Lib.join (ws ++ [[c]]) [32] := by
          rw [join_snoc]
          by_cases hw : ws = []
          · subst hw; simp [Lib.join]
          · rw [if_pos ⟨fun e => hw ((join_ne h).1 e), rfl⟩, if_neg hw]
        rw [e, hB ws [c] h (by simp)]
        rw [fieldsGo_cons, if_neg hs]
        rfl
      · rw [trimGo, if_neg h32]
        have e : (if Lib.join (ws ++ [cur]) [32] ≠ [] ∧ false = true then Lib.join (ws ++ [cur]) [32] ++ [32] ++ [c] else Lib.join (ws ++ [cur]) [32] ++ [c]) = Lib.join (ws ++ [cur ++ [c]]) [32] := by
          rw [if_neg (by simp), join_snoc, join_snoc]
          by_cases hw : ws = []
          · rw [if_pos hw, if_pos hw]
          · rw [if_neg hw, if_neg hw]; simp
        rw [e, hB ws (cur ++ [c]) h (by simp)]
        rw [fieldsGo_cons, if_neg hs]
theorem trimGo_trim {s : List UInt8} (h : s.all okc = true) : trimGo [] true s = trimL s := by
  have := (trimGo_fields s (fun b hb => okc_sp (List.all_eq_true.1 h b hb))).1 [] (by simp)
  rw [Lib.join_nil, List.nil_append] at this
  exact this
theorem own_len {w : World} {B e z n : Nat} {a : Option Addr} {l c : Nat} {xs : List Value} (h : w.ownsRow B e z (.slice a l c) n xs) : l = n := by
  rcases h.2 with ⟨h, h'⟩ | ⟨_, _, _, h, _⟩
  · simp only [Value.slice.injEq] at h; omega
  · simp only [Value.slice.injEq] at h; omega
theorem byteL_app (x : List UInt8) (c : UInt8) : byteL (x ++ [c]) = byteL x ++ [.int .u8 c.toNat] := by simp [byteL]
theorem u8_one (z : Int) : ∀ u ∈ [Value.int .u8 z], u.oneCell' = true := by
  intro u hu
  simp only [List.mem_singleton] at hu
  subst hu; rfl
end Go.Proofs.YtglngfaagjgpjaaGreatDoor
namespace Go.Proofs.YtglngfaagjgpjaaGreatDoor
open Go Go.RowKit
set_option linter.unusedSimpArgs false
set_option linter.unusedVariables false
structure TmI (w : World) (s : ByteArray) (i : Value) (k : Nat) (out : List UInt8) (sp : Bool) (v : Value) (wr : World) : Prop where
  le : k ≤ s.size
  i : i = .int .i64 k
  go : trimGo [] true s.data.toList = trimGo out sp (s.data.toList.drop k)
  len : out.length ≤ 2 * k
  sp : ∀ j (h : j < s.size), k = j + 1 → sp = (s[j] == 32)
  own : wr.ownsRow w.heap.size 5 1 v out.length (byteL out)
  below : Below w.heap.size w wr
theorem byte32 (b : UInt8) : ((b.toNat : Int) == 32) = (b == 32) := by
  rw [Bool.eq_iff_iff]
  simp only [beq_iff_eq]
  constructor
  · intro h; exact UInt8.toNat_inj.1 (by have : b.toNat = 32 := by omega
                                         rw [this]; rfl)
  · intro h; rw [h]; rfl
set_option maxRecDepth 100000 in
set_option maxHeartbeats 2000000 in
theorem r7_trimmed (s : ByteArray) (w : World) (hs : s.size ≤ 256) (hp : plainT s = true) :
    Calls Tryz.prog 104 #[.string s] w fun e w' => e = .returned (.string (trT s)) ∧ Below w.heap.size w w' := by
  have HE : Hid (trT s = ⟨(trimGo [] true s.data.toList).toArray⟩) := by
    unfold Hid trT
    rw [trimGo_trim (by rw [← plainT_eq]; exact hp)]
  clear hp
  obtain ⟨i1, hi1, hz1, hsz1, hby1⟩ := zero_byte
  go_enter Tryz.func104, Tryz.ntmps104
  go_wp2
  go_loopw [3, 4] (fun v i wr => ∃ k out sp, TmI w s i k out sp v wr) (fun _ i _ => s.size - (intOf i).toNat)
  case atStart => exact ⟨0, [], true, Nat.zero_le _, rfl, rfl, by simp, fun j h e => by omega, World.ownsRow_nil _ _ _ _, Below.refl _ _⟩
  case round =>
    obtain ⟨k, out, sp, hk, rfl, hgo, hlen, hsp, hown, hbk⟩ := hrel
    obtain ⟨aN, lN, cN, rfl⟩ := own_slice hown
    obtain rfl := own_len hown
    have sw := hbk.size
    by_cases hlt : k < s.size
    · have hd := drop_cons s k hlt
      rw [hd, trimGo] at hgo
      obtain ⟨c, hc⟩ : ∃ c, c = s[k] := ⟨_, rfl⟩
      rw [← hc] at hgo
      have hb := byte32 s[k]
      rw [← hc] at hb
      have HSP : Hid (∀ j (h : j < s.size), k + 1 = j + 1 → (c == 32) = (s[j] == 32)) := by
        intro j h e
        obtain rfl : k = j := by omega
        rw [hc]
      by_cases h32 : c = 32
      · rw [if_pos h32] at hgo
        have h0 : ((s[k].toNat : Int) != 32) = false := by
          have : ((s[k].toNat : Int) != 32) = !((s[k].toNat : Int) == 32) := rfl
          rw [this, ← hc, hb, h32]; rfl
        have HG := Lib.hid hgo
        have HO := Lib.hid (And.intro hown hbk)
        have HS2 : Hid (∀ j (h : j < s.size), k + 1 = j + 1 → true = (s[j] == 32)) := fun j h e => by rw [← HSP.out j h e, h32]; rfl
        clear hgo hown hbk hb hd hc HSP hsp h32
        go_wp2
        go_roundw
        case rel => exact ⟨k + 1, out, true, by omega, by go_num, HG.out, by omega, HS2.out, HO.out.1, HO.out.2⟩
        case measure => simp [intOf]; omega
      · rw [if_neg h32] at hgo
        have h0 : ((c.toNat : Int) != 32) = true := by
          have : ((c.toNat : Int) != 32) = !((c.toNat : Int) == 32) := rfl
          rw [this, hb]; simp [h32]
        have HS2 : Hid (∀ j (h : j < s.size), k + 1 = j + 1 → false = (s[j] == 32)) := fun j h e => by rw [← HSP.out j h e]; simp [h32]
        have hcn : (s[k].toNat : Int) = (c.toNat : Int) := by rw [hc]
        have HCN := Lib.hid hcn
        by_cases hq : out ≠ [] ∧ sp = true
        · rw [if_pos hq] at hgo
          obtain ⟨hq1, hq2⟩ := hq
          have hpos : 0 < out.length := List.length_pos_iff.2 hq1
          obtain ⟨j, rfl⟩ : ∃ j, k = j + 1 := ⟨k - 1, by omega⟩
          have hj := hsp j (by omega) rfl
          have h1 : ((s[j].toNat : Int) == 32) = true := by rw [byte32, ← hj, hq2]
          have HG := Lib.hid hgo
          have HBK := Lib.hid hbk
          have HOW := Lib.hid hown
          clear hgo hb hd hc HSP hsp h32 hq1 hq2 hj hbk
          go_wp2_with (first
            | (at_builtin
               refine wpList_append_lies _ rfl _ _ 153 rfl w.heap.size 5 i1 _ 1 1 Tryz.underlying153 hi1 hz1 hsz1 hby1 rfl (by decide) _ out.length _ rfl (hown.alloc _) ⟨wr.heap.size, 0, none⟩ 1 1 [.int .u8 32] rfl rfl (World.news_of_block (heap_alloc_new _ _)) (u8_one _) (by decide) (by unfold maxLen; omega) (by omega) (by simp only [sz_alloc]; omega) _ rfl ?_
               intro gx capx w4 hown4 hgrow4 hat4 hlt4
               have hbk4 := below_grownBy (HBK.out.alloc (by omega) _) hgrow4 (hown.alloc _) (by simp only [sz_alloc]; omega)
               have s4 := hbk4.size
               clear hgrow4 hat4)
            | (at_builtin
               refine wpList_append_lies _ rfl _ _ 153 rfl w.heap.size 5 i1 _ 1 1 Tryz.underlying153 hi1 hz1 hsz1 hby1 rfl (by decide) _ (out.length + 1) _ rfl (hown4.alloc _) ⟨w4.heap.size, 0, none⟩ 1 1 [.int .u8 c.toNat] rfl rfl (World.news_of_block (heap_alloc_new _ _)) (u8_one _) (by decide) (by unfold maxLen; omega) (by omega) (by simp only [sz_alloc]; omega) _ rfl ?_
               intro gy capy w5 hown5 hgrow5 hat5 hlt5
               have hbk5 := below_grownBy (hbk4.alloc (by omega) _) hgrow5 (hown4.alloc _) (by simp only [sz_alloc]; omega)
               have HH5 := Lib.hid (And.intro hown5 hbk5)
               clear hown5 hbk5 hgrow5 hat5)
            | fail)
          go_roundw
          case rel =>
            refine ⟨j + 1 + 1, out ++ [32] ++ [c], false, by omega, by go_num, HG.out, by simp; omega, HS2.out, ?_, HH5.out.2⟩
            rw [byteL_app, byteL_app]
            have e : (out ++ [32] ++ [c]).length = out.length + 1 + 1 := by simp
            rw [e]
            exact HH5.out.1
          case measure => simp [intOf]; omega
        · rw [if_neg hq] at hgo
          have hgd : (decide (0 < out.length) = false) ∨ (decide (0 < out.length) = true ∧ ∃ j, k = j + 1 ∧ ∃ h : j < s.size, ((s[j].toNat : Int) == 32) = false) := by
            by_cases ho : out = []
            · left; rw [ho]; rfl
            · right
              have hpos : 0 < out.length := List.length_pos_iff.2 ho
              refine ⟨decide_eq_true (by omega), k - 1, by omega, by omega, ?_⟩
              rw [byte32, ← hsp (k - 1) (by omega) (by omega)]
              cases hsv : sp
              · rfl
              · exact absurd ⟨ho, hsv⟩ hq
          have HG := Lib.hid hgo
          have HBK := Lib.hid hbk
          clear hgo hb hd hc HSP hsp h32 hq hbk
          rcases hgd with hgd | ⟨hgd, j, rfl, hjs, h1⟩
          all_goals
            go_wp2_with (first
              | (at_builtin
                 refine wpList_append_lies _ rfl _ _ 153 rfl w.heap.size 5 i1 _ 1 1 Tryz.underlying153 hi1 hz1 hsz1 hby1 rfl (by decide) _ out.length _ rfl (hown.alloc _) ⟨wr.heap.size, 0, none⟩ 1 1 [.int .u8 c.toNat] rfl rfl (World.news_of_block (heap_alloc_new _ _)) (u8_one _) (by decide) (by unfold maxLen; omega) (by omega) (by simp only [sz_alloc]; omega) _ rfl ?_
                 intro gx capx w4 hown4 hgrow4 hat4 hlt4
                 have hbk4 := below_grownBy (HBK.out.alloc (by omega) _) hgrow4 (hown.alloc _) (by simp only [sz_alloc]; omega)
                 have HH4 := Lib.hid (And.intro hown4 hbk4)
                 clear hown4 hbk4 hgrow4 hat4)
              | fail)
            go_roundw
            case rel =>
              refine ⟨_, out ++ [c], false, by omega, by go_num, HG.out, by simp; omega, HS2.out, ?_, HH4.out.2⟩
              rw [byteL_app]
              have e : (out ++ [c]).length = out.length + 1 := by simp
              rw [e]
              exact HH4.out.1
            case measure => simp [intOf]; omega
    · have hkn : k = s.size := by omega
      have HV : Hid (trT s = ⟨out.toArray⟩) := by
        unfold Hid
        rw [HE.out, hgo, List.drop_of_length_le (by simp; omega)]
        rfl
      have HB := Lib.hid hbk
      have hcv := run_conv_own _ _ out w.heap.size hown
      clear hgo hsp hbk hown
      go_wp2
      go_ret
      exact ⟨by rw [HV.out]; rfl, HB.out⟩
/-! letters -/
set_option maxRecDepth 100000 in
theorem upper_nat (b : UInt8) : ((Lib.upperB b).toNat : Int) = if 97 ≤ (b.toNat : Int) ∧ (b.toNat : Int) ≤ 122 then (b.toNat : Int) - 32 else b.toNat := by
  have := byte_all (p := fun b => decide (((Lib.upperB b).toNat : Int) = if 97 ≤ (b.toNat : Int) ∧ (b.toNat : Int) ≤ 122 then (b.toNat : Int) - 32 else b.toNat)) (by decide) b
  exact of_decide_eq_true this
set_option maxRecDepth 100000 in
theorem lower_nat (b : UInt8) : ((Lib.lowerB b).toNat : Int) = if 65 ≤ (b.toNat : Int) ∧ (b.toNat : Int) ≤ 90 then (b.toNat : Int) + 32 else b.toNat := by
  have := byte_all (p := fun b => decide (((Lib.lowerB b).toNat : Int) = if 65 ≤ (b.toNat : Int) ∧ (b.toNat : Int) ≤ 90 then (b.toNat : Int) + 32 else b.toNat)) (by decide) b
  exact of_decide_eq_true this
structure LtI (w : World) (s : ByteArray) (F : UInt8 → UInt8) (i : Value) (k : Nat) (out : List UInt8) (v : Value) (wr : World) : Prop where
  le : k ≤ s.size
  i : i = .int .i64 k
  go : s.data.toList.map F = out ++ (s.data.toList.drop k).map F
  len : out.length ≤ k
  own : wr.ownsRow w.heap.size 5 1 v out.length (byteL out)
  below : Below w.heap.size w wr
set_option maxRecDepth 100000 in
set_option maxHeartbeats 2000000 in
theorem r7_lettered_up (s : ByteArray) (w : World) (hs : s.size ≤ 256) :
    Calls Tryz.prog 105 #[.string s, .bool true] w fun e w' => e = .returned (.string ⟨(s.data.toList.map Lib.upperB).toArray⟩) ∧ Below w.heap.size w w' := by
  obtain ⟨F, hFF⟩ : ∃ F : UInt8 → UInt8, F = Lib.upperB := ⟨_, rfl⟩
  rw [← hFF]
  have HL : Hid (∀ b : UInt8, ((F b).toNat : Int) = if 97 ≤ (b.toNat : Int) ∧ (b.toNat : Int) ≤ 122 then (b.toNat : Int) - 32 else b.toNat) := by rw [hFF]; exact upper_nat
  clear hFF
  obtain ⟨i1, hi1, hz1, hsz1, hby1⟩ := zero_byte
  go_enter Tryz.func105, Tryz.ntmps105
  go_wp2
  go_loopw [5, 6] (fun v i wr => ∃ k out, LtI w s F i k out v wr) (fun _ i _ => s.size - (intOf i).toNat)
  case atStart => exact ⟨0, [], Nat.zero_le _, rfl, rfl, by simp, World.ownsRow_nil _ _ _ _, Below.refl _ _⟩
  case round =>
    obtain ⟨k, out, hk, rfl, hgo, hlen, hown, hbk⟩ := hrel
    obtain ⟨aN, lN, cN, rfl⟩ := own_slice hown
    obtain rfl := own_len hown
    have sw := hbk.size
    by_cases hlt : k < s.size
    · have hd := drop_cons s k hlt
      rw [hd] at hgo
      obtain ⟨c, hc⟩ : ∃ c, c = s[k] := ⟨_, rfl⟩
      rw [← hc, List.map_cons] at hgo
      have hgo2 : s.data.toList.map F = (out ++ [F c]) ++ (s.data.toList.drop (k + 1)).map F := by rw [hgo]; simp
      have hcn : (s[k].toNat : Int) = (c.toNat : Int) := by rw [hc]
      have hF0 := HL.out c
      have HG := Lib.hid hgo2
      have HBK := Lib.hid hbk
      clear hgo hgo2 hd hc hbk
      by_cases h1 : 97 ≤ (c.toNat : Int)
      · by_cases h2 : (c.toNat : Int) ≤ 122
        · rw [if_pos ⟨h1, h2⟩] at hF0
          have HF := Lib.hid hF0
          clear hF0
          go_wp2_with (first
            | (at_builtin
               refine wpList_append_lies _ rfl _ _ 153 rfl w.heap.size 5 i1 _ 1 1 Tryz.underlying153 hi1 hz1 hsz1 hby1 rfl (by decide) _ out.length _ rfl (hown.alloc _) ⟨wr.heap.size, 0, none⟩ 1 1 [.int .u8 ((c.toNat : Int) - 32)] rfl rfl (World.news_of_block (heap_alloc_new _ _)) (u8_one _) (by decide) (by unfold maxLen; omega) (by omega) (by simp only [sz_alloc]; omega) _ rfl ?_
               intro gx capx w4 hown4 hgrow4 hat4 hlt4
               have hbk4 := below_grownBy (HBK.out.alloc (by omega) _) hgrow4 (hown.alloc _) (by simp only [sz_alloc]; omega)
               have HH4 := Lib.hid (And.intro hown4 hbk4)
               clear hown4 hbk4 hgrow4 hat4)
            | fail)
          go_roundw
          case rel =>
            refine ⟨k + 1, out ++ [F c], by omega, by go_num, HG.out, by simp; omega, ?_, HH4.out.2⟩
            rw [byteL_app, HF.out]
            have e : (out ++ [F c]).length = out.length + 1 := by simp
            rw [e]
            exact HH4.out.1
          case measure => simp [intOf]; omega
        · rw [if_neg (fun h => h2 h.2)] at hF0
          have HF := Lib.hid hF0
          clear hF0
          go_wp2_with (first
            | (at_builtin
               refine wpList_append_lies _ rfl _ _ 153 rfl w.heap.size 5 i1 _ 1 1 Tryz.underlying153 hi1 hz1 hsz1 hby1 rfl (by decide) _ out.length _ rfl (hown.alloc _) ⟨wr.heap.size, 0, none⟩ 1 1 [.int .u8 (c.toNat)] rfl rfl (World.news_of_block (heap_alloc_new _ _)) (u8_one _) (by decide) (by unfold maxLen; omega) (by omega) (by simp only [sz_alloc]; omega) _ rfl ?_
               intro gx capx w4 hown4 hgrow4 hat4 hlt4
               have hbk4 := below_grownBy (HBK.out.alloc (by omega) _) hgrow4 (hown.alloc _) (by simp only [sz_alloc]; omega)
               have HH4 := Lib.hid (And.intro hown4 hbk4)
               clear hown4 hbk4 hgrow4 hat4)
            | fail)
          go_roundw
          case rel =>
            refine ⟨k + 1, out ++ [F c], by omega, by go_num, HG.out, by simp; omega, ?_, HH4.out.2⟩
            rw [byteL_app, HF.out]
            have e : (out ++ [F c]).length = out.length + 1 := by simp
            rw [e]
            exact HH4.out.1
          case measure => simp [intOf]; omega
      · rw [if_neg (fun h => h1 h.1)] at hF0
        have HF := Lib.hid hF0
        clear hF0
        go_wp2_with (first
          | (at_builtin
             refine wpList_append_lies _ rfl _ _ 153 rfl w.heap.size 5 i1 _ 1 1 Tryz.underlying153 hi1 hz1 hsz1 hby1 rfl (by decide) _ out.length _ rfl (hown.alloc _) ⟨wr.heap.size, 0, none⟩ 1 1 [.int .u8 (c.toNat)] rfl rfl (World.news_of_block (heap_alloc_new _ _)) (u8_one _) (by decide) (by unfold maxLen; omega) (by omega) (by simp only [sz_alloc]; omega) _ rfl ?_
             intro gx capx w4 hown4 hgrow4 hat4 hlt4
             have hbk4 := below_grownBy (HBK.out.alloc (by omega) _) hgrow4 (hown.alloc _) (by simp only [sz_alloc]; omega)
             have HH4 := Lib.hid (And.intro hown4 hbk4)
             clear hown4 hbk4 hgrow4 hat4)
          | fail)
        go_roundw
        case rel =>
          refine ⟨k + 1, out ++ [F c], by omega, by go_num, HG.out, by simp; omega, ?_, HH4.out.2⟩
          rw [byteL_app, HF.out]
          have e : (out ++ [F c]).length = out.length + 1 := by simp
          rw [e]
          exact HH4.out.1
        case measure => simp [intOf]; omega
    · have HV : Hid (s.data.toList.map F = out) := by
        unfold Hid
        rw [hgo, List.drop_of_length_le (by simp; omega)]
        simp
      have HB := Lib.hid hbk
      have hcv := run_conv_own _ _ out w.heap.size hown
      clear hgo hbk hown
      go_wp2
      go_ret
      exact ⟨by rw [HV.out]; rfl, HB.out⟩
set_option maxRecDepth 100000 in
set_option maxHeartbeats 2000000 in
theorem r7_lettered_lo (s : ByteArray) (w : World) (hs : s.size ≤ 256) :
    Calls Tryz.prog 105 #[.string s, .bool false] w fun e w' => e = .returned (.string ⟨(s.data.toList.map Lib.lowerB).toArray⟩) ∧ Below w.heap.size w w' := by
  obtain ⟨F, hFF⟩ : ∃ F : UInt8 → UInt8, F = Lib.lowerB := ⟨_, rfl⟩
  rw [← hFF]
  have HL : Hid (∀ b : UInt8, ((F b).toNat : Int) = if 65 ≤ (b.toNat : Int) ∧ (b.toNat : Int) ≤ 90 then (b.toNat : Int) + 32 else b.toNat) := by rw [hFF]; exact lower_nat
  clear hFF
  obtain ⟨i1, hi1, hz1, hsz1, hby1⟩ := zero_byte
  go_enter Tryz.func105, Tryz.ntmps105
  go_wp2
  go_loopw [5, 6] (fun v i wr => ∃ k out, LtI w s F i k out v wr) (fun _ i _ => s.size - (intOf i).toNat)
  case atStart => exact ⟨0, [], Nat.zero_le _, rfl, rfl, by simp, World.ownsRow_nil _ _ _ _, Below.refl _ _⟩
  case round =>
    obtain ⟨k, out, hk, rfl, hgo, hlen, hown, hbk⟩ := hrel
    obtain ⟨aN, lN, cN, rfl⟩ := own_slice hown
    obtain rfl := own_len hown
    have sw := hbk.size
    by_cases hlt : k < s.size
    · have hd := drop_cons s k hlt
      rw [hd] at hgo
      obtain ⟨c, hc⟩ : ∃ c, c = s[k] := ⟨_, rfl⟩
      rw [← hc, List.map_cons] at hgo
      have hgo2 : s.data.toList.map F = (out ++ [F c]) ++ (s.data.toList.drop (k + 1)).map F := by rw [hgo]; simp
      have hcn : (s[k].toNat : Int) = (c.toNat : Int) := by rw [hc]
      have hF0 := HL.out c
      have HG := Lib.hid hgo2
      have HBK := Lib.hid hbk
      clear hgo hgo2 hd hc hbk
      by_cases h1 : 65 ≤ (c.toNat : Int)
      · by_cases h2 : (c.toNat : Int) ≤ 90
        · rw [if_pos ⟨h1, h2⟩] at hF0
          have HF := Lib.hid hF0
          clear hF0
          go_wp2_with (first
            | (at_builtin
               refine wpList_append_lies _ rfl _ _ 153 rfl w.heap.size 5 i1 _ 1 1 Tryz.underlying153 hi1 hz1 hsz1 hby1 rfl (by decide) _ out.length _ rfl (hown.alloc _) ⟨wr.heap.size, 0, none⟩ 1 1 [.int .u8 ((c.toNat : Int) + 32)] rfl rfl (World.news_of_block (heap_alloc_new _ _)) (u8_one _) (by decide) (by unfold maxLen; omega) (by omega) (by simp only [sz_alloc]; omega) _ rfl ?_
               intro gx capx w4 hown4 hgrow4 hat4 hlt4
               have hbk4 := below_grownBy (HBK.out.alloc (by omega) _) hgrow4 (hown.alloc _) (by simp only [sz_alloc]; omega)
               have HH4 := Lib.hid (And.intro hown4 hbk4)
               clear hown4 hbk4 hgrow4 hat4)
            | fail)
          go_roundw
          case rel =>
            refine ⟨k + 1, out ++ [F c], by omega, by go_num, HG.out, by simp; omega, ?_, HH4.out.2⟩
            rw [byteL_app, HF.out]
            have e : (out ++ [F c]).length = out.length + 1 := by simp
            rw [e]
            exact HH4.out.1
          case measure => simp [intOf]; omega
        · rw [if_neg (fun h => h2 h.2)] at hF0
          have HF := Lib.hid hF0
          clear hF0
          go_wp2_with (first
            | (at_builtin
               refine wpList_append_lies _ rfl _ _ 153 rfl w.heap.size 5 i1 _ 1 1 Tryz.underlying153 hi1 hz1 hsz1 hby1 rfl (by decide) _ out.length _ rfl (hown.alloc _) ⟨wr.heap.size, 0, none⟩ 1 1 [.int .u8 (c.toNat)] rfl rfl (World.news_of_block (heap_alloc_new _ _)) (u8_one _) (by decide) (by unfold maxLen; omega) (by omega) (by simp only [sz_alloc]; omega) _ rfl ?_
               intro gx capx w4 hown4 hgrow4 hat4 hlt4
               have hbk4 := below_grownBy (HBK.out.alloc (by omega) _) hgrow4 (hown.alloc _) (by simp only [sz_alloc]; omega)
               have HH4 := Lib.hid (And.intro hown4 hbk4)
               clear hown4 hbk4 hgrow4 hat4)
            | fail)
          go_roundw
          case rel =>
            refine ⟨k + 1, out ++ [F c], by omega, by go_num, HG.out, by simp; omega, ?_, HH4.out.2⟩
            rw [byteL_app, HF.out]
            have e : (out ++ [F c]).length = out.length + 1 := by simp
            rw [e]
            exact HH4.out.1
          case measure => simp [intOf]; omega
      · rw [if_neg (fun h => h1 h.1)] at hF0
        have HF := Lib.hid hF0
        clear hF0
        go_wp2_with (first
          | (at_builtin
             refine wpList_append_lies _ rfl _ _ 153 rfl w.heap.size 5 i1 _ 1 1 Tryz.underlying153 hi1 hz1 hsz1 hby1 rfl (by decide) _ out.length _ rfl (hown.alloc _) ⟨wr.heap.size, 0, none⟩ 1 1 [.int .u8 (c.toNat)] rfl rfl (World.news_of_block (heap_alloc_new _ _)) (u8_one _) (by decide) (by unfold maxLen; omega) (by omega) (by simp only [sz_alloc]; omega) _ rfl ?_
             intro gx capx w4 hown4 hgrow4 hat4 hlt4
             have hbk4 := below_grownBy (HBK.out.alloc (by omega) _) hgrow4 (hown.alloc _) (by simp only [sz_alloc]; omega)
             have HH4 := Lib.hid (And.intro hown4 hbk4)
             clear hown4 hbk4 hgrow4 hat4)
          | fail)
        go_roundw
        case rel =>
          refine ⟨k + 1, out ++ [F c], by omega, by go_num, HG.out, by simp; omega, ?_, HH4.out.2⟩
          rw [byteL_app, HF.out]
          have e : (out ++ [F c]).length = out.length + 1 := by simp
          rw [e]
          exact HH4.out.1
        case measure => simp [intOf]; omega
    · have HV : Hid (s.data.toList.map F = out) := by
        unfold Hid
        rw [hgo, List.drop_of_length_le (by simp; omega)]
        simp
      have HB := Lib.hid hbk
      have hcv := run_conv_own _ _ out w.heap.size hown
      clear hgo hbk hown
      go_wp2
      go_ret
      exact ⟨by rw [HV.out]; rfl, HB.out⟩
end Go.Proofs.YtglngfaagjgpjaaGreatDoor
namespace Go.Proofs.YtglngfaagjgpjaaGreatDoor
open Go Go.RowKit
set_option linter.unusedSimpArgs false
set_option linter.unusedVariables false
theorem zero_int : ∃ i, Tryz.prog.info? 3 = some i ∧ i.zero = some (.int .i64 0) ∧ i.size = 1 ∧ i.bytes = 8 := by
  have h : (Tryz.prog.info? 3).map (fun i => (i.zero, i.size, i.bytes)) = some (some (.int .i64 0), 1, 8) := by kernel_rfl
  cases hi : Tryz.prog.info? 3 with
  | none => rw [hi] at h; cases h
  | some i => rw [hi] at h; simp only [Option.map_some, Option.some.injEq, Prod.mk.injEq] at h; exact ⟨i, rfl, h.1, h.2.1, h.2.2⟩
theorem int_one (z : Int) : ∀ u ∈ [Value.int .i64 z], u.oneCell' = true := by
  intro u hu
  simp only [List.mem_singleton] at hu
  subst hu; rfl
def whV (x : Nm) : Value := .int .i64 (wholeN x.n x.d)
/-- Each is whole, and at least so much. -/
def cntAll : List Nm → List Int → Bool
  | x :: xs, l :: ls => cntB x l && cntAll xs ls
  | [], _ => true
  | _ :: _, [] => true
structure CtI (w : World) (ns : List Nm) (ls : List Int) (i : Value) (k : Nat) (s : Value) (wr : World) : Prop where
  le : k ≤ ns.length
  i : i = .int .i64 k
  go : cntAll ns ls = cntAll (ns.drop k) (ls.drop k)
  own : wr.ownsRow w.heap.size 3 1 s k ((ns.take k).map whV)
  below : Below w.heap.size w wr
set_option maxRecDepth 100000 in
set_option maxHeartbeats 2000000 in
theorem r7_counts (ns : List Nm) (ls : List Int) (a : Option Addr) (n c h m c' : Nat) (w : World) (hn : ns.length = n) (hle : n ≤ 1000) (hm : ls.length = m) (hnm : n ≤ m) (hmc : m ≤ c') (hin : ∀ x ∈ ns, I64 x.n ∧ I64 x.d) (hr : NmAt w a ns) (hh : h < w.heap.size) (hls : ∀ k l, ls[k]? = some l → w.cell? ⟨h, k, none⟩ = some (.int .i64 l)) :
    Calls Tryz.prog 103 #[.slice a n c, .slice (some ⟨h, 0, none⟩) m c'] w fun e w' => ∃ s, e = .returned (.tuple #[s, .bool (cntAll ns ls)]) ∧ Below w.heap.size w w' ∧ (cntAll ns ls = true → w'.ownsRow w.heap.size 3 1 s n (ns.map whV)) := by
  have HI := Lib.hid hin
  have HN := Lib.hid hn
  have HM := Lib.hid hm
  have HR := Lib.hid hr
  have HLS := Lib.hid hls
  clear hin hn hr hls hm
  obtain ⟨i1, hi1, hz1, hsz1, hby1⟩ := zero_int
  go_enter Tryz.func103, Tryz.ntmps103
  go_wp2
  go_loopw [6, 7] (fun s i wr => ∃ k, CtI w ns ls i k s wr) (fun _ i _ => n - (intOf i).toNat)
  case atStart => exact ⟨0, Nat.zero_le _, rfl, rfl, World.ownsRow_nil _ _ _ _, Below.refl _ _⟩
  case round =>
    obtain ⟨k, hk, rfl, hgo, hown, hbk⟩ := hrel
    obtain ⟨aN, lN, cN, rfl⟩ := own_slice hown
    rw [HN.out] at hk
    have sw := hbk.size
    by_cases hlt : k < n
    · have hkn : k < ns.length := by rw [HN.out]; exact hlt
      have hkl : k < ls.length := by rw [HM.out]; omega
      obtain ⟨x, hx⟩ : ∃ x, ns[k]? = some x := ⟨_, List.getElem?_eq_getElem hkn⟩
      obtain ⟨l, hl⟩ : ∃ l, ls[k]? = some l := ⟨_, List.getElem?_eq_getElem hkl⟩
      obtain ⟨g, off, rfl, hgw, hrow⟩ := HR.out (by rw [HN.out]; omega)
      have L := lcc hbk g hgw
      have c0 := (L _).trans (hrow k x hx).1
      have c1 := (L _).trans (hrow k x hx).2
      have y0 := (lcc hbk h hh k).trans (HLS.out k l hl)
      have hix := HI.out x (List.mem_of_getElem? hx)
      have hd : ns.drop k = x :: ns.drop (k + 1) := by
        rw [List.drop_eq_getElem_cons hkn, show ns[k] = x from Option.some.inj ((List.getElem?_eq_getElem hkn).symm.trans hx)]
      have hdl : ls.drop k = l :: ls.drop (k + 1) := by
        rw [List.drop_eq_getElem_cons hkl, show ls[k] = l from Option.some.inj ((List.getElem?_eq_getElem hkl).symm.trans hl)]
      have hg1 : cntAll ns ls = (cntB x l && cntAll (ns.drop (k + 1)) (ls.drop (k + 1))) := by rw [hgo, hd, hdl]; rfl
      have ht : (ns.take (k + 1)).map whV = (ns.take k).map whV ++ [.int .i64 (wholeN x.n x.d)] := by
        rw [List.take_add_one, hx]; simp [whV]
      have HG := Lib.hid (And.intro hg1 ht)
      have HW := Lib.hid fun wx => r1_Whole x.n x.d wx hix.1 hix.2
      have hB : cntB x l = (wholeB x.n x.d && decide (l ≤ wholeN x.n x.d)) := rfl
      generalize wholeN x.n x.d = K at *
      have HHB := Lib.hid (And.intro hown hbk)
      clear hgo hd hdl hg1 ht hrow L hix hl hx hown hbk
      cases hw : wholeB x.n x.d
      · rw [hw] at HW hB
        have HV : Hid (cntAll ns ls = false) := by unfold Hid; rw [HG.out.1, hB]; rfl
        clear HG hB hw
        go_wp2_with fail
        refine (HW.out _).mono ?_
        rintro e w2 ⟨rfl, hb2⟩
        go_wp2
        refine bodyPost_ret (v := .tuple #[.slice none 0 0, .bool false]) (by simp [results, Tryz.results103, go_sem]) rfl ⟨_, by rw [HV.out], HHB.out.2.trans (hb2.mono sw), fun h => ?_⟩
        rw [HV.out] at h; cases h
      · by_cases hlk : K < l
        · rw [hw, decide_eq_false (by omega)] at hB
          rw [hw] at HW
          have HV : Hid (cntAll ns ls = false) := by unfold Hid; rw [HG.out.1, hB]; rfl
          clear HG hB hw
          go_wp2_with fail
          refine (HW.out _).mono ?_
          rintro e w2 ⟨rfl, hb2⟩
          have y1 := (lcc hb2 h (by omega) k).trans y0
          go_wp2
          refine bodyPost_ret (v := .tuple #[.slice none 0 0, .bool false]) (by simp [results, Tryz.results103, go_sem]) rfl ⟨_, by rw [HV.out], HHB.out.2.trans (hb2.mono sw), fun h => ?_⟩
          rw [HV.out] at h; cases h
        · rw [hw, decide_eq_true (by omega)] at hB
          rw [hw] at HW
          have HV : Hid (cntAll ns ls = cntAll (ns.drop (k + 1)) (ls.drop (k + 1))) := by unfold Hid; rw [HG.out.1, hB]; rfl
          clear hB hw
          go_wp2_with fail
          refine (HW.out _).mono ?_
          rintro e w2 ⟨rfl, hb2⟩
          have y1 := (lcc hb2 h (by omega) k).trans y0
          have s2 := hb2.size
          have hown2 := own_below HHB.out.1 hb2
          have hbk2 := HHB.out.2.trans (hb2.mono sw)
          clear hb2 y0 c0 c1
          go_wp2_with (first
            | (at_builtin
               refine wpList_append_lies _ rfl _ _ 121 rfl w.heap.size 3 i1 _ 1 8 Tryz.underlying121 hi1 hz1 hsz1 hby1 rfl (by decide) _ k _ rfl (hown2.alloc _) ⟨w2.heap.size, 0, none⟩ 1 1 [.int .i64 K] rfl rfl (World.news_of_block (heap_alloc_new _ _)) (int_one _) (by decide) (by unfold maxLen; omega) (by omega) (by simp only [sz_alloc]; omega) _ rfl ?_
               intro gx capx w4 hown4 hgrow4 hat4 hlt4
               have hbk4 := below_grownBy (hbk2.alloc (by omega) _) hgrow4 (hown2.alloc _) (by simp only [sz_alloc]; omega)
               have HH4 := Lib.hid (And.intro hown4 hbk4)
               clear hown4 hbk4 hgrow4 hat4)
            | fail)
          go_roundw
          case rel =>
            refine ⟨k + 1, by rw [HN.out]; omega, by go_num, HV.out, ?_, HH4.out.2⟩
            rw [HG.out.2]
            exact HH4.out.1
          case measure => simp [intOf]; omega
    · have hkn : k = n := by omega
      have HV : Hid (cntAll ns ls = true) := by
        unfold Hid
        rw [hgo, List.drop_of_length_le (by rw [HN.out]; omega)]
        rfl
      have ht : ns.take k = ns := List.take_of_length_le (by rw [HN.out]; omega)
      rw [ht, hkn] at hown
      have HHB := Lib.hid (And.intro hown hbk)
      clear hgo ht hown hbk
      go_wp2
      refine bodyPost_ret (v := .tuple #[.slice aN lN cN, .bool true]) (by simp [results, Tryz.results103, go_sem]) rfl ⟨_, by rw [HV.out], HHB.out.2, fun _ => HHB.out.1⟩
end Go.Proofs.YtglngfaagjgpjaaGreatDoor
