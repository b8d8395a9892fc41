/- Plain laws: capitals, small letters, and texts without needless blanks; no program in sight. -/
import Derived.Test.YtodopbdngikpcaaGreatDoorBase
import Derived.Lib.Case
import Derived.Lib.Fields
import Derived.Lib.Join
namespace Go.Proofs.YtodopbdngikpcaaGreatDoor
open Go Go.RowKit Go.Lib

theorem byte_all {p : UInt8 → Bool} (h : ∀ n, n < 256 → p (UInt8.ofNat n) = true) (b : UInt8) : p b = true := by
  have := h b.toNat b.toNat_lt
  rwa [UInt8.ofNat_toNat] at this
theorem upper_lower (b : UInt8) : upperB (lowerB b) = upperB b := by
  have := byte_all (p := fun b => upperB (lowerB b) == upperB b) (by decide +kernel) b
  simpa using this
theorem lower_upper (b : UInt8) : lowerB (upperB b) = lowerB b := by
  have := byte_all (p := fun b => lowerB (upperB b) == lowerB b) (by decide +kernel) b
  simpa using this
theorem upper_upper (b : UInt8) : upperB (upperB b) = upperB b := by
  have := byte_all (p := fun b => upperB (upperB b) == upperB b) (by decide +kernel) b
  simpa using this
theorem okc_upper {b : UInt8} (h : okc b = true) : okc (upperB b) = true := by
  have := byte_all (p := fun b => !okc b || okc (upperB b)) (by decide +kernel) b
  simpa [h] using this
theorem okc_lower {b : UInt8} (h : okc b = true) : okc (lowerB b) = true := by
  have := byte_all (p := fun b => !okc b || okc (lowerB b)) (by decide +kernel) b
  simpa [h] using this
theorem okc_sp {b : UInt8} (h : okc b = true) : isSp b = (b == 32) := by
  have := byte_all (p := fun b => !okc b || (isSp b == (b == 32))) (by decide +kernel) b
  simpa [h] using this

def noSp (x : List UInt8) : Prop := ∀ b ∈ x, isSp b = false
def wordOk (x : List UInt8) : Prop := x ≠ [] ∧ noSp x
theorem noSp_snoc {x : List UInt8} {b : UInt8} (h : noSp x) (hb : isSp b = false) : noSp (x ++ [b]) := by
  intro c hc
  rcases List.mem_append.1 hc with hc | hc
  · exact h c hc
  · rw [List.mem_singleton] at hc; rw [hc]; exact hb
theorem fieldsGo_ok : ∀ (l cur : List UInt8), noSp cur → ∀ x ∈ fieldsGo cur l, wordOk x := by
  intro l
  induction l with
  | nil =>
    intro cur hc x hx
    cases cur with
    | nil => simp [fieldsGo] at hx
    | cons c r => simp [fieldsGo] at hx; rw [hx]; exact ⟨by simp, hc⟩
  | cons b l ih =>
    intro cur hc x hx
    cases hb : isSp b
    · rw [fieldsGo_more _ _ _ hb] at hx
      exact ih _ (noSp_snoc hc hb) x hx
    · cases cur with
      | nil => rw [fieldsGo_sp _ _ hb] at hx; exact ih _ (fun _ h => by cases h) x hx
      | cons c r =>
        rw [fieldsGo_end _ _ _ hb (by simp)] at hx
        rcases List.mem_cons.1 hx with rfl | hx
        · exact ⟨by simp, hc⟩
        · exact ih _ (fun _ h => by cases h) x hx
theorem fields_ok (s : List UInt8) : ∀ x ∈ fields s, wordOk x := fieldsGo_ok s [] (fun _ h => by cases h)
theorem fieldsGo_app : ∀ (y cur l : List UInt8), noSp y → fieldsGo cur (y ++ l) = fieldsGo (cur ++ y) l := by
  intro y
  induction y with
  | nil => intro cur l _; simp
  | cons b y ih =>
    intro cur l h
    rw [List.cons_append, fieldsGo_more _ _ _ (h b (by simp)), ih _ _ (fun c hc => h c (by simp [hc]))]
    simp
theorem joinTail_cons (sep y : List UInt8) (r : List (List UInt8)) : joinTail sep (y :: r) = sep ++ y ++ joinTail sep r := by simp [joinTail]
theorem fieldsGo_tail : ∀ (r : List (List UInt8)) (cur : List UInt8), cur ≠ [] → (∀ x ∈ r, wordOk x) → fieldsGo cur (joinTail [32] r) = cur :: r := by
  intro r
  induction r with
  | nil => intro cur hc _; cases cur with
    | nil => exact absurd rfl hc
    | cons c q => simp [joinTail, fieldsGo]
  | cons y r ih =>
    intro cur hc h
    have hy := h y (by simp)
    rw [joinTail_cons, List.append_assoc, List.singleton_append, fieldsGo_end _ _ _ (by decide) hc, fieldsGo_app _ _ _ hy.2, List.nil_append, ih y hy.1 (fun x hx => h x (by simp [hx]))]
/-- A text's words, one blank between. -/
def trimL (s : List UInt8) : List UInt8 := Lib.join (fields s) [32]
theorem fields_join {ws : List (List UInt8)} (h : ∀ x ∈ ws, wordOk x) : fields (Lib.join ws [32]) = ws := by
  cases ws with
  | nil => rfl
  | cons x r =>
    rw [join_cons]
    unfold fields
    have hx := h x (by simp)
    rw [fieldsGo_app _ _ _ hx.2, List.nil_append, fieldsGo_tail r x hx.1 (fun y hy => h y (by simp [hy]))]
theorem trim_trim (s : List UInt8) : trimL (trimL s) = trimL s := by
  unfold trimL
  rw [fields_join (fields_ok s)]

def solid (l : List UInt8) : List UInt8 := l.filter (fun b => !(b == 32))
theorem solid_word {x : List UInt8} (h : noSp x) : solid x = x := by
  unfold solid
  rw [List.filter_eq_self]
  intro b hb
  have := h b hb
  cases e : b == 32
  · rfl
  · rw [beq_iff_eq] at e; rw [e] at this; exact absurd this (by decide)
theorem solid_app (x y : List UInt8) : solid (x ++ y) = solid x ++ solid y := List.filter_append ..
theorem solid_tail : ∀ (r : List (List UInt8)), (∀ x ∈ r, wordOk x) → solid (joinTail [32] r) = r.flatten := by
  intro r
  induction r with
  | nil => intro _; rfl
  | cons y r ih =>
    intro h
    rw [joinTail_cons, solid_app, solid_app, ih (fun x hx => h x (by simp [hx])), solid_word (h y (by simp)).2]
    simp [solid]
theorem fieldsGo_flat : ∀ (l cur : List UInt8), (fieldsGo cur l).flatten = cur ++ l.filter (fun b => !isSp b) := by
  intro l
  induction l with
  | nil => intro cur; cases cur <;> simp [fieldsGo]
  | cons b l ih =>
    intro cur
    cases hb : isSp b
    · rw [fieldsGo_more _ _ _ hb, ih]; simp [hb]
    · cases cur with
      | nil => rw [fieldsGo_sp _ _ hb, ih]; simp [hb]
      | cons c r => rw [fieldsGo_end _ _ _ hb (by simp), List.flatten_cons, ih]; simp [hb]
theorem solid_trim {s : List UInt8} (h : s.all okc = true) : solid (trimL s) = solid s := by
  have e1 : (fields s).flatten = solid s := by
    unfold fields solid
    rw [fieldsGo_flat, List.nil_append]
    apply List.filter_congr
    intro b hb
    rw [okc_sp (List.all_eq_true.1 h b hb)]
  rw [← e1]
  unfold trimL
  have hok := fields_ok s
  cases he : fields s with
  | nil => rfl
  | cons x r =>
    rw [he] at hok
    rw [join_cons, solid_app, solid_word (hok x (by simp)).2, solid_tail r (fun y hy => hok y (by simp [hy])), List.flatten_cons]
theorem joined_gap : ∀ (r : List (List UInt8)) (x : List UInt8), wordOk x → (∀ y ∈ r, wordOk y) → ∀ a b, x ++ joinTail [32] r = a ++ 32 :: b → a ≠ [] ∧ b ≠ [] ∧ ∀ c, a.getLast? = some c → c ≠ 32 := by
  intro r
  induction r with
  | nil =>
    intro x hx _ a b e
    have : (32 : UInt8) ∈ x := by
      have : (32 : UInt8) ∈ x ++ joinTail [32] [] := by rw [e]; simp
      simpa [joinTail] using this
    exact absurd (hx.2 _ this) (by decide)
  | cons y r ih =>
    intro x hx hr a b e
    have hy := hr y (by simp)
    rw [joinTail_cons, List.append_assoc, List.singleton_append] at e
    have key : ∃ a', a = x ++ a' ∧ 32 :: (y ++ joinTail [32] r) = a' ++ 32 :: b := by
      rcases List.append_eq_append_iff.1 e with ⟨a', h1, h2⟩ | ⟨c', h1, h2⟩
      · exact ⟨a', h1, h2⟩
      · cases c' with
        | nil => exact ⟨[], by simpa using h1.symm, by simpa using h2.symm⟩
        | cons c c' =>
          have h3 : c = 32 := by simp at h2; exact h2.1.symm
          have : (32 : UInt8) ∈ x := by rw [h1, h3]; simp
          exact absurd (hx.2 _ this) (by decide)
    obtain ⟨a', rfl, e2⟩ := key
    cases a' with
    | nil =>
      simp only [List.nil_append, List.cons.injEq, true_and] at e2
      refine ⟨by simpa using hx.1, ?_, ?_⟩
      · intro hb
        rw [hb] at e2
        have := hy.1
        simp at e2
        exact this e2.1
      · intro c hc
        rw [List.append_nil] at hc
        intro h32
        have := hx.2 c (List.mem_of_getLast? hc)
        rw [h32] at this
        exact absurd this (by decide)
    | cons c a' =>
      simp only [List.cons_append, List.cons.injEq] at e2
      obtain ⟨rfl, e3⟩ := e2
      obtain ⟨g1, g2, g3⟩ := ih y hy (fun z hz => hr z (by simp [hz])) a' b e3
      refine ⟨by simp, g2, ?_⟩
      intro c hc
      apply g3 c
      obtain ⟨d, q, rfl⟩ := List.exists_cons_of_ne_nil g1
      rw [List.getLast?_append] at hc
      simpa using hc
theorem trim_gap {s a b : List UInt8} (e : trimL s = a ++ 32 :: b) : a ≠ [] ∧ b ≠ [] ∧ ∀ c, a.getLast? = some c → c ≠ 32 := by
  have hok := fields_ok s
  unfold trimL at e
  cases he : fields s with
  | nil => rw [he] at e; have := congrArg List.length e; simp [Lib.join, List.intercalate] at this
  | cons x r =>
    rw [he] at e hok
    rw [join_cons] at e
    exact joined_gap r x (hok x (by simp)) (fun y hy => hok y (by simp [hy])) a b e
theorem joinTail_all : ∀ (r : List (List UInt8)), (∀ x ∈ r, x.all okc = true) → (joinTail [32] r).all okc = true := by
  intro r
  induction r with
  | nil => intro _; rfl
  | cons y r ih =>
    intro h
    rw [joinTail_cons, List.all_append, List.all_append, ih (fun x hx => h x (by simp [hx])), h y (by simp)]
    decide
theorem fieldsGo_all : ∀ (l cur : List UInt8), cur.all okc = true → l.all okc = true → ∀ x ∈ fieldsGo cur l, x.all okc = true := by
  intro l
  induction l with
  | nil => intro cur hc _ x hx; cases cur with
    | nil => simp [fieldsGo] at hx
    | cons c r => simp [fieldsGo] at hx; rw [hx]; exact hc
  | cons b l ih =>
    intro cur hc hl x hx
    rw [List.all_cons, Bool.and_eq_true] at hl
    cases hb : isSp b
    · rw [fieldsGo_more _ _ _ hb] at hx
      exact ih _ (by rw [List.all_append, hc]; simp [hl.1]) hl.2 x hx
    · cases cur with
      | nil => rw [fieldsGo_sp _ _ hb] at hx; exact ih _ rfl hl.2 x hx
      | cons c r =>
        rw [fieldsGo_end _ _ _ hb (by simp)] at hx
        rcases List.mem_cons.1 hx with rfl | hx
        · exact hc
        · exact ih _ rfl hl.2 x hx
theorem trim_all {s : List UInt8} (h : s.all okc = true) : (trimL s).all okc = true := by
  unfold trimL
  have hf := fieldsGo_all s [] rfl h
  have hf' : ∀ x ∈ fields s, x.all okc = true := hf
  cases he : fields s with
  | nil => rfl
  | cons x r =>
    rw [he] at hf'
    rw [join_cons, List.all_append, hf' x (by simp), joinTail_all r (fun y hy => hf' y (by simp [hy]))]
    rfl
theorem trim_len (s : List UInt8) : (trimL s).length ≤ s.length := by
  have key : ∀ (l cur : List UInt8), (Lib.join (fieldsGo cur l) [32]).length ≤ cur.length + l.length := by
    intro l
    induction l with
    | nil => intro cur; cases cur <;> simp [fieldsGo, Lib.join, List.intercalate]
    | cons b l ih =>
      intro cur
      cases hb : isSp b
      · rw [fieldsGo_more _ _ _ hb]; have := ih (cur ++ [b]); simp at this ⊢; omega
      · cases cur with
        | nil => rw [fieldsGo_sp _ _ hb]; have := ih []; simp at this ⊢; omega
        | cons c r =>
          rw [fieldsGo_end _ _ _ hb (by simp), join_cons]
          have := ih []
          cases hf : fieldsGo [] l with
          | nil => simp [joinTail]
          | cons y q =>
            rw [hf, join_cons] at this
            rw [joinTail_cons]
            simp at this ⊢
            omega
  have := key s []
  show (Lib.join (fieldsGo [] s) [32]).length ≤ s.length
  simpa using this
end Go.Proofs.YtodopbdngikpcaaGreatDoor
