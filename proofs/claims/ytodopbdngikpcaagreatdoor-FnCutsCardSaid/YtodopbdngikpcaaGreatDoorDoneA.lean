/- funcs.ofNumbers and funcs.ofTexts over the rows that take answers: what they answer, at every function's number. -/
import Derived.Test.YtodopbdngikpcaaGreatDoorOfN
import Derived.Test.YtodopbdngikpcaaGreatDoorOfT
import Derived.Test.YtodopbdngikpcaaGreatDoorTakeA
namespace Go.Proofs.YtodopbdngikpcaaGreatDoor
open Go Go.RowKit
set_option linter.unusedSimpArgs false
set_option linter.unusedVariables false

theorem own_form {w : World} {B e z n : Nat} {v : Value} {xs : List Value} (h : w.ownsRow B e z v n xs) (hn : 0 < n) : ∃ g cap, v = .slice (some ⟨g, 0, none⟩) n cap ∧ B ≤ g ∧ g < w.heap.size ∧ n ≤ cap := by
  rcases h.2 with ⟨_, h0⟩ | ⟨g, cap, cur, hv, hb, hg, hc, _⟩
  · omega
  · exact ⟨g, cap, hv, hb, lt_of_block hg, hc⟩
theorem flat2_at : ∀ (ns : List Nm) (k j : Nat) (hk : k < ns.length), j < 2 → (ns.flatMap cells2)[k * 2 + j]? = (cells2 ns[k])[j]?
  | [], k, j, hk, _ => by simp at hk
  | x :: ns, 0, j, _, hj => by
    rw [List.flatMap_cons, Nat.zero_mul, Nat.zero_add]
    rw [List.getElem?_append_left (by simp [cells2]; omega)]
    rfl
  | x :: ns, k + 1, j, hk, hj => by
    rw [List.flatMap_cons, List.getElem?_append_right (by simp [cells2]; omega)]
    have e : (k + 1) * 2 + j - (cells2 x).length = k * 2 + j := by simp [cells2]; omega
    rw [e, flat2_at ns k j (by simpa using hk) hj]
    rfl
theorem nmAt_own {w : World} {B g cap : Nat} {ns : List Nm} (h : w.ownsRow B 24 2 (.slice (some ⟨g, 0, none⟩) ns.length cap) ns.length (ns.flatMap cells2)) (hg : g < w.heap.size) : NmAt w (some ⟨g, 0, none⟩) ns := by
  intro _
  refine ⟨g, 0, rfl, hg, fun k x hx => ?_⟩
  obtain ⟨hk, he⟩ := List.getElem?_eq_some_iff.1 hx
  have a0 := flat2_at ns k 0 hk (by decide)
  have a1 := flat2_at ns k 1 hk (by decide)
  rw [he] at a0 a1
  constructor
  · rw [Nat.zero_add, ← Nat.add_zero (k * 2), h.cellAt (k * 2 + 0) (by omega), a0]; rfl
  · rw [Nat.zero_add, h.cellAt (k * 2 + 1) (by omega), a1]; rfl
theorem tx_own {w : World} {B g cap : Nat} {ts : List ByteArray} (h : w.ownsRow B 9 1 (.slice (some ⟨g, 0, none⟩) ts.length cap) ts.length (ts.map Value.string)) {k : Nat} {t : ByteArray} (ht : ts[k]? = some t) : w.cell? ⟨g, k, none⟩ = some (.string t) := by
  obtain ⟨hk, he⟩ := List.getElem?_eq_some_iff.1 ht
  rw [h.cellAt k (by omega), List.getElem?_map, ht]
  rfl

def ofNumbersP (id : Int) (ns : List Nm) : Vl :=
  if id = 40 then numF (absN (nmAt ns 0).n (nmAt ns 0).d).n (absN (nmAt ns 0).n (nmAt ns 0).d).d
  else if id = 41 then wholeF (cmpN (nmAt ns 0).n (nmAt ns 0).d 0 1)
  else if id = 42 then numF (floorN (nmAt ns 0).n (nmAt ns 0).d).n (floorN (nmAt ns 0).n (nmAt ns 0).d).d
  else if id = 43 then (if wholeB (nmAt ns 1).n (nmAt ns 1).d then toldB (roundN (nmAt ns 0).n (nmAt ns 0).d (wholeN (nmAt ns 1).n (nmAt ns 1).d)) else faultF 8)
  else if id = 44 ∨ id = 45 then (if (nmAt ns 1).n = 0 then faultF 1 else if id = 45 then quotV (nmAt ns 0).n (nmAt ns 0).d (nmAt ns 1).n (nmAt ns 1).d else toldB (modN (nmAt ns 0).n (nmAt ns 0).d (nmAt ns 1).n (nmAt ns 1).d))
  else numF (nmAt ns 0).n (nmAt ns 0).d
theorem right_i64 {n d : Int} (h : rightN n d = true) : I64 n ∧ I64 d := by
  have := rightN_iff.1 h
  exact ⟨⟨by omega, by omega⟩, ⟨by omega, by omega⟩⟩
theorem funcs_ofNumbers (id : Int) (ns : List Nm) (sN : Value) (B : Nat) (w : World) (ho : w.ownsRow B 24 2 sN ns.length (ns.flatMap cells2)) (h1 : 1 ≤ ns.length) (h2 : id = 43 ∨ id = 44 ∨ id = 45 → 2 ≤ ns.length) (hr : ∀ x ∈ ns, rightN x.n x.d = true) :
    Calls Tryz.prog 41 #[.int .i64 id, sN] w fun e w' => e = .returned (.agg #[.int .i64 (ofNumbersP id ns).k, .int .i64 (ofNumbersP id ns).n, .int .i64 (ofNumbersP id ns).d, .string (ofNumbersP id ns).t, .bool (ofNumbersP id ns).b, .int .i64 (ofNumbersP id ns).f]) ∧ Below w.heap.size w w' := by
  obtain ⟨g, cap, rfl, _, hg, hc⟩ := own_form ho (by omega)
  obtain ⟨g', off', e', _, hcell⟩ := nmAt_own ho hg (by omega)
  obtain ⟨rfl, rfl⟩ : g = g' ∧ 0 = off' := by simpa using e'
  clear e' ho
  match ns, h1, h2, hr, hc, hcell with
  | [], h1, _, _, _, _ => simp at h1
  | [x], h1, h2, hr, hc, hcell =>
    obtain ⟨c0, c1⟩ := hcell 0 x rfl
    have hx := hr x (by simp)
    have hi := right_i64 hx
    have h3 : ¬ (id = 43 ∨ id = 44 ∨ id = 45) := fun h => by have := h2 h; simp at this
    unfold ofNumbersP
    show Calls _ _ _ _ _
    have e0 : nmAt [x] 0 = x := rfl
    rw [e0]
    by_cases a0 : id = 40
    · subst a0; rw [if_pos rfl]; exact ofNumbers40 g _ cap x w (by simp) hc hg c0 c1 hi
    by_cases a1 : id = 41
    · subst a1; rw [if_neg (by decide), if_pos rfl]; exact ofNumbers41 g _ cap x w (by simp) hc hg c0 c1 hi
    by_cases a2 : id = 42
    · subst a2; rw [if_neg (by decide), if_neg (by decide), if_pos rfl]; exact ofNumbers42 g _ cap x w (by simp) hc hg c0 c1 hi
    rw [if_neg a0, if_neg a1, if_neg a2, if_neg (fun h => h3 (.inl h)), if_neg (fun h => h3 (.inr h))]
    exact ofNumbers_else id g _ cap x w a0 a1 a2 (fun h => h3 (.inl h)) (fun h => h3 (.inr (.inl h))) (fun h => h3 (.inr (.inr h))) (by simp) hc hg c0 c1 hi
  | x :: y :: ns, h1, h2, hr, hc, hcell =>
    obtain ⟨c0, c1⟩ := hcell 0 x rfl
    obtain ⟨c2, c3⟩ := hcell 1 y rfl
    have hx := hr x (by simp)
    have hi := right_i64 hx
    have hy := hr y (by simp)
    have hj := right_i64 hy
    unfold ofNumbersP
    have e0 : nmAt (x :: y :: ns) 0 = x := rfl
    have e1 : nmAt (x :: y :: ns) 1 = y := rfl
    rw [e0, e1]
    by_cases a0 : id = 40
    · subst a0; rw [if_pos rfl]; exact ofNumbers40 g _ cap x w (by simp) hc hg c0 c1 hi
    by_cases a1 : id = 41
    · subst a1; rw [if_neg (by decide), if_pos rfl]; exact ofNumbers41 g _ cap x w (by simp) hc hg c0 c1 hi
    by_cases a2 : id = 42
    · subst a2; rw [if_neg (by decide), if_neg (by decide), if_pos rfl]; exact ofNumbers42 g _ cap x w (by simp) hc hg c0 c1 hi
    by_cases a3 : id = 43
    · subst a3; rw [if_neg (by decide), if_neg (by decide), if_neg (by decide), if_pos rfl]; exact ofNumbers43 g _ cap x y w (by simp) hc hg c0 c1 c2 c3 hi hj
    by_cases a4 : id = 44
    · subst a4
      rw [if_neg (by decide), if_neg (by decide), if_neg (by decide), if_neg (by decide), if_pos (Or.inl rfl)]
      by_cases h0 : y.n = 0
      · rw [if_pos h0]; exact ofNumbers44_div g _ cap x y w (by simp) hc hg c0 c1 c2 c3 h0
      · rw [if_neg h0, if_neg (by decide)]; exact ofNumbers44 g _ cap x y w (by simp) hc hg c0 c1 c2 c3 hi hj h0
    by_cases a5 : id = 45
    · subst a5
      rw [if_neg (by decide), if_neg (by decide), if_neg (by decide), if_neg (by decide), if_pos (Or.inr rfl)]
      by_cases h0 : y.n = 0
      · rw [if_pos h0]; exact ofNumbers45_div g _ cap x y w (by simp) hc hg c0 c1 c2 c3 h0
      · rw [if_neg h0, if_pos rfl]; exact ofNumbers45 g _ cap x y w (by simp) hc hg c0 c1 c2 c3 hx hy h0
    rw [if_neg a0, if_neg a1, if_neg a2, if_neg a3, if_neg (by rintro (h | h); exact a4 h; exact a5 h)]
    exact ofNumbers_else id g _ cap x w a0 a1 a2 a3 a4 a5 (by simp) hc hg c0 c1 hi

def txAt (ts : List ByteArray) (i : Nat) : ByteArray := ts.getD i ⟨#[]⟩
def ofTextsP (id : Int) (s : TkS) : Vl :=
  if id = 48 then wholeF (txAt s.ts 0).size
  else if id = 54 then textF (upT (txAt s.ts 0))
  else if id = 55 then textF (loT (txAt s.ts 0))
  else if id = 56 then textF (trT (txAt s.ts 0))
  else if id = 53 then findV (txAt s.ts 0) (txAt s.ts 1)
  else pieceP id (txAt s.ts 0) s.ns
/-- What take has handed on fits the function. -/
structure TxFit (id : Int) (s : TkS) : Prop where
  one : 1 ≤ s.ts.length
  ok : id = 48 ∨ id = 54 ∨ id = 55 ∨ id = 56 ∨ (id = 53 ∧ 2 ≤ s.ts.length) ∨ ((id = 49 ∨ id = 50 ∨ id = 51 ∨ id = 52) ∧ 1 ≤ s.ns.length ∧ (id = 51 → 2 ≤ s.ns.length))
  plain : ∀ t ∈ s.ts, plainT t = true ∧ t.size ≤ 256
  nums : ∀ x ∈ s.ns, I64 x.n ∧ I64 x.d
theorem funcs_ofTexts (id : Int) (s : TkS) (sN sT : Value) (BN BT : Nat) (w : World) (hN : w.ownsRow BN 24 2 sN s.ns.length (s.ns.flatMap cells2)) (hT : w.ownsRow BT 9 1 sT s.ts.length (s.ts.map Value.string)) (hf : TxFit id s) (hL : Laid w) :
    Calls Tryz.prog 40 #[.int .i64 id, .agg #[sN, sT, .bool s.tr]] w fun e w' => e = .returned (.agg #[.int .i64 (ofTextsP id s).k, .int .i64 (ofTextsP id s).n, .int .i64 (ofTextsP id s).d, .string (ofTextsP id s).t, .bool (ofTextsP id s).b, .int .i64 (ofTextsP id s).f]) ∧ Below w.heap.size w w' := by
  obtain ⟨ns, ts, tr⟩ := s
  obtain ⟨h1, hok, hp, hn⟩ := hf
  simp only at h1 hok hp hn hN hT ⊢
  obtain ⟨aN, lN, cN, rfl⟩ := own_slice hN
  obtain ⟨gt, cap, rfl, _, hgt, hct⟩ := own_form hT (by omega)
  obtain ⟨t, ht⟩ : ∃ t, ts[0]? = some t := ⟨_, List.getElem?_eq_getElem (by omega)⟩
  have c0 := tx_own hT ht
  have e0 : txAt ts 0 = t := by unfold txAt; rw [List.getD_eq_getElem?_getD, ht]; rfl
  have hpt := hp t (List.mem_of_getElem? ht)
  unfold ofTextsP
  simp only [e0]
  rcases hok with rfl | rfl | rfl | rfl | ⟨rfl, h2⟩ | ⟨hid, hl1, hl2⟩
  · rw [if_pos rfl]; exact ofTexts48 t aN lN cN gt 0 _ cap tr w h1 hct hgt c0 hpt.2
  · rw [if_neg (by decide), if_pos rfl]; exact ofTexts54 t aN lN cN gt 0 _ cap tr w h1 hct hgt c0 hpt.1 hpt.2
  · rw [if_neg (by decide), if_neg (by decide), if_pos rfl]; exact ofTexts55 t aN lN cN gt 0 _ cap tr w h1 hct hgt c0 hpt.1 hpt.2
  · rw [if_neg (by decide), if_neg (by decide), if_neg (by decide), if_pos rfl]; exact ofTexts56 t aN lN cN gt 0 _ cap tr w h1 hct hgt c0 hpt.1 hpt.2 hL.sp
  · rw [if_neg (by decide), if_neg (by decide), if_neg (by decide), if_neg (by decide), if_pos rfl]
    obtain ⟨u, hu⟩ : ∃ u, ts[1]? = some u := ⟨_, List.getElem?_eq_getElem (by omega)⟩
    have c1 := tx_own hT hu
    have e1 : txAt ts 1 = u := by unfold txAt; rw [List.getD_eq_getElem?_getD, hu]; rfl
    rw [e1]
    exact ofTexts53 t u aN lN cN gt 0 _ cap tr w h2 hct hgt c0 c1 (hp u (List.mem_of_getElem? hu)).2 hL.mx
  · rw [if_neg (by omega), if_neg (by omega), if_neg (by omega), if_neg (by omega), if_neg (by omega)]
    obtain ⟨gn, capn, en, _, hgn, hcn⟩ := own_form hN (by omega)
    simp only [Value.slice.injEq] at en
    obtain ⟨rfl, rfl, rfl⟩ := en
    exact ofTexts_piece id t ns _ _ _ gt 0 _ cap tr w hid h1 hct hgt c0 hpt.2 rfl hl1 hl2 hcn hn (nmAt_own hN hgn)
end Go.Proofs.YtodopbdngikpcaaGreatDoor
