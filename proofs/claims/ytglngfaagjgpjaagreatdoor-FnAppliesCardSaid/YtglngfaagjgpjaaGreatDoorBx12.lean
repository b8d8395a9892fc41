/- funcs.ofNumbers and funcs.ofTexts over the rows that take answers: what they answer, at every function's number. Walks of package funcs: asked and shape at every id. Walks of package value: reckon at the power; Bin at the power and at the join, of any values that are no faults. -/
import Derived.Test.YtglngfaagjgpjaaGreatDoorBx7
import Derived.Test.YtglngfaagjgpjaaGreatDoorBx11
import Derived.Test.YtglngfaagjgpjaaGreatDoorTakeA
import Derived.Test.YtglngfaagjgpjaaGreatDoorBx5
import Derived.BigQuiet
import Derived.Test.YtglngfaagjgpjaaGreatDoorVX
import Derived.Test.YtglngfaagjgpjaaGreatDoorNumP
namespace Go.Proofs.YtglngfaagjgpjaaGreatDoor
open Go Go.RowKit
set_option linter.unusedSimpArgs false
set_option linter.unusedVariables false

theorem own_form {w : World} {B e z n : Nat} {v : Value} {xs : List Value} (h : w.ownsRow B e z v n xs) (hn : 0 < n) : ∃ g cap, v = .slice (some ⟨g, 0, none⟩) n cap ∧ B ≤ g ∧ g < w.heap.size ∧ n ≤ cap := by
  rcases h.2 with ⟨_, h0⟩ | ⟨g, cap, cur, hv, hb, hg, hc, _⟩
  · omega
  · exact ⟨g, cap, hv, hb, lt_of_block hg, hc⟩
theorem flat2_at : ∀ (ns : List Nm) (k j : Nat) (hk : k < ns.length), j < 2 → (ns.flatMap cells2)[k * 2 + j]? = (cells2 ns[k])[j]?
  | [], k, j, hk, _ => by simp at hk
  | x :: ns, 0, j, _, hj => by
    rw [List.flatMap_cons, Nat.zero_mul, Nat.zero_add]
    rw [List.getElem?_append_left (by simp [cells2]; omega)]
    rfl
  | x :: ns, k + 1, j, hk, hj => by
    rw [List.flatMap_cons, List.getElem?_append_right (by simp [cells2]; omega)]
    have e : (k + 1) * 2 + j - (cells2 x).length = k * 2 + j := by simp [cells2]; omega
    rw [e, flat2_at ns k j (by simpa using hk) hj]
    rfl
theorem nmAt_own {w : World} {B g cap : Nat} {ns : List Nm} (h : w.ownsRow B 24 2 (.slice (some ⟨g, 0, none⟩) ns.length cap) ns.length (ns.flatMap cells2)) (hg : g < w.heap.size) : NmAt w (some ⟨g, 0, none⟩) ns := by
  intro _
  refine ⟨g, 0, rfl, hg, fun k x hx => ?_⟩
  obtain ⟨hk, he⟩ := List.getElem?_eq_some_iff.1 hx
  have a0 := flat2_at ns k 0 hk (by decide)
  have a1 := flat2_at ns k 1 hk (by decide)
  rw [he] at a0 a1
  constructor
  · rw [Nat.zero_add, ← Nat.add_zero (k * 2), h.cellAt (k * 2 + 0) (by omega), a0]; rfl
  · rw [Nat.zero_add, h.cellAt (k * 2 + 1) (by omega), a1]; rfl
theorem tx_own {w : World} {B g cap : Nat} {ts : List ByteArray} (h : w.ownsRow B 9 1 (.slice (some ⟨g, 0, none⟩) ts.length cap) ts.length (ts.map Value.string)) {k : Nat} {t : ByteArray} (ht : ts[k]? = some t) : w.cell? ⟨g, k, none⟩ = some (.string t) := by
  obtain ⟨hk, he⟩ := List.getElem?_eq_some_iff.1 ht
  rw [h.cellAt k (by omega), List.getElem?_map, ht]
  rfl

def ofNumbersP (id : Int) (ns : List Nm) : Vl :=
  if id = 40 then numF (absN (nmAt ns 0).n (nmAt ns 0).d).n (absN (nmAt ns 0).n (nmAt ns 0).d).d
  else if id = 41 then wholeF (cmpN (nmAt ns 0).n (nmAt ns 0).d 0 1)
  else if id = 42 then numF (floorN (nmAt ns 0).n (nmAt ns 0).d).n (floorN (nmAt ns 0).n (nmAt ns 0).d).d
  else if id = 43 then (if wholeB (nmAt ns 1).n (nmAt ns 1).d then toldB (roundN (nmAt ns 0).n (nmAt ns 0).d (wholeN (nmAt ns 1).n (nmAt ns 1).d)) else faultF 8)
  else if id = 44 ∨ id = 45 then (if (nmAt ns 1).n = 0 then faultF 1 else if id = 45 then quotV (nmAt ns 0).n (nmAt ns 0).d (nmAt ns 1).n (nmAt ns 1).d else toldB (modN (nmAt ns 0).n (nmAt ns 0).d (nmAt ns 1).n (nmAt ns 1).d))
  else numF (nmAt ns 0).n (nmAt ns 0).d
theorem right_i64 {n d : Int} (h : rightN n d = true) : I64 n ∧ I64 d := by
  have := rightN_iff.1 h
  exact ⟨⟨by omega, by omega⟩, ⟨by omega, by omega⟩⟩
theorem funcs_ofNumbers (id : Int) (ns : List Nm) (sN : Value) (B : Nat) (w : World) (ho : w.ownsRow B 24 2 sN ns.length (ns.flatMap cells2)) (h1 : 1 ≤ ns.length) (h2 : id = 43 ∨ id = 44 ∨ id = 45 → 2 ≤ ns.length) (hr : ∀ x ∈ ns, rightN x.n x.d = true) :
    Calls Tryz.prog 36 #[.int .i64 id, sN] w fun e w' => e = .returned (.agg #[.int .i64 (ofNumbersP id ns).k, .int .i64 (ofNumbersP id ns).n, .int .i64 (ofNumbersP id ns).d, .string (ofNumbersP id ns).t, .bool (ofNumbersP id ns).b, .int .i64 (ofNumbersP id ns).f]) ∧ Below w.heap.size w w' := by
  obtain ⟨g, cap, rfl, _, hg, hc⟩ := own_form ho (by omega)
  obtain ⟨g', off', e', _, hcell⟩ := nmAt_own ho hg (by omega)
  obtain ⟨rfl, rfl⟩ : g = g' ∧ 0 = off' := by simpa using e'
  clear e' ho
  match ns, h1, h2, hr, hc, hcell with
  | [], h1, _, _, _, _ => simp at h1
  | [x], h1, h2, hr, hc, hcell =>
    obtain ⟨c0, c1⟩ := hcell 0 x rfl
    have hx := hr x (by simp)
    have hi := right_i64 hx
    have h3 : ¬ (id = 43 ∨ id = 44 ∨ id = 45) := fun h => by have := h2 h; simp at this
    unfold ofNumbersP
    show Calls _ _ _ _ _
    have e0 : nmAt [x] 0 = x := rfl
    rw [e0]
    by_cases a0 : id = 40
    · subst a0; rw [if_pos rfl]; exact ofNumbers40 g _ cap x w (by simp) hc hg c0 c1 hi
    by_cases a1 : id = 41
    · subst a1; rw [if_neg (by decide), if_pos rfl]; exact ofNumbers41 g _ cap x w (by simp) hc hg c0 c1 hi
    by_cases a2 : id = 42
    · subst a2; rw [if_neg (by decide), if_neg (by decide), if_pos rfl]; exact ofNumbers42 g _ cap x w (by simp) hc hg c0 c1 hi
    rw [if_neg a0, if_neg a1, if_neg a2, if_neg (fun h => h3 (.inl h)), if_neg (fun h => h3 (.inr h))]
    exact ofNumbers_else id g _ cap x w a0 a1 a2 (fun h => h3 (.inl h)) (fun h => h3 (.inr (.inl h))) (fun h => h3 (.inr (.inr h))) (by simp) hc hg c0 c1 hi
  | x :: y :: ns, h1, h2, hr, hc, hcell =>
    obtain ⟨c0, c1⟩ := hcell 0 x rfl
    obtain ⟨c2, c3⟩ := hcell 1 y rfl
    have hx := hr x (by simp)
    have hi := right_i64 hx
    have hy := hr y (by simp)
    have hj := right_i64 hy
    unfold ofNumbersP
    have e0 : nmAt (x :: y :: ns) 0 = x := rfl
    have e1 : nmAt (x :: y :: ns) 1 = y := rfl
    rw [e0, e1]
    by_cases a0 : id = 40
    · subst a0; rw [if_pos rfl]; exact ofNumbers40 g _ cap x w (by simp) hc hg c0 c1 hi
    by_cases a1 : id = 41
    · subst a1; rw [if_neg (by decide), if_pos rfl]; exact ofNumbers41 g _ cap x w (by simp) hc hg c0 c1 hi
    by_cases a2 : id = 42
    · subst a2; rw [if_neg (by decide), if_neg (by decide), if_pos rfl]; exact ofNumbers42 g _ cap x w (by simp) hc hg c0 c1 hi
    by_cases a3 : id = 43
    · subst a3; rw [if_neg (by decide), if_neg (by decide), if_neg (by decide), if_pos rfl]; exact ofNumbers43 g _ cap x y w (by simp) hc hg c0 c1 c2 c3 hi hj
    by_cases a4 : id = 44
    · subst a4
      rw [if_neg (by decide), if_neg (by decide), if_neg (by decide), if_neg (by decide), if_pos (Or.inl rfl)]
      by_cases h0 : y.n = 0
      · rw [if_pos h0]; exact ofNumbers44_div g _ cap x y w (by simp) hc hg c0 c1 c2 c3 h0
      · rw [if_neg h0, if_neg (by decide)]; exact ofNumbers44 g _ cap x y w (by simp) hc hg c0 c1 c2 c3 hi hj h0
    by_cases a5 : id = 45
    · subst a5
      rw [if_neg (by decide), if_neg (by decide), if_neg (by decide), if_neg (by decide), if_pos (Or.inr rfl)]
      by_cases h0 : y.n = 0
      · rw [if_pos h0]; exact ofNumbers45_div g _ cap x y w (by simp) hc hg c0 c1 c2 c3 h0
      · rw [if_neg h0, if_pos rfl]; exact ofNumbers45 g _ cap x y w (by simp) hc hg c0 c1 c2 c3 hx hy h0
    rw [if_neg a0, if_neg a1, if_neg a2, if_neg a3, if_neg (by rintro (h | h); exact a4 h; exact a5 h)]
    exact ofNumbers_else id g _ cap x w a0 a1 a2 a3 a4 a5 (by simp) hc hg c0 c1 hi

def txAt (ts : List ByteArray) (i : Nat) : ByteArray := ts.getD i ⟨#[]⟩
def ofTextsP (id : Int) (s : TkS) : Vl :=
  if id = 48 then wholeF (txAt s.ts 0).size
  else if id = 54 then textF (upT (txAt s.ts 0))
  else if id = 55 then textF (loT (txAt s.ts 0))
  else if id = 56 then textF (trT (txAt s.ts 0))
  else if id = 53 then findV (txAt s.ts 0) (txAt s.ts 1)
  else pieceP id (txAt s.ts 0) s.ns
/-- What take has handed on fits the function. -/
structure TxFit (id : Int) (s : TkS) : Prop where
  one : 1 ≤ s.ts.length
  ok : id = 48 ∨ id = 54 ∨ id = 55 ∨ id = 56 ∨ (id = 53 ∧ 2 ≤ s.ts.length) ∨ ((id = 49 ∨ id = 50 ∨ id = 51 ∨ id = 52) ∧ 1 ≤ s.ns.length ∧ (id = 51 → 2 ≤ s.ns.length))
  plain : ∀ t ∈ s.ts, plainT t = true ∧ t.size ≤ 256
  nums : ∀ x ∈ s.ns, I64 x.n ∧ I64 x.d
theorem funcs_ofTexts (id : Int) (s : TkS) (sN sT : Value) (BN BT : Nat) (w : World) (hN : w.ownsRow BN 24 2 sN s.ns.length (s.ns.flatMap cells2)) (hT : w.ownsRow BT 9 1 sT s.ts.length (s.ts.map Value.string)) (hf : TxFit id s) (hL : Laid w) :
    Calls Tryz.prog 35 #[.int .i64 id, .agg #[sN, sT, .bool s.tr]] w fun e w' => e = .returned (.agg #[.int .i64 (ofTextsP id s).k, .int .i64 (ofTextsP id s).n, .int .i64 (ofTextsP id s).d, .string (ofTextsP id s).t, .bool (ofTextsP id s).b, .int .i64 (ofTextsP id s).f]) ∧ Below w.heap.size w w' := by
  obtain ⟨ns, ts, tr⟩ := s
  obtain ⟨h1, hok, hp, hn⟩ := hf
  simp only at h1 hok hp hn hN hT ⊢
  obtain ⟨aN, lN, cN, rfl⟩ := own_slice hN
  obtain ⟨gt, cap, rfl, _, hgt, hct⟩ := own_form hT (by omega)
  obtain ⟨t, ht⟩ : ∃ t, ts[0]? = some t := ⟨_, List.getElem?_eq_getElem (by omega)⟩
  have c0 := tx_own hT ht
  have e0 : txAt ts 0 = t := by unfold txAt; rw [List.getD_eq_getElem?_getD, ht]; rfl
  have hpt := hp t (List.mem_of_getElem? ht)
  unfold ofTextsP
  simp only [e0]
  rcases hok with rfl | rfl | rfl | rfl | ⟨rfl, h2⟩ | ⟨hid, hl1, hl2⟩
  · rw [if_pos rfl]; exact ofTexts48 t aN lN cN gt 0 _ cap tr w h1 hct hgt c0 hpt.2
  · rw [if_neg (by decide), if_pos rfl]; exact ofTexts54 t aN lN cN gt 0 _ cap tr w h1 hct hgt c0 hpt.1 hpt.2
  · rw [if_neg (by decide), if_neg (by decide), if_pos rfl]; exact ofTexts55 t aN lN cN gt 0 _ cap tr w h1 hct hgt c0 hpt.1 hpt.2
  · rw [if_neg (by decide), if_neg (by decide), if_neg (by decide), if_pos rfl]; exact ofTexts56 t aN lN cN gt 0 _ cap tr w h1 hct hgt c0 hpt.1 hpt.2 hL.sp
  · rw [if_neg (by decide), if_neg (by decide), if_neg (by decide), if_neg (by decide), if_pos rfl]
    obtain ⟨u, hu⟩ : ∃ u, ts[1]? = some u := ⟨_, List.getElem?_eq_getElem (by omega)⟩
    have c1 := tx_own hT hu
    have e1 : txAt ts 1 = u := by unfold txAt; rw [List.getD_eq_getElem?_getD, hu]; rfl
    rw [e1]
    exact ofTexts53 t u aN lN cN gt 0 _ cap tr w h2 hct hgt c0 c1 (hp u (List.mem_of_getElem? hu)).2 hL.mx
  · rw [if_neg (by omega), if_neg (by omega), if_neg (by omega), if_neg (by omega), if_neg (by omega)]
    obtain ⟨gn, capn, en, _, hgn, hcn⟩ := own_form hN (by omega)
    simp only [Value.slice.injEq] at en
    obtain ⟨rfl, rfl, rfl⟩ := en
    exact ofTexts_piece id t ns _ _ _ gt 0 _ cap tr w hid h1 hct hgt c0 hpt.2 rfl hl1 hl2 hcn hn (nmAt_own hN hgn)
end Go.Proofs.YtglngfaagjgpjaaGreatDoor
namespace Go.Proofs.YtglngfaagjgpjaaGreatDoor
open Go Go.RowKit
set_option linter.unusedSimpArgs false
set_option linter.unusedVariables false

/-- Of the functions that ask for a kind, the kind. -/
def askK (id : Int) : Option Int := if id = 58 then some 1 else if id = 59 then some 2 else if id = 60 then some 0 else if id = 61 then some 4 else none
set_option maxHeartbeats 400000 in
theorem ask_58 (k n d : Int) (t : ByteArray) (b : Bool) (f : Int) (w : World) :
    Calls Tryz.prog 29 #[.int .i64 58, .agg #[.int .i64 k, .int .i64 n, .int .i64 d, .string t, .bool b, .int .i64 f]] w fun e w' => e = .returned (.tuple #[.bool (k == 1), .bool true]) ∧ Below w.heap.size w w' := by
  go_enter Tryz.func29, Tryz.ntmps29
  go_wp2
  go_ret2
  refine ⟨rfl, ?_⟩
  focus
    repeat with_reducible first | exact Below.refl _ _ | refine below_drewN ?_ _ | refine Below.drew ?_ | refine Below.setCell ?_ ?_ _ | refine Below.alloc ?_ ?_ _ | refine below_then ?_ ?_ (by with_reducible assumption)
    all_goals first | omega | (simp only [sA, sC, sD, sE]; omega) | (simp; done) | (simp; omega)
set_option maxHeartbeats 400000 in
theorem ask_59 (k n d : Int) (t : ByteArray) (b : Bool) (f : Int) (w : World) :
    Calls Tryz.prog 29 #[.int .i64 59, .agg #[.int .i64 k, .int .i64 n, .int .i64 d, .string t, .bool b, .int .i64 f]] w fun e w' => e = .returned (.tuple #[.bool (k == 2), .bool true]) ∧ Below w.heap.size w w' := by
  go_enter Tryz.func29, Tryz.ntmps29
  go_wp2
  go_ret2
  refine ⟨rfl, ?_⟩
  focus
    repeat with_reducible first | exact Below.refl _ _ | refine below_drewN ?_ _ | refine Below.drew ?_ | refine Below.setCell ?_ ?_ _ | refine Below.alloc ?_ ?_ _ | refine below_then ?_ ?_ (by with_reducible assumption)
    all_goals first | omega | (simp only [sA, sC, sD, sE]; omega) | (simp; done) | (simp; omega)
set_option maxHeartbeats 400000 in
theorem ask_60 (k n d : Int) (t : ByteArray) (b : Bool) (f : Int) (w : World) :
    Calls Tryz.prog 29 #[.int .i64 60, .agg #[.int .i64 k, .int .i64 n, .int .i64 d, .string t, .bool b, .int .i64 f]] w fun e w' => e = .returned (.tuple #[.bool (k == 0), .bool true]) ∧ Below w.heap.size w w' := by
  go_enter Tryz.func29, Tryz.ntmps29
  go_wp2
  go_ret2
  refine ⟨rfl, ?_⟩
  focus
    repeat with_reducible first | exact Below.refl _ _ | refine below_drewN ?_ _ | refine Below.drew ?_ | refine Below.setCell ?_ ?_ _ | refine Below.alloc ?_ ?_ _ | refine below_then ?_ ?_ (by with_reducible assumption)
    all_goals first | omega | (simp only [sA, sC, sD, sE]; omega) | (simp; done) | (simp; omega)
set_option maxHeartbeats 400000 in
theorem ask_61 (k n d : Int) (t : ByteArray) (b : Bool) (f : Int) (w : World) :
    Calls Tryz.prog 29 #[.int .i64 61, .agg #[.int .i64 k, .int .i64 n, .int .i64 d, .string t, .bool b, .int .i64 f]] w fun e w' => e = .returned (.tuple #[.bool (k == 4), .bool true]) ∧ Below w.heap.size w w' := by
  go_enter Tryz.func29, Tryz.ntmps29
  go_wp2
  go_ret2
  refine ⟨rfl, ?_⟩
  focus
    repeat with_reducible first | exact Below.refl _ _ | refine below_drewN ?_ _ | refine Below.drew ?_ | refine Below.setCell ?_ ?_ _ | refine Below.alloc ?_ ?_ _ | refine below_then ?_ ?_ (by with_reducible assumption)
    all_goals first | omega | (simp only [sA, sC, sD, sE]; omega) | (simp; done) | (simp; omega)
set_option maxHeartbeats 400000 in
theorem ask_none (id : Int) (h1 : ¬ id = 58) (h2 : ¬ id = 59) (h3 : ¬ id = 60) (h4 : ¬ id = 61) (k n d : Int) (t : ByteArray) (b : Bool) (f : Int) (w : World) :
    Calls Tryz.prog 29 #[.int .i64 id, .agg #[.int .i64 k, .int .i64 n, .int .i64 d, .string t, .bool b, .int .i64 f]] w fun e w' => e = .returned (.tuple #[.bool false, .bool false]) ∧ Below w.heap.size w w' := by
  have k1 : (id == 58) = false := by simp [h1]
  have k2 : (id == 59) = false := by simp [h2]
  have k3 : (id == 60) = false := by simp [h3]
  have k4 : (id == 61) = false := by simp [h4]
  clear h1 h2 h3 h4
  go_enter Tryz.func29, Tryz.ntmps29
  go_wp2
  go_ret2
  refine ⟨rfl, ?_⟩
  focus
    repeat with_reducible first | exact Below.refl _ _ | refine below_drewN ?_ _ | refine Below.drew ?_ | refine Below.setCell ?_ ?_ _ | refine Below.alloc ?_ ?_ _ | refine below_then ?_ ?_ (by with_reducible assumption)
    all_goals first | omega | (simp only [sA, sC, sD, sE]; omega) | (simp; done) | (simp; omega)
/-- What a scalar's arguments are taken as. -/
def shapeB (id : Int) : ByteArray :=
  if id = 47 then ⟨#[116]⟩ else if id = 48 ∨ id = 54 ∨ id = 55 ∨ id = 56 then ⟨#[115]⟩ else if id = 49 ∨ id = 50 ∨ id = 52 then ⟨#[115, 110]⟩ else if id = 51 then ⟨#[115, 110, 110]⟩ else if id = 53 then ⟨#[115, 115]⟩ else ⟨#[110, 110]⟩
set_option maxHeartbeats 400000 in
theorem shape_47 (w : World) :
    Calls Tryz.prog 34 #[.int .i64 47] w fun e w' => e = .returned (.string (shapeB 47)) ∧ w = w' := by
  go_enter Tryz.func34, Tryz.ntmps34
  go_wp2
  go_ret
  exact ⟨rfl, rfl⟩
set_option maxHeartbeats 400000 in
theorem shape_48 (w : World) :
    Calls Tryz.prog 34 #[.int .i64 48] w fun e w' => e = .returned (.string (shapeB 48)) ∧ w = w' := by
  go_enter Tryz.func34, Tryz.ntmps34
  go_wp2
  go_ret
  exact ⟨rfl, rfl⟩
set_option maxHeartbeats 400000 in
theorem shape_54 (w : World) :
    Calls Tryz.prog 34 #[.int .i64 54] w fun e w' => e = .returned (.string (shapeB 54)) ∧ w = w' := by
  go_enter Tryz.func34, Tryz.ntmps34
  go_wp2
  go_ret
  exact ⟨rfl, rfl⟩
set_option maxHeartbeats 400000 in
theorem shape_55 (w : World) :
    Calls Tryz.prog 34 #[.int .i64 55] w fun e w' => e = .returned (.string (shapeB 55)) ∧ w = w' := by
  go_enter Tryz.func34, Tryz.ntmps34
  go_wp2
  go_ret
  exact ⟨rfl, rfl⟩
set_option maxHeartbeats 400000 in
theorem shape_56 (w : World) :
    Calls Tryz.prog 34 #[.int .i64 56] w fun e w' => e = .returned (.string (shapeB 56)) ∧ w = w' := by
  go_enter Tryz.func34, Tryz.ntmps34
  go_wp2
  go_ret
  exact ⟨rfl, rfl⟩
set_option maxHeartbeats 400000 in
theorem shape_49 (w : World) :
    Calls Tryz.prog 34 #[.int .i64 49] w fun e w' => e = .returned (.string (shapeB 49)) ∧ w = w' := by
  go_enter Tryz.func34, Tryz.ntmps34
  go_wp2
  go_ret
  exact ⟨rfl, rfl⟩
set_option maxHeartbeats 400000 in
theorem shape_50 (w : World) :
    Calls Tryz.prog 34 #[.int .i64 50] w fun e w' => e = .returned (.string (shapeB 50)) ∧ w = w' := by
  go_enter Tryz.func34, Tryz.ntmps34
  go_wp2
  go_ret
  exact ⟨rfl, rfl⟩
set_option maxHeartbeats 400000 in
theorem shape_52 (w : World) :
    Calls Tryz.prog 34 #[.int .i64 52] w fun e w' => e = .returned (.string (shapeB 52)) ∧ w = w' := by
  go_enter Tryz.func34, Tryz.ntmps34
  go_wp2
  go_ret
  exact ⟨rfl, rfl⟩
set_option maxHeartbeats 400000 in
theorem shape_51 (w : World) :
    Calls Tryz.prog 34 #[.int .i64 51] w fun e w' => e = .returned (.string (shapeB 51)) ∧ w = w' := by
  go_enter Tryz.func34, Tryz.ntmps34
  go_wp2
  go_ret
  exact ⟨rfl, rfl⟩
set_option maxHeartbeats 400000 in
theorem shape_53 (w : World) :
    Calls Tryz.prog 34 #[.int .i64 53] w fun e w' => e = .returned (.string (shapeB 53)) ∧ w = w' := by
  go_enter Tryz.func34, Tryz.ntmps34
  go_wp2
  go_ret
  exact ⟨rfl, rfl⟩
set_option maxHeartbeats 400000 in
theorem shape_none (id : Int) (h0 : ¬ id = 47) (h1 : ¬ id = 48) (h2 : ¬ id = 49) (h3 : ¬ id = 50) (h4 : ¬ id = 51) (h5 : ¬ id = 52) (h6 : ¬ id = 53) (h7 : ¬ id = 54) (h8 : ¬ id = 55) (h9 : ¬ id = 56) (w : World) :
    Calls Tryz.prog 34 #[.int .i64 id] w fun e w' => e = .returned (.string (shapeB id)) ∧ w = w' := by
  have hS : shapeB id = ⟨#[110, 110]⟩ := by
    unfold shapeB
    rw [if_neg h0, if_neg (by omega), if_neg (by omega), if_neg h4, if_neg h6]
  rw [hS]
  have k0 : (id == 47) = false := by simp [h0]
  have k1 : (id == 48) = false := by simp [h1]
  have k2 : (id == 49) = false := by simp [h2]
  have k3 : (id == 50) = false := by simp [h3]
  have k4 : (id == 51) = false := by simp [h4]
  have k5 : (id == 52) = false := by simp [h5]
  have k6 : (id == 53) = false := by simp [h6]
  have k7 : (id == 54) = false := by simp [h7]
  have k8 : (id == 55) = false := by simp [h8]
  have k9 : (id == 56) = false := by simp [h9]
  clear hS
  go_enter Tryz.func34, Tryz.ntmps34
  go_wp2
  go_ret
  exact ⟨rfl, rfl⟩
theorem funcs_shape (id : Int) (w : World) :
    Calls Tryz.prog 34 #[.int .i64 id] w fun e w' => e = .returned (.string (shapeB id)) ∧ w = w' := by
  by_cases h0 : id = 47
  · subst h0; exact shape_47 w
  by_cases h1 : id = 48
  · subst h1; exact shape_48 w
  by_cases h2 : id = 49
  · subst h2; exact shape_49 w
  by_cases h3 : id = 50
  · subst h3; exact shape_50 w
  by_cases h4 : id = 51
  · subst h4; exact shape_51 w
  by_cases h5 : id = 52
  · subst h5; exact shape_52 w
  by_cases h6 : id = 53
  · subst h6; exact shape_53 w
  by_cases h7 : id = 54
  · subst h7; exact shape_54 w
  by_cases h8 : id = 55
  · subst h8; exact shape_55 w
  by_cases h9 : id = 56
  · subst h9; exact shape_56 w
  exact shape_none id h0 h1 h2 h3 h4 h5 h6 h7 h8 h9 w
end Go.Proofs.YtglngfaagjgpjaaGreatDoor
namespace Go.Proofs.YtglngfaagjgpjaaGreatDoor
open Go Go.RowKit
set_option linter.unusedSimpArgs false
set_option linter.unusedVariables false

theorem powN_bd (n d k : Int) : -1000000000000 ≤ (powN n d k).n ∧ (powN n d k).n ≤ 1000000000000 ∧ 0 ≤ (powN n d k).d ∧ (powN n d k).d ≤ 1000000 := by
  have hb := tk_bd n d
  unfold powN
  repeat' split
  all_goals simp only [badB]
  all_goals omega
/-- A power as a value. -/
def powV (n d m e : Int) : Vl := if n = 0 ∧ m < 0 then faultF 1 else if wholeB m e then toldB (powN n d (wholeN m e)) else faultF 4

theorem wholeN_i64 (m e : Int) : I64 (wholeN m e) := by
  have := tk_bd m e
  unfold wholeN
  split
  · exact ⟨by omega, by omega⟩
  · exact ⟨by decide, by decide⟩
set_option maxHeartbeats 1000000 in
theorem value_reckon15 (n d m e : Int) (w : World) (hn : I64 n) (hd : I64 d) (hm : I64 m) (he : I64 e) :
    Calls Tryz.prog 67 #[.int .i64 15, .agg #[.int .i64 n, .int .i64 d], .agg #[.int .i64 m, .int .i64 e]] w fun e' w' => e' = .returned (.agg #[.int .i64 (powV n d m e).k, .int .i64 (powV n d m e).n, .int .i64 (powV n d m e).d, .string (powV n d m e).t, .bool (powV n d m e).b, .int .i64 (powV n d m e).f]) ∧ Below w.heap.size w w' := by
  by_cases h0 : n = 0 ∧ m < 0
  · have HF : Hid (powV n d m e = faultF 1) := by unfold Hid powV; rw [if_pos h0]
    have k0 : (n == 0) = true := by simp [h0.1]
    have k1 := h0.2
    generalize powV n d m e = Q at *
    clear h0 hn hd hm he
    go_enter Tryz.func67, Tryz.ntmps67
    go_wp2_with fail
    refine (value_Fault _ _).mono ?_
    rintro e' w1 ⟨rfl, hb⟩
    obtain ⟨s1, c1_0, c1_1, c1_2, c1_3, c1_4, c1_5, f1⟩ := L6 hb (w.heap.size + 1 + 1) (by first | omega | (simp only [sA, sC, sD, sE]; omega) | (simp; done) | (simp; omega)) (by go_simp; exact ⟨rfl, rfl, rfl, rfl, rfl, rfl⟩) (by intro o; go_simp)
    go_wp2
    refine bodyPost_ret (v := .agg #[.int .i64 (Q).k, .int .i64 (Q).n, .int .i64 (Q).d, .string (Q).t, .bool (Q).b, .int .i64 (Q).f]) (by rw [HF.out]; simp [results, Tryz.results67, go_sem, c1_0, c1_1, c1_2, c1_3, c1_4, c1_5]) rfl ⟨rfl, ?_⟩
    focus
      repeat with_reducible first | exact Below.refl _ _ | refine below_drewN ?_ _ | refine Below.drew ?_ | refine Below.setCell ?_ ?_ _ | refine Below.alloc ?_ ?_ _ | refine below_then ?_ ?_ (by with_reducible assumption)
      all_goals first | omega | (simp only [sA, sC, sD, sE]; omega) | (simp; done) | (simp; omega)
  have hc : (n == 0) = false ∨ ((n == 0) = true ∧ ¬ m < 0) := by
    by_cases h : n = 0
    · exact .inr ⟨by simp [h], fun h' => h0 ⟨h, h'⟩⟩
    · exact .inl (by simp [h])
  have HW := Lib.hid fun wx => num_Whole m e wx hm he
  have hbd := powN_bd n d (wholeN m e)
  have HA := Lib.hid fun wx => num_Pow n d (wholeN m e) wx hn hd (wholeN_i64 m e)
  have HT := Lib.hid fun wx => value_told (powN n d (wholeN m e)).n (powN n d (wholeN m e)).d (powN n d (wholeN m e)).ok wx (I64.of hbd.1 hbd.2.1) (I64.of (by omega) (by omega))
  have HF : powV n d m e = if wholeB m e then toldF (powN n d (wholeN m e)).n (powN n d (wholeN m e)).d (powN n d (wholeN m e)).ok else faultF 4 := by unfold powV; rw [if_neg h0]; rfl
  generalize powN n d (wholeN m e) = R at *
  generalize wholeN m e = k at *
  generalize powV n d m e = Q at *
  clear hbd hn hd hm he h0
  cases hw : wholeB m e
  · rw [hw] at HW HF
    replace HF := Lib.hid HF
    clear hw
    rcases hc with c1 | ⟨c1, c2⟩
    all_goals
      go_enter Tryz.func67, Tryz.ntmps67
      go_wp2_with fail
      refine (HW.out _).mono ?_
      rintro e' w1 ⟨rfl, hb⟩
      obtain ⟨s2, c2_0, c2_1, f2⟩ := L2 hb (w.heap.size) (by first | omega | (simp only [sA, sC, sD, sE]; omega) | (simp; done) | (simp; omega)) (by go_simp; exact ⟨rfl, rfl⟩) (by intro o; go_simp)
      obtain ⟨s3, c3_0, c3_1, f3⟩ := L2 hb (w.heap.size + 1) (by first | omega | (simp only [sA, sC, sD, sE]; omega) | (simp; done) | (simp; omega)) (by go_simp; exact ⟨rfl, rfl⟩) (by intro o; go_simp)
      obtain ⟨s4, c4_0, c4_1, c4_2, c4_3, c4_4, c4_5, f4⟩ := L6 hb (w.heap.size + 1 + 1) (by first | omega | (simp only [sA, sC, sD, sE]; omega) | (simp; done) | (simp; omega)) (by go_simp; exact ⟨rfl, rfl, rfl, rfl, rfl, rfl⟩) (by intro o; go_simp)
      go_wp2_with fail
      refine (value_Fault 4 _).mono ?_
      rintro e' w2 ⟨rfl, hb2⟩
      obtain ⟨s5, c5_0, c5_1, c5_2, c5_3, c5_4, c5_5, f5⟩ := L6 hb2 (w.heap.size + 1 + 1) (by first | omega | (simp only [sA, sC, sD, sE]; omega) | (simp; done) | (simp; omega)) (by go_simp; exact ⟨rfl, rfl, rfl, rfl, rfl, rfl⟩) (by intro o; go_simp)
      clear c2_0 c2_1 f2 c3_0 c3_1 f3 c4_0 c4_1 c4_2 c4_3 c4_4 c4_5 f4
      go_wp2
      refine bodyPost_ret (v := .agg #[.int .i64 (Q).k, .int .i64 (Q).n, .int .i64 (Q).d, .string (Q).t, .bool (Q).b, .int .i64 (Q).f]) (by rw [HF.out]; simp [results, Tryz.results67, go_sem, c5_0, c5_1, c5_2, c5_3, c5_4, c5_5]) rfl ⟨rfl, ?_⟩
      focus
        repeat with_reducible first | exact Below.refl _ _ | refine below_drewN ?_ _ | refine Below.drew ?_ | refine Below.setCell ?_ ?_ _ | refine Below.alloc ?_ ?_ _ | refine below_then ?_ ?_ (by with_reducible assumption)
        all_goals first | omega | (simp only [sA, sC, sD, sE]; omega) | (simp; done) | (simp; omega)
  · rw [hw] at HW HF
    replace HF := Lib.hid HF
    clear hw
    rcases hc with c1 | ⟨c1, c2⟩
    all_goals
      go_enter Tryz.func67, Tryz.ntmps67
      go_wp2_with fail
      refine (HW.out _).mono ?_
      rintro e' w1 ⟨rfl, hb⟩
      obtain ⟨s6, c6_0, c6_1, f6⟩ := L2 hb (w.heap.size) (by first | omega | (simp only [sA, sC, sD, sE]; omega) | (simp; done) | (simp; omega)) (by go_simp; exact ⟨rfl, rfl⟩) (by intro o; go_simp)
      obtain ⟨s7, c7_0, c7_1, f7⟩ := L2 hb (w.heap.size + 1) (by first | omega | (simp only [sA, sC, sD, sE]; omega) | (simp; done) | (simp; omega)) (by go_simp; exact ⟨rfl, rfl⟩) (by intro o; go_simp)
      obtain ⟨s8, c8_0, c8_1, c8_2, c8_3, c8_4, c8_5, f8⟩ := L6 hb (w.heap.size + 1 + 1) (by first | omega | (simp only [sA, sC, sD, sE]; omega) | (simp; done) | (simp; omega)) (by go_simp; exact ⟨rfl, rfl, rfl, rfl, rfl, rfl⟩) (by intro o; go_simp)
      go_wp2_with fail
      refine (HA.out _).mono ?_
      rintro e' w2 ⟨rfl, hb2⟩
      obtain ⟨s9, c9_0, c9_1, c9_2, c9_3, c9_4, c9_5, f9⟩ := L6 hb2 (w.heap.size + 1 + 1) (by first | omega | (simp only [sA, sC, sD, sE]; omega) | (simp; done) | (simp; omega)) (by go_simp; exact ⟨rfl, rfl, rfl, rfl, rfl, rfl⟩) (by intro o; go_simp)
      clear c6_0 c6_1 f6 c7_0 c7_1 f7 c8_0 c8_1 c8_2 c8_3 c8_4 c8_5 f8
      go_wp2_with fail
      refine (HT.out _).mono ?_
      rintro e' w3 ⟨rfl, hb3⟩
      obtain ⟨s10, c10_0, c10_1, c10_2, c10_3, c10_4, c10_5, f10⟩ := L6 hb3 (w.heap.size + 1 + 1) (by first | omega | (simp only [sA, sC, sD, sE]; omega) | (simp; done) | (simp; omega)) (by go_simp; exact ⟨rfl, rfl, rfl, rfl, rfl, rfl⟩) (by intro o; go_simp)
      clear c9_0 c9_1 c9_2 c9_3 c9_4 c9_5 f9
      go_wp2
      refine bodyPost_ret (v := .agg #[.int .i64 (Q).k, .int .i64 (Q).n, .int .i64 (Q).d, .string (Q).t, .bool (Q).b, .int .i64 (Q).f]) (by rw [HF.out]; simp [results, Tryz.results67, go_sem, c10_0, c10_1, c10_2, c10_3, c10_4, c10_5]) rfl ⟨rfl, ?_⟩
      focus
        repeat with_reducible first | exact Below.refl _ _ | refine below_drewN ?_ _ | refine Below.drew ?_ | refine Below.setCell ?_ ?_ _ | refine Below.alloc ?_ ?_ _ | refine below_then ?_ ?_ (by with_reducible assumption)
        all_goals first | omega | (simp only [sA, sC, sD, sE]; omega) | (simp; done) | (simp; omega)
end Go.Proofs.YtglngfaagjgpjaaGreatDoor
