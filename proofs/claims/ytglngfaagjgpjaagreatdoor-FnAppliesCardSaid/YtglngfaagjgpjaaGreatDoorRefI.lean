/- The reference's reckoned and written, of any values that fit. -/
import Derived.Test.YtglngfaagjgpjaaGreatDoorRefH
import Derived.Test.YtglngfaagjgpjaaGreatDoorRefL
namespace Go.Proofs.YtglngfaagjgpjaaGreatDoor
open Go Go.RowKit
set_option linter.unusedSimpArgs false
set_option linter.unusedVariables false

theorem len1 {α : Type} {l : List α} (h : l.length = 1) : ∃ a, l = [a] := List.length_eq_one_iff.1 h
theorem len2 {α : Type} : ∀ {l : List α}, l.length = 2 → ∃ a b, l = [a, b]
  | [a, b], _ => ⟨a, b, rfl⟩
theorem len3 {α : Type} : ∀ {l : List α}, l.length = 3 → ∃ a b c, l = [a, b, c]
  | [a, b, c], _ => ⟨a, b, c, rfl⟩
theorem of43 (x y : Nm) : ofNumbersP 43 [x, y] = if wholeB y.n y.d then toldB (roundN x.n x.d (wholeN y.n y.d)) else faultF 8 := by simp [ofNumbersP, nmAt]
theorem of44 (x y : Nm) : ofNumbersP 44 [x, y] = if y.n = 0 then faultF 1 else toldB (modN x.n x.d y.n y.d) := by simp [ofNumbersP, nmAt]
theorem of45 (x y : Nm) : ofNumbersP 45 [x, y] = if y.n = 0 then faultF 1 else quotV x.n x.d y.n y.d := by simp [ofNumbersP, nmAt]
theorem of1 (x : Nm) : ofNumbersP 40 [x] = numF (absN x.n x.d).n (absN x.n x.d).d ∧ ofNumbersP 41 [x] = wholeF (cmpN x.n x.d 0 1) ∧ ofNumbersP 42 [x] = numF (floorN x.n x.d).n (floorN x.n x.d).d ∧ ofNumbersP 57 [x] = numF x.n x.d := by simp [ofNumbersP, nmAt]
theorem r7_reckoned (id : Int) (vs : List Vl) (la : Option Addr) (n lc : Nat) (w : World) (hn : vs.length = n) (hcase : ((id = 40 ∨ id = 41 ∨ id = 42 ∨ id = 57) ∧ n = 1) ∨ (id = 43 ∧ (n = 1 ∨ n = 2)) ∨ ((id = 44 ∨ id = 45) ∧ n = 2)) (hin : ∀ v ∈ vs, v.In) (hc : ValAt w la vs) :
    Calls Tryz.prog 45 #[.int .i64 id, .slice la n lc] w fun e w' => e = .returned (.agg #[.int .i64 (reckR id vs).k, .int .i64 (reckR id vs).n, .int .i64 (reckR id vs).d, .string (reckR id vs).t, .bool (reckR id vs).b, .int .i64 (reckR id vs).f]) ∧ Below w.heap.size w w' := by
  have hle : n ≤ 1000 := by omega
  cases hb : badNum vs with
  | some x =>
    rw [reck_bad hb]
    exact rk_bad id la n lc w x (badNum_k hb) fun wx hw => nums_bad vs 0 la n lc wx x hn hle (by omega) hin (hc.below hw) hb
  | none =>
    have hr := badNum_right hb
    have HN : ∀ wx, Below w.heap.size w wx → Calls Tryz.prog 91 #[.slice la n lc, .int .i64 0] wx fun e w' => ∃ g cap : Nat, e = .returned (.tuple #[.slice (some ⟨g, 0, none⟩) n cap, .agg #[.int .i64 0, .int .i64 0, .int .i64 0, .string ⟨#[]⟩, .bool false, .int .i64 0]]) ∧ Below wx.heap.size wx w' ∧ n ≤ cap ∧ g < w'.heap.size ∧ ∀ k x, (vs.map nmOf)[k]? = some x → w'.cell? ⟨g, k * 2, none⟩ = some (.int .i64 x.n) ∧ w'.cell? ⟨g, k * 2 + 1, none⟩ = some (.int .i64 x.d) := by
      intro wx hw
      have h := nums_ok vs 0 la n lc wx hn hle (by omega) hin (hc.below hw) (by rw [List.drop_zero]; exact hb)
      simpa using h
    by_cases h1 : n = 1
    · subst h1
      obtain ⟨a, rfl⟩ := len1 hn
      have hx := nmOf_i64 a
      have HN1 : Hid (∀ wx, Below w.heap.size w wx → Calls Tryz.prog 91 #[.slice la 1 lc, .int .i64 0] wx fun e w' => ∃ g cap : Nat, e = .returned (.tuple #[.slice (some ⟨g, 0, none⟩) 1 cap, .agg #[.int .i64 0, .int .i64 0, .int .i64 0, .string ⟨#[]⟩, .bool false, .int .i64 0]]) ∧ Below wx.heap.size wx w' ∧ 1 ≤ cap ∧ g < w'.heap.size ∧ w'.cell? ⟨g, 0, none⟩ = some (.int .i64 (nmOf a).n) ∧ w'.cell? ⟨g, 1, none⟩ = some (.int .i64 (nmOf a).d)) := by
        intro wx hw
        refine (HN wx hw).mono ?_
        rintro e w' ⟨g, cap, h1, h2, h3, h4, h5⟩
        exact ⟨g, cap, h1, h2, h3, h4, (h5 0 _ rfl).1, (h5 0 _ rfl).2⟩
      rw [reck_ok1 hb]
      rcases hcase with ⟨rfl | rfl | rfl | rfl, _⟩ | ⟨rfl, _⟩ | ⟨rfl | rfl, h⟩
      · rw [if_neg (by decide), (of1 _).1]; exact rk40 la lc _ w HN1 hx
      · rw [if_neg (by decide), (of1 _).2.1]; exact rk41 la lc _ w HN1 hx
      · rw [if_neg (by decide), (of1 _).2.2.1]; exact rk42 la lc _ w HN1 hx
      · rw [if_neg (by decide), (of1 _).2.2.2]; exact rk57 la lc _ w HN1 hx
      · have e : ofNumbersP 43 (if (43 : Int) = 43 then [nmOf a, ⟨0, 1⟩] else [nmOf a]) = toldB (roundN (nmOf a).n (nmOf a).d 0) := by
          rw [if_pos rfl, of43]
          show (if wholeB 0 1 = true then toldB (roundN (nmOf a).n (nmOf a).d (wholeN 0 1)) else faultF 8) = _
          rw [whole01.1, if_pos rfl, whole01.2]
        rw [e]
        exact rk43 la lc _ w HN1 hx
      · omega
      · omega
    · have h2 : n = 2 := by omega
      subst h2
      obtain ⟨a, b, rfl⟩ := len2 hn
      have hx := nmOf_i64 a
      have hy := nmOf_i64 b
      have HN2 : Hid (∀ wx, Below w.heap.size w wx → Calls Tryz.prog 91 #[.slice la 2 lc, .int .i64 0] wx fun e w' => ∃ g cap : Nat, e = .returned (.tuple #[.slice (some ⟨g, 0, none⟩) 2 cap, .agg #[.int .i64 0, .int .i64 0, .int .i64 0, .string ⟨#[]⟩, .bool false, .int .i64 0]]) ∧ Below wx.heap.size wx w' ∧ 2 ≤ cap ∧ g < w'.heap.size ∧ w'.cell? ⟨g, 0, none⟩ = some (.int .i64 (nmOf a).n) ∧ w'.cell? ⟨g, 1, none⟩ = some (.int .i64 (nmOf a).d) ∧ w'.cell? ⟨g, 2, none⟩ = some (.int .i64 (nmOf b).n) ∧ w'.cell? ⟨g, 3, none⟩ = some (.int .i64 (nmOf b).d)) := by
        intro wx hw
        refine (HN wx hw).mono ?_
        rintro e w' ⟨g, cap, h1, h2, h3, h4, h5⟩
        exact ⟨g, cap, h1, h2, h3, h4, (h5 0 _ rfl).1, (h5 0 _ rfl).2, (h5 1 _ rfl).1, (h5 1 _ rfl).2⟩
      rw [reck_ok2 hb]
      rcases hcase with ⟨_, h⟩ | ⟨rfl, _⟩ | ⟨rfl | rfl, h⟩
      · omega
      · rw [of43]
        cases hw : wholeB (nmOf b).n (nmOf b).d
        · rw [if_neg (by decide)]; exact rk43_no la lc _ _ w HN2 hx hy hw
        · rw [if_pos rfl]; exact rk43_ok la lc _ _ w HN2 hx hy hw
      · rw [of44]
        by_cases h0 : (nmOf b).n = 0
        · rw [if_pos h0]; exact rk44_div la lc _ _ w HN2 h0
        · rw [if_neg h0]; exact rk44 la lc _ _ w HN2 hx hy h0
      · rw [of45]
        by_cases h0 : (nmOf b).n = 0
        · rw [if_pos h0]; exact rk45_div la lc _ _ w HN2 h0
        · rw [if_neg h0]; exact rk45 la lc _ _ w HN2 (hr a (by simp)) (hr b (by simp)) h0

/-! written -/
theorem ls1 {wx : World} {h : Nat} (c : wx.cell? ⟨h, 0, none⟩ = some (.int .i64 0)) : ∀ k l, ([0] : List Int)[k]? = some l → wx.cell? ⟨h, k, none⟩ = some (.int .i64 l)
  | 0, l, e => by cases e; exact c
  | k + 1, l, e => by cases e
theorem ls2 {wx : World} {h : Nat} (c : wx.cell? ⟨h, 0, none⟩ = some (.int .i64 1)) (d : wx.cell? ⟨h, 1, none⟩ = some (.int .i64 0)) : ∀ k l, ([1, 0] : List Int)[k]? = some l → wx.cell? ⟨h, k, none⟩ = some (.int .i64 l)
  | 0, l, e => by cases e; exact c
  | 1, l, e => by cases e; exact d
  | k + 2, l, e => by cases e
theorem cut_left (s : ByteArray) (k : Nat) : s.extract 0 (min (k : Int) (s.size : Int)).toNat = cutT s 0 k := by
  rw [← cut_eq0]
  have e1 : (min (0 : Int) (s.size : Int)).toNat = 0 := by omega
  rw [e1]
  have e2 : s.extract 0 s.size = s := by simp
  rw [e2]
  congr 1
theorem cut_right (s : ByteArray) (k : Nat) : s.extract ((s.size : Int) - min (k : Int) (s.size : Int)).toNat s.size = endT s k := by
  unfold endT; congr 1; omega
theorem cut_mid (s : ByteArray) (K K2 : Nat) (h : 1 ≤ K) : s.extract (min ((K : Int) - 1) (s.size : Int)).toNat (min ((K : Int) - 1) (s.size : Int) + min (K2 : Int) ((s.size : Int) - min ((K : Int) - 1) (s.size : Int))).toNat = cutT s (K - 1) K2 := by
  unfold cutT
  have e1 : (min ((K : Int) - 1) (s.size : Int)).toNat = min (K - 1) s.size := by omega
  have e2 : (min ((K : Int) - 1) (s.size : Int) + min (K2 : Int) ((s.size : Int) - min ((K : Int) - 1) (s.size : Int))).toNat = min (K - 1) s.size + min K2 (s.size - min (K - 1) s.size) := by omega
  rw [e1, e2]
  apply ba_eq
  rw [txt_ext, txt_list, txt_ext, txt_list, txt_drop, txt_list, List.drop_zero]
  congr 1
  omega
theorem cnt1 (x : Nm) (l : Int) : cntAll [x] [l] = cntB x l := by simp [cntAll]
theorem cnt2 (x y : Nm) (l m : Int) : cntAll [x, y] [l, m] = (cntB x l && cntB y m) := by simp [cntAll]
theorem nil_of_size {s : ByteArray} (h : s.size = 0) : s = ⟨#[]⟩ := by
  apply ba_eq
  exact List.length_eq_zero_iff.1 (by rw [Array.length_toList]; exact h)
theorem up_size (s : ByteArray) : (upT s).size = s.size := by
  unfold upT Lib.toUpperA
  show ((s.data.toList.map _).toArray).size = _
  rw [List.size_toArray, List.length_map, Array.length_toList]; rfl
theorem lo_size (s : ByteArray) : (loT s).size = s.size := by
  unfold loT Lib.toLowerA
  show ((s.data.toList.map _).toArray).size = _
  rw [List.size_toArray, List.length_map, Array.length_toList]; rfl
theorem ot_piece {id : Int} (h : id = 49 ∨ id = 50 ∨ id = 51 ∨ id = 52) (ns : List Nm) (s : ByteArray) (b : Bool) : ofTextsP id ⟨ns, [s], b⟩ = pieceP id s ns := by
  rcases h with rfl | rfl | rfl | rfl <;> simp [ofTextsP, txAt]
theorem ot_one (s : ByteArray) (ns : List Nm) (b : Bool) : ofTextsP 48 ⟨ns, [s], b⟩ = wholeF s.size ∧ ofTextsP 54 ⟨ns, [s], b⟩ = textF (upT s) ∧ ofTextsP 55 ⟨ns, [s], b⟩ = textF (loT s) ∧ ofTextsP 56 ⟨ns, [s], b⟩ = textF (trT s) := by simp [ofTextsP, txAt]
theorem p49 (s : ByteArray) (x : Nm) : pieceP 49 s [x] = if cntB x 0 = false then faultF 8 else textF (cutT s 0 (cntN x)) := by simp [pieceP, nmAt]
theorem p50 (s : ByteArray) (x : Nm) : pieceP 50 s [x] = if cntB x 0 = false then faultF 8 else textF (endT s (cntN x)) := by simp [pieceP, nmAt]
theorem p52 (s : ByteArray) (x : Nm) : pieceP 52 s [x] = if cntB x 0 = false then faultF 8 else if 256 < s.size * cntN x then faultF 7 else textF (repT s (cntN x)) := by simp [pieceP, nmAt]
theorem p51 (s : ByteArray) (x y : Nm) : pieceP 51 s [x, y] = if (cntB x 1 && cntB y 0) = true then textF (cutT s (cntN x - 1) (cntN y)) else faultF 8 := by simp [pieceP, nmAt]
theorem one01 : cntB ⟨1, 1⟩ 0 = true ∧ cntN ⟨1, 1⟩ = 1 := by decide
set_option maxHeartbeats 1000000 in
theorem r7_written (id : Int) (vs : List Vl) (la : Option Addr) (n lc : Nat) (w : World) (hn : vs.length = n) (hlc : n ≤ lc) (hcase : ((id = 48 ∨ id = 54 ∨ id = 55 ∨ id = 56) ∧ n = 1) ∨ ((id = 49 ∨ id = 50) ∧ (n = 1 ∨ n = 2)) ∨ ((id = 52 ∨ id = 53) ∧ n = 2) ∨ (id = 51 ∧ n = 3)) (hin : ∀ v ∈ vs, v.In) (hc : ValAt w la vs) :
    Calls Tryz.prog 46 #[.int .i64 id, .slice la n lc] w fun e w' => e = .returned (.agg #[.int .i64 (writR id vs).k, .int .i64 (writR id vs).n, .int .i64 (writR id vs).d, .string (writR id vs).t, .bool (writR id vs).b, .int .i64 (writR id vs).f]) ∧ Below w.heap.size w w' := by
  have hle : n ≤ 1000 := by omega
  have h1n : 1 ≤ n := by omega
  obtain ⟨g, off, rfl, hgw, hrow⟩ := hc (by omega)
  obtain ⟨a, rest, rfl⟩ : ∃ a rest, vs = a :: rest := by
    cases vs with
    | nil => simp at hn; omega
    | cons a r => exact ⟨a, r, rfl⟩
  obtain ⟨c0, c1, c2, c3, c4, c5⟩ := hrow 0 a rfl
  simp only [Nat.zero_mul, Nat.add_zero] at c0 c1 c2 c3 c4 c5
  have hs := asTxt_size a
  have hp := asTxt_plain a
  have HA : Hid (∀ wx : World, Calls Tryz.prog 86 #[.agg #[.int .i64 (a).k, .int .i64 (a).n, .int .i64 (a).d, .string (a).t, .bool (a).b, .int .i64 (a).f]] wx fun e w' => ∃ z : Vl, e = .returned (.tuple #[.string (asTxt a).t, .agg #[.int .i64 (z).k, .int .i64 (z).n, .int .i64 (z).d, .string (z).t, .bool (z).b, .int .i64 (z).f]]) ∧ Below wx.heap.size wx w') := by
    intro wx
    refine (r2_AsText a wx (hin a (by simp))).mono ?_
    rintro e w' ⟨rfl, hb⟩
    exact ⟨_, rfl, hb⟩
  have hs0 : writR id (a :: rest) = if id = 53 then findV (asTxt a).t (asTxt ((a :: rest).getD 1 blankV)).t else (match badNum rest with | some e => e | none => ofTextsP id ⟨if (id = 49 ∨ id = 50) ∧ (a :: rest).length = 1 then [⟨1, 1⟩] else rest.map nmOf, [(asTxt a).t], false⟩) := rfl
  by_cases h53 : id = 53
  · subst h53
    obtain rfl : n = 2 := by omega
    obtain ⟨b, rfl⟩ := len1 (by simpa using hn : rest.length = 1)
    obtain ⟨d0, d1, d2, d3, d4, d5⟩ := hrow 1 b rfl
    rw [Nat.one_mul] at d0 d1 d2 d3 d4 d5
    rw [hs0, if_pos rfl]
    have ht := asTxt_size b
    refine rw_find (findV (asTxt a).t (asTxt b).t) (asTxt a).t a b g off lc w hs HA hgw hlc c0 c1 c2 c3 c4 c5 d0 d1 d2 d3 d4 d5 (asTxt b).t ht ?_ ?_ ?_
    · intro wx
      refine (r2_AsText b wx (hin b (by simp))).mono ?_
      rintro e w' ⟨rfl, hb⟩
      exact ⟨_, rfl, hb⟩
    · intro k wx hk hi
      have e : findV (asTxt a).t (asTxt b).t = numF ((k : Int) + 1) 1 := by
        unfold findV
        rw [hi, if_neg (by omega), wholeF_small (by omega) (by omega)]
      rw [e]
      exact r7_whole _ wx ⟨by omega, by omega⟩
    · intro wx hi
      have e : findV (asTxt a).t (asTxt b).t = faultF 5 := by
        unfold findV
        rw [hi, if_pos (by omega)]
      rw [e]
      exact r2_Fault 5 wx
  rw [hs0, if_neg h53]
  have hdr : (a :: rest).drop 1 = rest := rfl
  cases hb : badNum rest with
  | some x =>
    exact rw_bad id n x (by simp [h53]) h1n (badNum_k hb) (asTxt a).t a g off lc w hs HA hgw hlc c0 c1 c2 c3 c4 c5 fun wx hw => nums_bad (a :: rest) 1 _ n lc wx x hn hle h1n hin (hc.below hw) hb
  | none =>
    have HN : ∀ wx, Below w.heap.size w wx → Calls Tryz.prog 91 #[.slice (some ⟨g, off, none⟩) n lc, .int .i64 1] wx fun e w' => ∃ (a2 : Option Addr) (c2 : Nat), e = .returned (.tuple #[.slice a2 (n - 1 : Nat) c2, .agg #[.int .i64 0, .int .i64 0, .int .i64 0, .string ⟨#[]⟩, .bool false, .int .i64 0]]) ∧ Below wx.heap.size wx w' ∧ NmAt w' a2 (rest.map nmOf) := fun wx hw => nums_any (a :: rest) 1 _ n lc wx hn hle h1n hin (hc.below hw) hb
    have hlen : rest.length = n - 1 := by simp at hn; omega
    show Calls _ _ _ _ fun e w' => e = .returned (.agg #[.int .i64 (ofTextsP id ⟨if (id = 49 ∨ id = 50) ∧ (a :: rest).length = 1 then [⟨1, 1⟩] else rest.map nmOf, [(asTxt a).t], false⟩).k, .int .i64 (ofTextsP id ⟨if (id = 49 ∨ id = 50) ∧ (a :: rest).length = 1 then [⟨1, 1⟩] else rest.map nmOf, [(asTxt a).t], false⟩).n, .int .i64 (ofTextsP id ⟨if (id = 49 ∨ id = 50) ∧ (a :: rest).length = 1 then [⟨1, 1⟩] else rest.map nmOf, [(asTxt a).t], false⟩).d, .string (ofTextsP id ⟨if (id = 49 ∨ id = 50) ∧ (a :: rest).length = 1 then [⟨1, 1⟩] else rest.map nmOf, [(asTxt a).t], false⟩).t, .bool (ofTextsP id ⟨if (id = 49 ∨ id = 50) ∧ (a :: rest).length = 1 then [⟨1, 1⟩] else rest.map nmOf, [(asTxt a).t], false⟩).b, .int .i64 (ofTextsP id ⟨if (id = 49 ∨ id = 50) ∧ (a :: rest).length = 1 then [⟨1, 1⟩] else rest.map nmOf, [(asTxt a).t], false⟩).f]) ∧ _
    generalize (asTxt a).t = s at *
    by_cases h1 : n = 1
    · subst h1
      obtain rfl : rest = [] := List.length_eq_zero_iff.1 (by simpa using hlen)
      have HC : ∀ (wx : World) (a2 : Option Addr) (c2 h : Nat), NmAt wx a2 [] → h < wx.heap.size → wx.cell? ⟨h, 0, none⟩ = some (.int .i64 0) → Calls Tryz.prog 103 #[.slice a2 0 c2, .slice (some ⟨h, 0, none⟩) 1 1] wx fun e w' => ∃ (b : Option Addr) (cap : Nat), e = .returned (.tuple #[.slice b 0 cap, .bool true]) ∧ Below wx.heap.size wx w' ∧ True := by
        intro wx a2 c2 h hr hh hcell
        refine (counts_yes [] [0] a2 0 c2 h 1 1 wx rfl (by omega) rfl (by omega) (by omega) (by simp) hr hh (ls1 hcell) rfl).mono ?_
        rintro e w' ⟨b, cap, h1, h2, _⟩
        exact ⟨b, cap, h1, h2, trivial⟩
      rcases hcase with ⟨rfl | rfl | rfl | rfl, _⟩ | ⟨rfl | rfl, _⟩ | ⟨_, h⟩ | ⟨_, h⟩
      · have e : ofTextsP 48 ⟨if ((48 : Int) = 49 ∨ (48 : Int) = 50) ∧ [a].length = 1 then [⟨1, 1⟩] else ([] : List Vl).map nmOf, [s], false⟩ = numF s.size 1 := by
          rw [(ot_one _ _ _).1, wholeF_small (by omega) (by omega)]
        rw [e]
        exact rw_len _ s a g off lc w hs HA hgw hlc c0 c1 c2 c3 c4 c5 [] HN HC fun wx => r7_whole _ wx ⟨by omega, by omega⟩
      · rw [(ot_one _ _ _).2.1]
        exact rw_up _ _ s a g off lc w hs HA hgw hlc c0 c1 c2 c3 c4 c5 [] HN HC (fun wx => r7_lettered_up s wx hs) (fun wx => r2_Text (upT s) wx (by rw [up_size]; omega))
      · rw [(ot_one _ _ _).2.2.1]
        exact rw_lo _ _ s a g off lc w hs HA hgw hlc c0 c1 c2 c3 c4 c5 [] HN HC (fun wx => r7_lettered_lo s wx hs) (fun wx => r2_Text (loT s) wx (by rw [lo_size]; omega))
      · rw [(ot_one _ _ _).2.2.2]
        exact rw_trim _ _ s a g off lc w hs HA hgw hlc c0 c1 c2 c3 c4 c5 [] HN HC (fun wx => r7_trimmed s wx hs hp) (fun wx => r2_Text (trT s) wx (by have := (trim_ok hp hs).2; omega))
      · rw [if_pos ⟨.inl rfl, rfl⟩, ot_piece (.inl rfl), p49, one01.1, one01.2, if_neg (by decide)]
        exact rw_left1 _ _ s a g off lc w hs HA hgw hlc c0 c1 c2 c3 c4 c5 [] HN HC (cut_left s 1) (fun wx => r2_Text _ wx (by have := cut_size s 0 1; omega))
      · rw [if_pos ⟨.inr rfl, rfl⟩, ot_piece (.inr (.inl rfl)), p50, one01.1, one01.2, if_neg (by decide)]
        exact rw_right1 _ _ s a g off lc w hs HA hgw hlc c0 c1 c2 c3 c4 c5 [] HN HC (cut_right s 1) (fun wx => r2_Text _ wx (by unfold endT; rw [ByteArray.size_extract]; omega))
      · omega
      · omega
    by_cases h2 : n = 2
    · subst h2
      obtain ⟨b, rfl⟩ := len1 (by simpa using hlen : rest.length = 1)
      have hy := nmOf_i64 b
      rw [if_neg (by simp)]
      simp only [List.map_cons, List.map_nil] at HN ⊢
      generalize nmOf b = y at *
      have hin2 : ∀ x ∈ ([y] : List Nm), I64 x.n ∧ I64 x.d := by intro x hx; rw [List.mem_singleton.1 hx]; exact hy
      have HCn : cntB y 0 = false → ∀ (wx : World) (a2 : Option Addr) (c2 h : Nat), NmAt wx a2 [y] → h < wx.heap.size → wx.cell? ⟨h, 0, none⟩ = some (.int .i64 0) → Calls Tryz.prog 103 #[.slice a2 1 c2, .slice (some ⟨h, 0, none⟩) 1 1] wx fun e w' => ∃ t, e = .returned (.tuple #[t, .bool false]) ∧ Below wx.heap.size wx w' := fun hno wx a2 c2 h hr hh hcell =>
        counts_no [y] [0] a2 1 c2 h 1 1 wx rfl (by omega) rfl (by omega) (by omega) hin2 hr hh (ls1 hcell) (by rw [cnt1]; exact hno)
      have HCy : cntB y 0 = true → ∀ (wx : World) (a2 : Option Addr) (c2 h : Nat), NmAt wx a2 [y] → h < wx.heap.size → wx.cell? ⟨h, 0, none⟩ = some (.int .i64 0) → Calls Tryz.prog 103 #[.slice a2 1 c2, .slice (some ⟨h, 0, none⟩) 1 1] wx fun e w' => ∃ (b : Option Addr) (cap : Nat), e = .returned (.tuple #[.slice b 1 cap, .bool true]) ∧ Below wx.heap.size wx w' ∧ ∃ g2 : Nat, b = some ⟨g2, 0, none⟩ ∧ 1 ≤ cap ∧ g2 < w'.heap.size ∧ w'.cell? ⟨g2, 0, none⟩ = some (.int .i64 (cntN y)) := by
        intro hy1 wx a2 c2 h hr hh hcell
        refine (counts_yes [y] [0] a2 1 c2 h 1 1 wx rfl (by omega) rfl (by omega) (by omega) hin2 hr hh (ls1 hcell) (by rw [cnt1]; exact hy1)).mono ?_
        rintro e w' ⟨b, cap, h1, h2, h3⟩
        obtain ⟨g2, rfl, h4, h5, h6⟩ := h3 (by omega)
        refine ⟨_, cap, h1, h2, g2, rfl, h4, h5, ?_⟩
        rw [← (cntN_of hy1 (by decide)).1]
        exact h6 0 y rfl
      cases hcy : cntB y 0
      · have HCn := HCn hcy
        rcases hcase with ⟨_, h⟩ | ⟨rfl | rfl, _⟩ | ⟨rfl | rfl, _⟩ | ⟨_, h⟩
        · omega
        · rw [ot_piece (.inl rfl), p49, if_pos hcy]
          exact rw_no49 _ s a g off lc w hs HA hgw hlc c0 c1 c2 c3 c4 c5 [y] HN HCn r7_arg
        · rw [ot_piece (.inr (.inl rfl)), p50, if_pos hcy]
          exact rw_no50 _ s a g off lc w hs HA hgw hlc c0 c1 c2 c3 c4 c5 [y] HN HCn r7_arg
        · rw [ot_piece (.inr (.inr (.inr rfl))), p52, if_pos hcy]
          exact rw_no52 _ s a g off lc w hs HA hgw hlc c0 c1 c2 c3 c4 c5 [y] HN HCn r7_arg
        · exact absurd rfl h53
        · omega
      · have HCy := HCy hcy
        obtain ⟨e1, e2, e3⟩ := cntN_of hcy (by decide)
        rw [e1] at e2 e3
        have hnf : ¬ cntB y 0 = false := by rw [hcy]; decide
        rcases hcase with ⟨_, h⟩ | ⟨rfl | rfl, _⟩ | ⟨rfl | rfl, _⟩ | ⟨_, h⟩
        · omega
        · rw [ot_piece (.inl rfl), p49, if_neg hnf]
          exact rw_left2 _ _ s a g off lc w hs HA hgw hlc c0 c1 c2 c3 c4 c5 [y] HN (cntN y) HCy (cut_left s _) (fun wx => r2_Text _ wx (by have := cut_size s 0 (cntN y); omega))
        · rw [ot_piece (.inr (.inl rfl)), p50, if_neg hnf]
          exact rw_right2 _ _ s a g off lc w hs HA hgw hlc c0 c1 c2 c3 c4 c5 [y] HN (cntN y) HCy (cut_right s _) (fun wx => r2_Text _ wx (by unfold endT; rw [ByteArray.size_extract]; omega))
        · rw [ot_piece (.inr (.inr (.inr rfl))), p52, if_neg hnf]
          by_cases hl : 256 < s.size * cntN y
          · rw [if_pos hl]
            have h0 : 0 < s.size := by
              rcases Nat.eq_zero_or_pos s.size with h | h
              · rw [h] at hl; simp at hl
              · exact h
            refine rw_rept_long _ s a g off lc w hs HA hgw hlc c0 c1 c2 c3 c4 c5 [y] HN (cntN y) HCy h0 (by omega) ?_ (fun wx => r2_Fault 7 wx)
            refine Int.ediv_lt_of_lt_mul (by omega) ?_
            rw [← Int.natCast_mul, Nat.mul_comm]
            omega
          · rw [if_neg hl]
            by_cases h0 : s.size = 0
            · rw [nil_of_size h0, rep_none]
              rw [nil_of_size h0] at HA hs
              exact rw_rept0 _ ⟨#[]⟩ a g off lc w hs HA hgw hlc c0 c1 c2 c3 c4 c5 [y] HN (cntN y) HCy rfl (fun wx => r2_Text _ wx (by decide))
            · refine rw_rept _ s a g off lc w hs HA hgw hlc c0 c1 c2 c3 c4 c5 [y] HN (cntN y) HCy (by omega) (by omega) ?_ (by rw [Nat.mul_comm]; omega) (fun wx => r2_Text _ wx (by rw [repT_size, Nat.mul_comm]; omega))
              refine Int.not_lt.2 (Int.le_ediv_of_mul_le (by omega) ?_)
              rw [← Int.natCast_mul, Nat.mul_comm]
              omega
        · exact absurd rfl h53
        · omega
    · obtain ⟨rfl, rfl⟩ : id = 51 ∧ n = 3 := by omega
      obtain ⟨b, c, rfl⟩ := len2 (by simpa using hlen : rest.length = 2)
      have hy := nmOf_i64 b
      have hz := nmOf_i64 c
      rw [if_neg (by simp)]
      simp only [List.map_cons, List.map_nil] at HN ⊢
      generalize nmOf b = y at *
      generalize nmOf c = z at *
      have hin2 : ∀ x ∈ ([y, z] : List Nm), I64 x.n ∧ I64 x.d := by
        intro x hx
        rcases List.mem_cons.1 hx with rfl | hx
        · exact hy
        · rw [List.mem_singleton.1 hx]; exact hz
      rw [ot_piece (.inr (.inr (.inl rfl))), p51]
      cases hcy : (cntB y 1 && cntB z 0)
      · rw [if_neg (by decide)]
        exact rw_no51 _ s a g off lc w hs HA hgw hlc c0 c1 c2 c3 c4 c5 [y, z] HN (fun wx a2 c2 h hr hh hcell hcell2 =>
          counts_no [y, z] [1, 0] a2 2 c2 h 2 2 wx rfl (by omega) rfl (by omega) (by omega) hin2 hr hh (ls2 hcell hcell2) (by rw [cnt2]; exact hcy)) r7_arg
      · rw [if_pos rfl]
        obtain ⟨hy1, hz1⟩ := Bool.and_eq_true_iff.1 hcy
        obtain ⟨e1, e2, e3⟩ := cntN_of hy1 (by decide)
        obtain ⟨d1, d2, d3⟩ := cntN_of hz1 (by decide)
        rw [e1] at e2 e3
        rw [d1] at d2 d3
        refine rw_mid _ _ s a g off lc w hs HA hgw hlc c0 c1 c2 c3 c4 c5 [y, z] HN (cntN y) (cntN z) ?_ (by omega) (by omega) (by omega) (cut_mid s (cntN y) (cntN z) (by omega)) (fun wx => r2_Text _ wx (by have := cut_size s (cntN y - 1) (cntN z); omega))
        intro wx a2 c2 h hr hh hcell hcell2
        refine (counts_yes [y, z] [1, 0] a2 2 c2 h 2 2 wx rfl (by omega) rfl (by omega) (by omega) hin2 hr hh (ls2 hcell hcell2) (by rw [cnt2]; exact hcy)).mono ?_
        rintro e w' ⟨b, cap, h1, h2, h3⟩
        obtain ⟨g2, rfl, h4, h5, h6⟩ := h3 (by omega)
        refine ⟨_, cap, h1, h2, g2, rfl, h4, h5, ?_, ?_⟩
        · rw [← e1]; exact h6 0 y rfl
        · rw [← d1]; exact h6 1 z rfl
end Go.Proofs.YtglngfaagjgpjaaGreatDoor
