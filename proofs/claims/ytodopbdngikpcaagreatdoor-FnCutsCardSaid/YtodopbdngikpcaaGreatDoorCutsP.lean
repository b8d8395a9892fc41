/- FnCuts without the program: what Apply answers at LEFT, MID, RIGHT, FIND and LEN of a text, and how the pieces lie in it. -/
import Derived.Test.YtodopbdngikpcaaGreatDoorApPQ
namespace Go.Proofs.YtodopbdngikpcaaGreatDoor
open Go Go.RowKit
set_option linter.unusedSimpArgs false
set_option linter.unusedVariables false

/-- A piece as a list. -/
theorem cut_list (s : ByteArray) (a k : Nat) : (cutT s a k).data.toList = (s.data.toList.drop a).take k := by
  have hl : s.data.toList.length = s.size := Array.length_toList
  have hd : s.data.toList.drop (min a s.size) = s.data.toList.drop a := by
    rcases Nat.le_total a s.size with h | h
    · rw [Nat.min_eq_left h]
    · rw [Nat.min_eq_right h, List.drop_of_length_le (by omega), List.drop_of_length_le (by omega)]
  unfold cutT
  rw [txt_drop, txt_ext, txt_list, txt_list, hd, List.drop_zero, Nat.sub_zero]
  rw [List.take_eq_take_iff, List.length_drop]
  omega
theorem cut_len (s : ByteArray) (a k : Nat) : (cutT s a k).size = min k (s.size - a) := by
  have h := cut_list s a k
  have e : (cutT s a k).size = (cutT s a k).data.toList.length := Array.length_toList.symm
  have hl : s.data.toList.length = s.size := Array.length_toList
  rw [e, h, List.length_take, List.length_drop, hl]
theorem end_len (s : ByteArray) (k : Nat) : (endT s k).size = min k s.size := by
  unfold endT
  rw [ByteArray.size_extract]
  omega
theorem end_tail (s : ByteArray) (k : Nat) : s.extract (s.size - (endT s k).size) s.size = endT s k := by
  rw [end_len]
  rfl
/-- Where a list stands in another one, it stands there first at its index. -/
theorem index_at (s p : List UInt8) : ∀ a : Nat, a ≤ s.length → Lib.occAt s p a = true → ∃ i : Nat, Lib.index s p = i ∧ i ≤ a ∧ Lib.occAt s p i = true ∧ ∀ j, j < i → Lib.occAt s p j = false := by
  intro a
  induction a using Nat.strongRecOn with
  | ind a ih =>
    intro ha ho
    by_cases h : ∃ j, j < a ∧ Lib.occAt s p j = true
    · obtain ⟨j, hj, hoj⟩ := h
      obtain ⟨i, h1, h2, h3, h4⟩ := ih j hj (by omega) hoj
      exact ⟨i, h1, by omega, h3, h4⟩
    · have hno : ∀ j, j < a → Lib.occAt s p j = false := by
        intro j hj
        cases hh : Lib.occAt s p j
        · rfl
        · exact absurd ⟨j, hj, hh⟩ h
      exact ⟨a, Lib.index_first ha ho hno, Nat.le_refl _, ho, hno⟩
/-- A piece of a text stands in it. -/
theorem find_piece (s : ByteArray) (n m : Nat) : ∃ i : Nat, Lib.index s.data.toList (cutT s n m).data.toList = i ∧ i ≤ min n s.size ∧ i + (cutT s n m).size ≤ s.size ∧ s.extract i (i + (cutT s n m).size) = cutT s n m ∧
    ∀ j, j < i → ¬ s.extract j (j + (cutT s n m).size) = cutT s n m := by
  have hl : s.data.toList.length = s.size := Array.length_toList
  have hpl : (cutT s n m).data.toList.length = (cutT s n m).size := Array.length_toList
  have hd : s.data.toList.drop (min n s.size) = s.data.toList.drop n := by
    rcases Nat.le_total n s.size with h | h
    · rw [Nat.min_eq_left h]
    · rw [Nat.min_eq_right h, List.drop_of_length_le (by omega), List.drop_of_length_le (by omega)]
  have ho : Lib.occAt s.data.toList (cutT s n m).data.toList (min n s.size) = true := by
    unfold Lib.occAt
    rw [hd, cut_list, List.isPrefixOf_iff_prefix]
    exact List.take_prefix _ _
  obtain ⟨i, h1, h2, h3, h4⟩ := index_at _ _ (min n s.size) (by omega) ho
  have key : ∀ j : Nat, s.extract j (j + (cutT s n m).size) = cutT s n m ↔ (s.data.toList.drop j).take (cutT s n m).size = (cutT s n m).data.toList := by
    intro j
    rw [txt_ext, show j + (cutT s n m).size - j = (cutT s n m).size by omega]
    constructor
    · intro h
      rw [← h, txt_list]
      rw [h]
    · intro h
      rw [h, txt_of]
  unfold Lib.occAt at h3 h4
  rw [List.isPrefixOf_iff_prefix] at h3
  refine ⟨i, h1, h2, ?_, ?_, ?_⟩
  · have := h3.length_le
    rw [List.length_drop] at this
    omega
  · rw [key]
    have := List.prefix_iff_eq_take.1 h3
    rw [hpl] at this
    exact this.symm
  · intro j hj he
    have hf := h4 j hj
    rw [key] at he
    have : (cutT s n m).data.toList.isPrefixOf (s.data.toList.drop j) = true := by
      rw [List.isPrefixOf_iff_prefix, ← he]
      exact List.take_prefix _ _
    rw [this] at hf
    cases hf
theorem rightN_one {n : Int} (h0 : 0 ≤ n) (h1 : n ≤ 1000000000000) : rightN n 1 = true := rightN_iff.2 ⟨by omega, h1, by decide, by decide, by simp⟩
theorem tkV_text {s : ByteArray} (hp : plainT s = true) (hs : s.size ≤ 256) : tkV (textV s) = textV s := by
  refine tkV_of ?_
  unfold rightV textV
  simp [veq_true.2, hp, hs]
theorem tkV_num {n : Int} (h0 : 0 ≤ n) (h1 : n ≤ 1000000000000) : tkV (numV n 1) = numV n 1 := tkV_of (rightV_num.trans (rightN_one h0 h1))
theorem asTxt_text {s : ByteArray} (hp : plainT s = true) (hs : s.size ≤ 256) : asTxt (textV s) = ⟨s, blankV⟩ := by
  unfold asTxt
  rw [tkV_text hp hs]
  rfl
theorem asNum_one {n : Int} (h0 : 0 ≤ n) (h1 : n ≤ 1000000000000) : asNum (numV n 1) = ⟨n, 1, blankV⟩ := by
  unfold asNum
  rw [tkV_num h0 h1]
  rfl
theorem numF_one {n : Int} (h0 : 0 ≤ n) (h1 : n ≤ 1000000000000) : numF n 1 = numV n 1 := by
  unfold numF
  rw [tk_of (rightN_one h0 h1)]
theorem mk_one {n : Int} (h0 : 0 ≤ n) (h1 : n ≤ 1000000000000) : mk n 1 = ⟨n, 1, true⟩ := by
  unfold mk
  rw [if_neg (by decide)]
  have e1 : Nat.gcd n.natAbs (1 : Int).natAbs = 1 := by simp
  rw [e1]
  unfold signed
  rw [if_neg (by simp; omega)]
  have e2 : (decide (n < 0) != decide ((1 : Int) < 0)) = false := by simp [show ¬ n < 0 by omega]
  rw [e2]
  simp
  omega
theorem whole_one {n : Int} (h0 : 0 ≤ n) (h1 : n ≤ 1000000000000) : wholeF n = numV n 1 := by
  unfold wholeF
  rw [mk_one h0 h1]
  unfold toldF
  rw [if_pos rfl, numF_one h0 h1]
theorem textF_of {s : ByteArray} (hp : plainT s = true) (hs : s.size ≤ 256) : textF s = textV s := by
  unfold textF
  rw [if_pos hp, if_neg (by omega)]
theorem cnt_one {n l : Int} (h0 : 0 ≤ n) (h1 : n ≤ 1000000000000) (hl : l ≤ n) : cntB ⟨n, 1⟩ l = true ∧ cntN ⟨n, 1⟩ = n.toNat := by
  have e : tk n 1 = ⟨n, 1⟩ := tk_of (rightN_one h0 h1)
  unfold cntB cntN wholeB wholeN
  simp only [e]
  simp [hl]

section
variable {s : ByteArray} (hp : plainT s = true) (hs : s.size ≤ 256)
include hp hs
theorem apply_left {n : Nat} (hn : n ≤ 1000000000000) : applyP 49 [textV s, numV n 1] = textF (cutT s 0 n) := by
  have t1 := tkV_text hp hs
  have t2 := tkV_num (n := (n : Int)) (by omega) (by omega)
  have a1 := asTxt_text hp hs
  have a2 := asNum_one (n := (n : Int)) (by omega) (by omega)
  have c := cnt_one (n := (n : Int)) (l := 0) (by omega) (by omega) (by omega)
  have hr : refused 49 2 = false := by decide
  have hm : ((byIdL 49).getD sigZ).most = 2 := rfl
  unfold applyP
  rw [show ([textV s, numV n 1] : List Vl).length = 2 from rfl, hr, if_neg (by simp), if_neg (by decide), hm]
  rw [List.map_cons, List.map_cons, List.map_nil, t1, t2]
  have hk : takenP 49 [textV s, numV n 1] = ⟨⟨[⟨n, 1⟩], [s], false⟩, blankV⟩ := by
    show takeL [115, 110] [textV s, numV n 1] _ = _
    simp [takeL, takeStep, a1, a2, blankV]
  show doneP 49 (takenP 49 [textV s, numV n 1]) = _
  rw [hk]
  show pieceP 49 s [⟨n, 1⟩] = _
  unfold pieceP
  rw [if_neg (by decide), show nmAt [⟨(n : Int), 1⟩] 0 = ⟨n, 1⟩ from rfl, c.1, if_neg (by simp), if_neg (by decide), if_neg (by decide), c.2]
  simp
theorem apply_right' {n : Nat} (hn : n ≤ 1000000000000) : applyP 50 [textV s, numV n 1] = textF (endT s n) := by
  have t1 := tkV_text hp hs
  have t2 := tkV_num (n := (n : Int)) (by omega) (by omega)
  have a1 := asTxt_text hp hs
  have a2 := asNum_one (n := (n : Int)) (by omega) (by omega)
  have c := cnt_one (n := (n : Int)) (l := 0) (by omega) (by omega) (by omega)
  have hr : refused 50 2 = false := by decide
  have hm : ((byIdL 50).getD sigZ).most = 2 := rfl
  unfold applyP
  rw [show ([textV s, numV n 1] : List Vl).length = 2 from rfl, hr, if_neg (by simp), if_neg (by decide), hm]
  rw [List.map_cons, List.map_cons, List.map_nil, t1, t2]
  have hk : takenP 50 [textV s, numV n 1] = ⟨⟨[⟨n, 1⟩], [s], false⟩, blankV⟩ := by
    show takeL [115, 110] [textV s, numV n 1] _ = _
    simp [takeL, takeStep, a1, a2, blankV]
  show doneP 50 (takenP 50 [textV s, numV n 1]) = _
  rw [hk]
  show pieceP 50 s [⟨n, 1⟩] = _
  unfold pieceP
  rw [if_neg (by decide), show nmAt [⟨(n : Int), 1⟩] 0 = ⟨n, 1⟩ from rfl, c.1, if_neg (by simp), if_neg (by decide), if_pos rfl, c.2]
  simp
theorem apply_mid {n m : Nat} (hn : n ≤ 1000000000) (hm : m ≤ 1000000000000) : applyP 51 [textV s, numV ((n : Int) + 1) 1, numV m 1] = textF (cutT s n m) := by
  have t1 := tkV_text hp hs
  have t2 := tkV_num (n := (n : Int) + 1) (by omega) (by omega)
  have t3 := tkV_num (n := (m : Int)) (by omega) (by omega)
  have a1 := asTxt_text hp hs
  have a2 := asNum_one (n := (n : Int) + 1) (by omega) (by omega)
  have a3 := asNum_one (n := (m : Int)) (by omega) (by omega)
  have c := cnt_one (n := (n : Int) + 1) (l := 1) (by omega) (by omega) (by omega)
  have d := cnt_one (n := (m : Int)) (l := 0) (by omega) (by omega) (by omega)
  have hr : refused 51 3 = false := by decide
  have hmm : ((byIdL 51).getD sigZ).most = 3 := rfl
  unfold applyP
  rw [show ([textV s, numV ((n : Int) + 1) 1, numV m 1] : List Vl).length = 3 from rfl, hr, if_neg (by simp), if_neg (by decide), hmm]
  rw [List.map_cons, List.map_cons, List.map_cons, List.map_nil, t1, t2, t3]
  have hk : takenP 51 [textV s, numV ((n : Int) + 1) 1, numV m 1] = ⟨⟨[⟨(n : Int) + 1, 1⟩, ⟨m, 1⟩], [s], false⟩, blankV⟩ := by
    show takeL [115, 110, 110] [textV s, numV ((n : Int) + 1) 1, numV m 1] _ = _
    simp [takeL, takeStep, a1, a2, a3, blankV]
  show doneP 51 (takenP 51 [textV s, numV ((n : Int) + 1) 1, numV m 1]) = _
  have hd : ∀ ns, doneP 51 ⟨⟨ns, [s], false⟩, blankV⟩ = pieceP 51 s ns := fun ns => rfl
  rw [hk, hd]
  unfold pieceP
  rw [if_pos rfl, show nmAt [⟨(n : Int) + 1, 1⟩, ⟨(m : Int), 1⟩] 0 = ⟨(n : Int) + 1, 1⟩ from rfl, show nmAt [⟨(n : Int) + 1, 1⟩, ⟨(m : Int), 1⟩] 1 = ⟨m, 1⟩ from rfl, c.1, d.1, c.2, d.2]
  have e : ((n : Int) + 1).toNat - 1 = n := by omega
  simp [e]
theorem apply_find {p : ByteArray} (hp' : plainT p = true) (hs' : p.size ≤ 256) : applyP 53 [textV p, textV s] = findV p s := by
  have t1 := tkV_text hp hs
  have t2 := tkV_text hp' hs'
  have a1 := asTxt_text hp hs
  have a2 := asTxt_text hp' hs'
  have hr : refused 53 2 = false := by decide
  have hm : ((byIdL 53).getD sigZ).most = 2 := rfl
  unfold applyP
  rw [show ([textV p, textV s] : List Vl).length = 2 from rfl, hr, if_neg (by simp), if_neg (by decide), hm]
  rw [List.map_cons, List.map_cons, List.map_nil, t1, t2]
  have hk : takenP 53 [textV p, textV s] = ⟨⟨[], [p, s], false⟩, blankV⟩ := by
    show takeL [115, 115] [textV p, textV s] _ = _
    simp [takeL, takeStep, a1, a2, blankV]
  show doneP 53 (takenP 53 [textV p, textV s]) = _
  rw [hk]
  rfl
theorem apply_len : applyP 48 [textV s] = numV s.size 1 := by
  have t1 := tkV_text hp hs
  have a1 := asTxt_text hp hs
  have hr : refused 48 1 = false := by decide
  have hm : ((byIdL 48).getD sigZ).most = 1 := rfl
  unfold applyP
  rw [show ([textV s] : List Vl).length = 1 from rfl, hr, if_neg (by simp), if_neg (by decide), hm]
  rw [List.map_cons, List.map_nil, t1]
  have hk : takenP 48 [textV s] = ⟨⟨[], [s], false⟩, blankV⟩ := by
    show takeL [115] [textV s] _ = _
    simp [takeL, takeStep, a1, blankV]
  show doneP 48 (takenP 48 [textV s]) = _
  rw [hk]
  show wholeF (s.size : Int) = _
  exact whole_one (by omega) (by omega)
theorem cut_plain (a k : Nat) : plainT (cutT s a k) = true ∧ (cutT s a k).size ≤ 256 :=
  ⟨plain_extract (plain_extract hp _ _) _ _, Nat.le_trans (cut_size s a k) hs⟩
theorem end_plain (k : Nat) : plainT (endT s k) = true ∧ (endT s k).size ≤ 256 :=
  ⟨plain_extract hp _ _, by unfold endT; rw [ByteArray.size_extract]; omega⟩
theorem join_first (n : Nat) : joinV (textV ⟨#[]⟩) (textV (cutT s 0 n)) = textV (cutT s 0 n) := by
  have l := cut_plain hp hs 0 n
  have e0 : plainT ⟨#[]⟩ = true := by decide
  have z0 : (⟨#[]⟩ : ByteArray).size ≤ 256 := by decide
  unfold joinV
  rw [tkV_text e0 z0, tkV_text l.1 l.2, if_neg (by simp [textV]), if_neg (by simp [textV]), asTxt_text e0 z0, asTxt_text l.1 l.2]
  have e : (⟨#[]⟩ : ByteArray) ++ cutT s 0 n = cutT s 0 n := by
    apply ByteArray.ext
    apply Array.toList_inj.1
    rw [all_append]
    rfl
  show textF ((⟨#[]⟩ : ByteArray) ++ cutT s 0 n) = _
  rw [e, textF_of l.1 l.2]
theorem join_cuts (n : Nat) : joinV (joinV (textV ⟨#[]⟩) (textV (cutT s 0 n))) (textV (cutT s n 1000)) = textV s := by
  have l := cut_plain hp hs 0 n
  have r := cut_plain hp hs n 1000
  rw [join_first hp hs n]
  unfold joinV
  rw [tkV_text l.1 l.2, tkV_text r.1 r.2, if_neg (by simp [textV]), if_neg (by simp [textV]), asTxt_text l.1 l.2, asTxt_text r.1 r.2]
  have e : cutT s 0 n ++ cutT s n 1000 = s := by
    have hl : s.data.toList.length = s.size := Array.length_toList
    apply ByteArray.ext
    apply Array.toList_inj.1
    have h2 : (s.data.toList.drop n).take 1000 = s.data.toList.drop n := List.take_of_length_le (by rw [List.length_drop]; omega)
    rw [all_append, cut_list, cut_list, List.drop_zero, h2, List.take_append_drop]
  show textF (cutT s 0 n ++ cutT s n 1000) = _
  rw [e, textF_of hp hs]
end
end Go.Proofs.YtodopbdngikpcaaGreatDoor
