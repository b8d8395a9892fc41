/- What funcs.Apply answers, as plain functions; no program in sight. What take hands on fits the function: how many texts and numbers, each right; no program in sight. FnFaults without the program: what Apply answers is right; what is refused; the first fault; those that ask for a kind. -/
import Derived.Test.YtglngfaagjgpjaaGreatDoorBx12
import Derived.Test.YtglngfaagjgpjaaGreatDoorBx13
namespace Go.Proofs.YtglngfaagjgpjaaGreatDoor
open Go Go.RowKit
set_option linter.unusedSimpArgs false
set_option linter.unusedVariables false

/-! results that count are right -/
theorem right_num (n d : Int) : rightV (numF n d) = true := by
  unfold numF
  rw [rightV_num]
  exact tk_right n d
theorem right_told (n d : Int) (ok : Bool) : rightV (toldF n d ok) = true := by
  unfold toldF
  split
  · exact right_num n d
  · decide
theorem right_wholeF (n : Int) : rightV (wholeF n) = true := right_told _ _ _
/-! the scalars -/
def firstFault : List Vl → Option Vl
  | [] => none
  | v :: vs => if v.k = 4 then some v else firstFault vs
/-- The arguments, with the last that may be left out. -/
def filled (id most : Int) (ts : List Vl) : List Vl :=
  if id = 43 ∧ ts.length = 1 then ts ++ [wholeF 0] else if (ts.length : Int) < most then ts ++ [wholeF 1] else ts
def takenP (id : Int) (ts : List Vl) : TkR := takeL (shapeB id).data.toList ts ⟨⟨[], [], false⟩, blankV⟩
def doneP (id : Int) (r : TkR) : Vl :=
  if r.e.k = 4 then r.e else if id = 47 then truthV (!r.s.tr) else if 0 < r.s.ts.length then ofTextsP id r.s else ofNumbersP id r.s.ns
/-- A scalar of values that count. -/
def scalarP (id most : Int) (ts : List Vl) : Vl :=
  match askK id with
  | some K => truthV ((ts.getD 0 blankV).k == K)
  | none =>
    match firstFault ts with
    | some v => v
    | none => if id = 46 then powVV (ts.getD 0 blankV) (ts.getD 1 blankV) else doneP id (takenP id (filled id most ts))
/-- What Apply refuses. -/
def refused (id : Int) (n : Nat) : Bool :=
  match byIdL id with
  | none => true
  | some S => !(S.cl == 4) || decide ((n : Int) < S.least) || decide (S.most < (n : Int))
def applyP (id : Int) (vs : List Vl) : Vl :=
  if refused id vs.length then faultF 2 else if id = 62 then faultF 5 else scalarP id (((byIdL id).getD sigZ).most) (vs.map tkV)

/-! what take hands on -/
theorem mk_ok_right {n d : Int} (h : (mk n d).ok = true) : rightN (mk n d).n (mk n d).d = true := by
  unfold mk at h ⊢
  by_cases h0 : d = 0
  · rw [if_pos h0] at h; cases h
  rw [if_neg h0] at h ⊢
  have hg : 0 < Nat.gcd n.natAbs d.natAbs := Nat.gcd_pos_of_pos_right _ (by omega)
  have hc := Nat.gcd_div_gcd_div_gcd_of_pos_right (n := n.natAbs) (m := d.natAbs) (by omega)
  have hY : 0 < d.natAbs / Nat.gcd n.natAbs d.natAbs := Nat.div_pos (Nat.gcd_le_right _ (by omega)) hg
  generalize n.natAbs / Nat.gcd n.natAbs d.natAbs = X at *
  generalize d.natAbs / Nat.gcd n.natAbs d.natAbs = Y at *
  unfold signed at h ⊢
  by_cases ho : 1000000000000 < X ∨ 1000000 < Y
  · rw [if_pos ho] at h; cases h
  rw [if_neg ho]
  rw [rightN_iff]
  refine ⟨?_, ?_, by show 1 ≤ (Y : Int); omega, by show (Y : Int) ≤ 1000000; omega, ?_⟩
  · simp only; split <;> omega
  · simp only; split <;> omega
  · simp only
    split
    · simpa using hc
    · simpa using hc
theorem readN_right {l : List UInt8} (h : (readN l).ok = true) : rightN (readN l).n (readN l).d = true := by
  unfold readN readS at h ⊢
  generalize Lib.hasPrefix l [45] = m at *
  generalize digits (Lib.trimPrefix l [45]) = D at *
  generalize D.rest = r at *
  generalize D.ok = ok at *
  generalize D.n = k at *
  clear D
  cases r with
  | nil =>
    simp only [readP] at h ⊢
    cases ok
    · simp [badB] at h
    · simp only [if_true] at h ⊢; exact mk_ok_right h
  | cons c r =>
    simp only [readP] at h ⊢
    by_cases a1 : ok = false ∨ (digits r).ok = false ∨ (digits r).rest ≠ []
    · rw [if_pos a1] at h; simp [badB] at h
    rw [if_neg a1] at h ⊢
    by_cases a2 : c.toNat = 47
    · rw [if_pos a2] at h ⊢; exact mk_ok_right h
    rw [if_neg a2] at h ⊢
    by_cases a3 : c.toNat ≠ 46 ∨ 6 < r.length ∨ 1000000000000 < k
    · rw [if_pos a3] at h; simp [badB] at h
    rw [if_neg a3] at h ⊢
    exact mk_ok_right h
theorem asNum_right {v : Vl} (h : ¬ (asNum v).e.k = 4) : rightN (asNum v).n (asNum v).d = true := by
  unfold asNum asNumT at h ⊢
  have hr := tkV_right v
  generalize tkV v = x at *
  by_cases a1 : x.k = 1
  · rw [if_pos a1]
    rcases rightV_cases hr with e | ⟨hn, e⟩ | ⟨_, _, e⟩ | e | ⟨_, _, e⟩
    · rw [e] at a1; cases a1
    · exact hn
    · rw [e] at a1; cases a1
    · rw [e] at a1; cases a1
    · rw [e] at a1; cases a1
  rw [if_neg a1] at h ⊢
  by_cases a3 : x.k = 3
  · rw [if_pos a3]; split <;> decide
  rw [if_neg a3] at h ⊢
  by_cases a0 : x.k = 0
  · rw [if_pos a0]; decide
  rw [if_neg a0] at h ⊢
  by_cases a2 : x.k = 2
  · rw [if_pos a2] at h ⊢
    by_cases ho : (readN x.t.data.toList).ok = true
    · rw [if_pos ho]; exact readN_right ho
    · rw [if_neg ho] at h; exact absurd rfl h
  · rw [if_neg a2] at h
    rcases rightV_k hr with e | e | e | e | e
    · exact absurd e a0
    · exact absurd e a1
    · exact absurd e a2
    · exact absurd e a3
    · exact absurd e h
end Go.Proofs.YtglngfaagjgpjaaGreatDoor
namespace Go.Proofs.YtglngfaagjgpjaaGreatDoor
open Go Go.RowKit
set_option linter.unusedSimpArgs false
set_option linter.unusedVariables false

/-! texts of values are plain -/
theorem all_append (a b : ByteArray) : (a ++ b).data.toList = a.data.toList ++ b.data.toList := by simp
theorem okc_dec : ∀ u : Nat, (Lib.decDigits u).all okc = true := by
  intro u
  induction u using Nat.strongRecOn with
  | ind u ih =>
    rw [Lib.decDigits]
    split
    · rename_i h
      have hu : u = 0 ∨ u = 1 ∨ u = 2 ∨ u = 3 ∨ u = 4 ∨ u = 5 ∨ u = 6 ∨ u = 7 ∨ u = 8 ∨ u = 9 := by omega
      rcases hu with rfl | rfl | rfl | rfl | rfl | rfl | rfl | rfl | rfl | rfl <;> decide
    · rename_i h
      rw [List.all_append, ih (u / 10) (by omega)]
      have hm : u % 10 = 0 ∨ u % 10 = 1 ∨ u % 10 = 2 ∨ u % 10 = 3 ∨ u % 10 = 4 ∨ u % 10 = 5 ∨ u % 10 = 6 ∨ u % 10 = 7 ∨ u % 10 = 8 ∨ u % 10 = 9 := by omega
      rcases hm with e | e | e | e | e | e | e | e | e | e <;> rw [e] <;> decide
theorem okc_itoa (n : Int) : (Lib.itoa n).all okc = true := by
  unfold Lib.itoa
  split
  · rw [List.all_cons, okc_dec]; decide
  · exact okc_dec _
theorem plain_itoa (n : Int) : plainT (itoaB n) = true := by
  rw [plainT_eq]
  show ((Lib.itoa n).toArray.toList).all okc = true
  exact okc_itoa n
theorem plain_append {a b : ByteArray} (ha : plainT a = true) (hb : plainT b = true) : plainT (a ++ b) = true := by
  rw [plainT_eq] at ha hb ⊢
  rw [all_append, List.all_append, ha, hb]
  rfl
theorem plain_extract {a : ByteArray} (ha : plainT a = true) (i j : Nat) : plainT (a.extract i j) = true := by
  rw [plainT_eq] at ha ⊢
  rw [txt_ext, txt_list]
  rw [List.all_eq_true] at ha ⊢
  intro x hx
  exact ha x (List.mem_of_mem_drop (List.mem_of_mem_take hx))
theorem plain_trimZ {a : ByteArray} (ha : plainT a = true) : plainT (trimZ a) = true := by
  rw [plainT_eq] at ha ⊢
  show ((Lib.trimRightB a.data.toList 48).toArray.toList).all okc = true
  rw [List.all_eq_true] at ha ⊢
  intro x hx
  refine ha x ?_
  have h2 : x ∈ Lib.trimRightB a.data.toList 48 := by simpa using hx
  unfold Lib.trimRightB at h2
  rw [List.mem_reverse] at h2
  have := (List.dropWhile_sublist (· == (48 : UInt8)) (l := a.data.toList.reverse)).mem h2
  exact List.mem_reverse.1 this
theorem plain_sg (n : Int) : plainT (sgB n) = true := by unfold sgB; split <;> decide
theorem plain_textN (n d : Int) : plainT (textN n d) = true := by
  unfold textN textX
  have e1 : plainT ⟨#[47]⟩ = true := by decide
  have e2 : plainT ⟨#[46]⟩ = true := by decide
  repeat' split
  · exact plain_append (plain_append (plain_append (plain_sg _) (plain_itoa _)) e1) (plain_itoa _)
  · exact plain_append (plain_sg _) (plain_itoa _)
  · exact plain_append (plain_append (plain_append (plain_sg _) (plain_itoa _)) e2) (plain_trimZ (plain_extract (plain_itoa _) _ _))
theorem asTxt_plain (x : Vl) : plainT (asTxt x).t = true := by
  unfold asTxt asTxtT
  have h := tkV_right x
  generalize tkV x = v at *
  have e0 : plainT noT = true := by decide
  split
  · exact e0
  · split
    · exact plain_textN _ _
    · split
      · show plainT (wordT v.b) = true
        unfold wordT
        split <;> decide
      · rcases rightV_cases h with h | ⟨_, h⟩ | ⟨_, h1, h⟩ | h | ⟨_, _, h⟩
        · rw [h]; exact e0
        · rw [h]; exact e0
        · exact h1
        · rw [h]; exact e0
        · rw [h]; exact e0

/-! which letters take what -/
def nsOf : List UInt8 → List Vl → List Nm
  | c :: cs, v :: vs => if c = 110 then ⟨(asNum v).n, (asNum v).d⟩ :: nsOf cs vs else nsOf cs vs
  | [], _ => []
  | _ :: _, [] => []
def tsOf : List UInt8 → List Vl → List ByteArray
  | c :: cs, v :: vs => if c = 110 then tsOf cs vs else if c = 115 then (asTxt v).t :: tsOf cs vs else tsOf cs vs
  | [], _ => []
  | _ :: _, [] => []
theorem take_ok : ∀ (cs : List UInt8) (vs : List Vl) (r : TkR), ¬ (takeL cs vs r).e.k = 4 →
    (takeL cs vs r).s.ns = r.s.ns ++ nsOf cs vs ∧ (takeL cs vs r).s.ts = r.s.ts ++ tsOf cs vs ∧ (∀ x ∈ nsOf cs vs, rightN x.n x.d = true)
  | [], vs, r, _ => by simp [takeL, nsOf, tsOf]
  | c :: cs, [], r, _ => by simp [takeL, nsOf, tsOf]
  | c :: cs, v :: vs, r, h => by
    unfold takeL at h ⊢
    by_cases h4 : (takeStep c v r.s).e.k = 4
    · rw [if_pos h4] at h; exact absurd h4 h
    rw [if_neg h4] at h ⊢
    obtain ⟨a1, a2, a3⟩ := take_ok cs vs _ h
    rw [a1, a2]
    unfold takeStep at h4 ⊢
    have eN : nsOf (c :: cs) (v :: vs) = if c = 110 then ⟨(asNum v).n, (asNum v).d⟩ :: nsOf cs vs else nsOf cs vs := rfl
    have eT : tsOf (c :: cs) (v :: vs) = if c = 110 then tsOf cs vs else if c = 115 then (asTxt v).t :: tsOf cs vs else tsOf cs vs := rfl
    rw [eN, eT]
    by_cases c1 : c = 110
    · simp only [if_pos c1] at h4 ⊢
      refine ⟨by simp, by simp, ?_⟩
      intro x hx
      rcases List.mem_cons.1 hx with rfl | hx
      · exact asNum_right h4
      · exact a3 x hx
    simp only [if_neg c1] at h4 ⊢
    by_cases c2 : c = 115
    · simp only [if_pos c2] at h4 ⊢
      exact ⟨by simp, by simp, a3⟩
    · simp only [if_neg c2] at h4 ⊢
      exact ⟨by simp, by simp, a3⟩
theorem tsOf_plain : ∀ (cs : List UInt8) (vs : List Vl), ∀ t ∈ tsOf cs vs, plainT t = true ∧ t.size ≤ 256
  | [], vs, t, h => by simp [tsOf] at h
  | c :: cs, [], t, h => by simp [tsOf] at h
  | c :: cs, v :: vs, t, h => by
    unfold tsOf at h
    split at h
    · exact tsOf_plain cs vs t h
    · split at h
      · rcases List.mem_cons.1 h with rfl | h
        · exact ⟨asTxt_plain v, asTxt_size v⟩
        · exact tsOf_plain cs vs t h
      · exact tsOf_plain cs vs t h
theorem nsOf_len : ∀ (cs : List UInt8) (vs : List Vl), (nsOf cs vs).length = ((cs.take vs.length).filter (· == 110)).length
  | [], vs => by simp [nsOf]
  | c :: cs, [] => by simp [nsOf]
  | c :: cs, v :: vs => by
    unfold nsOf
    by_cases h : c = 110
    · rw [if_pos h]; simp [h, nsOf_len cs vs]
    · rw [if_neg h]; simp [h, nsOf_len cs vs]
theorem tsOf_len : ∀ (cs : List UInt8) (vs : List Vl), (tsOf cs vs).length = ((cs.take vs.length).filter (· == 115)).length
  | [], vs => by simp [tsOf]
  | c :: cs, [] => by simp [tsOf]
  | c :: cs, v :: vs => by
    unfold tsOf
    by_cases h : c = 110
    · rw [if_pos h]; simp [h, tsOf_len cs vs]
    · rw [if_neg h]
      by_cases h' : c = 115
      · rw [if_pos h']; simp [h', tsOf_len cs vs]
      · rw [if_neg h']; simp [h', tsOf_len cs vs]

/-! what is not refused -/
theorem accepted {id : Int} {n : Nat} (h : refused id n = false) : ∃ S, byIdL id = some S ∧ S ∈ tableL ∧ S.id = id ∧ S.cl = 4 ∧ S.least ≤ n ∧ (n : Int) ≤ S.most := by
  unfold refused at h
  split at h
  · cases h
  · rename_i S hS
    simp only [Bool.or_eq_false_iff, Bool.not_eq_false', beq_iff_eq, decide_eq_false_iff_not] at h
    have hS' := hS
    unfold byIdL at hS'
    have hm := List.mem_of_find?_eq_some hS'
    have hp := List.find?_some hS'
    exact ⟨S, hS, hm, by simpa [isId] using hp, h.1.1, by omega, by omega⟩
def fillLen (id most : Int) (n : Nat) : Nat := if id = 43 ∧ n = 1 then n + 1 else if (n : Int) < most then n + 1 else n
theorem filled_len (id most : Int) (ts : List Vl) : (filled id most ts).length = fillLen id most ts.length := by
  unfold filled fillLen
  repeat' split
  all_goals simp
/-- Of each scalar of the table: how many texts and numbers it takes. -/
def rowFits (S : SigS) (n : Nat) : Bool :=
  let L := fillLen S.id S.most n
  let t := (((shapeB S.id).data.toList.take L).filter (· == 115)).length
  let m := (((shapeB S.id).data.toList.take L).filter (· == 110)).length
  decide (1 ≤ n) && decide (n ≤ 3) && decide (L ≤ (shapeB S.id).size) && decide (S.id = 46 → n = 2) &&
  (decide (S.id = 46) || decide (S.id = 47) || decide (58 ≤ S.id) ||
    (decide (1 ≤ t) && (decide (S.id = 48) || decide (S.id = 54) || decide (S.id = 55) || decide (S.id = 56) || (decide (S.id = 53) && decide (2 ≤ t)) || (decide (S.id = 49 ∨ S.id = 50 ∨ S.id = 51 ∨ S.id = 52) && decide (1 ≤ m) && decide (S.id = 51 → 2 ≤ m)))) ||
    (decide (t = 0) && decide (1 ≤ m) && decide (S.id = 43 ∨ S.id = 44 ∨ S.id = 45 → 2 ≤ m)))
theorem rows_fit : (tableL.all fun S => !(S.cl == 4) || (decide (40 ≤ S.id) && decide (S.id ≤ 62) && decide (S.most ≤ 3) && decide (S.id ≤ 61 → 1 ≤ S.least) &&
    (decide (S.id = 62) || ((List.range 4).all fun n => decide ((n : Int) < S.least) || decide (S.most < (n : Int)) || rowFits S n)))) = true := by decide
theorem accepted_fit {id : Int} {n : Nat} {S : SigS} (hm : S ∈ tableL) (hc : S.cl = 4) (h1 : S.least ≤ n) (h2 : (n : Int) ≤ S.most) : 40 ≤ S.id ∧ S.id ≤ 62 ∧ (S.id ≤ 61 → 1 ≤ n) ∧ (¬ S.id = 62 → rowFits S n = true) := by
  have := List.all_eq_true.1 rows_fit S hm
  simp only [hc, beq_self_eq_true, Bool.not_true, Bool.false_or, Bool.and_eq_true, Bool.or_eq_true, decide_eq_true_eq, List.all_eq_true, List.mem_range] at this
  obtain ⟨⟨⟨⟨a, b⟩, c⟩, d⟩, e⟩ := this
  refine ⟨a, b, fun h => by have := d h; omega, fun h => ?_⟩
  rcases e with e | e
  · exact absurd e h
  · rcases e n (by omega) with (e | e) | e
    · omega
    · omega
    · exact e
def tCnt (id most : Int) (n : Nat) : Nat := (((shapeB id).data.toList.take (fillLen id most n)).filter (· == 115)).length
def mCnt (id most : Int) (n : Nat) : Nat := (((shapeB id).data.toList.take (fillLen id most n)).filter (· == 110)).length
structure Fits (id most : Int) (n : Nat) : Prop where
  one : 1 ≤ n
  three : n ≤ 3
  len : fillLen id most n ≤ (shapeB id).size
  two : id = 46 → n = 2
  kind : ¬ id = 46 → ¬ id = 47 → id < 58 →
    (1 ≤ tCnt id most n ∧ (id = 48 ∨ id = 54 ∨ id = 55 ∨ id = 56 ∨ (id = 53 ∧ 2 ≤ tCnt id most n) ∨ ((id = 49 ∨ id = 50 ∨ id = 51 ∨ id = 52) ∧ 1 ≤ mCnt id most n ∧ (id = 51 → 2 ≤ mCnt id most n)))) ∨
    (tCnt id most n = 0 ∧ 1 ≤ mCnt id most n ∧ (id = 43 ∨ id = 44 ∨ id = 45 → 2 ≤ mCnt id most n))
theorem fits_of {S : SigS} {n : Nat} (h : rowFits S n = true) : Fits S.id S.most n := by
  unfold rowFits at h
  simp only [Bool.and_eq_true, Bool.or_eq_true, decide_eq_true_eq] at h
  obtain ⟨⟨⟨⟨h1, h2⟩, h3⟩, h4⟩, h5⟩ := h
  refine ⟨h1, h2, h3, h4, fun n46 n47 n58 => ?_⟩
  rcases h5 with (((h5 | h5) | h5) | ⟨t1, h5⟩) | ⟨⟨t0, m1⟩, h5⟩
  · exact absurd h5 n46
  · exact absurd h5 n47
  · omega
  · refine .inl ⟨t1, ?_⟩
    rcases h5 with ((((h | h) | h) | h) | h) | ⟨⟨h, h'⟩, h''⟩
    · exact .inl h
    · exact .inr (.inl h)
    · exact .inr (.inr (.inl h))
    · exact .inr (.inr (.inr (.inl h)))
    · exact .inr (.inr (.inr (.inr (.inl h))))
    · exact .inr (.inr (.inr (.inr (.inr ⟨h, h', h''⟩))))
  · exact .inr ⟨t0, m1, h5⟩
/-- What take has handed on, of values that are no faults, fits. -/
theorem taken_fits {id most : Int} {ts : List Vl} (hf : Fits id most ts.length) (h46 : ¬ id = 46) (h47 : ¬ id = 47) (h58 : id < 58) (h4 : ¬ (takenP id (filled id most ts)).e.k = 4) :
    (∀ x ∈ (takenP id (filled id most ts)).s.ns, rightN x.n x.d = true) ∧
    ((0 < (takenP id (filled id most ts)).s.ts.length ∧ TxFit id (takenP id (filled id most ts)).s) ∨
      ((takenP id (filled id most ts)).s.ts.length = 0 ∧ 1 ≤ (takenP id (filled id most ts)).s.ns.length ∧ (id = 43 ∨ id = 44 ∨ id = 45 → 2 ≤ (takenP id (filled id most ts)).s.ns.length))) := by
  obtain ⟨a1, a2, a3⟩ := take_ok (shapeB id).data.toList (filled id most ts) ⟨⟨[], [], false⟩, blankV⟩ h4
  have e1 : (takenP id (filled id most ts)).s.ns = nsOf (shapeB id).data.toList (filled id most ts) := by unfold takenP; rw [a1]; rfl
  have e2 : (takenP id (filled id most ts)).s.ts = tsOf (shapeB id).data.toList (filled id most ts) := by unfold takenP; rw [a2]; rfl
  have l1 : (takenP id (filled id most ts)).s.ns.length = mCnt id most ts.length := by rw [e1, nsOf_len, filled_len]; rfl
  have l2 : (takenP id (filled id most ts)).s.ts.length = tCnt id most ts.length := by rw [e2, tsOf_len, filled_len]; rfl
  have hr : ∀ x ∈ (takenP id (filled id most ts)).s.ns, rightN x.n x.d = true := by rw [e1]; exact a3
  refine ⟨hr, ?_⟩
  rcases hf.kind h46 h47 h58 with ⟨h, h'⟩ | ⟨h, h', h''⟩
  · refine .inl ⟨by omega, by omega, ?_, ?_, fun x hx => right_i64 (hr x hx)⟩
    · rw [l1, l2]; exact h'
    · rw [e2]; exact tsOf_plain _ _
  · exact .inr ⟨by omega, by omega, by rw [l1]; exact h''⟩
theorem filled_right {id most : Int} {ts : List Vl} (h : ∀ v ∈ ts, rightV v = true) : ∀ v ∈ filled id most ts, rightV v = true := by
  intro v hv
  unfold filled at hv
  split at hv
  · rcases List.mem_append.1 hv with hv | hv
    · exact h v hv
    · simp at hv; rw [hv]; exact right_wholeF _
  · split at hv
    · rcases List.mem_append.1 hv with hv | hv
      · exact h v hv
      · simp at hv; rw [hv]; exact right_wholeF _
    · exact h v hv
end Go.Proofs.YtglngfaagjgpjaaGreatDoor
namespace Go.Proofs.YtglngfaagjgpjaaGreatDoor
open Go Go.RowKit
set_option linter.unusedSimpArgs false
set_option linter.unusedVariables false

end Go.Proofs.YtglngfaagjgpjaaGreatDoor
