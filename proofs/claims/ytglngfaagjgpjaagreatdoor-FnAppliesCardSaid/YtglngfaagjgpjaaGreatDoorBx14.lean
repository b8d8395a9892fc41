/- What funcs.Apply answers, told as the reference goes: by what each value counts as; no program in sight. Walks of the reference's package for functions: numbers. -/
import Derived.Test.YtglngfaagjgpjaaGreatDoorApPQ
import Derived.Test.YtglngfaagjgpjaaGreatDoorRefZ
import Derived.Test.YtglngfaagjgpjaaGreatDoorTakeA
namespace Go.Proofs.YtglngfaagjgpjaaGreatDoor
open Go Go.RowKit
set_option linter.unusedSimpArgs false
set_option linter.unusedVariables false

def nmOf (v : Vl) : Nm := ⟨(asNum v).n, (asNum v).d⟩
theorem asNum_right0 : asNum (wholeF 0) = ⟨0, 1, blankV⟩ := by rfl
theorem asNum_right1 : asNum (wholeF 1) = ⟨1, 1, blankV⟩ := by rfl
theorem blank_k : ¬ blankV.k = 4 := by decide
/-- The first value that is no number. -/
def badNum : List Vl → Option Vl
  | [] => none
  | v :: vs => if (asNum v).e.k = 4 then some (asNum v).e else badNum vs
/-- What the reference comes to of numbers. -/
def reckR (id : Int) (vs : List Vl) : Vl :=
  match badNum vs with
  | some e => e
  | none => ofNumbersP id (if id = 43 ∧ vs.length = 1 then vs.map nmOf ++ [⟨0, 1⟩] else vs.map nmOf)
def writR (id : Int) (vs : List Vl) : Vl :=
  if id = 53 then findV (asTxt (vs.getD 0 blankV)).t (asTxt (vs.getD 1 blankV)).t else
  match badNum (vs.drop 1) with
  | some e => e
  | none => ofTextsP id ⟨if (id = 49 ∨ id = 50) ∧ vs.length = 1 then [⟨1, 1⟩] else (vs.drop 1).map nmOf, [(asTxt (vs.getD 0 blankV)).t], false⟩
theorem law_num1 {id : Int} (hid : id = 40 ∨ id = 41 ∨ id = 42 ∨ id = 57) (a : Vl) : doneP id (takenP id (filled id 1 [a])) = reckR id [a] := by
  rcases hid with rfl | rfl | rfl | rfl
  all_goals
    by_cases h : (asNum a).e.k = 4
    · simp [doneP, takenP, filled, shapeB, takeL, takeStep, reckR, badNum, h]
    · simp [doneP, takenP, filled, shapeB, takeL, takeStep, reckR, badNum, h, nmOf]
theorem law_num43 (a : Vl) : doneP 43 (takenP 43 (filled 43 2 [a])) = reckR 43 [a] := by
  by_cases h : (asNum a).e.k = 4
  · simp [doneP, takenP, filled, shapeB, takeL, takeStep, reckR, badNum, h]
  · simp [doneP, takenP, filled, shapeB, takeL, takeStep, reckR, badNum, h, nmOf, asNum_right0, blank_k]
theorem law_num2 {id : Int} (hid : id = 43 ∨ id = 44 ∨ id = 45) (a b : Vl) : doneP id (takenP id (filled id 2 [a, b])) = reckR id [a, b] := by
  rcases hid with rfl | rfl | rfl
  all_goals
    by_cases h : (asNum a).e.k = 4
    · simp [doneP, takenP, filled, shapeB, takeL, takeStep, reckR, badNum, h]
    · by_cases h2 : (asNum b).e.k = 4
      · simp [doneP, takenP, filled, shapeB, takeL, takeStep, reckR, badNum, h, h2]
      · simp [doneP, takenP, filled, shapeB, takeL, takeStep, reckR, badNum, h, h2, nmOf]
theorem txt_ok {a : Vl} (h : ¬ (tkV a).k = 4) : ¬ (asTxt a).e.k = 4 := by
  unfold asTxt asTxtT
  generalize tkV a = v at *
  rw [if_neg h]
  repeat' split
  all_goals exact blank_k
theorem law_text1 {id : Int} (hid : id = 48 ∨ id = 54 ∨ id = 55 ∨ id = 56) (a : Vl) (ha : ¬ (tkV a).k = 4) : doneP id (takenP id (filled id 1 [a])) = writR id [a] := by
  have h := txt_ok ha
  rcases hid with rfl | rfl | rfl | rfl
  all_goals simp [doneP, takenP, filled, shapeB, takeL, takeStep, writR, badNum, h, ofTextsP]
theorem law_cut1 {id : Int} (hid : id = 49 ∨ id = 50) (a : Vl) (ha : ¬ (tkV a).k = 4) : doneP id (takenP id (filled id 2 [a])) = writR id [a] := by
  have h := txt_ok ha
  rcases hid with rfl | rfl
  all_goals simp [doneP, takenP, filled, shapeB, takeL, takeStep, writR, badNum, h, ofTextsP, asNum_right1, blank_k]
theorem law_cut2 {id : Int} (hid : id = 49 ∨ id = 50 ∨ id = 52) (a b : Vl) (ha : ¬ (tkV a).k = 4) : doneP id (takenP id (filled id 2 [a, b])) = writR id [a, b] := by
  have h := txt_ok ha
  rcases hid with rfl | rfl | rfl
  all_goals
    by_cases h2 : (asNum b).e.k = 4
    · simp [doneP, takenP, filled, shapeB, takeL, takeStep, writR, badNum, h, h2, ofTextsP]
    · simp [doneP, takenP, filled, shapeB, takeL, takeStep, writR, badNum, h, h2, ofTextsP, nmOf]
theorem law_cut3 (a b c : Vl) (ha : ¬ (tkV a).k = 4) : doneP 51 (takenP 51 (filled 51 3 [a, b, c])) = writR 51 [a, b, c] := by
  have h := txt_ok ha
  by_cases h2 : (asNum b).e.k = 4
  · simp [doneP, takenP, filled, shapeB, takeL, takeStep, writR, badNum, h, h2, ofTextsP]
  · by_cases h3 : (asNum c).e.k = 4
    · simp [doneP, takenP, filled, shapeB, takeL, takeStep, writR, badNum, h, h2, h3, ofTextsP]
    · simp [doneP, takenP, filled, shapeB, takeL, takeStep, writR, badNum, h, h2, h3, ofTextsP, nmOf]
theorem law_find (a b : Vl) (ha : ¬ (tkV a).k = 4) (hb : ¬ (tkV b).k = 4) : doneP 53 (takenP 53 (filled 53 2 [a, b])) = writR 53 [a, b] := by
  have h := txt_ok ha
  have h2 := txt_ok hb
  simp [doneP, takenP, filled, shapeB, takeL, takeStep, writR, badNum, h, h2, ofTextsP, txAt]
theorem law_not (a : Vl) : doneP 47 (takenP 47 (filled 47 1 [a])) = if (asTru a).e.k = 4 then (asTru a).e else truthV (!(asTru a).b) := by
  by_cases h : (asTru a).e.k = 4
  · simp [doneP, takenP, filled, shapeB, takeL, takeStep, h]
  · simp [doneP, takenP, filled, shapeB, takeL, takeStep, h]
end Go.Proofs.YtglngfaagjgpjaaGreatDoor
namespace Go.Proofs.YtglngfaagjgpjaaGreatDoor
open Go Go.RowKit
set_option linter.unusedSimpArgs false
set_option linter.unusedVariables false
structure NbO (w w' : World) (l : List Vl) (s : Value) (x : Vl) : Prop where
  ok : badNum l = none → x = blankV ∧ w'.ownsRow w.heap.size 24 2 s l.length ((l.map nmOf).flatMap cells2)
  bad : ∀ y, badNum l = some y → x = y
structure NbI (w : World) (vs : List Vl) (p : Nat) (i : Value) (k : Nat) (ns : List Nm) (sN : Value) (wr : World) : Prop where
  lo : p ≤ k
  le : k ≤ vs.length
  i : i = .int .i64 k
  go : badNum (vs.drop p) = badNum (vs.drop k)
  hns : (vs.drop p).map nmOf = ns ++ (vs.drop k).map nmOf
  len : ns.length = k - p
  b : Blk wr w.heap.size (vArr blankV) 26
  hN : wr.ownsRow (w.heap.size + 1) 24 2 sN ns.length (ns.flatMap cells2)
  below : Below w.heap.size w wr
  sz : w.heap.size + 1 ≤ wr.heap.size
set_option maxRecDepth 100000 in
set_option maxHeartbeats 4000000 in
theorem r7_numbers (vs : List Vl) (p : Nat) (la : Option Addr) (n lc : Nat) (w : World) (hn : vs.length = n) (hle : n ≤ 1000) (hp : p ≤ n) (hin : ∀ v ∈ vs, v.In) (hc : ValAt w la vs) :
    Calls Tryz.prog 91 #[.slice la n lc, .int .i64 p] w fun e w' => ∃ s x, e = .returned (.tuple #[s, .agg #[.int .i64 (x).k, .int .i64 (x).n, .int .i64 (x).d, .string (x).t, .bool (x).b, .int .i64 (x).f]]) ∧ Below w.heap.size w w' ∧ NbO w w' (vs.drop p) s x := by
  have HI := Lib.hid hin
  have HC := Lib.hid hc
  have HN := Lib.hid hn
  clear hin hc hn
  obtain ⟨i1, hi1, hz1, hsz1, hby1⟩ := zero_nm
  go_enter Tryz.func91, Tryz.ntmps91
  go_wp2
  go_loopw [6, 7] (fun s i wr => ∃ k ns, NbI w vs p i k ns s wr) (fun _ i _ => n - (intOf i).toNat)
  case atStart =>
    refine ⟨p, [], Nat.le_refl _, by rw [HN.out]; exact hp, rfl, rfl, rfl, by simp, ?_, World.ownsRow_nil _ _ _ _, ?_, ?_⟩
    · exact heap_alloc_new _ _
    · focus
        repeat with_reducible first | exact Below.refl _ _ | refine below_drewN ?_ _ | refine Below.drew ?_ | refine Below.setCell ?_ ?_ _ | refine Below.alloc ?_ ?_ _ | refine below_then ?_ ?_ (by with_reducible assumption)
        all_goals first | omega | (simp only [sA, sC, sD, sE]; omega) | (simp; done) | (simp; omega)
    · simp only [sz_alloc]; omega
  case round =>
    obtain ⟨k, ns, hpk, hk, rfl, hgo, hns, hlen, hB, hoN, hbk, hsz⟩ := hrel
    obtain ⟨aN, lN, cN, rfl⟩ := own_slice hoN
    rw [HN.out] at hk
    by_cases hlt : k < n
    · obtain ⟨g, off, rfl, hgw, hrow⟩ := HC.out (by rw [HN.out]; omega)
      have hkv : k < vs.length := by rw [HN.out]; exact hlt
      obtain ⟨v, hv⟩ : ∃ v, vs[k]? = some v := ⟨_, List.getElem?_eq_getElem hkv⟩
      obtain ⟨c0, c1, c2, c3, c4, c5⟩ := (hrow.below hgw hbk) k v hv
      have hvin := HI.out v (List.mem_of_getElem? hv)
      have hd : vs.drop k = v :: vs.drop (k + 1) := by
        rw [List.drop_eq_getElem_cons hkv, show vs[k] = v from Option.some.inj ((List.getElem?_eq_getElem hkv).symm.trans hv)]
      have hg1 : badNum (vs.drop p) = if (asNum v).e.k = 4 then some (asNum v).e else badNum (vs.drop (k + 1)) := by rw [hgo, hd]; rfl
      have hg2 : (vs.drop p).map nmOf = (ns ++ [⟨(asNum v).n, (asNum v).d⟩]) ++ (vs.drop (k + 1)).map nmOf := by rw [hns, hd]; simp [nmOf]
      have HG := Lib.hid (And.intro hg1 hg2)
      have HV : Hid (∀ wx : World, Calls Tryz.prog 89 #[.agg #[.int .i64 (v).k, .int .i64 (v).n, .int .i64 (v).d, .string (v).t, .bool (v).b, .int .i64 (v).f]] wx fun e w' => e = .returned (.tuple #[.agg #[.int .i64 (asNum v).n, .int .i64 (asNum v).d], .agg #[.int .i64 ((asNum v).e).k, .int .i64 ((asNum v).e).n, .int .i64 ((asNum v).e).d, .string ((asNum v).e).t, .bool ((asNum v).e).b, .int .i64 ((asNum v).e).f]]) ∧ Below wx.heap.size wx w') := fun wx => r2_AsNumber v wx hvin
      generalize asNum v = q at *
      have HH := Lib.hid (And.intro hB (And.intro hoN hbk))
      clear hgo hns hv hd hg1 hg2 hrow hvin hB
      have sw := hbk.size
      clear hbk
      have HL := Lib.hid hlen
      go_wp2_with fail
      refine (HV.out _).mono ?_
      rintro e w2 ⟨rfl, hb2⟩
      have B2 := HH.out.1.below hb2
      have oN2 := own_below HH.out.2.1 hb2
      have s2 := hb2.size
      have hbk2 : Below w.heap.size w w2 := HH.out.2.2.trans (hb2.mono (by omega))
      have HH2 := Lib.hid (And.intro B2 (And.intro oN2 hbk2))
      clear B2 oN2 hbk2 hb2 c0 c1 c2 c3 c4 c5 HV
      go_upto_region 6 with (fail)
      first | with_reducible refine wp_rebase ?_ | with_reducible refine wpList_rebase ?_
      intro w3 hb3'
      have hb3 := hb3'.out
      clear hb3'
      have s3 := hb3.size
      simp only [sz_alloc] at s3
      have N3 : Blk w3 w2.heap.size (cells2 ⟨q.n, q.d⟩).toArray 24 := Blk.below (Blk.alloc (heap_alloc_new _ _) _) hb3
      have E3 : Blk w3 (w2.heap.size + 1) (vArr q.e) 26 := by
        refine Blk.below ?_ hb3
        have h := heap_alloc_new (w2.alloc (.cells #[.int .i64 q.n, .int .i64 q.d] 24)) (.cells (vArr q.e) 26)
        rw [sz_alloc] at h
        exact h
      have B3 := ((HH2.out.1.alloc _).alloc _).below hb3
      have oN3 := own_below ((HH2.out.2.1.alloc _).alloc _) hb3
      have hbk3 : Below w.heap.size w w3 := ((HH2.out.2.2.alloc (by omega) _).alloc (by simp only [sz_alloc]; omega) _).trans (hb3.mono (by simp only [sz_alloc]; omega))
      have n0 := N3.cell 0
      have n1 := N3.cell 1
      simp only [cells2, List.getElem?_toArray, List.getElem?_cons_zero, List.getElem?_cons_succ] at n0 n1
      obtain ⟨e0, e1, e2, e3, e4, e5⟩ := E3.v6
      have fB := B3.free
      have lB := B3.lt
      have lN3 := N3.lt
      have lE3 := E3.lt
      obtain ⟨z0, z1, z2, z3, z4, z5⟩ := B3.v6
      have HH3 := Lib.hid (And.intro B3 (And.intro oN3 hbk3))
      clear N3 E3 B3 HH2 HH hb3
      cases h4 : (q.e.k == 4)
      · have h4' : ¬ q.e.k = 4 := by simpa using h4
        go_wp2_with (first
          | (at_builtin
             refine wpList_append_lies _ rfl _ _ 65 rfl (w.heap.size + 1) 24 i1 _ 2 16 Tryz.underlying65 hi1 hz1 hsz1 hby1 rfl (by decide) _ ns.length _ rfl (oN3.alloc _) ⟨w3.heap.size, 0, none⟩ 1 1 (cells2 ⟨q.n, q.d⟩) rfl rfl (World.news_of_block (heap_alloc_new _ _)) (cells2_one _) (by decide) (by unfold maxLen; omega) (by omega) (by simp only [sz_alloc]; omega) _ rfl ?_
             intro gx capx w4 hown4 hgrow4 hat4 hlt4
             have B4 := (HH3.out.1.alloc _).grown hgrow4 (own_ne oN3 (by omega))
             have hbk4 := below_grownBy (hbk3.alloc (by omega) _) hgrow4 (own_mono (oN3.alloc _) (by omega)) (by simp only [sz_alloc]; omega)
             have lB4 := B4.lt
             have HH4 := Lib.hid (And.intro B4 (And.intro hown4 hbk4))
             clear B4 hown4 hbk4 hgrow4 hat4)
          | fail)
        go_roundw
        case rel =>
          obtain ⟨B4, hown4, hbk4⟩ := HH4.out
          obtain ⟨hg1, hg2⟩ := HG.out
          rw [if_neg h4'] at hg1
          refine ⟨k + 1, ns ++ [⟨q.n, q.d⟩], by omega, by rw [HN.out]; omega, by go_num, hg1, hg2, ?_, B4, ?_, hbk4, by omega⟩
          · have := HL.out; simp; omega
          · have e1 : (ns ++ [(⟨q.n, q.d⟩ : Nm)]).flatMap cells2 = ns.flatMap cells2 ++ cells2 ⟨q.n, q.d⟩ := by simp
            have e2 : (ns ++ [(⟨q.n, q.d⟩ : Nm)]).length = ns.length + 1 := by simp
            rw [e1, e2, ← HL.out]
            exact hown4
        case measure => simp [intOf]; omega
      · have h4' : q.e.k = 4 := by simpa using h4
        have HX : Hid (badNum (vs.drop p) = some q.e) := by unfold Hid; rw [HG.out.1, if_pos h4']
        clear h4' HG oN3 hoN HC HI hbk3
        go_upto_region 7 with (fail)
        go_region
        go_wp2
        obtain ⟨B3, oN3, hbk3⟩ := HH3.out
        refine bodyPost_ret (v := .tuple #[.slice none 0 0, .agg #[.int .i64 (q.e).k, .int .i64 (q.e).n, .int .i64 (q.e).d, .string (q.e).t, .bool (q.e).b, .int .i64 (q.e).f]]) (by simp [results, Tryz.results91, go_sem, e0, e1, e2, e3, e4, e5, z0, z1, z2, z3, z4, z5, fB, lB, -beq_iff_eq]) rfl ⟨_, _, rfl, ?_, ⟨fun h => ?_, fun y h => ?_⟩⟩
        · have hb := hbk3
          focus
            repeat with_reducible first | exact Below.refl _ _ | refine below_drewN ?_ _ | refine Below.drew ?_ | refine Below.setCell ?_ ?_ _ | refine Below.alloc ?_ ?_ _ | refine below_then ?_ ?_ (by with_reducible assumption)
            all_goals first | omega | (simp only [sA, sC, sD, sE]; omega) | (simp; done) | (simp; omega)
        · rw [HX.out] at h; cases h
        · rw [HX.out] at h; exact (Option.some.inj h)
    · have hkn : k = n := by omega
      have HX : Hid (badNum (vs.drop p) = none ∧ (vs.drop p).map nmOf = ns) := by
        have e : vs.drop k = [] := List.drop_of_length_le (by rw [HN.out]; omega)
        rw [e] at hgo hns
        exact ⟨hgo, by simpa using hns⟩
      have hl2 : (vs.drop p).length = ns.length := by rw [← HX.out.2]; simp
      have lB := hB.lt
      have fB := hB.free
      obtain ⟨e0, e1, e2, e3, e4, e5⟩ := hB.v6
      have HH3 := Lib.hid (And.intro hB (And.intro hoN hbk))
      clear hgo hns hB hoN hbk HC HI
      go_wp2
      obtain ⟨B3, oN3, hbk3⟩ := HH3.out
      refine bodyPost_ret (v := .tuple #[.slice aN lN cN, .agg #[.int .i64 (blankV).k, .int .i64 (blankV).n, .int .i64 (blankV).d, .string (blankV).t, .bool (blankV).b, .int .i64 (blankV).f]]) (by simp [results, Tryz.results91, go_sem, e0, e1, e2, e3, e4, e5, fB, lB, blankV, noT, -beq_iff_eq]) rfl ⟨_, _, rfl, ?_, ⟨fun h => ⟨rfl, ?_⟩, fun y h => ?_⟩⟩
      · have hb := hbk3
        focus
          repeat with_reducible first | exact Below.refl _ _ | refine below_drewN ?_ _ | refine Below.drew ?_ | refine Below.setCell ?_ ?_ _ | refine Below.alloc ?_ ?_ _ | refine below_then ?_ ?_ (by with_reducible assumption)
          all_goals first | omega | (simp only [sA, sC, sD, sE]; omega) | (simp; done) | (simp; omega)
      · rw [hl2, HX.out.2]
        refine own_mono (base := w.heap.size + 1) ?_ (by omega)
        repeat (with_reducible refine ownsRow_setCell_below ?_ (by show w.heap.size < _; omega) _)
        exact oN3
      · rw [HX.out.1] at h; cases h
end Go.Proofs.YtglngfaagjgpjaaGreatDoor
