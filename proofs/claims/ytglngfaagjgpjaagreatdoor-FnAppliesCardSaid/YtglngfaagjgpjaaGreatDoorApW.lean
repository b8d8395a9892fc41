/- Walks of package funcs: Apply: what it refuses; NA; the values are taken. -/
import Derived.Test.YtglngfaagjgpjaaGreatDoorApPQ
import Derived.Test.YtglngfaagjgpjaaGreatDoorAppC
import Derived.Deep.CutBlock
namespace Go.Proofs.YtglngfaagjgpjaaGreatDoor
open Go Go.RowKit
set_option linter.unusedSimpArgs false
set_option linter.unusedVariables false

theorem byId (id : Int) (w : World) : Calls Tryz.prog 26 #[.int .i64 id] w fun e w' => e = .returned (.tuple #[((byIdL id).getD sigZ).val, .bool (byIdL id).isSome]) ∧ Below w.heap.size w w' :=
  funcs_ById id w funcs_scalars
theorem byId_some {id : Int} {S : SigS} (h : byIdL id = some S) (w : World) : Calls Tryz.prog 26 #[.int .i64 id] w fun e w' => e = .returned (.tuple #[.agg #[.int .i64 S.id, .int .i64 S.cl, .string S.name, .int .i64 S.least, .int .i64 S.most, .string S.params], .bool true]) ∧ Below w.heap.size w w' := by
  have := byId id w
  rw [h] at this
  exact this
theorem byId_none {id : Int} (h : byIdL id = none) (w : World) : Calls Tryz.prog 26 #[.int .i64 id] w fun e w' => e = .returned (.tuple #[.agg #[.int .i64 0, .int .i64 0, .string ⟨#[]⟩, .int .i64 0, .int .i64 0, .string ⟨#[]⟩], .bool false]) ∧ Below w.heap.size w w' := by
  have := byId id w
  rw [h] at this
  exact this

set_option maxRecDepth 100000 in
set_option maxHeartbeats 1000000 in
theorem apply_none (id : Int) (la : Option Addr) (n lc : Nat) (w : World) (h : byIdL id = none) :
    Calls Tryz.prog 8 #[.int .i64 id, .slice la n lc] w fun e w' => e = .returned (.agg #[.int .i64 (faultF 2).k, .int .i64 (faultF 2).n, .int .i64 (faultF 2).d, .string (faultF 2).t, .bool (faultF 2).b, .int .i64 (faultF 2).f]) ∧ Below w.heap.size w w' := by
  have HB := Lib.hid fun wx => byId_none h wx
  have HF := Lib.hid fun wx => value_Fault 2 wx
  generalize faultF 2 = Q at *
  clear h
  go_enter Tryz.func8, Tryz.ntmps8
  go_wp2_with fail
  refine (HB.out _).mono ?_
  rintro e wA ⟨rfl, hb⟩
  obtain ⟨s1, c1_0, c1_1, c1_2, c1_3, c1_4, c1_5, f1⟩ := L6 hb (w.heap.size) (by first | omega | (simp only [sA, sC, sD, sE]; omega) | (simp; done) | (simp; omega)) (by go_simp; exact ⟨rfl, rfl, rfl, rfl, rfl, rfl⟩) (by intro o; go_simp)
  go_wp2_with fail
  refine (HF.out _).mono ?_
  rintro e w2 ⟨rfl, hb2⟩
  obtain ⟨s2, c2_0, c2_1, c2_2, c2_3, c2_4, c2_5, f2⟩ := L6 hb2 (w.heap.size) (by first | omega | (simp only [sA, sC, sD, sE]; omega) | (simp; done) | (simp; omega)) (by go_simp; exact ⟨rfl, rfl, rfl, rfl, rfl, rfl⟩) (by intro o; go_simp)
  clear c1_0 c1_1 c1_2 c1_3 c1_4 c1_5 f1
  go_wp2
  refine bodyPost_ret (v := .agg #[.int .i64 (Q).k, .int .i64 (Q).n, .int .i64 (Q).d, .string (Q).t, .bool (Q).b, .int .i64 (Q).f]) (by simp [results, Tryz.results8, go_sem, c2_0, c2_1, c2_2, c2_3, c2_4, c2_5]) rfl ⟨rfl, ?_⟩
  focus
    repeat with_reducible first | exact Below.refl _ _ | refine below_drewN ?_ _ | refine Below.drew ?_ | refine Below.setCell ?_ ?_ _ | refine Below.alloc ?_ ?_ _ | refine below_then ?_ ?_ (by with_reducible assumption)
    all_goals first | omega | (simp only [sA, sC, sD, sE]; omega) | (simp; done) | (simp; omega)
set_option maxRecDepth 100000 in
set_option maxHeartbeats 1000000 in
theorem apply_refuse (id : Int) (S : SigS) (la : Option Addr) (n lc : Nat) (w : World) (h : byIdL id = some S) (hno : ¬ S.cl = 4 ∨ (S.cl = 4 ∧ (n : Int) < S.least) ∨ (S.cl = 4 ∧ ¬ (n : Int) < S.least ∧ S.most < (n : Int))) :
    Calls Tryz.prog 8 #[.int .i64 id, .slice la n lc] w fun e w' => e = .returned (.agg #[.int .i64 (faultF 2).k, .int .i64 (faultF 2).n, .int .i64 (faultF 2).d, .string (faultF 2).t, .bool (faultF 2).b, .int .i64 (faultF 2).f]) ∧ Below w.heap.size w w' := by
  have HB := Lib.hid fun wx => byId_some h wx
  have HF := Lib.hid fun wx => value_Fault 2 wx
  generalize faultF 2 = Q at *
  clear h
  rcases hno with h1 | ⟨h1, h2⟩ | ⟨h1, h2, h3⟩
  · have k1 : (S.cl == 4) = false := by simp [h1]
    have k2 : (S.cl != 4) = true := by simp [h1]
    go_enter Tryz.func8, Tryz.ntmps8
    go_wp2_with fail
    refine (HB.out _).mono ?_
    rintro e wA ⟨rfl, hb⟩
    obtain ⟨s3, c3_0, c3_1, c3_2, c3_3, c3_4, c3_5, f3⟩ := L6 hb (w.heap.size) (by first | omega | (simp only [sA, sC, sD, sE]; omega) | (simp; done) | (simp; omega)) (by go_simp; exact ⟨rfl, rfl, rfl, rfl, rfl, rfl⟩) (by intro o; go_simp)
    go_wp2_with fail
    refine (HF.out _).mono ?_
    rintro e w2 ⟨rfl, hb2⟩
    obtain ⟨s4, c4_0, c4_1, c4_2, c4_3, c4_4, c4_5, f4⟩ := L6 hb2 (w.heap.size) (by first | omega | (simp only [sA, sC, sD, sE]; omega) | (simp; done) | (simp; omega)) (by go_simp; exact ⟨rfl, rfl, rfl, rfl, rfl, rfl⟩) (by intro o; go_simp)
    clear c3_0 c3_1 c3_2 c3_3 c3_4 c3_5 f3
    go_wp2
    refine bodyPost_ret (v := .agg #[.int .i64 (Q).k, .int .i64 (Q).n, .int .i64 (Q).d, .string (Q).t, .bool (Q).b, .int .i64 (Q).f]) (by simp [results, Tryz.results8, go_sem, c4_0, c4_1, c4_2, c4_3, c4_4, c4_5]) rfl ⟨rfl, ?_⟩
    focus
      repeat with_reducible first | exact Below.refl _ _ | refine below_drewN ?_ _ | refine Below.drew ?_ | refine Below.setCell ?_ ?_ _ | refine Below.alloc ?_ ?_ _ | refine below_then ?_ ?_ (by with_reducible assumption)
      all_goals first | omega | (simp only [sA, sC, sD, sE]; omega) | (simp; done) | (simp; omega)
  · have k1 : (S.cl == 4) = true := by simp [h1]
    have k2 : (S.cl != 4) = false := by simp [h1]
    clear h1
    go_enter Tryz.func8, Tryz.ntmps8
    go_wp2_with fail
    refine (HB.out _).mono ?_
    rintro e wA ⟨rfl, hb⟩
    obtain ⟨s5, c5_0, c5_1, c5_2, c5_3, c5_4, c5_5, f5⟩ := L6 hb (w.heap.size) (by first | omega | (simp only [sA, sC, sD, sE]; omega) | (simp; done) | (simp; omega)) (by go_simp; exact ⟨rfl, rfl, rfl, rfl, rfl, rfl⟩) (by intro o; go_simp)
    go_wp2_with fail
    refine (HF.out _).mono ?_
    rintro e w2 ⟨rfl, hb2⟩
    obtain ⟨s6, c6_0, c6_1, c6_2, c6_3, c6_4, c6_5, f6⟩ := L6 hb2 (w.heap.size) (by first | omega | (simp only [sA, sC, sD, sE]; omega) | (simp; done) | (simp; omega)) (by go_simp; exact ⟨rfl, rfl, rfl, rfl, rfl, rfl⟩) (by intro o; go_simp)
    clear c5_0 c5_1 c5_2 c5_3 c5_4 c5_5 f5
    go_wp2
    refine bodyPost_ret (v := .agg #[.int .i64 (Q).k, .int .i64 (Q).n, .int .i64 (Q).d, .string (Q).t, .bool (Q).b, .int .i64 (Q).f]) (by simp [results, Tryz.results8, go_sem, c6_0, c6_1, c6_2, c6_3, c6_4, c6_5]) rfl ⟨rfl, ?_⟩
    focus
      repeat with_reducible first | exact Below.refl _ _ | refine below_drewN ?_ _ | refine Below.drew ?_ | refine Below.setCell ?_ ?_ _ | refine Below.alloc ?_ ?_ _ | refine below_then ?_ ?_ (by with_reducible assumption)
      all_goals first | omega | (simp only [sA, sC, sD, sE]; omega) | (simp; done) | (simp; omega)
  · have k1 : (S.cl == 4) = true := by simp [h1]
    have k2 : (S.cl != 4) = false := by simp [h1]
    clear h1
    go_enter Tryz.func8, Tryz.ntmps8
    go_wp2_with fail
    refine (HB.out _).mono ?_
    rintro e wA ⟨rfl, hb⟩
    obtain ⟨s7, c7_0, c7_1, c7_2, c7_3, c7_4, c7_5, f7⟩ := L6 hb (w.heap.size) (by first | omega | (simp only [sA, sC, sD, sE]; omega) | (simp; done) | (simp; omega)) (by go_simp; exact ⟨rfl, rfl, rfl, rfl, rfl, rfl⟩) (by intro o; go_simp)
    go_wp2_with fail
    refine (HF.out _).mono ?_
    rintro e w2 ⟨rfl, hb2⟩
    obtain ⟨s8, c8_0, c8_1, c8_2, c8_3, c8_4, c8_5, f8⟩ := L6 hb2 (w.heap.size) (by first | omega | (simp only [sA, sC, sD, sE]; omega) | (simp; done) | (simp; omega)) (by go_simp; exact ⟨rfl, rfl, rfl, rfl, rfl, rfl⟩) (by intro o; go_simp)
    clear c7_0 c7_1 c7_2 c7_3 c7_4 c7_5 f7
    go_wp2
    refine bodyPost_ret (v := .agg #[.int .i64 (Q).k, .int .i64 (Q).n, .int .i64 (Q).d, .string (Q).t, .bool (Q).b, .int .i64 (Q).f]) (by simp [results, Tryz.results8, go_sem, c8_0, c8_1, c8_2, c8_3, c8_4, c8_5]) rfl ⟨rfl, ?_⟩
    focus
      repeat with_reducible first | exact Below.refl _ _ | refine below_drewN ?_ _ | refine Below.drew ?_ | refine Below.setCell ?_ ?_ _ | refine Below.alloc ?_ ?_ _ | refine below_then ?_ ?_ (by with_reducible assumption)
      all_goals first | omega | (simp only [sA, sC, sD, sE]; omega) | (simp; done) | (simp; omega)
theorem byId62 : byIdL 62 = some ⟨62, 4, ⟨#[78, 65]⟩, 0, 0, ⟨#[118]⟩⟩ := rfl
set_option maxRecDepth 100000 in
set_option maxHeartbeats 1000000 in
theorem apply_NA (la : Option Addr) (lc : Nat) (w : World) :
    Calls Tryz.prog 8 #[.int .i64 62, .slice la 0 lc] w fun e w' => e = .returned (.agg #[.int .i64 (faultF 5).k, .int .i64 (faultF 5).n, .int .i64 (faultF 5).d, .string (faultF 5).t, .bool (faultF 5).b, .int .i64 (faultF 5).f]) ∧ Below w.heap.size w w' := by
  have HB := Lib.hid fun wx => byId_some byId62 wx
  have HF := Lib.hid fun wx => value_Fault 5 wx
  generalize faultF 5 = Q at *
  go_enter Tryz.func8, Tryz.ntmps8
  go_wp2_with fail
  refine (HB.out _).mono ?_
  rintro e wA ⟨rfl, hb⟩
  obtain ⟨s9, c9_0, c9_1, c9_2, c9_3, c9_4, c9_5, f9⟩ := L6 hb (w.heap.size) (by first | omega | (simp only [sA, sC, sD, sE]; omega) | (simp; done) | (simp; omega)) (by go_simp; exact ⟨rfl, rfl, rfl, rfl, rfl, rfl⟩) (by intro o; go_simp)
  go_wp2_with fail
  refine (HF.out _).mono ?_
  rintro e w2 ⟨rfl, hb2⟩
  obtain ⟨s10, c10_0, c10_1, c10_2, c10_3, c10_4, c10_5, f10⟩ := L6 hb2 (w.heap.size) (by first | omega | (simp only [sA, sC, sD, sE]; omega) | (simp; done) | (simp; omega)) (by go_simp; exact ⟨rfl, rfl, rfl, rfl, rfl, rfl⟩) (by intro o; go_simp)
  clear c9_0 c9_1 c9_2 c9_3 c9_4 c9_5 f9
  go_wp2
  refine bodyPost_ret (v := .agg #[.int .i64 (Q).k, .int .i64 (Q).n, .int .i64 (Q).d, .string (Q).t, .bool (Q).b, .int .i64 (Q).f]) (by simp [results, Tryz.results8, go_sem, c10_0, c10_1, c10_2, c10_3, c10_4, c10_5]) rfl ⟨rfl, ?_⟩
  focus
    repeat with_reducible first | exact Below.refl _ _ | refine below_drewN ?_ _ | refine Below.drew ?_ | refine Below.setCell ?_ ?_ _ | refine Below.alloc ?_ ?_ _ | refine below_then ?_ ?_ (by with_reducible assumption)
    all_goals first | omega | (simp only [sA, sC, sD, sE]; omega) | (simp; done) | (simp; omega)

theorem asked_some {id K : Int} (h : askK id = some K) (v : Vl) (w : World) :
    Calls Tryz.prog 29 #[.int .i64 id, .agg #[.int .i64 (v).k, .int .i64 (v).n, .int .i64 (v).d, .string (v).t, .bool (v).b, .int .i64 (v).f]] w fun e w' => e = .returned (.tuple #[.bool (v.k == K), .bool true]) ∧ Below w.heap.size w w' := by
  unfold askK at h
  by_cases h1 : id = 58
  · rw [if_pos h1] at h; cases h; subst h1; exact ask_58 _ _ _ _ _ _ w
  rw [if_neg h1] at h
  by_cases h2 : id = 59
  · rw [if_pos h2] at h; cases h; subst h2; exact ask_59 _ _ _ _ _ _ w
  rw [if_neg h2] at h
  by_cases h3 : id = 60
  · rw [if_pos h3] at h; cases h; subst h3; exact ask_60 _ _ _ _ _ _ w
  rw [if_neg h3] at h
  by_cases h4 : id = 61
  · rw [if_pos h4] at h; cases h; subst h4; exact ask_61 _ _ _ _ _ _ w
  rw [if_neg h4] at h
  cases h
theorem asked_none {id : Int} (h : askK id = none) (v : Vl) (w : World) :
    Calls Tryz.prog 29 #[.int .i64 id, .agg #[.int .i64 (v).k, .int .i64 (v).n, .int .i64 (v).d, .string (v).t, .bool (v).b, .int .i64 (v).f]] w fun e w' => e = .returned (.tuple #[.bool false, .bool false]) ∧ Below w.heap.size w w' := by
  unfold askK at h
  by_cases h1 : id = 58
  · rw [if_pos h1] at h; cases h
  rw [if_neg h1] at h
  by_cases h2 : id = 59
  · rw [if_pos h2] at h; cases h
  rw [if_neg h2] at h
  by_cases h3 : id = 60
  · rw [if_pos h3] at h; cases h
  rw [if_neg h3] at h
  by_cases h4 : id = 61
  · rw [if_pos h4] at h; cases h
  exact ask_none id h1 h2 h3 h4 _ _ _ _ _ _ w
theorem askK_lt {id : Int} (h : askK id = none) (h62 : ¬ id = 62) (hle : id ≤ 62) : id < 58 := by
  unfold askK at h
  by_cases h1 : id = 58
  · rw [if_pos h1] at h; cases h
  rw [if_neg h1] at h
  by_cases h2 : id = 59
  · rw [if_pos h2] at h; cases h
  rw [if_neg h2] at h
  by_cases h3 : id = 60
  · rw [if_pos h3] at h; cases h
  rw [if_neg h3] at h
  by_cases h4 : id = 61
  · rw [if_pos h4] at h; cases h
  omega
theorem shape_size (id : Int) : (shapeB id).size ≤ 1000 := by
  unfold shapeB
  repeat' split
  all_goals decide
theorem Vl.len6 (v : Vl) : v.cells.length = 6 := rfl
theorem valRow_own {w : World} {B g cap n : Nat} {ts : List Vl} (h : w.ownsRow B 26 6 (.slice (some ⟨g, 0, none⟩) n cap) n (ts.flatMap Vl.cells)) (hn : ts.length = n) : ValRow w g 0 ts := by
  intro k v hv
  obtain ⟨hk, he⟩ := List.getElem?_eq_some_iff.1 hv
  have key : ∀ j, j < 6 → w.cell? ⟨g, 0 + k * 6 + j, none⟩ = (Vl.cells v)[j]? := fun j hj => by
    rw [Nat.zero_add, h.cellAt (k * 6 + j) (by omega), flat6 Vl.cells Vl.len6 _ _ _ hk hj, he]
  exact ⟨key 0 (by decide), key 1 (by decide), key 2 (by decide), key 3 (by decide), key 4 (by decide), key 5 (by decide)⟩

/-- What is known while a fault is sought. -/
structure ApJ (w5 : World) (ts : List Vl) (i : Value) (k : Nat) (wr : World) : Prop where
  le : k ≤ ts.length
  i : i = .int .i64 k
  no : firstFault ts = firstFault (ts.drop k)
  below : Below w5.heap.size w5 wr
/-- What is known while the values are taken. -/
structure ApI (w : World) (bs : Nat) (S : SigS) (vs : List Vl) (i : Value) (k : Nat) (sv : Value) (wr : World) : Prop where
  le : k ≤ vs.length
  i : i = .int .i64 k
  res : Blk wr w.heap.size (vArr blankV) 26
  sig : Blk wr bs S.cells.toArray 56
  own : wr.ownsRow (bs + 1) 26 6 sv k (((vs.take k).map tkV).flatMap Vl.cells)
  below : Below w.heap.size w wr
  sz : bs + 1 ≤ wr.heap.size
set_option maxRecDepth 100000 in
set_option maxHeartbeats 4000000 in
theorem apply_main (id : Int) (S : SigS) (vs : List Vl) (la : Option Addr) (n lc : Nat) (w : World) (hS : byIdL id = some S) (hcl : S.cl = 4) (hl : S.least ≤ n) (hm : (n : Int) ≤ S.most) (h62 : ¬ id = 62) (hle62 : id ≤ 62)
    (hn : vs.length = n) (hfit : Fits id S.most n) (hin : ∀ v ∈ vs, v.In) (hc : ValAt w la vs) (hL : Laid w) :
    Calls Tryz.prog 8 #[.int .i64 id, .slice la n lc] w fun e w' => e = .returned (.agg #[.int .i64 (scalarP id S.most (vs.map tkV)).k, .int .i64 (scalarP id S.most (vs.map tkV)).n, .int .i64 (scalarP id S.most (vs.map tkV)).d, .string (scalarP id S.most (vs.map tkV)).t, .bool (scalarP id S.most (vs.map tkV)).b, .int .i64 (scalarP id S.most (vs.map tkV)).f]) ∧ Below w.heap.size w w' := by
  have HB := Lib.hid fun wx => byId_some hS wx
  have h1 := hfit.one
  have h3 := hfit.three
  have HFit := Lib.hid hfit
  clear hfit
  have HI := Lib.hid hin
  have HC := Lib.hid hc
  have HN := Lib.hid hn
  have HL := Lib.hid fun wx h => hL.below (w' := wx) h
  have k1 : (S.cl == 4) = true := by simp [hcl]
  have k2 : (S.cl != 4) = false := by simp [hcl]
  have k3 : (id == 62) = false := by simp [h62]
  have g1 : ¬ (n : Int) < S.least := by omega
  have g2 : ¬ S.most < (n : Int) := by omega
  obtain ⟨i0, hi, hz, hsz, hby⟩ := zero_val
  generalize hQ : scalarP id S.most (vs.map tkV) = Q
  have HQ := Lib.hid hQ
  clear hQ hS hin hc hn hL hcl
  go_enter Tryz.func8, Tryz.ntmps8
  go_wp2_with fail
  refine (HB.out _).mono ?_
  rintro e wA ⟨rfl, hb⟩
  have hres : Blk wA w.heap.size (vArr blankV) 26 := Blk.below (show Blk (w.alloc (.cells (vArr blankV) 26)) w.heap.size _ _ from heap_alloc_new _ _) hb
  have sA := hb.size
  simp only [sz_alloc] at sA
  have HW := Lib.hid (And.intro hres (Below.trans ((Below.refl w.heap.size w).alloc (Nat.le_refl _) (.cells (vArr blankV) 26)) (hb.mono (by simp only [sz_alloc]; omega))))
  obtain ⟨s11, c11_0, c11_1, c11_2, c11_3, c11_4, c11_5, f11⟩ := L6 hb (w.heap.size) (by first | omega | (simp only [sA, sC, sD, sE]; omega) | (simp; done) | (simp; omega)) (by go_simp; exact ⟨rfl, rfl, rfl, rfl, rfl, rfl⟩) (by intro o; go_simp)
  clear hb hres
  go_wp2
  go_loopw [7, 50] (fun sv i wr => ∃ k, ApI w wA.heap.size S vs i k sv wr) (fun _ i _ => n - (intOf i).toNat)
  case atStart =>
    refine ⟨0, Nat.zero_le _, rfl, HW.out.1.alloc _, ?_, World.ownsRow_nil _ _ _ _, HW.out.2.alloc HW.out.2.size _, by simp only [sz_alloc]; omega⟩
    exact heap_alloc_new wA (.cells S.cells.toArray 56)
  case round =>
    obtain ⟨k, hk, rfl, hres, hsig, hown, hbk, hsz'⟩ := hrel
    rw [HN.out] at hk
    obtain ⟨aV, lV, cV, rfl⟩ := own_slice hown
    by_cases hlt : k < n
    · obtain ⟨g, off, rfl, hgw, hrow⟩ := HC.out (by rw [HN.out]; omega)
      have hkv : k < vs.length := by rw [HN.out]; exact hlt
      obtain ⟨v, hv⟩ : ∃ v, vs[k]? = some v := ⟨_, List.getElem?_eq_getElem hkv⟩
      obtain ⟨c0, c1, c2, c3, c4, c5⟩ := (hrow.below hgw hbk) k v hv
      have hvin := HI.out v (List.mem_of_getElem? hv)
      have HT : Hid (∀ wx : World, Calls Tryz.prog 28 #[.agg #[.int .i64 (v).k, .int .i64 (v).n, .int .i64 (v).d, .string (v).t, .bool (v).b, .int .i64 (v).f]] wx fun e w' => e = .returned (.agg #[.int .i64 (tkV v).k, .int .i64 (tkV v).n, .int .i64 (tkV v).d, .string (tkV v).t, .bool (tkV v).b, .int .i64 (tkV v).f]) ∧ Below wx.heap.size wx w') := fun wx => funcs_taken v.k v.n v.d v.t v.b v.f wx hvin
      have hstep : ((vs.take (k + 1)).map tkV).flatMap Vl.cells = ((vs.take k).map tkV).flatMap Vl.cells ++ (tkV v).cells := by
        rw [List.take_add_one, hv, List.map_append, List.flatMap_append]
        simp
      generalize tkV v = y at *
      have HS := Lib.hid hstep
      have sw := hbk.size
      have gw : g < wr.heap.size := by omega
      have HH := Lib.hid (And.intro hres (And.intro hsig (And.intro hown hbk)))
      clear hres hsig hown hbk hstep hrow hv
      go_wp2_with fail
      refine (HT.out _).mono ?_
      rintro e w2 ⟨rfl, hb2⟩
      obtain ⟨hres, hsig, hown, hbk⟩ := HH.out
      have R2 := (hres.alloc (.cells (vArr v) 26)).below hb2
      have S2 := (hsig.alloc (.cells (vArr v) 26)).below hb2
      have O2 := own_below (hown.alloc (.cells (vArr v) 26)) hb2
      have s2 := hb2.size
      simp only [sz_alloc] at s2
      have B2 : Below w.heap.size w w2 := (hbk.alloc (by omega) (.cells (vArr v) 26)).trans (hb2.mono (by simp only [sz_alloc]; omega))
      have HH2 := Lib.hid (And.intro R2 (And.intro S2 (And.intro O2 B2)))
      clear hres hsig hown hbk hb2 R2 S2 HH c0 c1 c2 c3 c4 c5
      go_wp2_with (first
        | (at_builtin
           refine wpList_append_lies _ rfl _ _ 22 rfl (wA.heap.size + 1) 26 i0 _ 6 56 Tryz.underlying22 hi hz hsz hby rfl (by decide) _ k _ rfl (O2.alloc _) ⟨w2.heap.size, 0, none⟩ 1 1 y.cells rfl rfl (World.news_of_block (heap_alloc_new _ _)) (Vl.one _) (by decide) (by unfold maxLen; omega) (by omega) (by simp only [sz_alloc]; omega) _ rfl ?_
           intro gx capx w4 hown4 hgrow4 hat4 hlt4
           have R4 := (HH2.out.1.alloc (.cells y.cells.toArray 26)).grown hgrow4 (own_ne O2 (by omega))
           have S4 := (HH2.out.2.1.alloc (.cells y.cells.toArray 26)).grown hgrow4 (own_ne O2 (by omega))
           have B4 := below_grownBy (HH2.out.2.2.2.alloc (by omega) (.cells y.cells.toArray 26)) hgrow4 (own_mono (O2.alloc _) (by omega)) (by simp only [sz_alloc]; omega)
           have s4 := hgrow4.size
           simp only [sz_alloc] at s4
           have HH4 := Lib.hid (And.intro R4 (And.intro S4 (And.intro hown4 B4)))
           clear R4 S4 hown4 B4 hgrow4 hat4)
        | fail)
      go_roundw
      case rel =>
        obtain ⟨R4, S4, hown4, B4⟩ := HH4.out
        refine ⟨k + 1, by rw [HN.out]; omega, by go_num, R4, S4, ?_, B4, by omega⟩
        rw [HS.out]
        exact hown4
      case measure => simp [intOf]; omega
    · obtain rfl : k = n := by omega
      rw [List.take_of_length_le (by rw [HN.out]; exact Nat.le_refl _)] at hown
      obtain ⟨gv, capv, ev, hgb, hgv, hcv⟩ := own_form hown (by omega)
      simp only [Value.slice.injEq] at ev
      obtain ⟨rfl, el, rfl⟩ := ev
      obtain rfl := el.symm
      have HT0 : (vs.map tkV).length = k := by rw [List.length_map]; exact HN.out
      have hright : ∀ v ∈ vs.map tkV, rightV v = true := by
        intro v hv
        obtain ⟨x, _, rfl⟩ := List.mem_map.1 hv
        exact tkV_right x
      generalize vs.map tkV = ts at *
      have HRt := Lib.hid hright
      clear hright
      obtain ⟨v0, hv0⟩ : ∃ v0, ts[0]? = some v0 := ⟨_, List.getElem?_eq_getElem (by omega)⟩
      obtain ⟨c0, c1, c2, c3, c4, c5⟩ := (valRow_own hown HT0) 0 v0 hv0
      simp only [Nat.zero_mul, Nat.add_zero, Nat.zero_add] at c0 c1 c2 c3 c4 c5
      have sw := hbk.size
      have HH := Lib.hid (And.intro hres (And.intro hsig (And.intro hown hbk)))
      obtain ⟨r0, r1, r2, r3, r4, r5⟩ := hres.v6
      have rf := hres.free
      have rl := hres.lt
      clear hres hsig hown hbk HI HC HB
      cases hask : askK id with
      | some K =>
        have HA := Lib.hid fun wx => asked_some hask v0 wx
        have HT := Lib.hid fun wx => value_Truth (v0.k == K) wx
        have HV : Hid (Q = truthV (v0.k == K)) := by
          unfold Hid
          rw [← HQ.out]
          unfold scalarP
          rw [hask, List.getD_eq_getElem?_getD, hv0]
          rfl
        generalize (v0.k == K) = q at *
        clear HQ hask hv0
        go_wp2_with fail
        refine (HA.out _).mono ?_
        rintro e w2 ⟨rfl, hb⟩
        obtain ⟨s12, c12_0, c12_1, c12_2, c12_3, c12_4, c12_5, f12⟩ := L6 hb (w.heap.size) (by first | omega | (simp only [sA, sC, sD, sE]; omega) | (simp; done) | (simp; omega)) (by go_simp; exact ⟨rfl, rfl, rfl, rfl, rfl, rfl⟩) (by intro o; go_simp)
        clear c11_0 c11_1 c11_2 c11_3 c11_4 c11_5 f11
        go_wp2_with fail
        refine (HT.out _).mono ?_
        rintro e w3 ⟨rfl, hb⟩
        obtain ⟨s13, c13_0, c13_1, c13_2, c13_3, c13_4, c13_5, f13⟩ := L6 hb (w.heap.size) (by first | omega | (simp only [sA, sC, sD, sE]; omega) | (simp; done) | (simp; omega)) (by go_simp; exact ⟨rfl, rfl, rfl, rfl, rfl, rfl⟩) (by intro o; go_simp)
        clear c12_0 c12_1 c12_2 c12_3 c12_4 c12_5 f12
        go_wp2
        have hbk := HH.out.2.2.2
        refine bodyPost_ret (v := .agg #[.int .i64 (Q).k, .int .i64 (Q).n, .int .i64 (Q).d, .string (Q).t, .bool (Q).b, .int .i64 (Q).f]) (by rw [HV.out]; simp [results, Tryz.results8, go_sem, c13_0, c13_1, c13_2, c13_3, c13_4, c13_5]) rfl ⟨rfl, ?_⟩
        focus
          repeat with_reducible first | exact Below.refl _ _ | refine below_drewN ?_ _ | refine Below.drew ?_ | refine Below.setCell ?_ ?_ _ | refine Below.alloc ?_ ?_ _ | refine below_then ?_ ?_ (by with_reducible assumption)
          all_goals first | omega | (simp only [sA, sC, sD, sE]; omega) | (simp; done) | (simp; omega)
      | none =>
        have HA := Lib.hid fun wx => asked_none hask v0 wx
        have h58 := askK_lt hask h62 hle62
        have HV : Hid (Q = match firstFault ts with | some v => v | none => if id = 46 then powVV (ts.getD 0 blankV) (ts.getD 1 blankV) else doneP id (takenP id (filled id S.most ts))) := by
          unfold Hid
          rw [← HQ.out]
          unfold scalarP
          rw [hask]
          rfl
        clear HQ
        go_wp2_with fail
        refine (HA.out _).mono ?_
        rintro e w5 ⟨rfl, hb5⟩
        obtain ⟨hres, hsig, hown, hbk⟩ := HH.out
        have R5 := hres.below hb5
        have S5 := hsig.below hb5
        have O5 := own_below hown hb5
        have W5 := hbk.trans (hb5.mono sw)
        have s5 := hb5.size
        have H5 := Lib.hid (And.intro R5 (And.intro S5 (And.intro O5 W5)))
        clear hres hsig hown hbk hb5 R5 S5 O5 W5 HH c0 c1 c2 c3 c4 c5 r0 r1 r2 r3 r4 r5 rf rl hv0 HA hask
        go_wp2
        go_loopw [73] (fun i wr => ∃ j, ApJ w5 ts i j wr) (fun i _ => k - (intOf i).toNat)
        case atStart => exact ⟨0, Nat.zero_le _, rfl, rfl, Below.refl _ _⟩
        case round =>
          obtain ⟨j, hj, rfl, hno, hbj⟩ := hrel
          have R6 := H5.out.1.below hbj
          have S6 := H5.out.2.1.below hbj
          have O6 := own_below H5.out.2.2.1 hbj
          have W6 := H5.out.2.2.2.trans (hbj.mono H5.out.2.2.2.size)
          have s6 := hbj.size
          have g6 : gv < wr.heap.size := by omega
          by_cases hlt : j < k
          · obtain ⟨v, hv⟩ : ∃ v, ts[j]? = some v := ⟨_, List.getElem?_eq_getElem (by omega)⟩
            obtain ⟨c0, c1, c2, c3, c4, c5⟩ := (valRow_own O6 HT0) j v hv
            simp only [Nat.zero_add] at c0 c1 c2 c3 c4 c5
            have hd : firstFault (ts.drop j) = if v.k = 4 then some v else firstFault (ts.drop (j + 1)) := by
              rw [List.drop_eq_getElem_cons (by omega), show ts[j]'(by omega) = v from Option.some.inj ((List.getElem?_eq_getElem (by omega)).symm.trans hv)]
              rfl
            rw [hd] at hno
            by_cases h4 : v.k = 4
            · rw [if_pos h4] at hno
              have HV2 : Hid (Q = v) := by unfold Hid; rw [HV.out, hno]
              have k4 : (v.k == 4) = true := by simp [h4]
              obtain ⟨r0, r1, r2, r3, r4, r5⟩ := R6.v6
              have rf := R6.free
              have rl := R6.lt
              have HW6 := Lib.hid W6
              clear HV hno hd h4 R6 S6 O6 W6 hv hbj
              have hW6 := HW6.out
              go_upto_region 19 with (fail)
              first | with_reducible refine wp_rebase ?_ | with_reducible refine wpList_rebase ?_
              intro w1 hb'
              have hb := hb'.out
              clear hb'
              obtain ⟨s14, c14_0, c14_1, c14_2, c14_3, c14_4, c14_5, f14⟩ := L6 hb (w.heap.size) (by first | omega | (simp only [sA, sC, sD, sE]; omega) | (simp; done) | (simp; omega)) (by go_simp; exact ⟨rfl, rfl, rfl, rfl, rfl, rfl⟩) (by intro o; go_simp)
              obtain ⟨s15, c15_0, c15_1, c15_2, c15_3, c15_4, c15_5, f15⟩ := L6 hb (wr.heap.size) (by first | omega | (simp only [sA, sC, sD, sE]; omega) | (simp; done) | (simp; omega)) (by go_simp; exact ⟨rfl, rfl, rfl, rfl, rfl, rfl⟩) (by intro o; go_simp)
              have HB7 : Hid (Below w.heap.size w w1) := by
                unfold Hid
                focus
                  repeat with_reducible first | exact Below.refl _ _ | refine below_drewN ?_ _ | refine Below.drew ?_ | refine Below.setCell ?_ ?_ _ | refine Below.alloc ?_ ?_ _ | refine below_then ?_ ?_ (by with_reducible assumption)
                  all_goals first | omega | (simp only [sA, sC, sD, sE]; omega) | (simp; done) | (simp; omega)
              clear hW6 hb
              go_wp2
              have hb7 := HB7.out
              refine bodyPost_ret (v := .agg #[.int .i64 (Q).k, .int .i64 (Q).n, .int .i64 (Q).d, .string (Q).t, .bool (Q).b, .int .i64 (Q).f]) (by rw [HV2.out]; simp [results, Tryz.results8, go_sem, c14_0, c14_1, c14_2, c14_3, c14_4, c14_5, c15_0, c15_1, c15_2, c15_3, c15_4, c15_5]) rfl ⟨rfl, ?_⟩
              focus
                repeat with_reducible first | exact Below.refl _ _ | refine below_drewN ?_ _ | refine Below.drew ?_ | refine Below.setCell ?_ ?_ _ | refine Below.alloc ?_ ?_ _ | refine below_then ?_ ?_ (by with_reducible assumption)
                all_goals first | omega | (simp only [sA, sC, sD, sE]; omega) | (simp; done) | (simp; omega)
            · rw [if_neg h4] at hno
              have k4 : (v.k == 4) = false := by simp [h4]
              have HB6 := Lib.hid (And.intro hno hbj)
              clear HV hno hd h4 R6 S6 O6 W6 hv hbj
              go_wp2
              go_roundw
              case rel => exact ⟨j + 1, by omega, by go_num, HB6.out.1, HB6.out.2.alloc (by omega) _⟩
              case measure => simp [intOf]; omega
          · obtain rfl : j = k := by omega
            have hnone : firstFault ts = none := by rw [hno, List.drop_of_length_le (by omega)]; rfl
            have HV2 : Hid (Q = if id = 46 then powVV (ts.getD 0 blankV) (ts.getD 1 blankV) else doneP id (takenP id (filled id S.most ts))) := by
              unfold Hid; rw [HV.out, hnone]
            clear hno HV
            obtain ⟨r0, r1, r2, r3, r4, r5⟩ := R6.v6
            have rf := R6.free
            have rl := R6.lt
            have sg4 : wr.cell? ⟨wA.heap.size, 4, none⟩ = some (.int .i64 S.most) := S6.cell 4
            have sgl := S6.lt
            have HTF : Hid (∀ h46 : ¬ id = 46, ∀ h47 : ¬ id = 47, ∀ h58 : id < 58, ∀ h4 : ¬ (takenP id (filled id S.most ts)).e.k = 4, (∀ x ∈ (takenP id (filled id S.most ts)).s.ns, rightN x.n x.d = true) ∧
                ((0 < (takenP id (filled id S.most ts)).s.ts.length ∧ TxFit id (takenP id (filled id S.most ts)).s) ∨
                  ((takenP id (filled id S.most ts)).s.ts.length = 0 ∧ 1 ≤ (takenP id (filled id S.most ts)).s.ns.length ∧ (id = 43 ∨ id = 44 ∨ id = 45 → 2 ≤ (takenP id (filled id S.most ts)).s.ns.length)))) := fun h46 h47 h58 h4 => taken_fits (by rw [HT0]; exact HFit.out) h46 h47 h58 h4
            have HFR := Lib.hid (filled_right (id := id) (most := S.most) HRt.out)
            have HFL : Hid ((filled id S.most ts).length = fillLen id S.most j) := by unfold Hid; rw [filled_len, HT0]
            have HFS := HFit.out.len
            have HFD : filled id S.most ts = if id = 43 ∧ j = 1 then ts ++ [wholeF 0] else if (j : Int) < S.most then ts ++ [wholeF 1] else ts := by unfold filled; rw [HT0]
            generalize filled id S.most ts = fs at *
            go_upto_block 5 with (fail)
            go_cut [7] from 82 (fun sv wx => ¬ id = 46 ∧ ∃ g2 cap2, sv = .slice (some ⟨g2, 0, none⟩) fs.length cap2 ∧ wx.ownsRow (wA.heap.size + 1) 26 6 (.slice (some ⟨g2, 0, none⟩) fs.length cap2) fs.length (fs.flatMap Vl.cells) ∧ Blk wx w.heap.size (vArr blankV) 26 ∧ Below w.heap.size w wx)
            case first =>
              by_cases h46 : id = 46
              · have hk2 := HFit.out.two h46
                obtain rfl : j = 2 := hk2
                obtain ⟨x, hx⟩ : ∃ x, ts[0]? = some x := ⟨_, List.getElem?_eq_getElem (by omega)⟩
                obtain ⟨y, hy⟩ : ∃ y, ts[1]? = some y := ⟨_, List.getElem?_eq_getElem (by omega)⟩
                obtain ⟨c0, c1, c2, c3, c4, c5⟩ := (valRow_own O6 HT0) 0 x hx
                obtain ⟨d0, d1, d2, d3, d4, d5⟩ := (valRow_own O6 HT0) 1 y hy
                simp only [Nat.zero_mul, Nat.one_mul, Nat.add_zero, Nat.zero_add, Nat.reduceAdd] at c0 c1 c2 c3 c4 c5 d0 d1 d2 d3 d4 d5
                have HP := Lib.hid fun wx => value_Pow2 x y wx (right_in (HRt.out x (List.mem_of_getElem? hx))) (right_in (HRt.out y (List.mem_of_getElem? hy)))
                have HV3 : Hid (Q = powVV x y) := by
                  unfold Hid
                  rw [HV2.out, if_pos h46, List.getD_eq_getElem?_getD, List.getD_eq_getElem?_getD, hx, hy]
                  rfl
                have HW6 := Lib.hid W6
                have k46 : (id == 46) = true := by simp [h46]
                generalize powVV x y = R at *
                clear HV2 hx hy R6 S6 O6 W6 hbj h46 hnone
                go_wp2_with fail
                refine region_below 7 (by kernel_rfl) (by kernel_rfl) ?_
                simp only [List.take_succ_cons, List.take_zero, List.drop_succ_cons, List.drop_zero]
                repeat
                  first | (refine q_run ?_ ?_; focus (go_simp; done)) | (refine q_skip ?_ ?_; focus (go_simp; done))
                  try (apply Exists.intro; refine ⟨fun w' hw' => ?_, ?_⟩; focus (have hc := (bcell hw'.out).1; unfold Oper.quietAt; go_simp; (try go_ints); (first | rfl | (go_at_call 31; refine (HP.out _).mono ?_; rintro e w2 ⟨rfl, hb⟩; exact ⟨rfl, hw'.chain hb⟩))))
                  intro K hK
                  go_simp
                  refine hK _ ?_
                  clear hK K
                refine wpQuiet_nil ?_
                intro w1 hb'
                have hb := hb'.out
                clear hb'
                obtain ⟨s16, c16_0, c16_1, c16_2, c16_3, c16_4, c16_5, f16⟩ := L6 hb (w.heap.size) (by first | omega | (simp only [sA, sC, sD, sE]; omega) | (simp; done) | (simp; omega)) (by go_simp; exact ⟨rfl, rfl, rfl, rfl, rfl, rfl⟩) (by intro o; go_simp)
                go_wp2
                have hb6 := HW6.out
                refine bodyPost_ret (v := .agg #[.int .i64 (Q).k, .int .i64 (Q).n, .int .i64 (Q).d, .string (Q).t, .bool (Q).b, .int .i64 (Q).f]) (by rw [HV3.out]; simp [results, Tryz.results8, go_sem, c16_0, c16_1, c16_2, c16_3, c16_4, c16_5]) rfl ⟨rfl, ?_⟩
                focus
                  repeat with_reducible first | exact Below.refl _ _ | refine below_drewN ?_ _ | refine Below.drew ?_ | refine Below.setCell ?_ ?_ _ | refine Below.alloc ?_ ?_ _ | refine below_then ?_ ?_ (by with_reducible assumption)
                  all_goals first | omega | (simp only [sA, sC, sD, sE]; omega) | (simp; done) | (simp; omega)
              · have k46 : (id == 46) = false := by simp [h46]
                have HH6 := Lib.hid (And.intro R6 (And.intro O6 W6))
                clear HV2 R6 S6 W6 O6 hbj hnone HTF HFR HFL
                by_cases hA : id = 43 ∧ j = 1
                · have HFE : Hid (fs = ts ++ [wholeF 0]) := by unfold Hid; rw [HFD, if_pos hA]
                  obtain ⟨hA1, rfl⟩ := hA
                  have k43 : (id == 43) = true := by simp [hA1]
                  clear HFD hA1
                  have HWh := Lib.hid fun wx => funcs_whole 0 wx ⟨by decide, by decide⟩
                  generalize wholeF 0 = y at *
                  have hlen : fs.length = 1 + 1 := by rw [HFE.out, List.length_append, HT0]; rfl
                  go_wp2_with fail
                  refine (HWh.out _).mono ?_
                  rintro e w7 ⟨rfl, hb7⟩
                  obtain ⟨R6, O6, W6⟩ := HH6.out
                  have R7 := R6.below hb7
                  have O7 := own_below O6 hb7
                  have W7 := W6.trans (hb7.mono W6.size)
                  have s7 := hb7.size
                  have HH7 := Lib.hid (And.intro R7 W7)
                  clear R6 O6 W6 hb7 R7 W7
                  go_wp2_with (first
                    | (at_builtin
                       refine wpList_append_lies _ rfl _ _ 22 rfl (wA.heap.size + 1) 26 i0 _ 6 56 Tryz.underlying22 hi hz hsz hby rfl (by decide) _ 1 _ rfl (O7.alloc _) ⟨w7.heap.size, 0, none⟩ 1 1 y.cells rfl rfl (World.news_of_block (heap_alloc_new _ _)) (Vl.one _) (by decide) (by unfold maxLen; omega) (by omega) (by simp only [sz_alloc]; omega) _ rfl ?_
                       intro gx capx w8 hown8 hgrow8 hat8 hlt8
                       have R8 := (HH7.out.1.alloc (.cells y.cells.toArray 26)).grown hgrow8 (own_ne O7 (by omega))
                       have B8 := below_grownBy (HH7.out.2.alloc (by omega) (.cells y.cells.toArray 26)) hgrow8 (own_mono (O7.alloc _) (by omega)) (by simp only [sz_alloc]; omega)
                       have HH8 := Lib.hid (And.intro R8 (And.intro hown8 B8))
                       clear R8 hown8 B8 hgrow8 hat8)
                    | fail)
                  go_meet
                  obtain ⟨R8, O8, B8⟩ := HH8.out
                  refine ⟨h46, gx, capx, by rw [hlen], ?_, R8, B8⟩
                  rw [hlen, HFE.out, List.flatMap_append]
                  simpa using O8
                have h43 : (id == 43) = false ∨ ((id == 43) = true ∧ ((j : Int) == 1) = false) := by
                  by_cases h : id = 43
                  · refine .inr ⟨by simp [h], ?_⟩
                    rw [beq_eq_false_iff_ne]
                    intro h'
                    exact hA ⟨h, by omega⟩
                  · exact .inl (by simp [h])
                rw [if_neg hA] at HFD
                clear hA
                by_cases hB : (j : Int) < S.most
                · have HFE : Hid (fs = ts ++ [wholeF 1]) := by unfold Hid; rw [HFD, if_pos hB]
                  clear HFD
                  rcases h43 with k43 | ⟨k43, k43'⟩
                  all_goals
                    have HWh := Lib.hid fun wx => funcs_whole 1 wx ⟨by decide, by decide⟩
                    generalize wholeF 1 = y at *
                    have hlen : fs.length = j + 1 := by rw [HFE.out, List.length_append, HT0]; rfl
                    go_wp2_with fail
                    refine (HWh.out _).mono ?_
                    rintro e w7 ⟨rfl, hb7⟩
                    obtain ⟨R6, O6, W6⟩ := HH6.out
                    have R7 := R6.below hb7
                    have O7 := own_below O6 hb7
                    have W7 := W6.trans (hb7.mono W6.size)
                    have s7 := hb7.size
                    have HH7 := Lib.hid (And.intro R7 W7)
                    clear R6 O6 W6 hb7 R7 W7
                    go_wp2_with (first
                      | (at_builtin
                         refine wpList_append_lies _ rfl _ _ 22 rfl (wA.heap.size + 1) 26 i0 _ 6 56 Tryz.underlying22 hi hz hsz hby rfl (by decide) _ j _ rfl (O7.alloc _) ⟨w7.heap.size, 0, none⟩ 1 1 y.cells rfl rfl (World.news_of_block (heap_alloc_new _ _)) (Vl.one _) (by decide) (by unfold maxLen; omega) (by omega) (by simp only [sz_alloc]; omega) _ rfl ?_
                         intro gx capx w8 hown8 hgrow8 hat8 hlt8
                         have R8 := (HH7.out.1.alloc (.cells y.cells.toArray 26)).grown hgrow8 (own_ne O7 (by omega))
                         have B8 := below_grownBy (HH7.out.2.alloc (by omega) (.cells y.cells.toArray 26)) hgrow8 (own_mono (O7.alloc _) (by omega)) (by simp only [sz_alloc]; omega)
                         have HH8 := Lib.hid (And.intro R8 (And.intro hown8 B8))
                         clear R8 hown8 B8 hgrow8 hat8)
                      | fail)
                    go_meet
                    obtain ⟨R8, O8, B8⟩ := HH8.out
                    refine ⟨h46, gx, capx, by rw [hlen], ?_, R8, B8⟩
                    rw [hlen, HFE.out, List.flatMap_append]
                    simpa using O8
                · have HFE : Hid (fs = ts) := by unfold Hid; rw [HFD, if_neg hB]
                  clear HFD
                  rcases h43 with k43 | ⟨k43, k43'⟩
                  all_goals
                    go_wp2
                    go_meet
                    obtain ⟨R6, O6, W6⟩ := HH6.out
                    refine ⟨h46, gv, cV, by rw [HFE.out, HT0], ?_, R6, W6⟩
                    rw [HFE.out, HT0]
                    exact O6
            case rest =>
              obtain ⟨h46, g2, cap2, rfl, O7, R7, W7⟩ := hcut
              have HV3 : Hid (Q = doneP id (takenP id fs)) := by
                unfold Hid
                rw [HV2.out, if_neg h46]
              have l7 := (O7.lt g2 rfl).2
              have hfl : fs.length ≤ (shapeB id).size := by rw [HFL.out]; exact HFS
              have HTK : Hid (∀ wx, Below wc.heap.size wc wx → Calls Tryz.prog 33 #[.string (shapeB id), .slice (some ⟨g2, 0, none⟩) fs.length cap2] wx fun e w' => ∃ sN sT, e = .returned (.tuple #[.agg #[sN, sT, .bool (takenP id fs).s.tr], .agg #[.int .i64 ((takenP id fs).e).k, .int .i64 ((takenP id fs).e).n, .int .i64 ((takenP id fs).e).d, .string ((takenP id fs).e).t, .bool ((takenP id fs).e).b, .int .i64 ((takenP id fs).e).f]]) ∧ Below wx.heap.size wx w' ∧
                  w'.ownsRow wx.heap.size 24 2 sN (takenP id fs).s.ns.length ((takenP id fs).s.ns.flatMap cells2) ∧
                  w'.ownsRow wx.heap.size 9 1 sT (takenP id fs).s.ts.length ((takenP id fs).s.ts.map Value.string)) := by
                intro wx hx
                exact funcs_take (shapeB id) fs (some ⟨g2, 0, none⟩) fs.length cap2 wx rfl hfl (shape_size id) (fun v hv => right_in (HFR.out v hv)) (fun _ => ⟨g2, 0, rfl, lcs hx g2 l7, valRow_own (own_below O7 hx) rfl⟩) (HL.out wx (W7.trans (hx.mono W7.size))).p10
              have HSh := Lib.hid fun wx => funcs_shape id wx
              have HT47 := HTF.out h46
              have HTFF := Lib.hid HT47
              generalize shapeB id = sh at *
              generalize takenP id fs = r at *
              have s7 := W7.size
              have HH7 := Lib.hid (And.intro R7 W7)
              clear HV2 HTF HT47 O7 R7 W7 HFL HFS HFD HFR hfl R6 S6 O6 W6 hbj hnone
              go_wp2_with fail
              refine (HSh.out _).mono ?_
              rintro e w8' ⟨rfl, rfl⟩
              go_wp2_with fail
              refine (HTK.out _ (Below.refl _ _)).mono ?_
              rintro e w8 ⟨sN, sT, rfl, hb8, oN8, oT8⟩
              obtain ⟨aN, lN, cN, rfl⟩ := own_slice oN8
              obtain ⟨aT, lT, cT, rfl⟩ := own_slice oT8
              have hlT : lT = r.s.ts.length := by
                rcases oT8.2 with ⟨h, h'⟩ | ⟨_, _, _, h, _⟩
                · simp only [Value.slice.injEq] at h; omega
                · simp only [Value.slice.injEq] at h; exact h.2.1
              have R8 := HH7.out.1.below hb8
              have W8 := HH7.out.2.trans (hb8.mono s7)
              have s8 := hb8.size
              obtain ⟨q0, q1, q2, q3, q4, q5⟩ := R8.v6
              have qf := R8.free
              have ql := R8.lt
              have HH8 := Lib.hid (And.intro oN8 (And.intro oT8 (And.intro R8 W8)))
              clear hb8 oN8 oT8 R8 W8 HH7 r0 r1 r2 r3 r4 r5 rf rl HTK HSh sg4 sgl
              by_cases h4 : r.e.k = 4
              · have HV4 : Hid (Q = r.e) := by unfold Hid; rw [HV3.out]; unfold doneP; rw [if_pos h4]
                have k4 : (r.e.k == 4) = true := by simp [h4]
                clear HV3 h4 HTFF hlT
                go_upto_region 28 with (fail)
                have hW8 := HH8.out.2.2.2
                go_upto_region 29 with (fail)
                first | with_reducible refine wp_rebase ?_ | with_reducible refine wpList_rebase ?_
                intro w1 hb'
                have hb := hb'.out
                clear hb'
                obtain ⟨s17, c17_0, c17_1, c17_2, c17_3, c17_4, c17_5, f17⟩ := L6 hb (w.heap.size) (by first | omega | (simp only [sA, sC, sD, sE]; omega) | (simp; done) | (simp; omega)) (by go_simp; exact ⟨rfl, rfl, rfl, rfl, rfl, rfl⟩) (by intro o; go_simp)
                obtain ⟨s18, c18_0, c18_1, c18_2, c18_3, c18_4, c18_5, f18⟩ := L6 hb (w8.heap.size + 1) (by first | omega | (simp only [sA, sC, sD, sE]; omega) | (simp; done) | (simp; omega)) (by go_simp; exact ⟨rfl, rfl, rfl, rfl, rfl, rfl⟩) (by intro o; go_simp)
                have HB9 : Hid (Below w.heap.size w w1) := by
                  unfold Hid
                  focus
                    repeat with_reducible first | exact Below.refl _ _ | refine below_drewN ?_ _ | refine Below.drew ?_ | refine Below.setCell ?_ ?_ _ | refine Below.alloc ?_ ?_ _ | refine below_then ?_ ?_ (by with_reducible assumption)
                    all_goals first | omega | (simp only [sA, sC, sD, sE]; omega) | (simp; done) | (simp; omega)
                clear hW8 hb
                go_wp2
                have hb9 := HB9.out
                refine bodyPost_ret (v := .agg #[.int .i64 (Q).k, .int .i64 (Q).n, .int .i64 (Q).d, .string (Q).t, .bool (Q).b, .int .i64 (Q).f]) (by rw [HV4.out]; simp [results, Tryz.results8, go_sem, c17_0, c17_1, c17_2, c17_3, c17_4, c17_5, c18_0, c18_1, c18_2, c18_3, c18_4, c18_5]) rfl ⟨rfl, ?_⟩
                focus
                  repeat with_reducible first | exact Below.refl _ _ | refine below_drewN ?_ _ | refine Below.drew ?_ | refine Below.setCell ?_ ?_ _ | refine Below.alloc ?_ ?_ _ | refine below_then ?_ ?_ (by with_reducible assumption)
                  all_goals first | omega | (simp only [sA, sC, sD, sE]; omega) | (simp; done) | (simp; omega)
              have k4 : (r.e.k == 4) = false := by simp [h4]
              by_cases h47 : id = 47
              · have HV4 : Hid (Q = truthV (!r.s.tr)) := by unfold Hid; rw [HV3.out]; unfold doneP; rw [if_neg h4, if_pos h47]
                have k47 : (id == 47) = true := by simp [h47]
                have HTr := Lib.hid fun wx => value_Truth (!r.s.tr) wx
                clear HV3 h4 h47 HTFF hlT
                go_wp2_with fail
                refine (HTr.out _).mono ?_
                rintro e w9 ⟨rfl, hb9⟩
                obtain ⟨s19, c19_0, c19_1, c19_2, c19_3, c19_4, c19_5, f19⟩ := L6 hb9 (w.heap.size) (by first | omega | (simp only [sA, sC, sD, sE]; omega) | (simp; done) | (simp; omega)) (by go_simp; exact ⟨rfl, rfl, rfl, rfl, rfl, rfl⟩) (by intro o; go_simp)
                go_wp2
                have hW8 := HH8.out.2.2.2
                refine bodyPost_ret (v := .agg #[.int .i64 (Q).k, .int .i64 (Q).n, .int .i64 (Q).d, .string (Q).t, .bool (Q).b, .int .i64 (Q).f]) (by rw [HV4.out]; simp [results, Tryz.results8, go_sem, c19_0, c19_1, c19_2, c19_3, c19_4, c19_5]) rfl ⟨rfl, ?_⟩
                focus
                  repeat with_reducible first | exact Below.refl _ _ | refine below_drewN ?_ _ | refine Below.drew ?_ | refine Below.setCell ?_ ?_ _ | refine Below.alloc ?_ ?_ _ | refine below_then ?_ ?_ (by with_reducible assumption)
                  all_goals first | omega | (simp only [sA, sC, sD, sE]; omega) | (simp; done) | (simp; omega)
              have k47 : (id == 47) = false := by simp [h47]
              obtain ⟨hri, hrest⟩ := HTFF.out h47 h58 h4
              rcases hrest with ⟨ht0, htf⟩ | ⟨ht0, hn1, hn2⟩
              · have HV4 : Hid (Q = ofTextsP id r.s) := by unfold Hid; rw [HV3.out]; unfold doneP; rw [if_neg h4, if_neg h47, if_pos ht0]
                have HO : Hid (∀ wx, Below w8.heap.size w8 wx → Calls Tryz.prog 35 #[.int .i64 id, .agg #[.slice aN lN cN, .slice aT lT cT, .bool r.s.tr]] wx fun e w' => e = .returned (.agg #[.int .i64 (ofTextsP id r.s).k, .int .i64 (ofTextsP id r.s).n, .int .i64 (ofTextsP id r.s).d, .string (ofTextsP id r.s).t, .bool (ofTextsP id r.s).b, .int .i64 (ofTextsP id r.s).f]) ∧ Below wx.heap.size wx w') := by
                  intro wx hx
                  exact funcs_ofTexts id r.s _ _ _ _ wx (own_below HH8.out.1 hx) (own_below HH8.out.2.1 hx) htf (HL.out wx (HH8.out.2.2.2.trans (hx.mono HH8.out.2.2.2.size)))
                have g0 : (0 : Int) < (lT : Int) := by omega
                generalize ofTextsP id r.s = R at *
                clear HV3 h4 h47 HTFF hri htf hlT ht0
                go_wp2_with fail
                refine (HO.out _ ?_).mono ?_
                · focus
                    repeat with_reducible first | exact Below.refl _ _ | refine below_drewN ?_ _ | refine Below.drew ?_ | refine Below.setCell ?_ ?_ _ | refine Below.alloc ?_ ?_ _ | refine below_then ?_ ?_ (by with_reducible assumption)
                    all_goals first | omega | (simp only [sA, sC, sD, sE]; omega) | (simp; done) | (simp; omega)
                rintro e w9 ⟨rfl, hb9⟩
                obtain ⟨s20, c20_0, c20_1, c20_2, c20_3, c20_4, c20_5, f20⟩ := L6 hb9 (w.heap.size) (by first | omega | (simp only [sA, sC, sD, sE]; omega) | (simp; done) | (simp; omega)) (by go_simp; exact ⟨rfl, rfl, rfl, rfl, rfl, rfl⟩) (by intro o; go_simp)
                go_wp2
                have hW8 := HH8.out.2.2.2
                refine bodyPost_ret (v := .agg #[.int .i64 (Q).k, .int .i64 (Q).n, .int .i64 (Q).d, .string (Q).t, .bool (Q).b, .int .i64 (Q).f]) (by rw [HV4.out]; simp [results, Tryz.results8, go_sem, c20_0, c20_1, c20_2, c20_3, c20_4, c20_5]) rfl ⟨rfl, ?_⟩
                focus
                  repeat with_reducible first | exact Below.refl _ _ | refine below_drewN ?_ _ | refine Below.drew ?_ | refine Below.setCell ?_ ?_ _ | refine Below.alloc ?_ ?_ _ | refine below_then ?_ ?_ (by with_reducible assumption)
                  all_goals first | omega | (simp only [sA, sC, sD, sE]; omega) | (simp; done) | (simp; omega)
              · have HV4 : Hid (Q = ofNumbersP id r.s.ns) := by unfold Hid; rw [HV3.out]; unfold doneP; rw [if_neg h4, if_neg h47, if_neg (by omega)]
                have HO : Hid (∀ wx, Below w8.heap.size w8 wx → Calls Tryz.prog 36 #[.int .i64 id, .slice aN lN cN] wx fun e w' => e = .returned (.agg #[.int .i64 (ofNumbersP id r.s.ns).k, .int .i64 (ofNumbersP id r.s.ns).n, .int .i64 (ofNumbersP id r.s.ns).d, .string (ofNumbersP id r.s.ns).t, .bool (ofNumbersP id r.s.ns).b, .int .i64 (ofNumbersP id r.s.ns).f]) ∧ Below wx.heap.size wx w') := by
                  intro wx hx
                  exact funcs_ofNumbers id r.s.ns _ _ wx (own_below HH8.out.1 hx) hn1 hn2 hri
                have g0 : ¬ (0 : Int) < (lT : Int) := by omega
                have g1 : lT = 0 := by omega
                generalize ofNumbersP id r.s.ns = R at *
                clear HV3 h4 h47 HTFF hri hlT ht0 hn1 hn2
                go_wp2_with fail
                refine (HO.out _ ?_).mono ?_
                · focus
                    repeat with_reducible first | exact Below.refl _ _ | refine below_drewN ?_ _ | refine Below.drew ?_ | refine Below.setCell ?_ ?_ _ | refine Below.alloc ?_ ?_ _ | refine below_then ?_ ?_ (by with_reducible assumption)
                    all_goals first | omega | (simp only [sA, sC, sD, sE]; omega) | (simp; done) | (simp; omega)
                rintro e w9 ⟨rfl, hb9⟩
                obtain ⟨s21, c21_0, c21_1, c21_2, c21_3, c21_4, c21_5, f21⟩ := L6 hb9 (w.heap.size) (by first | omega | (simp only [sA, sC, sD, sE]; omega) | (simp; done) | (simp; omega)) (by go_simp; exact ⟨rfl, rfl, rfl, rfl, rfl, rfl⟩) (by intro o; go_simp)
                go_wp2
                have hW8 := HH8.out.2.2.2
                refine bodyPost_ret (v := .agg #[.int .i64 (Q).k, .int .i64 (Q).n, .int .i64 (Q).d, .string (Q).t, .bool (Q).b, .int .i64 (Q).f]) (by rw [HV4.out]; simp [results, Tryz.results8, go_sem, c21_0, c21_1, c21_2, c21_3, c21_4, c21_5]) rfl ⟨rfl, ?_⟩
                focus
                  repeat with_reducible first | exact Below.refl _ _ | refine below_drewN ?_ _ | refine Below.drew ?_ | refine Below.setCell ?_ ?_ _ | refine Below.alloc ?_ ?_ _ | refine below_then ?_ ?_ (by with_reducible assumption)
                  all_goals first | omega | (simp only [sA, sC, sD, sE]; omega) | (simp; done) | (simp; omega)
end Go.Proofs.YtglngfaagjgpjaaGreatDoor
