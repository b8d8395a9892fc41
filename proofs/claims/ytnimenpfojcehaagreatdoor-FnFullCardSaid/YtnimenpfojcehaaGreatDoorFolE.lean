/- Walks of package funcs: the searches and SUMPRODUCT: what they do with any value. -/
import Derived.Test.YtnimenpfojcehaaGreatDoorFolM
import Derived.Test.YtnimenpfojcehaaGreatDoorFolV
namespace Go.Proofs.YtnimenpfojcehaaGreatDoor
open Go Go.RowKit
set_option linter.unusedSimpArgs false
set_option linter.unusedVariables false

def kdS : Value := .iface 96 (.agg #[])
def kdP : Value := .iface 98 (.agg #[])
/-- Is it as the needle? -/
def AccS.sm (S : AccS) (v : Vl) : Bool := S.has && sameV S.needle v
set_option maxHeartbeats 1000000 in
theorem acc_same0 (b : Nat) (S : AccS) (kd : Value) (v : Vl) (w : World) (hA : Blk w b (accArr S kd) 57) (hs : S.has = false) :
    Calls Tryz.prog 203 #[.pointer (some ⟨b, 0, none⟩), .agg #[.int .i64 (v).k, .int .i64 (v).n, .int .i64 (v).d, .string (v).t, .bool (v).b, .int .i64 (v).f]] w fun e w' => e = .returned (.bool false) ∧ Below w.heap.size w w' := by
  have hlt := hA.lt
  have hne : ¬ b = w.heap.size := by omega
  have hne' : ¬ w.heap.size = b := by omega
  have a16 : w.cell? ⟨b, 16, none⟩ = some (.bool false) := (hA.cell 16).trans (by rw [← hs]; rfl)
  clear hA hs
  go_enter Tryz.func203, Tryz.ntmps203
  go_wp2_with fail
  go_quiet (fail)
  go_wp2
  go_ret
  refine ⟨rfl, ?_⟩
  focus
    repeat with_reducible first | exact Below.refl _ _ | refine below_drewN ?_ _ | refine Below.drew ?_ | refine Below.setCell ?_ ?_ _ | refine Below.alloc ?_ ?_ _ | refine below_then ?_ ?_ (by with_reducible assumption)
    all_goals first | omega | (simp only [sA, sC, sD, sE]; omega) | (simp; done) | (simp; omega)
theorem acc_sameG (b : Nat) (S : AccS) (kd : Value) (v : Vl) (w : World) (hA : Blk w b (accArr S kd) 57) (hn : S.needle.In) (hv : v.In) :
    Calls Tryz.prog 203 #[.pointer (some ⟨b, 0, none⟩), .agg #[.int .i64 (v).k, .int .i64 (v).n, .int .i64 (v).d, .string (v).t, .bool (v).b, .int .i64 (v).f]] w fun e w' => e = .returned (.bool (S.sm v)) ∧ Below w.heap.size w w' := by
  unfold AccS.sm
  cases hs : S.has
  · exact acc_same0 b S kd v w hA hs
  · exact acc_same b S kd v w hA hs hn hv
def markN (N : NmS) (t : ByteArray) (nd v : Vl) : Bool :=
  if Lib.hasPrefix t.data.toList [60, 61] = true then markB 0 N t v else if Lib.hasPrefix t.data.toList [62, 61] = true then markB 1 N t v
  else if Lib.hasPrefix t.data.toList [60, 62] = true then markB 2 N t v else if Lib.hasPrefix t.data.toList [60] = true then markB 3 N t v
  else if Lib.hasPrefix t.data.toList [62] = true then markB 4 N t v else if Lib.hasPrefix t.data.toList [61] = true then markB 5 N t v else sameV nd v
/-- Is it as the needle asks? -/
def meetsN (N : NmS) (nd v : Vl) : Bool := if v.k = 0 ∨ v.k = 4 then false else if nd.k = 2 then markN N nd.t nd v else sameV nd v
def AccS.mts (S : AccS) (N : NmS) (v : Vl) : Bool := S.has && meetsN N S.needle v
set_option maxHeartbeats 4000000 in
theorem meets_text (b : Nat) (S : AccS) (kd : Value) (v : Vl) (w : World) (hA : Blk w b (accArr S kd) 57) (hs : S.has = true) (hn : S.needle.In) (hv : v.In) (h0 : ¬ v.k = 0) (h4 : ¬ v.k = 4) (hk : S.needle.k = 2) (p1 : Lib.hasPrefix S.needle.t.data.toList [60, 61] = false) (p2 : Lib.hasPrefix S.needle.t.data.toList [62, 61] = false) (p3 : Lib.hasPrefix S.needle.t.data.toList [60, 62] = false) (p4 : Lib.hasPrefix S.needle.t.data.toList [60] = false) (p5 : Lib.hasPrefix S.needle.t.data.toList [62] = false) (p6 : Lib.hasPrefix S.needle.t.data.toList [61] = false) :
    Calls Tryz.prog 206 #[.pointer (some ⟨b, 0, none⟩), .agg #[.int .i64 (v).k, .int .i64 (v).n, .int .i64 (v).d, .string (v).t, .bool (v).b, .int .i64 (v).f]] w fun e w' => e = .returned (.bool (sameV S.needle v)) ∧ Below w.heap.size w w' := by
  have hlt := hA.lt
  have hne : ¬ b = w.heap.size := by omega
  have hne' : ¬ w.heap.size = b := by omega
  have hne1 : ¬ b = w.heap.size + 1 := by omega
  have hne1' : ¬ w.heap.size + 1 = b := by omega
  have a16 : w.cell? ⟨b, 16, none⟩ = some (.bool true) := (hA.cell 16).trans (by rw [← hs]; rfl)
  have a1 : w.cell? ⟨b, 10, none⟩ = some (.int .i64 S.needle.k) := hA.cell 10
  have a2 : w.cell? ⟨b, 11, none⟩ = some (.int .i64 S.needle.n) := hA.cell 11
  have a3 : w.cell? ⟨b, 12, none⟩ = some (.int .i64 S.needle.d) := hA.cell 12
  have a4 : w.cell? ⟨b, 13, none⟩ = some (.string S.needle.t) := hA.cell 13
  have a5 : w.cell? ⟨b, 14, none⟩ = some (.bool S.needle.b) := hA.cell 14
  have a6 : w.cell? ⟨b, 15, none⟩ = some (.int .i64 S.needle.f) := hA.cell 15
  have HS := Lib.hid fun wx => value_Same S.needle.k S.needle.n S.needle.d S.needle.t S.needle.b S.needle.f v.k v.n v.d v.t v.b v.f wx hn hv
  have es : sameV ⟨S.needle.k, S.needle.n, S.needle.d, S.needle.t, S.needle.b, S.needle.f⟩ ⟨v.k, v.n, v.d, v.t, v.b, v.f⟩ = sameV S.needle v := rfl
  rw [es] at HS
  have k0 : (v.k == 0) = false := by simp [h0]
  have k4 : (v.k == 4) = false := by simp [h4]
  have kn : (S.needle.k == 2) = true := by simp [hk]
  clear es hA hs hn hv h0 h4 hk
  generalize sameV S.needle v = q at *
  go_enter Tryz.func206, Tryz.ntmps206
  go_wp2
  refine wp_loop_rounds 7 ?_
  rw [rounds_succ]
  go_wp2_with fail
  refine (Tryz.strings_HasPrefix _ _ _).mono ?_
  rintro e w1 ⟨rfl, rfl⟩
  go_wp2
  rw [rounds_succ]
  go_wp2_with fail
  refine (Tryz.strings_HasPrefix _ _ _).mono ?_
  rintro e w2 ⟨rfl, rfl⟩
  go_wp2
  rw [rounds_succ]
  go_wp2_with fail
  refine (Tryz.strings_HasPrefix _ _ _).mono ?_
  rintro e w3 ⟨rfl, rfl⟩
  go_wp2
  rw [rounds_succ]
  go_wp2_with fail
  refine (Tryz.strings_HasPrefix _ _ _).mono ?_
  rintro e w4 ⟨rfl, rfl⟩
  go_wp2
  rw [rounds_succ]
  go_wp2_with fail
  refine (Tryz.strings_HasPrefix _ _ _).mono ?_
  rintro e w5 ⟨rfl, rfl⟩
  go_wp2
  rw [rounds_succ]
  go_wp2_with fail
  refine (Tryz.strings_HasPrefix _ _ _).mono ?_
  rintro e w6 ⟨rfl, rfl⟩
  go_wp2
  rw [rounds_succ]
  go_wp2_with fail
  refine (HS.out _).mono ?_
  rintro e w7 ⟨rfl, hb⟩
  go_wp2
  go_ret
  refine ⟨rfl, ?_⟩
  focus
    repeat with_reducible first | exact Below.refl _ _ | refine below_drewN ?_ _ | refine Below.drew ?_ | refine Below.setCell ?_ ?_ _ | refine Below.alloc ?_ ?_ _ | refine below_then ?_ ?_ (by with_reducible assumption)
    all_goals first | omega | (simp only [sA, sC, sD, sE]; omega) | (simp; done) | (simp; omega)

set_option maxHeartbeats 4000000 in
theorem meets_other (b : Nat) (S : AccS) (kd : Value) (v : Vl) (w : World) (hA : Blk w b (accArr S kd) 57) (hs : S.has = true) (hn : S.needle.In) (hv : v.In) (h0 : ¬ v.k = 0) (h4 : ¬ v.k = 4) (hk : ¬ S.needle.k = 2) :
    Calls Tryz.prog 206 #[.pointer (some ⟨b, 0, none⟩), .agg #[.int .i64 (v).k, .int .i64 (v).n, .int .i64 (v).d, .string (v).t, .bool (v).b, .int .i64 (v).f]] w fun e w' => e = .returned (.bool (sameV S.needle v)) ∧ Below w.heap.size w w' := by
  have hlt := hA.lt
  have hne : ¬ b = w.heap.size := by omega
  have hne' : ¬ w.heap.size = b := by omega
  have hne1 : ¬ b = w.heap.size + 1 := by omega
  have hne1' : ¬ w.heap.size + 1 = b := by omega
  have a16 : w.cell? ⟨b, 16, none⟩ = some (.bool true) := (hA.cell 16).trans (by rw [← hs]; rfl)
  have a7 : w.cell? ⟨b, 10, none⟩ = some (.int .i64 S.needle.k) := hA.cell 10
  have a8 : w.cell? ⟨b, 11, none⟩ = some (.int .i64 S.needle.n) := hA.cell 11
  have a9 : w.cell? ⟨b, 12, none⟩ = some (.int .i64 S.needle.d) := hA.cell 12
  have a10 : w.cell? ⟨b, 13, none⟩ = some (.string S.needle.t) := hA.cell 13
  have a11 : w.cell? ⟨b, 14, none⟩ = some (.bool S.needle.b) := hA.cell 14
  have a12 : w.cell? ⟨b, 15, none⟩ = some (.int .i64 S.needle.f) := hA.cell 15
  have HS := Lib.hid fun wx => value_Same S.needle.k S.needle.n S.needle.d S.needle.t S.needle.b S.needle.f v.k v.n v.d v.t v.b v.f wx hn hv
  have es : sameV ⟨S.needle.k, S.needle.n, S.needle.d, S.needle.t, S.needle.b, S.needle.f⟩ ⟨v.k, v.n, v.d, v.t, v.b, v.f⟩ = sameV S.needle v := rfl
  rw [es] at HS
  have k0 : (v.k == 0) = false := by simp [h0]
  have k4 : (v.k == 4) = false := by simp [h4]
  have kn : (S.needle.k == 2) = false := by simp [hk]
  clear es hA hs hn hv h0 h4 hk
  generalize sameV S.needle v = q at *
  go_enter Tryz.func206, Tryz.ntmps206
  go_wp2
  refine wp_loop_rounds 7 ?_
  rw [rounds_succ]
  go_wp2
  rw [rounds_succ]
  go_wp2
  rw [rounds_succ]
  go_wp2
  rw [rounds_succ]
  go_wp2
  rw [rounds_succ]
  go_wp2
  rw [rounds_succ]
  go_wp2
  rw [rounds_succ]
  go_wp2_with fail
  refine (HS.out _).mono ?_
  rintro e w7 ⟨rfl, hb⟩
  go_wp2
  go_ret
  refine ⟨rfl, ?_⟩
  focus
    repeat with_reducible first | exact Below.refl _ _ | refine below_drewN ?_ _ | refine Below.drew ?_ | refine Below.setCell ?_ ?_ _ | refine Below.alloc ?_ ?_ _ | refine below_then ?_ ?_ (by with_reducible assumption)
    all_goals first | omega | (simp only [sA, sC, sD, sE]; omega) | (simp; done) | (simp; omega)

set_option maxHeartbeats 1000000 in
theorem meets_no (b : Nat) (S : AccS) (kd : Value) (v : Vl) (w : World) (hA : Blk w b (accArr S kd) 57) (hs : S.has = true) (h : v.k = 0 ∨ v.k = 4) :
    Calls Tryz.prog 206 #[.pointer (some ⟨b, 0, none⟩), .agg #[.int .i64 (v).k, .int .i64 (v).n, .int .i64 (v).d, .string (v).t, .bool (v).b, .int .i64 (v).f]] w fun e w' => e = .returned (.bool false) ∧ Below w.heap.size w w' := by
  have hlt := hA.lt
  have hne : ¬ b = w.heap.size := by omega
  have hne' : ¬ w.heap.size = b := by omega
  have a16 : w.cell? ⟨b, 16, none⟩ = some (.bool true) := (hA.cell 16).trans (by rw [← hs]; rfl)
  clear hA hs
  by_cases h0 : v.k = 0
  · have k0 : (v.k == 0) = true := by simp [h0]
    clear h h0
    go_enter Tryz.func206, Tryz.ntmps206
    go_wp2
    go_ret
    refine ⟨rfl, ?_⟩
    focus
      repeat with_reducible first | exact Below.refl _ _ | refine below_drewN ?_ _ | refine Below.drew ?_ | refine Below.setCell ?_ ?_ _ | refine Below.alloc ?_ ?_ _ | refine below_then ?_ ?_ (by with_reducible assumption)
      all_goals first | omega | (simp only [sA, sC, sD, sE]; omega) | (simp; done) | (simp; omega)
  · have k0 : (v.k == 0) = false := by simp [h0]
    have k4 : (v.k == 4) = true := by simp; omega
    clear h h0
    go_enter Tryz.func206, Tryz.ntmps206
    go_wp2
    go_ret
    refine ⟨rfl, ?_⟩
    focus
      repeat with_reducible first | exact Below.refl _ _ | refine below_drewN ?_ _ | refine Below.drew ?_ | refine Below.setCell ?_ ?_ _ | refine Below.alloc ?_ ?_ _ | refine below_then ?_ ?_ (by with_reducible assumption)
      all_goals first | omega | (simp only [sA, sC, sD, sE]; omega) | (simp; done) | (simp; omega)
set_option maxHeartbeats 1000000 in
theorem meets_none (b : Nat) (S : AccS) (kd : Value) (v : Vl) (w : World) (hA : Blk w b (accArr S kd) 57) (hs : S.has = false) :
    Calls Tryz.prog 206 #[.pointer (some ⟨b, 0, none⟩), .agg #[.int .i64 (v).k, .int .i64 (v).n, .int .i64 (v).d, .string (v).t, .bool (v).b, .int .i64 (v).f]] w fun e w' => e = .returned (.bool false) ∧ Below w.heap.size w w' := by
  have hlt := hA.lt
  have hne : ¬ b = w.heap.size := by omega
  have hne' : ¬ w.heap.size = b := by omega
  have a16 : w.cell? ⟨b, 16, none⟩ = some (.bool false) := (hA.cell 16).trans (by rw [← hs]; rfl)
  clear hA hs
  go_enter Tryz.func206, Tryz.ntmps206
  go_wp2
  go_ret
  refine ⟨rfl, ?_⟩
  focus
    repeat with_reducible first | exact Below.refl _ _ | refine below_drewN ?_ _ | refine Below.drew ?_ | refine Below.setCell ?_ ?_ _ | refine Below.alloc ?_ ?_ _ | refine below_then ?_ ?_ (by with_reducible assumption)
    all_goals first | omega | (simp only [sA, sC, sD, sE]; omega) | (simp; done) | (simp; omega)
theorem acc_meetsG (b : Nat) (S : AccS) (kd : Value) (v : Vl) (w : World) (hA : Blk w b (accArr S kd) 57) (N : NmS) (hN : Names w N) (hn : S.needle.In) (hv : v.In) :
    Calls Tryz.prog 206 #[.pointer (some ⟨b, 0, none⟩), .agg #[.int .i64 (v).k, .int .i64 (v).n, .int .i64 (v).d, .string (v).t, .bool (v).b, .int .i64 (v).f]] w fun e w' => e = .returned (.bool (S.mts N v)) ∧ Below w.heap.size w w' := by
  unfold AccS.mts
  cases hs : S.has
  · exact meets_none b S kd v w hA hs
  show Calls _ _ _ _ fun e w' => e = .returned (.bool (meetsN N S.needle v)) ∧ _
  unfold meetsN
  by_cases h : v.k = 0 ∨ v.k = 4
  · rw [if_pos h]; exact meets_no b S kd v w hA hs h
  rw [if_neg h]
  by_cases hk : S.needle.k = 2
  · rw [if_pos hk]
    unfold markN
    cases p0 : Lib.hasPrefix S.needle.t.data.toList [60, 61]
    · rw [if_neg (by simp)]
      cases p1 : Lib.hasPrefix S.needle.t.data.toList [62, 61]
      · rw [if_neg (by simp)]
        cases p2 : Lib.hasPrefix S.needle.t.data.toList [60, 62]
        · rw [if_neg (by simp)]
          cases p3 : Lib.hasPrefix S.needle.t.data.toList [60]
          · rw [if_neg (by simp)]
            cases p4 : Lib.hasPrefix S.needle.t.data.toList [62]
            · rw [if_neg (by simp)]
              cases p5 : Lib.hasPrefix S.needle.t.data.toList [61]
              · rw [if_neg (by simp)]
                exact meets_text b S kd v w hA hs hn hv (by omega) (by omega) hk p0 p1 p2 p3 p4 p5
              · rw [if_pos rfl]; exact meets_mark5 b S kd v w hA hs hn hv (by omega) (by omega) hk N hN p0 p1 p2 p3 p4 p5
            · rw [if_pos rfl]; exact meets_mark4 b S kd v w hA hs hn hv (by omega) (by omega) hk N hN p0 p1 p2 p3 p4
          · rw [if_pos rfl]; exact meets_mark3 b S kd v w hA hs hn hv (by omega) (by omega) hk N hN p0 p1 p2 p3
        · rw [if_pos rfl]; exact meets_mark2 b S kd v w hA hs hn hv (by omega) (by omega) hk N hN p0 p1 p2
      · rw [if_pos rfl]; exact meets_mark1 b S kd v w hA hs hn hv (by omega) (by omega) hk N hN p0 p1
    · rw [if_pos rfl]; exact meets_mark0 b S kd v w hA hs hn hv (by omega) (by omega) hk N hN p0
  · rw [if_neg hk]; exact meets_other b S kd v w hA hs hn hv (by omega) (by omega) hk
set_option maxHeartbeats 1000000 in
theorem search_feed4 (b : Nat) (S : AccS) (kd : Value) (v : Vl) (hs : S.has = false) (hk : v.k = 4) :
    Turns 201 #[.agg #[], .pointer (some ⟨b, 0, none⟩), .agg #[.int .i64 (v).k, .int .i64 (v).n, .int .i64 (v).d, .string (v).t, .bool (v).b, .int .i64 (v).f]] b S { S with needle := v, has := true, full := true, v := v } kd := by
  constructor
  intro w hA
  have hlt := hA.lt
  have hne : ¬ b = w.heap.size := by omega
  have hne' : ¬ w.heap.size = b := by omega
  have k4 : (v.k == 4) = true := by simp [hk]
  have a16 : w.cell? ⟨b, 16, none⟩ = some (.bool false) := (hA.cell 16).trans (by rw [← hs]; rfl)
  have a13 : w.cell? ⟨b, 10, none⟩ = some (.int .i64 S.needle.k) := hA.cell 10
  have a14 : w.cell? ⟨b, 11, none⟩ = some (.int .i64 S.needle.n) := hA.cell 11
  have a15 : w.cell? ⟨b, 12, none⟩ = some (.int .i64 S.needle.d) := hA.cell 12
  have a16 : w.cell? ⟨b, 13, none⟩ = some (.string S.needle.t) := hA.cell 13
  have a17 : w.cell? ⟨b, 14, none⟩ = some (.bool S.needle.b) := hA.cell 14
  have a18 : w.cell? ⟨b, 15, none⟩ = some (.int .i64 S.needle.f) := hA.cell 15
  have fz := hA.free
  have HA := Lib.hid hA
  have HE := Lib.hid fun (wx : World) (hx : Blk wx b (accArr { S with needle := v, has := true } kd) 57) => acc_end b { S with needle := v, has := true } kd v wx hx
  clear hA hs hk
  go_enter Tryz.func201, Tryz.ntmps201
  go_wp2_with fail
  refine (HE.out _ ?_).mono ?_
  · exact ((((((((HA.out.set 10 _).set 11 _).set 12 _).set 13 _).set 14 _).set 15 _).set 16 _).cast (by simp only [accArr, List.setIfInBounds_toArray, List.set_cons_zero, List.set_cons_succ]) |>.alloc _).alloc _
  rintro e w2 ⟨rfl, A2, hb2⟩
  have z19 := But.size hb2
  try simp only [sz_alloc, sz_setCell, sz_drew, sz_drewN] at z19
  go_wp2
  go_end0
  refine ⟨rfl, A2, ?_⟩
  repeat (first | with_reducible exact But.refl _ _ _ | with_reducible refine But.drewN ?_ _ | with_reducible refine But.drew ?_ | with_reducible refine But.setCell ?_ _ _ | with_reducible refine But.setNew ?_ (by (first | omega | (simp only [sz_alloc, sz_setCell, sz_drew, sz_drewN]; omega) | (simp; done) | (simp; omega))) _ | with_reducible refine But.alloc ?_ (by (first | omega | (simp only [sz_alloc, sz_setCell, sz_drew, sz_drewN]; omega) | (simp; done) | (simp; omega))) _ | with_reducible refine But.thenBelow ?_ ?_ (by with_reducible assumption) | with_reducible refine But.then ?_ ?_ (by with_reducible assumption) | (first | omega | (simp only [sz_alloc, sz_setCell, sz_drew, sz_drewN]; omega) | (simp; done) | (simp; omega)))
set_option maxHeartbeats 1000000 in
theorem search_feedH (b : Nat) (S : AccS) (kd : Value) (v : Vl) (hs : S.has = true) :
    Turns 201 #[.agg #[], .pointer (some ⟨b, 0, none⟩), .agg #[.int .i64 (v).k, .int .i64 (v).n, .int .i64 (v).d, .string (v).t, .bool (v).b, .int .i64 (v).f]] b S S kd := by
  constructor
  intro w hA
  have hlt := hA.lt
  have hne : ¬ b = w.heap.size := by omega
  have hne' : ¬ w.heap.size = b := by omega
  have hne1 : ¬ b = w.heap.size + 1 := by omega
  have a16 : w.cell? ⟨b, 16, none⟩ = some (.bool true) := (hA.cell 16).trans (by rw [← hs]; rfl)
  have HA := Lib.hid hA
  clear hA hs
  go_enter Tryz.func201, Tryz.ntmps201
  go_wp2
  refine bodyPost_ret (results_none rfl _ _ _) rfl ?_
  refine ⟨rfl, (HA.out.alloc _).alloc _, ?_⟩
  repeat (first | with_reducible exact But.refl _ _ _ | with_reducible refine But.drewN ?_ _ | with_reducible refine But.drew ?_ | with_reducible refine But.setCell ?_ _ _ | with_reducible refine But.setNew ?_ (by (first | omega | (simp only [sz_alloc, sz_setCell, sz_drew, sz_drewN]; omega) | (simp; done) | (simp; omega))) _ | with_reducible refine But.alloc ?_ (by (first | omega | (simp only [sz_alloc, sz_setCell, sz_drew, sz_drewN]; omega) | (simp; done) | (simp; omega))) _ | with_reducible refine But.thenBelow ?_ ?_ (by with_reducible assumption) | with_reducible refine But.then ?_ ?_ (by with_reducible assumption) | (first | omega | (simp only [sz_alloc, sz_setCell, sz_drew, sz_drewN]; omega) | (simp; done) | (simp; omega)))
/-- What a search does with an argument. -/
def AccS.feedS (S : AccS) (v : Vl) : AccS := if S.has = true then S else if v.k = 4 then { S with needle := v, has := true, full := true, v := v } else { S with needle := v, has := true }
theorem search_feedG (b : Nat) (S : AccS) (kd : Value) (v : Vl) : Turns 201 #[.agg #[], .pointer (some ⟨b, 0, none⟩), .agg #[.int .i64 (v).k, .int .i64 (v).n, .int .i64 (v).d, .string (v).t, .bool (v).b, .int .i64 (v).f]] b S (S.feedS v) kd := by
  unfold AccS.feedS
  cases hs : S.has
  · rw [if_neg (by simp)]
    by_cases hk : v.k = 4
    · rw [if_pos hk]; exact search_feed4 b S kd v hs hk
    · rw [if_neg hk]; exact search_feed b S kd v hs hk
  · rw [if_pos rfl]; exact search_feedH b S kd v hs
set_option maxHeartbeats 2000000 in
theorem match_no (b : Nat) (S : AccS) (kd : Value) (v : Vl) (hn : S.needle.In) (hv : v.In) (hq : S.sm v = false) (hc0 : 0 ≤ S.count) (hc1 : S.count ≤ 9000000000000000000) :
    Turns 202 #[.agg #[], .pointer (some ⟨b, 0, none⟩), .agg #[.int .i64 (v).k, .int .i64 (v).n, .int .i64 (v).d, .string (v).t, .bool (v).b, .int .i64 (v).f]] b S { S with count := S.count + 1 } kd := by
  constructor
  intro w hA
  have hlt := hA.lt
  have hne : ¬ b = w.heap.size := by omega
  have hne' : ¬ w.heap.size = b := by omega
  have q1 : w.cell? ⟨b, 1, none⟩ = some (.int .i64 S.count) := hA.cell 1
  have fz := hA.free
  have hw := w64 (x := S.count + 1) (by omega) (by omega)
  have HA := Lib.hid ((hA.set 1 (.int .i64 (S.count + 1))).cast (arr' := accArr { S with count := S.count + 1 } kd) (by simp only [accArr, List.setIfInBounds_toArray, List.set_cons_zero, List.set_cons_succ]))
  have HS := Lib.hid fun (wx : World) (hx : Blk wx b (accArr { S with count := S.count + 1 } kd) 57) => acc_sameG b { S with count := S.count + 1 } kd v wx hx hn hv
  have eq1 : AccS.sm { S with count := S.count + 1 } v = S.sm v := rfl
  rw [eq1, hq] at HS
  clear hA hn hv hq eq1
  go_enter Tryz.func202, Tryz.ntmps202
  go_wp2_with fail
  refine (HS.out _ ((HA.out.alloc _).alloc _)).mono ?_
  rintro e w1 ⟨rfl, hb⟩
  have A1 := Lib.hid (((HA.out.alloc _).alloc _).below hb)
  have z20 := Below.size hb
  try simp only [sz_alloc, sz_setCell, sz_drew, sz_drewN] at z20
  go_wp2
  go_end0
  refine ⟨rfl, A1.out, ?_⟩
  repeat (first | with_reducible exact But.refl _ _ _ | with_reducible refine But.drewN ?_ _ | with_reducible refine But.drew ?_ | with_reducible refine But.setCell ?_ _ _ | with_reducible refine But.setNew ?_ (by (first | omega | (simp only [sz_alloc, sz_setCell, sz_drew, sz_drewN]; omega) | (simp; done) | (simp; omega))) _ | with_reducible refine But.alloc ?_ (by (first | omega | (simp only [sz_alloc, sz_setCell, sz_drew, sz_drewN]; omega) | (simp; done) | (simp; omega))) _ | with_reducible refine But.thenBelow ?_ ?_ (by with_reducible assumption) | with_reducible refine But.then ?_ ?_ (by with_reducible assumption) | (first | omega | (simp only [sz_alloc, sz_setCell, sz_drew, sz_drewN]; omega) | (simp; done) | (simp; omega)))
set_option maxHeartbeats 2000000 in
theorem match_yes (b : Nat) (S : AccS) (kd : Value) (v : Vl) (hn : S.needle.In) (hv : v.In) (hq : S.sm v = true) (hc0 : 0 ≤ S.count) (hc1 : S.count ≤ 9000000000000000000) :
    Turns 202 #[.agg #[], .pointer (some ⟨b, 0, none⟩), .agg #[.int .i64 (v).k, .int .i64 (v).n, .int .i64 (v).d, .string (v).t, .bool (v).b, .int .i64 (v).f]] b S { S with count := S.count + 1, full := true, v := wholeF (S.count + 1) } kd := by
  constructor
  intro w hA
  have hlt := hA.lt
  have hne : ¬ b = w.heap.size := by omega
  have hne' : ¬ w.heap.size = b := by omega
  have q1 : w.cell? ⟨b, 1, none⟩ = some (.int .i64 S.count) := hA.cell 1
  have fz := hA.free
  have hw := w64 (x := S.count + 1) (by omega) (by omega)
  have HA := Lib.hid ((hA.set 1 (.int .i64 (S.count + 1))).cast (arr' := accArr { S with count := S.count + 1 } kd) (by simp only [accArr, List.setIfInBounds_toArray, List.set_cons_zero, List.set_cons_succ]))
  have HS := Lib.hid fun (wx : World) (hx : Blk wx b (accArr { S with count := S.count + 1 } kd) 57) => acc_sameG b { S with count := S.count + 1 } kd v wx hx hn hv
  have HW := Lib.hid fun wx => funcs_whole (S.count + 1) wx ⟨by omega, by omega⟩
  have eq1 : AccS.sm { S with count := S.count + 1 } v = S.sm v := rfl
  rw [eq1, hq] at HS
  clear hA hn hv hq eq1
  generalize wholeF (S.count + 1) = Q at *
  go_enter Tryz.func202, Tryz.ntmps202
  go_wp2_with fail
  refine (HS.out _ ((HA.out.alloc _).alloc _)).mono ?_
  rintro e w1 ⟨rfl, hb⟩
  have A1 := Lib.hid (((HA.out.alloc _).alloc _).below hb)
  have r1 : w1.cell? ⟨b, 1, none⟩ = some (.int .i64 (S.count + 1)) := A1.out.cell 1
  have l1 := A1.out.lt
  have z21 := Below.size hb
  try simp only [sz_alloc, sz_setCell, sz_drew, sz_drewN] at z21
  go_wp2_with fail
  refine (HW.out _).mono ?_
  rintro e w2 ⟨rfl, hb2⟩
  have A2 := A1.out.below hb2
  have z22 := Below.size hb2
  try simp only [sz_alloc, sz_setCell, sz_drew, sz_drewN] at z22
  go_wp2_with fail
  refine (acc_end b _ kd _ _ A2).mono ?_
  rintro e w3 ⟨rfl, A3, hb3⟩
  have z23 := But.size hb3
  try simp only [sz_alloc, sz_setCell, sz_drew, sz_drewN] at z23
  go_wp2
  go_end0
  refine ⟨rfl, A3, ?_⟩
  repeat (first | with_reducible exact But.refl _ _ _ | with_reducible refine But.drewN ?_ _ | with_reducible refine But.drew ?_ | with_reducible refine But.setCell ?_ _ _ | with_reducible refine But.setNew ?_ (by (first | omega | (simp only [sz_alloc, sz_setCell, sz_drew, sz_drewN]; omega) | (simp; done) | (simp; omega))) _ | with_reducible refine But.alloc ?_ (by (first | omega | (simp only [sz_alloc, sz_setCell, sz_drew, sz_drewN]; omega) | (simp; done) | (simp; omega))) _ | with_reducible refine But.thenBelow ?_ ?_ (by with_reducible assumption) | with_reducible refine But.then ?_ ?_ (by with_reducible assumption) | (first | omega | (simp only [sz_alloc, sz_setCell, sz_drew, sz_drewN]; omega) | (simp; done) | (simp; omega)))
def AccS.cellM (S : AccS) (v : Vl) : AccS := if S.sm v = true then { S with count := S.count + 1, full := true, v := wholeF (S.count + 1) } else { S with count := S.count + 1 }
theorem match_cell (b : Nat) (S : AccS) (kd : Value) (v : Vl) (hn : S.needle.In) (hv : v.In) (hc0 : 0 ≤ S.count) (hc1 : S.count ≤ 9000000000000000000) :
    Turns 202 #[.agg #[], .pointer (some ⟨b, 0, none⟩), .agg #[.int .i64 (v).k, .int .i64 (v).n, .int .i64 (v).d, .string (v).t, .bool (v).b, .int .i64 (v).f]] b S (S.cellM v) kd := by
  unfold AccS.cellM
  cases hq : S.sm v
  · exact match_no b S kd v hn hv hq hc0 hc1
  · exact match_yes b S kd v hn hv hq hc0 hc1
set_option maxHeartbeats 2000000 in
theorem lookup_cell (b : Nat) (S : AccS) (kd : Value) (v : Vl) (hn : S.needle.In) (hv : v.In) :
    Turns 211 #[.agg #[], .pointer (some ⟨b, 0, none⟩), .agg #[.int .i64 (v).k, .int .i64 (v).n, .int .i64 (v).d, .string (v).t, .bool (v).b, .int .i64 (v).f]] b S { S with wants := S.sm v } kd := by
  constructor
  intro w hA
  have hlt := hA.lt
  have HA := Lib.hid ((hA.alloc (.cells #[] 97)).alloc (.cells #[.int .i64 v.k, .int .i64 v.n, .int .i64 v.d, .string v.t, .bool v.b, .int .i64 v.f] 33))
  have HS := Lib.hid fun (wx : World) (hx : Blk wx b (accArr S kd) 57) => acc_sameG b S kd v wx hx hn hv
  clear hA hn hv
  generalize S.sm v = q at *
  go_enter Tryz.func211, Tryz.ntmps211
  go_wp2_with fail
  refine (HS.out _ HA.out).mono ?_
  rintro e w1 ⟨rfl, hb⟩
  have A1 := Lib.hid (HA.out.below hb)
  have r1 : w1.cell? ⟨b, 18, none⟩ = some (.bool S.wants) := A1.out.cell 18
  have fz := A1.out.free
  have l1 := A1.out.lt
  have z24 := Below.size hb
  try simp only [sz_alloc, sz_setCell, sz_drew, sz_drewN] at z24
  go_wp2
  go_end0
  refine ⟨rfl, (A1.out.set 18 _).cast (by simp only [accArr, List.setIfInBounds_toArray, List.set_cons_zero, List.set_cons_succ]), ?_⟩
  repeat (first | with_reducible exact But.refl _ _ _ | with_reducible refine But.drewN ?_ _ | with_reducible refine But.drew ?_ | with_reducible refine But.setCell ?_ _ _ | with_reducible refine But.setNew ?_ (by (first | omega | (simp only [sz_alloc, sz_setCell, sz_drew, sz_drewN]; omega) | (simp; done) | (simp; omega))) _ | with_reducible refine But.alloc ?_ (by (first | omega | (simp only [sz_alloc, sz_setCell, sz_drew, sz_drewN]; omega) | (simp; done) | (simp; omega))) _ | with_reducible refine But.thenBelow ?_ ?_ (by with_reducible assumption) | with_reducible refine But.then ?_ ?_ (by with_reducible assumption) | (first | omega | (simp only [sz_alloc, sz_setCell, sz_drew, sz_drewN]; omega) | (simp; done) | (simp; omega)))
set_option maxHeartbeats 2000000 in
theorem lookup_pair (b : Nat) (S : AccS) (kd : Value) (v : Vl) :
    Turns 212 #[.agg #[], .pointer (some ⟨b, 0, none⟩), .agg #[.int .i64 (v).k, .int .i64 (v).n, .int .i64 (v).d, .string (v).t, .bool (v).b, .int .i64 (v).f]] b S { S with full := true, v := v } kd := by
  constructor
  intro w hA
  have hlt := hA.lt
  have HA := Lib.hid ((hA.alloc (.cells #[] 97)).alloc (.cells #[.int .i64 v.k, .int .i64 v.n, .int .i64 v.d, .string v.t, .bool v.b, .int .i64 v.f] 33))
  clear hA
  go_enter Tryz.func212, Tryz.ntmps212
  go_wp2_with fail
  refine (acc_end b S kd v _ HA.out).mono ?_
  rintro e w1 ⟨rfl, A1, hb⟩
  have z25 := But.size hb
  try simp only [sz_alloc, sz_setCell, sz_drew, sz_drewN] at z25
  go_wp2
  go_end0
  refine ⟨rfl, A1, ?_⟩
  repeat (first | with_reducible exact But.refl _ _ _ | with_reducible refine But.drewN ?_ _ | with_reducible refine But.drew ?_ | with_reducible refine But.setCell ?_ _ _ | with_reducible refine But.setNew ?_ (by (first | omega | (simp only [sz_alloc, sz_setCell, sz_drew, sz_drewN]; omega) | (simp; done) | (simp; omega))) _ | with_reducible refine But.alloc ?_ (by (first | omega | (simp only [sz_alloc, sz_setCell, sz_drew, sz_drewN]; omega) | (simp; done) | (simp; omega))) _ | with_reducible refine But.thenBelow ?_ ?_ (by with_reducible assumption) | with_reducible refine But.then ?_ ?_ (by with_reducible assumption) | (first | omega | (simp only [sz_alloc, sz_setCell, sz_drew, sz_drewN]; omega) | (simp; done) | (simp; omega)))
set_option maxHeartbeats 1000000 in
theorem countIf_cell (b : Nat) (S : AccS) (kd : Value) (v : Vl) (N : NmS) (hn : S.needle.In) (hv : v.In) (hc0 : 0 ≤ S.count) (hc1 : S.count ≤ 9000000000000000000) :
    TurnsI (fun w => Names w N) 205 #[.agg #[], .pointer (some ⟨b, 0, none⟩), .agg #[.int .i64 (v).k, .int .i64 (v).n, .int .i64 (v).d, .string (v).t, .bool (v).b, .int .i64 (v).f]] b S (if S.mts N v = true then { S with count := S.count + 1 } else S) kd := by
  constructor
  intro w hI hA
  have hlt := hA.lt
  have HA := Lib.hid ((hA.alloc (.cells #[] 95)).alloc (.cells #[.int .i64 v.k, .int .i64 v.n, .int .i64 v.d, .string v.t, .bool v.b, .int .i64 v.f] 33))
  have HS := Lib.hid fun (wx : World) (hb : Below w.heap.size w wx) (hx : Blk wx b (accArr S kd) 57) => acc_meetsG b S kd v wx hx N (hI.below hb) hn hv
  have hw := w64 (x := S.count + 1) (by omega) (by omega)
  clear hA hn hv hI
  generalize S.mts N v = q at *
  cases q
  · go_enter Tryz.func205, Tryz.ntmps205
    go_wp2_with fail
    refine (HS.out _ (((Below.refl w.heap.size w).alloc (Nat.le_refl _) _).alloc (by simp) _) HA.out).mono ?_
    rintro e w1 ⟨rfl, hb⟩
    have A1 := Lib.hid (HA.out.below hb)
    have z26 := Below.size hb
    try simp only [sz_alloc, sz_setCell, sz_drew, sz_drewN] at z26
    go_wp2
    go_end0
    refine ⟨rfl, A1.out, ?_⟩
    repeat (first | with_reducible exact But.refl _ _ _ | with_reducible refine But.drewN ?_ _ | with_reducible refine But.drew ?_ | with_reducible refine But.setCell ?_ _ _ | with_reducible refine But.setNew ?_ (by (first | omega | (simp only [sz_alloc, sz_setCell, sz_drew, sz_drewN]; omega) | (simp; done) | (simp; omega))) _ | with_reducible refine But.alloc ?_ (by (first | omega | (simp only [sz_alloc, sz_setCell, sz_drew, sz_drewN]; omega) | (simp; done) | (simp; omega))) _ | with_reducible refine But.thenBelow ?_ ?_ (by with_reducible assumption) | with_reducible refine But.then ?_ ?_ (by with_reducible assumption) | (first | omega | (simp only [sz_alloc, sz_setCell, sz_drew, sz_drewN]; omega) | (simp; done) | (simp; omega)))
  · go_enter Tryz.func205, Tryz.ntmps205
    go_wp2_with fail
    refine (HS.out _ (((Below.refl w.heap.size w).alloc (Nat.le_refl _) _).alloc (by simp) _) HA.out).mono ?_
    rintro e w1 ⟨rfl, hb⟩
    have A1 := Lib.hid (HA.out.below hb)
    have r1 : w1.cell? ⟨b, 1, none⟩ = some (.int .i64 S.count) := A1.out.cell 1
    have fz := A1.out.free
    have l1 := A1.out.lt
    have z27 := Below.size hb
    try simp only [sz_alloc, sz_setCell, sz_drew, sz_drewN] at z27
    go_wp2
    go_end0
    refine ⟨rfl, (A1.out.set 1 _).cast (by simp only [accArr, List.setIfInBounds_toArray, List.set_cons_zero, List.set_cons_succ]), ?_⟩
    repeat (first | with_reducible exact But.refl _ _ _ | with_reducible refine But.drewN ?_ _ | with_reducible refine But.drew ?_ | with_reducible refine But.setCell ?_ _ _ | with_reducible refine But.setNew ?_ (by (first | omega | (simp only [sz_alloc, sz_setCell, sz_drew, sz_drewN]; omega) | (simp; done) | (simp; omega))) _ | with_reducible refine But.alloc ?_ (by (first | omega | (simp only [sz_alloc, sz_setCell, sz_drew, sz_drewN]; omega) | (simp; done) | (simp; omega))) _ | with_reducible refine But.thenBelow ?_ ?_ (by with_reducible assumption) | with_reducible refine But.then ?_ ?_ (by with_reducible assumption) | (first | omega | (simp only [sz_alloc, sz_setCell, sz_drew, sz_drewN]; omega) | (simp; done) | (simp; omega)))
set_option maxHeartbeats 1000000 in
theorem sumIf_cell (b : Nat) (S : AccS) (kd : Value) (v : Vl) (N : NmS) (hn : S.needle.In) (hv : v.In)  :
    TurnsI (fun w => Names w N) 208 #[.agg #[], .pointer (some ⟨b, 0, none⟩), .agg #[.int .i64 (v).k, .int .i64 (v).n, .int .i64 (v).d, .string (v).t, .bool (v).b, .int .i64 (v).f]] b S { S with wants := S.mts N v } kd := by
  constructor
  intro w hI hA
  have hlt := hA.lt
  have HA := Lib.hid ((hA.alloc (.cells #[] 96)).alloc (.cells #[.int .i64 v.k, .int .i64 v.n, .int .i64 v.d, .string v.t, .bool v.b, .int .i64 v.f] 33))
  have HS := Lib.hid fun (wx : World) (hb : Below w.heap.size w wx) (hx : Blk wx b (accArr S kd) 57) => acc_meetsG b S kd v wx hx N (hI.below hb) hn hv
  clear hA hn hv hI
  generalize S.mts N v = q at *
  go_enter Tryz.func208, Tryz.ntmps208
  go_wp2_with fail
  refine (HS.out _ (((Below.refl w.heap.size w).alloc (Nat.le_refl _) _).alloc (by simp) _) HA.out).mono ?_
  rintro e w1 ⟨rfl, hb⟩
  have A1 := Lib.hid (HA.out.below hb)
  have r1 : w1.cell? ⟨b, 18, none⟩ = some (.bool S.wants) := A1.out.cell 18
  have fz := A1.out.free
  have l1 := A1.out.lt
  have z28 := Below.size hb
  try simp only [sz_alloc, sz_setCell, sz_drew, sz_drewN] at z28
  go_wp2
  go_end0
  refine ⟨rfl, (A1.out.set 18 _).cast (by simp only [accArr, List.setIfInBounds_toArray, List.set_cons_zero, List.set_cons_succ]), ?_⟩
  repeat (first | with_reducible exact But.refl _ _ _ | with_reducible refine But.drewN ?_ _ | with_reducible refine But.drew ?_ | with_reducible refine But.setCell ?_ _ _ | with_reducible refine But.setNew ?_ (by (first | omega | (simp only [sz_alloc, sz_setCell, sz_drew, sz_drewN]; omega) | (simp; done) | (simp; omega))) _ | with_reducible refine But.alloc ?_ (by (first | omega | (simp only [sz_alloc, sz_setCell, sz_drew, sz_drewN]; omega) | (simp; done) | (simp; omega))) _ | with_reducible refine But.thenBelow ?_ ?_ (by with_reducible assumption) | with_reducible refine But.then ?_ ?_ (by with_reducible assumption) | (first | omega | (simp only [sz_alloc, sz_setCell, sz_drew, sz_drewN]; omega) | (simp; done) | (simp; omega)))
set_option maxHeartbeats 1000000 in
theorem partner_num (b : Nat) (S : AccS) (kd : Value) (v : Vl) (hk : v.k = 1) (h1 : I64 S.n) (h2 : I64 S.d) (hv : v.In) :
    Turns 210 #[.pointer (some ⟨b, 0, none⟩), .agg #[.int .i64 (v).k, .int .i64 (v).n, .int .i64 (v).d, .string (v).t, .bool (v).b, .int .i64 (v).f]] b S (S.sets (add S.n S.d v.n v.d)) kd := by
  constructor
  intro w hA
  have hlt := hA.lt
  have hne : ¬ b = w.heap.size := by omega
  have hne' : ¬ w.heap.size = b := by omega
  have k1 : (v.k == 1) = true := by simp [hk]
  have HM := Lib.hid fun wx hx => acc_adds b S kd v.n v.d wx hx h1 h2 hv.n hv.d
  generalize S.sets (add S.n S.d v.n v.d) = S' at *
  clear hk h1 h2 hv
  have HA := Lib.hid (hA.alloc (.cells #[.int .i64 v.k, .int .i64 v.n, .int .i64 v.d, .string v.t, .bool v.b, .int .i64 v.f] 33))
  clear hA
  go_enter Tryz.func210, Tryz.ntmps210
  go_wp2_with fail
  refine (HM.out _ HA.out).mono ?_
  rintro e w1 ⟨rfl, A1, hb⟩
  have z29 := But.size hb
  try simp only [sz_alloc, sz_setCell, sz_drew, sz_drewN] at z29
  go_wp2
  go_end0
  refine ⟨rfl, A1, ?_⟩
  repeat (first | with_reducible exact But.refl _ _ _ | with_reducible refine But.drewN ?_ _ | with_reducible refine But.drew ?_ | with_reducible refine But.setCell ?_ _ _ | with_reducible refine But.setNew ?_ (by (first | omega | (simp only [sz_alloc, sz_setCell, sz_drew, sz_drewN]; omega) | (simp; done) | (simp; omega))) _ | with_reducible refine But.alloc ?_ (by (first | omega | (simp only [sz_alloc, sz_setCell, sz_drew, sz_drewN]; omega) | (simp; done) | (simp; omega))) _ | with_reducible refine But.thenBelow ?_ ?_ (by with_reducible assumption) | with_reducible refine But.then ?_ ?_ (by with_reducible assumption) | (first | omega | (simp only [sz_alloc, sz_setCell, sz_drew, sz_drewN]; omega) | (simp; done) | (simp; omega)))
set_option maxHeartbeats 1000000 in
theorem partner_fault (b : Nat) (S : AccS) (kd : Value) (v : Vl) (hk : v.k = 4) :
    Turns 210 #[.pointer (some ⟨b, 0, none⟩), .agg #[.int .i64 (v).k, .int .i64 (v).n, .int .i64 (v).d, .string (v).t, .bool (v).b, .int .i64 (v).f]] b S (S.ends v) kd := by
  constructor
  intro w hA
  have hlt := hA.lt
  have hne : ¬ b = w.heap.size := by omega
  have hne' : ¬ w.heap.size = b := by omega
  have k1 : (v.k == 1) = false := by simp [hk]
  have k4 : (v.k == 4) = true := by simp [hk]
  clear hk
  have HA := Lib.hid (hA.alloc (.cells #[.int .i64 v.k, .int .i64 v.n, .int .i64 v.d, .string v.t, .bool v.b, .int .i64 v.f] 33))
  clear hA
  go_enter Tryz.func210, Tryz.ntmps210
  go_wp2_with fail
  refine (acc_end b S kd v _ HA.out).mono ?_
  rintro e w1 ⟨rfl, A1, hb⟩
  have z30 := But.size hb
  try simp only [sz_alloc, sz_setCell, sz_drew, sz_drewN] at z30
  go_wp2
  go_end0
  refine ⟨rfl, A1, ?_⟩
  repeat (first | with_reducible exact But.refl _ _ _ | with_reducible refine But.drewN ?_ _ | with_reducible refine But.drew ?_ | with_reducible refine But.setCell ?_ _ _ | with_reducible refine But.setNew ?_ (by (first | omega | (simp only [sz_alloc, sz_setCell, sz_drew, sz_drewN]; omega) | (simp; done) | (simp; omega))) _ | with_reducible refine But.alloc ?_ (by (first | omega | (simp only [sz_alloc, sz_setCell, sz_drew, sz_drewN]; omega) | (simp; done) | (simp; omega))) _ | with_reducible refine But.thenBelow ?_ ?_ (by with_reducible assumption) | with_reducible refine But.then ?_ ?_ (by with_reducible assumption) | (first | omega | (simp only [sz_alloc, sz_setCell, sz_drew, sz_drewN]; omega) | (simp; done) | (simp; omega)))
set_option maxHeartbeats 1000000 in
theorem partner_no (b : Nat) (S : AccS) (kd : Value) (v : Vl) (h1 : ¬ v.k = 1) (h4 : ¬ v.k = 4) :
    Turns 210 #[.pointer (some ⟨b, 0, none⟩), .agg #[.int .i64 (v).k, .int .i64 (v).n, .int .i64 (v).d, .string (v).t, .bool (v).b, .int .i64 (v).f]] b S S kd := by
  constructor
  intro w hA
  have hlt := hA.lt
  have hne : ¬ b = w.heap.size := by omega
  have hne' : ¬ w.heap.size = b := by omega
  have k1 : (v.k == 1) = false := by simp [h1]
  have k4 : (v.k == 4) = false := by simp [h4]
  clear h1 h4
  have HA := Lib.hid (hA.alloc (.cells #[.int .i64 v.k, .int .i64 v.n, .int .i64 v.d, .string v.t, .bool v.b, .int .i64 v.f] 33))
  clear hA
  go_enter Tryz.func210, Tryz.ntmps210
  go_wp2
  go_end0
  refine ⟨rfl, HA.out, ?_⟩
  repeat (first | with_reducible exact But.refl _ _ _ | with_reducible refine But.drewN ?_ _ | with_reducible refine But.drew ?_ | with_reducible refine But.setCell ?_ _ _ | with_reducible refine But.setNew ?_ (by (first | omega | (simp only [sz_alloc, sz_setCell, sz_drew, sz_drewN]; omega) | (simp; done) | (simp; omega))) _ | with_reducible refine But.alloc ?_ (by (first | omega | (simp only [sz_alloc, sz_setCell, sz_drew, sz_drewN]; omega) | (simp; done) | (simp; omega))) _ | with_reducible refine But.thenBelow ?_ ?_ (by with_reducible assumption) | with_reducible refine But.then ?_ ?_ (by with_reducible assumption) | (first | omega | (simp only [sz_alloc, sz_setCell, sz_drew, sz_drewN]; omega) | (simp; done) | (simp; omega)))
/-- What SUMIF and SUMPRODUCT do with a partner. -/
def AccS.pairN (S : AccS) (v : Vl) : AccS := if v.k = 1 then S.sets (add S.n S.d v.n v.d) else if v.k = 4 then S.ends v else S
theorem acc_partner (b : Nat) (S : AccS) (kd : Value) (v : Vl) (h1 : I64 S.n) (h2 : I64 S.d) (hv : v.In) :
    Turns 210 #[.pointer (some ⟨b, 0, none⟩), .agg #[.int .i64 (v).k, .int .i64 (v).n, .int .i64 (v).d, .string (v).t, .bool (v).b, .int .i64 (v).f]] b S (S.pairN v) kd := by
  unfold AccS.pairN
  by_cases k1 : v.k = 1
  · rw [if_pos k1]; exact partner_num b S kd v k1 h1 h2 hv
  rw [if_neg k1]
  by_cases k4 : v.k = 4
  · rw [if_pos k4]; exact partner_fault b S kd v k4
  · rw [if_neg k4]; exact partner_no b S kd v k1 k4
set_option maxHeartbeats 1000000 in
theorem sumIf_pair (b : Nat) (S S' : AccS) (kd : Value) (v : Vl) (HM : Turns 210 #[.pointer (some ⟨b, 0, none⟩), .agg #[.int .i64 (v).k, .int .i64 (v).n, .int .i64 (v).d, .string (v).t, .bool (v).b, .int .i64 (v).f]] b S S' kd) :
    Turns 209 #[.agg #[], .pointer (some ⟨b, 0, none⟩), .agg #[.int .i64 (v).k, .int .i64 (v).n, .int .i64 (v).d, .string (v).t, .bool (v).b, .int .i64 (v).f]] b S S' kd := by
  constructor
  intro w hA
  have hlt := hA.lt
  have HA := Lib.hid ((hA.alloc (.cells #[] 96)).alloc (.cells #[.int .i64 v.k, .int .i64 v.n, .int .i64 v.d, .string v.t, .bool v.b, .int .i64 v.f] 33))
  clear hA
  go_enter Tryz.func209, Tryz.ntmps209
  go_wp2_with fail
  refine (HM.out _ HA.out).mono ?_
  rintro e w1 ⟨rfl, A1, hb⟩
  have z31 := But.size hb
  try simp only [sz_alloc, sz_setCell, sz_drew, sz_drewN] at z31
  go_wp2
  go_end0
  refine ⟨rfl, A1, ?_⟩
  repeat (first | with_reducible exact But.refl _ _ _ | with_reducible refine But.drewN ?_ _ | with_reducible refine But.drew ?_ | with_reducible refine But.setCell ?_ _ _ | with_reducible refine But.setNew ?_ (by (first | omega | (simp only [sz_alloc, sz_setCell, sz_drew, sz_drewN]; omega) | (simp; done) | (simp; omega))) _ | with_reducible refine But.alloc ?_ (by (first | omega | (simp only [sz_alloc, sz_setCell, sz_drew, sz_drewN]; omega) | (simp; done) | (simp; omega))) _ | with_reducible refine But.thenBelow ?_ ?_ (by with_reducible assumption) | with_reducible refine But.then ?_ ?_ (by with_reducible assumption) | (first | omega | (simp only [sz_alloc, sz_setCell, sz_drew, sz_drewN]; omega) | (simp; done) | (simp; omega)))
set_option maxHeartbeats 1000000 in
theorem products_pair (b : Nat) (S S' : AccS) (kd : Value) (v : Vl) (HM : Turns 210 #[.pointer (some ⟨b, 0, none⟩), .agg #[.int .i64 (v).k, .int .i64 (v).n, .int .i64 (v).d, .string (v).t, .bool (v).b, .int .i64 (v).f]] b S S' kd) :
    Turns 215 #[.agg #[], .pointer (some ⟨b, 0, none⟩), .agg #[.int .i64 (v).k, .int .i64 (v).n, .int .i64 (v).d, .string (v).t, .bool (v).b, .int .i64 (v).f]] b S S' kd := by
  constructor
  intro w hA
  have hlt := hA.lt
  have HA := Lib.hid ((hA.alloc (.cells #[] 98)).alloc (.cells #[.int .i64 v.k, .int .i64 v.n, .int .i64 v.d, .string v.t, .bool v.b, .int .i64 v.f] 33))
  clear hA
  go_enter Tryz.func215, Tryz.ntmps215
  go_wp2_with fail
  refine (HM.out _ HA.out).mono ?_
  rintro e w1 ⟨rfl, A1, hb⟩
  have z32 := But.size hb
  try simp only [sz_alloc, sz_setCell, sz_drew, sz_drewN] at z32
  go_wp2
  go_end0
  refine ⟨rfl, A1, ?_⟩
  repeat (first | with_reducible exact But.refl _ _ _ | with_reducible refine But.drewN ?_ _ | with_reducible refine But.drew ?_ | with_reducible refine But.setCell ?_ _ _ | with_reducible refine But.setNew ?_ (by (first | omega | (simp only [sz_alloc, sz_setCell, sz_drew, sz_drewN]; omega) | (simp; done) | (simp; omega))) _ | with_reducible refine But.alloc ?_ (by (first | omega | (simp only [sz_alloc, sz_setCell, sz_drew, sz_drewN]; omega) | (simp; done) | (simp; omega))) _ | with_reducible refine But.thenBelow ?_ ?_ (by with_reducible assumption) | with_reducible refine But.then ?_ ?_ (by with_reducible assumption) | (first | omega | (simp only [sz_alloc, sz_setCell, sz_drew, sz_drewN]; omega) | (simp; done) | (simp; omega)))
set_option maxHeartbeats 1000000 in
theorem products_nothing (b : Nat) (S : AccS) (kd : Value) (v : Vl) :
    Turns 214 #[.agg #[], .pointer (some ⟨b, 0, none⟩), .agg #[.int .i64 (v).k, .int .i64 (v).n, .int .i64 (v).d, .string (v).t, .bool (v).b, .int .i64 (v).f]] b S S kd := by
  constructor
  intro w hA
  have hlt := hA.lt
  have HA := Lib.hid ((hA.alloc (.cells #[] 98)).alloc (.cells #[.int .i64 v.k, .int .i64 v.n, .int .i64 v.d, .string v.t, .bool v.b, .int .i64 v.f] 33))
  clear hA
  go_enter Tryz.func214, Tryz.ntmps214
  go_wp2
  go_end0
  refine ⟨rfl, HA.out, ?_⟩
  repeat (first | with_reducible exact But.refl _ _ _ | with_reducible refine But.drewN ?_ _ | with_reducible refine But.drew ?_ | with_reducible refine But.setCell ?_ _ _ | with_reducible refine But.setNew ?_ (by (first | omega | (simp only [sz_alloc, sz_setCell, sz_drew, sz_drewN]; omega) | (simp; done) | (simp; omega))) _ | with_reducible refine But.alloc ?_ (by (first | omega | (simp only [sz_alloc, sz_setCell, sz_drew, sz_drewN]; omega) | (simp; done) | (simp; omega))) _ | with_reducible refine But.thenBelow ?_ ?_ (by with_reducible assumption) | with_reducible refine But.then ?_ ?_ (by with_reducible assumption) | (first | omega | (simp only [sz_alloc, sz_setCell, sz_drew, sz_drewN]; omega) | (simp; done) | (simp; omega)))
set_option maxHeartbeats 1000000 in
theorem products_cell_num (b : Nat) (S : AccS) (kd : Value) (v : Vl) (hk : v.k = 1) :
    Turns 213 #[.agg #[], .pointer (some ⟨b, 0, none⟩), .agg #[.int .i64 (v).k, .int .i64 (v).n, .int .i64 (v).d, .string (v).t, .bool (v).b, .int .i64 (v).f]] b S { S with hn := v.n, hd := v.d, wants := true } kd := by
  constructor
  intro w hA
  have hlt := hA.lt
  have hne : ¬ b = w.heap.size := by omega
  have hne' : ¬ w.heap.size = b := by omega
  have hne1 : ¬ b = w.heap.size + 1 := by omega
  have hne1' : ¬ w.heap.size + 1 = b := by omega
  have k1 : (v.k == 1) = true := by simp [hk]
  have a33 : w.cell? ⟨b, 18, none⟩ = some (.bool S.wants) := hA.cell 18
  have a34 : w.cell? ⟨b, 19, none⟩ = some (.int .i64 S.hn) := hA.cell 19
  have a35 : w.cell? ⟨b, 20, none⟩ = some (.int .i64 S.hd) := hA.cell 20
  have fz := hA.free
  clear hk
  have HA0 := Lib.hid hA
  have HA := Lib.hid ((hA.alloc (.cells #[] 98)).alloc (.cells #[.int .i64 v.k, .int .i64 v.n, .int .i64 v.d, .string v.t, .bool v.b, .int .i64 v.f] 33))
  clear hA
  go_enter Tryz.func213, Tryz.ntmps213
  go_wp2
  go_end0
  refine ⟨rfl, ((((HA0.out.set 19 _).set 20 _).set 18 _).cast (by simp only [accArr, List.setIfInBounds_toArray, List.set_cons_zero, List.set_cons_succ]) |>.alloc _).alloc _, ?_⟩
  repeat (first | with_reducible exact But.refl _ _ _ | with_reducible refine But.drewN ?_ _ | with_reducible refine But.drew ?_ | with_reducible refine But.setCell ?_ _ _ | with_reducible refine But.setNew ?_ (by (first | omega | (simp only [sz_alloc, sz_setCell, sz_drew, sz_drewN]; omega) | (simp; done) | (simp; omega))) _ | with_reducible refine But.alloc ?_ (by (first | omega | (simp only [sz_alloc, sz_setCell, sz_drew, sz_drewN]; omega) | (simp; done) | (simp; omega))) _ | with_reducible refine But.thenBelow ?_ ?_ (by with_reducible assumption) | with_reducible refine But.then ?_ ?_ (by with_reducible assumption) | (first | omega | (simp only [sz_alloc, sz_setCell, sz_drew, sz_drewN]; omega) | (simp; done) | (simp; omega)))
set_option maxHeartbeats 1000000 in
theorem products_cell_fault (b : Nat) (S : AccS) (kd : Value) (v : Vl) (hk : v.k = 4) :
    Turns 213 #[.agg #[], .pointer (some ⟨b, 0, none⟩), .agg #[.int .i64 (v).k, .int .i64 (v).n, .int .i64 (v).d, .string (v).t, .bool (v).b, .int .i64 (v).f]] b S (S.ends v) kd := by
  constructor
  intro w hA
  have hlt := hA.lt
  have hne : ¬ b = w.heap.size := by omega
  have hne' : ¬ w.heap.size = b := by omega
  have hne1 : ¬ b = w.heap.size + 1 := by omega
  have hne1' : ¬ w.heap.size + 1 = b := by omega
  have k1 : (v.k == 1) = false := by simp [hk]
  have k4 : (v.k == 4) = true := by simp [hk]
  clear hk
  have HA0 := Lib.hid hA
  have HA := Lib.hid ((hA.alloc (.cells #[] 98)).alloc (.cells #[.int .i64 v.k, .int .i64 v.n, .int .i64 v.d, .string v.t, .bool v.b, .int .i64 v.f] 33))
  clear hA
  go_enter Tryz.func213, Tryz.ntmps213
  go_wp2_with fail
  refine (acc_end b S kd v _ HA.out).mono ?_
  rintro e w1 ⟨rfl, A1, hb⟩
  have z36 := But.size hb
  try simp only [sz_alloc, sz_setCell, sz_drew, sz_drewN] at z36
  go_wp2
  go_end0
  refine ⟨rfl, A1, ?_⟩
  repeat (first | with_reducible exact But.refl _ _ _ | with_reducible refine But.drewN ?_ _ | with_reducible refine But.drew ?_ | with_reducible refine But.setCell ?_ _ _ | with_reducible refine But.setNew ?_ (by (first | omega | (simp only [sz_alloc, sz_setCell, sz_drew, sz_drewN]; omega) | (simp; done) | (simp; omega))) _ | with_reducible refine But.alloc ?_ (by (first | omega | (simp only [sz_alloc, sz_setCell, sz_drew, sz_drewN]; omega) | (simp; done) | (simp; omega))) _ | with_reducible refine But.thenBelow ?_ ?_ (by with_reducible assumption) | with_reducible refine But.then ?_ ?_ (by with_reducible assumption) | (first | omega | (simp only [sz_alloc, sz_setCell, sz_drew, sz_drewN]; omega) | (simp; done) | (simp; omega)))
set_option maxHeartbeats 1000000 in
theorem products_cell_no (b : Nat) (S : AccS) (kd : Value) (v : Vl) (h1 : ¬ v.k = 1) (h4 : ¬ v.k = 4) :
    Turns 213 #[.agg #[], .pointer (some ⟨b, 0, none⟩), .agg #[.int .i64 (v).k, .int .i64 (v).n, .int .i64 (v).d, .string (v).t, .bool (v).b, .int .i64 (v).f]] b S S kd := by
  constructor
  intro w hA
  have hlt := hA.lt
  have hne : ¬ b = w.heap.size := by omega
  have hne' : ¬ w.heap.size = b := by omega
  have hne1 : ¬ b = w.heap.size + 1 := by omega
  have hne1' : ¬ w.heap.size + 1 = b := by omega
  have k1 : (v.k == 1) = false := by simp [h1]
  have k4 : (v.k == 4) = false := by simp [h4]
  clear h1 h4
  have HA0 := Lib.hid hA
  have HA := Lib.hid ((hA.alloc (.cells #[] 98)).alloc (.cells #[.int .i64 v.k, .int .i64 v.n, .int .i64 v.d, .string v.t, .bool v.b, .int .i64 v.f] 33))
  clear hA
  go_enter Tryz.func213, Tryz.ntmps213
  go_wp2
  go_end0
  refine ⟨rfl, HA.out, ?_⟩
  repeat (first | with_reducible exact But.refl _ _ _ | with_reducible refine But.drewN ?_ _ | with_reducible refine But.drew ?_ | with_reducible refine But.setCell ?_ _ _ | with_reducible refine But.setNew ?_ (by (first | omega | (simp only [sz_alloc, sz_setCell, sz_drew, sz_drewN]; omega) | (simp; done) | (simp; omega))) _ | with_reducible refine But.alloc ?_ (by (first | omega | (simp only [sz_alloc, sz_setCell, sz_drew, sz_drewN]; omega) | (simp; done) | (simp; omega))) _ | with_reducible refine But.thenBelow ?_ ?_ (by with_reducible assumption) | with_reducible refine But.then ?_ ?_ (by with_reducible assumption) | (first | omega | (simp only [sz_alloc, sz_setCell, sz_drew, sz_drewN]; omega) | (simp; done) | (simp; omega)))
def AccS.cellP (S : AccS) (v : Vl) : AccS := if v.k = 1 then { S with hn := v.n, hd := v.d, wants := true } else if v.k = 4 then S.ends v else S
theorem products_cell (b : Nat) (S : AccS) (kd : Value) (v : Vl) :
    Turns 213 #[.agg #[], .pointer (some ⟨b, 0, none⟩), .agg #[.int .i64 (v).k, .int .i64 (v).n, .int .i64 (v).d, .string (v).t, .bool (v).b, .int .i64 (v).f]] b S (S.cellP v) kd := by
  unfold AccS.cellP
  by_cases k1 : v.k = 1
  · rw [if_pos k1]; exact products_cell_num b S kd v k1
  rw [if_neg k1]
  by_cases k4 : v.k = 4
  · rw [if_pos k4]; exact products_cell_fault b S kd v k4
  · rw [if_neg k4]; exact products_cell_no b S kd v k1 k4
end Go.Proofs.YtnimenpfojcehaaGreatDoor
