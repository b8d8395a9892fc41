/- Walks of package funcs: the folds as plain functions; what the folds of numbers and of truths do with any value, at any state. -/
import Derived.Test.YtnimenpfojcehaaGreatDoorAccR
import Derived.Test.YtnimenpfojcehaaGreatDoorVX
import Derived.Deep.QuietTactic
import Derived.BigQuiet
namespace Go.Proofs.YtnimenpfojcehaaGreatDoor
open Go Go.RowKit
set_option linter.unusedSimpArgs false
set_option linter.unusedVariables false

/-- What GCD does with a number. -/
def AccS.divides (S : AccS) (n d : Int) : AccS :=
  if wholeB (absN n d).n (absN n d).d = true then { S with n := (Nat.gcd (wholeN (absN n d).n (absN n d).d).natAbs (wholeN (absN S.n S.d).n (absN S.n S.d).d).natAbs : Nat), d := 1 } else S.ends (faultF 8)
/-- What a fold of numbers does with one. -/
def AccS.takes (S : AccS) (n d : Int) : AccS :=
  if S.fn = 1 then S.sets (add S.n S.d n d) else if S.fn = 12 then S.square (mul n d n d) else if S.fn = 7 then S.one (add S.n S.d n d)
  else if S.fn = 2 then S.sets (mul S.n S.d n d) else if S.fn = 5 then S.keep n d (-1) else if S.fn = 6 then S.keep n d 1 else S.divides n d
/-- What a fold of truths does with one. -/
def AccS.says (S : AccS) (b : Bool) : AccS :=
  if S.fn = 10 then (if b then { S with count := S.count + 1 } else S) else if S.fn = 8 then (if b then S else S.ends (truthV b)) else (if b then S.ends (truthV b) else S)
set_option maxHeartbeats 2000000 in
theorem acc_addsSquare (b : Nat) (S : AccS) (kd : Value) (n d : Int) (h1 : I64 S.n) (h2 : I64 S.d) (h3 : I64 n) (h4 : I64 d) :
    Turns 184 #[.pointer (some ⟨b, 0, none⟩), .agg #[.int .i64 n, .int .i64 d]] b S (S.square (mul n d n d)) kd := by
  constructor
  intro w hA
  have hlt := hA.lt
  have hne : ¬ b = w.heap.size := by omega
  have hne' : ¬ w.heap.size = b := by omega
  have hbd := mul_bds n d n d
  have HM := Lib.hid fun wx => num_Mul n d n d wx h3 h4 h3 h4
  have HA := Lib.hid (hA.alloc (.cells #[.int .i64 n, .int .i64 d] 31))
  generalize mul n d n d = R at *
  obtain ⟨rn, rd, ok⟩ := R
  have i1 : I64 rn := I64.of hbd.1 hbd.2.1
  have i2 : I64 rd := by have h5 := hbd.2.2.1; have h6 := hbd.2.2.2; simp only at h5 h6; exact I64.of (by omega) (by omega)
  clear hA h3 h4 hbd
  cases ok
  · have HS : Hid (S.square ⟨rn, rd, false⟩ = { S with full := true, v := faultF 4 }) := rfl
    generalize S.square ⟨rn, rd, false⟩ = S' at *
    have HF := Lib.hid fun wx => value_Fault 4 wx
    go_enter Tryz.func184, Tryz.ntmps184
    go_wp2_with fail
    refine (HM.out _).mono ?_
    rintro e w1 ⟨rfl, hb⟩
    have A1 := Lib.hid (HA.out.below hb)
    have z1 := Below.size hb
    try simp only [sz_alloc, sz_setCell, sz_drew, sz_drewN] at z1
    go_wp2_with fail
    refine (HF.out _).mono ?_
    rintro e w2 ⟨rfl, hb2⟩
    have A2 := (A1.out.alloc _).below hb2
    have z2 := Below.size hb2
    try simp only [sz_alloc, sz_setCell, sz_drew, sz_drewN] at z2
    go_wp2_with fail
    refine (acc_end b S kd _ _ A2).mono ?_
    rintro e w3 ⟨rfl, A3, hb3⟩
    have z3 := But.size hb3
    try simp only [sz_alloc, sz_setCell, sz_drew, sz_drewN] at z3
    go_wp2
    go_end0
    refine ⟨rfl, by rw [HS.out]; exact A3, ?_⟩
    repeat (first | with_reducible exact But.refl _ _ _ | with_reducible refine But.drewN ?_ _ | with_reducible refine But.drew ?_ | with_reducible refine But.setCell ?_ _ _ | with_reducible refine But.setNew ?_ (by (first | omega | (simp only [sz_alloc, sz_setCell, sz_drew, sz_drewN]; omega) | (simp; done) | (simp; omega))) _ | with_reducible refine But.alloc ?_ (by (first | omega | (simp only [sz_alloc, sz_setCell, sz_drew, sz_drewN]; omega) | (simp; done) | (simp; omega))) _ | with_reducible refine But.thenBelow ?_ ?_ (by with_reducible assumption) | with_reducible refine But.then ?_ ?_ (by with_reducible assumption) | (first | omega | (simp only [sz_alloc, sz_setCell, sz_drew, sz_drewN]; omega) | (simp; done) | (simp; omega)))
  · have HS : Hid (S.square ⟨rn, rd, true⟩ = S.sets (add S.n S.d rn rd)) := rfl
    generalize S.square ⟨rn, rd, true⟩ = S' at *
    have HAD := Lib.hid fun wx hx => acc_adds b S kd rn rd wx hx h1 h2 i1 i2
    go_enter Tryz.func184, Tryz.ntmps184
    go_wp2_with fail
    refine (HM.out _).mono ?_
    rintro e w1 ⟨rfl, hb⟩
    have A1 := Lib.hid (HA.out.below hb)
    have z4 := Below.size hb
    try simp only [sz_alloc, sz_setCell, sz_drew, sz_drewN] at z4
    go_wp2_with fail
    refine (HAD.out _ (A1.out.alloc _)).mono ?_
    rintro e w2 ⟨rfl, A2, hb2⟩
    have z5 := But.size hb2
    try simp only [sz_alloc, sz_setCell, sz_drew, sz_drewN] at z5
    go_wp2
    refine bodyPost_ret (results_none rfl _ _ _) rfl ?_
    refine ⟨rfl, by rw [HS.out]; exact A2, ?_⟩
    repeat (first | with_reducible exact But.refl _ _ _ | with_reducible refine But.drewN ?_ _ | with_reducible refine But.drew ?_ | with_reducible refine But.setCell ?_ _ _ | with_reducible refine But.setNew ?_ (by (first | omega | (simp only [sz_alloc, sz_setCell, sz_drew, sz_drewN]; omega) | (simp; done) | (simp; omega))) _ | with_reducible refine But.alloc ?_ (by (first | omega | (simp only [sz_alloc, sz_setCell, sz_drew, sz_drewN]; omega) | (simp; done) | (simp; omega))) _ | with_reducible refine But.thenBelow ?_ ?_ (by with_reducible assumption) | with_reducible refine But.then ?_ ?_ (by with_reducible assumption) | (first | omega | (simp only [sz_alloc, sz_setCell, sz_drew, sz_drewN]; omega) | (simp; done) | (simp; omega)))


set_option maxHeartbeats 1000000 in
theorem numbers_feed0 (b : Nat) (S : AccS) (kd : Value) (v : Vl) (hx : v.In) (h0 : v.k = 0) :
    Turns 180 #[.agg #[], .pointer (some ⟨b, 0, none⟩), .agg #[.int .i64 (v).k, .int .i64 (v).n, .int .i64 (v).d, .string (v).t, .bool (v).b, .int .i64 (v).f]] b S S kd := by
  constructor
  intro w hA
  have hlt := hA.lt
  have k0 : (v.k == 0) = true := by simp [h0]
  have HN := Lib.hid fun wx => value_AsNumber v.k v.n v.d v.t v.b v.f wx hx
  have eR : asNum ⟨v.k, v.n, v.d, v.t, v.b, v.f⟩ = asNum v := rfl
  rw [eR] at HN
  clear eR
  generalize asNum v = R at *
  have HA := Lib.hid ((hA.alloc (.cells #[] 88)).alloc (.cells #[.int .i64 v.k, .int .i64 v.n, .int .i64 v.d, .string v.t, .bool v.b, .int .i64 v.f] 33))
  clear h0 hA
  go_enter Tryz.func180, Tryz.ntmps180
  go_wp2_with fail
  refine (HN.out _).mono ?_
  rintro e w1' ⟨rfl, hb⟩
  have A1 := Lib.hid (HA.out.below hb)
  obtain ⟨s6, c6_0, c6_1, c6_2, c6_3, c6_4, c6_5, f6⟩ := L6 hb (w.heap.size + 1) (by first | omega | (simp only [sA, sC, sD, sE]; omega) | (simp; done) | (simp; omega)) (by go_simp; exact ⟨rfl, rfl, rfl, rfl, rfl, rfl⟩) (by intro o; go_simp)
  have z7 := Below.size hb
  try simp only [sz_alloc, sz_setCell, sz_drew, sz_drewN] at z7
  have q1 : ¬ w.heap.size + 1 = w1'.heap.size := by have := Below.size hb; simp only [sz_alloc] at this; omega
  have q2 : ¬ w.heap.size = w1'.heap.size := by have := Below.size hb; simp only [sz_alloc] at this; omega
  have q3 : ¬ w1'.heap.size = w.heap.size + 1 := fun h => q1 h.symm
  have q5 : w.heap.size < w1'.heap.size := by have := Below.size hb; simp only [sz_alloc] at this; omega
  go_wp2
  go_end0
  refine ⟨rfl, (A1.out.alloc _).alloc _, ?_⟩
  repeat (first | with_reducible exact But.refl _ _ _ | with_reducible refine But.drewN ?_ _ | with_reducible refine But.drew ?_ | with_reducible refine But.setCell ?_ _ _ | with_reducible refine But.setNew ?_ (by (first | omega | (simp only [sz_alloc, sz_setCell, sz_drew, sz_drewN]; omega) | (simp; done) | (simp; omega))) _ | with_reducible refine But.alloc ?_ (by (first | omega | (simp only [sz_alloc, sz_setCell, sz_drew, sz_drewN]; omega) | (simp; done) | (simp; omega))) _ | with_reducible refine But.thenBelow ?_ ?_ (by with_reducible assumption) | with_reducible refine But.then ?_ ?_ (by with_reducible assumption) | (first | omega | (simp only [sz_alloc, sz_setCell, sz_drew, sz_drewN]; omega) | (simp; done) | (simp; omega)))
set_option maxHeartbeats 1000000 in
theorem numbers_feed4 (b : Nat) (S : AccS) (kd : Value) (v : Vl) (hx : v.In) (h0 : ¬ v.k = 0) (hR : (asNum v).e.k = 4) :
    Turns 180 #[.agg #[], .pointer (some ⟨b, 0, none⟩), .agg #[.int .i64 (v).k, .int .i64 (v).n, .int .i64 (v).d, .string (v).t, .bool (v).b, .int .i64 (v).f]] b S (S.ends (asNum v).e) kd := by
  constructor
  intro w hA
  have hlt := hA.lt
  have k0 : (v.k == 0) = false := by simp [h0]
  have HN := Lib.hid fun wx => value_AsNumber v.k v.n v.d v.t v.b v.f wx hx
  have eR : asNum ⟨v.k, v.n, v.d, v.t, v.b, v.f⟩ = asNum v := rfl
  rw [eR] at HN
  clear eR
  generalize asNum v = R at *
  have r4 : (R.e.k == 4) = true := by simp [hR]
  have HA := Lib.hid ((hA.alloc (.cells #[] 88)).alloc (.cells #[.int .i64 v.k, .int .i64 v.n, .int .i64 v.d, .string v.t, .bool v.b, .int .i64 v.f] 33))
  clear h0 hR hA
  go_enter Tryz.func180, Tryz.ntmps180
  go_wp2_with fail
  refine (HN.out _).mono ?_
  rintro e w1' ⟨rfl, hb⟩
  have A1 := Lib.hid (HA.out.below hb)
  obtain ⟨s8, c8_0, c8_1, c8_2, c8_3, c8_4, c8_5, f8⟩ := L6 hb (w.heap.size + 1) (by first | omega | (simp only [sA, sC, sD, sE]; omega) | (simp; done) | (simp; omega)) (by go_simp; exact ⟨rfl, rfl, rfl, rfl, rfl, rfl⟩) (by intro o; go_simp)
  have z9 := Below.size hb
  try simp only [sz_alloc, sz_setCell, sz_drew, sz_drewN] at z9
  have hlt1 := A1.out.lt
  have q1 : ¬ w.heap.size + 1 = w1'.heap.size := by have := Below.size hb; simp only [sz_alloc] at this; omega
  have q2 : ¬ w.heap.size = w1'.heap.size := by have := Below.size hb; simp only [sz_alloc] at this; omega
  have q3 : ¬ w1'.heap.size = w.heap.size + 1 := fun h => q1 h.symm
  have q4 : ¬ w1'.heap.size = w.heap.size := fun h => q2 h.symm
  have q5 : w.heap.size < w1'.heap.size := by have := Below.size hb; simp only [sz_alloc] at this; omega
  go_wp2_with fail
  refine (acc_end b S kd R.e _ ((A1.out.alloc _).alloc _)).mono ?_
  rintro e w2 ⟨rfl, A2, hb2⟩
  have z10 := But.size hb2
  try simp only [sz_alloc, sz_setCell, sz_drew, sz_drewN] at z10
  go_wp2
  go_end0
  refine ⟨rfl, A2, ?_⟩
  repeat (first | with_reducible exact But.refl _ _ _ | with_reducible refine But.drewN ?_ _ | with_reducible refine But.drew ?_ | with_reducible refine But.setCell ?_ _ _ | with_reducible refine But.setNew ?_ (by (first | omega | (simp only [sz_alloc, sz_setCell, sz_drew, sz_drewN]; omega) | (simp; done) | (simp; omega))) _ | with_reducible refine But.alloc ?_ (by (first | omega | (simp only [sz_alloc, sz_setCell, sz_drew, sz_drewN]; omega) | (simp; done) | (simp; omega))) _ | with_reducible refine But.thenBelow ?_ ?_ (by with_reducible assumption) | with_reducible refine But.then ?_ ?_ (by with_reducible assumption) | (first | omega | (simp only [sz_alloc, sz_setCell, sz_drew, sz_drewN]; omega) | (simp; done) | (simp; omega)))

set_option maxHeartbeats 1000000 in
theorem truths_feed0 (b : Nat) (S : AccS) (kd : Value) (v : Vl) (hx : v.In) (h0 : v.k = 0)  :
    Turns 193 #[.agg #[], .pointer (some ⟨b, 0, none⟩), .agg #[.int .i64 (v).k, .int .i64 (v).n, .int .i64 (v).d, .string (v).t, .bool (v).b, .int .i64 (v).f]] b S S kd := by
  constructor
  intro w hA
  have hlt := hA.lt
  have k0 : (v.k == 0) = true := by simp [h0]
  have HN := Lib.hid fun wx => value_AsTruth v.k v.n v.d v.t v.b v.f wx hx
  have eR : asTru ⟨v.k, v.n, v.d, v.t, v.b, v.f⟩ = asTru v := rfl
  rw [eR] at HN
  clear eR
  generalize asTru v = R at *
  have HA := Lib.hid ((hA.alloc (.cells #[] 89)).alloc (.cells #[.int .i64 v.k, .int .i64 v.n, .int .i64 v.d, .string v.t, .bool v.b, .int .i64 v.f] 33))
  clear h0 hA
  go_enter Tryz.func193, Tryz.ntmps193
  go_wp2_with fail
  refine (HN.out _).mono ?_
  rintro e w1' ⟨rfl, hb⟩
  have A1 := Lib.hid (HA.out.below hb)
  obtain ⟨s11, c11_0, c11_1, c11_2, c11_3, c11_4, c11_5, f11⟩ := L6 hb (w.heap.size + 1) (by first | omega | (simp only [sA, sC, sD, sE]; omega) | (simp; done) | (simp; omega)) (by go_simp; exact ⟨rfl, rfl, rfl, rfl, rfl, rfl⟩) (by intro o; go_simp)
  have z12 := Below.size hb
  try simp only [sz_alloc, sz_setCell, sz_drew, sz_drewN] at z12
  have hlt1 := A1.out.lt
  have q1 : ¬ w.heap.size + 1 = w1'.heap.size := by have := Below.size hb; simp only [sz_alloc] at this; omega
  have q3 : ¬ w1'.heap.size = w.heap.size + 1 := fun h => q1 h.symm
  have q5 : w.heap.size < w1'.heap.size := by have := Below.size hb; simp only [sz_alloc] at this; omega
  go_wp2
  go_end0
  refine ⟨rfl, A1.out.alloc _, ?_⟩
  repeat (first | with_reducible exact But.refl _ _ _ | with_reducible refine But.drewN ?_ _ | with_reducible refine But.drew ?_ | with_reducible refine But.setCell ?_ _ _ | with_reducible refine But.setNew ?_ (by (first | omega | (simp only [sz_alloc, sz_setCell, sz_drew, sz_drewN]; omega) | (simp; done) | (simp; omega))) _ | with_reducible refine But.alloc ?_ (by (first | omega | (simp only [sz_alloc, sz_setCell, sz_drew, sz_drewN]; omega) | (simp; done) | (simp; omega))) _ | with_reducible refine But.thenBelow ?_ ?_ (by with_reducible assumption) | with_reducible refine But.then ?_ ?_ (by with_reducible assumption) | (first | omega | (simp only [sz_alloc, sz_setCell, sz_drew, sz_drewN]; omega) | (simp; done) | (simp; omega)))
set_option maxHeartbeats 1000000 in
theorem truths_feed4 (b : Nat) (S : AccS) (kd : Value) (v : Vl) (hx : v.In) (h0 : ¬ v.k = 0) (hR : (asTru v).e.k = 4) :
    Turns 193 #[.agg #[], .pointer (some ⟨b, 0, none⟩), .agg #[.int .i64 (v).k, .int .i64 (v).n, .int .i64 (v).d, .string (v).t, .bool (v).b, .int .i64 (v).f]] b S (S.ends (asTru v).e) kd := by
  constructor
  intro w hA
  have hlt := hA.lt
  have k0 : (v.k == 0) = false := by simp [h0]
  have HN := Lib.hid fun wx => value_AsTruth v.k v.n v.d v.t v.b v.f wx hx
  have eR : asTru ⟨v.k, v.n, v.d, v.t, v.b, v.f⟩ = asTru v := rfl
  rw [eR] at HN
  clear eR
  generalize asTru v = R at *
  have r4 : (R.e.k == 4) = true := by simp [hR]
  clear hR
  have HA := Lib.hid ((hA.alloc (.cells #[] 89)).alloc (.cells #[.int .i64 v.k, .int .i64 v.n, .int .i64 v.d, .string v.t, .bool v.b, .int .i64 v.f] 33))
  clear h0 hA
  go_enter Tryz.func193, Tryz.ntmps193
  go_wp2_with fail
  refine (HN.out _).mono ?_
  rintro e w1' ⟨rfl, hb⟩
  have A1 := Lib.hid (HA.out.below hb)
  obtain ⟨s13, c13_0, c13_1, c13_2, c13_3, c13_4, c13_5, f13⟩ := L6 hb (w.heap.size + 1) (by first | omega | (simp only [sA, sC, sD, sE]; omega) | (simp; done) | (simp; omega)) (by go_simp; exact ⟨rfl, rfl, rfl, rfl, rfl, rfl⟩) (by intro o; go_simp)
  have z14 := Below.size hb
  try simp only [sz_alloc, sz_setCell, sz_drew, sz_drewN] at z14
  have hlt1 := A1.out.lt
  have q1 : ¬ w.heap.size + 1 = w1'.heap.size := by have := Below.size hb; simp only [sz_alloc] at this; omega
  have q3 : ¬ w1'.heap.size = w.heap.size + 1 := fun h => q1 h.symm
  have q5 : w.heap.size < w1'.heap.size := by have := Below.size hb; simp only [sz_alloc] at this; omega
  go_wp2_with fail
  refine (acc_end b S kd R.e _ (A1.out.alloc _)).mono ?_
  rintro e w2 ⟨rfl, A2, hb2⟩
  have z15 := But.size hb2
  try simp only [sz_alloc, sz_setCell, sz_drew, sz_drewN] at z15
  go_wp2
  go_end0
  refine ⟨rfl, A2, ?_⟩
  repeat (first | with_reducible exact But.refl _ _ _ | with_reducible refine But.drewN ?_ _ | with_reducible refine But.drew ?_ | with_reducible refine But.setCell ?_ _ _ | with_reducible refine But.setNew ?_ (by (first | omega | (simp only [sz_alloc, sz_setCell, sz_drew, sz_drewN]; omega) | (simp; done) | (simp; omega))) _ | with_reducible refine But.alloc ?_ (by (first | omega | (simp only [sz_alloc, sz_setCell, sz_drew, sz_drewN]; omega) | (simp; done) | (simp; omega))) _ | with_reducible refine But.thenBelow ?_ ?_ (by with_reducible assumption) | with_reducible refine But.then ?_ ?_ (by with_reducible assumption) | (first | omega | (simp only [sz_alloc, sz_setCell, sz_drew, sz_drewN]; omega) | (simp; done) | (simp; omega)))
set_option maxHeartbeats 1000000 in
theorem truths_feed1 (b : Nat) (S ST : AccS) (kd : Value) (v : Vl) (hx : v.In) (h0 : ¬ v.k = 0) (hR : ¬ (asTru v).e.k = 4) (HM : Turns 195 #[.pointer (some ⟨b, 0, none⟩), .bool (asTru v).b] b S ST kd) :
    Turns 193 #[.agg #[], .pointer (some ⟨b, 0, none⟩), .agg #[.int .i64 (v).k, .int .i64 (v).n, .int .i64 (v).d, .string (v).t, .bool (v).b, .int .i64 (v).f]] b S ST kd := by
  constructor
  intro w hA
  have hlt := hA.lt
  have k0 : (v.k == 0) = false := by simp [h0]
  have HN := Lib.hid fun wx => value_AsTruth v.k v.n v.d v.t v.b v.f wx hx
  have eR : asTru ⟨v.k, v.n, v.d, v.t, v.b, v.f⟩ = asTru v := rfl
  rw [eR] at HN
  clear eR
  generalize asTru v = R at *
  have r4 : (R.e.k == 4) = false := by simp [hR]
  clear hR
  have HA := Lib.hid ((hA.alloc (.cells #[] 89)).alloc (.cells #[.int .i64 v.k, .int .i64 v.n, .int .i64 v.d, .string v.t, .bool v.b, .int .i64 v.f] 33))
  clear h0 hA
  go_enter Tryz.func193, Tryz.ntmps193
  go_wp2_with fail
  refine (HN.out _).mono ?_
  rintro e w1' ⟨rfl, hb⟩
  have A1 := Lib.hid (HA.out.below hb)
  obtain ⟨s16, c16_0, c16_1, c16_2, c16_3, c16_4, c16_5, f16⟩ := L6 hb (w.heap.size + 1) (by first | omega | (simp only [sA, sC, sD, sE]; omega) | (simp; done) | (simp; omega)) (by go_simp; exact ⟨rfl, rfl, rfl, rfl, rfl, rfl⟩) (by intro o; go_simp)
  have z17 := Below.size hb
  try simp only [sz_alloc, sz_setCell, sz_drew, sz_drewN] at z17
  have hlt1 := A1.out.lt
  have q1 : ¬ w.heap.size + 1 = w1'.heap.size := by have := Below.size hb; simp only [sz_alloc] at this; omega
  have q3 : ¬ w1'.heap.size = w.heap.size + 1 := fun h => q1 h.symm
  have q5 : w.heap.size < w1'.heap.size := by have := Below.size hb; simp only [sz_alloc] at this; omega
  go_wp2_with fail
  refine (HM.out _ (A1.out.alloc _)).mono ?_
  rintro e w2 ⟨rfl, A2, hb2⟩
  have z18 := But.size hb2
  try simp only [sz_alloc, sz_setCell, sz_drew, sz_drewN] at z18
  go_wp2
  go_end0
  refine ⟨rfl, A2, ?_⟩
  repeat (first | with_reducible exact But.refl _ _ _ | with_reducible refine But.drewN ?_ _ | with_reducible refine But.drew ?_ | with_reducible refine But.setCell ?_ _ _ | with_reducible refine But.setNew ?_ (by (first | omega | (simp only [sz_alloc, sz_setCell, sz_drew, sz_drewN]; omega) | (simp; done) | (simp; omega))) _ | with_reducible refine But.alloc ?_ (by (first | omega | (simp only [sz_alloc, sz_setCell, sz_drew, sz_drewN]; omega) | (simp; done) | (simp; omega))) _ | with_reducible refine But.thenBelow ?_ ?_ (by with_reducible assumption) | with_reducible refine But.then ?_ ?_ (by with_reducible assumption) | (first | omega | (simp only [sz_alloc, sz_setCell, sz_drew, sz_drewN]; omega) | (simp; done) | (simp; omega)))
set_option maxHeartbeats 1000000 in
theorem takesTruth_stay8 (b : Nat) (S : AccS) (kd : Value) (hf : S.fn = 8) :
    Turns 195 #[.pointer (some ⟨b, 0, none⟩), .bool true] b S S kd := by
  constructor
  intro w hA
  have hlt := hA.lt
  have a0 : w.cell? ⟨b, 0, none⟩ = some (.int .i64 8) := (hA.cell 0).trans (by rw [← hf]; rfl)
  have HA := Lib.hid hA
  clear hA hf
  go_enter Tryz.func195, Tryz.ntmps195
  go_wp2_with fail
  go_end0
  refine ⟨rfl, HA.out, ?_⟩
  repeat (first | with_reducible exact But.refl _ _ _ | with_reducible refine But.drewN ?_ _ | with_reducible refine But.drew ?_ | with_reducible refine But.setCell ?_ _ _ | with_reducible refine But.setNew ?_ (by (first | omega | (simp only [sz_alloc, sz_setCell, sz_drew, sz_drewN]; omega) | (simp; done) | (simp; omega))) _ | with_reducible refine But.alloc ?_ (by (first | omega | (simp only [sz_alloc, sz_setCell, sz_drew, sz_drewN]; omega) | (simp; done) | (simp; omega))) _ | with_reducible refine But.thenBelow ?_ ?_ (by with_reducible assumption) | with_reducible refine But.then ?_ ?_ (by with_reducible assumption) | (first | omega | (simp only [sz_alloc, sz_setCell, sz_drew, sz_drewN]; omega) | (simp; done) | (simp; omega)))
set_option maxHeartbeats 1000000 in
theorem takesTruth_stay9 (b : Nat) (S : AccS) (kd : Value) (hf : S.fn = 9) :
    Turns 195 #[.pointer (some ⟨b, 0, none⟩), .bool false] b S S kd := by
  constructor
  intro w hA
  have hlt := hA.lt
  have a0 : w.cell? ⟨b, 0, none⟩ = some (.int .i64 9) := (hA.cell 0).trans (by rw [← hf]; rfl)
  have HA := Lib.hid hA
  clear hA hf
  go_enter Tryz.func195, Tryz.ntmps195
  go_wp2_with fail
  go_end0
  refine ⟨rfl, HA.out, ?_⟩
  repeat (first | with_reducible exact But.refl _ _ _ | with_reducible refine But.drewN ?_ _ | with_reducible refine But.drew ?_ | with_reducible refine But.setCell ?_ _ _ | with_reducible refine But.setNew ?_ (by (first | omega | (simp only [sz_alloc, sz_setCell, sz_drew, sz_drewN]; omega) | (simp; done) | (simp; omega))) _ | with_reducible refine But.alloc ?_ (by (first | omega | (simp only [sz_alloc, sz_setCell, sz_drew, sz_drewN]; omega) | (simp; done) | (simp; omega))) _ | with_reducible refine But.thenBelow ?_ ?_ (by with_reducible assumption) | with_reducible refine But.then ?_ ?_ (by with_reducible assumption) | (first | omega | (simp only [sz_alloc, sz_setCell, sz_drew, sz_drewN]; omega) | (simp; done) | (simp; omega)))
set_option maxHeartbeats 1000000 in
theorem takesTruth_stay10 (b : Nat) (S : AccS) (kd : Value) (hf : S.fn = 10) :
    Turns 195 #[.pointer (some ⟨b, 0, none⟩), .bool false] b S S kd := by
  constructor
  intro w hA
  have hlt := hA.lt
  have a0 : w.cell? ⟨b, 0, none⟩ = some (.int .i64 10) := (hA.cell 0).trans (by rw [← hf]; rfl)
  have HA := Lib.hid hA
  clear hA hf
  go_enter Tryz.func195, Tryz.ntmps195
  go_wp2_with fail
  go_end0
  refine ⟨rfl, HA.out, ?_⟩
  repeat (first | with_reducible exact But.refl _ _ _ | with_reducible refine But.drewN ?_ _ | with_reducible refine But.drew ?_ | with_reducible refine But.setCell ?_ _ _ | with_reducible refine But.setNew ?_ (by (first | omega | (simp only [sz_alloc, sz_setCell, sz_drew, sz_drewN]; omega) | (simp; done) | (simp; omega))) _ | with_reducible refine But.alloc ?_ (by (first | omega | (simp only [sz_alloc, sz_setCell, sz_drew, sz_drewN]; omega) | (simp; done) | (simp; omega))) _ | with_reducible refine But.thenBelow ?_ ?_ (by with_reducible assumption) | with_reducible refine But.then ?_ ?_ (by with_reducible assumption) | (first | omega | (simp only [sz_alloc, sz_setCell, sz_drew, sz_drewN]; omega) | (simp; done) | (simp; omega)))
set_option maxHeartbeats 1000000 in
theorem takesTruth_end8 (b : Nat) (S : AccS) (kd : Value) (hf : S.fn = 8) :
    Turns 195 #[.pointer (some ⟨b, 0, none⟩), .bool false] b S { S with full := true, v := truthV false } kd := by
  constructor
  intro w hA
  have hlt := hA.lt
  have a0 : w.cell? ⟨b, 0, none⟩ = some (.int .i64 8) := (hA.cell 0).trans (by rw [← hf]; rfl)
  have HA := Lib.hid hA
  have HT := Lib.hid fun wx => value_Truth false wx
  clear hA hf
  go_enter Tryz.func195, Tryz.ntmps195
  go_wp2_with fail
  refine (HT.out _).mono ?_
  rintro e w1 ⟨rfl, hb⟩
  have A1 := HA.out.below hb
  have z19 := Below.size hb
  try simp only [sz_alloc, sz_setCell, sz_drew, sz_drewN] at z19
  go_wp2_with fail
  refine (acc_end b S kd (truthV false) _ A1).mono ?_
  rintro e w2 ⟨rfl, A2, hb2⟩
  have z20 := But.size hb2
  try simp only [sz_alloc, sz_setCell, sz_drew, sz_drewN] at z20
  go_wp2
  go_end0
  refine ⟨rfl, A2, ?_⟩
  repeat (first | with_reducible exact But.refl _ _ _ | with_reducible refine But.drewN ?_ _ | with_reducible refine But.drew ?_ | with_reducible refine But.setCell ?_ _ _ | with_reducible refine But.setNew ?_ (by (first | omega | (simp only [sz_alloc, sz_setCell, sz_drew, sz_drewN]; omega) | (simp; done) | (simp; omega))) _ | with_reducible refine But.alloc ?_ (by (first | omega | (simp only [sz_alloc, sz_setCell, sz_drew, sz_drewN]; omega) | (simp; done) | (simp; omega))) _ | with_reducible refine But.thenBelow ?_ ?_ (by with_reducible assumption) | with_reducible refine But.then ?_ ?_ (by with_reducible assumption) | (first | omega | (simp only [sz_alloc, sz_setCell, sz_drew, sz_drewN]; omega) | (simp; done) | (simp; omega)))
set_option maxHeartbeats 1000000 in
theorem takesTruth_end9 (b : Nat) (S : AccS) (kd : Value) (hf : S.fn = 9) :
    Turns 195 #[.pointer (some ⟨b, 0, none⟩), .bool true] b S { S with full := true, v := truthV true } kd := by
  constructor
  intro w hA
  have hlt := hA.lt
  have a0 : w.cell? ⟨b, 0, none⟩ = some (.int .i64 9) := (hA.cell 0).trans (by rw [← hf]; rfl)
  have HA := Lib.hid hA
  have HT := Lib.hid fun wx => value_Truth true wx
  clear hA hf
  go_enter Tryz.func195, Tryz.ntmps195
  go_wp2_with fail
  refine (HT.out _).mono ?_
  rintro e w1 ⟨rfl, hb⟩
  have A1 := HA.out.below hb
  have z21 := Below.size hb
  try simp only [sz_alloc, sz_setCell, sz_drew, sz_drewN] at z21
  go_wp2_with fail
  refine (acc_end b S kd (truthV true) _ A1).mono ?_
  rintro e w2 ⟨rfl, A2, hb2⟩
  have z22 := But.size hb2
  try simp only [sz_alloc, sz_setCell, sz_drew, sz_drewN] at z22
  go_wp2
  go_end0
  refine ⟨rfl, A2, ?_⟩
  repeat (first | with_reducible exact But.refl _ _ _ | with_reducible refine But.drewN ?_ _ | with_reducible refine But.drew ?_ | with_reducible refine But.setCell ?_ _ _ | with_reducible refine But.setNew ?_ (by (first | omega | (simp only [sz_alloc, sz_setCell, sz_drew, sz_drewN]; omega) | (simp; done) | (simp; omega))) _ | with_reducible refine But.alloc ?_ (by (first | omega | (simp only [sz_alloc, sz_setCell, sz_drew, sz_drewN]; omega) | (simp; done) | (simp; omega))) _ | with_reducible refine But.thenBelow ?_ ?_ (by with_reducible assumption) | with_reducible refine But.then ?_ ?_ (by with_reducible assumption) | (first | omega | (simp only [sz_alloc, sz_setCell, sz_drew, sz_drewN]; omega) | (simp; done) | (simp; omega)))
set_option maxHeartbeats 1000000 in
theorem takesTruth_more (b : Nat) (S : AccS) (kd : Value) (hf : S.fn = 10) (hc0 : 0 ≤ S.count) (hc1 : S.count ≤ 9000000000000000000) :
    Turns 195 #[.pointer (some ⟨b, 0, none⟩), .bool true] b S { S with count := S.count + 1 } kd := by
  constructor
  intro w hA
  have hlt := hA.lt
  have a0 : w.cell? ⟨b, 0, none⟩ = some (.int .i64 10) := (hA.cell 0).trans (by rw [← hf]; rfl)
  have q1 : w.cell? ⟨b, 1, none⟩ = some (.int .i64 S.count) := hA.cell 1
  have fz := hA.free
  have hw := w64 (x := S.count + 1) (by omega) (by omega)
  have HA := Lib.hid hA
  clear hA hf
  go_enter Tryz.func195, Tryz.ntmps195
  go_wp2_with fail
  go_end0
  refine ⟨rfl, (HA.out.set 1 _).cast (by simp only [accArr, List.setIfInBounds_toArray, List.set_cons_zero, List.set_cons_succ]), ?_⟩
  repeat (first | with_reducible exact But.refl _ _ _ | with_reducible refine But.drewN ?_ _ | with_reducible refine But.drew ?_ | with_reducible refine But.setCell ?_ _ _ | with_reducible refine But.setNew ?_ (by (first | omega | (simp only [sz_alloc, sz_setCell, sz_drew, sz_drewN]; omega) | (simp; done) | (simp; omega))) _ | with_reducible refine But.alloc ?_ (by (first | omega | (simp only [sz_alloc, sz_setCell, sz_drew, sz_drewN]; omega) | (simp; done) | (simp; omega))) _ | with_reducible refine But.thenBelow ?_ ?_ (by with_reducible assumption) | with_reducible refine But.then ?_ ?_ (by with_reducible assumption) | (first | omega | (simp only [sz_alloc, sz_setCell, sz_drew, sz_drewN]; omega) | (simp; done) | (simp; omega)))

set_option maxHeartbeats 1000000 in
theorem truths_cell2 (b : Nat) (S : AccS) (kd : Value) (v : Vl) (hk : v.k = 2) :
    Turns 192 #[.agg #[], .pointer (some ⟨b, 0, none⟩), .agg #[.int .i64 (v).k, .int .i64 (v).n, .int .i64 (v).d, .string (v).t, .bool (v).b, .int .i64 (v).f]] b S S kd := by
  constructor
  intro w hA
  have hlt := hA.lt
  have k2 : (v.k != 2) = false := by simp [hk]
  have HA := Lib.hid ((hA.alloc (.cells #[] 89)).alloc (.cells #[.int .i64 v.k, .int .i64 v.n, .int .i64 v.d, .string v.t, .bool v.b, .int .i64 v.f] 33))
  clear hA hk
  go_enter Tryz.func192, Tryz.ntmps192
  go_wp2
  go_end0
  refine ⟨rfl, HA.out, ?_⟩
  repeat (first | with_reducible exact But.refl _ _ _ | with_reducible refine But.drewN ?_ _ | with_reducible refine But.drew ?_ | with_reducible refine But.setCell ?_ _ _ | with_reducible refine But.setNew ?_ (by (first | omega | (simp only [sz_alloc, sz_setCell, sz_drew, sz_drewN]; omega) | (simp; done) | (simp; omega))) _ | with_reducible refine But.alloc ?_ (by (first | omega | (simp only [sz_alloc, sz_setCell, sz_drew, sz_drewN]; omega) | (simp; done) | (simp; omega))) _ | with_reducible refine But.thenBelow ?_ ?_ (by with_reducible assumption) | with_reducible refine But.then ?_ ?_ (by with_reducible assumption) | (first | omega | (simp only [sz_alloc, sz_setCell, sz_drew, sz_drewN]; omega) | (simp; done) | (simp; omega)))
set_option maxHeartbeats 1000000 in
theorem truths_cell1 (b : Nat) (S ST : AccS) (kd : Value) (v : Vl) (hk : ¬ v.k = 2) (HM : Turns 193 #[.agg #[], .pointer (some ⟨b, 0, none⟩), .agg #[.int .i64 (v).k, .int .i64 (v).n, .int .i64 (v).d, .string (v).t, .bool (v).b, .int .i64 (v).f]] b S ST kd) :
    Turns 192 #[.agg #[], .pointer (some ⟨b, 0, none⟩), .agg #[.int .i64 (v).k, .int .i64 (v).n, .int .i64 (v).d, .string (v).t, .bool (v).b, .int .i64 (v).f]] b S ST kd := by
  constructor
  intro w hA
  have hlt := hA.lt
  have k2 : (v.k != 2) = true := by simp [hk]
  have HA := Lib.hid ((hA.alloc (.cells #[] 89)).alloc (.cells #[.int .i64 v.k, .int .i64 v.n, .int .i64 v.d, .string v.t, .bool v.b, .int .i64 v.f] 33))
  clear hA hk
  go_enter Tryz.func192, Tryz.ntmps192
  go_wp2_with fail
  refine (HM.out _ HA.out).mono ?_
  rintro e w1 ⟨rfl, A1, hb⟩
  have z23 := But.size hb
  try simp only [sz_alloc, sz_setCell, sz_drew, sz_drewN] at z23
  go_wp2
  go_end0
  refine ⟨rfl, A1, ?_⟩
  repeat (first | with_reducible exact But.refl _ _ _ | with_reducible refine But.drewN ?_ _ | with_reducible refine But.drew ?_ | with_reducible refine But.setCell ?_ _ _ | with_reducible refine But.setNew ?_ (by (first | omega | (simp only [sz_alloc, sz_setCell, sz_drew, sz_drewN]; omega) | (simp; done) | (simp; omega))) _ | with_reducible refine But.alloc ?_ (by (first | omega | (simp only [sz_alloc, sz_setCell, sz_drew, sz_drewN]; omega) | (simp; done) | (simp; omega))) _ | with_reducible refine But.thenBelow ?_ ?_ (by with_reducible assumption) | with_reducible refine But.then ?_ ?_ (by with_reducible assumption) | (first | omega | (simp only [sz_alloc, sz_setCell, sz_drew, sz_drewN]; omega) | (simp; done) | (simp; omega)))
theorem says_of (b : Nat) (S : AccS) (kd : Value) (q : Bool) (hf : S.fn = 8 ∨ S.fn = 9 ∨ S.fn = 10) (hc0 : 0 ≤ S.count) (hc1 : S.count ≤ 9000000000000000000) :
    Turns 195 #[.pointer (some ⟨b, 0, none⟩), .bool q] b S (S.says q) kd := by
  unfold AccS.says
  rcases hf with hf | hf | hf
  · rw [if_neg (by omega), if_pos hf]
    cases q
    · exact takesTruth_end8 b S kd hf
    · exact takesTruth_stay8 b S kd hf
  · rw [if_neg (by omega), if_neg (by omega)]
    cases q
    · exact takesTruth_stay9 b S kd hf
    · exact takesTruth_end9 b S kd hf
  · rw [if_pos hf]
    cases q
    · exact takesTruth_stay10 b S kd hf
    · exact takesTruth_more b S kd hf hc0 hc1
/-- What a fold of truths does with an argument. -/
def AccS.feedT (S : AccS) (v : Vl) : AccS := if v.k = 0 then S else if (asTru v).e.k = 4 then S.ends (asTru v).e else S.says (asTru v).b
theorem truths_feed (b : Nat) (S : AccS) (kd : Value) (v : Vl) (hx : v.In) (hf : S.fn = 8 ∨ S.fn = 9 ∨ S.fn = 10) (hc0 : 0 ≤ S.count) (hc1 : S.count ≤ 9000000000000000000) :
    Turns 193 #[.agg #[], .pointer (some ⟨b, 0, none⟩), .agg #[.int .i64 (v).k, .int .i64 (v).n, .int .i64 (v).d, .string (v).t, .bool (v).b, .int .i64 (v).f]] b S (S.feedT v) kd := by
  unfold AccS.feedT
  by_cases h0 : v.k = 0
  · rw [if_pos h0]; exact truths_feed0 b S kd v hx h0
  · rw [if_neg h0]
    by_cases h4 : (asTru v).e.k = 4
    · rw [if_pos h4]; exact truths_feed4 b S kd v hx h0 h4
    · rw [if_neg h4]; exact truths_feed1 b S _ kd v hx h0 h4 (says_of b S kd _ hf hc0 hc1)
def AccS.cellT (S : AccS) (v : Vl) : AccS := if v.k = 2 then S else S.feedT v
theorem truths_cell (b : Nat) (S : AccS) (kd : Value) (v : Vl) (hx : v.In) (hf : S.fn = 8 ∨ S.fn = 9 ∨ S.fn = 10) (hc0 : 0 ≤ S.count) (hc1 : S.count ≤ 9000000000000000000) :
    Turns 192 #[.agg #[], .pointer (some ⟨b, 0, none⟩), .agg #[.int .i64 (v).k, .int .i64 (v).n, .int .i64 (v).d, .string (v).t, .bool (v).b, .int .i64 (v).f]] b S (S.cellT v) kd := by
  unfold AccS.cellT
  by_cases h0 : v.k = 2
  · rw [if_pos h0]; exact truths_cell2 b S kd v h0
  · rw [if_neg h0]; exact truths_cell1 b S _ kd v h0 (truths_feed b S kd v hx hf hc0 hc1)
set_option maxHeartbeats 1000000 in
theorem truths_result8 (b : Nat) (S : AccS) (kd : Value) (w : World) (hA : Blk w b (accArr S kd) 57) (hf : S.fn = 8) :
    Calls Tryz.prog 194 #[.agg #[], .pointer (some ⟨b, 0, none⟩)] w fun e w' => e = .returned (.agg #[.int .i64 (truthV true).k, .int .i64 (truthV true).n, .int .i64 (truthV true).d, .string (truthV true).t, .bool (truthV true).b, .int .i64 (truthV true).f]) ∧ Below w.heap.size w w' := by
  have hlt := hA.lt
  have hne : ¬ b = w.heap.size := by omega
  have hne' : ¬ w.heap.size = b := by omega
  have hne1 : ¬ b = w.heap.size + 1 := by omega
  have a0 : w.cell? ⟨b, 0, none⟩ = some (.int .i64 8) := (hA.cell 0).trans (by rw [← hf]; rfl)
  have HT := Lib.hid fun wx => value_Truth true wx
  generalize truthV true = Q at *
  clear hA hf
  go_enter Tryz.func194, Tryz.ntmps194
  go_wp2_with fail
  refine (HT.out _).mono ?_
  rintro e w1 ⟨rfl, hb⟩
  obtain ⟨s24, c24_0, c24_1, c24_2, c24_3, c24_4, c24_5, f24⟩ := L6 hb (w.heap.size + 1) (by first | omega | (simp only [sA, sC, sD, sE]; omega) | (simp; done) | (simp; omega)) (by go_simp; exact ⟨rfl, rfl, rfl, rfl, rfl, rfl⟩) (by intro o; go_simp)
  go_wp2
  refine bodyPost_ret (v := .agg #[.int .i64 (Q).k, .int .i64 (Q).n, .int .i64 (Q).d, .string (Q).t, .bool (Q).b, .int .i64 (Q).f]) (by simp [results, Tryz.results194, go_sem, c24_0, c24_1, c24_2, c24_3, c24_4, c24_5]) rfl ⟨rfl, ?_⟩
  focus
    repeat with_reducible first | exact Below.refl _ _ | refine below_drewN ?_ _ | refine Below.drew ?_ | refine Below.setCell ?_ ?_ _ | refine Below.alloc ?_ ?_ _ | refine below_then ?_ ?_ (by with_reducible assumption)
    all_goals first | omega | (simp only [sA, sC, sD, sE]; omega) | (simp; done) | (simp; omega)
set_option maxHeartbeats 1000000 in
theorem truths_result9 (b : Nat) (S : AccS) (kd : Value) (w : World) (hA : Blk w b (accArr S kd) 57) (hf : S.fn = 9) :
    Calls Tryz.prog 194 #[.agg #[], .pointer (some ⟨b, 0, none⟩)] w fun e w' => e = .returned (.agg #[.int .i64 (truthV false).k, .int .i64 (truthV false).n, .int .i64 (truthV false).d, .string (truthV false).t, .bool (truthV false).b, .int .i64 (truthV false).f]) ∧ Below w.heap.size w w' := by
  have hlt := hA.lt
  have hne : ¬ b = w.heap.size := by omega
  have hne' : ¬ w.heap.size = b := by omega
  have hne1 : ¬ b = w.heap.size + 1 := by omega
  have a0 : w.cell? ⟨b, 0, none⟩ = some (.int .i64 9) := (hA.cell 0).trans (by rw [← hf]; rfl)
  have HT := Lib.hid fun wx => value_Truth false wx
  generalize truthV false = Q at *
  clear hA hf
  go_enter Tryz.func194, Tryz.ntmps194
  go_wp2_with fail
  refine (HT.out _).mono ?_
  rintro e w1 ⟨rfl, hb⟩
  obtain ⟨s25, c25_0, c25_1, c25_2, c25_3, c25_4, c25_5, f25⟩ := L6 hb (w.heap.size + 1) (by first | omega | (simp only [sA, sC, sD, sE]; omega) | (simp; done) | (simp; omega)) (by go_simp; exact ⟨rfl, rfl, rfl, rfl, rfl, rfl⟩) (by intro o; go_simp)
  go_wp2
  refine bodyPost_ret (v := .agg #[.int .i64 (Q).k, .int .i64 (Q).n, .int .i64 (Q).d, .string (Q).t, .bool (Q).b, .int .i64 (Q).f]) (by simp [results, Tryz.results194, go_sem, c25_0, c25_1, c25_2, c25_3, c25_4, c25_5]) rfl ⟨rfl, ?_⟩
  focus
    repeat with_reducible first | exact Below.refl _ _ | refine below_drewN ?_ _ | refine Below.drew ?_ | refine Below.setCell ?_ ?_ _ | refine Below.alloc ?_ ?_ _ | refine below_then ?_ ?_ (by with_reducible assumption)
    all_goals first | omega | (simp only [sA, sC, sD, sE]; omega) | (simp; done) | (simp; omega)
set_option maxHeartbeats 1000000 in
theorem truths_result10 (b : Nat) (S : AccS) (kd : Value) (w : World) (hA : Blk w b (accArr S kd) 57) (hf : S.fn = 10) (hc0 : 0 ≤ S.count) (hc1 : S.count ≤ 9000000000000000000) :
    Calls Tryz.prog 194 #[.agg #[], .pointer (some ⟨b, 0, none⟩)] w fun e w' => e = .returned (.agg #[.int .i64 (truthV (S.count % 2 == 1)).k, .int .i64 (truthV (S.count % 2 == 1)).n, .int .i64 (truthV (S.count % 2 == 1)).d, .string (truthV (S.count % 2 == 1)).t, .bool (truthV (S.count % 2 == 1)).b, .int .i64 (truthV (S.count % 2 == 1)).f]) ∧ Below w.heap.size w w' := by
  have hlt := hA.lt
  have hne : ¬ b = w.heap.size := by omega
  have hne' : ¬ w.heap.size = b := by omega
  have a0 : w.cell? ⟨b, 0, none⟩ = some (.int .i64 10) := (hA.cell 0).trans (by rw [← hf]; rfl)
  have q1 : w.cell? ⟨b, 1, none⟩ = some (.int .i64 S.count) := hA.cell 1
  have HT := Lib.hid fun wx => value_Truth (S.count % 2 == 1) wx
  generalize truthV (S.count % 2 == 1) = Q at *
  clear hA hf
  go_enter Tryz.func194, Tryz.ntmps194
  go_wp2_with fail
  refine (HT.out _).mono ?_
  rintro e w1 ⟨rfl, hb⟩
  obtain ⟨s26, c26_0, c26_1, c26_2, c26_3, c26_4, c26_5, f26⟩ := L6 hb (w.heap.size + 1) (by first | omega | (simp only [sA, sC, sD, sE]; omega) | (simp; done) | (simp; omega)) (by go_simp; exact ⟨rfl, rfl, rfl, rfl, rfl, rfl⟩) (by intro o; go_simp)
  go_wp2
  refine bodyPost_ret (v := .agg #[.int .i64 (Q).k, .int .i64 (Q).n, .int .i64 (Q).d, .string (Q).t, .bool (Q).b, .int .i64 (Q).f]) (by simp [results, Tryz.results194, go_sem, c26_0, c26_1, c26_2, c26_3, c26_4, c26_5]) rfl ⟨rfl, ?_⟩
  focus
    repeat with_reducible first | exact Below.refl _ _ | refine below_drewN ?_ _ | refine Below.drew ?_ | refine Below.setCell ?_ ?_ _ | refine Below.alloc ?_ ?_ _ | refine below_then ?_ ?_ (by with_reducible assumption)
    all_goals first | omega | (simp only [sA, sC, sD, sE]; omega) | (simp; done) | (simp; omega)
end Go.Proofs.YtnimenpfojcehaaGreatDoor
