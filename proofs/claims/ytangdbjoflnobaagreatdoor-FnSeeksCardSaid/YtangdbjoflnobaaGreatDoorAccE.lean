/- Walks of package funcs: what the folds of numbers do with a cell, an argument; what they come to. -/
import Derived.Test.YtangdbjoflnobaaGreatDoorAccC
import Derived.Test.YtangdbjoflnobaaGreatDoorPart0
import Derived.Test.YtangdbjoflnobaaGreatDoorAppA
import Derived.Deep.QuietTactic
import Derived.BigQuiet
namespace Go.Proofs.YtangdbjoflnobaaGreatDoor
open Go.RowKit
set_option linter.unusedSimpArgs false
set_option linter.unusedVariables false

def kdN : Value := .iface 148 (.agg #[])
def AccS.ends (S : AccS) (v : Vl) : AccS := { S with full := true, v := v }

set_option maxHeartbeats 1000000 in
theorem numbers_cell1 (b : Nat) (S ST : AccS) (kd : Value) (v : Vl) (hk : v.k = 1) (HM : Turns 275 #[.pointer (some ⟨b, 0, none⟩), .agg #[.int .i64 (v).n, .int .i64 (v).d]] b S ST kd) :
    Turns 272 #[.agg #[], .pointer (some ⟨b, 0, none⟩), .agg #[.int .i64 (v).k, .int .i64 (v).n, .int .i64 (v).d, .string (v).t, .bool (v).b, .int .i64 (v).f]] b S ST kd := by
  constructor
  intro w hA
  have hlt := hA.lt
  have k1 : (v.k == 1) = true := by simp [hk]
  have HA := Lib.hid ((hA.alloc (.cells #[] 148)).alloc (.cells #[.int .i64 v.k, .int .i64 v.n, .int .i64 v.d, .string v.t, .bool v.b, .int .i64 v.f] 35))
  clear hk hA
  go_enter Tryz.func272, Tryz.ntmps272
  go_wp2_with fail
  refine (HM.out _ HA.out).mono ?_
  rintro e w1 ⟨rfl, A1, hb⟩
  have z1 := But.size hb
  try simp only [sz_alloc, sz_setCell, sz_drew, sz_drewN] at z1
  go_wp2
  go_end0
  refine ⟨rfl, A1, ?_⟩
  repeat (first | with_reducible exact But.refl _ _ _ | with_reducible refine But.drewN ?_ _ | with_reducible refine But.drew ?_ | with_reducible refine But.setCell ?_ _ _ | with_reducible refine But.setNew ?_ (by (first | omega | (simp only [sz_alloc, sz_setCell, sz_drew, sz_drewN]; omega) | (simp; done) | (simp; omega))) _ | with_reducible refine But.alloc ?_ (by (first | omega | (simp only [sz_alloc, sz_setCell, sz_drew, sz_drewN]; omega) | (simp; done) | (simp; omega))) _ | with_reducible refine But.thenBelow ?_ ?_ (by with_reducible assumption) | with_reducible refine But.then ?_ ?_ (by with_reducible assumption) | (first | omega | (simp only [sz_alloc, sz_setCell, sz_drew, sz_drewN]; omega) | (simp; done) | (simp; omega)))
set_option maxHeartbeats 1000000 in
theorem numbers_cell4 (b : Nat) (S : AccS) (kd : Value) (v : Vl) (hk : v.k = 4) :
    Turns 272 #[.agg #[], .pointer (some ⟨b, 0, none⟩), .agg #[.int .i64 (v).k, .int .i64 (v).n, .int .i64 (v).d, .string (v).t, .bool (v).b, .int .i64 (v).f]] b S (S.ends v) kd := by
  constructor
  intro w hA
  have hlt := hA.lt
  have k1 : (v.k == 1) = false := by simp [hk]
  have k4 : (v.k == 4) = true := by simp [hk]
  have HA := Lib.hid ((hA.alloc (.cells #[] 148)).alloc (.cells #[.int .i64 v.k, .int .i64 v.n, .int .i64 v.d, .string v.t, .bool v.b, .int .i64 v.f] 35))
  clear hk hA
  go_enter Tryz.func272, Tryz.ntmps272
  go_wp2_with fail
  refine (acc_end b S kd v _ HA.out).mono ?_
  rintro e w1 ⟨rfl, A1, hb⟩
  have z2 := But.size hb
  try simp only [sz_alloc, sz_setCell, sz_drew, sz_drewN] at z2
  go_wp2
  go_end0
  refine ⟨rfl, A1, ?_⟩
  repeat (first | with_reducible exact But.refl _ _ _ | with_reducible refine But.drewN ?_ _ | with_reducible refine But.drew ?_ | with_reducible refine But.setCell ?_ _ _ | with_reducible refine But.setNew ?_ (by (first | omega | (simp only [sz_alloc, sz_setCell, sz_drew, sz_drewN]; omega) | (simp; done) | (simp; omega))) _ | with_reducible refine But.alloc ?_ (by (first | omega | (simp only [sz_alloc, sz_setCell, sz_drew, sz_drewN]; omega) | (simp; done) | (simp; omega))) _ | with_reducible refine But.thenBelow ?_ ?_ (by with_reducible assumption) | with_reducible refine But.then ?_ ?_ (by with_reducible assumption) | (first | omega | (simp only [sz_alloc, sz_setCell, sz_drew, sz_drewN]; omega) | (simp; done) | (simp; omega)))
set_option maxHeartbeats 1000000 in
theorem numbers_cell0 (b : Nat) (S : AccS) (kd : Value) (v : Vl) (h1 : ¬ v.k = 1) (h4 : ¬ v.k = 4) :
    Turns 272 #[.agg #[], .pointer (some ⟨b, 0, none⟩), .agg #[.int .i64 (v).k, .int .i64 (v).n, .int .i64 (v).d, .string (v).t, .bool (v).b, .int .i64 (v).f]] b S S kd := by
  constructor
  intro w hA
  have hlt := hA.lt
  have k1 : (v.k == 1) = false := by simp [h1]
  have k4 : (v.k == 4) = false := by simp [h4]
  have HA := Lib.hid ((hA.alloc (.cells #[] 148)).alloc (.cells #[.int .i64 v.k, .int .i64 v.n, .int .i64 v.d, .string v.t, .bool v.b, .int .i64 v.f] 35))
  clear h1 h4 hA
  go_enter Tryz.func272, Tryz.ntmps272
  go_wp2
  go_end0
  refine ⟨rfl, HA.out, ?_⟩
  repeat (first | with_reducible exact But.refl _ _ _ | with_reducible refine But.drewN ?_ _ | with_reducible refine But.drew ?_ | with_reducible refine But.setCell ?_ _ _ | with_reducible refine But.setNew ?_ (by (first | omega | (simp only [sz_alloc, sz_setCell, sz_drew, sz_drewN]; omega) | (simp; done) | (simp; omega))) _ | with_reducible refine But.alloc ?_ (by (first | omega | (simp only [sz_alloc, sz_setCell, sz_drew, sz_drewN]; omega) | (simp; done) | (simp; omega))) _ | with_reducible refine But.thenBelow ?_ ?_ (by with_reducible assumption) | with_reducible refine But.then ?_ ?_ (by with_reducible assumption) | (first | omega | (simp only [sz_alloc, sz_setCell, sz_drew, sz_drewN]; omega) | (simp; done) | (simp; omega)))

set_option maxHeartbeats 1000000 in
theorem numbers_feed1 (b : Nat) (S ST : AccS) (kd : Value) (v : Vl) (hx : v.In) (h0 : ¬ v.k = 0) (hR : ¬ (asNum v).e.k = 4) (HM : Turns 275 #[.pointer (some ⟨b, 0, none⟩), .agg #[.int .i64 (asNum v).n, .int .i64 (asNum v).d]] b S ST kd) :
    Turns 273 #[.agg #[], .pointer (some ⟨b, 0, none⟩), .agg #[.int .i64 (v).k, .int .i64 (v).n, .int .i64 (v).d, .string (v).t, .bool (v).b, .int .i64 (v).f]] b S ST kd := by
  constructor
  intro w hA
  have hlt := hA.lt
  have k0 : (v.k == 0) = false := by simp [h0]
  have HN := Lib.hid fun wx => value_AsNumber v.k v.n v.d v.t v.b v.f wx hx
  have eR : asNum ⟨v.k, v.n, v.d, v.t, v.b, v.f⟩ = asNum v := rfl
  rw [eR] at HN
  clear eR
  generalize asNum v = R at *
  have r4 : (R.e.k == 4) = false := by simp [hR]
  have HA := Lib.hid ((hA.alloc (.cells #[] 148)).alloc (.cells #[.int .i64 v.k, .int .i64 v.n, .int .i64 v.d, .string v.t, .bool v.b, .int .i64 v.f] 35))
  clear h0 hR hA
  go_enter Tryz.func273, Tryz.ntmps273
  go_wp2_with fail
  refine (HN.out _).mono ?_
  rintro e w1' ⟨rfl, hb⟩
  have A1 := Lib.hid (HA.out.below hb)
  have s3 := lcs hb (w.heap.size + 1) (by (first | omega | (simp only [sz_alloc, sz_setCell, sz_drew, sz_drewN]; omega) | (simp; done) | (simp; omega)))
  have c3_0 := (lcc hb (w.heap.size + 1) (by (first | omega | (simp only [sz_alloc, sz_setCell, sz_drew, sz_drewN]; omega) | (simp; done) | (simp; omega))) 0).trans (by go_simp; exact rfl)
  have c3_1 := (lcc hb (w.heap.size + 1) (by (first | omega | (simp only [sz_alloc, sz_setCell, sz_drew, sz_drewN]; omega) | (simp; done) | (simp; omega))) 1).trans (by go_simp; exact rfl)
  have c3_2 := (lcc hb (w.heap.size + 1) (by (first | omega | (simp only [sz_alloc, sz_setCell, sz_drew, sz_drewN]; omega) | (simp; done) | (simp; omega))) 2).trans (by go_simp; exact rfl)
  have c3_3 := (lcc hb (w.heap.size + 1) (by (first | omega | (simp only [sz_alloc, sz_setCell, sz_drew, sz_drewN]; omega) | (simp; done) | (simp; omega))) 3).trans (by go_simp; exact rfl)
  have c3_4 := (lcc hb (w.heap.size + 1) (by (first | omega | (simp only [sz_alloc, sz_setCell, sz_drew, sz_drewN]; omega) | (simp; done) | (simp; omega))) 4).trans (by go_simp; exact rfl)
  have c3_5 := (lcc hb (w.heap.size + 1) (by (first | omega | (simp only [sz_alloc, sz_setCell, sz_drew, sz_drewN]; omega) | (simp; done) | (simp; omega))) 5).trans (by go_simp; exact rfl)
  have f3 := lcff hb (w.heap.size + 1) (by (first | omega | (simp only [sz_alloc, sz_setCell, sz_drew, sz_drewN]; omega) | (simp; done) | (simp; omega))) (by intro o; go_simp)
  have z4 := Below.size hb
  try simp only [sz_alloc, sz_setCell, sz_drew, sz_drewN] at z4
  have hlt1 := A1.out.lt
  have q1 : ¬ w.heap.size + 1 = w1'.heap.size := by have := Below.size hb; simp only [sz_alloc] at this; omega
  have q2 : ¬ w.heap.size = w1'.heap.size := by have := Below.size hb; simp only [sz_alloc] at this; omega
  have q3 : ¬ w1'.heap.size = w.heap.size + 1 := fun h => q1 h.symm
  have q4 : ¬ w1'.heap.size = w.heap.size := fun h => q2 h.symm
  have q5 : w.heap.size < w1'.heap.size := by have := Below.size hb; simp only [sz_alloc] at this; omega
  go_wp2_with fail
  refine (HM.out _ ((A1.out.alloc _).alloc _)).mono ?_
  rintro e w2 ⟨rfl, A2, hb2⟩
  have z5 := But.size hb2
  try simp only [sz_alloc, sz_setCell, sz_drew, sz_drewN] at z5
  go_wp2
  go_end0
  refine ⟨rfl, A2, ?_⟩
  repeat (first | with_reducible exact But.refl _ _ _ | with_reducible refine But.drewN ?_ _ | with_reducible refine But.drew ?_ | with_reducible refine But.setCell ?_ _ _ | with_reducible refine But.setNew ?_ (by (first | omega | (simp only [sz_alloc, sz_setCell, sz_drew, sz_drewN]; omega) | (simp; done) | (simp; omega))) _ | with_reducible refine But.alloc ?_ (by (first | omega | (simp only [sz_alloc, sz_setCell, sz_drew, sz_drewN]; omega) | (simp; done) | (simp; omega))) _ | with_reducible refine But.thenBelow ?_ ?_ (by with_reducible assumption) | with_reducible refine But.then ?_ ?_ (by with_reducible assumption) | (first | omega | (simp only [sz_alloc, sz_setCell, sz_drew, sz_drewN]; omega) | (simp; done) | (simp; omega)))

set_option maxHeartbeats 1000000 in
theorem fold_result1 (b : Nat) (S : AccS) (kd : Value) (w : World) (hA : Blk w b (accArr S kd) 104) (hf : S.fn = 1) (h1 : I64 S.n) (h2 : I64 S.d) :
    Calls Tryz.prog 271 #[.agg #[], .pointer (some ⟨b, 0, none⟩)] w fun e w' => e = .returned (.agg #[.int .i64 (numF S.n S.d).k, .int .i64 (numF S.n S.d).n, .int .i64 (numF S.n S.d).d, .string (numF S.n S.d).t, .bool (numF S.n S.d).b, .int .i64 (numF S.n S.d).f]) ∧ Below w.heap.size w w' := by
  have hlt := hA.lt
  have hne : ¬ b = w.heap.size := by omega
  have hne' : ¬ w.heap.size = b := by omega
  have a6 : w.cell? ⟨b, 0, none⟩ = some (.int .i64 S.fn) := hA.cell 0
  have a7 : w.cell? ⟨b, 2, none⟩ = some (.int .i64 S.n) := hA.cell 2
  have a8 : w.cell? ⟨b, 3, none⟩ = some (.int .i64 S.d) := hA.cell 3
  simp only [hf] at *
  have HN := Lib.hid fun wx => value_Number S.n S.d wx h1 h2
  clear h1 h2 hf
  go_enter Tryz.func271, Tryz.ntmps271
  go_wp2_with fail
  refine (HN.out _).mono ?_
  rintro e w1 ⟨rfl, hb⟩
  have s9 := lcs hb (w.heap.size + 1) (by (first | omega | (simp only [sz_alloc, sz_setCell, sz_drew, sz_drewN]; omega) | (simp; done) | (simp; omega)))
  have c9_0 := (lcc hb (w.heap.size + 1) (by (first | omega | (simp only [sz_alloc, sz_setCell, sz_drew, sz_drewN]; omega) | (simp; done) | (simp; omega))) 0).trans (by go_simp; exact rfl)
  have c9_1 := (lcc hb (w.heap.size + 1) (by (first | omega | (simp only [sz_alloc, sz_setCell, sz_drew, sz_drewN]; omega) | (simp; done) | (simp; omega))) 1).trans (by go_simp; exact rfl)
  have c9_2 := (lcc hb (w.heap.size + 1) (by (first | omega | (simp only [sz_alloc, sz_setCell, sz_drew, sz_drewN]; omega) | (simp; done) | (simp; omega))) 2).trans (by go_simp; exact rfl)
  have c9_3 := (lcc hb (w.heap.size + 1) (by (first | omega | (simp only [sz_alloc, sz_setCell, sz_drew, sz_drewN]; omega) | (simp; done) | (simp; omega))) 3).trans (by go_simp; exact rfl)
  have c9_4 := (lcc hb (w.heap.size + 1) (by (first | omega | (simp only [sz_alloc, sz_setCell, sz_drew, sz_drewN]; omega) | (simp; done) | (simp; omega))) 4).trans (by go_simp; exact rfl)
  have c9_5 := (lcc hb (w.heap.size + 1) (by (first | omega | (simp only [sz_alloc, sz_setCell, sz_drew, sz_drewN]; omega) | (simp; done) | (simp; omega))) 5).trans (by go_simp; exact rfl)
  have f9 := lcff hb (w.heap.size + 1) (by (first | omega | (simp only [sz_alloc, sz_setCell, sz_drew, sz_drewN]; omega) | (simp; done) | (simp; omega))) (by intro o; go_simp)
  go_wp2
  refine bodyPost_ret (v := .agg #[.int .i64 (numF S.n S.d).k, .int .i64 (numF S.n S.d).n, .int .i64 (numF S.n S.d).d, .string (numF S.n S.d).t, .bool (numF S.n S.d).b, .int .i64 (numF S.n S.d).f]) (by simp [results, Tryz.results271, go_sem, c9_0, c9_1, c9_2, c9_3, c9_4, c9_5]) rfl ⟨rfl, ?_⟩
  repeat (first | with_reducible exact Below.refl _ _ | with_reducible refine below_drewN ?_ _ | with_reducible refine Below.drew ?_ | with_reducible refine Below.setCell ?_ (by (first | omega | (simp only [sz_alloc, sz_setCell, sz_drew, sz_drewN]; omega) | (simp; done) | (simp; omega))) _ | with_reducible refine Below.alloc ?_ (by (first | omega | (simp only [sz_alloc, sz_setCell, sz_drew, sz_drewN]; omega) | (simp; done) | (simp; omega))) _ | with_reducible refine below_then ?_ ?_ (by with_reducible assumption) | (first | omega | (simp only [sz_alloc, sz_setCell, sz_drew, sz_drewN]; omega) | (simp; done) | (simp; omega)))
set_option maxHeartbeats 1000000 in
theorem numbers_result1 (b : Nat) (S : AccS) (kd : Value) (w : World) (hA : Blk w b (accArr S kd) 104) (hf : S.fn = 1) (h1 : I64 S.n) (h2 : I64 S.d) :
    Calls Tryz.prog 274 #[.agg #[], .pointer (some ⟨b, 0, none⟩)] w fun e w' => e = .returned (.agg #[.int .i64 (numF S.n S.d).k, .int .i64 (numF S.n S.d).n, .int .i64 (numF S.n S.d).d, .string (numF S.n S.d).t, .bool (numF S.n S.d).b, .int .i64 (numF S.n S.d).f]) ∧ Below w.heap.size w w' := by
  have hlt := hA.lt
  have hne : ¬ b = w.heap.size := by omega
  have hne' : ¬ w.heap.size = b := by omega
  have HR := Lib.hid fun (wx : World) (hx : Blk wx b (accArr S kd) 104) => fold_result1 b S kd wx hx hf h1 h2
  have HA := Lib.hid ((hA.alloc (.cells #[] 148)).alloc (.cells #[.int .i64 0, .int .i64 0, .int .i64 0, .string ⟨#[]⟩, .bool false, .int .i64 0] 35))
  have hp := run_part0 (w := (w.alloc (.cells #[] 148)).alloc (.cells #[.int .i64 0, .int .i64 0, .int .i64 0, .string ⟨#[]⟩, .bool false, .int .i64 0] 35)) (k := w.heap.size) (by rw [heap_alloc_old _ _ (by simp)]; exact heap_alloc_new _ _)
  have a10 : w.cell? ⟨b, 0, none⟩ = some (.int .i64 S.fn) := hA.cell 0
  simp only [hf] at *
  clear h1 h2 hf hA
  go_enter Tryz.func274, Tryz.ntmps274
  go_wp2_with fail
  refine (HR.out _ HA.out).mono ?_
  rintro e w1 ⟨rfl, hb⟩
  have s11 := lcs hb (w.heap.size + 1) (by (first | omega | (simp only [sz_alloc, sz_setCell, sz_drew, sz_drewN]; omega) | (simp; done) | (simp; omega)))
  have c11_0 := (lcc hb (w.heap.size + 1) (by (first | omega | (simp only [sz_alloc, sz_setCell, sz_drew, sz_drewN]; omega) | (simp; done) | (simp; omega))) 0).trans (by go_simp; exact rfl)
  have c11_1 := (lcc hb (w.heap.size + 1) (by (first | omega | (simp only [sz_alloc, sz_setCell, sz_drew, sz_drewN]; omega) | (simp; done) | (simp; omega))) 1).trans (by go_simp; exact rfl)
  have c11_2 := (lcc hb (w.heap.size + 1) (by (first | omega | (simp only [sz_alloc, sz_setCell, sz_drew, sz_drewN]; omega) | (simp; done) | (simp; omega))) 2).trans (by go_simp; exact rfl)
  have c11_3 := (lcc hb (w.heap.size + 1) (by (first | omega | (simp only [sz_alloc, sz_setCell, sz_drew, sz_drewN]; omega) | (simp; done) | (simp; omega))) 3).trans (by go_simp; exact rfl)
  have c11_4 := (lcc hb (w.heap.size + 1) (by (first | omega | (simp only [sz_alloc, sz_setCell, sz_drew, sz_drewN]; omega) | (simp; done) | (simp; omega))) 4).trans (by go_simp; exact rfl)
  have c11_5 := (lcc hb (w.heap.size + 1) (by (first | omega | (simp only [sz_alloc, sz_setCell, sz_drew, sz_drewN]; omega) | (simp; done) | (simp; omega))) 5).trans (by go_simp; exact rfl)
  have f11 := lcff hb (w.heap.size + 1) (by (first | omega | (simp only [sz_alloc, sz_setCell, sz_drew, sz_drewN]; omega) | (simp; done) | (simp; omega))) (by intro o; go_simp)
  go_wp2
  refine bodyPost_ret (v := .agg #[.int .i64 (numF S.n S.d).k, .int .i64 (numF S.n S.d).n, .int .i64 (numF S.n S.d).d, .string (numF S.n S.d).t, .bool (numF S.n S.d).b, .int .i64 (numF S.n S.d).f]) (by simp [results, Tryz.results274, go_sem, c11_0, c11_1, c11_2, c11_3, c11_4, c11_5]) rfl ⟨rfl, ?_⟩
  repeat (first | with_reducible exact Below.refl _ _ | with_reducible refine below_drewN ?_ _ | with_reducible refine Below.drew ?_ | with_reducible refine Below.setCell ?_ (by (first | omega | (simp only [sz_alloc, sz_setCell, sz_drew, sz_drewN]; omega) | (simp; done) | (simp; omega))) _ | with_reducible refine Below.alloc ?_ (by (first | omega | (simp only [sz_alloc, sz_setCell, sz_drew, sz_drewN]; omega) | (simp; done) | (simp; omega))) _ | with_reducible refine below_then ?_ ?_ (by with_reducible assumption) | (first | omega | (simp only [sz_alloc, sz_setCell, sz_drew, sz_drewN]; omega) | (simp; done) | (simp; omega)))
set_option maxHeartbeats 1000000 in
theorem acc_Result1 (b : Nat) (S : AccS) (w : World) (hA : Blk w b (accArr S kdN) 104) (hu : S.full = false) (hf : S.fn = 1) (h1 : I64 S.n) (h2 : I64 S.d) :
    Calls Tryz.prog 28 #[.pointer (some ⟨b, 0, none⟩)] w fun e w' => e = .returned (.agg #[.int .i64 (numF S.n S.d).k, .int .i64 (numF S.n S.d).n, .int .i64 (numF S.n S.d).d, .string (numF S.n S.d).t, .bool (numF S.n S.d).b, .int .i64 (numF S.n S.d).f]) ∧ Below w.heap.size w w' := by
  have hlt := hA.lt
  have hne : ¬ b = w.heap.size := by omega
  have hne' : ¬ w.heap.size = b := by omega
  have HR := Lib.hid fun (wx : World) (hx : Blk wx b (accArr S kdN) 104) => numbers_result1 b S kdN wx hx hf h1 h2
  have HA := Lib.hid (hA.alloc (.cells #[.int .i64 0, .int .i64 0, .int .i64 0, .string ⟨#[]⟩, .bool false, .int .i64 0] 35))
  have a17 : w.cell? ⟨b, 17, none⟩ = some (.bool false) := (hA.cell 17).trans (by rw [← hu]; rfl)
  have a21 : w.cell? ⟨b, 21, none⟩ = some (.iface 148 (.agg #[])) := hA.cell 21
  clear h1 h2 hf hA hu
  go_enter Tryz.func28, Tryz.ntmps28
  go_wp2_with fail
  refine (HR.out _ HA.out).mono ?_
  rintro e w1 ⟨rfl, hb⟩
  have s12 := lcs hb (w.heap.size) (by (first | omega | (simp only [sz_alloc, sz_setCell, sz_drew, sz_drewN]; omega) | (simp; done) | (simp; omega)))
  have c12_0 := (lcc hb (w.heap.size) (by (first | omega | (simp only [sz_alloc, sz_setCell, sz_drew, sz_drewN]; omega) | (simp; done) | (simp; omega))) 0).trans (by go_simp; exact rfl)
  have c12_1 := (lcc hb (w.heap.size) (by (first | omega | (simp only [sz_alloc, sz_setCell, sz_drew, sz_drewN]; omega) | (simp; done) | (simp; omega))) 1).trans (by go_simp; exact rfl)
  have c12_2 := (lcc hb (w.heap.size) (by (first | omega | (simp only [sz_alloc, sz_setCell, sz_drew, sz_drewN]; omega) | (simp; done) | (simp; omega))) 2).trans (by go_simp; exact rfl)
  have c12_3 := (lcc hb (w.heap.size) (by (first | omega | (simp only [sz_alloc, sz_setCell, sz_drew, sz_drewN]; omega) | (simp; done) | (simp; omega))) 3).trans (by go_simp; exact rfl)
  have c12_4 := (lcc hb (w.heap.size) (by (first | omega | (simp only [sz_alloc, sz_setCell, sz_drew, sz_drewN]; omega) | (simp; done) | (simp; omega))) 4).trans (by go_simp; exact rfl)
  have c12_5 := (lcc hb (w.heap.size) (by (first | omega | (simp only [sz_alloc, sz_setCell, sz_drew, sz_drewN]; omega) | (simp; done) | (simp; omega))) 5).trans (by go_simp; exact rfl)
  have f12 := lcff hb (w.heap.size) (by (first | omega | (simp only [sz_alloc, sz_setCell, sz_drew, sz_drewN]; omega) | (simp; done) | (simp; omega))) (by intro o; go_simp)
  go_wp2
  refine bodyPost_ret (v := .agg #[.int .i64 (numF S.n S.d).k, .int .i64 (numF S.n S.d).n, .int .i64 (numF S.n S.d).d, .string (numF S.n S.d).t, .bool (numF S.n S.d).b, .int .i64 (numF S.n S.d).f]) (by simp [results, Tryz.results28, go_sem, c12_0, c12_1, c12_2, c12_3, c12_4, c12_5]) rfl ⟨rfl, ?_⟩
  repeat (first | with_reducible exact Below.refl _ _ | with_reducible refine below_drewN ?_ _ | with_reducible refine Below.drew ?_ | with_reducible refine Below.setCell ?_ (by (first | omega | (simp only [sz_alloc, sz_setCell, sz_drew, sz_drewN]; omega) | (simp; done) | (simp; omega))) _ | with_reducible refine Below.alloc ?_ (by (first | omega | (simp only [sz_alloc, sz_setCell, sz_drew, sz_drewN]; omega) | (simp; done) | (simp; omega))) _ | with_reducible refine below_then ?_ ?_ (by with_reducible assumption) | (first | omega | (simp only [sz_alloc, sz_setCell, sz_drew, sz_drewN]; omega) | (simp; done) | (simp; omega)))
set_option maxHeartbeats 1000000 in
theorem fold_result2 (b : Nat) (S : AccS) (kd : Value) (w : World) (hA : Blk w b (accArr S kd) 104) (hf : S.fn = 2) (h1 : I64 S.n) (h2 : I64 S.d) :
    Calls Tryz.prog 271 #[.agg #[], .pointer (some ⟨b, 0, none⟩)] w fun e w' => e = .returned (.agg #[.int .i64 (numF S.n S.d).k, .int .i64 (numF S.n S.d).n, .int .i64 (numF S.n S.d).d, .string (numF S.n S.d).t, .bool (numF S.n S.d).b, .int .i64 (numF S.n S.d).f]) ∧ Below w.heap.size w w' := by
  have hlt := hA.lt
  have hne : ¬ b = w.heap.size := by omega
  have hne' : ¬ w.heap.size = b := by omega
  have a13 : w.cell? ⟨b, 0, none⟩ = some (.int .i64 S.fn) := hA.cell 0
  have a14 : w.cell? ⟨b, 2, none⟩ = some (.int .i64 S.n) := hA.cell 2
  have a15 : w.cell? ⟨b, 3, none⟩ = some (.int .i64 S.d) := hA.cell 3
  simp only [hf] at *
  have HN := Lib.hid fun wx => value_Number S.n S.d wx h1 h2
  clear h1 h2 hf
  go_enter Tryz.func271, Tryz.ntmps271
  go_wp2_with fail
  refine (HN.out _).mono ?_
  rintro e w1 ⟨rfl, hb⟩
  have s16 := lcs hb (w.heap.size + 1) (by (first | omega | (simp only [sz_alloc, sz_setCell, sz_drew, sz_drewN]; omega) | (simp; done) | (simp; omega)))
  have c16_0 := (lcc hb (w.heap.size + 1) (by (first | omega | (simp only [sz_alloc, sz_setCell, sz_drew, sz_drewN]; omega) | (simp; done) | (simp; omega))) 0).trans (by go_simp; exact rfl)
  have c16_1 := (lcc hb (w.heap.size + 1) (by (first | omega | (simp only [sz_alloc, sz_setCell, sz_drew, sz_drewN]; omega) | (simp; done) | (simp; omega))) 1).trans (by go_simp; exact rfl)
  have c16_2 := (lcc hb (w.heap.size + 1) (by (first | omega | (simp only [sz_alloc, sz_setCell, sz_drew, sz_drewN]; omega) | (simp; done) | (simp; omega))) 2).trans (by go_simp; exact rfl)
  have c16_3 := (lcc hb (w.heap.size + 1) (by (first | omega | (simp only [sz_alloc, sz_setCell, sz_drew, sz_drewN]; omega) | (simp; done) | (simp; omega))) 3).trans (by go_simp; exact rfl)
  have c16_4 := (lcc hb (w.heap.size + 1) (by (first | omega | (simp only [sz_alloc, sz_setCell, sz_drew, sz_drewN]; omega) | (simp; done) | (simp; omega))) 4).trans (by go_simp; exact rfl)
  have c16_5 := (lcc hb (w.heap.size + 1) (by (first | omega | (simp only [sz_alloc, sz_setCell, sz_drew, sz_drewN]; omega) | (simp; done) | (simp; omega))) 5).trans (by go_simp; exact rfl)
  have f16 := lcff hb (w.heap.size + 1) (by (first | omega | (simp only [sz_alloc, sz_setCell, sz_drew, sz_drewN]; omega) | (simp; done) | (simp; omega))) (by intro o; go_simp)
  go_wp2
  refine bodyPost_ret (v := .agg #[.int .i64 (numF S.n S.d).k, .int .i64 (numF S.n S.d).n, .int .i64 (numF S.n S.d).d, .string (numF S.n S.d).t, .bool (numF S.n S.d).b, .int .i64 (numF S.n S.d).f]) (by simp [results, Tryz.results271, go_sem, c16_0, c16_1, c16_2, c16_3, c16_4, c16_5]) rfl ⟨rfl, ?_⟩
  repeat (first | with_reducible exact Below.refl _ _ | with_reducible refine below_drewN ?_ _ | with_reducible refine Below.drew ?_ | with_reducible refine Below.setCell ?_ (by (first | omega | (simp only [sz_alloc, sz_setCell, sz_drew, sz_drewN]; omega) | (simp; done) | (simp; omega))) _ | with_reducible refine Below.alloc ?_ (by (first | omega | (simp only [sz_alloc, sz_setCell, sz_drew, sz_drewN]; omega) | (simp; done) | (simp; omega))) _ | with_reducible refine below_then ?_ ?_ (by with_reducible assumption) | (first | omega | (simp only [sz_alloc, sz_setCell, sz_drew, sz_drewN]; omega) | (simp; done) | (simp; omega)))
set_option maxHeartbeats 1000000 in
theorem numbers_result2 (b : Nat) (S : AccS) (kd : Value) (w : World) (hA : Blk w b (accArr S kd) 104) (hf : S.fn = 2) (h1 : I64 S.n) (h2 : I64 S.d) :
    Calls Tryz.prog 274 #[.agg #[], .pointer (some ⟨b, 0, none⟩)] w fun e w' => e = .returned (.agg #[.int .i64 (numF S.n S.d).k, .int .i64 (numF S.n S.d).n, .int .i64 (numF S.n S.d).d, .string (numF S.n S.d).t, .bool (numF S.n S.d).b, .int .i64 (numF S.n S.d).f]) ∧ Below w.heap.size w w' := by
  have hlt := hA.lt
  have hne : ¬ b = w.heap.size := by omega
  have hne' : ¬ w.heap.size = b := by omega
  have HR := Lib.hid fun (wx : World) (hx : Blk wx b (accArr S kd) 104) => fold_result2 b S kd wx hx hf h1 h2
  have HA := Lib.hid ((hA.alloc (.cells #[] 148)).alloc (.cells #[.int .i64 0, .int .i64 0, .int .i64 0, .string ⟨#[]⟩, .bool false, .int .i64 0] 35))
  have hp := run_part0 (w := (w.alloc (.cells #[] 148)).alloc (.cells #[.int .i64 0, .int .i64 0, .int .i64 0, .string ⟨#[]⟩, .bool false, .int .i64 0] 35)) (k := w.heap.size) (by rw [heap_alloc_old _ _ (by simp)]; exact heap_alloc_new _ _)
  have a17 : w.cell? ⟨b, 0, none⟩ = some (.int .i64 S.fn) := hA.cell 0
  simp only [hf] at *
  clear h1 h2 hf hA
  go_enter Tryz.func274, Tryz.ntmps274
  go_wp2_with fail
  refine (HR.out _ HA.out).mono ?_
  rintro e w1 ⟨rfl, hb⟩
  have s18 := lcs hb (w.heap.size + 1) (by (first | omega | (simp only [sz_alloc, sz_setCell, sz_drew, sz_drewN]; omega) | (simp; done) | (simp; omega)))
  have c18_0 := (lcc hb (w.heap.size + 1) (by (first | omega | (simp only [sz_alloc, sz_setCell, sz_drew, sz_drewN]; omega) | (simp; done) | (simp; omega))) 0).trans (by go_simp; exact rfl)
  have c18_1 := (lcc hb (w.heap.size + 1) (by (first | omega | (simp only [sz_alloc, sz_setCell, sz_drew, sz_drewN]; omega) | (simp; done) | (simp; omega))) 1).trans (by go_simp; exact rfl)
  have c18_2 := (lcc hb (w.heap.size + 1) (by (first | omega | (simp only [sz_alloc, sz_setCell, sz_drew, sz_drewN]; omega) | (simp; done) | (simp; omega))) 2).trans (by go_simp; exact rfl)
  have c18_3 := (lcc hb (w.heap.size + 1) (by (first | omega | (simp only [sz_alloc, sz_setCell, sz_drew, sz_drewN]; omega) | (simp; done) | (simp; omega))) 3).trans (by go_simp; exact rfl)
  have c18_4 := (lcc hb (w.heap.size + 1) (by (first | omega | (simp only [sz_alloc, sz_setCell, sz_drew, sz_drewN]; omega) | (simp; done) | (simp; omega))) 4).trans (by go_simp; exact rfl)
  have c18_5 := (lcc hb (w.heap.size + 1) (by (first | omega | (simp only [sz_alloc, sz_setCell, sz_drew, sz_drewN]; omega) | (simp; done) | (simp; omega))) 5).trans (by go_simp; exact rfl)
  have f18 := lcff hb (w.heap.size + 1) (by (first | omega | (simp only [sz_alloc, sz_setCell, sz_drew, sz_drewN]; omega) | (simp; done) | (simp; omega))) (by intro o; go_simp)
  go_wp2
  refine bodyPost_ret (v := .agg #[.int .i64 (numF S.n S.d).k, .int .i64 (numF S.n S.d).n, .int .i64 (numF S.n S.d).d, .string (numF S.n S.d).t, .bool (numF S.n S.d).b, .int .i64 (numF S.n S.d).f]) (by simp [results, Tryz.results274, go_sem, c18_0, c18_1, c18_2, c18_3, c18_4, c18_5]) rfl ⟨rfl, ?_⟩
  repeat (first | with_reducible exact Below.refl _ _ | with_reducible refine below_drewN ?_ _ | with_reducible refine Below.drew ?_ | with_reducible refine Below.setCell ?_ (by (first | omega | (simp only [sz_alloc, sz_setCell, sz_drew, sz_drewN]; omega) | (simp; done) | (simp; omega))) _ | with_reducible refine Below.alloc ?_ (by (first | omega | (simp only [sz_alloc, sz_setCell, sz_drew, sz_drewN]; omega) | (simp; done) | (simp; omega))) _ | with_reducible refine below_then ?_ ?_ (by with_reducible assumption) | (first | omega | (simp only [sz_alloc, sz_setCell, sz_drew, sz_drewN]; omega) | (simp; done) | (simp; omega)))
set_option maxHeartbeats 1000000 in
theorem acc_Result2 (b : Nat) (S : AccS) (w : World) (hA : Blk w b (accArr S kdN) 104) (hu : S.full = false) (hf : S.fn = 2) (h1 : I64 S.n) (h2 : I64 S.d) :
    Calls Tryz.prog 28 #[.pointer (some ⟨b, 0, none⟩)] w fun e w' => e = .returned (.agg #[.int .i64 (numF S.n S.d).k, .int .i64 (numF S.n S.d).n, .int .i64 (numF S.n S.d).d, .string (numF S.n S.d).t, .bool (numF S.n S.d).b, .int .i64 (numF S.n S.d).f]) ∧ Below w.heap.size w w' := by
  have hlt := hA.lt
  have hne : ¬ b = w.heap.size := by omega
  have hne' : ¬ w.heap.size = b := by omega
  have HR := Lib.hid fun (wx : World) (hx : Blk wx b (accArr S kdN) 104) => numbers_result2 b S kdN wx hx hf h1 h2
  have HA := Lib.hid (hA.alloc (.cells #[.int .i64 0, .int .i64 0, .int .i64 0, .string ⟨#[]⟩, .bool false, .int .i64 0] 35))
  have a17 : w.cell? ⟨b, 17, none⟩ = some (.bool false) := (hA.cell 17).trans (by rw [← hu]; rfl)
  have a21 : w.cell? ⟨b, 21, none⟩ = some (.iface 148 (.agg #[])) := hA.cell 21
  clear h1 h2 hf hA hu
  go_enter Tryz.func28, Tryz.ntmps28
  go_wp2_with fail
  refine (HR.out _ HA.out).mono ?_
  rintro e w1 ⟨rfl, hb⟩
  have s19 := lcs hb (w.heap.size) (by (first | omega | (simp only [sz_alloc, sz_setCell, sz_drew, sz_drewN]; omega) | (simp; done) | (simp; omega)))
  have c19_0 := (lcc hb (w.heap.size) (by (first | omega | (simp only [sz_alloc, sz_setCell, sz_drew, sz_drewN]; omega) | (simp; done) | (simp; omega))) 0).trans (by go_simp; exact rfl)
  have c19_1 := (lcc hb (w.heap.size) (by (first | omega | (simp only [sz_alloc, sz_setCell, sz_drew, sz_drewN]; omega) | (simp; done) | (simp; omega))) 1).trans (by go_simp; exact rfl)
  have c19_2 := (lcc hb (w.heap.size) (by (first | omega | (simp only [sz_alloc, sz_setCell, sz_drew, sz_drewN]; omega) | (simp; done) | (simp; omega))) 2).trans (by go_simp; exact rfl)
  have c19_3 := (lcc hb (w.heap.size) (by (first | omega | (simp only [sz_alloc, sz_setCell, sz_drew, sz_drewN]; omega) | (simp; done) | (simp; omega))) 3).trans (by go_simp; exact rfl)
  have c19_4 := (lcc hb (w.heap.size) (by (first | omega | (simp only [sz_alloc, sz_setCell, sz_drew, sz_drewN]; omega) | (simp; done) | (simp; omega))) 4).trans (by go_simp; exact rfl)
  have c19_5 := (lcc hb (w.heap.size) (by (first | omega | (simp only [sz_alloc, sz_setCell, sz_drew, sz_drewN]; omega) | (simp; done) | (simp; omega))) 5).trans (by go_simp; exact rfl)
  have f19 := lcff hb (w.heap.size) (by (first | omega | (simp only [sz_alloc, sz_setCell, sz_drew, sz_drewN]; omega) | (simp; done) | (simp; omega))) (by intro o; go_simp)
  go_wp2
  refine bodyPost_ret (v := .agg #[.int .i64 (numF S.n S.d).k, .int .i64 (numF S.n S.d).n, .int .i64 (numF S.n S.d).d, .string (numF S.n S.d).t, .bool (numF S.n S.d).b, .int .i64 (numF S.n S.d).f]) (by simp [results, Tryz.results28, go_sem, c19_0, c19_1, c19_2, c19_3, c19_4, c19_5]) rfl ⟨rfl, ?_⟩
  repeat (first | with_reducible exact Below.refl _ _ | with_reducible refine below_drewN ?_ _ | with_reducible refine Below.drew ?_ | with_reducible refine Below.setCell ?_ (by (first | omega | (simp only [sz_alloc, sz_setCell, sz_drew, sz_drewN]; omega) | (simp; done) | (simp; omega))) _ | with_reducible refine Below.alloc ?_ (by (first | omega | (simp only [sz_alloc, sz_setCell, sz_drew, sz_drewN]; omega) | (simp; done) | (simp; omega))) _ | with_reducible refine below_then ?_ ?_ (by with_reducible assumption) | (first | omega | (simp only [sz_alloc, sz_setCell, sz_drew, sz_drewN]; omega) | (simp; done) | (simp; omega)))
set_option maxHeartbeats 1000000 in
theorem fold_result5 (b : Nat) (S : AccS) (kd : Value) (w : World) (hA : Blk w b (accArr S kd) 104) (hf : S.fn = 5) (h1 : I64 S.n) (h2 : I64 S.d) :
    Calls Tryz.prog 271 #[.agg #[], .pointer (some ⟨b, 0, none⟩)] w fun e w' => e = .returned (.agg #[.int .i64 (numF S.n S.d).k, .int .i64 (numF S.n S.d).n, .int .i64 (numF S.n S.d).d, .string (numF S.n S.d).t, .bool (numF S.n S.d).b, .int .i64 (numF S.n S.d).f]) ∧ Below w.heap.size w w' := by
  have hlt := hA.lt
  have hne : ¬ b = w.heap.size := by omega
  have hne' : ¬ w.heap.size = b := by omega
  have a20 : w.cell? ⟨b, 0, none⟩ = some (.int .i64 S.fn) := hA.cell 0
  have a21 : w.cell? ⟨b, 2, none⟩ = some (.int .i64 S.n) := hA.cell 2
  have a22 : w.cell? ⟨b, 3, none⟩ = some (.int .i64 S.d) := hA.cell 3
  simp only [hf] at *
  have HN := Lib.hid fun wx => value_Number S.n S.d wx h1 h2
  clear h1 h2 hf
  go_enter Tryz.func271, Tryz.ntmps271
  go_wp2_with fail
  refine (HN.out _).mono ?_
  rintro e w1 ⟨rfl, hb⟩
  have s23 := lcs hb (w.heap.size + 1) (by (first | omega | (simp only [sz_alloc, sz_setCell, sz_drew, sz_drewN]; omega) | (simp; done) | (simp; omega)))
  have c23_0 := (lcc hb (w.heap.size + 1) (by (first | omega | (simp only [sz_alloc, sz_setCell, sz_drew, sz_drewN]; omega) | (simp; done) | (simp; omega))) 0).trans (by go_simp; exact rfl)
  have c23_1 := (lcc hb (w.heap.size + 1) (by (first | omega | (simp only [sz_alloc, sz_setCell, sz_drew, sz_drewN]; omega) | (simp; done) | (simp; omega))) 1).trans (by go_simp; exact rfl)
  have c23_2 := (lcc hb (w.heap.size + 1) (by (first | omega | (simp only [sz_alloc, sz_setCell, sz_drew, sz_drewN]; omega) | (simp; done) | (simp; omega))) 2).trans (by go_simp; exact rfl)
  have c23_3 := (lcc hb (w.heap.size + 1) (by (first | omega | (simp only [sz_alloc, sz_setCell, sz_drew, sz_drewN]; omega) | (simp; done) | (simp; omega))) 3).trans (by go_simp; exact rfl)
  have c23_4 := (lcc hb (w.heap.size + 1) (by (first | omega | (simp only [sz_alloc, sz_setCell, sz_drew, sz_drewN]; omega) | (simp; done) | (simp; omega))) 4).trans (by go_simp; exact rfl)
  have c23_5 := (lcc hb (w.heap.size + 1) (by (first | omega | (simp only [sz_alloc, sz_setCell, sz_drew, sz_drewN]; omega) | (simp; done) | (simp; omega))) 5).trans (by go_simp; exact rfl)
  have f23 := lcff hb (w.heap.size + 1) (by (first | omega | (simp only [sz_alloc, sz_setCell, sz_drew, sz_drewN]; omega) | (simp; done) | (simp; omega))) (by intro o; go_simp)
  go_wp2
  refine bodyPost_ret (v := .agg #[.int .i64 (numF S.n S.d).k, .int .i64 (numF S.n S.d).n, .int .i64 (numF S.n S.d).d, .string (numF S.n S.d).t, .bool (numF S.n S.d).b, .int .i64 (numF S.n S.d).f]) (by simp [results, Tryz.results271, go_sem, c23_0, c23_1, c23_2, c23_3, c23_4, c23_5]) rfl ⟨rfl, ?_⟩
  repeat (first | with_reducible exact Below.refl _ _ | with_reducible refine below_drewN ?_ _ | with_reducible refine Below.drew ?_ | with_reducible refine Below.setCell ?_ (by (first | omega | (simp only [sz_alloc, sz_setCell, sz_drew, sz_drewN]; omega) | (simp; done) | (simp; omega))) _ | with_reducible refine Below.alloc ?_ (by (first | omega | (simp only [sz_alloc, sz_setCell, sz_drew, sz_drewN]; omega) | (simp; done) | (simp; omega))) _ | with_reducible refine below_then ?_ ?_ (by with_reducible assumption) | (first | omega | (simp only [sz_alloc, sz_setCell, sz_drew, sz_drewN]; omega) | (simp; done) | (simp; omega)))
set_option maxHeartbeats 1000000 in
theorem numbers_result5 (b : Nat) (S : AccS) (kd : Value) (w : World) (hA : Blk w b (accArr S kd) 104) (hf : S.fn = 5) (h1 : I64 S.n) (h2 : I64 S.d) :
    Calls Tryz.prog 274 #[.agg #[], .pointer (some ⟨b, 0, none⟩)] w fun e w' => e = .returned (.agg #[.int .i64 (numF S.n S.d).k, .int .i64 (numF S.n S.d).n, .int .i64 (numF S.n S.d).d, .string (numF S.n S.d).t, .bool (numF S.n S.d).b, .int .i64 (numF S.n S.d).f]) ∧ Below w.heap.size w w' := by
  have hlt := hA.lt
  have hne : ¬ b = w.heap.size := by omega
  have hne' : ¬ w.heap.size = b := by omega
  have HR := Lib.hid fun (wx : World) (hx : Blk wx b (accArr S kd) 104) => fold_result5 b S kd wx hx hf h1 h2
  have HA := Lib.hid ((hA.alloc (.cells #[] 148)).alloc (.cells #[.int .i64 0, .int .i64 0, .int .i64 0, .string ⟨#[]⟩, .bool false, .int .i64 0] 35))
  have hp := run_part0 (w := (w.alloc (.cells #[] 148)).alloc (.cells #[.int .i64 0, .int .i64 0, .int .i64 0, .string ⟨#[]⟩, .bool false, .int .i64 0] 35)) (k := w.heap.size) (by rw [heap_alloc_old _ _ (by simp)]; exact heap_alloc_new _ _)
  have a24 : w.cell? ⟨b, 0, none⟩ = some (.int .i64 S.fn) := hA.cell 0
  simp only [hf] at *
  clear h1 h2 hf hA
  go_enter Tryz.func274, Tryz.ntmps274
  go_wp2_with fail
  refine (HR.out _ HA.out).mono ?_
  rintro e w1 ⟨rfl, hb⟩
  have s25 := lcs hb (w.heap.size + 1) (by (first | omega | (simp only [sz_alloc, sz_setCell, sz_drew, sz_drewN]; omega) | (simp; done) | (simp; omega)))
  have c25_0 := (lcc hb (w.heap.size + 1) (by (first | omega | (simp only [sz_alloc, sz_setCell, sz_drew, sz_drewN]; omega) | (simp; done) | (simp; omega))) 0).trans (by go_simp; exact rfl)
  have c25_1 := (lcc hb (w.heap.size + 1) (by (first | omega | (simp only [sz_alloc, sz_setCell, sz_drew, sz_drewN]; omega) | (simp; done) | (simp; omega))) 1).trans (by go_simp; exact rfl)
  have c25_2 := (lcc hb (w.heap.size + 1) (by (first | omega | (simp only [sz_alloc, sz_setCell, sz_drew, sz_drewN]; omega) | (simp; done) | (simp; omega))) 2).trans (by go_simp; exact rfl)
  have c25_3 := (lcc hb (w.heap.size + 1) (by (first | omega | (simp only [sz_alloc, sz_setCell, sz_drew, sz_drewN]; omega) | (simp; done) | (simp; omega))) 3).trans (by go_simp; exact rfl)
  have c25_4 := (lcc hb (w.heap.size + 1) (by (first | omega | (simp only [sz_alloc, sz_setCell, sz_drew, sz_drewN]; omega) | (simp; done) | (simp; omega))) 4).trans (by go_simp; exact rfl)
  have c25_5 := (lcc hb (w.heap.size + 1) (by (first | omega | (simp only [sz_alloc, sz_setCell, sz_drew, sz_drewN]; omega) | (simp; done) | (simp; omega))) 5).trans (by go_simp; exact rfl)
  have f25 := lcff hb (w.heap.size + 1) (by (first | omega | (simp only [sz_alloc, sz_setCell, sz_drew, sz_drewN]; omega) | (simp; done) | (simp; omega))) (by intro o; go_simp)
  go_wp2
  refine bodyPost_ret (v := .agg #[.int .i64 (numF S.n S.d).k, .int .i64 (numF S.n S.d).n, .int .i64 (numF S.n S.d).d, .string (numF S.n S.d).t, .bool (numF S.n S.d).b, .int .i64 (numF S.n S.d).f]) (by simp [results, Tryz.results274, go_sem, c25_0, c25_1, c25_2, c25_3, c25_4, c25_5]) rfl ⟨rfl, ?_⟩
  repeat (first | with_reducible exact Below.refl _ _ | with_reducible refine below_drewN ?_ _ | with_reducible refine Below.drew ?_ | with_reducible refine Below.setCell ?_ (by (first | omega | (simp only [sz_alloc, sz_setCell, sz_drew, sz_drewN]; omega) | (simp; done) | (simp; omega))) _ | with_reducible refine Below.alloc ?_ (by (first | omega | (simp only [sz_alloc, sz_setCell, sz_drew, sz_drewN]; omega) | (simp; done) | (simp; omega))) _ | with_reducible refine below_then ?_ ?_ (by with_reducible assumption) | (first | omega | (simp only [sz_alloc, sz_setCell, sz_drew, sz_drewN]; omega) | (simp; done) | (simp; omega)))
set_option maxHeartbeats 1000000 in
theorem acc_Result5 (b : Nat) (S : AccS) (w : World) (hA : Blk w b (accArr S kdN) 104) (hu : S.full = false) (hf : S.fn = 5) (h1 : I64 S.n) (h2 : I64 S.d) :
    Calls Tryz.prog 28 #[.pointer (some ⟨b, 0, none⟩)] w fun e w' => e = .returned (.agg #[.int .i64 (numF S.n S.d).k, .int .i64 (numF S.n S.d).n, .int .i64 (numF S.n S.d).d, .string (numF S.n S.d).t, .bool (numF S.n S.d).b, .int .i64 (numF S.n S.d).f]) ∧ Below w.heap.size w w' := by
  have hlt := hA.lt
  have hne : ¬ b = w.heap.size := by omega
  have hne' : ¬ w.heap.size = b := by omega
  have HR := Lib.hid fun (wx : World) (hx : Blk wx b (accArr S kdN) 104) => numbers_result5 b S kdN wx hx hf h1 h2
  have HA := Lib.hid (hA.alloc (.cells #[.int .i64 0, .int .i64 0, .int .i64 0, .string ⟨#[]⟩, .bool false, .int .i64 0] 35))
  have a17 : w.cell? ⟨b, 17, none⟩ = some (.bool false) := (hA.cell 17).trans (by rw [← hu]; rfl)
  have a21 : w.cell? ⟨b, 21, none⟩ = some (.iface 148 (.agg #[])) := hA.cell 21
  clear h1 h2 hf hA hu
  go_enter Tryz.func28, Tryz.ntmps28
  go_wp2_with fail
  refine (HR.out _ HA.out).mono ?_
  rintro e w1 ⟨rfl, hb⟩
  have s26 := lcs hb (w.heap.size) (by (first | omega | (simp only [sz_alloc, sz_setCell, sz_drew, sz_drewN]; omega) | (simp; done) | (simp; omega)))
  have c26_0 := (lcc hb (w.heap.size) (by (first | omega | (simp only [sz_alloc, sz_setCell, sz_drew, sz_drewN]; omega) | (simp; done) | (simp; omega))) 0).trans (by go_simp; exact rfl)
  have c26_1 := (lcc hb (w.heap.size) (by (first | omega | (simp only [sz_alloc, sz_setCell, sz_drew, sz_drewN]; omega) | (simp; done) | (simp; omega))) 1).trans (by go_simp; exact rfl)
  have c26_2 := (lcc hb (w.heap.size) (by (first | omega | (simp only [sz_alloc, sz_setCell, sz_drew, sz_drewN]; omega) | (simp; done) | (simp; omega))) 2).trans (by go_simp; exact rfl)
  have c26_3 := (lcc hb (w.heap.size) (by (first | omega | (simp only [sz_alloc, sz_setCell, sz_drew, sz_drewN]; omega) | (simp; done) | (simp; omega))) 3).trans (by go_simp; exact rfl)
  have c26_4 := (lcc hb (w.heap.size) (by (first | omega | (simp only [sz_alloc, sz_setCell, sz_drew, sz_drewN]; omega) | (simp; done) | (simp; omega))) 4).trans (by go_simp; exact rfl)
  have c26_5 := (lcc hb (w.heap.size) (by (first | omega | (simp only [sz_alloc, sz_setCell, sz_drew, sz_drewN]; omega) | (simp; done) | (simp; omega))) 5).trans (by go_simp; exact rfl)
  have f26 := lcff hb (w.heap.size) (by (first | omega | (simp only [sz_alloc, sz_setCell, sz_drew, sz_drewN]; omega) | (simp; done) | (simp; omega))) (by intro o; go_simp)
  go_wp2
  refine bodyPost_ret (v := .agg #[.int .i64 (numF S.n S.d).k, .int .i64 (numF S.n S.d).n, .int .i64 (numF S.n S.d).d, .string (numF S.n S.d).t, .bool (numF S.n S.d).b, .int .i64 (numF S.n S.d).f]) (by simp [results, Tryz.results28, go_sem, c26_0, c26_1, c26_2, c26_3, c26_4, c26_5]) rfl ⟨rfl, ?_⟩
  repeat (first | with_reducible exact Below.refl _ _ | with_reducible refine below_drewN ?_ _ | with_reducible refine Below.drew ?_ | with_reducible refine Below.setCell ?_ (by (first | omega | (simp only [sz_alloc, sz_setCell, sz_drew, sz_drewN]; omega) | (simp; done) | (simp; omega))) _ | with_reducible refine Below.alloc ?_ (by (first | omega | (simp only [sz_alloc, sz_setCell, sz_drew, sz_drewN]; omega) | (simp; done) | (simp; omega))) _ | with_reducible refine below_then ?_ ?_ (by with_reducible assumption) | (first | omega | (simp only [sz_alloc, sz_setCell, sz_drew, sz_drewN]; omega) | (simp; done) | (simp; omega)))
set_option maxHeartbeats 1000000 in
theorem fold_result6 (b : Nat) (S : AccS) (kd : Value) (w : World) (hA : Blk w b (accArr S kd) 104) (hf : S.fn = 6) (h1 : I64 S.n) (h2 : I64 S.d) :
    Calls Tryz.prog 271 #[.agg #[], .pointer (some ⟨b, 0, none⟩)] w fun e w' => e = .returned (.agg #[.int .i64 (numF S.n S.d).k, .int .i64 (numF S.n S.d).n, .int .i64 (numF S.n S.d).d, .string (numF S.n S.d).t, .bool (numF S.n S.d).b, .int .i64 (numF S.n S.d).f]) ∧ Below w.heap.size w w' := by
  have hlt := hA.lt
  have hne : ¬ b = w.heap.size := by omega
  have hne' : ¬ w.heap.size = b := by omega
  have a27 : w.cell? ⟨b, 0, none⟩ = some (.int .i64 S.fn) := hA.cell 0
  have a28 : w.cell? ⟨b, 2, none⟩ = some (.int .i64 S.n) := hA.cell 2
  have a29 : w.cell? ⟨b, 3, none⟩ = some (.int .i64 S.d) := hA.cell 3
  simp only [hf] at *
  have HN := Lib.hid fun wx => value_Number S.n S.d wx h1 h2
  clear h1 h2 hf
  go_enter Tryz.func271, Tryz.ntmps271
  go_wp2_with fail
  refine (HN.out _).mono ?_
  rintro e w1 ⟨rfl, hb⟩
  have s30 := lcs hb (w.heap.size + 1) (by (first | omega | (simp only [sz_alloc, sz_setCell, sz_drew, sz_drewN]; omega) | (simp; done) | (simp; omega)))
  have c30_0 := (lcc hb (w.heap.size + 1) (by (first | omega | (simp only [sz_alloc, sz_setCell, sz_drew, sz_drewN]; omega) | (simp; done) | (simp; omega))) 0).trans (by go_simp; exact rfl)
  have c30_1 := (lcc hb (w.heap.size + 1) (by (first | omega | (simp only [sz_alloc, sz_setCell, sz_drew, sz_drewN]; omega) | (simp; done) | (simp; omega))) 1).trans (by go_simp; exact rfl)
  have c30_2 := (lcc hb (w.heap.size + 1) (by (first | omega | (simp only [sz_alloc, sz_setCell, sz_drew, sz_drewN]; omega) | (simp; done) | (simp; omega))) 2).trans (by go_simp; exact rfl)
  have c30_3 := (lcc hb (w.heap.size + 1) (by (first | omega | (simp only [sz_alloc, sz_setCell, sz_drew, sz_drewN]; omega) | (simp; done) | (simp; omega))) 3).trans (by go_simp; exact rfl)
  have c30_4 := (lcc hb (w.heap.size + 1) (by (first | omega | (simp only [sz_alloc, sz_setCell, sz_drew, sz_drewN]; omega) | (simp; done) | (simp; omega))) 4).trans (by go_simp; exact rfl)
  have c30_5 := (lcc hb (w.heap.size + 1) (by (first | omega | (simp only [sz_alloc, sz_setCell, sz_drew, sz_drewN]; omega) | (simp; done) | (simp; omega))) 5).trans (by go_simp; exact rfl)
  have f30 := lcff hb (w.heap.size + 1) (by (first | omega | (simp only [sz_alloc, sz_setCell, sz_drew, sz_drewN]; omega) | (simp; done) | (simp; omega))) (by intro o; go_simp)
  go_wp2
  refine bodyPost_ret (v := .agg #[.int .i64 (numF S.n S.d).k, .int .i64 (numF S.n S.d).n, .int .i64 (numF S.n S.d).d, .string (numF S.n S.d).t, .bool (numF S.n S.d).b, .int .i64 (numF S.n S.d).f]) (by simp [results, Tryz.results271, go_sem, c30_0, c30_1, c30_2, c30_3, c30_4, c30_5]) rfl ⟨rfl, ?_⟩
  repeat (first | with_reducible exact Below.refl _ _ | with_reducible refine below_drewN ?_ _ | with_reducible refine Below.drew ?_ | with_reducible refine Below.setCell ?_ (by (first | omega | (simp only [sz_alloc, sz_setCell, sz_drew, sz_drewN]; omega) | (simp; done) | (simp; omega))) _ | with_reducible refine Below.alloc ?_ (by (first | omega | (simp only [sz_alloc, sz_setCell, sz_drew, sz_drewN]; omega) | (simp; done) | (simp; omega))) _ | with_reducible refine below_then ?_ ?_ (by with_reducible assumption) | (first | omega | (simp only [sz_alloc, sz_setCell, sz_drew, sz_drewN]; omega) | (simp; done) | (simp; omega)))
set_option maxHeartbeats 1000000 in
theorem numbers_result6 (b : Nat) (S : AccS) (kd : Value) (w : World) (hA : Blk w b (accArr S kd) 104) (hf : S.fn = 6) (h1 : I64 S.n) (h2 : I64 S.d) :
    Calls Tryz.prog 274 #[.agg #[], .pointer (some ⟨b, 0, none⟩)] w fun e w' => e = .returned (.agg #[.int .i64 (numF S.n S.d).k, .int .i64 (numF S.n S.d).n, .int .i64 (numF S.n S.d).d, .string (numF S.n S.d).t, .bool (numF S.n S.d).b, .int .i64 (numF S.n S.d).f]) ∧ Below w.heap.size w w' := by
  have hlt := hA.lt
  have hne : ¬ b = w.heap.size := by omega
  have hne' : ¬ w.heap.size = b := by omega
  have HR := Lib.hid fun (wx : World) (hx : Blk wx b (accArr S kd) 104) => fold_result6 b S kd wx hx hf h1 h2
  have HA := Lib.hid ((hA.alloc (.cells #[] 148)).alloc (.cells #[.int .i64 0, .int .i64 0, .int .i64 0, .string ⟨#[]⟩, .bool false, .int .i64 0] 35))
  have hp := run_part0 (w := (w.alloc (.cells #[] 148)).alloc (.cells #[.int .i64 0, .int .i64 0, .int .i64 0, .string ⟨#[]⟩, .bool false, .int .i64 0] 35)) (k := w.heap.size) (by rw [heap_alloc_old _ _ (by simp)]; exact heap_alloc_new _ _)
  have a31 : w.cell? ⟨b, 0, none⟩ = some (.int .i64 S.fn) := hA.cell 0
  simp only [hf] at *
  clear h1 h2 hf hA
  go_enter Tryz.func274, Tryz.ntmps274
  go_wp2_with fail
  refine (HR.out _ HA.out).mono ?_
  rintro e w1 ⟨rfl, hb⟩
  have s32 := lcs hb (w.heap.size + 1) (by (first | omega | (simp only [sz_alloc, sz_setCell, sz_drew, sz_drewN]; omega) | (simp; done) | (simp; omega)))
  have c32_0 := (lcc hb (w.heap.size + 1) (by (first | omega | (simp only [sz_alloc, sz_setCell, sz_drew, sz_drewN]; omega) | (simp; done) | (simp; omega))) 0).trans (by go_simp; exact rfl)
  have c32_1 := (lcc hb (w.heap.size + 1) (by (first | omega | (simp only [sz_alloc, sz_setCell, sz_drew, sz_drewN]; omega) | (simp; done) | (simp; omega))) 1).trans (by go_simp; exact rfl)
  have c32_2 := (lcc hb (w.heap.size + 1) (by (first | omega | (simp only [sz_alloc, sz_setCell, sz_drew, sz_drewN]; omega) | (simp; done) | (simp; omega))) 2).trans (by go_simp; exact rfl)
  have c32_3 := (lcc hb (w.heap.size + 1) (by (first | omega | (simp only [sz_alloc, sz_setCell, sz_drew, sz_drewN]; omega) | (simp; done) | (simp; omega))) 3).trans (by go_simp; exact rfl)
  have c32_4 := (lcc hb (w.heap.size + 1) (by (first | omega | (simp only [sz_alloc, sz_setCell, sz_drew, sz_drewN]; omega) | (simp; done) | (simp; omega))) 4).trans (by go_simp; exact rfl)
  have c32_5 := (lcc hb (w.heap.size + 1) (by (first | omega | (simp only [sz_alloc, sz_setCell, sz_drew, sz_drewN]; omega) | (simp; done) | (simp; omega))) 5).trans (by go_simp; exact rfl)
  have f32 := lcff hb (w.heap.size + 1) (by (first | omega | (simp only [sz_alloc, sz_setCell, sz_drew, sz_drewN]; omega) | (simp; done) | (simp; omega))) (by intro o; go_simp)
  go_wp2
  refine bodyPost_ret (v := .agg #[.int .i64 (numF S.n S.d).k, .int .i64 (numF S.n S.d).n, .int .i64 (numF S.n S.d).d, .string (numF S.n S.d).t, .bool (numF S.n S.d).b, .int .i64 (numF S.n S.d).f]) (by simp [results, Tryz.results274, go_sem, c32_0, c32_1, c32_2, c32_3, c32_4, c32_5]) rfl ⟨rfl, ?_⟩
  repeat (first | with_reducible exact Below.refl _ _ | with_reducible refine below_drewN ?_ _ | with_reducible refine Below.drew ?_ | with_reducible refine Below.setCell ?_ (by (first | omega | (simp only [sz_alloc, sz_setCell, sz_drew, sz_drewN]; omega) | (simp; done) | (simp; omega))) _ | with_reducible refine Below.alloc ?_ (by (first | omega | (simp only [sz_alloc, sz_setCell, sz_drew, sz_drewN]; omega) | (simp; done) | (simp; omega))) _ | with_reducible refine below_then ?_ ?_ (by with_reducible assumption) | (first | omega | (simp only [sz_alloc, sz_setCell, sz_drew, sz_drewN]; omega) | (simp; done) | (simp; omega)))
set_option maxHeartbeats 1000000 in
theorem acc_Result6 (b : Nat) (S : AccS) (w : World) (hA : Blk w b (accArr S kdN) 104) (hu : S.full = false) (hf : S.fn = 6) (h1 : I64 S.n) (h2 : I64 S.d) :
    Calls Tryz.prog 28 #[.pointer (some ⟨b, 0, none⟩)] w fun e w' => e = .returned (.agg #[.int .i64 (numF S.n S.d).k, .int .i64 (numF S.n S.d).n, .int .i64 (numF S.n S.d).d, .string (numF S.n S.d).t, .bool (numF S.n S.d).b, .int .i64 (numF S.n S.d).f]) ∧ Below w.heap.size w w' := by
  have hlt := hA.lt
  have hne : ¬ b = w.heap.size := by omega
  have hne' : ¬ w.heap.size = b := by omega
  have HR := Lib.hid fun (wx : World) (hx : Blk wx b (accArr S kdN) 104) => numbers_result6 b S kdN wx hx hf h1 h2
  have HA := Lib.hid (hA.alloc (.cells #[.int .i64 0, .int .i64 0, .int .i64 0, .string ⟨#[]⟩, .bool false, .int .i64 0] 35))
  have a17 : w.cell? ⟨b, 17, none⟩ = some (.bool false) := (hA.cell 17).trans (by rw [← hu]; rfl)
  have a21 : w.cell? ⟨b, 21, none⟩ = some (.iface 148 (.agg #[])) := hA.cell 21
  clear h1 h2 hf hA hu
  go_enter Tryz.func28, Tryz.ntmps28
  go_wp2_with fail
  refine (HR.out _ HA.out).mono ?_
  rintro e w1 ⟨rfl, hb⟩
  have s33 := lcs hb (w.heap.size) (by (first | omega | (simp only [sz_alloc, sz_setCell, sz_drew, sz_drewN]; omega) | (simp; done) | (simp; omega)))
  have c33_0 := (lcc hb (w.heap.size) (by (first | omega | (simp only [sz_alloc, sz_setCell, sz_drew, sz_drewN]; omega) | (simp; done) | (simp; omega))) 0).trans (by go_simp; exact rfl)
  have c33_1 := (lcc hb (w.heap.size) (by (first | omega | (simp only [sz_alloc, sz_setCell, sz_drew, sz_drewN]; omega) | (simp; done) | (simp; omega))) 1).trans (by go_simp; exact rfl)
  have c33_2 := (lcc hb (w.heap.size) (by (first | omega | (simp only [sz_alloc, sz_setCell, sz_drew, sz_drewN]; omega) | (simp; done) | (simp; omega))) 2).trans (by go_simp; exact rfl)
  have c33_3 := (lcc hb (w.heap.size) (by (first | omega | (simp only [sz_alloc, sz_setCell, sz_drew, sz_drewN]; omega) | (simp; done) | (simp; omega))) 3).trans (by go_simp; exact rfl)
  have c33_4 := (lcc hb (w.heap.size) (by (first | omega | (simp only [sz_alloc, sz_setCell, sz_drew, sz_drewN]; omega) | (simp; done) | (simp; omega))) 4).trans (by go_simp; exact rfl)
  have c33_5 := (lcc hb (w.heap.size) (by (first | omega | (simp only [sz_alloc, sz_setCell, sz_drew, sz_drewN]; omega) | (simp; done) | (simp; omega))) 5).trans (by go_simp; exact rfl)
  have f33 := lcff hb (w.heap.size) (by (first | omega | (simp only [sz_alloc, sz_setCell, sz_drew, sz_drewN]; omega) | (simp; done) | (simp; omega))) (by intro o; go_simp)
  go_wp2
  refine bodyPost_ret (v := .agg #[.int .i64 (numF S.n S.d).k, .int .i64 (numF S.n S.d).n, .int .i64 (numF S.n S.d).d, .string (numF S.n S.d).t, .bool (numF S.n S.d).b, .int .i64 (numF S.n S.d).f]) (by simp [results, Tryz.results28, go_sem, c33_0, c33_1, c33_2, c33_3, c33_4, c33_5]) rfl ⟨rfl, ?_⟩
  repeat (first | with_reducible exact Below.refl _ _ | with_reducible refine below_drewN ?_ _ | with_reducible refine Below.drew ?_ | with_reducible refine Below.setCell ?_ (by (first | omega | (simp only [sz_alloc, sz_setCell, sz_drew, sz_drewN]; omega) | (simp; done) | (simp; omega))) _ | with_reducible refine Below.alloc ?_ (by (first | omega | (simp only [sz_alloc, sz_setCell, sz_drew, sz_drewN]; omega) | (simp; done) | (simp; omega))) _ | with_reducible refine below_then ?_ ?_ (by with_reducible assumption) | (first | omega | (simp only [sz_alloc, sz_setCell, sz_drew, sz_drewN]; omega) | (simp; done) | (simp; omega)))
end Go.Proofs.YtangdbjoflnobaaGreatDoor
