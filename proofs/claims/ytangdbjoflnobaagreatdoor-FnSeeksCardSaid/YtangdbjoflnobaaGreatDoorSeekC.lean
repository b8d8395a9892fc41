/- Walks of package funcs: COUNTIF takes a cell, where its needle bears no mark of an order. -/
import Derived.Test.YtangdbjoflnobaaGreatDoorSeekB
namespace Go.Proofs.YtangdbjoflnobaaGreatDoor
open Go Go.RowKit
set_option linter.unusedSimpArgs false
set_option linter.unusedVariables false

/-- It does not begin with a mark of an order. -/
def Unmarked (t : ByteArray) : Prop := ∀ c r, t.data.toList = c :: r → c.toNat < 60 ∨ 62 < c.toNat
theorem no_mark {t : ByteArray} (h : Unmarked t) {c : UInt8} {r : List UInt8} (h1 : 60 ≤ c.toNat) (h2 : c.toNat ≤ 62) : Lib.hasPrefix t.data.toList (c :: r) = false := by
  unfold Lib.hasPrefix
  cases ht : t.data.toList with
  | nil => rfl
  | cons a s =>
    have := h a s ht
    have hne : c ≠ a := by rintro rfl; omega
    simp [List.isPrefixOf, hne]
def meetsV (nd v : Vl) : Bool := if v.k = 0 ∨ v.k = 4 then false else sameV nd v

set_option maxHeartbeats 4000000 in
theorem meets_text (b : Nat) (S : AccS) (kd : Value) (v : Vl) (w : World) (hA : Blk w b (accArr S kd) 104) (hs : S.has = true) (hn : S.needle.In) (hv : v.In) (h0 : ¬ v.k = 0) (h4 : ¬ v.k = 4) (hk : S.needle.k = 2) (hu : Unmarked S.needle.t) :
    Calls Tryz.prog 298 #[.pointer (some ⟨b, 0, none⟩), .agg #[.int .i64 (v).k, .int .i64 (v).n, .int .i64 (v).d, .string (v).t, .bool (v).b, .int .i64 (v).f]] w fun e w' => e = .returned (.bool (sameV S.needle v)) ∧ Below w.heap.size w w' := by
  have hlt := hA.lt
  have hne : ¬ b = w.heap.size := by omega
  have hne' : ¬ w.heap.size = b := by omega
  have hne1 : ¬ b = w.heap.size + 1 := by omega
  have hne1' : ¬ w.heap.size + 1 = b := by omega
  have a16 : w.cell? ⟨b, 16, none⟩ = some (.bool true) := (hA.cell 16).trans (by rw [← hs]; rfl)
  have a1 : w.cell? ⟨b, 10, none⟩ = some (.int .i64 S.needle.k) := hA.cell 10
  have a2 : w.cell? ⟨b, 11, none⟩ = some (.int .i64 S.needle.n) := hA.cell 11
  have a3 : w.cell? ⟨b, 12, none⟩ = some (.int .i64 S.needle.d) := hA.cell 12
  have a4 : w.cell? ⟨b, 13, none⟩ = some (.string S.needle.t) := hA.cell 13
  have a5 : w.cell? ⟨b, 14, none⟩ = some (.bool S.needle.b) := hA.cell 14
  have a6 : w.cell? ⟨b, 15, none⟩ = some (.int .i64 S.needle.f) := hA.cell 15
  have HS := Lib.hid fun wx => value_Same S.needle.k S.needle.n S.needle.d S.needle.t S.needle.b S.needle.f v.k v.n v.d v.t v.b v.f wx hn hv
  have es : sameV ⟨S.needle.k, S.needle.n, S.needle.d, S.needle.t, S.needle.b, S.needle.f⟩ ⟨v.k, v.n, v.d, v.t, v.b, v.f⟩ = sameV S.needle v := rfl
  rw [es] at HS
  have p1 : Lib.hasPrefix S.needle.t.data.toList [60, 61] = false := no_mark hu (by decide) (by decide)
  have p2 : Lib.hasPrefix S.needle.t.data.toList [62, 61] = false := no_mark hu (by decide) (by decide)
  have p3 : Lib.hasPrefix S.needle.t.data.toList [60, 62] = false := no_mark hu (by decide) (by decide)
  have p4 : Lib.hasPrefix S.needle.t.data.toList [60] = false := no_mark hu (by decide) (by decide)
  have p5 : Lib.hasPrefix S.needle.t.data.toList [62] = false := no_mark hu (by decide) (by decide)
  have p6 : Lib.hasPrefix S.needle.t.data.toList [61] = false := no_mark hu (by decide) (by decide)
  have k0 : (v.k == 0) = false := by simp [h0]
  have k4 : (v.k == 4) = false := by simp [h4]
  have kn : (S.needle.k == 2) = true := by simp [hk]
  clear es hA hs hn hv h0 h4 hk hu
  generalize sameV S.needle v = q at *
  go_enter Tryz.func298, Tryz.ntmps298
  go_wp2
  refine wp_loop_rounds 7 ?_
  rw [rounds_succ]
  go_wp2_with fail
  refine (Tryz.strings_HasPrefix _ _ _).mono ?_
  rintro e w1 ⟨rfl, rfl⟩
  go_wp2
  rw [rounds_succ]
  go_wp2_with fail
  refine (Tryz.strings_HasPrefix _ _ _).mono ?_
  rintro e w2 ⟨rfl, rfl⟩
  go_wp2
  rw [rounds_succ]
  go_wp2_with fail
  refine (Tryz.strings_HasPrefix _ _ _).mono ?_
  rintro e w3 ⟨rfl, rfl⟩
  go_wp2
  rw [rounds_succ]
  go_wp2_with fail
  refine (Tryz.strings_HasPrefix _ _ _).mono ?_
  rintro e w4 ⟨rfl, rfl⟩
  go_wp2
  rw [rounds_succ]
  go_wp2_with fail
  refine (Tryz.strings_HasPrefix _ _ _).mono ?_
  rintro e w5 ⟨rfl, rfl⟩
  go_wp2
  rw [rounds_succ]
  go_wp2_with fail
  refine (Tryz.strings_HasPrefix _ _ _).mono ?_
  rintro e w6 ⟨rfl, rfl⟩
  go_wp2
  rw [rounds_succ]
  go_wp2_with fail
  refine (HS.out _).mono ?_
  rintro e w7 ⟨rfl, hb⟩
  go_wp2
  go_ret
  refine ⟨rfl, ?_⟩
  repeat (first | with_reducible exact Below.refl _ _ | with_reducible refine below_drewN ?_ _ | with_reducible refine Below.drew ?_ | with_reducible refine Below.setCell ?_ (by (first | omega | (simp only [sz_alloc, sz_setCell, sz_drew, sz_drewN]; omega) | (simp; done) | (simp; omega))) _ | with_reducible refine Below.alloc ?_ (by (first | omega | (simp only [sz_alloc, sz_setCell, sz_drew, sz_drewN]; omega) | (simp; done) | (simp; omega))) _ | with_reducible refine below_then ?_ ?_ (by with_reducible assumption) | (first | omega | (simp only [sz_alloc, sz_setCell, sz_drew, sz_drewN]; omega) | (simp; done) | (simp; omega)))

set_option maxHeartbeats 4000000 in
theorem meets_other (b : Nat) (S : AccS) (kd : Value) (v : Vl) (w : World) (hA : Blk w b (accArr S kd) 104) (hs : S.has = true) (hn : S.needle.In) (hv : v.In) (h0 : ¬ v.k = 0) (h4 : ¬ v.k = 4) (hk : ¬ S.needle.k = 2) :
    Calls Tryz.prog 298 #[.pointer (some ⟨b, 0, none⟩), .agg #[.int .i64 (v).k, .int .i64 (v).n, .int .i64 (v).d, .string (v).t, .bool (v).b, .int .i64 (v).f]] w fun e w' => e = .returned (.bool (sameV S.needle v)) ∧ Below w.heap.size w w' := by
  have hlt := hA.lt
  have hne : ¬ b = w.heap.size := by omega
  have hne' : ¬ w.heap.size = b := by omega
  have hne1 : ¬ b = w.heap.size + 1 := by omega
  have hne1' : ¬ w.heap.size + 1 = b := by omega
  have a16 : w.cell? ⟨b, 16, none⟩ = some (.bool true) := (hA.cell 16).trans (by rw [← hs]; rfl)
  have a7 : w.cell? ⟨b, 10, none⟩ = some (.int .i64 S.needle.k) := hA.cell 10
  have a8 : w.cell? ⟨b, 11, none⟩ = some (.int .i64 S.needle.n) := hA.cell 11
  have a9 : w.cell? ⟨b, 12, none⟩ = some (.int .i64 S.needle.d) := hA.cell 12
  have a10 : w.cell? ⟨b, 13, none⟩ = some (.string S.needle.t) := hA.cell 13
  have a11 : w.cell? ⟨b, 14, none⟩ = some (.bool S.needle.b) := hA.cell 14
  have a12 : w.cell? ⟨b, 15, none⟩ = some (.int .i64 S.needle.f) := hA.cell 15
  have HS := Lib.hid fun wx => value_Same S.needle.k S.needle.n S.needle.d S.needle.t S.needle.b S.needle.f v.k v.n v.d v.t v.b v.f wx hn hv
  have es : sameV ⟨S.needle.k, S.needle.n, S.needle.d, S.needle.t, S.needle.b, S.needle.f⟩ ⟨v.k, v.n, v.d, v.t, v.b, v.f⟩ = sameV S.needle v := rfl
  rw [es] at HS
  have k0 : (v.k == 0) = false := by simp [h0]
  have k4 : (v.k == 4) = false := by simp [h4]
  have kn : (S.needle.k == 2) = false := by simp [hk]
  clear es hA hs hn hv h0 h4 hk
  generalize sameV S.needle v = q at *
  go_enter Tryz.func298, Tryz.ntmps298
  go_wp2
  refine wp_loop_rounds 7 ?_
  rw [rounds_succ]
  go_wp2
  rw [rounds_succ]
  go_wp2
  rw [rounds_succ]
  go_wp2
  rw [rounds_succ]
  go_wp2
  rw [rounds_succ]
  go_wp2
  rw [rounds_succ]
  go_wp2
  rw [rounds_succ]
  go_wp2_with fail
  refine (HS.out _).mono ?_
  rintro e w7 ⟨rfl, hb⟩
  go_wp2
  go_ret
  refine ⟨rfl, ?_⟩
  repeat (first | with_reducible exact Below.refl _ _ | with_reducible refine below_drewN ?_ _ | with_reducible refine Below.drew ?_ | with_reducible refine Below.setCell ?_ (by (first | omega | (simp only [sz_alloc, sz_setCell, sz_drew, sz_drewN]; omega) | (simp; done) | (simp; omega))) _ | with_reducible refine Below.alloc ?_ (by (first | omega | (simp only [sz_alloc, sz_setCell, sz_drew, sz_drewN]; omega) | (simp; done) | (simp; omega))) _ | with_reducible refine below_then ?_ ?_ (by with_reducible assumption) | (first | omega | (simp only [sz_alloc, sz_setCell, sz_drew, sz_drewN]; omega) | (simp; done) | (simp; omega)))

set_option maxHeartbeats 1000000 in
theorem meets_no (b : Nat) (S : AccS) (kd : Value) (v : Vl) (w : World) (hA : Blk w b (accArr S kd) 104) (hs : S.has = true) (h : v.k = 0 ∨ v.k = 4) :
    Calls Tryz.prog 298 #[.pointer (some ⟨b, 0, none⟩), .agg #[.int .i64 (v).k, .int .i64 (v).n, .int .i64 (v).d, .string (v).t, .bool (v).b, .int .i64 (v).f]] w fun e w' => e = .returned (.bool false) ∧ Below w.heap.size w w' := by
  have hlt := hA.lt
  have hne : ¬ b = w.heap.size := by omega
  have hne' : ¬ w.heap.size = b := by omega
  have a16 : w.cell? ⟨b, 16, none⟩ = some (.bool true) := (hA.cell 16).trans (by rw [← hs]; rfl)
  clear hA hs
  by_cases h0 : v.k = 0
  · have k0 : (v.k == 0) = true := by simp [h0]
    clear h h0
    go_enter Tryz.func298, Tryz.ntmps298
    go_wp2
    go_ret
    refine ⟨rfl, ?_⟩
    repeat (first | with_reducible exact Below.refl _ _ | with_reducible refine below_drewN ?_ _ | with_reducible refine Below.drew ?_ | with_reducible refine Below.setCell ?_ (by (first | omega | (simp only [sz_alloc, sz_setCell, sz_drew, sz_drewN]; omega) | (simp; done) | (simp; omega))) _ | with_reducible refine Below.alloc ?_ (by (first | omega | (simp only [sz_alloc, sz_setCell, sz_drew, sz_drewN]; omega) | (simp; done) | (simp; omega))) _ | with_reducible refine below_then ?_ ?_ (by with_reducible assumption) | (first | omega | (simp only [sz_alloc, sz_setCell, sz_drew, sz_drewN]; omega) | (simp; done) | (simp; omega)))
  · have k0 : (v.k == 0) = false := by simp [h0]
    have k4 : (v.k == 4) = true := by simp; omega
    clear h h0
    go_enter Tryz.func298, Tryz.ntmps298
    go_wp2
    go_ret
    refine ⟨rfl, ?_⟩
    repeat (first | with_reducible exact Below.refl _ _ | with_reducible refine below_drewN ?_ _ | with_reducible refine Below.drew ?_ | with_reducible refine Below.setCell ?_ (by (first | omega | (simp only [sz_alloc, sz_setCell, sz_drew, sz_drewN]; omega) | (simp; done) | (simp; omega))) _ | with_reducible refine Below.alloc ?_ (by (first | omega | (simp only [sz_alloc, sz_setCell, sz_drew, sz_drewN]; omega) | (simp; done) | (simp; omega))) _ | with_reducible refine below_then ?_ ?_ (by with_reducible assumption) | (first | omega | (simp only [sz_alloc, sz_setCell, sz_drew, sz_drewN]; omega) | (simp; done) | (simp; omega)))
theorem acc_meets (b : Nat) (S : AccS) (kd : Value) (v : Vl) (w : World) (hA : Blk w b (accArr S kd) 104) (hs : S.has = true) (hn : S.needle.In) (hv : v.In) (hu : S.needle.k = 2 → Unmarked S.needle.t) :
    Calls Tryz.prog 298 #[.pointer (some ⟨b, 0, none⟩), .agg #[.int .i64 (v).k, .int .i64 (v).n, .int .i64 (v).d, .string (v).t, .bool (v).b, .int .i64 (v).f]] w fun e w' => e = .returned (.bool (meetsV S.needle v)) ∧ Below w.heap.size w w' := by
  unfold meetsV
  by_cases h : v.k = 0 ∨ v.k = 4
  · rw [if_pos h]
    exact meets_no b S kd v w hA hs h
  · rw [if_neg h]
    by_cases hk : S.needle.k = 2
    · exact meets_text b S kd v w hA hs hn hv (by omega) (by omega) hk (hu hk)
    · exact meets_other b S kd v w hA hs hn hv (by omega) (by omega) hk
set_option maxHeartbeats 1000000 in
theorem countIf_cell (b : Nat) (S : AccS) (kd : Value) (v : Vl) (hs : S.has = true) (hn : S.needle.In) (hv : v.In) (hu : S.needle.k = 2 → Unmarked S.needle.t) (hc0 : 0 ≤ S.count) (hc1 : S.count ≤ 1000000) :
    Turns 297 #[.agg #[], .pointer (some ⟨b, 0, none⟩), .agg #[.int .i64 (v).k, .int .i64 (v).n, .int .i64 (v).d, .string (v).t, .bool (v).b, .int .i64 (v).f]] b S (if meetsV S.needle v = true then { S with count := S.count + 1 } else S) kd := by
  constructor
  intro w hA
  have hlt := hA.lt
  have HA := Lib.hid ((hA.alloc (.cells #[] 155)).alloc (.cells #[.int .i64 v.k, .int .i64 v.n, .int .i64 v.d, .string v.t, .bool v.b, .int .i64 v.f] 35))
  have HS := Lib.hid fun (wx : World) (hx : Blk wx b (accArr S kd) 104) => acc_meets b S kd v wx hx hs hn hv hu
  have hw := w64 (x := S.count + 1) (by omega) (by omega)
  clear hA hs hn hv hu
  generalize meetsV S.needle v = q at *
  cases q
  · go_enter Tryz.func297, Tryz.ntmps297
    go_wp2_with fail
    refine (HS.out _ HA.out).mono ?_
    rintro e w1 ⟨rfl, hb⟩
    have A1 := Lib.hid (HA.out.below hb)
    have z13 := Below.size hb
    try simp only [sz_alloc, sz_setCell, sz_drew, sz_drewN] at z13
    go_wp2
    go_end0
    refine ⟨rfl, A1.out, ?_⟩
    repeat (first | with_reducible exact But.refl _ _ _ | with_reducible refine But.drewN ?_ _ | with_reducible refine But.drew ?_ | with_reducible refine But.setCell ?_ _ _ | with_reducible refine But.setNew ?_ (by (first | omega | (simp only [sz_alloc, sz_setCell, sz_drew, sz_drewN]; omega) | (simp; done) | (simp; omega))) _ | with_reducible refine But.alloc ?_ (by (first | omega | (simp only [sz_alloc, sz_setCell, sz_drew, sz_drewN]; omega) | (simp; done) | (simp; omega))) _ | with_reducible refine But.thenBelow ?_ ?_ (by with_reducible assumption) | with_reducible refine But.then ?_ ?_ (by with_reducible assumption) | (first | omega | (simp only [sz_alloc, sz_setCell, sz_drew, sz_drewN]; omega) | (simp; done) | (simp; omega)))
  · go_enter Tryz.func297, Tryz.ntmps297
    go_wp2_with fail
    refine (HS.out _ HA.out).mono ?_
    rintro e w1 ⟨rfl, hb⟩
    have A1 := Lib.hid (HA.out.below hb)
    have r1 : w1.cell? ⟨b, 1, none⟩ = some (.int .i64 S.count) := A1.out.cell 1
    have fz := A1.out.free
    have l1 := A1.out.lt
    have z14 := Below.size hb
    try simp only [sz_alloc, sz_setCell, sz_drew, sz_drewN] at z14
    go_wp2
    go_end0
    refine ⟨rfl, (A1.out.set 1 _).cast (by simp only [accArr, List.setIfInBounds_toArray, List.set_cons_zero, List.set_cons_succ]), ?_⟩
    repeat (first | with_reducible exact But.refl _ _ _ | with_reducible refine But.drewN ?_ _ | with_reducible refine But.drew ?_ | with_reducible refine But.setCell ?_ _ _ | with_reducible refine But.setNew ?_ (by (first | omega | (simp only [sz_alloc, sz_setCell, sz_drew, sz_drewN]; omega) | (simp; done) | (simp; omega))) _ | with_reducible refine But.alloc ?_ (by (first | omega | (simp only [sz_alloc, sz_setCell, sz_drew, sz_drewN]; omega) | (simp; done) | (simp; omega))) _ | with_reducible refine But.thenBelow ?_ ?_ (by with_reducible assumption) | with_reducible refine But.then ?_ ?_ (by with_reducible assumption) | (first | omega | (simp only [sz_alloc, sz_setCell, sz_drew, sz_drewN]; omega) | (simp; done) | (simp; omega)))
end Go.Proofs.YtangdbjoflnobaaGreatDoor
