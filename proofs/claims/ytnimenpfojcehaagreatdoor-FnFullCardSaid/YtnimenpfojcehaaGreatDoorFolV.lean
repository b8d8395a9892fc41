/- Walks of package funcs: CONCAT, FIRST, LAST: what they do with any value. -/
import Derived.Test.YtnimenpfojcehaaGreatDoorFolA
import Derived.Test.YtnimenpfojcehaaGreatDoorBinC
namespace Go.Proofs.YtnimenpfojcehaaGreatDoor
open Go Go.RowKit
set_option linter.unusedSimpArgs false
set_option linter.unusedVariables false

/-- A call that turns a fold's block, and no other that was there, in a world of which something is known. -/
structure TurnsI (I : World → Prop) (m : Nat) (args : Array Value) (b : Nat) (S S' : AccS) (kd : Value) : Prop where
  out : ∀ wx : World, I wx → Blk wx b (accArr S kd) 57 → Calls Tryz.prog m args wx fun e w' => e = .returned (.tuple #[]) ∧ Blk w' b (accArr S' kd) 57 ∧ But wx.heap.size b wx w'
theorem Turns.toI {I : World → Prop} {m : Nat} {args : Array Value} {b : Nat} {S S' : AccS} {kd : Value} (h : Turns m args b S S' kd) : TurnsI I m args b S S' kd := ⟨fun wx _ hx => h.out wx hx⟩

def kdV : Value := .iface 91 (.agg #[])
/-- What CONCAT, FIRST, LAST do with a value. -/
def AccS.joined (S : AccS) (j : Vl) : AccS := { S with v := j, full := j.k == 4 }
def AccS.feedV (S : AccS) (v : Vl) : AccS :=
  if v.k = 0 then S else if S.fn = 14 then S.ends v else if S.fn = 15 then { S with v := v } else S.joined (joinV S.v v)

set_option maxHeartbeats 1000000 in
theorem lasting_feed0 (b : Nat) (S : AccS) (kd : Value) (v : Vl) (h0 : v.k = 0) :
    Turns 199 #[.agg #[], .pointer (some ⟨b, 0, none⟩), .agg #[.int .i64 (v).k, .int .i64 (v).n, .int .i64 (v).d, .string (v).t, .bool (v).b, .int .i64 (v).f]] b S S kd := by
  constructor
  intro w hA
  have hlt := hA.lt
  have k0 : (v.k == 0) = true := by simp [h0]
  have HA := Lib.hid ((hA.alloc (.cells #[] 91)).alloc (.cells #[.int .i64 v.k, .int .i64 v.n, .int .i64 v.d, .string v.t, .bool v.b, .int .i64 v.f] 33))
  clear hA h0
  go_enter Tryz.func199, Tryz.ntmps199
  go_wp2
  go_end0
  refine ⟨rfl, HA.out, ?_⟩
  repeat (first | with_reducible exact But.refl _ _ _ | with_reducible refine But.drewN ?_ _ | with_reducible refine But.drew ?_ | with_reducible refine But.setCell ?_ _ _ | with_reducible refine But.setNew ?_ (by (first | omega | (simp only [sz_alloc, sz_setCell, sz_drew, sz_drewN]; omega) | (simp; done) | (simp; omega))) _ | with_reducible refine But.alloc ?_ (by (first | omega | (simp only [sz_alloc, sz_setCell, sz_drew, sz_drewN]; omega) | (simp; done) | (simp; omega))) _ | with_reducible refine But.thenBelow ?_ ?_ (by with_reducible assumption) | with_reducible refine But.then ?_ ?_ (by with_reducible assumption) | (first | omega | (simp only [sz_alloc, sz_setCell, sz_drew, sz_drewN]; omega) | (simp; done) | (simp; omega)))
set_option maxHeartbeats 1000000 in
theorem lasting_feed14 (b : Nat) (S : AccS) (kd : Value) (v : Vl) (h0 : ¬ v.k = 0) (hf : S.fn = 14) :
    Turns 199 #[.agg #[], .pointer (some ⟨b, 0, none⟩), .agg #[.int .i64 (v).k, .int .i64 (v).n, .int .i64 (v).d, .string (v).t, .bool (v).b, .int .i64 (v).f]] b S (S.ends v) kd := by
  constructor
  intro w hA
  have hlt := hA.lt
  have hne : ¬ b = w.heap.size := by omega
  have hne' : ¬ w.heap.size = b := by omega
  have hne1 : ¬ b = w.heap.size + 1 := by omega
  have hne1' : ¬ w.heap.size + 1 = b := by omega
  have k0 : (v.k == 0) = false := by simp [h0]
  have m0 : w.cell? ⟨b, 0, none⟩ = some (.int .i64 14) := (hA.cell 0).trans (by rw [← hf]; rfl)
  have HA := Lib.hid ((hA.alloc (.cells #[] 91)).alloc (.cells #[.int .i64 v.k, .int .i64 v.n, .int .i64 v.d, .string v.t, .bool v.b, .int .i64 v.f] 33))
  clear hA h0 hf
  go_enter Tryz.func199, Tryz.ntmps199
  go_wp2_with fail
  refine (acc_end b S kd v _ HA.out).mono ?_
  rintro e w2 ⟨rfl, A2, hb2⟩
  have z1 := But.size hb2
  try simp only [sz_alloc, sz_setCell, sz_drew, sz_drewN] at z1
  go_wp2
  go_end0
  refine ⟨rfl, A2, ?_⟩
  repeat (first | with_reducible exact But.refl _ _ _ | with_reducible refine But.drewN ?_ _ | with_reducible refine But.drew ?_ | with_reducible refine But.setCell ?_ _ _ | with_reducible refine But.setNew ?_ (by (first | omega | (simp only [sz_alloc, sz_setCell, sz_drew, sz_drewN]; omega) | (simp; done) | (simp; omega))) _ | with_reducible refine But.alloc ?_ (by (first | omega | (simp only [sz_alloc, sz_setCell, sz_drew, sz_drewN]; omega) | (simp; done) | (simp; omega))) _ | with_reducible refine But.thenBelow ?_ ?_ (by with_reducible assumption) | with_reducible refine But.then ?_ ?_ (by with_reducible assumption) | (first | omega | (simp only [sz_alloc, sz_setCell, sz_drew, sz_drewN]; omega) | (simp; done) | (simp; omega)))
set_option maxHeartbeats 1000000 in
theorem lasting_feed15 (b : Nat) (S : AccS) (kd : Value) (v : Vl) (h0 : ¬ v.k = 0) (hf : S.fn = 15) :
    Turns 199 #[.agg #[], .pointer (some ⟨b, 0, none⟩), .agg #[.int .i64 (v).k, .int .i64 (v).n, .int .i64 (v).d, .string (v).t, .bool (v).b, .int .i64 (v).f]] b S { S with v := v } kd := by
  constructor
  intro w hA
  have hlt := hA.lt
  have hne : ¬ b = w.heap.size := by omega
  have hne' : ¬ w.heap.size = b := by omega
  have hne1 : ¬ b = w.heap.size + 1 := by omega
  have hne1' : ¬ w.heap.size + 1 = b := by omega
  have k0 : (v.k == 0) = false := by simp [h0]
  have m0 : w.cell? ⟨b, 0, none⟩ = some (.int .i64 15) := (hA.cell 0).trans (by rw [← hf]; rfl)
  have a2 : w.cell? ⟨b, 4, none⟩ = some (.int .i64 S.v.k) := hA.cell 4
  have a3 : w.cell? ⟨b, 5, none⟩ = some (.int .i64 S.v.n) := hA.cell 5
  have a4 : w.cell? ⟨b, 6, none⟩ = some (.int .i64 S.v.d) := hA.cell 6
  have a5 : w.cell? ⟨b, 7, none⟩ = some (.string S.v.t) := hA.cell 7
  have a6 : w.cell? ⟨b, 8, none⟩ = some (.bool S.v.b) := hA.cell 8
  have a7 : w.cell? ⟨b, 9, none⟩ = some (.int .i64 S.v.f) := hA.cell 9
  have fz := hA.free
  have HA := Lib.hid hA
  clear hA h0 hf
  go_enter Tryz.func199, Tryz.ntmps199
  go_wp2
  go_end0
  refine ⟨rfl, (((((((((HA.out.set 4 _).set 5 _).set 6 _).set 7 _).set 8 _).set 9 _).cast (by simp only [accArr, List.setIfInBounds_toArray, List.set_cons_zero, List.set_cons_succ])).alloc _).alloc _), ?_⟩
  repeat (first | with_reducible exact But.refl _ _ _ | with_reducible refine But.drewN ?_ _ | with_reducible refine But.drew ?_ | with_reducible refine But.setCell ?_ _ _ | with_reducible refine But.setNew ?_ (by (first | omega | (simp only [sz_alloc, sz_setCell, sz_drew, sz_drewN]; omega) | (simp; done) | (simp; omega))) _ | with_reducible refine But.alloc ?_ (by (first | omega | (simp only [sz_alloc, sz_setCell, sz_drew, sz_drewN]; omega) | (simp; done) | (simp; omega))) _ | with_reducible refine But.thenBelow ?_ ?_ (by with_reducible assumption) | with_reducible refine But.then ?_ ?_ (by with_reducible assumption) | (first | omega | (simp only [sz_alloc, sz_setCell, sz_drew, sz_drewN]; omega) | (simp; done) | (simp; omega)))
set_option maxHeartbeats 2000000 in
theorem lasting_feed11 (b : Nat) (S : AccS) (kd : Value) (v : Vl) (h0 : ¬ v.k = 0) (hf : S.fn = 11) (hx : v.In) (hS : S.v.In) :
    TurnsI Pow10 199 #[.agg #[], .pointer (some ⟨b, 0, none⟩), .agg #[.int .i64 (v).k, .int .i64 (v).n, .int .i64 (v).d, .string (v).t, .bool (v).b, .int .i64 (v).f]] b S (S.joined (joinV S.v v)) kd := by
  constructor
  intro w hp hA
  have hlt := hA.lt
  have hne : ¬ b = w.heap.size := by omega
  have hne' : ¬ w.heap.size = b := by omega
  have hne1 : ¬ b = w.heap.size + 1 := by omega
  have hne1' : ¬ w.heap.size + 1 = b := by omega
  have k0 : (v.k == 0) = false := by simp [h0]
  have m0 : w.cell? ⟨b, 0, none⟩ = some (.int .i64 11) := (hA.cell 0).trans (by rw [← hf]; rfl)
  have a8 : w.cell? ⟨b, 4, none⟩ = some (.int .i64 S.v.k) := hA.cell 4
  have a9 : w.cell? ⟨b, 5, none⟩ = some (.int .i64 S.v.n) := hA.cell 5
  have a10 : w.cell? ⟨b, 6, none⟩ = some (.int .i64 S.v.d) := hA.cell 6
  have a11 : w.cell? ⟨b, 7, none⟩ = some (.string S.v.t) := hA.cell 7
  have a12 : w.cell? ⟨b, 8, none⟩ = some (.bool S.v.b) := hA.cell 8
  have a13 : w.cell? ⟨b, 9, none⟩ = some (.int .i64 S.v.f) := hA.cell 9
  have a14 : w.cell? ⟨b, 17, none⟩ = some (.bool S.full) := hA.cell 17
  have fz := hA.free
  have HJ := Lib.hid fun (wx : World) (hb : Below w.heap.size w wx) => value_Join2 S.v v wx hS hx (hp.below hb)
  generalize joinV S.v v = J at *
  have HA := Lib.hid hA
  clear hA h0 hf hx hS hp
  go_enter Tryz.func199, Tryz.ntmps199
  go_upto_region 1 with (fail)
  first | with_reducible refine wp_rebase ?_ | with_reducible refine wpList_rebase ?_
  intro w1 hb'
  have hb := hb'.out
  clear hb'
  obtain ⟨s15, c15_0, c15_1, c15_2, c15_3, c15_4, c15_5, f15⟩ := L6 hb (w.heap.size + 1) (by first | omega | (simp only [sA, sC, sD, sE]; omega) | (simp; done) | (simp; omega)) (by go_simp; exact ⟨rfl, rfl, rfl, rfl, rfl, rfl⟩) (by intro o; go_simp)
  have A0 := Lib.hid (((HA.out.alloc _).alloc _).below hb)
  have hbw : Below w.heap.size w w1 := by
    focus
      repeat with_reducible first | exact Below.refl _ _ | refine below_drewN ?_ _ | refine Below.drew ?_ | refine Below.setCell ?_ ?_ _ | refine Below.alloc ?_ ?_ _ | refine below_then ?_ ?_ (by with_reducible assumption)
      all_goals first | omega | (simp only [sA, sC, sD, sE]; omega) | (simp; done) | (simp; omega)
  have HK := Lib.hid fun wy hy => HJ.out wy (hbw.trans (Below.mono hy hbw.size))
  have hlt0 := A0.out.lt
  have z16 := Below.size hb
  try simp only [sz_alloc, sz_setCell, sz_drew, sz_drewN] at z16
  clear fz HJ
  have a17 : w1.cell? ⟨b, 4, none⟩ = some (.int .i64 S.v.k) := A0.out.cell 4
  have a18 : w1.cell? ⟨b, 5, none⟩ = some (.int .i64 S.v.n) := A0.out.cell 5
  have a19 : w1.cell? ⟨b, 6, none⟩ = some (.int .i64 S.v.d) := A0.out.cell 6
  have a20 : w1.cell? ⟨b, 7, none⟩ = some (.string S.v.t) := A0.out.cell 7
  have a21 : w1.cell? ⟨b, 8, none⟩ = some (.bool S.v.b) := A0.out.cell 8
  have a22 : w1.cell? ⟨b, 9, none⟩ = some (.int .i64 S.v.f) := A0.out.cell 9
  have a23 : w1.cell? ⟨b, 17, none⟩ = some (.bool S.full) := A0.out.cell 17
  have HB0 := Lib.hid hbw
  clear hb hbw
  refine region_below 11 (by kernel_rfl) (by kernel_rfl) ?_
  simp only [List.take_succ_cons, List.take_zero, List.drop_succ_cons, List.drop_zero]
  repeat
    first | (refine q_run ?_ ?_; focus (go_simp; done)) | (refine q_skip ?_ ?_; focus (go_simp; done))
    try (apply Exists.intro; refine ⟨fun w' hw' => ?_, ?_⟩; focus (have hc := (bcell hw'.out).1; have hx0 := HK.out w' hw'.out; unfold Oper.quietAt; go_simp; (try go_ints); (first | rfl | (go_at_call 37; refine (hx0).mono ?_; rintro e w2 ⟨rfl, hb⟩; exact ⟨rfl, hw'.chain hb⟩))))
    intro K hK
    go_simp
    refine hK _ ?_
    clear hK K
  refine wpQuiet_nil ?_
  intro w1 hb'
  have hb := hb'.out
  clear hb'
  have A1 := Lib.hid (A0.out.below hb)
  have hlt1 := A1.out.lt
  have z24 := Below.size hb
  try simp only [sz_alloc, sz_setCell, sz_drew, sz_drewN] at z24
  have a25 : w1.cell? ⟨b, 4, none⟩ = some (.int .i64 S.v.k) := A1.out.cell 4
  have a26 : w1.cell? ⟨b, 5, none⟩ = some (.int .i64 S.v.n) := A1.out.cell 5
  have a27 : w1.cell? ⟨b, 6, none⟩ = some (.int .i64 S.v.d) := A1.out.cell 6
  have a28 : w1.cell? ⟨b, 7, none⟩ = some (.string S.v.t) := A1.out.cell 7
  have a29 : w1.cell? ⟨b, 8, none⟩ = some (.bool S.v.b) := A1.out.cell 8
  have a30 : w1.cell? ⟨b, 9, none⟩ = some (.int .i64 S.v.f) := A1.out.cell 9
  have a31 : w1.cell? ⟨b, 17, none⟩ = some (.bool S.full) := A1.out.cell 17
  have fz := A1.out.free
  have hB0 := HB0.out
  go_wp2
  go_end0
  refine ⟨rfl, ?_, ?_⟩
  · show Blk _ b (accArr { S with v := J, full := J.k == 4 } kd) _
    exact ((((((((A1.out.set 4 _).set 5 _).set 6 _).set 7 _).set 8 _).set 9 _).set 17 _).cast (by simp only [accArr, List.setIfInBounds_toArray, List.set_cons_zero, List.set_cons_succ]))
  repeat (first | with_reducible exact But.refl _ _ _ | with_reducible refine But.drewN ?_ _ | with_reducible refine But.drew ?_ | with_reducible refine But.setCell ?_ _ _ | with_reducible refine But.setNew ?_ (by (first | omega | (simp only [sz_alloc, sz_setCell, sz_drew, sz_drewN]; omega) | (simp; done) | (simp; omega))) _ | with_reducible refine But.alloc ?_ (by (first | omega | (simp only [sz_alloc, sz_setCell, sz_drew, sz_drewN]; omega) | (simp; done) | (simp; omega))) _ | with_reducible refine But.thenBelow ?_ ?_ (by with_reducible assumption) | with_reducible refine But.then ?_ ?_ (by with_reducible assumption) | (first | omega | (simp only [sz_alloc, sz_setCell, sz_drew, sz_drewN]; omega) | (simp; done) | (simp; omega)))
set_option maxHeartbeats 1000000 in
theorem lasting_cell {I : World → Prop} (hI : ∀ w w', Below w.heap.size w w' → I w → I w') (b : Nat) (S ST : AccS) (kd : Value) (v : Vl) (HM : TurnsI I 199 #[.agg #[], .pointer (some ⟨b, 0, none⟩), .agg #[.int .i64 (v).k, .int .i64 (v).n, .int .i64 (v).d, .string (v).t, .bool (v).b, .int .i64 (v).f]] b S ST kd) :
    TurnsI I 198 #[.agg #[], .pointer (some ⟨b, 0, none⟩), .agg #[.int .i64 (v).k, .int .i64 (v).n, .int .i64 (v).d, .string (v).t, .bool (v).b, .int .i64 (v).f]] b S ST kd := by
  constructor
  intro w hi hA
  have hlt := hA.lt
  have HA := Lib.hid ((hA.alloc (.cells #[] 91)).alloc (.cells #[.int .i64 v.k, .int .i64 v.n, .int .i64 v.d, .string v.t, .bool v.b, .int .i64 v.f] 33))
  have H2 := Lib.hid (HM.out _ (hI _ _ (((Below.refl w.heap.size w).alloc (Nat.le_refl _) (.cells #[] 91)).alloc (by simp) (.cells #[.int .i64 v.k, .int .i64 v.n, .int .i64 v.d, .string v.t, .bool v.b, .int .i64 v.f] 33)) hi) HA.out)
  clear hA
  go_enter Tryz.func198, Tryz.ntmps198
  go_wp2_with fail
  refine H2.out.mono ?_
  rintro e w1 ⟨rfl, A1, hb⟩
  have z32 := But.size hb
  try simp only [sz_alloc, sz_setCell, sz_drew, sz_drewN] at z32
  go_wp2
  go_end0
  refine ⟨rfl, A1, ?_⟩
  repeat (first | with_reducible exact But.refl _ _ _ | with_reducible refine But.drewN ?_ _ | with_reducible refine But.drew ?_ | with_reducible refine But.setCell ?_ _ _ | with_reducible refine But.setNew ?_ (by (first | omega | (simp only [sz_alloc, sz_setCell, sz_drew, sz_drewN]; omega) | (simp; done) | (simp; omega))) _ | with_reducible refine But.alloc ?_ (by (first | omega | (simp only [sz_alloc, sz_setCell, sz_drew, sz_drewN]; omega) | (simp; done) | (simp; omega))) _ | with_reducible refine But.thenBelow ?_ ?_ (by with_reducible assumption) | with_reducible refine But.then ?_ ?_ (by with_reducible assumption) | (first | omega | (simp only [sz_alloc, sz_setCell, sz_drew, sz_drewN]; omega) | (simp; done) | (simp; omega)))
theorem lasting_feed (b : Nat) (S : AccS) (kd : Value) (v : Vl) (hf : S.fn = 11 ∨ S.fn = 14 ∨ S.fn = 15) (hx : v.In) (hS : S.v.In) :
    TurnsI Pow10 199 #[.agg #[], .pointer (some ⟨b, 0, none⟩), .agg #[.int .i64 (v).k, .int .i64 (v).n, .int .i64 (v).d, .string (v).t, .bool (v).b, .int .i64 (v).f]] b S (S.feedV v) kd := by
  unfold AccS.feedV
  by_cases h0 : v.k = 0
  · rw [if_pos h0]; exact (lasting_feed0 b S kd v h0).toI
  rw [if_neg h0]
  rcases hf with hf | hf | hf
  · rw [if_neg (by omega), if_neg (by omega)]; exact lasting_feed11 b S kd v h0 hf hx hS
  · rw [if_pos hf]; exact (lasting_feed14 b S kd v h0 hf).toI
  · rw [if_neg (by omega), if_pos hf]; exact (lasting_feed15 b S kd v h0 hf).toI
set_option maxHeartbeats 1000000 in
theorem lasting_result (b : Nat) (S : AccS) (kd : Value) (w : World) (hA : Blk w b (accArr S kd) 57) :
    Calls Tryz.prog 200 #[.agg #[], .pointer (some ⟨b, 0, none⟩)] w fun e w' => e = .returned (.agg #[.int .i64 (S.v).k, .int .i64 (S.v).n, .int .i64 (S.v).d, .string (S.v).t, .bool (S.v).b, .int .i64 (S.v).f]) ∧ Below w.heap.size w w' := by
  have hlt := hA.lt
  have hne : ¬ b = w.heap.size := by omega
  have hne' : ¬ w.heap.size = b := by omega
  have hne1 : ¬ b = w.heap.size + 1 := by omega
  have hne1' : ¬ w.heap.size + 1 = b := by omega
  have a33 : w.cell? ⟨b, 4, none⟩ = some (.int .i64 S.v.k) := hA.cell 4
  have a34 : w.cell? ⟨b, 5, none⟩ = some (.int .i64 S.v.n) := hA.cell 5
  have a35 : w.cell? ⟨b, 6, none⟩ = some (.int .i64 S.v.d) := hA.cell 6
  have a36 : w.cell? ⟨b, 7, none⟩ = some (.string S.v.t) := hA.cell 7
  have a37 : w.cell? ⟨b, 8, none⟩ = some (.bool S.v.b) := hA.cell 8
  have a38 : w.cell? ⟨b, 9, none⟩ = some (.int .i64 S.v.f) := hA.cell 9
  clear hA
  go_enter Tryz.func200, Tryz.ntmps200
  go_wp2
  refine bodyPost_ret (v := .agg #[.int .i64 (S.v).k, .int .i64 (S.v).n, .int .i64 (S.v).d, .string (S.v).t, .bool (S.v).b, .int .i64 (S.v).f]) (by simp [results, Tryz.results200, go_sem]) rfl ⟨rfl, ?_⟩
  focus
    repeat with_reducible first | exact Below.refl _ _ | refine below_drewN ?_ _ | refine Below.drew ?_ | refine Below.setCell ?_ ?_ _ | refine Below.alloc ?_ ?_ _ | refine below_then ?_ ?_ (by with_reducible assumption)
    all_goals first | omega | (simp only [sA, sC, sD, sE]; omega) | (simp; done) | (simp; omega)
end Go.Proofs.YtnimenpfojcehaaGreatDoor
