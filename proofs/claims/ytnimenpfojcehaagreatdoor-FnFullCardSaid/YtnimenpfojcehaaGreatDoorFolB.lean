/- Walks of package funcs: GCD; what the folds of numbers do with any value, at any state, and what they come to. -/
import Derived.Test.YtnimenpfojcehaaGreatDoorFolA
import Derived.Test.YtnimenpfojcehaaGreatDoorRightN
namespace Go.Proofs.YtnimenpfojcehaaGreatDoor
open Go Go.RowKit Go.Maps
set_option linter.unusedSimpArgs false
set_option linter.unusedVariables false

set_option maxRecDepth 100000 in
set_option maxHeartbeats 1000000 in
theorem acc_takes13 (b : Nat) (S S' : AccS) (kd : Value) (n d : Int) (hf : S.fn = 13) (HM : Turns 189 #[.pointer (some ⟨b, 0, none⟩), .agg #[.int .i64 n, .int .i64 d]] b S S' kd) :
    Turns 182 #[.pointer (some ⟨b, 0, none⟩), .agg #[.int .i64 n, .int .i64 d]] b S S' kd := by
  constructor
  intro w hA
  have hlt := hA.lt
  have hne : ¬ b = w.heap.size := by omega
  have hne' : ¬ w.heap.size = b := by omega
  have HA := Lib.hid hA
  have hmm := @run_makeMap Tryz.prog
  have HF := Lib.hid hf
  clear hf
  go_enter Tryz.func182, Tryz.ntmps182
  have hm0 := World.ownsMap_made (w.alloc (.cells #[.int .i64 n, .int .i64 d] 31)) Tryz.prog 3 wayR
  rw [sz_alloc] at hm0
  go_wp2_with fail
  obtain ⟨v0, hr0, hown0, hg0⟩ := World.ownsMap.update hm0 keyI Tryz.underlying248 (by decide) (keyI_of (a := 1) (by decide)) (wayR_mk 183)
  rw [hr0]
  go_wp2_with fail
  obtain ⟨v1, hr1, hown1, hg1⟩ := World.ownsMap.update hown0 keyI Tryz.underlying248 (by decide) (keyI_of (a := 12) (by decide)) (wayR_mk 184)
  rw [hr1]
  go_wp2_with fail
  obtain ⟨v2, hr2, hown2, hg2⟩ := World.ownsMap.update hown1 keyI Tryz.underlying248 (by decide) (keyI_of (a := 7) (by decide)) (wayR_mk 185)
  rw [hr2]
  go_wp2_with fail
  obtain ⟨v3, hr3, hown3, hg3⟩ := World.ownsMap.update hown2 keyI Tryz.underlying248 (by decide) (keyI_of (a := 2) (by decide)) (wayR_mk 186)
  rw [hr3]
  go_wp2_with fail
  obtain ⟨v4, hr4, hown4, hg4⟩ := World.ownsMap.update hown3 keyI Tryz.underlying248 (by decide) (keyI_of (a := 5) (by decide)) (wayR_mk 187)
  rw [hr4]
  go_wp2_with fail
  obtain ⟨v5, hr5, hown5, hg5⟩ := World.ownsMap.update hown4 keyI Tryz.underlying248 (by decide) (keyI_of (a := 6) (by decide)) (wayR_mk 188)
  rw [hr5]
  go_wp2_with fail
  obtain ⟨v6, hr6, hown6, hg6⟩ := World.ownsMap.update hown5 keyI Tryz.underlying248 (by decide) (keyI_of (a := 13) (by decide)) (wayR_mk 189)
  rw [hr6]
  go_wp2_with fail
  have G := grown_trans (grown_trans (grown_trans (grown_trans (grown_trans (grown_trans hg0 hg1) hg2) hg3) hg4) hg5) hg6
  have A6 : Blk v6 b (accArr S kd) 57 := by unfold Blk; rw [G.block b (by simp; omega) (by simp; omega)]; exact (HA.out.alloc _).alloc _
  have N6 : Blk v6 w.heap.size #[.int .i64 n, .int .i64 d] 31 := by unfold Blk; rw [G.block _ (by simp; omega) (by simp)]; exact Blk.alloc (heap_alloc_new _ _) _
  have a0 : v6.cell? ⟨b, 0, none⟩ = some (.int .i64 13) := (A6.cell 0).trans (by rw [← HF.out]; rfl)
  have n0 : v6.cell? ⟨w.heap.size, 0, none⟩ = some (.int .i64 n) := N6.cell 0
  have n1 : v6.cell? ⟨w.heap.size, 1, none⟩ = some (.int .i64 d) := N6.cell 1
  have hl0 := A6.lt
  have hl1 := N6.lt
  have LK := fun (w' : World) (hw : Below v6.heap.size v6 w') => ways_found (K := 13) (m := 189) hown6 hw (by decide) (fun _ => rfl)
  clear hr0 hr1 hr2 hr3 hr4 hr5 hr6 hown0 hown1 hown2 hown3 hown4 hown5 hown6 hg0 hg1 hg2 hg3 hg4 hg5 hg6 hm0 hmm
  have hG := Lib.hid G
  have AA := Lib.hid A6
  clear G A6 N6
  refine region_below 9 (by kernel_rfl) (by kernel_rfl) ?_
  simp only [List.take_succ_cons, List.take_zero, List.drop_succ_cons, List.drop_zero]
  repeat
    first | (refine q_run ?_ ?_; focus (go_simp; done)) | (refine q_skip ?_ ?_; focus (go_simp; done))
    try (apply Exists.intro; refine ⟨fun w' hw' => ?_, ?_⟩; focus (have hc := (bcell hw'.out).1; have hx0 := LK w' hw'.out; unfold Oper.quietAt; go_simp; (try go_ints); (first | rfl)))
    intro K hK
    go_simp
    refine hK _ ?_
    clear hK K
  refine wpQuiet_nil ?_
  intro w1 hb'
  have hb := hb'.out
  clear hb'
  clear LK
  have A1 := AA.out.below hb
  have hs1 := hb.size
  go_wp2_with fail
  refine (HM.out _ A1).mono ?_
  rintro e w2 ⟨rfl, A2, hb2⟩
  go_wp2
  go_end0
  refine ⟨rfl, A2, ?_⟩
  have hs0 := hG.out.size
  simp only [sz_alloc] at hs0
  exact (((((But.refl w.heap.size b w).alloc (Nat.le_refl _) _).alloc (by simp) _).grown hG.out (by omega) (by simp only [sz_alloc]; omega)).thenBelow (by omega) hb).then (by omega) hb2

theorem whole_abs_bd (n d : Int) : 0 ≤ wholeN (absN n d).n (absN n d).d ∧ wholeN (absN n d).n (absN n d).d ≤ 1000000000000 := by
  have hb := tk_bd n d
  have hr := rightN_iff.1 (tk_right n d)
  have ha : rightN (absN n d).n (absN n d).d = true := by
    unfold absN
    rw [rightN_iff]
    simp only
    split
    · refine ⟨by omega, by omega, by omega, by omega, ?_⟩
      rw [Int.natAbs_neg]; exact hr.2.2.2.2
    · exact hr
  have h0 : 0 ≤ (absN n d).n := by unfold absN; simp only; split <;> omega
  have h1 := rightN_iff.1 ha
  unfold wholeN
  rw [tk_of ha]
  split <;> (try simp only) <;> omega
theorem abs_i64 (n d : Int) : I64 (absN n d).n ∧ I64 (absN n d).d := by
  have hb := tk_bd n d
  unfold absN
  simp only
  refine ⟨?_, ⟨by omega, by omega⟩⟩
  split <;> exact ⟨by omega, by omega⟩
set_option maxHeartbeats 1000000 in
theorem divides_no (b : Nat) (S : AccS) (kd : Value) (n d : Int) (h3 : I64 n) (h4 : I64 d) (hw : wholeB (absN n d).n (absN n d).d = false) :
    Turns 189 #[.pointer (some ⟨b, 0, none⟩), .agg #[.int .i64 n, .int .i64 d]] b S (S.ends (faultF 8)) kd := by
  constructor
  intro w hA
  have hlt := hA.lt
  have hne : ¬ b = w.heap.size := by omega
  have hne' : ¬ w.heap.size = b := by omega
  have HB := Lib.hid fun wx => num_Abs n d wx h3 h4
  have HW := Lib.hid fun wx => num_Whole (absN n d).n (absN n d).d wx (abs_i64 n d).1 (abs_i64 n d).2
  have HF := Lib.hid fun wx => value_Fault 8 wx
  simp only [hw] at HW
  generalize faultF 8 = Q at *
  generalize wholeN (absN n d).n (absN n d).d = k at *
  generalize absN n d = R at *
  have HA := Lib.hid (hA.alloc (.cells #[.int .i64 n, .int .i64 d] 31))
  clear hA h3 h4 hw
  go_enter Tryz.func189, Tryz.ntmps189
  go_wp2_with fail
  refine (HB.out _).mono ?_
  rintro e w1 ⟨rfl, hb⟩
  have A1 := Lib.hid (HA.out.below hb)
  have z1 := Below.size hb
  try simp only [sz_alloc, sz_setCell, sz_drew, sz_drewN] at z1
  go_wp2_with fail
  refine (HW.out _).mono ?_
  rintro e w2 ⟨rfl, hb2⟩
  have A2 := Lib.hid (A1.out.below hb2)
  have z2 := Below.size hb2
  try simp only [sz_alloc, sz_setCell, sz_drew, sz_drewN] at z2
  go_wp2_with fail
  refine (HF.out _).mono ?_
  rintro e w3 ⟨rfl, hb3⟩
  have A3 := Lib.hid (A2.out.below hb3)
  have z3 := Below.size hb3
  try simp only [sz_alloc, sz_setCell, sz_drew, sz_drewN] at z3
  go_wp2_with fail
  refine (acc_end b S kd Q _ A3.out).mono ?_
  rintro e w4 ⟨rfl, A4, hb4⟩
  have z4 := But.size hb4
  try simp only [sz_alloc, sz_setCell, sz_drew, sz_drewN] at z4
  go_wp2
  refine bodyPost_ret (results_none rfl _ _ _) rfl ?_
  refine ⟨rfl, A4, ?_⟩
  repeat (first | with_reducible exact But.refl _ _ _ | with_reducible refine But.drewN ?_ _ | with_reducible refine But.drew ?_ | with_reducible refine But.setCell ?_ _ _ | with_reducible refine But.setNew ?_ (by (first | omega | (simp only [sz_alloc, sz_setCell, sz_drew, sz_drewN]; omega) | (simp; done) | (simp; omega))) _ | with_reducible refine But.alloc ?_ (by (first | omega | (simp only [sz_alloc, sz_setCell, sz_drew, sz_drewN]; omega) | (simp; done) | (simp; omega))) _ | with_reducible refine But.thenBelow ?_ ?_ (by with_reducible assumption) | with_reducible refine But.then ?_ ?_ (by with_reducible assumption) | (first | omega | (simp only [sz_alloc, sz_setCell, sz_drew, sz_drewN]; omega) | (simp; done) | (simp; omega)))
set_option maxHeartbeats 2000000 in
theorem divides_ok (b : Nat) (S : AccS) (kd : Value) (n d : Int) (h1 : I64 S.n) (h2 : I64 S.d) (h3 : I64 n) (h4 : I64 d) (hw : wholeB (absN n d).n (absN n d).d = true) :
    Turns 189 #[.pointer (some ⟨b, 0, none⟩), .agg #[.int .i64 n, .int .i64 d]] b S (S.divides n d) kd := by
  constructor
  intro w hA
  have hlt := hA.lt
  have hne : ¬ b = w.heap.size := by omega
  have hne' : ¬ w.heap.size = b := by omega
  have HB := Lib.hid fun wx => num_Abs n d wx h3 h4
  have HW := Lib.hid fun wx => num_Whole (absN n d).n (absN n d).d wx (abs_i64 n d).1 (abs_i64 n d).2
  have HB2 := Lib.hid fun wx => num_Abs S.n S.d wx h1 h2
  have HW2 := Lib.hid fun wx => num_Whole (absN S.n S.d).n (absN S.n S.d).d wx (abs_i64 S.n S.d).1 (abs_i64 S.n S.d).2
  have HS : Hid (S.divides n d = { S with n := (Nat.gcd (wholeN (absN n d).n (absN n d).d).natAbs (wholeN (absN S.n S.d).n (absN S.n S.d).d).natAbs : Nat), d := 1 }) := by unfold Hid AccS.divides; rw [if_pos hw]
  generalize S.divides n d = S' at *
  simp only [hw] at HW
  have g1 := whole_abs_bd n d
  have g2 := whole_abs_bd S.n S.d
  generalize wholeN (absN n d).n (absN n d).d = k at *
  generalize wholeN (absN S.n S.d).n (absN S.n S.d).d = j at *
  generalize wholeB (absN S.n S.d).n (absN S.n S.d).d = jb at *
  generalize absN n d = R at *
  generalize absN S.n S.d = R2 at *
  obtain ⟨k, rfl⟩ : ∃ q : Nat, k = q := ⟨k.toNat, by omega⟩
  obtain ⟨j, rfl⟩ : ∃ q : Nat, j = q := ⟨j.toNat, by omega⟩
  simp only [Int.natAbs_natCast] at HS
  have HA := Lib.hid (hA.alloc (.cells #[.int .i64 n, .int .i64 d] 31))
  clear hA h1 h2 h3 h4 hw
  go_enter Tryz.func189, Tryz.ntmps189
  go_wp2_with fail
  refine (HB.out _).mono ?_
  rintro e w1 ⟨rfl, hb⟩
  have A1 := Lib.hid (HA.out.below hb)
  have z5 := Below.size hb
  try simp only [sz_alloc, sz_setCell, sz_drew, sz_drewN] at z5
  go_wp2_with fail
  refine (HW.out _).mono ?_
  rintro e w2 ⟨rfl, hb2⟩
  have A2 := Lib.hid (A1.out.below hb2)
  have m1 : w2.cell? ⟨b, 2, none⟩ = some (.int .i64 S.n) := A2.out.cell 2
  have m2 : w2.cell? ⟨b, 3, none⟩ = some (.int .i64 S.d) := A2.out.cell 3
  have l2 := A2.out.lt
  have z6 := Below.size hb2
  try simp only [sz_alloc, sz_setCell, sz_drew, sz_drewN] at z6
  go_wp2_with fail
  refine (HB2.out _).mono ?_
  rintro e w3 ⟨rfl, hb3⟩
  have A3 := Lib.hid (A2.out.below hb3)
  have z7 := Below.size hb3
  try simp only [sz_alloc, sz_setCell, sz_drew, sz_drewN] at z7
  go_wp2_with fail
  refine (HW2.out _).mono ?_
  rintro e w4 ⟨rfl, hb4⟩
  have A4 := Lib.hid (A3.out.below hb4)
  have m3 : w4.cell? ⟨b, 2, none⟩ = some (.int .i64 S.n) := A4.out.cell 2
  have m4 : w4.cell? ⟨b, 3, none⟩ = some (.int .i64 S.d) := A4.out.cell 3
  have fz := A4.out.free
  have l4 := A4.out.lt
  have z8 := Below.size hb4
  try simp only [sz_alloc, sz_setCell, sz_drew, sz_drewN] at z8
  go_wp2
  go_loopw [4, 6] (fun x y wr => ∃ p q : Nat, p ≤ 1000000000000 ∧ q ≤ 1000000000000 ∧ x = .int .i64 p ∧ y = .int .i64 q ∧ Nat.gcd p q = Nat.gcd k j ∧ ∃ n, wr = w4.drewN n) (fun x _ _ => (intOf x).toNat)
  case atStart => exact ⟨k, j, by omega, by omega, rfl, rfl, rfl, 0, rfl⟩
  case round =>
    obtain ⟨p, q, hp, hq, rfl, rfl, hg, m, rfl⟩ := hrel
    have HG := Lib.hid hg
    clear hg
    by_cases h : 0 < p
    · have hlt : q % p < p := Nat.mod_lt _ h
      go_wp2
      go_roundw
      case rel =>
        exact ⟨q % p, p, by omega, by omega, by simp, rfl, by rw [← HG.out, ← Nat.gcd_rec], m, rfl⟩
      case measure => simp [intOf]; omega
    · obtain rfl : p = 0 := by omega
      rw [Nat.gcd_zero_left] at HG
      go_wp2
      go_end0
      refine ⟨rfl, ?_, ?_⟩
      · rw [HS.out, ← HG.out]
        exact (((A4.out.drewN m).set 2 _).set 3 _).cast (by simp only [accArr, List.setIfInBounds_toArray, List.set_cons_zero, List.set_cons_succ])
      repeat (first | with_reducible exact But.refl _ _ _ | with_reducible refine But.drewN ?_ _ | with_reducible refine But.drew ?_ | with_reducible refine But.setCell ?_ _ _ | with_reducible refine But.setNew ?_ (by (first | omega | (simp only [sz_alloc, sz_setCell, sz_drew, sz_drewN]; omega) | (simp; done) | (simp; omega))) _ | with_reducible refine But.alloc ?_ (by (first | omega | (simp only [sz_alloc, sz_setCell, sz_drew, sz_drewN]; omega) | (simp; done) | (simp; omega))) _ | with_reducible refine But.thenBelow ?_ ?_ (by with_reducible assumption) | with_reducible refine But.then ?_ ?_ (by with_reducible assumption) | (first | omega | (simp only [sz_alloc, sz_setCell, sz_drew, sz_drewN]; omega) | (simp; done) | (simp; omega)))

theorem takes_of (b : Nat) (S : AccS) (kd : Value) (n d : Int) (hf : S.fn = 1 ∨ S.fn = 2 ∨ S.fn = 5 ∨ S.fn = 6 ∨ S.fn = 7 ∨ S.fn = 12 ∨ S.fn = 13) (h1 : I64 S.n) (h2 : I64 S.d) (h3 : I64 n) (h4 : I64 d) (hc0 : 0 ≤ S.count) (hc1 : S.count ≤ 9000000000000000000) :
    Turns 182 #[.pointer (some ⟨b, 0, none⟩), .agg #[.int .i64 n, .int .i64 d]] b S (S.takes n d) kd := by
  unfold AccS.takes
  rcases hf with hf | hf | hf | hf | hf | hf | hf
  · rw [if_pos hf]; exact acc_takes1 b S _ kd n d hf ⟨fun wx hx => acc_adds b S kd n d wx hx h1 h2 h3 h4⟩
  · rw [hf]; exact acc_takes2 b S _ kd n d hf ⟨fun wx hx => acc_multiplies b S kd n d wx hx h1 h2 h3 h4⟩
  · rw [hf]; exact acc_takes5 b S _ kd n d hf (acc_least b S kd n d h1 h2 h3 h4)
  · rw [hf]; exact acc_takes6 b S _ kd n d hf (acc_greatest b S kd n d h1 h2 h3 h4)
  · rw [hf]; exact acc_takes7 b S _ kd n d hf (acc_addsOne b S kd n d h1 h2 h3 h4 hc0 hc1)
  · rw [hf]; exact acc_takes12 b S _ kd n d hf (acc_addsSquare b S kd n d h1 h2 h3 h4)
  · rw [hf]
    refine acc_takes13 b S _ kd n d hf ?_
    cases hw : wholeB (absN n d).n (absN n d).d
    · have e : S.divides n d = S.ends (faultF 8) := by unfold AccS.divides; rw [if_neg (by simp [hw])]
      show Turns _ _ b S (S.divides n d) kd
      rw [e]
      exact divides_no b S kd n d h3 h4 hw
    · exact divides_ok b S kd n d h1 h2 h3 h4 hw
/-- What a fold of numbers does with an argument, a cell. -/
def AccS.feedN (S : AccS) (v : Vl) : AccS := if v.k = 0 then S else if (asNum v).e.k = 4 then S.ends (asNum v).e else S.takes (asNum v).n (asNum v).d
def AccS.cellN (S : AccS) (v : Vl) : AccS := if v.k = 1 then S.takes v.n v.d else if v.k = 4 then S.ends v else S
theorem asNum_i64 (v : Vl) (hx : v.In) : I64 (asNum v).n ∧ I64 (asNum v).d := by
  have h := right_in (tkV_right v)
  have z0 : I64 0 := ⟨by decide, by decide⟩
  have z1 : I64 1 := ⟨by decide, by decide⟩
  unfold asNum asNumT
  generalize tkV v = x at *
  split
  · exact ⟨h.n, h.d⟩
  · split
    · split
      · exact ⟨z1, z1⟩
      · exact ⟨z0, z1⟩
    · split
      · exact ⟨z0, z1⟩
      · split
        · split
          · rename_i hk
            have hb := rightN_iff.1 (readN_right hk)
            exact ⟨⟨by show _ ≤ (readN x.t.data.toList).n; omega, by show (readN x.t.data.toList).n ≤ _; omega⟩, ⟨by show _ ≤ (readN x.t.data.toList).d; omega, by show (readN x.t.data.toList).d ≤ _; omega⟩⟩
          · exact ⟨z0, z0⟩
        · exact ⟨z0, z0⟩
theorem numbers_feed (b : Nat) (S : AccS) (kd : Value) (v : Vl) (hx : v.In) (hf : S.fn = 1 ∨ S.fn = 2 ∨ S.fn = 5 ∨ S.fn = 6 ∨ S.fn = 7 ∨ S.fn = 12 ∨ S.fn = 13) (h1 : I64 S.n) (h2 : I64 S.d) (hc0 : 0 ≤ S.count) (hc1 : S.count ≤ 9000000000000000000) :
    Turns 180 #[.agg #[], .pointer (some ⟨b, 0, none⟩), .agg #[.int .i64 (v).k, .int .i64 (v).n, .int .i64 (v).d, .string (v).t, .bool (v).b, .int .i64 (v).f]] b S (S.feedN v) kd := by
  unfold AccS.feedN
  by_cases h0 : v.k = 0
  · rw [if_pos h0]; exact numbers_feed0 b S kd v hx h0
  · rw [if_neg h0]
    by_cases h4 : (asNum v).e.k = 4
    · rw [if_pos h4]; exact numbers_feed4 b S kd v hx h0 h4
    · rw [if_neg h4]
      have hi := asNum_i64 v hx
      exact numbers_feed1 b S _ kd v hx h0 h4 (takes_of b S kd _ _ hf h1 h2 hi.1 hi.2 hc0 hc1)
theorem numbers_cell (b : Nat) (S : AccS) (kd : Value) (v : Vl) (hx : v.In) (hf : S.fn = 1 ∨ S.fn = 2 ∨ S.fn = 5 ∨ S.fn = 6 ∨ S.fn = 7 ∨ S.fn = 12 ∨ S.fn = 13) (h1 : I64 S.n) (h2 : I64 S.d) (hc0 : 0 ≤ S.count) (hc1 : S.count ≤ 9000000000000000000) :
    Turns 179 #[.agg #[], .pointer (some ⟨b, 0, none⟩), .agg #[.int .i64 (v).k, .int .i64 (v).n, .int .i64 (v).d, .string (v).t, .bool (v).b, .int .i64 (v).f]] b S (S.cellN v) kd := by
  unfold AccS.cellN
  by_cases k1 : v.k = 1
  · rw [if_pos k1]; exact numbers_cell1 b S _ kd v k1 (takes_of b S kd _ _ hf h1 h2 hx.n hx.d hc0 hc1)
  · rw [if_neg k1]
    by_cases k4 : v.k = 4
    · rw [if_pos k4]; exact numbers_cell4 b S kd v k4
    · rw [if_neg k4]; exact numbers_cell0 b S kd v k1 k4
end Go.Proofs.YtnimenpfojcehaaGreatDoor
