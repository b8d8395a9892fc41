/- Walks of package value: Same. -/
import Derived.Test.YtnimenpfojcehaaGreatDoorCmpA
namespace Go.Proofs.YtnimenpfojcehaaGreatDoor
open Go Go.RowKit
set_option linter.unusedSimpArgs false
set_option linter.unusedVariables false

theorem cgB {a b : Bool} (h : a = b) : Ending.returned (.bool a) = Ending.returned (.bool b) := by rw [h]
def sameT (x y : Vl) : Bool := if x.k = y.k ∧ x.k ≠ 0 ∧ x.k ≠ 4 then cmpV x y == 0 else false
def sameV (a b : Vl) : Bool := sameT (tkV a) (tkV b)
set_option maxRecDepth 100000 in
set_option maxHeartbeats 4000000 in
theorem value_Same (k n d : Int) (t : ByteArray) (b : Bool) (f k' n' d' : Int) (t' : ByteArray) (b' : Bool) (f' : Int) (w : World) (hx : Vl.In ⟨k, n, d, t, b, f⟩) (hy : Vl.In ⟨k', n', d', t', b', f'⟩) :
    Calls Tryz.prog 204 #[.agg #[.int .i64 k, .int .i64 n, .int .i64 d, .string t, .bool b, .int .i64 f], .agg #[.int .i64 k', .int .i64 n', .int .i64 d', .string t', .bool b', .int .i64 f']] w fun e w' => e = .returned (.bool (sameV ⟨k, n, d, t, b, f⟩ ⟨k', n', d', t', b', f'⟩)) ∧ Below w.heap.size w w' := by
  have HT1 := Lib.hid fun wx => value_taken k n d t b f wx hx
  have HT2 := Lib.hid fun wx => value_taken k' n' d' t' b' f' wx hy
  have hx2 := tkV_right ⟨k, n, d, t, b, f⟩
  have hy2 := tkV_right ⟨k', n', d', t', b', f'⟩
  have HV : Hid (sameV ⟨k, n, d, t, b, f⟩ ⟨k', n', d', t', b', f'⟩ = sameT (tkV ⟨k, n, d, t, b, f⟩) (tkV ⟨k', n', d', t', b', f'⟩)) := rfl
  generalize sameV ⟨k, n, d, t, b, f⟩ ⟨k', n', d', t', b', f'⟩ = RES at *
  generalize tkV ⟨k, n, d, t, b, f⟩ = x at *
  generalize tkV ⟨k', n', d', t', b', f'⟩ = y at *
  have A0 := Lib.hid (show Blk ((w.alloc (.cells #[.int .i64 k, .int .i64 n, .int .i64 d, .string t, .bool b, .int .i64 f] 33)).alloc (.cells #[.int .i64 k', .int .i64 n', .int .i64 d', .string t', .bool b', .int .i64 f'] 33)) w.heap.size (vArr ⟨k, n, d, t, b, f⟩) 33 from Blk.alloc (heap_alloc_new _ _) _)
  have B0 : Hid (Blk ((w.alloc (.cells #[.int .i64 k, .int .i64 n, .int .i64 d, .string t, .bool b, .int .i64 f] 33)).alloc (.cells #[.int .i64 k', .int .i64 n', .int .i64 d', .string t', .bool b', .int .i64 f'] 33)) (w.heap.size + 1) (vArr ⟨k', n', d', t', b', f'⟩) 33) := by
    have h := heap_alloc_new (w.alloc (.cells #[.int .i64 k, .int .i64 n, .int .i64 d, .string t, .bool b, .int .i64 f] 33)) (.cells #[.int .i64 k', .int .i64 n', .int .i64 d', .string t', .bool b', .int .i64 f'] 33)
    rw [sz_alloc] at h
    exact h
  have W0 := Lib.hid (show Below w.heap.size w ((w.alloc (.cells #[.int .i64 k, .int .i64 n, .int .i64 d, .string t, .bool b, .int .i64 f] 33)).alloc (.cells #[.int .i64 k', .int .i64 n', .int .i64 d', .string t', .bool b', .int .i64 f'] 33)) from ((Below.refl _ _).alloc (Nat.le_refl _) _).alloc (by simp only [sz_alloc]; omega) _)
  go_enter Tryz.func204, Tryz.ntmps204
  go_wp2_with fail
  refine region_below 4 (by kernel_rfl) (by kernel_rfl) ?_
  simp only [List.take_succ_cons, List.take_zero, List.drop_succ_cons, List.drop_zero]
  repeat
    first | (refine q_run ?_ ?_; focus (go_simp; done)) | (refine q_skip ?_ ?_; focus (go_simp; done))
    try (apply Exists.intro; refine ⟨fun w' hw' => ?_, ?_⟩; focus (have hc := (bcell hw'.out).1; unfold Oper.quietAt; go_simp; (try go_ints); (first | rfl | (go_at_call 52; refine (HT1.out _).mono ?_; rintro e w2 ⟨rfl, hb⟩; exact ⟨rfl, hw'.chain hb⟩) | (go_at_call 52; refine (HT2.out _).mono ?_; rintro e w2 ⟨rfl, hb⟩; exact ⟨rfl, hw'.chain hb⟩))))
    intro K hK
    go_simp
    refine hK _ ?_
    clear hK K
  refine wpQuiet_nil ?_
  intro w1 hb'
  have hb := hb'.out
  clear hb'
  have A1 := A0.out.below hb
  have B1 := B0.out.below hb
  have W1 := W0.out.trans (hb.mono W0.out.size)
  have n1 : ¬ w.heap.size = w.heap.size + 1 := by omega
  have n2 : ¬ w.heap.size + 1 = w.heap.size := by omega
  obtain ⟨_, _, _, _, _, _⟩ := A1.v6
  have fa := A1.free
  have la := A1.lt
  have H1 := Lib.hid (And.intro A1 (And.intro B1 W1))
  clear A0 B0 W0 A1 B1 W1 hb
  refine wpList_cut ?_
  go_wp2
  unfold ThenL
  refine wpList_rebase ?_
  intro wS hb'
  have hbS := hb'.out
  clear hb'
  obtain ⟨A1, B1, W1⟩ := H1.out
  have A2 : Blk wS w.heap.size (vArr x) 33 := (Blk.cast ((((((A1.set 0 _).set 1 _).set 2 _).set 3 _).set 4 _).set 5 _) rfl).below hbS
  have B2 : Blk wS (w.heap.size + 1) (vArr ⟨k', n', d', t', b', f'⟩) 33 := ((((((B1.set_ne n2 _).set_ne n2 _).set_ne n2 _).set_ne n2 _).set_ne n2 _).set_ne n2 _).below hbS
  have g1 : w.heap.size ≤ w.heap.size := Nat.le_refl _
  have g2 : w.heap.size ≤ w.heap.size + 1 := Nat.le_succ _
  have W2 := ((((((W1.setCell g1 _).setCell g1 _).setCell g1 _).setCell g1 _).setCell g1 _).setCell g1 _).trans (hbS.mono (by have := W1.size; simp only [sz_setCell]; omega))
  clear H1 A1 B1 W1 hbS fa la
  obtain ⟨_, _, _, _, _, _⟩ := B2.v6
  have fb := B2.free
  have lb := B2.lt
  have H2 := Lib.hid (And.intro A2 (And.intro B2 W2))
  clear A2 B2 W2
  refine wpList_cut ?_
  go_wp2
  unfold ThenL
  refine wpList_rebase ?_
  intro wT hb'
  have hbS := hb'.out
  clear hb'
  obtain ⟨A2, B2, W2⟩ := H2.out
  have A3 : Blk wT w.heap.size (vArr x) 33 := ((((((A2.set_ne n1 _).set_ne n1 _).set_ne n1 _).set_ne n1 _).set_ne n1 _).set_ne n1 _).below hbS
  have B3 : Blk wT (w.heap.size + 1) (vArr y) 33 := (Blk.cast ((((((B2.set 0 _).set 1 _).set 2 _).set 3 _).set 4 _).set 5 _) rfl).below hbS
  have W3 := ((((((W2.setCell g2 _).setCell g2 _).setCell g2 _).setCell g2 _).setCell g2 _).setCell g2 _).trans (hbS.mono (by have := W2.size; simp only [sz_setCell]; omega))
  clear H2 A2 B2 W2 hbS fb lb
  obtain ⟨_, _, _, _, _, _⟩ := A3.v6
  obtain ⟨_, _, _, _, _, _⟩ := B3.v6
  have H3 := Lib.hid (And.intro A3 (And.intro B3 W3))
  have fa := A3.free
  have la := A3.lt
  clear A3 B3 W3
  have hix := (right_in hx2).k
  have hiy := (right_in hy2).k
  by_cases c1 : x.k = y.k
  · have e1 : (x.k == y.k) = true := by simp [c1]
    by_cases c2 : x.k = 0
    · have e2 : (x.k != 0) = false := by simp [c2]
      have HQ : Hid (false = RES) := by unfold Hid; rw [HV.out]; unfold sameT; simp [c2]
      clear c1 c2
      go_wp2
      go_ret
      exact ⟨cgB HQ.out, H3.out.2.2⟩
    have e2 : (x.k != 0) = true := by simp [c2]
    by_cases c3 : x.k = 4
    · have e3 : (x.k != 4) = false := by simp [c3]
      have HQ : Hid (false = RES) := by unfold Hid; rw [HV.out]; unfold sameT; simp [c3]
      clear c1 c2 c3
      go_wp2
      go_ret
      exact ⟨cgB HQ.out, H3.out.2.2⟩
    have e3 : (x.k != 4) = true := by simp [c3]
    have HQ : Hid ((cmpV x y == 0) = RES) := by unfold Hid; rw [HV.out]; unfold sameT; rw [if_pos ⟨c1, c2, c3⟩]
    have HC := Lib.hid fun wx => value_Cmp x.k x.n x.d x.t x.b x.f y.k y.n y.d y.t y.b y.f wx (right_in hx2) (right_in hy2)
    have ec : cmpV ⟨x.k, x.n, x.d, x.t, x.b, x.f⟩ ⟨y.k, y.n, y.d, y.t, y.b, y.f⟩ = cmpV x y := rfl
    rw [ec] at HC
    clear c1 c2 c3 ec
    generalize cmpV x y = C at *
    go_wp2_with fail
    refine (HC.out _).mono ?_
    rintro e w4 ⟨rfl, hb4⟩
    have W4 := H3.out.2.2.trans (hb4.mono H3.out.2.2.size)
    go_wp2
    go_ret
    exact ⟨cgB HQ.out, W4⟩
  · have e1 : (x.k == y.k) = false := by simp [c1]
    have HQ : Hid (false = RES) := by unfold Hid; rw [HV.out]; unfold sameT; simp [c1]
    clear c1
    go_wp2
    go_ret
    exact ⟨cgB HQ.out, H3.out.2.2⟩
end Go.Proofs.YtnimenpfojcehaaGreatDoor
