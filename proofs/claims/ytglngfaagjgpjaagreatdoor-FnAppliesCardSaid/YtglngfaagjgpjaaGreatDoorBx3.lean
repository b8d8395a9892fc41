/- Walks of package value, first part. Walks of package value, second part: the makers. Walks of the reference's package for values: Right, Of and the makers. -/
import Derived.Test.YtglngfaagjgpjaaGreatDoorNumX
import Derived.Test.YtglngfaagjgpjaaGreatDoorBx1
import Derived.Laws.StructEq
import Derived.Test.YtglngfaagjgpjaaGreatDoorRefA
namespace Go.Proofs.YtglngfaagjgpjaaGreatDoor
open Go.RowKit
set_option linter.unusedSimpArgs false
set_option linter.unusedVariables false

theorem eqF {P : Program} {dp : Nat} {xs ys : Array Value} {f : Field} {fs : List Field} {a b : Value} {r s : Bool} {w : World} (hn : f.name ≠ "_")
    (ha : (part f.type xs f.offset).run P w = .ok a w) (hb : (part f.type ys f.offset).run P w = .ok b w) (he : (Op.equalIn dp f.type a b).run P w = .ok r w)
    (hr : (Op.eqFields dp xs ys fs).run P w = .ok s w) : (Op.eqFields dp xs ys (f :: fs)).run P w = .ok (r && s) w := by
  simp only [Op.eqFields, if_pos hn, Sem.run_bind, ha, hb, he, Result.andThen_ok]
  cases r
  · simp
  · simpa using hr
theorem eqF0 {P : Program} {dp : Nat} {xs ys : Array Value} {w : World} : (Op.eqFields dp xs ys []).run P w = .ok true w := by simp [Op.eqFields]
theorem eqN (dp : Nat) (w : World) (n d n' d' : Int) :
    (Op.equalIn (dp + 2) 24 (.agg #[.int .i64 n, .int .i64 d]) (.agg #[.int .i64 n', .int .i64 d'])).run Tryz.prog w = .ok (n == n' && (d == d' && true)) w := by
  rw [run_equalIn_struct (P := Tryz.prog) w (dp + 1) 24 _ _ (by simp [Program.fieldsOf, Tryz.underlying24]) (by kernel_rfl)]
  simp only [Program.fieldsOf, Tryz.underlying24]
  exact eqF (by decide) (by go_simp; rfl) (by go_simp; rfl) (by go_simp) (eqF (by decide) (by go_simp; rfl) (by go_simp; rfl) (by go_simp) eqF0)
theorem eqV (dp : Nat) (w : World) (k n d : Int) (t : ByteArray) (b : Bool) (f k' n' d' : Int) (t' : ByteArray) (b' : Bool) (f' : Int) :
    (Op.equalIn (dp + 3) 26 (.agg #[.int .i64 k, .int .i64 n, .int .i64 d, .string t, .bool b, .int .i64 f]) (.agg #[.int .i64 k', .int .i64 n', .int .i64 d', .string t', .bool b', .int .i64 f'])).run Tryz.prog w
      = .ok (k == k' && ((n == n' && (d == d' && true)) && (t.toList == t'.toList && (b == b' && (f == f' && true))))) w := by
  rw [run_equalIn_struct (P := Tryz.prog) w (dp + 2) 26 _ _ (by simp [Program.fieldsOf, Tryz.underlying26]) (by kernel_rfl)]
  simp only [Program.fieldsOf, Tryz.underlying26]
  exact eqF (by decide) (by go_simp; rfl) (by go_simp; rfl) (by go_simp) (eqF (by decide) (by go_simp) (by go_simp) (eqN dp w _ _ _ _)
    (eqF (by decide) (by go_simp; rfl) (by go_simp; rfl) (by go_simp) (eqF (by decide) (by go_simp; rfl) (by go_simp; rfl) (by go_simp) (eqF (by decide) (by go_simp; rfl) (by go_simp; rfl) (by go_simp) eqF0))))
theorem toList_inj {a b : ByteArray} (h : a.toList = b.toList) : a = b := by
  rw [ByteArray.toList_eq, ByteArray.toList_eq] at h
  obtain ⟨⟨x⟩⟩ := a
  obtain ⟨⟨y⟩⟩ := b
  simp at h
  rw [h]
theorem veq_mk (k n d : Int) (t : ByteArray) (b : Bool) (f k' n' d' : Int) (t' : ByteArray) (b' : Bool) (f' : Int) :
    (k == k' && (n == n' && d == d' && (t.toList == t'.toList && (b == b' && f == f')))) = veq ⟨k, n, d, t, b, f⟩ ⟨k', n', d', t', b', f'⟩ := by
  rw [Bool.eq_iff_iff]
  unfold veq
  simp only [Bool.and_eq_true, beq_iff_eq, decide_eq_true_eq, Vl.mk.injEq]
  constructor
  · rintro ⟨h1, ⟨h2, h3⟩, h4, h5, h6⟩; exact ⟨h1, h2, h3, toList_inj h4, h5, h6⟩
  · rintro ⟨h1, h2, h3, h4, h5, h6⟩; exact ⟨h1, ⟨h2, h3⟩, by rw [h4], h5, h6⟩
/-- '==' of two values, as one Bool. -/
@[go_sem high] theorem run_eqV (w : World) (k n d : Int) (t : ByteArray) (b : Bool) (f k' n' d' : Int) (t' : ByteArray) (b' : Bool) (f' : Int) :
    (binOp .eql 26 (.agg #[.int .i64 k, .int .i64 n, .int .i64 d, .string t, .bool b, .int .i64 f]) (.agg #[.int .i64 k', .int .i64 n', .int .i64 d', .string t', .bool b', .int .i64 f'])).run Tryz.prog w
      = .ok (.bool (veq ⟨k, n, d, t, b, f⟩ ⟨k', n', d', t', b', f'⟩)) w := by
  simp only [binOp, Op.equal, Op.maxDepth]
  rw [← veq_mk]
  simp [eqV]
@[go_sem high] theorem run_neV (w : World) (k n d : Int) (t : ByteArray) (b : Bool) (f k' n' d' : Int) (t' : ByteArray) (b' : Bool) (f' : Int) :
    (binOp .neq 26 (.agg #[.int .i64 k, .int .i64 n, .int .i64 d, .string t, .bool b, .int .i64 f]) (.agg #[.int .i64 k', .int .i64 n', .int .i64 d', .string t', .bool b', .int .i64 f'])).run Tryz.prog w
      = .ok (.bool (!veq ⟨k, n, d, t, b, f⟩ ⟨k', n', d', t', b', f'⟩)) w := by
  simp only [binOp, Op.equal, Op.maxDepth]
  rw [← veq_mk]
  simp [eqV]

set_option maxHeartbeats 400000 in
theorem value_plain (t : ByteArray) (w : World) (ht : t.size ≤ 140737488351232) :
    Calls Tryz.prog 54 #[.string t] w fun e w' => e = .returned (.bool (plainT t)) ∧ w = w' := by
  go_enter Tryz.func54, Tryz.ntmps54
  go_wp2
  go_loop [6] (fun i => ∃ k : Nat, k ≤ t.size ∧ i = .int .i64 k ∧ Hid ((t.data.toList.take k).all okc = true)) (fun i => t.size - (intOf i).toNat)
  case atStart => exact ⟨0, Nat.zero_le _, rfl, rfl⟩
  case round =>
    obtain ⟨k, hk, rfl, HA⟩ := hrel
    by_cases hlt : k < t.size
    · by_cases h1 : (t[k].toNat : Int) < 32
      · have HP := Lib.hid (plain_no hlt (by unfold okc; simp; omega))
        go_wp2
        go_ret
        exact ⟨by rw [HP.out]; rfl, rfl⟩
      by_cases h2 : 126 < (t[k].toNat : Int)
      · have HP := Lib.hid (plain_no hlt (by unfold okc; simp; omega))
        go_wp2
        go_ret
        exact ⟨by rw [HP.out]; rfl, rfl⟩
      have HS := Lib.hid (plain_step hlt HA.out (by unfold okc; simp; omega))
      go_wp2
      go_round
      case rel => exact ⟨k + 1, by omega, by go_num, HS⟩
      case measure => simp [intOf]; omega
    · obtain rfl : k = t.size := by omega
      have HP := Lib.hid (plain_all HA.out)
      go_wp2
      go_ret
      exact ⟨by rw [HP.out]; rfl, rfl⟩

set_option maxHeartbeats 1000000 in
theorem value_Right (k n d : Int) (t : ByteArray) (b : Bool) (f : Int) (w : World) (hx : Vl.In ⟨k, n, d, t, b, f⟩) :
    Calls Tryz.prog 21 #[.agg #[.int .i64 k, .int .i64 n, .int .i64 d, .string t, .bool b, .int .i64 f]] w fun e w' => e = .returned (.bool (rightV ⟨k, n, d, t, b, f⟩)) ∧ Below w.heap.size w w' := by
  have hn := hx.n
  have hd := hx.d
  have ht := hx.t
  simp only at hn hd ht
  by_cases h0 : k = 0
  · have HF : Hid (rightV ⟨k, n, d, t, b, f⟩ = veq ⟨k, n, d, t, b, f⟩ ⟨0, 0, 0, noT, false, 0⟩) := by unfold Hid rightV; rw [if_pos h0]; rfl
    have hk : (k == 0) = true := by simp [h0]
    clear h0
    go_enter Tryz.func21, Tryz.ntmps21
    go_wp2
    go_ret
    refine ⟨by rw [HF.out]; rfl, ?_⟩
    focus
      repeat with_reducible first | exact Below.refl _ _ | refine below_drewN ?_ _ | refine Below.drew ?_ | refine Below.setCell ?_ ?_ _ | refine Below.alloc ?_ ?_ _ | refine below_then ?_ ?_ (by with_reducible assumption)
      all_goals first | omega | (simp only [sA, sC, sD, sE]; omega) | (simp; done) | (simp; omega)
  by_cases h1 : k = 1
  · have HF : Hid (rightV ⟨k, n, d, t, b, f⟩ = (rightN n d && veq ⟨k, n, d, t, b, f⟩ ⟨1, n, d, noT, false, 0⟩)) := by unfold Hid rightV; rw [if_neg h0, if_pos h1]; rfl
    have k0 : (k == 0) = false := by simp [h0]
    have k1 : (k == 1) = true := by simp [h1]
    clear h0 h1
    cases hr : rightN n d
    all_goals
      rw [hr] at HF
      have HR := Lib.hid hr
      clear hr
      go_enter Tryz.func21, Tryz.ntmps21
      go_wp2_with fail
      refine (num_Right _ _ _ hn hd).mono ?_
      rintro e w1 ⟨rfl, hb⟩
      rw [HR.out]
      have c1 := lcc hb (w.heap.size) (by (first | omega | (simp only [sz_alloc, sz_setCell, sz_drew, sz_drewN]; omega) | (simp; done) | (simp; omega)))
      have f1 := lcf hb (w.heap.size) (by (first | omega | (simp only [sz_alloc, sz_setCell, sz_drew, sz_drewN]; omega) | (simp; done) | (simp; omega)))
      have s1 := lcs hb (w.heap.size) (by (first | omega | (simp only [sz_alloc, sz_setCell, sz_drew, sz_drewN]; omega) | (simp; done) | (simp; omega)))
      go_wp2
      go_ret
      refine ⟨by rw [HF.out]; rfl, ?_⟩
      focus
        repeat with_reducible first | exact Below.refl _ _ | refine below_drewN ?_ _ | refine Below.drew ?_ | refine Below.setCell ?_ ?_ _ | refine Below.alloc ?_ ?_ _ | refine below_then ?_ ?_ (by with_reducible assumption)
        all_goals first | omega | (simp only [sA, sC, sD, sE]; omega) | (simp; done) | (simp; omega)
  by_cases h2 : k = 2
  · have HF : Hid (rightV ⟨k, n, d, t, b, f⟩ = ((decide (t.size ≤ 256) && plainT t) && veq ⟨k, n, d, t, b, f⟩ ⟨2, 0, 0, t, false, 0⟩)) := by unfold Hid rightV; rw [if_neg h0, if_neg h1, if_pos h2]; rfl
    have k0 : (k == 0) = false := by simp [h0]
    have k1 : (k == 1) = false := by simp [h1]
    have k2 : (k == 2) = true := by simp [h2]
    clear h0 h1 h2
    by_cases hs : t.size ≤ 256
    · cases hp : plainT t
      all_goals
        rw [hp, decide_eq_true hs] at HF
        have HP := Lib.hid hp
        clear hp
        go_enter Tryz.func21, Tryz.ntmps21
        go_wp2_with fail
        refine (value_plain _ _ ht).mono ?_
        rintro e w1 ⟨rfl, rfl⟩
        rw [HP.out]
        go_wp2
        go_ret
        refine ⟨by rw [HF.out]; rfl, ?_⟩
        focus
          repeat with_reducible first | exact Below.refl _ _ | refine below_drewN ?_ _ | refine Below.drew ?_ | refine Below.setCell ?_ ?_ _ | refine Below.alloc ?_ ?_ _ | refine below_then ?_ ?_ (by with_reducible assumption)
          all_goals first | omega | (simp only [sA, sC, sD, sE]; omega) | (simp; done) | (simp; omega)
    · rw [decide_eq_false hs] at HF
      go_enter Tryz.func21, Tryz.ntmps21
      go_wp2
      go_ret
      refine ⟨by rw [HF.out]; rfl, ?_⟩
      focus
        repeat with_reducible first | exact Below.refl _ _ | refine below_drewN ?_ _ | refine Below.drew ?_ | refine Below.setCell ?_ ?_ _ | refine Below.alloc ?_ ?_ _ | refine below_then ?_ ?_ (by with_reducible assumption)
        all_goals first | omega | (simp only [sA, sC, sD, sE]; omega) | (simp; done) | (simp; omega)
  by_cases h3 : k = 3
  · have HF : Hid (rightV ⟨k, n, d, t, b, f⟩ = veq ⟨k, n, d, t, b, f⟩ ⟨3, 0, 0, noT, b, 0⟩) := by unfold Hid rightV; rw [if_neg h0, if_neg h1, if_neg h2, if_pos h3]; rfl
    have k0 : (k == 0) = false := by simp [h0]
    have k1 : (k == 1) = false := by simp [h1]
    have k2 : (k == 2) = false := by simp [h2]
    have k3 : (k == 3) = true := by simp [h3]
    clear h0 h1 h2 h3
    go_enter Tryz.func21, Tryz.ntmps21
    go_wp2
    go_ret
    refine ⟨by rw [HF.out]; rfl, ?_⟩
    focus
      repeat with_reducible first | exact Below.refl _ _ | refine below_drewN ?_ _ | refine Below.drew ?_ | refine Below.setCell ?_ ?_ _ | refine Below.alloc ?_ ?_ _ | refine below_then ?_ ?_ (by with_reducible assumption)
      all_goals first | omega | (simp only [sA, sC, sD, sE]; omega) | (simp; done) | (simp; omega)
  by_cases h4 : k = 4
  · have HF : Hid (rightV ⟨k, n, d, t, b, f⟩ = ((decide (1 ≤ f) && decide (f ≤ 8)) && veq ⟨k, n, d, t, b, f⟩ ⟨4, 0, 0, noT, false, f⟩)) := by unfold Hid rightV; rw [if_neg h0, if_neg h1, if_neg h2, if_neg h3, if_pos h4]; rfl
    have k0 : (k == 0) = false := by simp [h0]
    have k1 : (k == 1) = false := by simp [h1]
    have k2 : (k == 2) = false := by simp [h2]
    have k3 : (k == 3) = false := by simp [h3]
    have k4 : (k == 4) = true := by simp [h4]
    clear h0 h1 h2 h3 h4
    by_cases hf1 : 1 ≤ f
    · by_cases hf2 : f ≤ 8
      all_goals
        first | rw [decide_eq_true hf1, decide_eq_true hf2] at HF | rw [decide_eq_true hf1, decide_eq_false hf2] at HF
        go_enter Tryz.func21, Tryz.ntmps21
        go_wp2
        go_ret
        refine ⟨by rw [HF.out]; rfl, ?_⟩
        focus
          repeat with_reducible first | exact Below.refl _ _ | refine below_drewN ?_ _ | refine Below.drew ?_ | refine Below.setCell ?_ ?_ _ | refine Below.alloc ?_ ?_ _ | refine below_then ?_ ?_ (by with_reducible assumption)
          all_goals first | omega | (simp only [sA, sC, sD, sE]; omega) | (simp; done) | (simp; omega)
    · rw [decide_eq_false hf1] at HF
      go_enter Tryz.func21, Tryz.ntmps21
      go_wp2
      go_ret
      refine ⟨by rw [HF.out]; rfl, ?_⟩
      focus
        repeat with_reducible first | exact Below.refl _ _ | refine below_drewN ?_ _ | refine Below.drew ?_ | refine Below.setCell ?_ ?_ _ | refine Below.alloc ?_ ?_ _ | refine below_then ?_ ?_ (by with_reducible assumption)
        all_goals first | omega | (simp only [sA, sC, sD, sE]; omega) | (simp; done) | (simp; omega)
  have HF : Hid (rightV ⟨k, n, d, t, b, f⟩ = false) := by unfold Hid rightV; rw [if_neg h0, if_neg h1, if_neg h2, if_neg h3, if_neg h4]
  have k0 : (k == 0) = false := by simp [h0]
  have k1 : (k == 1) = false := by simp [h1]
  have k2 : (k == 2) = false := by simp [h2]
  have k3 : (k == 3) = false := by simp [h3]
  have k4 : (k == 4) = false := by simp [h4]
  clear h0 h1 h2 h3 h4
  go_enter Tryz.func21, Tryz.ntmps21
  go_wp2
  go_ret
  refine ⟨by rw [HF.out]; rfl, ?_⟩
  focus
    repeat with_reducible first | exact Below.refl _ _ | refine below_drewN ?_ _ | refine Below.drew ?_ | refine Below.setCell ?_ ?_ _ | refine Below.alloc ?_ ?_ _ | refine below_then ?_ ?_ (by with_reducible assumption)
    all_goals first | omega | (simp only [sA, sC, sD, sE]; omega) | (simp; done) | (simp; omega)
end Go.Proofs.YtglngfaagjgpjaaGreatDoor
namespace Go.Proofs.YtglngfaagjgpjaaGreatDoor
open Go.RowKit
set_option linter.unusedSimpArgs false
set_option linter.unusedVariables false

set_option maxHeartbeats 400000 in
theorem value_Fault (c : Int) (w : World) :
    Calls Tryz.prog 27 #[.int .i64 c] w fun e w' => e = .returned (.agg #[.int .i64 (faultF c).k, .int .i64 (faultF c).n, .int .i64 (faultF c).d, .string (faultF c).t, .bool (faultF c).b, .int .i64 (faultF c).f]) ∧ Below w.heap.size w w' := by
  by_cases h1 : c < 1
  · have HF : Hid (faultF c = faultV 2) := by unfold Hid faultF; rw [if_pos (Or.inl h1)]
    go_enter Tryz.func27, Tryz.ntmps27
    go_wp2
    refine bodyPost_ret (v := .agg #[.int .i64 (faultF c).k, .int .i64 (faultF c).n, .int .i64 (faultF c).d, .string (faultF c).t, .bool (faultF c).b, .int .i64 (faultF c).f]) (by rw [HF.out]; simp [results, Tryz.results27, go_sem, faultV, noT]) rfl ⟨rfl, ?_⟩
    focus
      repeat with_reducible first | exact Below.refl _ _ | refine below_drewN ?_ _ | refine Below.drew ?_ | refine Below.setCell ?_ ?_ _ | refine Below.alloc ?_ ?_ _ | refine below_then ?_ ?_ (by with_reducible assumption)
      all_goals first | omega | (simp only [sA, sC, sD, sE]; omega) | (simp; done) | (simp; omega)
  by_cases h2 : 8 < c
  · have HF : Hid (faultF c = faultV 2) := by unfold Hid faultF; rw [if_pos (Or.inr h2)]
    go_enter Tryz.func27, Tryz.ntmps27
    go_wp2
    refine bodyPost_ret (v := .agg #[.int .i64 (faultF c).k, .int .i64 (faultF c).n, .int .i64 (faultF c).d, .string (faultF c).t, .bool (faultF c).b, .int .i64 (faultF c).f]) (by rw [HF.out]; simp [results, Tryz.results27, go_sem, faultV, noT]) rfl ⟨rfl, ?_⟩
    focus
      repeat with_reducible first | exact Below.refl _ _ | refine below_drewN ?_ _ | refine Below.drew ?_ | refine Below.setCell ?_ ?_ _ | refine Below.alloc ?_ ?_ _ | refine below_then ?_ ?_ (by with_reducible assumption)
      all_goals first | omega | (simp only [sA, sC, sD, sE]; omega) | (simp; done) | (simp; omega)
  have HF : Hid (faultF c = faultV c) := by unfold Hid faultF; rw [if_neg (by omega)]
  go_enter Tryz.func27, Tryz.ntmps27
  go_wp2
  refine bodyPost_ret (v := .agg #[.int .i64 (faultF c).k, .int .i64 (faultF c).n, .int .i64 (faultF c).d, .string (faultF c).t, .bool (faultF c).b, .int .i64 (faultF c).f]) (by rw [HF.out]; simp [results, Tryz.results27, go_sem, faultV, noT]) rfl ⟨rfl, ?_⟩
  focus
    repeat with_reducible first | exact Below.refl _ _ | refine below_drewN ?_ _ | refine Below.drew ?_ | refine Below.setCell ?_ ?_ _ | refine Below.alloc ?_ ?_ _ | refine below_then ?_ ?_ (by with_reducible assumption)
    all_goals first | omega | (simp only [sA, sC, sD, sE]; omega) | (simp; done) | (simp; omega)

set_option maxHeartbeats 400000 in
theorem value_Truth (b : Bool) (w : World) :
    Calls Tryz.prog 30 #[.bool b] w fun e w' => e = .returned (.agg #[.int .i64 (truthV b).k, .int .i64 (truthV b).n, .int .i64 (truthV b).d, .string (truthV b).t, .bool (truthV b).b, .int .i64 (truthV b).f]) ∧ Below w.heap.size w w' := by
  go_enter Tryz.func30, Tryz.ntmps30
  go_wp2
  refine bodyPost_ret (v := .agg #[.int .i64 (truthV b).k, .int .i64 (truthV b).n, .int .i64 (truthV b).d, .string (truthV b).t, .bool (truthV b).b, .int .i64 (truthV b).f]) (by simp [results, Tryz.results30, go_sem, truthV, noT]) rfl ⟨rfl, ?_⟩
  focus
    repeat with_reducible first | exact Below.refl _ _ | refine below_drewN ?_ _ | refine Below.drew ?_ | refine Below.setCell ?_ ?_ _ | refine Below.alloc ?_ ?_ _ | refine below_then ?_ ?_ (by with_reducible assumption)
    all_goals first | omega | (simp only [sA, sC, sD, sE]; omega) | (simp; done) | (simp; omega)

set_option maxHeartbeats 400000 in
theorem value_Blank (w : World) :
    Calls Tryz.prog 128 #[] w fun e w' => e = .returned (.agg #[.int .i64 (blankV).k, .int .i64 (blankV).n, .int .i64 (blankV).d, .string (blankV).t, .bool (blankV).b, .int .i64 (blankV).f]) ∧ Below w.heap.size w w' := by
  go_enter Tryz.func128, Tryz.ntmps128
  go_wp2
  refine bodyPost_ret (v := .agg #[.int .i64 (blankV).k, .int .i64 (blankV).n, .int .i64 (blankV).d, .string (blankV).t, .bool (blankV).b, .int .i64 (blankV).f]) (by simp [results, Tryz.results128, go_sem, blankV, noT]) rfl ⟨rfl, ?_⟩
  focus
    repeat with_reducible first | exact Below.refl _ _ | refine below_drewN ?_ _ | refine Below.drew ?_ | refine Below.setCell ?_ ?_ _ | refine Below.alloc ?_ ?_ _ | refine below_then ?_ ?_ (by with_reducible assumption)
    all_goals first | omega | (simp only [sA, sC, sD, sE]; omega) | (simp; done) | (simp; omega)

set_option maxHeartbeats 400000 in
theorem value_number (n : Int) (w : World) :
    Calls Tryz.prog 130 #[.int .i64 n] w fun e w' => e = .returned (.agg #[.int .i64 n, .int .i64 1]) ∧ Below w.heap.size w w' := by
  go_enter Tryz.func130, Tryz.ntmps130
  go_wp2
  refine bodyPost_ret (v := .agg #[.int .i64 n, .int .i64 1]) (by simp [results, Tryz.results130, go_sem]) rfl ⟨rfl, ?_⟩
  focus
    repeat with_reducible first | exact Below.refl _ _ | refine below_drewN ?_ _ | refine Below.drew ?_ | refine Below.setCell ?_ ?_ _ | refine Below.alloc ?_ ?_ _ | refine below_then ?_ ?_ (by with_reducible assumption)
    all_goals first | omega | (simp only [sA, sC, sD, sE]; omega) | (simp; done) | (simp; omega)

set_option maxHeartbeats 400000 in
theorem value_word (b : Bool) (w : World) :
    Calls Tryz.prog 129 #[.bool b] w fun e w' => e = .returned (.string (wordT b)) ∧ w = w' := by
  cases b
  all_goals
    go_enter Tryz.func129, Tryz.ntmps129
    go_wp2
    go_ret
    exact ⟨rfl, rfl⟩

set_option maxHeartbeats 400000 in
theorem value_Text (t : ByteArray) (w : World) (ht : t.size ≤ 140737488351232) :
    Calls Tryz.prog 48 #[.string t] w fun e w' => e = .returned (.agg #[.int .i64 (textF t).k, .int .i64 (textF t).n, .int .i64 (textF t).d, .string (textF t).t, .bool (textF t).b, .int .i64 (textF t).f]) ∧ Below w.heap.size w w' := by
  cases hp : plainT t
  · have HF : Hid (textF t = faultF 2) := by unfold Hid textF; rw [if_neg (by simp [hp])]; rfl
    have HP := Lib.hid hp
    clear hp
    go_enter Tryz.func48, Tryz.ntmps48
    go_wp2_with fail
    refine (value_plain _ _ ht).mono ?_
    rintro e w1 ⟨rfl, rfl⟩
    rw [HP.out]
    go_wp2_with fail
    refine (value_Fault _ _).mono ?_
    rintro e w1 ⟨rfl, hb⟩
    have c1 := lcc hb (w.heap.size) (by (first | omega | (simp only [sz_alloc, sz_setCell, sz_drew, sz_drewN]; omega) | (simp; done) | (simp; omega)))
    have f1 := lcf hb (w.heap.size) (by (first | omega | (simp only [sz_alloc, sz_setCell, sz_drew, sz_drewN]; omega) | (simp; done) | (simp; omega)))
    have s1 := lcs hb (w.heap.size) (by (first | omega | (simp only [sz_alloc, sz_setCell, sz_drew, sz_drewN]; omega) | (simp; done) | (simp; omega)))
    go_wp2
    refine bodyPost_ret (v := .agg #[.int .i64 (textF t).k, .int .i64 (textF t).n, .int .i64 (textF t).d, .string (textF t).t, .bool (textF t).b, .int .i64 (textF t).f]) (by rw [HF.out]; simp [results, Tryz.results48, go_sem, c1]) rfl ⟨rfl, ?_⟩
    focus
      repeat with_reducible first | exact Below.refl _ _ | refine below_drewN ?_ _ | refine Below.drew ?_ | refine Below.setCell ?_ ?_ _ | refine Below.alloc ?_ ?_ _ | refine below_then ?_ ?_ (by with_reducible assumption)
      all_goals first | omega | (simp only [sA, sC, sD, sE]; omega) | (simp; done) | (simp; omega)
  by_cases hs : 256 < t.size
  · have HF : Hid (textF t = faultF 7) := by unfold Hid textF; rw [if_pos hp, if_pos hs]; rfl
    have HP := Lib.hid hp
    clear hp
    go_enter Tryz.func48, Tryz.ntmps48
    go_wp2_with fail
    refine (value_plain _ _ ht).mono ?_
    rintro e w1 ⟨rfl, rfl⟩
    rw [HP.out]
    go_wp2_with fail
    refine (value_Fault _ _).mono ?_
    rintro e w1 ⟨rfl, hb⟩
    have c2 := lcc hb (w.heap.size) (by (first | omega | (simp only [sz_alloc, sz_setCell, sz_drew, sz_drewN]; omega) | (simp; done) | (simp; omega)))
    have f2 := lcf hb (w.heap.size) (by (first | omega | (simp only [sz_alloc, sz_setCell, sz_drew, sz_drewN]; omega) | (simp; done) | (simp; omega)))
    have s2 := lcs hb (w.heap.size) (by (first | omega | (simp only [sz_alloc, sz_setCell, sz_drew, sz_drewN]; omega) | (simp; done) | (simp; omega)))
    go_wp2
    refine bodyPost_ret (v := .agg #[.int .i64 (textF t).k, .int .i64 (textF t).n, .int .i64 (textF t).d, .string (textF t).t, .bool (textF t).b, .int .i64 (textF t).f]) (by rw [HF.out]; simp [results, Tryz.results48, go_sem, c2]) rfl ⟨rfl, ?_⟩
    focus
      repeat with_reducible first | exact Below.refl _ _ | refine below_drewN ?_ _ | refine Below.drew ?_ | refine Below.setCell ?_ ?_ _ | refine Below.alloc ?_ ?_ _ | refine below_then ?_ ?_ (by with_reducible assumption)
      all_goals first | omega | (simp only [sA, sC, sD, sE]; omega) | (simp; done) | (simp; omega)
  have HF : Hid (textF t = textV t) := by unfold Hid textF; rw [if_pos hp, if_neg hs]
  have HP := Lib.hid hp
  clear hp
  go_enter Tryz.func48, Tryz.ntmps48
  go_wp2_with fail
  refine (value_plain _ _ ht).mono ?_
  rintro e w1 ⟨rfl, rfl⟩
  rw [HP.out]
  go_wp2
  refine bodyPost_ret (v := .agg #[.int .i64 (textF t).k, .int .i64 (textF t).n, .int .i64 (textF t).d, .string (textF t).t, .bool (textF t).b, .int .i64 (textF t).f]) (by rw [HF.out]; simp [results, Tryz.results48, go_sem, textV]) rfl ⟨rfl, ?_⟩
  focus
    repeat with_reducible first | exact Below.refl _ _ | refine below_drewN ?_ _ | refine Below.drew ?_ | refine Below.setCell ?_ ?_ _ | refine Below.alloc ?_ ?_ _ | refine below_then ?_ ?_ (by with_reducible assumption)
    all_goals first | omega | (simp only [sA, sC, sD, sE]; omega) | (simp; done) | (simp; omega)

set_option maxHeartbeats 400000 in
theorem value_Number (n d : Int) (w : World) (hn : I64 n) (hd : I64 d) :
    Calls Tryz.prog 76 #[.agg #[.int .i64 n, .int .i64 d]] w fun e w' => e = .returned (.agg #[.int .i64 (numF n d).k, .int .i64 (numF n d).n, .int .i64 (numF n d).d, .string (numF n d).t, .bool (numF n d).b, .int .i64 (numF n d).f]) ∧ Below w.heap.size w w' := by
  cases hr : rightN n d
  · have HF : Hid (numF n d = numV 0 1) := by unfold Hid numF tk; rw [hr]; rfl
    have HR := Lib.hid hr
    clear hr
    go_enter Tryz.func76, Tryz.ntmps76
    go_wp2_with fail
    refine (num_Right _ _ _ hn hd).mono ?_
    rintro e w1 ⟨rfl, hb⟩
    rw [HR.out]
    have c3 := lcc hb (w.heap.size) (by (first | omega | (simp only [sz_alloc, sz_setCell, sz_drew, sz_drewN]; omega) | (simp; done) | (simp; omega)))
    have f3 := lcf hb (w.heap.size) (by (first | omega | (simp only [sz_alloc, sz_setCell, sz_drew, sz_drewN]; omega) | (simp; done) | (simp; omega)))
    have s3 := lcs hb (w.heap.size) (by (first | omega | (simp only [sz_alloc, sz_setCell, sz_drew, sz_drewN]; omega) | (simp; done) | (simp; omega)))
    have c4 := lcc hb (w.heap.size + 1) (by (first | omega | (simp only [sz_alloc, sz_setCell, sz_drew, sz_drewN]; omega) | (simp; done) | (simp; omega)))
    have f4 := lcf hb (w.heap.size + 1) (by (first | omega | (simp only [sz_alloc, sz_setCell, sz_drew, sz_drewN]; omega) | (simp; done) | (simp; omega)))
    have s4 := lcs hb (w.heap.size + 1) (by (first | omega | (simp only [sz_alloc, sz_setCell, sz_drew, sz_drewN]; omega) | (simp; done) | (simp; omega)))
    go_wp2
    refine bodyPost_ret (v := .agg #[.int .i64 (numF n d).k, .int .i64 (numF n d).n, .int .i64 (numF n d).d, .string (numF n d).t, .bool (numF n d).b, .int .i64 (numF n d).f]) (by rw [HF.out]; simp [results, Tryz.results76, go_sem, c3, c4, numV, noT]) rfl ⟨rfl, ?_⟩
    focus
      repeat with_reducible first | exact Below.refl _ _ | refine below_drewN ?_ _ | refine Below.drew ?_ | refine Below.setCell ?_ ?_ _ | refine Below.alloc ?_ ?_ _ | refine below_then ?_ ?_ (by with_reducible assumption)
      all_goals first | omega | (simp only [sA, sC, sD, sE]; omega) | (simp; done) | (simp; omega)
  · have HF : Hid (numF n d = numV n d) := by unfold Hid numF tk; rw [hr]; rfl
    have HR := Lib.hid hr
    clear hr
    go_enter Tryz.func76, Tryz.ntmps76
    go_wp2_with fail
    refine (num_Right _ _ _ hn hd).mono ?_
    rintro e w1 ⟨rfl, hb⟩
    rw [HR.out]
    have c5 := lcc hb (w.heap.size) (by (first | omega | (simp only [sz_alloc, sz_setCell, sz_drew, sz_drewN]; omega) | (simp; done) | (simp; omega)))
    have f5 := lcf hb (w.heap.size) (by (first | omega | (simp only [sz_alloc, sz_setCell, sz_drew, sz_drewN]; omega) | (simp; done) | (simp; omega)))
    have s5 := lcs hb (w.heap.size) (by (first | omega | (simp only [sz_alloc, sz_setCell, sz_drew, sz_drewN]; omega) | (simp; done) | (simp; omega)))
    have c6 := lcc hb (w.heap.size + 1) (by (first | omega | (simp only [sz_alloc, sz_setCell, sz_drew, sz_drewN]; omega) | (simp; done) | (simp; omega)))
    have f6 := lcf hb (w.heap.size + 1) (by (first | omega | (simp only [sz_alloc, sz_setCell, sz_drew, sz_drewN]; omega) | (simp; done) | (simp; omega)))
    have s6 := lcs hb (w.heap.size + 1) (by (first | omega | (simp only [sz_alloc, sz_setCell, sz_drew, sz_drewN]; omega) | (simp; done) | (simp; omega)))
    go_wp2
    refine bodyPost_ret (v := .agg #[.int .i64 (numF n d).k, .int .i64 (numF n d).n, .int .i64 (numF n d).d, .string (numF n d).t, .bool (numF n d).b, .int .i64 (numF n d).f]) (by rw [HF.out]; simp [results, Tryz.results76, go_sem, c5, c6, numV, noT]) rfl ⟨rfl, ?_⟩
    focus
      repeat with_reducible first | exact Below.refl _ _ | refine below_drewN ?_ _ | refine Below.drew ?_ | refine Below.setCell ?_ ?_ _ | refine Below.alloc ?_ ?_ _ | refine below_then ?_ ?_ (by with_reducible assumption)
      all_goals first | omega | (simp only [sA, sC, sD, sE]; omega) | (simp; done) | (simp; omega)

set_option maxHeartbeats 400000 in
theorem value_told (n d : Int) (ok : Bool) (w : World) (hn : I64 n) (hd : I64 d) :
    Calls Tryz.prog 132 #[.agg #[.int .i64 n, .int .i64 d], .bool ok] w fun e w' => e = .returned (.agg #[.int .i64 (toldF n d ok).k, .int .i64 (toldF n d ok).n, .int .i64 (toldF n d ok).d, .string (toldF n d ok).t, .bool (toldF n d ok).b, .int .i64 (toldF n d ok).f]) ∧ Below w.heap.size w w' := by
  cases ok
  · have HF : Hid (toldF n d false = faultF 4) := rfl
    go_enter Tryz.func132, Tryz.ntmps132
    go_wp2_with fail
    refine (value_Fault _ _).mono ?_
    rintro e w1 ⟨rfl, hb⟩
    have c7 := lcc hb (w.heap.size + 1) (by (first | omega | (simp only [sz_alloc, sz_setCell, sz_drew, sz_drewN]; omega) | (simp; done) | (simp; omega)))
    have f7 := lcf hb (w.heap.size + 1) (by (first | omega | (simp only [sz_alloc, sz_setCell, sz_drew, sz_drewN]; omega) | (simp; done) | (simp; omega)))
    have s7 := lcs hb (w.heap.size + 1) (by (first | omega | (simp only [sz_alloc, sz_setCell, sz_drew, sz_drewN]; omega) | (simp; done) | (simp; omega)))
    go_wp2
    refine bodyPost_ret (v := .agg #[.int .i64 (toldF n d false).k, .int .i64 (toldF n d false).n, .int .i64 (toldF n d false).d, .string (toldF n d false).t, .bool (toldF n d false).b, .int .i64 (toldF n d false).f]) (by rw [HF.out]; simp [results, Tryz.results132, go_sem, c7]) rfl ⟨rfl, ?_⟩
    focus
      repeat with_reducible first | exact Below.refl _ _ | refine below_drewN ?_ _ | refine Below.drew ?_ | refine Below.setCell ?_ ?_ _ | refine Below.alloc ?_ ?_ _ | refine below_then ?_ ?_ (by with_reducible assumption)
      all_goals first | omega | (simp only [sA, sC, sD, sE]; omega) | (simp; done) | (simp; omega)
  · have HF : Hid (toldF n d true = numF n d) := rfl
    go_enter Tryz.func132, Tryz.ntmps132
    go_wp2_with fail
    refine (value_Number _ _ _ hn hd).mono ?_
    rintro e w1 ⟨rfl, hb⟩
    have c8 := lcc hb (w.heap.size + 1) (by (first | omega | (simp only [sz_alloc, sz_setCell, sz_drew, sz_drewN]; omega) | (simp; done) | (simp; omega)))
    have f8 := lcf hb (w.heap.size + 1) (by (first | omega | (simp only [sz_alloc, sz_setCell, sz_drew, sz_drewN]; omega) | (simp; done) | (simp; omega)))
    have s8 := lcs hb (w.heap.size + 1) (by (first | omega | (simp only [sz_alloc, sz_setCell, sz_drew, sz_drewN]; omega) | (simp; done) | (simp; omega)))
    go_wp2
    refine bodyPost_ret (v := .agg #[.int .i64 (toldF n d true).k, .int .i64 (toldF n d true).n, .int .i64 (toldF n d true).d, .string (toldF n d true).t, .bool (toldF n d true).b, .int .i64 (toldF n d true).f]) (by rw [HF.out]; simp [results, Tryz.results132, go_sem, c8]) rfl ⟨rfl, ?_⟩
    focus
      repeat with_reducible first | exact Below.refl _ _ | refine below_drewN ?_ _ | refine Below.drew ?_ | refine Below.setCell ?_ ?_ _ | refine Below.alloc ?_ ?_ _ | refine below_then ?_ ?_ (by with_reducible assumption)
      all_goals first | omega | (simp only [sA, sC, sD, sE]; omega) | (simp; done) | (simp; omega)

set_option maxHeartbeats 400000 in
theorem value_taken (k n d : Int) (t : ByteArray) (b : Bool) (f : Int) (w : World) (hx : Vl.In ⟨k, n, d, t, b, f⟩) :
    Calls Tryz.prog 62 #[.agg #[.int .i64 k, .int .i64 n, .int .i64 d, .string t, .bool b, .int .i64 f]] w fun e w' => e = .returned (.agg #[.int .i64 (tkV ⟨k, n, d, t, b, f⟩).k, .int .i64 (tkV ⟨k, n, d, t, b, f⟩).n, .int .i64 (tkV ⟨k, n, d, t, b, f⟩).d, .string (tkV ⟨k, n, d, t, b, f⟩).t, .bool (tkV ⟨k, n, d, t, b, f⟩).b, .int .i64 (tkV ⟨k, n, d, t, b, f⟩).f]) ∧ Below w.heap.size w w' := by
  cases hr : rightV ⟨k, n, d, t, b, f⟩
  · have HF : Hid (tkV ⟨k, n, d, t, b, f⟩ = faultF 2) := by unfold Hid tkV; rw [hr]; rfl
    have HR := Lib.hid hr
    clear hr
    go_enter Tryz.func62, Tryz.ntmps62
    go_wp2_with fail
    refine (value_Right _ _ _ _ _ _ _ hx).mono ?_
    rintro e w1 ⟨rfl, hb⟩
    rw [HR.out]
    have c9 := lcc hb (w.heap.size) (by (first | omega | (simp only [sz_alloc, sz_setCell, sz_drew, sz_drewN]; omega) | (simp; done) | (simp; omega)))
    have f9 := lcf hb (w.heap.size) (by (first | omega | (simp only [sz_alloc, sz_setCell, sz_drew, sz_drewN]; omega) | (simp; done) | (simp; omega)))
    have s9 := lcs hb (w.heap.size) (by (first | omega | (simp only [sz_alloc, sz_setCell, sz_drew, sz_drewN]; omega) | (simp; done) | (simp; omega)))
    have c10 := lcc hb (w.heap.size + 1) (by (first | omega | (simp only [sz_alloc, sz_setCell, sz_drew, sz_drewN]; omega) | (simp; done) | (simp; omega)))
    have f10 := lcf hb (w.heap.size + 1) (by (first | omega | (simp only [sz_alloc, sz_setCell, sz_drew, sz_drewN]; omega) | (simp; done) | (simp; omega)))
    have s10 := lcs hb (w.heap.size + 1) (by (first | omega | (simp only [sz_alloc, sz_setCell, sz_drew, sz_drewN]; omega) | (simp; done) | (simp; omega)))
    go_wp2_with fail
    refine (value_Fault _ _).mono ?_
    rintro e w2 ⟨rfl, hb2⟩
    have c11 := lcc hb2 (w.heap.size + 1) (by (first | omega | (simp only [sz_alloc, sz_setCell, sz_drew, sz_drewN]; omega) | (simp; done) | (simp; omega)))
    have f11 := lcf hb2 (w.heap.size + 1) (by (first | omega | (simp only [sz_alloc, sz_setCell, sz_drew, sz_drewN]; omega) | (simp; done) | (simp; omega)))
    have s11 := lcs hb2 (w.heap.size + 1) (by (first | omega | (simp only [sz_alloc, sz_setCell, sz_drew, sz_drewN]; omega) | (simp; done) | (simp; omega)))
    go_wp2
    refine bodyPost_ret (v := .agg #[.int .i64 (tkV ⟨k, n, d, t, b, f⟩).k, .int .i64 (tkV ⟨k, n, d, t, b, f⟩).n, .int .i64 (tkV ⟨k, n, d, t, b, f⟩).d, .string (tkV ⟨k, n, d, t, b, f⟩).t, .bool (tkV ⟨k, n, d, t, b, f⟩).b, .int .i64 (tkV ⟨k, n, d, t, b, f⟩).f]) (by rw [HF.out]; simp [results, Tryz.results62, go_sem, c9, c10, c11]) rfl ⟨rfl, ?_⟩
    focus
      repeat with_reducible first | exact Below.refl _ _ | refine below_drewN ?_ _ | refine Below.drew ?_ | refine Below.setCell ?_ ?_ _ | refine Below.alloc ?_ ?_ _ | refine below_then ?_ ?_ (by with_reducible assumption)
      all_goals first | omega | (simp only [sA, sC, sD, sE]; omega) | (simp; done) | (simp; omega)
  · have HF : Hid (tkV ⟨k, n, d, t, b, f⟩ = ⟨k, n, d, t, b, f⟩) := by unfold Hid tkV; rw [hr]; rfl
    have HR := Lib.hid hr
    clear hr
    go_enter Tryz.func62, Tryz.ntmps62
    go_wp2_with fail
    refine (value_Right _ _ _ _ _ _ _ hx).mono ?_
    rintro e w1 ⟨rfl, hb⟩
    rw [HR.out]
    have c12 := lcc hb (w.heap.size) (by (first | omega | (simp only [sz_alloc, sz_setCell, sz_drew, sz_drewN]; omega) | (simp; done) | (simp; omega)))
    have f12 := lcf hb (w.heap.size) (by (first | omega | (simp only [sz_alloc, sz_setCell, sz_drew, sz_drewN]; omega) | (simp; done) | (simp; omega)))
    have s12 := lcs hb (w.heap.size) (by (first | omega | (simp only [sz_alloc, sz_setCell, sz_drew, sz_drewN]; omega) | (simp; done) | (simp; omega)))
    have c13 := lcc hb (w.heap.size + 1) (by (first | omega | (simp only [sz_alloc, sz_setCell, sz_drew, sz_drewN]; omega) | (simp; done) | (simp; omega)))
    have f13 := lcf hb (w.heap.size + 1) (by (first | omega | (simp only [sz_alloc, sz_setCell, sz_drew, sz_drewN]; omega) | (simp; done) | (simp; omega)))
    have s13 := lcs hb (w.heap.size + 1) (by (first | omega | (simp only [sz_alloc, sz_setCell, sz_drew, sz_drewN]; omega) | (simp; done) | (simp; omega)))
    go_wp2
    refine bodyPost_ret (v := .agg #[.int .i64 (tkV ⟨k, n, d, t, b, f⟩).k, .int .i64 (tkV ⟨k, n, d, t, b, f⟩).n, .int .i64 (tkV ⟨k, n, d, t, b, f⟩).d, .string (tkV ⟨k, n, d, t, b, f⟩).t, .bool (tkV ⟨k, n, d, t, b, f⟩).b, .int .i64 (tkV ⟨k, n, d, t, b, f⟩).f]) (by rw [HF.out]; simp [results, Tryz.results62, go_sem, c12, c13]) rfl ⟨rfl, ?_⟩
    focus
      repeat with_reducible first | exact Below.refl _ _ | refine below_drewN ?_ _ | refine Below.drew ?_ | refine Below.setCell ?_ ?_ _ | refine Below.alloc ?_ ?_ _ | refine below_then ?_ ?_ (by with_reducible assumption)
      all_goals first | omega | (simp only [sA, sC, sD, sE]; omega) | (simp; done) | (simp; omega)
end Go.Proofs.YtglngfaagjgpjaaGreatDoor
namespace Go.Proofs.YtglngfaagjgpjaaGreatDoor
open Go Go.RowKit
set_option linter.unusedSimpArgs false
set_option linter.unusedVariables false
set_option maxHeartbeats 1000000 in
theorem r2_plain (t : ByteArray) (w : World) (ht : t.size ≤ 140737488351232) :
    Calls Tryz.prog 151 #[.string t] w fun e w' => e = .returned (.bool (plainT t)) ∧ w = w' := by
  go_enter Tryz.func151, Tryz.ntmps151
  go_wp2
  go_loop [3] (fun i => ∃ k : Nat, k ≤ t.size ∧ i = .int .i64 k ∧ Hid ((t.data.toList.take k).all okc = true)) (fun i => t.size - (intOf i).toNat)
  case atStart => exact ⟨0, Nat.zero_le _, rfl, rfl⟩
  case round =>
    obtain ⟨k, hk, rfl, HA⟩ := hrel
    by_cases hlt : k < t.size
    · by_cases h1 : (t[k].toNat : Int) < 32
      · have HP := Lib.hid (plain_no hlt (by unfold okc; simp; omega))
        go_wp2
        go_ret
        exact ⟨by rw [HP.out]; rfl, rfl⟩
      by_cases h2 : 126 < (t[k].toNat : Int)
      · have HP := Lib.hid (plain_no hlt (by unfold okc; simp; omega))
        go_wp2
        go_ret
        exact ⟨by rw [HP.out]; rfl, rfl⟩
      have HS := Lib.hid (plain_step hlt HA.out (by unfold okc; simp; omega))
      go_wp2
      go_round
      case rel => exact ⟨k + 1, by omega, by go_num, HS⟩
      case measure => simp [intOf]; omega
    · obtain rfl : k = t.size := by omega
      have HP := Lib.hid (plain_all HA.out)
      go_wp2
      go_ret
      exact ⟨by rw [HP.out]; rfl, rfl⟩

set_option maxHeartbeats 1000000 in
theorem r2_Right (k n d : Int) (t : ByteArray) (b : Bool) (f : Int) (w : World) (hx : Vl.In ⟨k, n, d, t, b, f⟩) :
    Calls Tryz.prog 85 #[.agg #[.int .i64 k, .int .i64 n, .int .i64 d, .string t, .bool b, .int .i64 f]] w fun e w' => e = .returned (.bool (rightV ⟨k, n, d, t, b, f⟩)) ∧ Below w.heap.size w w' := by
  have hn := hx.n
  have hd := hx.d
  have ht := hx.t
  simp only at hn hd ht
  by_cases h0 : k = 0
  · have HF : Hid (rightV ⟨k, n, d, t, b, f⟩ = veq ⟨k, n, d, t, b, f⟩ ⟨0, 0, 0, noT, false, 0⟩) := by unfold Hid rightV; rw [if_pos h0]; rfl
    have hk : (k == 0) = true := by simp [h0]
    clear h0
    go_enter Tryz.func85, Tryz.ntmps85
    go_wp2
    go_ret
    refine ⟨by rw [HF.out]; rfl, ?_⟩
    focus
      repeat with_reducible first | exact Below.refl _ _ | refine below_drewN ?_ _ | refine Below.drew ?_ | refine Below.setCell ?_ ?_ _ | refine Below.alloc ?_ ?_ _ | refine below_then ?_ ?_ (by with_reducible assumption)
      all_goals first | omega | (simp only [sA, sC, sD, sE]; omega) | (simp; done) | (simp; omega)
  by_cases h1 : k = 1
  · have HF : Hid (rightV ⟨k, n, d, t, b, f⟩ = (rightN n d && veq ⟨k, n, d, t, b, f⟩ ⟨1, n, d, noT, false, 0⟩)) := by unfold Hid rightV; rw [if_neg h0, if_pos h1]; rfl
    have k0 : (k == 0) = false := by simp [h0]
    have k1 : (k == 1) = true := by simp [h1]
    clear h0 h1
    cases hr : rightN n d
    all_goals
      rw [hr] at HF
      have HR := Lib.hid hr
      clear hr
      go_enter Tryz.func85, Tryz.ntmps85
      go_wp2_with fail
      refine (r1_Right _ _ _ hn hd).mono ?_
      rintro e w1 ⟨rfl, hb⟩
      rw [HR.out]
      have c1 := lcc hb (w.heap.size) (by (first | omega | (simp only [sz_alloc, sz_setCell, sz_drew, sz_drewN]; omega) | (simp; done) | (simp; omega)))
      have f1 := lcf hb (w.heap.size) (by (first | omega | (simp only [sz_alloc, sz_setCell, sz_drew, sz_drewN]; omega) | (simp; done) | (simp; omega)))
      have s1 := lcs hb (w.heap.size) (by (first | omega | (simp only [sz_alloc, sz_setCell, sz_drew, sz_drewN]; omega) | (simp; done) | (simp; omega)))
      go_wp2
      go_ret
      refine ⟨by rw [HF.out]; rfl, ?_⟩
      focus
        repeat with_reducible first | exact Below.refl _ _ | refine below_drewN ?_ _ | refine Below.drew ?_ | refine Below.setCell ?_ ?_ _ | refine Below.alloc ?_ ?_ _ | refine below_then ?_ ?_ (by with_reducible assumption)
        all_goals first | omega | (simp only [sA, sC, sD, sE]; omega) | (simp; done) | (simp; omega)
  by_cases h2 : k = 2
  · have HF : Hid (rightV ⟨k, n, d, t, b, f⟩ = ((decide (t.size ≤ 256) && plainT t) && veq ⟨k, n, d, t, b, f⟩ ⟨2, 0, 0, t, false, 0⟩)) := by unfold Hid rightV; rw [if_neg h0, if_neg h1, if_pos h2]; rfl
    have k0 : (k == 0) = false := by simp [h0]
    have k1 : (k == 1) = false := by simp [h1]
    have k2 : (k == 2) = true := by simp [h2]
    clear h0 h1 h2
    by_cases hs : t.size ≤ 256
    all_goals
      have hs' : decide (t.size ≤ 256) = decide ((t.size : Int) ≤ 256) := decide_eq_decide.2 (by omega)
      cases hp : plainT t
      all_goals
        first
          | rw [hp, decide_eq_true hs] at HF
          | rw [hp, decide_eq_false hs] at HF
        have HP := Lib.hid hp
        clear hp hs'
        go_enter Tryz.func85, Tryz.ntmps85
        go_wp2_with fail
        refine (r2_plain _ _ ht).mono ?_
        rintro e w1 ⟨rfl, rfl⟩
        rw [HP.out]
        go_wp2
        go_ret
        refine ⟨by rw [HF.out]; first | rfl | simp, ?_⟩
        focus
          repeat with_reducible first | exact Below.refl _ _ | refine below_drewN ?_ _ | refine Below.drew ?_ | refine Below.setCell ?_ ?_ _ | refine Below.alloc ?_ ?_ _ | refine below_then ?_ ?_ (by with_reducible assumption)
          all_goals first | omega | (simp only [sA, sC, sD, sE]; omega) | (simp; done) | (simp; omega)
  by_cases h3 : k = 3
  · have HF : Hid (rightV ⟨k, n, d, t, b, f⟩ = veq ⟨k, n, d, t, b, f⟩ ⟨3, 0, 0, noT, b, 0⟩) := by unfold Hid rightV; rw [if_neg h0, if_neg h1, if_neg h2, if_pos h3]; rfl
    have k0 : (k == 0) = false := by simp [h0]
    have k1 : (k == 1) = false := by simp [h1]
    have k2 : (k == 2) = false := by simp [h2]
    have k3 : (k == 3) = true := by simp [h3]
    clear h0 h1 h2 h3
    go_enter Tryz.func85, Tryz.ntmps85
    go_wp2
    go_ret
    refine ⟨by rw [HF.out]; rfl, ?_⟩
    focus
      repeat with_reducible first | exact Below.refl _ _ | refine below_drewN ?_ _ | refine Below.drew ?_ | refine Below.setCell ?_ ?_ _ | refine Below.alloc ?_ ?_ _ | refine below_then ?_ ?_ (by with_reducible assumption)
      all_goals first | omega | (simp only [sA, sC, sD, sE]; omega) | (simp; done) | (simp; omega)
  by_cases h4 : k = 4
  · have HF : Hid (rightV ⟨k, n, d, t, b, f⟩ = ((decide (1 ≤ f) && decide (f ≤ 8)) && veq ⟨k, n, d, t, b, f⟩ ⟨4, 0, 0, noT, false, f⟩)) := by unfold Hid rightV; rw [if_neg h0, if_neg h1, if_neg h2, if_neg h3, if_pos h4]; rfl
    have k0 : (k == 0) = false := by simp [h0]
    have k1 : (k == 1) = false := by simp [h1]
    have k2 : (k == 2) = false := by simp [h2]
    have k3 : (k == 3) = false := by simp [h3]
    have k4 : (k == 4) = true := by simp [h4]
    clear h0 h1 h2 h3 h4
    by_cases hf1 : 1 ≤ f
    · by_cases hf2 : f ≤ 8
      all_goals
        first | rw [decide_eq_true hf1, decide_eq_true hf2] at HF | rw [decide_eq_true hf1, decide_eq_false hf2] at HF
        go_enter Tryz.func85, Tryz.ntmps85
        go_wp2
        go_ret
        refine ⟨by rw [HF.out]; rfl, ?_⟩
        focus
          repeat with_reducible first | exact Below.refl _ _ | refine below_drewN ?_ _ | refine Below.drew ?_ | refine Below.setCell ?_ ?_ _ | refine Below.alloc ?_ ?_ _ | refine below_then ?_ ?_ (by with_reducible assumption)
          all_goals first | omega | (simp only [sA, sC, sD, sE]; omega) | (simp; done) | (simp; omega)
    · rw [decide_eq_false hf1] at HF
      go_enter Tryz.func85, Tryz.ntmps85
      go_wp2
      go_ret
      refine ⟨by rw [HF.out]; rfl, ?_⟩
      focus
        repeat with_reducible first | exact Below.refl _ _ | refine below_drewN ?_ _ | refine Below.drew ?_ | refine Below.setCell ?_ ?_ _ | refine Below.alloc ?_ ?_ _ | refine below_then ?_ ?_ (by with_reducible assumption)
        all_goals first | omega | (simp only [sA, sC, sD, sE]; omega) | (simp; done) | (simp; omega)
  have HF : Hid (rightV ⟨k, n, d, t, b, f⟩ = false) := by unfold Hid rightV; rw [if_neg h0, if_neg h1, if_neg h2, if_neg h3, if_neg h4]
  have k0 : (k == 0) = false := by simp [h0]
  have k1 : (k == 1) = false := by simp [h1]
  have k2 : (k == 2) = false := by simp [h2]
  have k3 : (k == 3) = false := by simp [h3]
  have k4 : (k == 4) = false := by simp [h4]
  clear h0 h1 h2 h3 h4
  go_enter Tryz.func85, Tryz.ntmps85
  go_wp2
  go_ret
  refine ⟨by rw [HF.out]; rfl, ?_⟩
  focus
    repeat with_reducible first | exact Below.refl _ _ | refine below_drewN ?_ _ | refine Below.drew ?_ | refine Below.setCell ?_ ?_ _ | refine Below.alloc ?_ ?_ _ | refine below_then ?_ ?_ (by with_reducible assumption)
    all_goals first | omega | (simp only [sA, sC, sD, sE]; omega) | (simp; done) | (simp; omega)

set_option maxHeartbeats 1000000 in
theorem r2_Fault (c : Int) (w : World) :
    Calls Tryz.prog 40 #[.int .i64 c] w fun e w' => e = .returned (.agg #[.int .i64 (faultF c).k, .int .i64 (faultF c).n, .int .i64 (faultF c).d, .string (faultF c).t, .bool (faultF c).b, .int .i64 (faultF c).f]) ∧ Below w.heap.size w w' := by
  by_cases h1 : c < 1
  · have HF : Hid (faultF c = faultV 2) := by unfold Hid faultF; rw [if_pos (Or.inl h1)]
    go_enter Tryz.func40, Tryz.ntmps40
    go_wp2
    refine bodyPost_ret (v := .agg #[.int .i64 (faultF c).k, .int .i64 (faultF c).n, .int .i64 (faultF c).d, .string (faultF c).t, .bool (faultF c).b, .int .i64 (faultF c).f]) (by rw [HF.out]; simp [results, Tryz.results40, go_sem, faultV, noT]) rfl ⟨rfl, ?_⟩
    focus
      repeat with_reducible first | exact Below.refl _ _ | refine below_drewN ?_ _ | refine Below.drew ?_ | refine Below.setCell ?_ ?_ _ | refine Below.alloc ?_ ?_ _ | refine below_then ?_ ?_ (by with_reducible assumption)
      all_goals first | omega | (simp only [sA, sC, sD, sE]; omega) | (simp; done) | (simp; omega)
  by_cases h2 : 8 < c
  · have HF : Hid (faultF c = faultV 2) := by unfold Hid faultF; rw [if_pos (Or.inr h2)]
    go_enter Tryz.func40, Tryz.ntmps40
    go_wp2
    refine bodyPost_ret (v := .agg #[.int .i64 (faultF c).k, .int .i64 (faultF c).n, .int .i64 (faultF c).d, .string (faultF c).t, .bool (faultF c).b, .int .i64 (faultF c).f]) (by rw [HF.out]; simp [results, Tryz.results40, go_sem, faultV, noT]) rfl ⟨rfl, ?_⟩
    focus
      repeat with_reducible first | exact Below.refl _ _ | refine below_drewN ?_ _ | refine Below.drew ?_ | refine Below.setCell ?_ ?_ _ | refine Below.alloc ?_ ?_ _ | refine below_then ?_ ?_ (by with_reducible assumption)
      all_goals first | omega | (simp only [sA, sC, sD, sE]; omega) | (simp; done) | (simp; omega)
  have HF : Hid (faultF c = faultV c) := by unfold Hid faultF; rw [if_neg (by omega)]
  go_enter Tryz.func40, Tryz.ntmps40
  go_wp2
  refine bodyPost_ret (v := .agg #[.int .i64 (faultF c).k, .int .i64 (faultF c).n, .int .i64 (faultF c).d, .string (faultF c).t, .bool (faultF c).b, .int .i64 (faultF c).f]) (by rw [HF.out]; simp [results, Tryz.results40, go_sem, faultV, noT]) rfl ⟨rfl, ?_⟩
  focus
    repeat with_reducible first | exact Below.refl _ _ | refine below_drewN ?_ _ | refine Below.drew ?_ | refine Below.setCell ?_ ?_ _ | refine Below.alloc ?_ ?_ _ | refine below_then ?_ ?_ (by with_reducible assumption)
    all_goals first | omega | (simp only [sA, sC, sD, sE]; omega) | (simp; done) | (simp; omega)

set_option maxHeartbeats 1000000 in
theorem r2_Truth (b : Bool) (w : World) :
    Calls Tryz.prog 42 #[.bool b] w fun e w' => e = .returned (.agg #[.int .i64 (truthV b).k, .int .i64 (truthV b).n, .int .i64 (truthV b).d, .string (truthV b).t, .bool (truthV b).b, .int .i64 (truthV b).f]) ∧ Below w.heap.size w w' := by
  go_enter Tryz.func42, Tryz.ntmps42
  go_wp2
  refine bodyPost_ret (v := .agg #[.int .i64 (truthV b).k, .int .i64 (truthV b).n, .int .i64 (truthV b).d, .string (truthV b).t, .bool (truthV b).b, .int .i64 (truthV b).f]) (by simp [results, Tryz.results42, go_sem, truthV, noT]) rfl ⟨rfl, ?_⟩
  focus
    repeat with_reducible first | exact Below.refl _ _ | refine below_drewN ?_ _ | refine Below.drew ?_ | refine Below.setCell ?_ ?_ _ | refine Below.alloc ?_ ?_ _ | refine below_then ?_ ?_ (by with_reducible assumption)
    all_goals first | omega | (simp only [sA, sC, sD, sE]; omega) | (simp; done) | (simp; omega)

set_option maxHeartbeats 1000000 in
theorem r2_Number (n d : Int) (w : World) (hn : I64 n) (hd : I64 d) :
    Calls Tryz.prog 92 #[.agg #[.int .i64 n, .int .i64 d]] w fun e w' => e = .returned (.agg #[.int .i64 (numF n d).k, .int .i64 (numF n d).n, .int .i64 (numF n d).d, .string (numF n d).t, .bool (numF n d).b, .int .i64 (numF n d).f]) ∧ Below w.heap.size w w' := by
  have HF : Hid (numF n d = numV (tk n d).n (tk n d).d) := rfl
  go_enter Tryz.func92, Tryz.ntmps92
  go_wp2_with fail
  refine (r1_Of _ _ _ hn hd).mono ?_
  rintro e w1 ⟨rfl, hb⟩
  obtain ⟨s2, c2_0, c2_1, f2⟩ := L2 hb (w.heap.size) (by first | omega | (simp only [sA, sC, sD, sE]; omega) | (simp; done) | (simp; omega)) (by go_simp; exact ⟨rfl, rfl⟩) (by intro o; go_simp)
  obtain ⟨s3, c3_0, c3_1, c3_2, c3_3, c3_4, c3_5, f3⟩ := L6 hb (w.heap.size + 1) (by first | omega | (simp only [sA, sC, sD, sE]; omega) | (simp; done) | (simp; omega)) (by go_simp; exact ⟨rfl, rfl, rfl, rfl, rfl, rfl⟩) (by intro o; go_simp)
  go_wp2
  refine bodyPost_ret (v := .agg #[.int .i64 (numF n d).k, .int .i64 (numF n d).n, .int .i64 (numF n d).d, .string (numF n d).t, .bool (numF n d).b, .int .i64 (numF n d).f]) (by rw [HF.out]; simp [results, Tryz.results92, go_sem, c2_0, c2_1, c3_0, c3_1, c3_2, c3_3, c3_4, c3_5, numV, noT]) rfl ⟨rfl, ?_⟩
  focus
    repeat with_reducible first | exact Below.refl _ _ | refine below_drewN ?_ _ | refine Below.drew ?_ | refine Below.setCell ?_ ?_ _ | refine Below.alloc ?_ ?_ _ | refine below_then ?_ ?_ (by with_reducible assumption)
    all_goals first | omega | (simp only [sA, sC, sD, sE]; omega) | (simp; done) | (simp; omega)

set_option maxHeartbeats 1000000 in
theorem r2_Of (k n d : Int) (t : ByteArray) (b : Bool) (f : Int) (w : World) (hx : Vl.In ⟨k, n, d, t, b, f⟩) :
    Calls Tryz.prog 41 #[.agg #[.int .i64 k, .int .i64 n, .int .i64 d, .string t, .bool b, .int .i64 f]] w fun e w' => e = .returned (.agg #[.int .i64 (tkV ⟨k, n, d, t, b, f⟩).k, .int .i64 (tkV ⟨k, n, d, t, b, f⟩).n, .int .i64 (tkV ⟨k, n, d, t, b, f⟩).d, .string (tkV ⟨k, n, d, t, b, f⟩).t, .bool (tkV ⟨k, n, d, t, b, f⟩).b, .int .i64 (tkV ⟨k, n, d, t, b, f⟩).f]) ∧ Below w.heap.size w w' := by
  cases hr : rightV ⟨k, n, d, t, b, f⟩
  · have HF : Hid (tkV ⟨k, n, d, t, b, f⟩ = faultV 2) := by unfold Hid tkV; rw [hr]; rfl
    have HR := Lib.hid hr
    clear hr
    go_enter Tryz.func41, Tryz.ntmps41
    go_wp2_with fail
    refine (r2_Right _ _ _ _ _ _ _ hx).mono ?_
    rintro e w1 ⟨rfl, hb⟩
    rw [HR.out]
    obtain ⟨s4, c4_0, c4_1, c4_2, c4_3, c4_4, c4_5, f4⟩ := L6 hb (w.heap.size) (by first | omega | (simp only [sA, sC, sD, sE]; omega) | (simp; done) | (simp; omega)) (by go_simp; exact ⟨rfl, rfl, rfl, rfl, rfl, rfl⟩) (by intro o; go_simp)
    obtain ⟨s5, c5_0, c5_1, c5_2, c5_3, c5_4, c5_5, f5⟩ := L6 hb (w.heap.size + 1) (by first | omega | (simp only [sA, sC, sD, sE]; omega) | (simp; done) | (simp; omega)) (by go_simp; exact ⟨rfl, rfl, rfl, rfl, rfl, rfl⟩) (by intro o; go_simp)
    go_wp2
    refine bodyPost_ret (v := .agg #[.int .i64 (tkV ⟨k, n, d, t, b, f⟩).k, .int .i64 (tkV ⟨k, n, d, t, b, f⟩).n, .int .i64 (tkV ⟨k, n, d, t, b, f⟩).d, .string (tkV ⟨k, n, d, t, b, f⟩).t, .bool (tkV ⟨k, n, d, t, b, f⟩).b, .int .i64 (tkV ⟨k, n, d, t, b, f⟩).f]) (by rw [HF.out]; simp [results, Tryz.results41, go_sem, c4_0, c4_1, c4_2, c4_3, c4_4, c4_5, c5_0, c5_1, c5_2, c5_3, c5_4, c5_5, faultV, noT]) rfl ⟨rfl, ?_⟩
    focus
      repeat with_reducible first | exact Below.refl _ _ | refine below_drewN ?_ _ | refine Below.drew ?_ | refine Below.setCell ?_ ?_ _ | refine Below.alloc ?_ ?_ _ | refine below_then ?_ ?_ (by with_reducible assumption)
      all_goals first | omega | (simp only [sA, sC, sD, sE]; omega) | (simp; done) | (simp; omega)
  · have HF : Hid (tkV ⟨k, n, d, t, b, f⟩ = ⟨k, n, d, t, b, f⟩) := by unfold Hid tkV; rw [hr]; rfl
    have HR := Lib.hid hr
    clear hr
    go_enter Tryz.func41, Tryz.ntmps41
    go_wp2_with fail
    refine (r2_Right _ _ _ _ _ _ _ hx).mono ?_
    rintro e w1 ⟨rfl, hb⟩
    rw [HR.out]
    obtain ⟨s6, c6_0, c6_1, c6_2, c6_3, c6_4, c6_5, f6⟩ := L6 hb (w.heap.size) (by first | omega | (simp only [sA, sC, sD, sE]; omega) | (simp; done) | (simp; omega)) (by go_simp; exact ⟨rfl, rfl, rfl, rfl, rfl, rfl⟩) (by intro o; go_simp)
    obtain ⟨s7, c7_0, c7_1, c7_2, c7_3, c7_4, c7_5, f7⟩ := L6 hb (w.heap.size + 1) (by first | omega | (simp only [sA, sC, sD, sE]; omega) | (simp; done) | (simp; omega)) (by go_simp; exact ⟨rfl, rfl, rfl, rfl, rfl, rfl⟩) (by intro o; go_simp)
    go_wp2
    refine bodyPost_ret (v := .agg #[.int .i64 (tkV ⟨k, n, d, t, b, f⟩).k, .int .i64 (tkV ⟨k, n, d, t, b, f⟩).n, .int .i64 (tkV ⟨k, n, d, t, b, f⟩).d, .string (tkV ⟨k, n, d, t, b, f⟩).t, .bool (tkV ⟨k, n, d, t, b, f⟩).b, .int .i64 (tkV ⟨k, n, d, t, b, f⟩).f]) (by rw [HF.out]; simp [results, Tryz.results41, go_sem, c6_0, c6_1, c6_2, c6_3, c6_4, c6_5, c7_0, c7_1, c7_2, c7_3, c7_4, c7_5]) rfl ⟨rfl, ?_⟩
    focus
      repeat with_reducible first | exact Below.refl _ _ | refine below_drewN ?_ _ | refine Below.drew ?_ | refine Below.setCell ?_ ?_ _ | refine Below.alloc ?_ ?_ _ | refine below_then ?_ ?_ (by with_reducible assumption)
      all_goals first | omega | (simp only [sA, sC, sD, sE]; omega) | (simp; done) | (simp; omega)
end Go.Proofs.YtglngfaagjgpjaaGreatDoor
