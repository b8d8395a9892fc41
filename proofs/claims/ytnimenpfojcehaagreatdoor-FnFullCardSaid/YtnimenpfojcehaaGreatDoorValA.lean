/- Walks of package value, first part. -/
import Derived.Test.YtnimenpfojcehaaGreatDoorNumX
import Derived.Test.YtnimenpfojcehaaGreatDoorBase
import Derived.Laws.StructEq
namespace Go.Proofs.YtnimenpfojcehaaGreatDoor
open Go.RowKit
set_option linter.unusedSimpArgs false
set_option linter.unusedVariables false

theorem eqF {P : Program} {dp : Nat} {xs ys : Array Value} {f : Field} {fs : List Field} {a b : Value} {r s : Bool} {w : World} (hn : f.name ≠ "_")
    (ha : (part f.type xs f.offset).run P w = .ok a w) (hb : (part f.type ys f.offset).run P w = .ok b w) (he : (Op.equalIn dp f.type a b).run P w = .ok r w)
    (hr : (Op.eqFields dp xs ys fs).run P w = .ok s w) : (Op.eqFields dp xs ys (f :: fs)).run P w = .ok (r && s) w := by
  simp only [Op.eqFields, if_pos hn, Sem.run_bind, ha, hb, he, Result.andThen_ok]
  cases r
  · simp
  · simpa using hr
theorem eqF0 {P : Program} {dp : Nat} {xs ys : Array Value} {w : World} : (Op.eqFields dp xs ys []).run P w = .ok true w := by simp [Op.eqFields]
theorem eqN (dp : Nat) (w : World) (n d n' d' : Int) :
    (Op.equalIn (dp + 2) 31 (.agg #[.int .i64 n, .int .i64 d]) (.agg #[.int .i64 n', .int .i64 d'])).run Tryz.prog w = .ok (n == n' && (d == d' && true)) w := by
  rw [run_equalIn_struct (P := Tryz.prog) w (dp + 1) 31 _ _ (by simp [Program.fieldsOf, Tryz.underlying31]) (by kernel_rfl)]
  simp only [Program.fieldsOf, Tryz.underlying31]
  exact eqF (by decide) (by go_simp; rfl) (by go_simp; rfl) (by go_simp) (eqF (by decide) (by go_simp; rfl) (by go_simp; rfl) (by go_simp) eqF0)
theorem eqV (dp : Nat) (w : World) (k n d : Int) (t : ByteArray) (b : Bool) (f k' n' d' : Int) (t' : ByteArray) (b' : Bool) (f' : Int) :
    (Op.equalIn (dp + 3) 33 (.agg #[.int .i64 k, .int .i64 n, .int .i64 d, .string t, .bool b, .int .i64 f]) (.agg #[.int .i64 k', .int .i64 n', .int .i64 d', .string t', .bool b', .int .i64 f'])).run Tryz.prog w
      = .ok (k == k' && ((n == n' && (d == d' && true)) && (t.toList == t'.toList && (b == b' && (f == f' && true))))) w := by
  rw [run_equalIn_struct (P := Tryz.prog) w (dp + 2) 33 _ _ (by simp [Program.fieldsOf, Tryz.underlying33]) (by kernel_rfl)]
  simp only [Program.fieldsOf, Tryz.underlying33]
  exact eqF (by decide) (by go_simp; rfl) (by go_simp; rfl) (by go_simp) (eqF (by decide) (by go_simp) (by go_simp) (eqN dp w _ _ _ _)
    (eqF (by decide) (by go_simp; rfl) (by go_simp; rfl) (by go_simp) (eqF (by decide) (by go_simp; rfl) (by go_simp; rfl) (by go_simp) (eqF (by decide) (by go_simp; rfl) (by go_simp; rfl) (by go_simp) eqF0))))
theorem toList_inj {a b : ByteArray} (h : a.toList = b.toList) : a = b := by
  rw [ByteArray.toList_eq, ByteArray.toList_eq] at h
  obtain ⟨⟨x⟩⟩ := a
  obtain ⟨⟨y⟩⟩ := b
  simp at h
  rw [h]
theorem veq_mk (k n d : Int) (t : ByteArray) (b : Bool) (f k' n' d' : Int) (t' : ByteArray) (b' : Bool) (f' : Int) :
    (k == k' && (n == n' && d == d' && (t.toList == t'.toList && (b == b' && f == f')))) = veq ⟨k, n, d, t, b, f⟩ ⟨k', n', d', t', b', f'⟩ := by
  rw [Bool.eq_iff_iff]
  unfold veq
  simp only [Bool.and_eq_true, beq_iff_eq, decide_eq_true_eq, Vl.mk.injEq]
  constructor
  · rintro ⟨h1, ⟨h2, h3⟩, h4, h5, h6⟩; exact ⟨h1, h2, h3, toList_inj h4, h5, h6⟩
  · rintro ⟨h1, h2, h3, h4, h5, h6⟩; exact ⟨h1, ⟨h2, h3⟩, by rw [h4], h5, h6⟩
/-- '==' of two values, as one Bool. -/
@[go_sem high] theorem run_eqV (w : World) (k n d : Int) (t : ByteArray) (b : Bool) (f k' n' d' : Int) (t' : ByteArray) (b' : Bool) (f' : Int) :
    (binOp .eql 33 (.agg #[.int .i64 k, .int .i64 n, .int .i64 d, .string t, .bool b, .int .i64 f]) (.agg #[.int .i64 k', .int .i64 n', .int .i64 d', .string t', .bool b', .int .i64 f'])).run Tryz.prog w
      = .ok (.bool (veq ⟨k, n, d, t, b, f⟩ ⟨k', n', d', t', b', f'⟩)) w := by
  simp only [binOp, Op.equal, Op.maxDepth]
  rw [← veq_mk]
  simp [eqV]
@[go_sem high] theorem run_neV (w : World) (k n d : Int) (t : ByteArray) (b : Bool) (f k' n' d' : Int) (t' : ByteArray) (b' : Bool) (f' : Int) :
    (binOp .neq 33 (.agg #[.int .i64 k, .int .i64 n, .int .i64 d, .string t, .bool b, .int .i64 f]) (.agg #[.int .i64 k', .int .i64 n', .int .i64 d', .string t', .bool b', .int .i64 f'])).run Tryz.prog w
      = .ok (.bool (!veq ⟨k, n, d, t, b, f⟩ ⟨k', n', d', t', b', f'⟩)) w := by
  simp only [binOp, Op.equal, Op.maxDepth]
  rw [← veq_mk]
  simp [eqV]

set_option maxHeartbeats 400000 in
theorem value_plain (t : ByteArray) (w : World) (ht : t.size ≤ 140737488351232) :
    Calls Tryz.prog 31 #[.string t] w fun e w' => e = .returned (.bool (plainT t)) ∧ w = w' := by
  go_enter Tryz.func31, Tryz.ntmps31
  go_wp2
  go_loop [6] (fun i => ∃ k : Nat, k ≤ t.size ∧ i = .int .i64 k ∧ Hid ((t.data.toList.take k).all okc = true)) (fun i => t.size - (intOf i).toNat)
  case atStart => exact ⟨0, Nat.zero_le _, rfl, rfl⟩
  case round =>
    obtain ⟨k, hk, rfl, HA⟩ := hrel
    by_cases hlt : k < t.size
    · by_cases h1 : (t[k].toNat : Int) < 32
      · have HP := Lib.hid (plain_no hlt (by unfold okc; simp; omega))
        go_wp2
        go_ret
        exact ⟨by rw [HP.out]; rfl, rfl⟩
      by_cases h2 : 126 < (t[k].toNat : Int)
      · have HP := Lib.hid (plain_no hlt (by unfold okc; simp; omega))
        go_wp2
        go_ret
        exact ⟨by rw [HP.out]; rfl, rfl⟩
      have HS := Lib.hid (plain_step hlt HA.out (by unfold okc; simp; omega))
      go_wp2
      go_round
      case rel => exact ⟨k + 1, by omega, by go_num, HS⟩
      case measure => simp [intOf]; omega
    · obtain rfl : k = t.size := by omega
      have HP := Lib.hid (plain_all HA.out)
      go_wp2
      go_ret
      exact ⟨by rw [HP.out]; rfl, rfl⟩

set_option maxHeartbeats 1000000 in
theorem value_Right (k n d : Int) (t : ByteArray) (b : Bool) (f : Int) (w : World) (hx : Vl.In ⟨k, n, d, t, b, f⟩) :
    Calls Tryz.prog 17 #[.agg #[.int .i64 k, .int .i64 n, .int .i64 d, .string t, .bool b, .int .i64 f]] w fun e w' => e = .returned (.bool (rightV ⟨k, n, d, t, b, f⟩)) ∧ Below w.heap.size w w' := by
  have hn := hx.n
  have hd := hx.d
  have ht := hx.t
  simp only at hn hd ht
  by_cases h0 : k = 0
  · have HF : Hid (rightV ⟨k, n, d, t, b, f⟩ = veq ⟨k, n, d, t, b, f⟩ ⟨0, 0, 0, noT, false, 0⟩) := by unfold Hid rightV; rw [if_pos h0]; rfl
    have hk : (k == 0) = true := by simp [h0]
    clear h0
    go_enter Tryz.func17, Tryz.ntmps17
    go_wp2
    go_ret
    refine ⟨by rw [HF.out]; rfl, ?_⟩
    focus
      repeat with_reducible first | exact Below.refl _ _ | refine below_drewN ?_ _ | refine Below.drew ?_ | refine Below.setCell ?_ ?_ _ | refine Below.alloc ?_ ?_ _ | refine below_then ?_ ?_ (by with_reducible assumption)
      all_goals first | omega | (simp only [sA, sC, sD, sE]; omega) | (simp; done) | (simp; omega)
  by_cases h1 : k = 1
  · have HF : Hid (rightV ⟨k, n, d, t, b, f⟩ = (rightN n d && veq ⟨k, n, d, t, b, f⟩ ⟨1, n, d, noT, false, 0⟩)) := by unfold Hid rightV; rw [if_neg h0, if_pos h1]; rfl
    have k0 : (k == 0) = false := by simp [h0]
    have k1 : (k == 1) = true := by simp [h1]
    clear h0 h1
    cases hr : rightN n d
    all_goals
      rw [hr] at HF
      have HR := Lib.hid hr
      clear hr
      go_enter Tryz.func17, Tryz.ntmps17
      go_wp2_with fail
      refine (num_Right _ _ _ hn hd).mono ?_
      rintro e w1 ⟨rfl, hb⟩
      rw [HR.out]
      have c1 := lcc hb (w.heap.size) (by (first | omega | (simp only [sz_alloc, sz_setCell, sz_drew, sz_drewN]; omega) | (simp; done) | (simp; omega)))
      have f1 := lcf hb (w.heap.size) (by (first | omega | (simp only [sz_alloc, sz_setCell, sz_drew, sz_drewN]; omega) | (simp; done) | (simp; omega)))
      have s1 := lcs hb (w.heap.size) (by (first | omega | (simp only [sz_alloc, sz_setCell, sz_drew, sz_drewN]; omega) | (simp; done) | (simp; omega)))
      go_wp2
      go_ret
      refine ⟨by rw [HF.out]; rfl, ?_⟩
      focus
        repeat with_reducible first | exact Below.refl _ _ | refine below_drewN ?_ _ | refine Below.drew ?_ | refine Below.setCell ?_ ?_ _ | refine Below.alloc ?_ ?_ _ | refine below_then ?_ ?_ (by with_reducible assumption)
        all_goals first | omega | (simp only [sA, sC, sD, sE]; omega) | (simp; done) | (simp; omega)
  by_cases h2 : k = 2
  · have HF : Hid (rightV ⟨k, n, d, t, b, f⟩ = ((decide (t.size ≤ 256) && plainT t) && veq ⟨k, n, d, t, b, f⟩ ⟨2, 0, 0, t, false, 0⟩)) := by unfold Hid rightV; rw [if_neg h0, if_neg h1, if_pos h2]; rfl
    have k0 : (k == 0) = false := by simp [h0]
    have k1 : (k == 1) = false := by simp [h1]
    have k2 : (k == 2) = true := by simp [h2]
    clear h0 h1 h2
    by_cases hs : t.size ≤ 256
    · cases hp : plainT t
      all_goals
        rw [hp, decide_eq_true hs] at HF
        have HP := Lib.hid hp
        clear hp
        go_enter Tryz.func17, Tryz.ntmps17
        go_wp2_with fail
        refine (value_plain _ _ ht).mono ?_
        rintro e w1 ⟨rfl, rfl⟩
        rw [HP.out]
        go_wp2
        go_ret
        refine ⟨by rw [HF.out]; rfl, ?_⟩
        focus
          repeat with_reducible first | exact Below.refl _ _ | refine below_drewN ?_ _ | refine Below.drew ?_ | refine Below.setCell ?_ ?_ _ | refine Below.alloc ?_ ?_ _ | refine below_then ?_ ?_ (by with_reducible assumption)
          all_goals first | omega | (simp only [sA, sC, sD, sE]; omega) | (simp; done) | (simp; omega)
    · rw [decide_eq_false hs] at HF
      go_enter Tryz.func17, Tryz.ntmps17
      go_wp2
      go_ret
      refine ⟨by rw [HF.out]; rfl, ?_⟩
      focus
        repeat with_reducible first | exact Below.refl _ _ | refine below_drewN ?_ _ | refine Below.drew ?_ | refine Below.setCell ?_ ?_ _ | refine Below.alloc ?_ ?_ _ | refine below_then ?_ ?_ (by with_reducible assumption)
        all_goals first | omega | (simp only [sA, sC, sD, sE]; omega) | (simp; done) | (simp; omega)
  by_cases h3 : k = 3
  · have HF : Hid (rightV ⟨k, n, d, t, b, f⟩ = veq ⟨k, n, d, t, b, f⟩ ⟨3, 0, 0, noT, b, 0⟩) := by unfold Hid rightV; rw [if_neg h0, if_neg h1, if_neg h2, if_pos h3]; rfl
    have k0 : (k == 0) = false := by simp [h0]
    have k1 : (k == 1) = false := by simp [h1]
    have k2 : (k == 2) = false := by simp [h2]
    have k3 : (k == 3) = true := by simp [h3]
    clear h0 h1 h2 h3
    go_enter Tryz.func17, Tryz.ntmps17
    go_wp2
    go_ret
    refine ⟨by rw [HF.out]; rfl, ?_⟩
    focus
      repeat with_reducible first | exact Below.refl _ _ | refine below_drewN ?_ _ | refine Below.drew ?_ | refine Below.setCell ?_ ?_ _ | refine Below.alloc ?_ ?_ _ | refine below_then ?_ ?_ (by with_reducible assumption)
      all_goals first | omega | (simp only [sA, sC, sD, sE]; omega) | (simp; done) | (simp; omega)
  by_cases h4 : k = 4
  · have HF : Hid (rightV ⟨k, n, d, t, b, f⟩ = ((decide (1 ≤ f) && decide (f ≤ 8)) && veq ⟨k, n, d, t, b, f⟩ ⟨4, 0, 0, noT, false, f⟩)) := by unfold Hid rightV; rw [if_neg h0, if_neg h1, if_neg h2, if_neg h3, if_pos h4]; rfl
    have k0 : (k == 0) = false := by simp [h0]
    have k1 : (k == 1) = false := by simp [h1]
    have k2 : (k == 2) = false := by simp [h2]
    have k3 : (k == 3) = false := by simp [h3]
    have k4 : (k == 4) = true := by simp [h4]
    clear h0 h1 h2 h3 h4
    by_cases hf1 : 1 ≤ f
    · by_cases hf2 : f ≤ 8
      all_goals
        first | rw [decide_eq_true hf1, decide_eq_true hf2] at HF | rw [decide_eq_true hf1, decide_eq_false hf2] at HF
        go_enter Tryz.func17, Tryz.ntmps17
        go_wp2
        go_ret
        refine ⟨by rw [HF.out]; rfl, ?_⟩
        focus
          repeat with_reducible first | exact Below.refl _ _ | refine below_drewN ?_ _ | refine Below.drew ?_ | refine Below.setCell ?_ ?_ _ | refine Below.alloc ?_ ?_ _ | refine below_then ?_ ?_ (by with_reducible assumption)
          all_goals first | omega | (simp only [sA, sC, sD, sE]; omega) | (simp; done) | (simp; omega)
    · rw [decide_eq_false hf1] at HF
      go_enter Tryz.func17, Tryz.ntmps17
      go_wp2
      go_ret
      refine ⟨by rw [HF.out]; rfl, ?_⟩
      focus
        repeat with_reducible first | exact Below.refl _ _ | refine below_drewN ?_ _ | refine Below.drew ?_ | refine Below.setCell ?_ ?_ _ | refine Below.alloc ?_ ?_ _ | refine below_then ?_ ?_ (by with_reducible assumption)
        all_goals first | omega | (simp only [sA, sC, sD, sE]; omega) | (simp; done) | (simp; omega)
  have HF : Hid (rightV ⟨k, n, d, t, b, f⟩ = false) := by unfold Hid rightV; rw [if_neg h0, if_neg h1, if_neg h2, if_neg h3, if_neg h4]
  have k0 : (k == 0) = false := by simp [h0]
  have k1 : (k == 1) = false := by simp [h1]
  have k2 : (k == 2) = false := by simp [h2]
  have k3 : (k == 3) = false := by simp [h3]
  have k4 : (k == 4) = false := by simp [h4]
  clear h0 h1 h2 h3 h4
  go_enter Tryz.func17, Tryz.ntmps17
  go_wp2
  go_ret
  refine ⟨by rw [HF.out]; rfl, ?_⟩
  focus
    repeat with_reducible first | exact Below.refl _ _ | refine below_drewN ?_ _ | refine Below.drew ?_ | refine Below.setCell ?_ ?_ _ | refine Below.alloc ?_ ?_ _ | refine below_then ?_ ?_ (by with_reducible assumption)
    all_goals first | omega | (simp only [sA, sC, sD, sE]; omega) | (simp; done) | (simp; omega)
end Go.Proofs.YtnimenpfojcehaaGreatDoor
