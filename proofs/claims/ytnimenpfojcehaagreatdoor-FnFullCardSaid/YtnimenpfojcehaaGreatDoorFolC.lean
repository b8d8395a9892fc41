/- Walks of package funcs: what the folds of numbers come to, at any state; what COUNT and COUNTA do with any value. -/
import Derived.Test.YtnimenpfojcehaaGreatDoorFolB
namespace Go.Proofs.YtnimenpfojcehaaGreatDoor
open Go Go.RowKit
set_option linter.unusedSimpArgs false
set_option linter.unusedVariables false

set_option maxHeartbeats 1000000 in
theorem fold_result12 (b : Nat) (S : AccS) (kd : Value) (w : World) (hA : Blk w b (accArr S kd) 57) (hf : S.fn = 12) (h1 : I64 S.n) (h2 : I64 S.d) :
    Calls Tryz.prog 178 #[.agg #[], .pointer (some ⟨b, 0, none⟩)] w fun e w' => e = .returned (.agg #[.int .i64 (numF S.n S.d).k, .int .i64 (numF S.n S.d).n, .int .i64 (numF S.n S.d).d, .string (numF S.n S.d).t, .bool (numF S.n S.d).b, .int .i64 (numF S.n S.d).f]) ∧ Below w.heap.size w w' := by
  have hlt := hA.lt
  have hne : ¬ b = w.heap.size := by omega
  have hne' : ¬ w.heap.size = b := by omega
  have a1 : w.cell? ⟨b, 0, none⟩ = some (.int .i64 S.fn) := hA.cell 0
  have a2 : w.cell? ⟨b, 2, none⟩ = some (.int .i64 S.n) := hA.cell 2
  have a3 : w.cell? ⟨b, 3, none⟩ = some (.int .i64 S.d) := hA.cell 3
  simp only [hf] at *
  have HN := Lib.hid fun wx => value_Number S.n S.d wx h1 h2
  clear h1 h2 hf
  go_enter Tryz.func178, Tryz.ntmps178
  go_wp2_with fail
  refine (HN.out _).mono ?_
  rintro e w1 ⟨rfl, hb⟩
  obtain ⟨s4, c4_0, c4_1, c4_2, c4_3, c4_4, c4_5, f4⟩ := L6 hb (w.heap.size + 1) (by first | omega | (simp only [sA, sC, sD, sE]; omega) | (simp; done) | (simp; omega)) (by go_simp; exact ⟨rfl, rfl, rfl, rfl, rfl, rfl⟩) (by intro o; go_simp)
  go_wp2
  refine bodyPost_ret (v := .agg #[.int .i64 (numF S.n S.d).k, .int .i64 (numF S.n S.d).n, .int .i64 (numF S.n S.d).d, .string (numF S.n S.d).t, .bool (numF S.n S.d).b, .int .i64 (numF S.n S.d).f]) (by simp [results, Tryz.results178, go_sem, c4_0, c4_1, c4_2, c4_3, c4_4, c4_5]) rfl ⟨rfl, ?_⟩
  focus
    repeat with_reducible first | exact Below.refl _ _ | refine below_drewN ?_ _ | refine Below.drew ?_ | refine Below.setCell ?_ ?_ _ | refine Below.alloc ?_ ?_ _ | refine below_then ?_ ?_ (by with_reducible assumption)
    all_goals first | omega | (simp only [sA, sC, sD, sE]; omega) | (simp; done) | (simp; omega)
set_option maxHeartbeats 1000000 in
theorem fold_result13 (b : Nat) (S : AccS) (kd : Value) (w : World) (hA : Blk w b (accArr S kd) 57) (hf : S.fn = 13) (h1 : I64 S.n) (h2 : I64 S.d) :
    Calls Tryz.prog 178 #[.agg #[], .pointer (some ⟨b, 0, none⟩)] w fun e w' => e = .returned (.agg #[.int .i64 (numF S.n S.d).k, .int .i64 (numF S.n S.d).n, .int .i64 (numF S.n S.d).d, .string (numF S.n S.d).t, .bool (numF S.n S.d).b, .int .i64 (numF S.n S.d).f]) ∧ Below w.heap.size w w' := by
  have hlt := hA.lt
  have hne : ¬ b = w.heap.size := by omega
  have hne' : ¬ w.heap.size = b := by omega
  have a5 : w.cell? ⟨b, 0, none⟩ = some (.int .i64 S.fn) := hA.cell 0
  have a6 : w.cell? ⟨b, 2, none⟩ = some (.int .i64 S.n) := hA.cell 2
  have a7 : w.cell? ⟨b, 3, none⟩ = some (.int .i64 S.d) := hA.cell 3
  simp only [hf] at *
  have HN := Lib.hid fun wx => value_Number S.n S.d wx h1 h2
  clear h1 h2 hf
  go_enter Tryz.func178, Tryz.ntmps178
  go_wp2_with fail
  refine (HN.out _).mono ?_
  rintro e w1 ⟨rfl, hb⟩
  obtain ⟨s8, c8_0, c8_1, c8_2, c8_3, c8_4, c8_5, f8⟩ := L6 hb (w.heap.size + 1) (by first | omega | (simp only [sA, sC, sD, sE]; omega) | (simp; done) | (simp; omega)) (by go_simp; exact ⟨rfl, rfl, rfl, rfl, rfl, rfl⟩) (by intro o; go_simp)
  go_wp2
  refine bodyPost_ret (v := .agg #[.int .i64 (numF S.n S.d).k, .int .i64 (numF S.n S.d).n, .int .i64 (numF S.n S.d).d, .string (numF S.n S.d).t, .bool (numF S.n S.d).b, .int .i64 (numF S.n S.d).f]) (by simp [results, Tryz.results178, go_sem, c8_0, c8_1, c8_2, c8_3, c8_4, c8_5]) rfl ⟨rfl, ?_⟩
  focus
    repeat with_reducible first | exact Below.refl _ _ | refine below_drewN ?_ _ | refine Below.drew ?_ | refine Below.setCell ?_ ?_ _ | refine Below.alloc ?_ ?_ _ | refine below_then ?_ ?_ (by with_reducible assumption)
    all_goals first | omega | (simp only [sA, sC, sD, sE]; omega) | (simp; done) | (simp; omega)
set_option maxHeartbeats 1000000 in
theorem fold_result22 (b : Nat) (S : AccS) (kd : Value) (w : World) (hA : Blk w b (accArr S kd) 57) (hf : S.fn = 22) (h1 : I64 S.n) (h2 : I64 S.d) :
    Calls Tryz.prog 178 #[.agg #[], .pointer (some ⟨b, 0, none⟩)] w fun e w' => e = .returned (.agg #[.int .i64 (numF S.n S.d).k, .int .i64 (numF S.n S.d).n, .int .i64 (numF S.n S.d).d, .string (numF S.n S.d).t, .bool (numF S.n S.d).b, .int .i64 (numF S.n S.d).f]) ∧ Below w.heap.size w w' := by
  have hlt := hA.lt
  have hne : ¬ b = w.heap.size := by omega
  have hne' : ¬ w.heap.size = b := by omega
  have a9 : w.cell? ⟨b, 0, none⟩ = some (.int .i64 S.fn) := hA.cell 0
  have a10 : w.cell? ⟨b, 2, none⟩ = some (.int .i64 S.n) := hA.cell 2
  have a11 : w.cell? ⟨b, 3, none⟩ = some (.int .i64 S.d) := hA.cell 3
  simp only [hf] at *
  have HN := Lib.hid fun wx => value_Number S.n S.d wx h1 h2
  clear h1 h2 hf
  go_enter Tryz.func178, Tryz.ntmps178
  go_wp2_with fail
  refine (HN.out _).mono ?_
  rintro e w1 ⟨rfl, hb⟩
  obtain ⟨s12, c12_0, c12_1, c12_2, c12_3, c12_4, c12_5, f12⟩ := L6 hb (w.heap.size + 1) (by first | omega | (simp only [sA, sC, sD, sE]; omega) | (simp; done) | (simp; omega)) (by go_simp; exact ⟨rfl, rfl, rfl, rfl, rfl, rfl⟩) (by intro o; go_simp)
  go_wp2
  refine bodyPost_ret (v := .agg #[.int .i64 (numF S.n S.d).k, .int .i64 (numF S.n S.d).n, .int .i64 (numF S.n S.d).d, .string (numF S.n S.d).t, .bool (numF S.n S.d).b, .int .i64 (numF S.n S.d).f]) (by simp [results, Tryz.results178, go_sem, c12_0, c12_1, c12_2, c12_3, c12_4, c12_5]) rfl ⟨rfl, ?_⟩
  focus
    repeat with_reducible first | exact Below.refl _ _ | refine below_drewN ?_ _ | refine Below.drew ?_ | refine Below.setCell ?_ ?_ _ | refine Below.alloc ?_ ?_ _ | refine below_then ?_ ?_ (by with_reducible assumption)
    all_goals first | omega | (simp only [sA, sC, sD, sE]; omega) | (simp; done) | (simp; omega)
set_option maxHeartbeats 1000000 in
theorem fold_result24 (b : Nat) (S : AccS) (kd : Value) (w : World) (hA : Blk w b (accArr S kd) 57) (hf : S.fn = 24) (h1 : I64 S.n) (h2 : I64 S.d) :
    Calls Tryz.prog 178 #[.agg #[], .pointer (some ⟨b, 0, none⟩)] w fun e w' => e = .returned (.agg #[.int .i64 (numF S.n S.d).k, .int .i64 (numF S.n S.d).n, .int .i64 (numF S.n S.d).d, .string (numF S.n S.d).t, .bool (numF S.n S.d).b, .int .i64 (numF S.n S.d).f]) ∧ Below w.heap.size w w' := by
  have hlt := hA.lt
  have hne : ¬ b = w.heap.size := by omega
  have hne' : ¬ w.heap.size = b := by omega
  have a13 : w.cell? ⟨b, 0, none⟩ = some (.int .i64 S.fn) := hA.cell 0
  have a14 : w.cell? ⟨b, 2, none⟩ = some (.int .i64 S.n) := hA.cell 2
  have a15 : w.cell? ⟨b, 3, none⟩ = some (.int .i64 S.d) := hA.cell 3
  simp only [hf] at *
  have HN := Lib.hid fun wx => value_Number S.n S.d wx h1 h2
  clear h1 h2 hf
  go_enter Tryz.func178, Tryz.ntmps178
  go_wp2_with fail
  refine (HN.out _).mono ?_
  rintro e w1 ⟨rfl, hb⟩
  obtain ⟨s16, c16_0, c16_1, c16_2, c16_3, c16_4, c16_5, f16⟩ := L6 hb (w.heap.size + 1) (by first | omega | (simp only [sA, sC, sD, sE]; omega) | (simp; done) | (simp; omega)) (by go_simp; exact ⟨rfl, rfl, rfl, rfl, rfl, rfl⟩) (by intro o; go_simp)
  go_wp2
  refine bodyPost_ret (v := .agg #[.int .i64 (numF S.n S.d).k, .int .i64 (numF S.n S.d).n, .int .i64 (numF S.n S.d).d, .string (numF S.n S.d).t, .bool (numF S.n S.d).b, .int .i64 (numF S.n S.d).f]) (by simp [results, Tryz.results178, go_sem, c16_0, c16_1, c16_2, c16_3, c16_4, c16_5]) rfl ⟨rfl, ?_⟩
  focus
    repeat with_reducible first | exact Below.refl _ _ | refine below_drewN ?_ _ | refine Below.drew ?_ | refine Below.setCell ?_ ?_ _ | refine Below.alloc ?_ ?_ _ | refine below_then ?_ ?_ (by with_reducible assumption)
    all_goals first | omega | (simp only [sA, sC, sD, sE]; omega) | (simp; done) | (simp; omega)
set_option maxHeartbeats 1000000 in
theorem numbers_result12 (b : Nat) (S : AccS) (kd : Value) (w : World) (hA : Blk w b (accArr S kd) 57) (hf : S.fn = 12) (h1 : I64 S.n) (h2 : I64 S.d) :
    Calls Tryz.prog 181 #[.agg #[], .pointer (some ⟨b, 0, none⟩)] w fun e w' => e = .returned (.agg #[.int .i64 (numF S.n S.d).k, .int .i64 (numF S.n S.d).n, .int .i64 (numF S.n S.d).d, .string (numF S.n S.d).t, .bool (numF S.n S.d).b, .int .i64 (numF S.n S.d).f]) ∧ Below w.heap.size w w' := by
  have hlt := hA.lt
  have hne : ¬ b = w.heap.size := by omega
  have hne' : ¬ w.heap.size = b := by omega
  have HR := Lib.hid fun (wx : World) (hx : Blk wx b (accArr S kd) 57) => fold_result12 b S kd wx hx hf h1 h2
  have HA := Lib.hid ((hA.alloc (.cells #[] 88)).alloc (.cells #[.int .i64 0, .int .i64 0, .int .i64 0, .string ⟨#[]⟩, .bool false, .int .i64 0] 33))
  have hp := run_part0 (w := (w.alloc (.cells #[] 88)).alloc (.cells #[.int .i64 0, .int .i64 0, .int .i64 0, .string ⟨#[]⟩, .bool false, .int .i64 0] 33)) (k := w.heap.size) (by rw [heap_alloc_old _ _ (by simp)]; exact heap_alloc_new _ _)
  have a17 : w.cell? ⟨b, 0, none⟩ = some (.int .i64 S.fn) := hA.cell 0
  simp only [hf] at *
  clear h1 h2 hf hA
  go_enter Tryz.func181, Tryz.ntmps181
  go_wp2_with fail
  refine (HR.out _ HA.out).mono ?_
  rintro e w1 ⟨rfl, hb⟩
  obtain ⟨s18, c18_0, c18_1, c18_2, c18_3, c18_4, c18_5, f18⟩ := L6 hb (w.heap.size + 1) (by first | omega | (simp only [sA, sC, sD, sE]; omega) | (simp; done) | (simp; omega)) (by go_simp; exact ⟨rfl, rfl, rfl, rfl, rfl, rfl⟩) (by intro o; go_simp)
  go_wp2
  refine bodyPost_ret (v := .agg #[.int .i64 (numF S.n S.d).k, .int .i64 (numF S.n S.d).n, .int .i64 (numF S.n S.d).d, .string (numF S.n S.d).t, .bool (numF S.n S.d).b, .int .i64 (numF S.n S.d).f]) (by simp [results, Tryz.results181, go_sem, c18_0, c18_1, c18_2, c18_3, c18_4, c18_5]) rfl ⟨rfl, ?_⟩
  focus
    repeat with_reducible first | exact Below.refl _ _ | refine below_drewN ?_ _ | refine Below.drew ?_ | refine Below.setCell ?_ ?_ _ | refine Below.alloc ?_ ?_ _ | refine below_then ?_ ?_ (by with_reducible assumption)
    all_goals first | omega | (simp only [sA, sC, sD, sE]; omega) | (simp; done) | (simp; omega)
set_option maxHeartbeats 1000000 in
theorem numbers_result13 (b : Nat) (S : AccS) (kd : Value) (w : World) (hA : Blk w b (accArr S kd) 57) (hf : S.fn = 13) (h1 : I64 S.n) (h2 : I64 S.d) :
    Calls Tryz.prog 181 #[.agg #[], .pointer (some ⟨b, 0, none⟩)] w fun e w' => e = .returned (.agg #[.int .i64 (numF S.n S.d).k, .int .i64 (numF S.n S.d).n, .int .i64 (numF S.n S.d).d, .string (numF S.n S.d).t, .bool (numF S.n S.d).b, .int .i64 (numF S.n S.d).f]) ∧ Below w.heap.size w w' := by
  have hlt := hA.lt
  have hne : ¬ b = w.heap.size := by omega
  have hne' : ¬ w.heap.size = b := by omega
  have HR := Lib.hid fun (wx : World) (hx : Blk wx b (accArr S kd) 57) => fold_result13 b S kd wx hx hf h1 h2
  have HA := Lib.hid ((hA.alloc (.cells #[] 88)).alloc (.cells #[.int .i64 0, .int .i64 0, .int .i64 0, .string ⟨#[]⟩, .bool false, .int .i64 0] 33))
  have hp := run_part0 (w := (w.alloc (.cells #[] 88)).alloc (.cells #[.int .i64 0, .int .i64 0, .int .i64 0, .string ⟨#[]⟩, .bool false, .int .i64 0] 33)) (k := w.heap.size) (by rw [heap_alloc_old _ _ (by simp)]; exact heap_alloc_new _ _)
  have a19 : w.cell? ⟨b, 0, none⟩ = some (.int .i64 S.fn) := hA.cell 0
  simp only [hf] at *
  clear h1 h2 hf hA
  go_enter Tryz.func181, Tryz.ntmps181
  go_wp2_with fail
  refine (HR.out _ HA.out).mono ?_
  rintro e w1 ⟨rfl, hb⟩
  obtain ⟨s20, c20_0, c20_1, c20_2, c20_3, c20_4, c20_5, f20⟩ := L6 hb (w.heap.size + 1) (by first | omega | (simp only [sA, sC, sD, sE]; omega) | (simp; done) | (simp; omega)) (by go_simp; exact ⟨rfl, rfl, rfl, rfl, rfl, rfl⟩) (by intro o; go_simp)
  go_wp2
  refine bodyPost_ret (v := .agg #[.int .i64 (numF S.n S.d).k, .int .i64 (numF S.n S.d).n, .int .i64 (numF S.n S.d).d, .string (numF S.n S.d).t, .bool (numF S.n S.d).b, .int .i64 (numF S.n S.d).f]) (by simp [results, Tryz.results181, go_sem, c20_0, c20_1, c20_2, c20_3, c20_4, c20_5]) rfl ⟨rfl, ?_⟩
  focus
    repeat with_reducible first | exact Below.refl _ _ | refine below_drewN ?_ _ | refine Below.drew ?_ | refine Below.setCell ?_ ?_ _ | refine Below.alloc ?_ ?_ _ | refine below_then ?_ ?_ (by with_reducible assumption)
    all_goals first | omega | (simp only [sA, sC, sD, sE]; omega) | (simp; done) | (simp; omega)
set_option maxHeartbeats 2000000 in
theorem numbers_result7_0 (b : Nat) (S : AccS) (kd : Value) (w : World) (hA : Blk w b (accArr S kd) 57) (hf : S.fn = 7) (hc : S.count = 0) :
    Calls Tryz.prog 181 #[.agg #[], .pointer (some ⟨b, 0, none⟩)] w fun e w' => e = .returned (.agg #[.int .i64 (faultF 1).k, .int .i64 (faultF 1).n, .int .i64 (faultF 1).d, .string (faultF 1).t, .bool (faultF 1).b, .int .i64 (faultF 1).f]) ∧ Below w.heap.size w w' := by
  have hlt := hA.lt
  have hne : ¬ b = w.heap.size := by omega
  have hne' : ¬ w.heap.size = b := by omega
  have a21 : w.cell? ⟨b, 0, none⟩ = some (.int .i64 S.fn) := hA.cell 0
  have a22 : w.cell? ⟨b, 1, none⟩ = some (.int .i64 S.count) := hA.cell 1
  simp only [hf, hc] at *
  have HF := Lib.hid fun wx => value_Fault 1 wx
  generalize faultF 1 = Q at *
  clear hf hA hc
  go_enter Tryz.func181, Tryz.ntmps181
  go_wp2_with fail
  refine (HF.out _).mono ?_
  rintro e w1 ⟨rfl, hb⟩
  obtain ⟨s23, c23_0, c23_1, c23_2, c23_3, c23_4, c23_5, f23⟩ := L6 hb (w.heap.size + 1) (by first | omega | (simp only [sA, sC, sD, sE]; omega) | (simp; done) | (simp; omega)) (by go_simp; exact ⟨rfl, rfl, rfl, rfl, rfl, rfl⟩) (by intro o; go_simp)
  go_wp2
  refine bodyPost_ret (v := .agg #[.int .i64 (Q).k, .int .i64 (Q).n, .int .i64 (Q).d, .string (Q).t, .bool (Q).b, .int .i64 (Q).f]) (by simp [results, Tryz.results181, go_sem, c23_0, c23_1, c23_2, c23_3, c23_4, c23_5]) rfl ⟨rfl, ?_⟩
  focus
    repeat with_reducible first | exact Below.refl _ _ | refine below_drewN ?_ _ | refine Below.drew ?_ | refine Below.setCell ?_ ?_ _ | refine Below.alloc ?_ ?_ _ | refine below_then ?_ ?_ (by with_reducible assumption)
    all_goals first | omega | (simp only [sA, sC, sD, sE]; omega) | (simp; done) | (simp; omega)
set_option maxHeartbeats 2000000 in
theorem numbers_result7_1 (b : Nat) (S : AccS) (kd : Value) (w : World) (hA : Blk w b (accArr S kd) 57) (hf : S.fn = 7) (hc0 : 0 < S.count) (hc1 : S.count ≤ 1000000000000) (h1 : I64 S.n) (h2 : I64 S.d) :
    Calls Tryz.prog 181 #[.agg #[], .pointer (some ⟨b, 0, none⟩)] w fun e w' => e = .returned (.agg #[.int .i64 (toldF (div S.n S.d S.count 1).n (div S.n S.d S.count 1).d (div S.n S.d S.count 1).ok).k, .int .i64 (toldF (div S.n S.d S.count 1).n (div S.n S.d S.count 1).d (div S.n S.d S.count 1).ok).n, .int .i64 (toldF (div S.n S.d S.count 1).n (div S.n S.d S.count 1).d (div S.n S.d S.count 1).ok).d, .string (toldF (div S.n S.d S.count 1).n (div S.n S.d S.count 1).d (div S.n S.d S.count 1).ok).t, .bool (toldF (div S.n S.d S.count 1).n (div S.n S.d S.count 1).d (div S.n S.d S.count 1).ok).b, .int .i64 (toldF (div S.n S.d S.count 1).n (div S.n S.d S.count 1).d (div S.n S.d S.count 1).ok).f]) ∧ Below w.heap.size w w' := by
  have hlt := hA.lt
  have hne : ¬ b = w.heap.size := by omega
  have hne' : ¬ w.heap.size = b := by omega
  have hne1 : ¬ b = w.heap.size + 1 := by omega
  have hne1' : ¬ w.heap.size + 1 = b := by omega
  have HA := Lib.hid ((hA.alloc (.cells #[] 88)).alloc (.cells #[.int .i64 0, .int .i64 0, .int .i64 0, .string ⟨#[]⟩, .bool false, .int .i64 0] 33))
  have a24 : w.cell? ⟨b, 0, none⟩ = some (.int .i64 S.fn) := hA.cell 0
  have a25 : w.cell? ⟨b, 1, none⟩ = some (.int .i64 S.count) := hA.cell 1
  have a26 : w.cell? ⟨b, 2, none⟩ = some (.int .i64 S.n) := hA.cell 2
  have a27 : w.cell? ⟨b, 3, none⟩ = some (.int .i64 S.d) := hA.cell 3
  simp only [hf] at *
  have k0 : (S.count == 0) = false := by simp; omega
  have i1 : I64 S.count := ⟨by omega, by omega⟩
  have HM := Lib.hid fun wx => num_Make S.count 1 wx i1 ⟨by decide, by decide⟩
  rw [mk_whole (by omega) (by omega)] at HM
  have hbd := div_bds S.n S.d S.count 1
  have HD := Lib.hid fun wx => num_Div S.n S.d S.count 1 wx h1 h2 i1 ⟨by decide, by decide⟩
  have HT := Lib.hid fun wx => funcs_told (div S.n S.d S.count 1).n (div S.n S.d S.count 1).d (div S.n S.d S.count 1).ok wx (I64.of hbd.1 hbd.2.1) (I64.of (by omega) (by omega))
  generalize div S.n S.d S.count 1 = R at *
  clear hf hA hc0 hbd i1 h1 h2
  go_enter Tryz.func181, Tryz.ntmps181
  go_wp2_with fail
  refine (HM.out _).mono ?_
  rintro e w1 ⟨rfl, hb⟩
  obtain ⟨s28, c28_0, c28_1, c28_2, c28_3, c28_4, c28_5, f28⟩ := L6 hb (w.heap.size + 1) (by first | omega | (simp only [sA, sC, sD, sE]; omega) | (simp; done) | (simp; omega)) (by go_simp; exact ⟨rfl, rfl, rfl, rfl, rfl, rfl⟩) (by intro o; go_simp)
  have A1 := HA.out.below hb
  have L1 : w1.cell? ⟨b, 2, none⟩ = some (.int .i64 S.n) := A1.cell 2
  have L2 : w1.cell? ⟨b, 3, none⟩ = some (.int .i64 S.d) := A1.cell 3
  have hlb := A1.lt
  have hz1 := hb.size
  simp only [sz_alloc] at hz1
  have q1 : ¬ w.heap.size + 1 = w1.heap.size := by omega
  have q2 : ¬ w1.heap.size = w.heap.size + 1 := by omega
  have q3 : ¬ b = w1.heap.size := by omega
  have q4 : ¬ w1.heap.size = b := by omega
  clear A1
  go_upto_region 8 with (fail)
  refine region_below 10 (by kernel_rfl) (by kernel_rfl) ?_
  simp only [List.take_succ_cons, List.take_zero, List.drop_succ_cons, List.drop_zero]
  repeat
    first | (refine q_run ?_ ?_; focus (go_simp; done)) | (refine q_skip ?_ ?_; focus (go_simp; done))
    try (apply Exists.intro; refine ⟨fun w' hw' => ?_, ?_⟩; focus (have hc := (bcell hw'.out).1; unfold Oper.quietAt; go_simp; (try go_ints); (first | rfl | (go_at_call 84; refine (HD.out _).mono ?_; rintro e w2 ⟨rfl, hb⟩; exact ⟨rfl, hw'.chain hb⟩) | (go_at_call 29; refine (HT.out _).mono ?_; rintro e w2 ⟨rfl, hb⟩; exact ⟨rfl, hw'.chain hb⟩))))
    intro K hK
    go_simp
    refine hK _ ?_
    clear hK K
  refine wpQuiet_nil ?_
  intro w1 hb'
  have hb := hb'.out
  clear hb'
  obtain ⟨s29, c29_0, c29_1, c29_2, c29_3, c29_4, c29_5, f29⟩ := L6 hb (w.heap.size + 1) (by first | omega | (simp only [sA, sC, sD, sE]; omega) | (simp; done) | (simp; omega)) (by go_simp; exact ⟨rfl, rfl, rfl, rfl, rfl, rfl⟩) (by intro o; go_simp)
  clear c28_0 c28_1 c28_2 c28_3 c28_4 c28_5 f28
  go_wp2
  refine bodyPost_ret (v := .agg #[.int .i64 (toldF R.n R.d R.ok).k, .int .i64 (toldF R.n R.d R.ok).n, .int .i64 (toldF R.n R.d R.ok).d, .string (toldF R.n R.d R.ok).t, .bool (toldF R.n R.d R.ok).b, .int .i64 (toldF R.n R.d R.ok).f]) (by simp [results, Tryz.results181, go_sem, c29_0, c29_1, c29_2, c29_3, c29_4, c29_5]) rfl ⟨rfl, ?_⟩
  focus
    repeat with_reducible first | exact Below.refl _ _ | refine below_drewN ?_ _ | refine Below.drew ?_ | refine Below.setCell ?_ ?_ _ | refine Below.alloc ?_ ?_ _ | refine below_then ?_ ?_ (by with_reducible assumption)
    all_goals first | omega | (simp only [sA, sC, sD, sE]; omega) | (simp; done) | (simp; omega)
set_option maxHeartbeats 2000000 in
theorem numbers_result7_2 (b : Nat) (S : AccS) (kd : Value) (w : World) (hA : Blk w b (accArr S kd) 57) (hf : S.fn = 7) (hc0 : 1000000000000 < S.count) (hc1 : S.count ≤ 9000000000000000000) :
    Calls Tryz.prog 181 #[.agg #[], .pointer (some ⟨b, 0, none⟩)] w fun e w' => e = .returned (.agg #[.int .i64 (faultF 4).k, .int .i64 (faultF 4).n, .int .i64 (faultF 4).d, .string (faultF 4).t, .bool (faultF 4).b, .int .i64 (faultF 4).f]) ∧ Below w.heap.size w w' := by
  have hlt := hA.lt
  have hne : ¬ b = w.heap.size := by omega
  have hne' : ¬ w.heap.size = b := by omega
  have a30 : w.cell? ⟨b, 0, none⟩ = some (.int .i64 S.fn) := hA.cell 0
  have a31 : w.cell? ⟨b, 1, none⟩ = some (.int .i64 S.count) := hA.cell 1
  simp only [hf] at *
  have k0 : (S.count == 0) = false := by simp; omega
  have hm : mk S.count 1 = badB := by
    unfold mk signed
    rw [if_neg (by decide)]
    have e : Nat.gcd S.count.natAbs (1 : Int).natAbs = 1 := by simp
    rw [e, Nat.div_one, if_pos (by omega)]
  have HM := Lib.hid fun wx => num_Make S.count 1 wx ⟨by omega, by omega⟩ ⟨by decide, by decide⟩
  rw [hm] at HM
  have HF := Lib.hid fun wx => value_Fault 4 wx
  generalize faultF 4 = Q at *
  clear hf hA hc0 hc1 hm
  go_enter Tryz.func181, Tryz.ntmps181
  go_wp2_with fail
  refine (HM.out _).mono ?_
  rintro e w1 ⟨rfl, hb⟩
  obtain ⟨s32, c32_0, c32_1, c32_2, c32_3, c32_4, c32_5, f32⟩ := L6 hb (w.heap.size + 1) (by first | omega | (simp only [sA, sC, sD, sE]; omega) | (simp; done) | (simp; omega)) (by go_simp; exact ⟨rfl, rfl, rfl, rfl, rfl, rfl⟩) (by intro o; go_simp)
  have hz1 := hb.size
  simp only [sz_alloc] at hz1
  have q1 : ¬ w.heap.size + 1 = w1.heap.size := by omega
  have q2 : ¬ w1.heap.size = w.heap.size + 1 := by omega
  go_wp2_with fail
  refine (HF.out _).mono ?_
  rintro e w2 ⟨rfl, hb⟩
  obtain ⟨s33, c33_0, c33_1, c33_2, c33_3, c33_4, c33_5, f33⟩ := L6 hb (w.heap.size + 1) (by first | omega | (simp only [sA, sC, sD, sE]; omega) | (simp; done) | (simp; omega)) (by go_simp; exact ⟨rfl, rfl, rfl, rfl, rfl, rfl⟩) (by intro o; go_simp)
  clear c32_0 c32_1 c32_2 c32_3 c32_4 c32_5 f32
  go_wp2
  refine bodyPost_ret (v := .agg #[.int .i64 (Q).k, .int .i64 (Q).n, .int .i64 (Q).d, .string (Q).t, .bool (Q).b, .int .i64 (Q).f]) (by simp [results, Tryz.results181, go_sem, c33_0, c33_1, c33_2, c33_3, c33_4, c33_5]) rfl ⟨rfl, ?_⟩
  focus
    repeat with_reducible first | exact Below.refl _ _ | refine below_drewN ?_ _ | refine Below.drew ?_ | refine Below.setCell ?_ ?_ _ | refine Below.alloc ?_ ?_ _ | refine below_then ?_ ?_ (by with_reducible assumption)
    all_goals first | omega | (simp only [sA, sC, sD, sE]; omega) | (simp; done) | (simp; omega)
/-- What AVERAGE comes to, whatever the count. -/
def meanG (S : AccS) : Vl := if S.count = 0 then faultF 1 else if 1000000000000 < S.count then faultF 4 else toldF (div S.n S.d S.count 1).n (div S.n S.d S.count 1).d (div S.n S.d S.count 1).ok
theorem numbers_result7 (b : Nat) (S : AccS) (kd : Value) (w : World) (hA : Blk w b (accArr S kd) 57) (hf : S.fn = 7) (hc0 : 0 ≤ S.count) (hc1 : S.count ≤ 9000000000000000000) (h1 : I64 S.n) (h2 : I64 S.d) :
    Calls Tryz.prog 181 #[.agg #[], .pointer (some ⟨b, 0, none⟩)] w fun e w' => e = .returned (.agg #[.int .i64 (meanG S).k, .int .i64 (meanG S).n, .int .i64 (meanG S).d, .string (meanG S).t, .bool (meanG S).b, .int .i64 (meanG S).f]) ∧ Below w.heap.size w w' := by
  unfold meanG
  by_cases h0 : S.count = 0
  · rw [if_pos h0]; exact numbers_result7_0 b S kd w hA hf h0
  · rw [if_neg h0]
    by_cases h3 : 1000000000000 < S.count
    · rw [if_pos h3]; exact numbers_result7_2 b S kd w hA hf h3 hc1
    · rw [if_neg h3]; exact numbers_result7_1 b S kd w hA hf (by omega) (by omega) h1 h2

/-- What COUNT and COUNTA do with an argument, a cell. -/
def AccS.feedC (S : AccS) (v : Vl) : AccS := if v.k ≠ 0 ∧ (¬ (asNum v).e.k = 4 ∨ S.fn = 4) then { S with count := S.count + 1 } else S
def AccS.cellC (S : AccS) (v : Vl) : AccS := if v.k = 1 ∨ (v.k ≠ 0 ∧ S.fn = 4) then { S with count := S.count + 1 } else S
set_option maxHeartbeats 1000000 in
theorem counts_feed0 (b : Nat) (S : AccS) (kd : Value) (v : Vl) (hx : v.In) (h0 : v.k = 0) :
    Turns 197 #[.agg #[], .pointer (some ⟨b, 0, none⟩), .agg #[.int .i64 (v).k, .int .i64 (v).n, .int .i64 (v).d, .string (v).t, .bool (v).b, .int .i64 (v).f]] b S S kd := by
  constructor
  intro w hA
  have hlt := hA.lt
  have hne : ¬ b = w.heap.size := by omega
  have hne' : ¬ w.heap.size = b := by omega
  have k0 : (v.k != 0) = false := by simp [h0]
  have HN := Lib.hid fun wx => value_AsNumber v.k v.n v.d v.t v.b v.f wx hx
  have eR : asNum ⟨v.k, v.n, v.d, v.t, v.b, v.f⟩ = asNum v := rfl
  rw [eR] at HN
  clear eR
  generalize asNum v = R at *
  have HA := Lib.hid ((hA.alloc (.cells #[] 90)).alloc (.cells #[.int .i64 v.k, .int .i64 v.n, .int .i64 v.d, .string v.t, .bool v.b, .int .i64 v.f] 33))
  clear h0 hA
  go_enter Tryz.func197, Tryz.ntmps197
  go_wp2_with fail
  refine (HN.out _).mono ?_
  rintro e w1' ⟨rfl, hb⟩
  have A1 := Lib.hid (HA.out.below hb)
  obtain ⟨s34, c34_0, c34_1, c34_2, c34_3, c34_4, c34_5, f34⟩ := L6 hb (w.heap.size + 1) (by first | omega | (simp only [sA, sC, sD, sE]; omega) | (simp; done) | (simp; omega)) (by go_simp; exact ⟨rfl, rfl, rfl, rfl, rfl, rfl⟩) (by intro o; go_simp)
  have z35 := Below.size hb
  try simp only [sz_alloc, sz_setCell, sz_drew, sz_drewN] at z35
  have hlt1 := A1.out.lt
  have q1 : ¬ w.heap.size + 1 = w1'.heap.size := by have := Below.size hb; simp only [sz_alloc] at this; omega
  have q2 : ¬ w.heap.size + 1 = w1'.heap.size + 1 := by have := Below.size hb; simp only [sz_alloc] at this; omega
  have q3 : ¬ w1'.heap.size = w.heap.size + 1 := fun h => q1 h.symm
  have q4 : ¬ b = w1'.heap.size := by have := Below.size hb; simp only [sz_alloc] at this; omega
  have q6 : ¬ w1'.heap.size = b := fun h => q4 h.symm
  have q7 : ¬ b = w1'.heap.size + 1 := by have := Below.size hb; simp only [sz_alloc] at this; omega
  have q8 : ¬ w1'.heap.size + 1 = b := fun h => q7 h.symm
  have q5 : w.heap.size < w1'.heap.size := by have := Below.size hb; simp only [sz_alloc] at this; omega
  go_wp2
  go_end0
  refine ⟨rfl, (A1.out.alloc _).alloc _, ?_⟩
  repeat (first | with_reducible exact But.refl _ _ _ | with_reducible refine But.drewN ?_ _ | with_reducible refine But.drew ?_ | with_reducible refine But.setCell ?_ _ _ | with_reducible refine But.setNew ?_ (by (first | omega | (simp only [sz_alloc, sz_setCell, sz_drew, sz_drewN]; omega) | (simp; done) | (simp; omega))) _ | with_reducible refine But.alloc ?_ (by (first | omega | (simp only [sz_alloc, sz_setCell, sz_drew, sz_drewN]; omega) | (simp; done) | (simp; omega))) _ | with_reducible refine But.thenBelow ?_ ?_ (by with_reducible assumption) | with_reducible refine But.then ?_ ?_ (by with_reducible assumption) | (first | omega | (simp only [sz_alloc, sz_setCell, sz_drew, sz_drewN]; omega) | (simp; done) | (simp; omega)))
set_option maxHeartbeats 1000000 in
theorem counts_feed1 (b : Nat) (S : AccS) (kd : Value) (v : Vl) (hx : v.In) (h0 : ¬ v.k = 0) (hR : ¬ (asNum v).e.k = 4) (hc0 : 0 ≤ S.count) (hc1 : S.count ≤ 9000000000000000000) :
    Turns 197 #[.agg #[], .pointer (some ⟨b, 0, none⟩), .agg #[.int .i64 (v).k, .int .i64 (v).n, .int .i64 (v).d, .string (v).t, .bool (v).b, .int .i64 (v).f]] b S { S with count := S.count + 1 } kd := by
  constructor
  intro w hA
  have hlt := hA.lt
  have hne : ¬ b = w.heap.size := by omega
  have hne' : ¬ w.heap.size = b := by omega
  have k0 : (v.k != 0) = true := by simp [h0]
  have HN := Lib.hid fun wx => value_AsNumber v.k v.n v.d v.t v.b v.f wx hx
  have eR : asNum ⟨v.k, v.n, v.d, v.t, v.b, v.f⟩ = asNum v := rfl
  rw [eR] at HN
  clear eR
  have r4 : ((asNum v).e.k != 4) = true := by simp [hR]
  clear hR
  generalize asNum v = R at *
  have HA := Lib.hid ((hA.alloc (.cells #[] 90)).alloc (.cells #[.int .i64 v.k, .int .i64 v.n, .int .i64 v.d, .string v.t, .bool v.b, .int .i64 v.f] 33))
  have hw := w64 (x := S.count + 1) (by omega) (by omega)
  clear h0 hA
  go_enter Tryz.func197, Tryz.ntmps197
  go_wp2_with fail
  refine (HN.out _).mono ?_
  rintro e w1' ⟨rfl, hb⟩
  have A1 := Lib.hid (HA.out.below hb)
  obtain ⟨s36, c36_0, c36_1, c36_2, c36_3, c36_4, c36_5, f36⟩ := L6 hb (w.heap.size + 1) (by first | omega | (simp only [sA, sC, sD, sE]; omega) | (simp; done) | (simp; omega)) (by go_simp; exact ⟨rfl, rfl, rfl, rfl, rfl, rfl⟩) (by intro o; go_simp)
  have z37 := Below.size hb
  try simp only [sz_alloc, sz_setCell, sz_drew, sz_drewN] at z37
  have hlt1 := A1.out.lt
  have m1 : w1'.cell? ⟨b, 1, none⟩ = some (.int .i64 S.count) := A1.out.cell 1
  have fz := A1.out.free
  have q1 : ¬ w.heap.size + 1 = w1'.heap.size := by have := Below.size hb; simp only [sz_alloc] at this; omega
  have q2 : ¬ w.heap.size + 1 = w1'.heap.size + 1 := by have := Below.size hb; simp only [sz_alloc] at this; omega
  have q3 : ¬ w1'.heap.size = w.heap.size + 1 := fun h => q1 h.symm
  have q4 : ¬ b = w1'.heap.size := by have := Below.size hb; simp only [sz_alloc] at this; omega
  have q6 : ¬ w1'.heap.size = b := fun h => q4 h.symm
  have q7 : ¬ b = w1'.heap.size + 1 := by have := Below.size hb; simp only [sz_alloc] at this; omega
  have q8 : ¬ w1'.heap.size + 1 = b := fun h => q7 h.symm
  have q5 : w.heap.size < w1'.heap.size := by have := Below.size hb; simp only [sz_alloc] at this; omega
  go_wp2
  go_end0
  refine ⟨rfl, (((A1.out.set 1 _).cast (by simp only [accArr, List.setIfInBounds_toArray, List.set_cons_zero, List.set_cons_succ])).alloc _).alloc _, ?_⟩
  repeat (first | with_reducible exact But.refl _ _ _ | with_reducible refine But.drewN ?_ _ | with_reducible refine But.drew ?_ | with_reducible refine But.setCell ?_ _ _ | with_reducible refine But.setNew ?_ (by (first | omega | (simp only [sz_alloc, sz_setCell, sz_drew, sz_drewN]; omega) | (simp; done) | (simp; omega))) _ | with_reducible refine But.alloc ?_ (by (first | omega | (simp only [sz_alloc, sz_setCell, sz_drew, sz_drewN]; omega) | (simp; done) | (simp; omega))) _ | with_reducible refine But.thenBelow ?_ ?_ (by with_reducible assumption) | with_reducible refine But.then ?_ ?_ (by with_reducible assumption) | (first | omega | (simp only [sz_alloc, sz_setCell, sz_drew, sz_drewN]; omega) | (simp; done) | (simp; omega)))
set_option maxHeartbeats 1000000 in
theorem counts_feed4 (b : Nat) (S : AccS) (kd : Value) (v : Vl) (hx : v.In) (h0 : ¬ v.k = 0) (hR : (asNum v).e.k = 4) (hf : S.fn = 4) (hc0 : 0 ≤ S.count) (hc1 : S.count ≤ 9000000000000000000) :
    Turns 197 #[.agg #[], .pointer (some ⟨b, 0, none⟩), .agg #[.int .i64 (v).k, .int .i64 (v).n, .int .i64 (v).d, .string (v).t, .bool (v).b, .int .i64 (v).f]] b S { S with count := S.count + 1 } kd := by
  constructor
  intro w hA
  have hlt := hA.lt
  have hne : ¬ b = w.heap.size := by omega
  have hne' : ¬ w.heap.size = b := by omega
  have k0 : (v.k != 0) = true := by simp [h0]
  have HN := Lib.hid fun wx => value_AsNumber v.k v.n v.d v.t v.b v.f wx hx
  have eR : asNum ⟨v.k, v.n, v.d, v.t, v.b, v.f⟩ = asNum v := rfl
  rw [eR] at HN
  clear eR
  have r4 : ((asNum v).e.k != 4) = false := by simp [hR]
  clear hR
  generalize asNum v = R at *
  have HA := Lib.hid ((hA.alloc (.cells #[] 90)).alloc (.cells #[.int .i64 v.k, .int .i64 v.n, .int .i64 v.d, .string v.t, .bool v.b, .int .i64 v.f] 33))
  have hw := w64 (x := S.count + 1) (by omega) (by omega)
  have HFN := Lib.hid hf
  clear hf
  clear h0 hA
  go_enter Tryz.func197, Tryz.ntmps197
  go_wp2_with fail
  refine (HN.out _).mono ?_
  rintro e w1' ⟨rfl, hb⟩
  have A1 := Lib.hid (HA.out.below hb)
  obtain ⟨s38, c38_0, c38_1, c38_2, c38_3, c38_4, c38_5, f38⟩ := L6 hb (w.heap.size + 1) (by first | omega | (simp only [sA, sC, sD, sE]; omega) | (simp; done) | (simp; omega)) (by go_simp; exact ⟨rfl, rfl, rfl, rfl, rfl, rfl⟩) (by intro o; go_simp)
  have z39 := Below.size hb
  try simp only [sz_alloc, sz_setCell, sz_drew, sz_drewN] at z39
  have hlt1 := A1.out.lt
  have m0 : w1'.cell? ⟨b, 0, none⟩ = some (.int .i64 4) := (A1.out.cell 0).trans (by rw [← HFN.out]; rfl)
  have m1 : w1'.cell? ⟨b, 1, none⟩ = some (.int .i64 S.count) := A1.out.cell 1
  have fz := A1.out.free
  have q1 : ¬ w.heap.size + 1 = w1'.heap.size := by have := Below.size hb; simp only [sz_alloc] at this; omega
  have q2 : ¬ w.heap.size + 1 = w1'.heap.size + 1 := by have := Below.size hb; simp only [sz_alloc] at this; omega
  have q3 : ¬ w1'.heap.size = w.heap.size + 1 := fun h => q1 h.symm
  have q4 : ¬ b = w1'.heap.size := by have := Below.size hb; simp only [sz_alloc] at this; omega
  have q6 : ¬ w1'.heap.size = b := fun h => q4 h.symm
  have q7 : ¬ b = w1'.heap.size + 1 := by have := Below.size hb; simp only [sz_alloc] at this; omega
  have q8 : ¬ w1'.heap.size + 1 = b := fun h => q7 h.symm
  have q5 : w.heap.size < w1'.heap.size := by have := Below.size hb; simp only [sz_alloc] at this; omega
  go_wp2
  go_end0
  refine ⟨rfl, (((A1.out.set 1 _).cast (by simp only [accArr, List.setIfInBounds_toArray, List.set_cons_zero, List.set_cons_succ])).alloc _).alloc _, ?_⟩
  repeat (first | with_reducible exact But.refl _ _ _ | with_reducible refine But.drewN ?_ _ | with_reducible refine But.drew ?_ | with_reducible refine But.setCell ?_ _ _ | with_reducible refine But.setNew ?_ (by (first | omega | (simp only [sz_alloc, sz_setCell, sz_drew, sz_drewN]; omega) | (simp; done) | (simp; omega))) _ | with_reducible refine But.alloc ?_ (by (first | omega | (simp only [sz_alloc, sz_setCell, sz_drew, sz_drewN]; omega) | (simp; done) | (simp; omega))) _ | with_reducible refine But.thenBelow ?_ ?_ (by with_reducible assumption) | with_reducible refine But.then ?_ ?_ (by with_reducible assumption) | (first | omega | (simp only [sz_alloc, sz_setCell, sz_drew, sz_drewN]; omega) | (simp; done) | (simp; omega)))
set_option maxHeartbeats 1000000 in
theorem counts_feed3 (b : Nat) (S : AccS) (kd : Value) (v : Vl) (hx : v.In) (h0 : ¬ v.k = 0) (hR : (asNum v).e.k = 4) (hf : S.fn = 3) :
    Turns 197 #[.agg #[], .pointer (some ⟨b, 0, none⟩), .agg #[.int .i64 (v).k, .int .i64 (v).n, .int .i64 (v).d, .string (v).t, .bool (v).b, .int .i64 (v).f]] b S S kd := by
  constructor
  intro w hA
  have hlt := hA.lt
  have hne : ¬ b = w.heap.size := by omega
  have hne' : ¬ w.heap.size = b := by omega
  have k0 : (v.k != 0) = true := by simp [h0]
  have HN := Lib.hid fun wx => value_AsNumber v.k v.n v.d v.t v.b v.f wx hx
  have eR : asNum ⟨v.k, v.n, v.d, v.t, v.b, v.f⟩ = asNum v := rfl
  rw [eR] at HN
  clear eR
  have r4 : ((asNum v).e.k != 4) = false := by simp [hR]
  clear hR
  generalize asNum v = R at *
  have HA := Lib.hid ((hA.alloc (.cells #[] 90)).alloc (.cells #[.int .i64 v.k, .int .i64 v.n, .int .i64 v.d, .string v.t, .bool v.b, .int .i64 v.f] 33))
  have HFN := Lib.hid hf
  clear hf
  clear h0 hA
  go_enter Tryz.func197, Tryz.ntmps197
  go_wp2_with fail
  refine (HN.out _).mono ?_
  rintro e w1' ⟨rfl, hb⟩
  have A1 := Lib.hid (HA.out.below hb)
  obtain ⟨s40, c40_0, c40_1, c40_2, c40_3, c40_4, c40_5, f40⟩ := L6 hb (w.heap.size + 1) (by first | omega | (simp only [sA, sC, sD, sE]; omega) | (simp; done) | (simp; omega)) (by go_simp; exact ⟨rfl, rfl, rfl, rfl, rfl, rfl⟩) (by intro o; go_simp)
  have z41 := Below.size hb
  try simp only [sz_alloc, sz_setCell, sz_drew, sz_drewN] at z41
  have hlt1 := A1.out.lt
  have m0 : w1'.cell? ⟨b, 0, none⟩ = some (.int .i64 3) := (A1.out.cell 0).trans (by rw [← HFN.out]; rfl)
  have q1 : ¬ w.heap.size + 1 = w1'.heap.size := by have := Below.size hb; simp only [sz_alloc] at this; omega
  have q2 : ¬ w.heap.size + 1 = w1'.heap.size + 1 := by have := Below.size hb; simp only [sz_alloc] at this; omega
  have q3 : ¬ w1'.heap.size = w.heap.size + 1 := fun h => q1 h.symm
  have q4 : ¬ b = w1'.heap.size := by have := Below.size hb; simp only [sz_alloc] at this; omega
  have q6 : ¬ w1'.heap.size = b := fun h => q4 h.symm
  have q7 : ¬ b = w1'.heap.size + 1 := by have := Below.size hb; simp only [sz_alloc] at this; omega
  have q8 : ¬ w1'.heap.size + 1 = b := fun h => q7 h.symm
  have q5 : w.heap.size < w1'.heap.size := by have := Below.size hb; simp only [sz_alloc] at this; omega
  go_wp2
  go_end0
  refine ⟨rfl, (A1.out.alloc _).alloc _, ?_⟩
  repeat (first | with_reducible exact But.refl _ _ _ | with_reducible refine But.drewN ?_ _ | with_reducible refine But.drew ?_ | with_reducible refine But.setCell ?_ _ _ | with_reducible refine But.setNew ?_ (by (first | omega | (simp only [sz_alloc, sz_setCell, sz_drew, sz_drewN]; omega) | (simp; done) | (simp; omega))) _ | with_reducible refine But.alloc ?_ (by (first | omega | (simp only [sz_alloc, sz_setCell, sz_drew, sz_drewN]; omega) | (simp; done) | (simp; omega))) _ | with_reducible refine But.thenBelow ?_ ?_ (by with_reducible assumption) | with_reducible refine But.then ?_ ?_ (by with_reducible assumption) | (first | omega | (simp only [sz_alloc, sz_setCell, sz_drew, sz_drewN]; omega) | (simp; done) | (simp; omega)))
set_option maxHeartbeats 1000000 in
theorem counts_cell0 (b : Nat) (S : AccS) (kd : Value) (v : Vl) (h1 : ¬ v.k = 1) (h0 : v.k = 0) :
    Turns 196 #[.agg #[], .pointer (some ⟨b, 0, none⟩), .agg #[.int .i64 (v).k, .int .i64 (v).n, .int .i64 (v).d, .string (v).t, .bool (v).b, .int .i64 (v).f]] b S S kd := by
  constructor
  intro w hA
  have hlt := hA.lt
  have hne : ¬ b = w.heap.size := by omega
  have hne' : ¬ w.heap.size = b := by omega
  have hne1 : ¬ b = w.heap.size + 1 := by omega
  have hne1' : ¬ w.heap.size + 1 = b := by omega
  have k1 : (v.k == 1) = false := by simp [h1]
  have k0 : (v.k != 0) = false := by simp [h0]
  clear h0
  have HA := Lib.hid hA
  clear h1 hA
  go_enter Tryz.func196, Tryz.ntmps196
  go_wp2
  go_end0
  refine ⟨rfl, (HA.out.alloc _).alloc _, ?_⟩
  repeat (first | with_reducible exact But.refl _ _ _ | with_reducible refine But.drewN ?_ _ | with_reducible refine But.drew ?_ | with_reducible refine But.setCell ?_ _ _ | with_reducible refine But.setNew ?_ (by (first | omega | (simp only [sz_alloc, sz_setCell, sz_drew, sz_drewN]; omega) | (simp; done) | (simp; omega))) _ | with_reducible refine But.alloc ?_ (by (first | omega | (simp only [sz_alloc, sz_setCell, sz_drew, sz_drewN]; omega) | (simp; done) | (simp; omega))) _ | with_reducible refine But.thenBelow ?_ ?_ (by with_reducible assumption) | with_reducible refine But.then ?_ ?_ (by with_reducible assumption) | (first | omega | (simp only [sz_alloc, sz_setCell, sz_drew, sz_drewN]; omega) | (simp; done) | (simp; omega)))
set_option maxHeartbeats 1000000 in
theorem counts_cell4 (b : Nat) (S : AccS) (kd : Value) (v : Vl) (h1 : ¬ v.k = 1) (h0 : ¬ v.k = 0) (hf : S.fn = 4) (hc0 : 0 ≤ S.count) (hc1 : S.count ≤ 9000000000000000000) :
    Turns 196 #[.agg #[], .pointer (some ⟨b, 0, none⟩), .agg #[.int .i64 (v).k, .int .i64 (v).n, .int .i64 (v).d, .string (v).t, .bool (v).b, .int .i64 (v).f]] b S { S with count := S.count + 1 } kd := by
  constructor
  intro w hA
  have hlt := hA.lt
  have hne : ¬ b = w.heap.size := by omega
  have hne' : ¬ w.heap.size = b := by omega
  have hne1 : ¬ b = w.heap.size + 1 := by omega
  have hne1' : ¬ w.heap.size + 1 = b := by omega
  have k1 : (v.k == 1) = false := by simp [h1]
  have k0 : (v.k != 0) = true := by simp [h0]
  clear h0
  have m0 : w.cell? ⟨b, 0, none⟩ = some (.int .i64 4) := (hA.cell 0).trans (by rw [← hf]; rfl)
  clear hf
  have m1 : w.cell? ⟨b, 1, none⟩ = some (.int .i64 S.count) := hA.cell 1
  have fz := hA.free
  have hw := w64 (x := S.count + 1) (by omega) (by omega)
  have HA := Lib.hid hA
  clear h1 hA
  go_enter Tryz.func196, Tryz.ntmps196
  go_wp2
  go_end0
  refine ⟨rfl, (((HA.out.set 1 _).cast (by simp only [accArr, List.setIfInBounds_toArray, List.set_cons_zero, List.set_cons_succ])).alloc _).alloc _, ?_⟩
  repeat (first | with_reducible exact But.refl _ _ _ | with_reducible refine But.drewN ?_ _ | with_reducible refine But.drew ?_ | with_reducible refine But.setCell ?_ _ _ | with_reducible refine But.setNew ?_ (by (first | omega | (simp only [sz_alloc, sz_setCell, sz_drew, sz_drewN]; omega) | (simp; done) | (simp; omega))) _ | with_reducible refine But.alloc ?_ (by (first | omega | (simp only [sz_alloc, sz_setCell, sz_drew, sz_drewN]; omega) | (simp; done) | (simp; omega))) _ | with_reducible refine But.thenBelow ?_ ?_ (by with_reducible assumption) | with_reducible refine But.then ?_ ?_ (by with_reducible assumption) | (first | omega | (simp only [sz_alloc, sz_setCell, sz_drew, sz_drewN]; omega) | (simp; done) | (simp; omega)))
set_option maxHeartbeats 1000000 in
theorem counts_cell3 (b : Nat) (S : AccS) (kd : Value) (v : Vl) (h1 : ¬ v.k = 1) (h0 : ¬ v.k = 0) (hf : S.fn = 3) :
    Turns 196 #[.agg #[], .pointer (some ⟨b, 0, none⟩), .agg #[.int .i64 (v).k, .int .i64 (v).n, .int .i64 (v).d, .string (v).t, .bool (v).b, .int .i64 (v).f]] b S S kd := by
  constructor
  intro w hA
  have hlt := hA.lt
  have hne : ¬ b = w.heap.size := by omega
  have hne' : ¬ w.heap.size = b := by omega
  have hne1 : ¬ b = w.heap.size + 1 := by omega
  have hne1' : ¬ w.heap.size + 1 = b := by omega
  have k1 : (v.k == 1) = false := by simp [h1]
  have k0 : (v.k != 0) = true := by simp [h0]
  clear h0
  have m0 : w.cell? ⟨b, 0, none⟩ = some (.int .i64 3) := (hA.cell 0).trans (by rw [← hf]; rfl)
  clear hf
  have HA := Lib.hid hA
  clear h1 hA
  go_enter Tryz.func196, Tryz.ntmps196
  go_wp2
  go_end0
  refine ⟨rfl, (HA.out.alloc _).alloc _, ?_⟩
  repeat (first | with_reducible exact But.refl _ _ _ | with_reducible refine But.drewN ?_ _ | with_reducible refine But.drew ?_ | with_reducible refine But.setCell ?_ _ _ | with_reducible refine But.setNew ?_ (by (first | omega | (simp only [sz_alloc, sz_setCell, sz_drew, sz_drewN]; omega) | (simp; done) | (simp; omega))) _ | with_reducible refine But.alloc ?_ (by (first | omega | (simp only [sz_alloc, sz_setCell, sz_drew, sz_drewN]; omega) | (simp; done) | (simp; omega))) _ | with_reducible refine But.thenBelow ?_ ?_ (by with_reducible assumption) | with_reducible refine But.then ?_ ?_ (by with_reducible assumption) | (first | omega | (simp only [sz_alloc, sz_setCell, sz_drew, sz_drewN]; omega) | (simp; done) | (simp; omega)))
theorem counts_feed (b : Nat) (S : AccS) (kd : Value) (v : Vl) (hx : v.In) (hf : S.fn = 3 ∨ S.fn = 4) (hc0 : 0 ≤ S.count) (hc1 : S.count ≤ 9000000000000000000) :
    Turns 197 #[.agg #[], .pointer (some ⟨b, 0, none⟩), .agg #[.int .i64 (v).k, .int .i64 (v).n, .int .i64 (v).d, .string (v).t, .bool (v).b, .int .i64 (v).f]] b S (S.feedC v) kd := by
  unfold AccS.feedC
  by_cases h0 : v.k = 0
  · rw [if_neg (by omega)]; exact counts_feed0 b S kd v hx h0
  by_cases h4 : (asNum v).e.k = 4
  · rcases hf with hf | hf
    · rw [if_neg (by omega)]; exact counts_feed3 b S kd v hx h0 h4 hf
    · rw [if_pos (by omega)]; exact counts_feed4 b S kd v hx h0 h4 hf hc0 hc1
  · rw [if_pos (by omega)]; exact counts_feed1 b S kd v hx h0 h4 hc0 hc1
theorem counts_cell (b : Nat) (S : AccS) (kd : Value) (v : Vl) (hf : S.fn = 3 ∨ S.fn = 4) (hc0 : 0 ≤ S.count) (hc1 : S.count ≤ 9000000000000000000) :
    Turns 196 #[.agg #[], .pointer (some ⟨b, 0, none⟩), .agg #[.int .i64 (v).k, .int .i64 (v).n, .int .i64 (v).d, .string (v).t, .bool (v).b, .int .i64 (v).f]] b S (S.cellC v) kd := by
  unfold AccS.cellC
  by_cases h1 : v.k = 1
  · rw [if_pos (by omega)]; exact counts_cell1 b S kd v h1 hc0 hc1
  by_cases h0 : v.k = 0
  · rw [if_neg (by omega)]; exact counts_cell0 b S kd v h1 h0
  rcases hf with hf | hf
  · rw [if_neg (by omega)]; exact counts_cell3 b S kd v h1 h0 hf
  · rw [if_pos (by omega)]; exact counts_cell4 b S kd v h1 h0 hf hc0 hc1
end Go.Proofs.YtnimenpfojcehaaGreatDoor
