/- Walks of package num, fourth part: products and quotients. -/
import Derived.Test.YtangdbjoflnobaaGreatDoorNumC
namespace Go.Proofs.YtangdbjoflnobaaGreatDoor
open Go.RowKit
set_option linter.unusedSimpArgs false
set_option linter.unusedVariables false

theorem tdiv_nb (n : Int) (g : Nat) : (n.tdiv g).natAbs ≤ n.natAbs := by
  rw [Int.natAbs_tdiv]; exact Nat.div_le_self _ _
theorem natAbs_mul_le {a b : Int} {k : Nat} (hb : b ≠ 0) (h : ¬ k / b.natAbs < a.natAbs) : (a * b).natAbs ≤ k := by
  rw [Int.natAbs_mul]
  have : 0 < b.natAbs := by omega
  exact (Nat.le_div_iff_mul_le this).1 (by omega)

set_option maxHeartbeats 1000000 in
theorem num_product (n d m e : Int) (w : World) (hn0 : -1000000000000 ≤ n) (hn1 : n ≤ 1000000000000) (hm0 : -1000000000000 ≤ m) (hm1 : m ≤ 1000000000000) (hd0 : 1 ≤ d) (hd1 : d ≤ 1000000) (he0 : 1 ≤ e) (he1 : e ≤ 1000000000000) :
    Calls Tryz.prog 138 #[.int .i64 n, .int .i64 d, .int .i64 m, .int .i64 e] w fun e' w' => e' = .returned (.tuple #[.agg #[.int .i64 (prod n d m e).n, .int .i64 (prod n d m e).d], .bool (prod n d m e).ok]) ∧ Below w.heap.size w w' := by
  have hg : 0 < Nat.gcd n.natAbs e.natAbs := Nat.gcd_pos_of_pos_right _ (by omega)
  have hh : 0 < Nat.gcd m.natAbs d.natAbs := Nat.gcd_pos_of_pos_right _ (by omega)
  have hgl : Nat.gcd n.natAbs e.natAbs ≤ e.natAbs := Nat.gcd_le_right _ (by omega)
  have hhl : Nat.gcd m.natAbs d.natAbs ≤ d.natAbs := Nat.gcd_le_right _ (by omega)
  have he2 : (e.natAbs : Int) = e := by omega
  have hd2 : (d.natAbs : Int) = d := by omega
  have c1 := fun wx => num_gcd n.natAbs e.natAbs wx (by omega) (by omega)
  have c2 := fun wx => num_gcd m.natAbs d.natAbs wx (by omega) (by omega)
  rw [he2] at c1
  rw [hd2] at c2
  have s1 := fun wx => num_size n wx ⟨by omega, by omega⟩
  have s2 := fun wx => num_size m wx ⟨by omega, by omega⟩
  have HF : Hid (prod n d m e = prodQ (n.tdiv (Nat.gcd n.natAbs e.natAbs : Nat)) (d / (Nat.gcd m.natAbs d.natAbs : Nat)) (m.tdiv (Nat.gcd m.natAbs d.natAbs : Nat)) (e / (Nat.gcd n.natAbs e.natAbs : Nat))) := rfl
  have b1 := tdiv_nb n (Nat.gcd n.natAbs e.natAbs)
  have b2 := tdiv_nb m (Nat.gcd m.natAbs d.natAbs)
  have b3 : 0 ≤ d / ((Nat.gcd m.natAbs d.natAbs : Nat) : Int) := Int.ediv_nonneg (by omega) (by omega)
  have b4 : 0 ≤ e / ((Nat.gcd n.natAbs e.natAbs : Nat) : Int) := Int.ediv_nonneg (by omega) (by omega)
  have b5 : d / ((Nat.gcd m.natAbs d.natAbs : Nat) : Int) ≤ d := Int.ediv_le_self _ (by omega)
  have b6 : e / ((Nat.gcd n.natAbs e.natAbs : Nat) : Int) ≤ e := Int.ediv_le_self _ (by omega)
  have C1 := Lib.hid c1
  have C2 := Lib.hid c2
  have S1 := Lib.hid s1
  have S2 := Lib.hid s2
  clear c1 c2 s1 s2
  generalize hG : Nat.gcd n.natAbs e.natAbs = G at *
  generalize hH : Nat.gcd m.natAbs d.natAbs = H at *
  clear hG hH
  generalize hA : n.tdiv (G : Int) = A at *
  generalize hB : d / (H : Int) = B at *
  generalize hC : m.tdiv (H : Int) = C at *
  generalize hD : e / (G : Int) = D at *
  have g0 : ((G : Int) == 0) = false := by rw [beq_eq_false_iff_ne]; omega
  have h0 : ((H : Int) == 0) = false := by rw [beq_eq_false_iff_ne]; omega
  have hA1 : -1000000000000 ≤ A := by omega
  have hA2 : A ≤ 1000000000000 := by omega
  have hC1 : -1000000000000 ≤ C := by omega
  have hC2 : C ≤ 1000000000000 := by omega
  have hBD := mul_bd (x := B) (y := D) (a := 1000000) (b := 1000000000000) (by omega) (by omega) b4 (by omega)
  have wBD : IntKind.i64.wrap (B * D) = B * D := w64 (by omega) (by omega)
  have s3 := fun wx => num_size A wx ⟨by omega, by omega⟩
  have s4 := fun wx => num_size C wx ⟨by omega, by omega⟩
  have S3 := Lib.hid s3
  have S4 := Lib.hid s4
  clear s3 s4 he2 hd2 b1 b2 hBD
  go_enter Tryz.func138, Tryz.ntmps138
  go_wp2_with fail
  refine (S1.out _).mono ?_
  rintro e w1 ⟨rfl, rfl⟩
  go_wp2_with fail
  refine (C1.out _).mono ?_
  rintro e w1 ⟨rfl, n1, rfl⟩
  go_wp2_with fail
  refine (S2.out _).mono ?_
  rintro e w1 ⟨rfl, rfl⟩
  go_wp2_with fail
  refine (C2.out _).mono ?_
  rintro e w1 ⟨rfl, n2, rfl⟩
  go_wp2_with fail
  go_quiet (fail)
  by_cases hC0 : C = 0
  · subst hC0
    by_cases hBD : 1000000 < B * D
    · have HV : Hid (prodQ A B 0 D = badB) := by unfold Hid prodQ; rw [if_pos (Or.inr hBD)]
      go_wp2
      refine bodyPost_ret (v := .tuple #[.agg #[.int .i64 (prod n d m e).n, .int .i64 (prod n d m e).d], .bool (prod n d m e).ok]) (by rw [HF.out, HV.out]; simp [results, Tryz.results138, go_sem, badB]) rfl ⟨rfl, ?_⟩
      repeat (first | with_reducible exact Below.refl _ _ | with_reducible refine below_drewN ?_ _ | with_reducible refine Below.drew ?_ | with_reducible refine Below.setCell ?_ (by (first | omega | (simp only [sz_alloc, sz_setCell, sz_drew, sz_drewN]; omega) | (simp; done) | (simp; omega))) _ | with_reducible refine Below.alloc ?_ (by (first | omega | (simp only [sz_alloc, sz_setCell, sz_drew, sz_drewN]; omega) | (simp; done) | (simp; omega))) _ | with_reducible refine below_then ?_ ?_ (by with_reducible assumption) | (first | omega | (simp only [sz_alloc, sz_setCell, sz_drew, sz_drewN]; omega) | (simp; done) | (simp; omega)))
    · have HV : Hid (prodQ A B 0 D = ⟨0, 1, true⟩) := by unfold Hid prodQ; rw [if_neg (by omega), if_pos (by simp)]
      go_wp2
      refine bodyPost_ret (v := .tuple #[.agg #[.int .i64 (prod n d m e).n, .int .i64 (prod n d m e).d], .bool (prod n d m e).ok]) (by rw [HF.out, HV.out]; simp [results, Tryz.results138, go_sem, badB]) rfl ⟨rfl, ?_⟩
      repeat (first | with_reducible exact Below.refl _ _ | with_reducible refine below_drewN ?_ _ | with_reducible refine Below.drew ?_ | with_reducible refine Below.setCell ?_ (by (first | omega | (simp only [sz_alloc, sz_setCell, sz_drew, sz_drewN]; omega) | (simp; done) | (simp; omega))) _ | with_reducible refine Below.alloc ?_ (by (first | omega | (simp only [sz_alloc, sz_setCell, sz_drew, sz_drewN]; omega) | (simp; done) | (simp; omega))) _ | with_reducible refine below_then ?_ ?_ (by with_reducible assumption) | (first | omega | (simp only [sz_alloc, sz_setCell, sz_drew, sz_drewN]; omega) | (simp; done) | (simp; omega)))
  · have hC1' : (C != 0) = true := by simp [hC0]
    have hC2' : (C == 0) = false := by simp [hC0]
    have hCa : (((C.natAbs : Nat) : Int) == 0) = false := by rw [beq_eq_false_iff_ne]; omega
    have hCn : C.natAbs ≤ 1000000000000 := by omega
    have hAn : A.natAbs ≤ 1000000000000 := by omega
    have hq : (1000000000000 : Int) / ((C.natAbs : Nat) : Int) = ((1000000000000 / C.natAbs : Nat) : Int) := rfl
    have hQl : 1000000000000 / C.natAbs ≤ 1000000000000 := Nat.div_le_self _ _
    have hmul : ¬ 1000000000000 / C.natAbs < A.natAbs → (A * C).natAbs ≤ 1000000000000 := natAbs_mul_le hC0
    have HV0 : ∀ r, ((C ≠ 0 ∧ 1000000000000 / C.natAbs < A.natAbs) ∨ 1000000 < B * D → r = badB) → (¬ ((C ≠ 0 ∧ 1000000000000 / C.natAbs < A.natAbs) ∨ 1000000 < B * D) → r = if A * C = 0 then ⟨0, 1, true⟩ else ⟨A * C, B * D, true⟩) → prodQ A B C D = r := by
      intro r h1 h2
      unfold prodQ
      split
      · rename_i h; exact (h1 h).symm
      · rename_i h; exact (h2 h).symm
    have HV1 := Lib.hid HV0
    have HM := Lib.hid hmul
    clear HV0 hmul
    generalize 1000000000000 / C.natAbs = Q at *
    by_cases hov : Q < A.natAbs
    · have HV : Hid (prodQ A B C D = badB) := HV1.out _ (fun _ => rfl) (fun h => absurd (Or.inl ⟨hC0, hov⟩) h)

      go_wp2_with fail
      refine (S3.out _).mono ?_
      rintro e' w1 ⟨rfl, rfl⟩
      go_wp2_with fail
      refine (S4.out _).mono ?_
      rintro e' w1 ⟨rfl, rfl⟩
      go_wp2
      refine bodyPost_ret (v := .tuple #[.agg #[.int .i64 (prod n d m e).n, .int .i64 (prod n d m e).d], .bool (prod n d m e).ok]) (by rw [HF.out, HV.out]; simp [results, Tryz.results138, go_sem, badB]) rfl ⟨rfl, ?_⟩
      repeat (first | with_reducible exact Below.refl _ _ | with_reducible refine below_drewN ?_ _ | with_reducible refine Below.drew ?_ | with_reducible refine Below.setCell ?_ (by (first | omega | (simp only [sz_alloc, sz_setCell, sz_drew, sz_drewN]; omega) | (simp; done) | (simp; omega))) _ | with_reducible refine Below.alloc ?_ (by (first | omega | (simp only [sz_alloc, sz_setCell, sz_drew, sz_drewN]; omega) | (simp; done) | (simp; omega))) _ | with_reducible refine below_then ?_ ?_ (by with_reducible assumption) | (first | omega | (simp only [sz_alloc, sz_setCell, sz_drew, sz_drewN]; omega) | (simp; done) | (simp; omega)))
    by_cases hBD : 1000000 < B * D
    · have HV : Hid (prodQ A B C D = badB) := HV1.out _ (fun _ => rfl) (fun h => absurd (Or.inr hBD) h)

      go_wp2_with fail
      refine (S3.out _).mono ?_
      rintro e' w1 ⟨rfl, rfl⟩
      go_wp2_with fail
      refine (S4.out _).mono ?_
      rintro e' w1 ⟨rfl, rfl⟩
      go_wp2
      refine bodyPost_ret (v := .tuple #[.agg #[.int .i64 (prod n d m e).n, .int .i64 (prod n d m e).d], .bool (prod n d m e).ok]) (by rw [HF.out, HV.out]; simp [results, Tryz.results138, go_sem, badB]) rfl ⟨rfl, ?_⟩
      repeat (first | with_reducible exact Below.refl _ _ | with_reducible refine below_drewN ?_ _ | with_reducible refine Below.drew ?_ | with_reducible refine Below.setCell ?_ (by (first | omega | (simp only [sz_alloc, sz_setCell, sz_drew, sz_drewN]; omega) | (simp; done) | (simp; omega))) _ | with_reducible refine Below.alloc ?_ (by (first | omega | (simp only [sz_alloc, sz_setCell, sz_drew, sz_drewN]; omega) | (simp; done) | (simp; omega))) _ | with_reducible refine below_then ?_ ?_ (by with_reducible assumption) | (first | omega | (simp only [sz_alloc, sz_setCell, sz_drew, sz_drewN]; omega) | (simp; done) | (simp; omega)))
    have hb := HM.out hov
    have wAC : IntKind.i64.wrap (A * C) = A * C := w64 (by omega) (by omega)
    have HV2 : Hid (prodQ A B C D = if A * C = 0 then ⟨0, 1, true⟩ else ⟨A * C, B * D, true⟩) := HV1.out _ (fun h => by rcases h with h | h; exact absurd h.2 hov; exact absurd h hBD) (fun _ => rfl)
    clear hb
    by_cases hz : A * C = 0
    all_goals
      have HV := HV2.out
      first | rw [if_pos hz] at HV | rw [if_neg hz] at HV
      have HV := Lib.hid HV
      have hz1 := Lib.hid hz
      first | (have hz2 : (A * C == 0) = true := by simp only [hz, beq_self_eq_true]) | (have hz2 : (A * C == 0) = false := by rw [beq_eq_false_iff_ne]; exact hz)
      clear hz HV2
      go_wp2_with fail
      refine (S3.out _).mono ?_
      rintro e' w1 ⟨rfl, rfl⟩
      go_wp2_with fail
      refine (S4.out _).mono ?_
      rintro e' w1 ⟨rfl, rfl⟩
      go_wp2
      refine bodyPost_ret (v := .tuple #[.agg #[.int .i64 (prod n d m e).n, .int .i64 (prod n d m e).d], .bool (prod n d m e).ok]) (by rw [HF.out, HV.out]; simp [results, Tryz.results138, go_sem, hz1.out]) rfl ⟨rfl, ?_⟩
      repeat (first | with_reducible exact Below.refl _ _ | with_reducible refine below_drewN ?_ _ | with_reducible refine Below.drew ?_ | with_reducible refine Below.setCell ?_ (by (first | omega | (simp only [sz_alloc, sz_setCell, sz_drew, sz_drewN]; omega) | (simp; done) | (simp; omega))) _ | with_reducible refine Below.alloc ?_ (by (first | omega | (simp only [sz_alloc, sz_setCell, sz_drew, sz_drewN]; omega) | (simp; done) | (simp; omega))) _ | with_reducible refine below_then ?_ ?_ (by with_reducible assumption) | (first | omega | (simp only [sz_alloc, sz_setCell, sz_drew, sz_drewN]; omega) | (simp; done) | (simp; omega)))
end Go.Proofs.YtangdbjoflnobaaGreatDoor
