/- Walks of package num, seventh part: Read. -/
import Derived.Test.YtnimenpfojcehaaGreatDoorNumF
import Derived.Test.YtnimenpfojcehaaGreatDoorShelf
namespace Go.Proofs.YtnimenpfojcehaaGreatDoor
open Go.RowKit
set_option linter.unusedSimpArgs false
set_option linter.unusedVariables false

theorem num_digitsL (T : List UInt8) (w : World) (hs : T.length ≤ 140737488351232) :
    Calls Tryz.prog 104 #[.string (txt T)] w fun e w' => e = .returned (.tuple #[.int .i64 (digits T).n, .string (txt (digits T).rest), .bool (digits T).ok]) ∧ Drawn w w' := by
  have := num_digits (txt T) w (by rw [txt_size]; exact hs)
  rwa [txt_list] at this
theorem txt_at (c : UInt8) (r : List UInt8) (h : 0 < (txt (c :: r)).size) : (txt (c :: r))[0] = c := rfl
theorem txt_tail (c : UInt8) (r : List UInt8) : (txt (c :: r)).extract 1 (txt (c :: r)).size = txt r := by
  rw [txt_drop, txt_list]; rfl
theorem trimPrefix_le (l p : List UInt8) : (Lib.trimPrefix l p).length ≤ l.length := by
  unfold Lib.trimPrefix; split <;> simp
theorem readP_ok0 (m : Bool) (n : Int) (R : List UInt8) : readP m n false R = badB := by
  cases R <;> simp [readP]
theorem txt_toList (l : List UInt8) : (txt l).toList = l := by rw [ByteArray.toList_eq, txt_list]
set_option maxHeartbeats 1000000 in
theorem num_Read (s : ByteArray) (w : World) (hs : s.size ≤ 140737488351232) :
    Calls Tryz.prog 80 #[.string s] w fun e w' => e = .returned (.tuple #[.agg #[.int .i64 (readN s.data.toList).n, .int .i64 (readN s.data.toList).d], .bool (readN s.data.toList).ok]) ∧ Below w.heap.size w w' := by
  have HF0 : readN s.data.toList = readP (Lib.hasPrefix s.data.toList [45]) (digits (Lib.trimPrefix s.data.toList [45])).n (digits (Lib.trimPrefix s.data.toList [45])).ok (digits (Lib.trimPrefix s.data.toList [45])).rest := rfl
  have hl := trimPrefix_le s.data.toList [45]
  have hl2 : s.data.toList.length = s.size := by simp
  have HC := Lib.hid fun wx => Tryz.strings_CutPrefix s ⟨#[45]⟩ wx
  have e45 : (ByteArray.mk #[45]).data.toList = [45] := rfl
  rw [e45] at HC
  have HD := Lib.hid fun wx => num_digitsL (Lib.trimPrefix s.data.toList [45]) wx (by omega)
  have hb := digits_bd (Lib.trimPrefix s.data.toList [45])
  have hr := dg_rest (Lib.trimPrefix s.data.toList [45]) 0 false
  change (digits (Lib.trimPrefix s.data.toList [45])).rest.length ≤ _ at hr
  generalize readN s.data.toList = Res at *
  generalize Lib.hasPrefix s.data.toList [45] = m at *
  change Hid (∀ wx, Calls _ _ _ wx fun e w' => e = .returned (.tuple #[.string (txt (Lib.trimPrefix s.data.toList [45])), _]) ∧ _) at HC
  generalize Lib.trimPrefix s.data.toList [45] = T at *
  generalize digits T = D at *
  obtain ⟨n, R, ok⟩ := D
  simp only at hb hr HD HF0
  obtain ⟨hn0, hn1⟩ := hb
  have hRl : R.length ≤ 140737488351232 := by omega
  clear hl hl2 hr e45
  cases ok
  · have HF : Hid (Res = badB) := by unfold Hid; rw [HF0, readP_ok0]
    clear HF0
    go_enter Tryz.func80, Tryz.ntmps80
    go_wp2_with fail
    refine (HC.out _).mono ?_
    rintro e w1 ⟨rfl, rfl⟩
    go_wp2_with fail
    refine (HD.out _).mono ?_
    rintro e w1 ⟨rfl, n1, rfl⟩
    go_wp2
    refine bodyPost_ret (v := .tuple #[.agg #[.int .i64 Res.n, .int .i64 Res.d], .bool Res.ok]) (by rw [HF.out]; simp [results, Tryz.results80, go_sem, badB]) rfl ⟨rfl, ?_⟩
    focus
      repeat with_reducible first | exact Below.refl _ _ | refine below_drewN ?_ _ | refine Below.drew ?_ | refine Below.setCell ?_ ?_ _ | refine Below.alloc ?_ ?_ _ | refine below_then ?_ ?_ (by with_reducible assumption)
      all_goals first | omega | (simp only [sA, sC, sD, sE]; omega) | (simp; done) | (simp; omega)
  cases R with
  | nil =>
    cases m
    all_goals
      have HF := Lib.hid HF0
      clear HF0
      have hE2 : (txt []).toList = [] := txt_toList []
      have hE1 : (txt []).toList.isEmpty = true := by rw [hE2]; rfl
      have HM0 := Lib.hid fun wx => num_Make n 1 wx ⟨by omega, by omega⟩ ⟨by omega, by omega⟩
      have HM1 := Lib.hid fun wx => num_Make (-n) 1 wx ⟨by omega, by omega⟩ ⟨by omega, by omega⟩
      go_enter Tryz.func80, Tryz.ntmps80
      go_wp2_with fail
      refine (HC.out _).mono ?_
      rintro e w1 ⟨rfl, rfl⟩
      go_wp2_with fail
      refine (HD.out _).mono ?_
      rintro e w1 ⟨rfl, n1, rfl⟩
      go_wp2_with fail
      first | with_reducible refine (HM0.out _).mono ?_ | with_reducible refine (HM1.out _).mono ?_
      rintro e w2 ⟨rfl, hb2⟩
      have c1 := lcc hb2 (w.heap.size) (by (first | omega | (simp only [sz_alloc, sz_setCell, sz_drew, sz_drewN]; omega) | (simp; done) | (simp; omega)))
      have f1 := lcf hb2 (w.heap.size) (by (first | omega | (simp only [sz_alloc, sz_setCell, sz_drew, sz_drewN]; omega) | (simp; done) | (simp; omega)))
      have s1 := lcs hb2 (w.heap.size) (by (first | omega | (simp only [sz_alloc, sz_setCell, sz_drew, sz_drewN]; omega) | (simp; done) | (simp; omega)))
      go_wp2
      refine bodyPost_ret (v := .tuple #[.agg #[.int .i64 Res.n, .int .i64 Res.d], .bool Res.ok]) (by rw [HF.out]; simp [results, Tryz.results80, go_sem, c1, readP, sgn]) rfl ⟨rfl, ?_⟩
      focus
        repeat with_reducible first | exact Below.refl _ _ | refine below_drewN ?_ _ | refine Below.drew ?_ | refine Below.setCell ?_ ?_ _ | refine Below.alloc ?_ ?_ _ | refine below_then ?_ ?_ (by with_reducible assumption)
        all_goals first | omega | (simp only [sA, sC, sD, sE]; omega) | (simp; done) | (simp; omega)
  | cons c r =>
    have hU : (txt (c :: r)).size = r.length + 1 := txt_size _
    have hE2 : (txt (c :: r)).toList = c :: r := txt_toList _
    have hE1 : (txt (c :: r)).toList.isEmpty = false := by rw [hE2]; rfl
    have hX : (txt (c :: r)).extract 1 (r.length + 1) = txt r := by have := txt_tail c r; rwa [hU] at this
    have hA := txt_at c r
    simp only [List.length_cons] at hRl
    have HD2 := Lib.hid fun wx => num_digitsL r wx (by omega)
    have hb2 := digits_bd r
    rw [readP] at HF0
    obtain ⟨E, hE⟩ : ∃ E, digits r = E := ⟨_, rfl⟩
    rw [hE] at HF0 hb2 HD2
    clear hE
    obtain ⟨m2, R2, ok2⟩ := E
    dsimp only at hb2 HF0
    obtain ⟨hm0, hm1⟩ := hb2
    generalize txt (c :: r) = U at *
    cases ok2
    · have HF : Hid (Res = badB) := by unfold Hid; rw [HF0, if_pos (Or.inr (Or.inl rfl))]
      clear HF0
      go_enter Tryz.func80, Tryz.ntmps80
      go_wp2_with fail
      refine (HC.out _).mono ?_
      rintro e w1 ⟨rfl, rfl⟩
      go_wp2_with fail
      refine (HD.out _).mono ?_
      rintro e w1 ⟨rfl, n1, rfl⟩
      go_wp2_with fail
      refine (HD2.out _).mono ?_
      rintro e w1 ⟨rfl, n2, rfl⟩
      go_wp2
      refine bodyPost_ret (v := .tuple #[.agg #[.int .i64 Res.n, .int .i64 Res.d], .bool Res.ok]) (by rw [HF.out]; simp [results, Tryz.results80, go_sem, badB]) rfl ⟨rfl, ?_⟩
      focus
        repeat with_reducible first | exact Below.refl _ _ | refine below_drewN ?_ _ | refine Below.drew ?_ | refine Below.setCell ?_ ?_ _ | refine Below.alloc ?_ ?_ _ | refine below_then ?_ ?_ (by with_reducible assumption)
        all_goals first | omega | (simp only [sA, sC, sD, sE]; omega) | (simp; done) | (simp; omega)
    cases R2 with
    | cons c2 r2 =>
      have HF : Hid (Res = badB) := by unfold Hid; rw [HF0, if_pos (Or.inr (Or.inr (by simp)))]
      clear HF0
      have hE4 : (txt (c2 :: r2)).toList = c2 :: r2 := txt_toList _
      have hE3 : (txt (c2 :: r2)).toList.isEmpty = false := by rw [hE4]; rfl
      go_enter Tryz.func80, Tryz.ntmps80
      go_wp2_with fail
      refine (HC.out _).mono ?_
      rintro e w1 ⟨rfl, rfl⟩
      go_wp2_with fail
      refine (HD.out _).mono ?_
      rintro e w1 ⟨rfl, n1, rfl⟩
      go_wp2_with fail
      refine (HD2.out _).mono ?_
      rintro e w1 ⟨rfl, n2, rfl⟩
      go_wp2
      refine bodyPost_ret (v := .tuple #[.agg #[.int .i64 Res.n, .int .i64 Res.d], .bool Res.ok]) (by rw [HF.out]; simp [results, Tryz.results80, go_sem, badB]) rfl ⟨rfl, ?_⟩
      focus
        repeat with_reducible first | exact Below.refl _ _ | refine below_drewN ?_ _ | refine Below.drew ?_ | refine Below.setCell ?_ ?_ _ | refine Below.alloc ?_ ?_ _ | refine below_then ?_ ?_ (by with_reducible assumption)
        all_goals first | omega | (simp only [sA, sC, sD, sE]; omega) | (simp; done) | (simp; omega)
    | nil =>
    have hE4 : (txt []).toList = [] := txt_toList []
    have hE3 : (txt []).toList.isEmpty = true := by rw [hE4]; rfl
    rw [if_neg (by simp)] at HF0
    by_cases hc : c.toNat = 47
    · rw [if_pos hc] at HF0
      cases m
      all_goals
        have HF := Lib.hid HF0
        clear HF0
        have HM0 := Lib.hid fun wx => num_Make n m2 wx ⟨by omega, by omega⟩ ⟨by omega, by omega⟩
        have HM1 := Lib.hid fun wx => num_Make (-n) m2 wx ⟨by omega, by omega⟩ ⟨by omega, by omega⟩
        have hc1 : ((c.toNat : Int) == 47) = true := by simp [hc]
        clear hc
        go_enter Tryz.func80, Tryz.ntmps80
        go_wp2_with fail
        refine (HC.out _).mono ?_
        rintro e w1 ⟨rfl, rfl⟩
        go_wp2_with fail
        refine (HD.out _).mono ?_
        rintro e w1 ⟨rfl, n1, rfl⟩
        go_wp2_with fail
        refine (HD2.out _).mono ?_
        rintro e w1 ⟨rfl, n2, rfl⟩
        go_wp2_with fail
        first | with_reducible refine (HM0.out _).mono ?_ | with_reducible refine (HM1.out _).mono ?_
        rintro e w2 ⟨rfl, hb2⟩
        have c2 := lcc hb2 (w.heap.size) (by (first | omega | (simp only [sz_alloc, sz_setCell, sz_drew, sz_drewN]; omega) | (simp; done) | (simp; omega)))
        have f2 := lcf hb2 (w.heap.size) (by (first | omega | (simp only [sz_alloc, sz_setCell, sz_drew, sz_drewN]; omega) | (simp; done) | (simp; omega)))
        have s2 := lcs hb2 (w.heap.size) (by (first | omega | (simp only [sz_alloc, sz_setCell, sz_drew, sz_drewN]; omega) | (simp; done) | (simp; omega)))
        go_wp2
        refine bodyPost_ret (v := .tuple #[.agg #[.int .i64 Res.n, .int .i64 Res.d], .bool Res.ok]) (by rw [HF.out]; simp [results, Tryz.results80, go_sem, c2, sgn]) rfl ⟨rfl, ?_⟩
        focus
          repeat with_reducible first | exact Below.refl _ _ | refine below_drewN ?_ _ | refine Below.drew ?_ | refine Below.setCell ?_ ?_ _ | refine Below.alloc ?_ ?_ _ | refine below_then ?_ ?_ (by with_reducible assumption)
          all_goals first | omega | (simp only [sA, sC, sD, sE]; omega) | (simp; done) | (simp; omega)
    rw [if_neg hc] at HF0
    have hc1 : ((c.toNat : Int) == 47) = false := by rw [beq_eq_false_iff_ne]; omega
    by_cases hd : c.toNat ≠ 46 ∨ 6 < r.length ∨ 1000000000000 < n
    · have HF : Hid (Res = badB) := by unfold Hid; rw [HF0, if_pos hd]
      clear HF0
      by_cases hd1 : c.toNat = 46
      · have hc2 : ((c.toNat : Int) != 46) = false := by simp [hd1]
        have hd2 : 6 < r.length ∨ (¬ 6 < r.length ∧ 1000000000000 < n) := by omega
        clear hc hd hd1
        rcases hd2 with hd3 | ⟨hd3, hd4⟩
        all_goals
          go_enter Tryz.func80, Tryz.ntmps80
          go_wp2_with fail
          refine (HC.out _).mono ?_
          rintro e w1 ⟨rfl, rfl⟩
          go_wp2_with fail
          refine (HD.out _).mono ?_
          rintro e w1 ⟨rfl, n1, rfl⟩
          go_wp2_with fail
          refine (HD2.out _).mono ?_
          rintro e w1 ⟨rfl, n2, rfl⟩
          go_wp2
          refine bodyPost_ret (v := .tuple #[.agg #[.int .i64 Res.n, .int .i64 Res.d], .bool Res.ok]) (by rw [HF.out]; simp [results, Tryz.results80, go_sem, badB]) rfl ⟨rfl, ?_⟩
          focus
            repeat with_reducible first | exact Below.refl _ _ | refine below_drewN ?_ _ | refine Below.drew ?_ | refine Below.setCell ?_ ?_ _ | refine Below.alloc ?_ ?_ _ | refine below_then ?_ ?_ (by with_reducible assumption)
            all_goals first | omega | (simp only [sA, sC, sD, sE]; omega) | (simp; done) | (simp; omega)
      · have hc2 : ((c.toNat : Int) != 46) = true := by rw [bne_iff_ne]; omega
        clear hc hd hd1
        go_enter Tryz.func80, Tryz.ntmps80
        go_wp2_with fail
        refine (HC.out _).mono ?_
        rintro e w1 ⟨rfl, rfl⟩
        go_wp2_with fail
        refine (HD.out _).mono ?_
        rintro e w1 ⟨rfl, n1, rfl⟩
        go_wp2_with fail
        refine (HD2.out _).mono ?_
        rintro e w1 ⟨rfl, n2, rfl⟩
        go_wp2
        refine bodyPost_ret (v := .tuple #[.agg #[.int .i64 Res.n, .int .i64 Res.d], .bool Res.ok]) (by rw [HF.out]; simp [results, Tryz.results80, go_sem, badB]) rfl ⟨rfl, ?_⟩
        focus
          repeat with_reducible first | exact Below.refl _ _ | refine below_drewN ?_ _ | refine Below.drew ?_ | refine Below.setCell ?_ ?_ _ | refine Below.alloc ?_ ?_ _ | refine below_then ?_ ?_ (by with_reducible assumption)
          all_goals first | omega | (simp only [sA, sC, sD, sE]; omega) | (simp; done) | (simp; omega)
    · rw [if_neg hd] at HF0
      have hc2 : ((c.toNat : Int) != 46) = false := by have : c.toNat = 46 := by omega
                                                       simp [this]
      have hd3 : ¬ 6 < r.length := by omega
      have hd4 : ¬ 1000000000000 < n := by omega
      clear hc hd
      have hp := pow10_bd r.length (by omega)
      have hp6 : pow10 r.length ≤ 1000000 := by
        unfold pow10
        have h1 : 10 ^ r.length ≤ 10 ^ 6 := Nat.pow_le_pow_right (by omega) (by omega)
        have h3 : (10 : Nat) ^ 6 = 1000000 := by decide
        omega
      have HP := Lib.hid fun wx => num_power r.length wx (by omega)
      generalize pow10 r.length = p at *
      have hmul := mul_bd (x := n) (y := p) (a := 1000000000000) (b := 1000000) (by omega) (by omega) (by omega) hp6
      have hw1 : IntKind.i64.wrap (n * p) = n * p := w64 (by omega) (by omega)
      have hw2 : IntKind.i64.wrap (n * p + m2) = n * p + m2 := w64 (by omega) (by omega)
      have hnn : 0 ≤ n * p := Int.mul_nonneg hn0 (by omega)
      have hw3 : IntKind.i64.wrap (-(n * p + m2)) = -(n * p + m2) := w64 (by omega) (by omega)
      have i1 : I64 (n * p + m2) := ⟨by omega, by omega⟩
      have i2 : I64 (-(n * p + m2)) := ⟨by omega, by omega⟩
      have HM0 := Lib.hid fun wx => num_Make (n * p + m2) p wx i1 ⟨by omega, by omega⟩
      have HM1 := Lib.hid fun wx => num_Make (-(n * p + m2)) p wx i2 ⟨by omega, by omega⟩
      clear hmul i1 i2
      cases m
      all_goals
        have HF := Lib.hid HF0
        clear HF0
        go_enter Tryz.func80, Tryz.ntmps80
        go_wp2_with fail
        refine (HC.out _).mono ?_
        rintro e w1 ⟨rfl, rfl⟩
        go_wp2_with fail
        refine (HD.out _).mono ?_
        rintro e w1 ⟨rfl, n1, rfl⟩
        go_wp2_with fail
        refine (HD2.out _).mono ?_
        rintro e w1 ⟨rfl, n2, rfl⟩
        go_wp2_with fail
        refine (HP.out _).mono ?_
        rintro e w1 ⟨rfl, rfl⟩
        go_wp2_with fail
        first | with_reducible refine (HM0.out _).mono ?_ | with_reducible refine (HM1.out _).mono ?_
        rintro e w2 ⟨rfl, hb2⟩
        have c3 := lcc hb2 (w.heap.size) (by (first | omega | (simp only [sz_alloc, sz_setCell, sz_drew, sz_drewN]; omega) | (simp; done) | (simp; omega)))
        have f3 := lcf hb2 (w.heap.size) (by (first | omega | (simp only [sz_alloc, sz_setCell, sz_drew, sz_drewN]; omega) | (simp; done) | (simp; omega)))
        have s3 := lcs hb2 (w.heap.size) (by (first | omega | (simp only [sz_alloc, sz_setCell, sz_drew, sz_drewN]; omega) | (simp; done) | (simp; omega)))
        go_wp2
        refine bodyPost_ret (v := .tuple #[.agg #[.int .i64 Res.n, .int .i64 Res.d], .bool Res.ok]) (by rw [HF.out]; simp [results, Tryz.results80, go_sem, c3, sgn]) rfl ⟨rfl, ?_⟩
        focus
          repeat with_reducible first | exact Below.refl _ _ | refine below_drewN ?_ _ | refine Below.drew ?_ | refine Below.setCell ?_ ?_ _ | refine Below.alloc ?_ ?_ _ | refine below_then ?_ ?_ (by with_reducible assumption)
          all_goals first | omega | (simp only [sA, sC, sD, sE]; omega) | (simp; done) | (simp; omega)
end Go.Proofs.YtnimenpfojcehaaGreatDoor
