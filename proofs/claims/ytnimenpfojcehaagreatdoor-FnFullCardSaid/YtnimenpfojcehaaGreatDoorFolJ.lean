/- Package funcs: Feed, Cell, Pair, Result of a fold or a search of any kind, at any state that may be. -/
import Derived.Test.YtnimenpfojcehaaGreatDoorFolH
import Derived.Test.YtnimenpfojcehaaGreatDoorFolG
import Derived.Test.YtnimenpfojcehaaGreatDoorFolF
import Derived.Test.YtnimenpfojcehaaGreatDoorFolI
import Derived.Test.YtnimenpfojcehaaGreatDoorRightN
namespace Go.Proofs.YtnimenpfojcehaaGreatDoor
open Go Go.RowKit
set_option linter.unusedSimpArgs false
set_option linter.unusedVariables false

/-- What the folds read of the world's tables. -/
def Tabs (N : NmS) (w : World) : Prop := Names w N ∧ Pow10 w
theorem tabs_keeps (N : NmS) : Keeps (Tabs N) := fun w w' hb h => ⟨h.1.below hb, h.2.below hb⟩
theorem TurnsI.mono {I J : World → Prop} {m : Nat} {args : Array Value} {b : Nat} {S S' : AccS} {kd : Value} (h : TurnsI I m args b S S' kd) (hi : ∀ w, J w → I w) : TurnsI J m args b S S' kd := ⟨fun wx hJ hx => h.out wx (hi wx hJ) hx⟩
theorem rightN_i64 {n d : Int} (h : rightN n d = true) : I64 n ∧ I64 d := by
  unfold rightN at h
  simp only [Bool.and_eq_true, decide_eq_true_eq] at h
  exact ⟨⟨by omega, by omega⟩, by omega, by omega⟩

/-- What each kind does with an argument that counts. -/
def AccS.fedK (S : AccS) (x : Vl) : AccS :=
  if S.fn = 8 ∨ S.fn = 9 ∨ S.fn = 10 then S.feedT x else if S.fn = 3 ∨ S.fn = 4 then S.feedC x
  else if S.fn = 11 ∨ S.fn = 14 ∨ S.fn = 15 then S.feedV x
  else if S.fn = 20 ∨ S.fn = 21 ∨ S.fn = 22 ∨ S.fn = 23 then S.feedS x else if S.fn = 24 then S else S.feedN x
/-- What each kind does with a cell that counts. -/
def AccS.celK (S : AccS) (N : NmS) (x : Vl) : AccS :=
  if S.fn = 8 ∨ S.fn = 9 ∨ S.fn = 10 then S.cellT x else if S.fn = 3 ∨ S.fn = 4 then S.cellC x
  else if S.fn = 11 ∨ S.fn = 14 ∨ S.fn = 15 then S.feedV x
  else if S.fn = 20 then S.cellM x
  else if S.fn = 21 then (if S.mts N x = true then { S with count := S.count + 1 } else S)
  else if S.fn = 22 then { S with wants := S.mts N x }
  else if S.fn = 23 then { S with wants := S.sm x }
  else if S.fn = 24 then S.cellP x else S.cellN x
/-- What a partner is taken as. -/
def AccS.parP (S : AccS) (x : Vl) : AccS :=
  if x.k = 1 then (if (mul S.hn S.hd x.n x.d).ok = true then S.served.pairN (toldF (mul S.hn S.hd x.n x.d).n (mul S.hn S.hd x.n x.d).d true) else S.served.ends (toldF (mul S.hn S.hd x.n x.d).n (mul S.hn S.hd x.n x.d).d false))
  else S.served.pairN x
def AccS.parK (S : AccS) (x : Vl) : AccS :=
  if S.fn = 22 then S.served.pairN x else if S.fn = 23 then { S.served with full := true, v := x } else if S.fn = 24 then S.parP x else S.served
def AccS.fedG (S : AccS) (v : Vl) : AccS := if S.full = true then S else if S.wants = true then S else S.fedK (tkV v)
def AccS.celG (S : AccS) (N : NmS) (v : Vl) : AccS := if S.full = true then S else if S.wants = true then S else S.celK N (tkV v)
def AccS.parG (S : AccS) (v : Vl) : AccS := if S.full = true then S else if S.wants = false then S else S.parK (tkV v)
/-- What it comes to. -/
def AccS.resK (S : AccS) : Vl :=
  if S.fn = 8 then truthV true else if S.fn = 9 then truthV false else if S.fn = 10 then truthV (S.count % 2 == 1)
  else if S.fn = 3 ∨ S.fn = 4 ∨ S.fn = 21 then wholeF S.count
  else if S.fn = 11 ∨ S.fn = 14 ∨ S.fn = 15 then S.v
  else if S.fn = 20 ∨ S.fn = 23 then faultF 5
  else if S.fn = 7 then meanG S else numF S.n S.d
def AccS.resG (S : AccS) : Vl := if S.full = true then S.v else S.resK

/-- A state that may be, of at most m that were counted. -/
structure OkS (S : AccS) (m : Int) : Prop where
  fn : IsFold S.fn
  c0 : 0 ≤ S.count
  c1 : S.count ≤ m
  nd : rightN S.n S.d = true
  v : rightV S.v = true
  nl : rightV S.needle = true
  w0 : S.wants = false → S.hn = 0 ∧ S.hd = 0
  w1 : S.wants = true → S.full = false ∧ (S.fn = 24 ∧ rightN S.hn S.hd = true ∨ (S.fn = 22 ∨ S.fn = 23) ∧ S.hn = 0 ∧ S.hd = 0)
  gcd : S.fn = 13 → S.d = 1 ∧ 0 ≤ S.n

theorem fold_cases {fn : Int} (h : IsFold fn) : (fn = 8 ∨ fn = 9 ∨ fn = 10) ∨ (fn = 3 ∨ fn = 4) ∨ (fn = 11 ∨ fn = 14 ∨ fn = 15) ∨ fn = 20 ∨ fn = 21 ∨ fn = 22 ∨ fn = 23 ∨ fn = 24 ∨ (fn = 1 ∨ fn = 2 ∨ fn = 5 ∨ fn = 6 ∨ fn = 7 ∨ fn = 12 ∨ fn = 13) := by
  unfold IsFold at h; omega
theorem kd_T {fn : Int} (h : fn = 8 ∨ fn = 9 ∨ fn = 10) : kdOf fn = kdT := by unfold kdOf; rw [if_pos h]
theorem kd_C {fn : Int} (h : fn = 3 ∨ fn = 4) : kdOf fn = kdC := by unfold kdOf; rw [if_neg (by omega), if_pos h]
theorem kd_V {fn : Int} (h : fn = 11 ∨ fn = 14 ∨ fn = 15) : kdOf fn = kdV := by unfold kdOf; rw [if_neg (by omega), if_neg (by omega), if_pos h]
theorem kd_N {fn : Int} (h : fn = 1 ∨ fn = 2 ∨ fn = 5 ∨ fn = 6 ∨ fn = 7 ∨ fn = 12 ∨ fn = 13) : kdOf fn = kdN := by
  unfold kdOf; repeat rw [if_neg (by omega)]
theorem kd_20 {fn : Int} (h : fn = 20) : kdOf fn = kdM := by rw [h]; rfl
theorem kd_21 {fn : Int} (h : fn = 21) : kdOf fn = kdI := by rw [h]; rfl
theorem kd_22 {fn : Int} (h : fn = 22) : kdOf fn = kdS := by rw [h]; rfl
theorem kd_23 {fn : Int} (h : fn = 23) : kdOf fn = kdL := by rw [h]; rfl
theorem kd_24 {fn : Int} (h : fn = 24) : kdOf fn = kdP := by rw [h]; rfl

theorem acc_FeedG (N : NmS) (b : Nat) (S : AccS) (v : Vl) (m : Int) (h : OkS S m) (hm : m ≤ 9000000000000000000) (hx : v.In) :
    TurnsI (Tabs N) 15 #[.pointer (some ⟨b, 0, none⟩), .agg #[.int .i64 (v).k, .int .i64 (v).n, .int .i64 (v).d, .string (v).t, .bool (v).b, .int .i64 (v).f]] b S (S.fedG v) (kdOf S.fn) := by
  have hi := tabs_keeps N
  have hxt := tkV_in hx
  have hc0 := h.c0
  have hc1 : S.count ≤ 9000000000000000000 := Int.le_trans h.c1 hm
  obtain ⟨i1, i2⟩ := rightN_i64 h.nd
  have iv := right_in h.v
  unfold AccS.fedG
  by_cases hu : S.full = true
  · rw [if_pos hu]; exact (acc_Feed_off b S _ v hu).toI
  rw [if_neg hu]
  have hu' : S.full = false := by simpa using hu
  by_cases hw : S.wants = true
  · rw [if_pos hw]; exact (acc_Feed_wants b S _ v hu' hw).toI
  rw [if_neg hw]
  have hw' : S.wants = false := by simpa using hw
  unfold AccS.fedK
  rcases fold_cases h.fn with hf | hf | hf | hf | hf | hf | hf | hf | hf
  · rw [if_pos hf, kd_T hf]; exact acc_Feed_truths hi b S _ v hx hu' hw' (truths_feed b S kdT (tkV v) hxt hf hc0 hc1).toI
  · rw [if_neg (by omega), if_pos hf, kd_C hf]; exact acc_Feed_counts hi b S _ v hx hu' hw' (counts_feed b S kdC (tkV v) hxt hf hc0 hc1).toI
  · rw [if_neg (by omega), if_neg (by omega), if_pos hf, kd_V hf]; exact acc_Feed_lasting hi b S _ v hx hu' hw' ((lasting_feed b S kdV (tkV v) hf hxt iv).mono fun w hw => hw.2)
  · rw [if_neg (by omega), if_neg (by omega), if_neg (by omega), if_pos (Or.inl hf), kd_20 hf]; exact acc_Feed_match hi b S _ v hx hu' hw' (search_feedG b S kdM (tkV v)).toI
  · rw [if_neg (by omega), if_neg (by omega), if_neg (by omega), if_pos (by omega), kd_21 hf]; exact acc_Feed_countIf hi b S _ v hx hu' hw' (search_feedG b S kdI (tkV v)).toI
  · rw [if_neg (by omega), if_neg (by omega), if_neg (by omega), if_pos (by omega), kd_22 hf]; exact acc_Feed_sumIf hi b S _ v hx hu' hw' (search_feedG b S kdS (tkV v)).toI
  · rw [if_neg (by omega), if_neg (by omega), if_neg (by omega), if_pos (by omega), kd_23 hf]; exact acc_Feed_lookup hi b S _ v hx hu' hw' (search_feedG b S kdL (tkV v)).toI
  · rw [if_neg (by omega), if_neg (by omega), if_neg (by omega), if_neg (by omega), if_pos hf, kd_24 hf]; exact acc_Feed_products hi b S _ v hx hu' hw' (products_nothing b S kdP (tkV v)).toI
  · rw [if_neg (by omega), if_neg (by omega), if_neg (by omega), if_neg (by omega), if_neg (by omega), kd_N hf]; exact acc_Feed_numbers hi b S _ v hx hu' hw' (numbers_feed b S kdN (tkV v) hxt hf i1 i2 hc0 hc1).toI
theorem acc_CellG (N : NmS) (b : Nat) (S : AccS) (v : Vl) (m : Int) (h : OkS S m) (hm : m ≤ 9000000000000000000) (hx : v.In) :
    TurnsI (Tabs N) 12 #[.pointer (some ⟨b, 0, none⟩), .agg #[.int .i64 (v).k, .int .i64 (v).n, .int .i64 (v).d, .string (v).t, .bool (v).b, .int .i64 (v).f]] b S (S.celG N v) (kdOf S.fn) := by
  have hi := tabs_keeps N
  have hxt := tkV_in hx
  have hc0 := h.c0
  have hc1 : S.count ≤ 9000000000000000000 := Int.le_trans h.c1 hm
  obtain ⟨i1, i2⟩ := rightN_i64 h.nd
  have iv := right_in h.v
  have il := right_in h.nl
  unfold AccS.celG
  by_cases hu : S.full = true
  · rw [if_pos hu]; exact (acc_Cell_off b S _ v hu).toI
  rw [if_neg hu]
  have hu' : S.full = false := by simpa using hu
  by_cases hw : S.wants = true
  · rw [if_pos hw]; exact (acc_Cell_wants b S _ v hu' hw).toI
  rw [if_neg hw]
  have hw' : S.wants = false := by simpa using hw
  unfold AccS.celK
  rcases fold_cases h.fn with hf | hf | hf | hf | hf | hf | hf | hf | hf
  · rw [if_pos hf, kd_T hf]; exact acc_Cell_truths hi b S _ v hx hu' hw' (truths_cell b S kdT (tkV v) hxt hf hc0 hc1).toI
  · rw [if_neg (by omega), if_pos hf, kd_C hf]; exact acc_Cell_counts hi b S _ v hx hu' hw' (counts_cell b S kdC (tkV v) hf hc0 hc1).toI
  · rw [if_neg (by omega), if_neg (by omega), if_pos hf, kd_V hf]
    exact acc_Cell_lasting hi b S _ v hx hu' hw' (lasting_cell hi b S _ kdV (tkV v) ((lasting_feed b S kdV (tkV v) hf hxt iv).mono fun w hw => hw.2))
  · rw [if_neg (by omega), if_neg (by omega), if_neg (by omega), if_pos hf, kd_20 hf]; exact acc_Cell_match hi b S _ v hx hu' hw' (match_cell b S kdM (tkV v) il hxt hc0 hc1).toI
  · rw [if_neg (by omega), if_neg (by omega), if_neg (by omega), if_neg (by omega), if_pos hf, kd_21 hf]; exact acc_Cell_countIf hi b S _ v hx hu' hw' ((countIf_cell b S kdI (tkV v) N il hxt hc0 hc1).mono fun w hw => hw.1)
  · rw [if_neg (by omega), if_neg (by omega), if_neg (by omega), if_neg (by omega), if_neg (by omega), if_pos hf, kd_22 hf]; exact acc_Cell_sumIf hi b S _ v hx hu' hw' ((sumIf_cell b S kdS (tkV v) N il hxt).mono fun w hw => hw.1)
  · rw [if_neg (by omega), if_neg (by omega), if_neg (by omega), if_neg (by omega), if_neg (by omega), if_neg (by omega), if_pos hf, kd_23 hf]; exact acc_Cell_lookup hi b S _ v hx hu' hw' (lookup_cell b S kdL (tkV v) il hxt).toI
  · rw [if_neg (by omega), if_neg (by omega), if_neg (by omega), if_neg (by omega), if_neg (by omega), if_neg (by omega), if_neg (by omega), if_pos hf, kd_24 hf]; exact acc_Cell_products hi b S _ v hx hu' hw' (products_cell b S kdP (tkV v)).toI
  · rw [if_neg (by omega), if_neg (by omega), if_neg (by omega), if_neg (by omega), if_neg (by omega), if_neg (by omega), if_neg (by omega), if_neg (by omega), kd_N hf]; exact acc_Cell_numbers hi b S _ v hx hu' hw' (numbers_cell b S kdN (tkV v) hxt hf i1 i2 hc0 hc1).toI
theorem acc_PairG (b : Nat) (S : AccS) (v : Vl) (m : Int) (h : OkS S m) (hx : v.In) :
    Turns 16 #[.pointer (some ⟨b, 0, none⟩), .agg #[.int .i64 (v).k, .int .i64 (v).n, .int .i64 (v).d, .string (v).t, .bool (v).b, .int .i64 (v).f]] b S (S.parG v) (kdOf S.fn) := by
  have hxt := tkV_in hx
  obtain ⟨i1, i2⟩ := rightN_i64 h.nd
  have h1' : I64 S.served.n := i1
  have h2' : I64 S.served.d := i2
  unfold AccS.parG
  by_cases hu : S.full = true
  · rw [if_pos hu]; exact acc_Pair_off b S _ v hu
  rw [if_neg hu]
  have hu' : S.full = false := by simpa using hu
  by_cases hw : S.wants = false
  · rw [if_pos hw]; exact acc_Pair_wants b S _ v hu' hw
  rw [if_neg hw]
  have hw' : S.wants = true := by simpa using hw
  unfold AccS.parK
  obtain ⟨_, hd⟩ := h.w1 hw'
  rcases hd with ⟨hf, hr⟩ | ⟨hf | hf, _⟩
  · rw [if_neg (by omega), if_neg (by omega), if_pos hf, kd_24 hf]
    obtain ⟨j1, j2⟩ := rightN_i64 hr
    unfold AccS.parP
    by_cases hk : (tkV v).k = 1
    · rw [if_pos hk]
      by_cases hok : (mul S.hn S.hd (tkV v).n (tkV v).d).ok = true
      · rw [if_pos hok]
        exact acc_Pair_mul1 b S _ v hx hu' hw' hf hk j1 j2 hok _ rfl (Lib.hid (products_pair b S.served _ kdP _ (acc_partner b S.served kdP _ h1' h2' (right_in (right_told _ _ _)))))
      · rw [if_neg hok]
        exact acc_Pair_mul0 b S _ v hx hu' hw' hf hk j1 j2 (by simpa using hok) _ rfl (Lib.hid rfl)
    · rw [if_neg hk]
      exact acc_Pair_products b S _ v hx hu' hw' hf (fun _ => hk) (products_pair b S.served _ kdP _ (acc_partner b S.served kdP _ h1' h2' hxt))
  · rw [if_pos hf, kd_22 hf]
    exact acc_Pair_sumIf b S _ v hx hu' hw' hf (fun h => absurd h (by decide : ¬ (22 : Int) = 24)) (sumIf_pair b S.served _ kdS _ (acc_partner b S.served kdS _ h1' h2' hxt))
  · rw [if_neg (by omega), if_pos hf, kd_23 hf]
    exact acc_Pair_lookup b S _ v hx hu' hw' hf (fun h => absurd h (by decide : ¬ (23 : Int) = 24)) (lookup_pair b S.served kdL (tkV v))
theorem acc_ResultG (b : Nat) (S : AccS) (m : Int) (w : World) (h : OkS S m) (hm : m ≤ 9000000000000000000) (hA : Blk w b (accArr S (kdOf S.fn)) 57) :
    Calls Tryz.prog 13 #[.pointer (some ⟨b, 0, none⟩)] w fun e w' => e = .returned (.agg #[.int .i64 (S.resG).k, .int .i64 (S.resG).n, .int .i64 (S.resG).d, .string (S.resG).t, .bool (S.resG).b, .int .i64 (S.resG).f]) ∧ Below w.heap.size w w' := by
  obtain ⟨i1, i2⟩ := rightN_i64 h.nd
  have hc0 := h.c0
  have hc1 : S.count ≤ 9000000000000000000 := Int.le_trans h.c1 hm
  have ic : I64 S.count := ⟨by omega, by omega⟩
  unfold AccS.resG
  by_cases hu : S.full = true
  · rw [if_pos hu]; exact acc_Result_full b S _ w hA hu
  rw [if_neg hu]
  have hu' : S.full = false := by simpa using hu
  unfold AccS.resK
  rcases fold_cases h.fn with hf | hf | hf | hf | hf | hf | hf | hf | hf
  · rw [kd_T hf] at hA
    rcases hf with hf | hf | hf
    · rw [if_pos hf]; exact acc_Result_truths b S w _ hA hu' fun wx hx => truths_result8 b S _ wx hx hf
    · rw [if_neg (by omega), if_pos hf]; exact acc_Result_truths b S w _ hA hu' fun wx hx => truths_result9 b S _ wx hx hf
    · rw [if_neg (by omega), if_neg (by omega), if_pos hf]; exact acc_Result_truths b S w _ hA hu' fun wx hx => truths_result10 b S _ wx hx hf hc0 hc1
  · rw [kd_C hf] at hA
    rw [if_neg (by omega), if_neg (by omega), if_neg (by omega), if_pos (by omega)]
    rcases hf with hf | hf
    · exact acc_Result_counts b S w _ hA hu' fun wx hx => fold_result3 b S _ wx hx hf ic
    · exact acc_Result_counts b S w _ hA hu' fun wx hx => fold_result4 b S _ wx hx hf ic
  · rw [kd_V hf] at hA
    rw [if_neg (by omega), if_neg (by omega), if_neg (by omega), if_neg (by omega), if_pos hf]
    exact acc_Result_lasting b S w _ hA hu' fun wx hx => lasting_result b S _ wx hx
  · rw [kd_20 hf] at hA
    rw [if_neg (by omega), if_neg (by omega), if_neg (by omega), if_neg (by omega), if_neg (by omega), if_pos (by omega)]
    exact acc_Result_match b S w _ hA hu' fun wx hx => fold_result20 b S _ wx hx hf
  · rw [kd_21 hf] at hA
    rw [if_neg (by omega), if_neg (by omega), if_neg (by omega), if_pos (by omega)]
    exact acc_Result_countIf b S w _ hA hu' fun wx hx => fold_result21 b S _ wx hx hf ic
  · rw [kd_22 hf] at hA
    rw [if_neg (by omega), if_neg (by omega), if_neg (by omega), if_neg (by omega), if_neg (by omega), if_neg (by omega), if_neg (by omega)]
    exact acc_Result_sumIf b S w _ hA hu' fun wx hx => fold_result22 b S _ wx hx hf i1 i2
  · rw [kd_23 hf] at hA
    rw [if_neg (by omega), if_neg (by omega), if_neg (by omega), if_neg (by omega), if_neg (by omega), if_pos (by omega)]
    exact acc_Result_lookup b S w _ hA hu' fun wx hx => fold_result23 b S _ wx hx hf
  · rw [kd_24 hf] at hA
    rw [if_neg (by omega), if_neg (by omega), if_neg (by omega), if_neg (by omega), if_neg (by omega), if_neg (by omega), if_neg (by omega)]
    exact acc_Result_products b S w _ hA hu' fun wx hx => fold_result24 b S _ wx hx hf i1 i2
  · rw [kd_N hf] at hA
    by_cases h7 : S.fn = 7
    · rw [if_neg (by omega), if_neg (by omega), if_neg (by omega), if_neg (by omega), if_neg (by omega), if_neg (by omega), if_pos h7]
      exact acc_Result_numbers b S w _ hA hu' fun wx hx => numbers_result7 b S _ wx hx h7 hc0 hc1 i1 i2
    rw [if_neg (by omega), if_neg (by omega), if_neg (by omega), if_neg (by omega), if_neg (by omega), if_neg (by omega), if_neg (by omega)]
    refine acc_Result_numbers b S w _ hA hu' fun wx hx => ?_
    rcases hf with hf | hf | hf | hf | hf | hf | hf
    · exact numbers_result1 b S _ wx hx hf i1 i2
    · exact numbers_result2 b S _ wx hx hf i1 i2
    · exact numbers_result5 b S _ wx hx hf i1 i2
    · exact numbers_result6 b S _ wx hx hf i1 i2
    · exact absurd hf h7
    · exact numbers_result12 b S _ wx hx hf i1 i2
    · exact numbers_result13 b S _ wx hx hf i1 i2
end Go.Proofs.YtnimenpfojcehaaGreatDoor
