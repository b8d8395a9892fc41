/- The walk of law7's fold, of any kind. Plain laws of blank cells: they turn nothing but the places that MATCH counts; no program in sight. -/
import Derived.Test.YtnimenpfojcehaaGreatDoorFolQ
import Derived.Test.YtnimenpfojcehaaGreatDoorBx1
import Derived.Test.YtnimenpfojcehaaGreatDoorFolK
namespace Go.Proofs.YtnimenpfojcehaaGreatDoor
open Go Go.RowKit
set_option linter.unusedSimpArgs false
set_option linter.unusedVariables false

/-- A fold of cells. -/
def celsG (N : NmS) (S : AccS) (vs : List Vl) : AccS := vs.foldl (fun S v => S.celG N v) S
theorem snocsV {P : List Vl → Prop} (h0 : P []) (hs : ∀ l x, P l → P (l ++ [x])) (l : List Vl) : P l := by
  have : ∀ (r : List Vl) (l : List Vl), P l → P (l ++ r) := by
    intro r
    induction r with
    | nil => intro l h; rwa [List.append_nil]
    | cons x r ih =>
      intro l h
      have := ih (l ++ [x]) (hs l x h)
      rwa [List.append_assoc] at this
  exact this l [] h0
theorem cels_snoc (N : NmS) (S : AccS) (vs : List Vl) (v : Vl) : celsG N S (vs ++ [v]) = (celsG N S vs).celG N v := by unfold celsG; rw [List.foldl_append]; rfl
theorem cels_fn (N : NmS) (S : AccS) : ∀ vs : List Vl, (celsG N S vs).fn = S.fn := by
  intro vs
  refine snocsV (P := fun vs => (celsG N S vs).fn = S.fn) rfl ?_ vs
  intro l x ih
  rw [cels_snoc, fn_cel, ih]
theorem cels_ok {N : NmS} {S : AccS} {m : Int} (h : OkS S m) : ∀ vs : List Vl, OkS (celsG N S vs) (m + vs.length) := by
  intro vs
  refine snocsV (P := fun vs => OkS (celsG N S vs) (m + vs.length)) (h.up (by simp)) ?_ vs
  intro l x ih
  rw [cels_snoc]
  exact (ih.cel N x).up (by simp; omega)
theorem cel_at (N : NmS) (b : Nat) (S : AccS) (v : Vl) (m : Int) (id : Int) (h : OkS S m) (hf : S.fn = id) (hm : m ≤ 9000000000000000000) (hv : v.In) :
    TurnsI (Tabs N) 12 #[.pointer (some ⟨b, 0, none⟩), .agg #[.int .i64 (v).k, .int .i64 (v).n, .int .i64 (v).d, .string (v).t, .bool (v).b, .int .i64 (v).f]] b S (S.celG N v) (kdOf id) := by rw [← hf]; exact acc_CellG N b S v m h hm hv
theorem fed_at (N : NmS) (b : Nat) (S : AccS) (v : Vl) (m : Int) (id : Int) (h : OkS S m) (hf : S.fn = id) (hm : m ≤ 9000000000000000000) (hv : v.In) :
    TurnsI (Tabs N) 15 #[.pointer (some ⟨b, 0, none⟩), .agg #[.int .i64 (v).k, .int .i64 (v).n, .int .i64 (v).d, .string (v).t, .bool (v).b, .int .i64 (v).f]] b S (S.fedG v) (kdOf id) := by rw [← hf]; exact acc_FeedG N b S v m h hm hv
theorem par_at (b : Nat) (S : AccS) (v : Vl) (m : Int) (id : Int) (h : OkS S m) (hf : S.fn = id) (hv : v.In) :
    Turns 16 #[.pointer (some ⟨b, 0, none⟩), .agg #[.int .i64 (v).k, .int .i64 (v).n, .int .i64 (v).d, .string (v).t, .bool (v).b, .int .i64 (v).f]] b S (S.parG v) (kdOf id) := by rw [← hf]; exact acc_PairG b S v m h hv
theorem res_at (b : Nat) (S : AccS) (m : Int) (id : Int) (w : World) (h : OkS S m) (hf : S.fn = id) (hm : m ≤ 9000000000000000000) (hA : Blk w b (accArr S (kdOf id)) 57) :
    Calls Tryz.prog 13 #[.pointer (some ⟨b, 0, none⟩)] w fun e w' => e = .returned (.agg #[.int .i64 (S.resG).k, .int .i64 (S.resG).n, .int .i64 (S.resG).d, .string (S.resG).t, .bool (S.resG).b, .int .i64 (S.resG).f]) ∧ Below w.heap.size w w' := acc_ResultG b S m w h hm (by rw [hf]; exact hA)
theorem but_below3 {B B0 b : Nat} {w w' : World} (h : But B b w w') (h1 : B0 ≤ B) (h2 : B0 ≤ b) : Below B0 w w' :=
  ⟨h.os, h.tape, h.output, h.size, fun k hk => h.block k (by omega) (by omega)⟩

set_option maxHeartbeats 2000000 in
theorem law_foldNo (id : Int) (la : Option Addr) (n lc : Nat) (w : World) (hid : I64 id) (hf : ¬ IsFold id) :
    Calls Tryz.prog 8 #[.int .i64 id, .slice la n lc] w fun e w' => e = .returned (.pointer none) ∧ Below w.heap.size w w' := by
  have HO := Lib.hid fun wx => funcs_Open_no id wx hid hf
  clear hf
  go_enter Tryz.func8, Tryz.ntmps8
  go_wp2_with fail
  refine (HO.out _).mono ?_
  rintro e w1 ⟨rfl, hb⟩
  go_wp2
  go_ret
  exact ⟨rfl, hb⟩
set_option maxHeartbeats 2000000 in
theorem law_foldAny (N : NmS) (id : Int) (vs : List Vl) (la : Option Addr) (n lc : Nat) (w : World) (hf : IsFold id) (hn : vs.length = n) (hbig : n ≤ 1000000) (hin : ∀ v ∈ vs, v.In) (hc : ValAt w la vs) (ht : Tabs N w) :
    Calls Tryz.prog 8 #[.int .i64 id, .slice la n lc] w fun e w' => e = .returned (.pointer (some ⟨w.heap.size, 0, none⟩)) ∧ Blk w' w.heap.size (accArr (celsG N (openS id) vs) (kdOf id)) 57 ∧ Below w.heap.size w w' := by
  have HI := Lib.hid hin
  have HC := Lib.hid hc
  have HN := Lib.hid hn
  have HO := Lib.hid fun wx => funcs_OpenG id wx hf
  have HK := Lib.hid (okS_open hf)
  have HF := Lib.hid (fn_open id)
  have HT := Lib.hid ht
  clear hin hc hn hf ht
  generalize openS id = S0 at *
  go_enter Tryz.func8, Tryz.ntmps8
  go_wp2_with fail
  refine (HO.out _).mono ?_
  rintro e w1 ⟨rfl, A1, hb⟩
  go_wp2
  go_loopw [7] (fun i wr => ∃ k : Nat, k ≤ n ∧ i = .int .i64 k ∧ Blk wr w.heap.size (accArr (celsG N S0 (vs.take k)) (kdOf id)) 57 ∧ Below w.heap.size w wr) (fun i _ => n - (intOf i).toNat)
  case atStart => exact ⟨0, by omega, rfl, A1, hb⟩
  case round =>
    clear A1 hb
    obtain ⟨k, hk, rfl, A, hbk⟩ := hrel
    by_cases hlt : k < n
    · obtain ⟨b, off, rfl, hbw, hrow⟩ := HC.out (by rw [HN.out]; omega)
      obtain ⟨x, hx⟩ : ∃ x, vs[k]? = some x := ⟨_, List.getElem?_eq_getElem (by rw [HN.out]; exact hlt)⟩
      obtain ⟨c0, c1, c2, c3, c4, c5⟩ := (hrow.below hbw hbk) k x hx
      have hok : OkS (celsG N S0 (vs.take k)) 1000000 := (cels_ok HK.out (vs.take k)).up (by simp; omega)
      have hfn : (celsG N S0 (vs.take k)).fn = id := (cels_fn N S0 _).trans HF.out
      have HA := Lib.hid A
      have HC1 := Lib.hid (acc_CellG N w.heap.size (celsG N S0 (vs.take k)) x 1000000 hok (by omega) (HI.out x (List.mem_of_getElem? hx)))
      rw [hfn] at HC1
      have hlA := A.lt
      have hsk := hbk.size
      have HB := Lib.hid hbk
      have HX := Lib.hid hx
      have HTk := Lib.hid (tabs_keeps N _ _ hbk HT.out)
      clear A hbk hx hok hfn hrow
      go_wp2_with fail
      refine (HC1.out.out _ HTk.out HA.out).mono ?_
      rintro e w2 ⟨rfl, A2, hb2⟩
      go_wp2
      go_roundw
      case rel =>
        refine ⟨k + 1, by omega, by go_num, ?_, HB.out.trans (but_below3 hb2 (by have := HB.out.size; omega) (Nat.le_refl _))⟩
        have e1 : vs.take (k + 1) = vs.take k ++ [x] := by rw [List.take_add_one, HX.out]; rfl
        rw [e1, cels_snoc]; exact A2
      case measure => simp [intOf]; omega
    · obtain rfl : k = n := by omega
      go_wp2
      go_ret
      refine ⟨rfl, ?_, hbk⟩
      rw [List.take_of_length_le (by rw [HN.out]; omega)] at A
      exact A
end Go.Proofs.YtnimenpfojcehaaGreatDoor
namespace Go.Proofs.YtnimenpfojcehaaGreatDoor
open Go Go.RowKit
set_option linter.unusedSimpArgs false
set_option linter.unusedVariables false

/-- What j blank cells make of a state. -/
def AccS.skip (S : AccS) (j : Int) : AccS := if S.fn = 20 ∧ S.full = false then { S with count := S.count + j } else S
theorem tk_blank : tkV blankV = blankV := by decide
theorem sm_blank (S : AccS) : S.sm blankV = false := by
  unfold AccS.sm sameV
  rw [tk_blank]
  have : sameT (tkV S.needle) blankV = false := by
    unfold sameT
    rw [if_neg]
    rintro ⟨h1, h2, _⟩
    exact h2 h1
  rw [this, Bool.and_false]
theorem mts_blank (S : AccS) (N : NmS) : S.mts N blankV = false := by
  unfold AccS.mts meetsN
  rw [if_pos (show blankV.k = 0 ∨ blankV.k = 4 from Or.inl rfl), Bool.and_false]
theorem wants_of20 {S : AccS} {m : Int} (h : OkS S m) (hf : S.fn = 20) : S.wants = false := by
  cases hw : S.wants
  · rfl
  · obtain ⟨_, h1⟩ := h.w1 hw
    rcases h1 with ⟨h1, _⟩ | ⟨h1, _⟩ <;> omega
theorem blank_cel0 {S : AccS} (N : NmS) (hw : S.wants = false) (hf : ¬ S.fn = 20) : S.celK N blankV = S := by
  obtain ⟨fn, count, n, d, v, nd, has, full, wants, hn, hd⟩ := S
  simp only at hw hf
  subst hw
  unfold AccS.celK
  rw [sm_blank, mts_blank]
  repeat' split
  all_goals first | rfl | (exfalso; apply hf; assumption) | (rename_i h; cases h)
theorem blank_cel20 {S : AccS} (N : NmS) (hf : S.fn = 20) : S.celK N blankV = { S with count := S.count + 1 } := by
  unfold AccS.celK
  rw [if_neg (by omega), if_neg (by omega), if_neg (by omega), if_pos hf]
  unfold AccS.cellM
  rw [sm_blank, if_neg (by decide)]
theorem skip_fn (S : AccS) (j : Int) : (S.skip j).fn = S.fn := by unfold AccS.skip; split <;> rfl
theorem skip_zero (S : AccS) : S.skip 0 = S := by
  unfold AccS.skip
  split
  · simp
  · rfl
theorem okS_skip {S : AccS} {m j : Int} (h : OkS S m) (hj : 0 ≤ j) : OkS (S.skip j) (m + j) := by
  have := h.c0
  have := h.c1
  unfold AccS.skip
  split
  · exact ⟨h.fn, by show 0 ≤ S.count + j; omega, by show S.count + j ≤ m + j; omega, h.nd, h.v, h.nl, h.w0, h.w1, h.gcd⟩
  · exact h.up (by omega)
theorem blank_cel {S : AccS} {m : Int} (h : OkS S m) (N : NmS) (j : Int) : (S.skip j).celG N blankV = S.skip (j + 1) := by
  unfold AccS.skip
  by_cases hc : S.fn = 20 ∧ S.full = false
  · rw [if_pos hc, if_pos hc]
    unfold AccS.celG
    rw [if_neg (by show ¬ S.full = true; rw [hc.2]; decide), if_neg (by show ¬ S.wants = true; rw [wants_of20 h hc.1]; decide), tk_blank, blank_cel20 (S := { S with count := S.count + j }) N hc.1]
    simp [Int.add_assoc]
  · rw [if_neg hc, if_neg hc]
    unfold AccS.celG
    by_cases hu : S.full = true
    · rw [if_pos hu]
    rw [if_neg hu]
    by_cases hw : S.wants = true
    · rw [if_pos hw]
    rw [if_neg hw, tk_blank]
    exact blank_cel0 N (by simpa using hw) fun hf => hc ⟨hf, by simpa using hu⟩
/-- The one of MATCH that passed so many blank cells more. -/
def Ahead (many : Int) (S T : AccS) : Prop := S.fn = 20 ∧ S.wants = false ∧ ∃ c x, T = { S with count := c, v := x } ∧ (c = S.count ∨ c = S.count + many)
theorem ahead_skip {S : AccS} {m many : Int} (h : OkS S m) : S.skip many = S ∨ Ahead many S (S.skip many) := by
  unfold AccS.skip
  split
  · rename_i hc
    exact Or.inr ⟨hc.1, wants_of20 h hc.1, _, S.v, rfl, Or.inr rfl⟩
  · exact Or.inl rfl
theorem ahead_cel {S T : AccS} {many : Int} (N : NmS) (v : Vl) (h : Ahead many S T) : Ahead many (S.celG N v) (T.celG N v) := by
  obtain ⟨hf, hw, c, x, rfl, hc⟩ := h
  obtain ⟨fn, count, n, d, sv, nd, has, full, wants, hn, hd⟩ := S
  simp only at hf hw hc
  subst hf hw
  unfold AccS.celG
  simp only
  cases full
  · simp only [Bool.false_eq_true, if_false]
    unfold AccS.celK
    simp only
    rw [if_neg (by omega), if_neg (by omega), if_neg (by omega), if_pos trivial, if_neg (by omega), if_neg (by omega), if_neg (by omega), if_pos trivial]
    unfold AccS.cellM AccS.sm
    simp only
    split
    · exact ⟨rfl, rfl, c + 1, _, rfl, by simp only; omega⟩
    · exact ⟨rfl, rfl, c + 1, x, rfl, by simp only; omega⟩
  · simp only [if_true]
    exact ⟨rfl, rfl, c, x, rfl, hc⟩
theorem ahead_wants {S T : AccS} {many : Int} (h : Ahead many S T) : T.wants = S.wants := by
  obtain ⟨_, _, c, x, rfl, _⟩ := h
  rfl
theorem ahead_full {S T : AccS} {many : Int} (h : Ahead many S T) : T.full = S.full := by
  obtain ⟨_, _, c, x, rfl, _⟩ := h
  rfl
theorem ahead_res {S T : AccS} {many : Int} (h : Ahead many S T) (hu : S.full = false) : T.resG = S.resG := by
  obtain ⟨hf, _, c, x, rfl, _⟩ := h
  unfold AccS.resG AccS.resK
  simp [hu, hf]
theorem ahead_count {S T : AccS} {many : Int} (h : Ahead many S T) : T.count = S.count ∨ T.count = S.count + many := by
  obtain ⟨_, _, c, x, rfl, hc⟩ := h
  exact hc
end Go.Proofs.YtnimenpfojcehaaGreatDoor
