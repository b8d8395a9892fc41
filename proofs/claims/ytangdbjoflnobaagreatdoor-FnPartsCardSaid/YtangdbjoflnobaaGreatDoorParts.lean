/- The walk of FnParts. -/
import Derived.Test.YtangdbjoflnobaaGreatDoorPartsA
import Derived.Test.YtangdbjoflnobaaGreatDoorAble
import Derived.Deep.QuietTactic
import Derived.BigQuiet
import Derived.Deep.Cut
namespace Go.Proofs.YtangdbjoflnobaaGreatDoor
open Go Go.RowKit
set_option linter.unusedSimpArgs false
set_option linter.unusedVariables false

def VP (K : Int) (i gi : Nat) (kd : Value) (S : List Nm → AccS) (R : List Nm → Vl) (mx my mz : List Nm) (xa ya za : Option Addr) (xc yc zc B : Nat) : Nat → Value → World → Prop
  | 0, v, _ => v = .slice (some ⟨gi, 0, none⟩) 4 4
  | 1, v, _ => v = .int .i64 i
  | 2, v, _ => v = .pointer (some ⟨gi, i, none⟩)
  | 3, v, _ => v = .int .i64 K
  | 4, v, _ => v = .slice xa mx.length xc
  | 5, v, w => AccAt (S mx) kd v w
  | 6, v, _ => v = .agg #[.int .i64 (R mx).k, .int .i64 (R mx).n, .int .i64 (R mx).d, .string (R mx).t, .bool (R mx).b, .int .i64 (R mx).f]
  | 7, v, _ => v = .slice (some ⟨gi, 0, none⟩) 4 4
  | 8, v, _ => v = .int .i64 i
  | 9, v, _ => v = .pointer (some ⟨gi, i, none⟩)
  | 10, v, _ => v = .int .i64 K
  | 11, v, _ => v = .slice ya my.length yc
  | 12, v, w => AccAt (S my) kd v w
  | 13, v, _ => v = .agg #[.int .i64 (R my).k, .int .i64 (R my).n, .int .i64 (R my).d, .string (R my).t, .bool (R my).b, .int .i64 (R my).f]
  | 14, v, _ => v = .slice (some ⟨gi, 0, none⟩) 4 4
  | 15, v, _ => v = .int .i64 i
  | 16, v, _ => v = .pointer (some ⟨gi, i, none⟩)
  | 17, v, _ => v = .int .i64 K
  | 18, v, _ => v = .slice za mz.length zc
  | 19, v, w => AccAt (S mz) kd v w
  | 20, v, _ => v = .agg #[.int .i64 (R mz).k, .int .i64 (R mz).n, .int .i64 (R mz).d, .string (R mz).t, .bool (R mz).b, .int .i64 (R mz).f]
  | 21, v, w => FreshV B v w
  | 22, v, w => FreshV B v w
  | 23, v, w => FreshV B v w
  | _, _, _ => True
theorem VP.below (K : Int) (i gi : Nat) (kd : Value) (S : List Nm → AccS) (R : List Nm → Vl) (mx my mz : List Nm) (xa ya za : Option Addr) (xc yc zc B : Nat) : ∀ k v w1 w2, VP K i gi kd S R mx my mz xa ya za xc yc zc B k v w1 → Below w1.heap.size w1 w2 → VP K i gi kd S R mx my mz xa ya za xc yc zc B k v w2 := by
  intro k v w1 w2 h hb
  rcases k with _ | _ | _ | _ | _ | _ | _ | _ | _ | _ | _ | _ | _ | _ | _ | _ | _ | _ | _ | _ | _ | _ | _ | _ | k
  all_goals first | exact h | exact AccAt.below h hb | exact FreshV.below h hb
theorem VP.fresh (K : Int) (i gi : Nat) (kd : Value) (S : List Nm → AccS) (R : List Nm → Vl) (mx my mz : List Nm) (xa ya za : Option Addr) (xc yc zc B : Nat) {w : World} : ∀ k u, 21 ≤ k → k < 24 → VP K i gi kd S R mx my mz xa ya za xc yc zc B k u w → ∃ h, u = .pointer (some ⟨h, 0, none⟩) ∧ h < w.heap.size := by
  intro k u h1 h2 h
  have key : FreshV B u w := by
    rcases (show k = 21 ∨ k = 22 ∨ k = 23 by omega) with rfl | rfl | rfl <;> exact h
  obtain ⟨g, e, _, z⟩ := key
  exact ⟨g, e, z.lt⟩
theorem field_true (wx : World) (b : Bool) : (Instr.field 35 (.agg #[.int .i64 3, .int .i64 0, .int .i64 0, .string ⟨#[]⟩, .bool b, .int .i64 0]) 3).run Tryz.prog wx = .ok (.bool b) wx := by kernel_rfl
theorem res8' (l : List Nm) (p : Nat) (w : World) (hA : Blk w p (accArr (accF st8 (acc0 8 0) l) kdT) 104) :
    Calls Tryz.prog 28 #[.pointer (some ⟨p, 0, none⟩)] w fun e w' => e = .returned (.agg #[.int .i64 3, .int .i64 0, .int .i64 0, .string ⟨#[]⟩, .bool (andB l), .int .i64 0]) ∧ Below w.heap.size w w' := res8 l p w hA
theorem res9' (l : List Nm) (p : Nat) (w : World) (hA : Blk w p (accArr (accF st9 (acc0 9 0) l) kdT) 104) :
    Calls Tryz.prog 28 #[.pointer (some ⟨p, 0, none⟩)] w fun e w' => e = .returned (.agg #[.int .i64 3, .int .i64 0, .int .i64 0, .string ⟨#[]⟩, .bool (orB l), .int .i64 0]) ∧ Below w.heap.size w w' := res9 l p w hA
theorem res10' (l : List Nm) (hl : l.length ≤ 1000000) (p : Nat) (w : World) (hA : Blk w p (accArr (accF st10 (acc0 10 0) l) kdT) 104) :
    Calls Tryz.prog 28 #[.pointer (some ⟨p, 0, none⟩)] w fun e w' => e = .returned (.agg #[.int .i64 3, .int .i64 0, .int .i64 0, .string ⟨#[]⟩, .bool (xorB l), .int .i64 0]) ∧ Below w.heap.size w w' := res10 l hl p w hA
theorem truth' (b : Bool) (w : World) :
    Calls Tryz.prog 33 #[.bool b] w fun e w' => e = .returned (.agg #[.int .i64 3, .int .i64 0, .int .i64 0, .string ⟨#[]⟩, .bool b, .int .i64 0]) ∧ Below w.heap.size w w' := value_Truth b w
def VQ (op : Int) (i go p21 p22 p23 : Nat) (R : List Nm → Vl) (mx my mz : List Nm) : Nat → Value → World → Prop
  | 0, v, _ => v = .pointer (some ⟨p21, 0, none⟩)
  | 1, v, _ => v = .int .i64 (R mx).k
  | 2, v, _ => v = .bool true
  | 3, v, _ => v = .bool true
  | 4, v, _ => v = .pointer (some ⟨p22, 0, none⟩)
  | 5, v, _ => v = .int .i64 (R my).k
  | 6, v, _ => v = .bool true
  | 7, v, _ => v = .bool true
  | 8, v, _ => v = .bool true
  | 9, v, _ => v = .pointer (some ⟨p23, 0, none⟩)
  | 10, v, _ => v = .int .i64 (R mz).k
  | 11, v, _ => v = .bool true
  | 12, v, _ => v = .bool true
  | 13, v, _ => v = .bool true
  | 14, v, _ => v = .slice (some ⟨go, 0, none⟩) 4 4
  | 15, v, _ => v = .int .i64 i
  | 16, v, _ => v = .pointer (some ⟨go, i, none⟩)
  | 17, v, _ => v = .int .i64 op
  | 18, v, _ => v = .agg #[.int .i64 (R mx).k, .int .i64 (R mx).n, .int .i64 (R mx).d, .string (R mx).t, .bool (R mx).b, .int .i64 (R mx).f]
  | 19, v, _ => v = .agg #[.int .i64 (R my).k, .int .i64 (R my).n, .int .i64 (R my).d, .string (R my).t, .bool (R my).b, .int .i64 (R my).f]
  | 20, v, _ => v = .agg #[.int .i64 (R mz).k, .int .i64 (R mz).n, .int .i64 (R mz).d, .string (R mz).t, .bool (R mz).b, .int .i64 (R mz).f]
  | 21, v, _ => v = .agg #[.int .i64 (R mz).k, .int .i64 (R mz).n, .int .i64 (R mz).d, .string (R mz).t, .bool (R mz).b, .int .i64 (R mz).f]
  | 22, v, _ => v = .bool false
  | _, _, _ => True
theorem VQ.below (op : Int) (i go p21 p22 p23 : Nat) (R : List Nm → Vl) (mx my mz : List Nm) : ∀ k v w1 w2, VQ op i go p21 p22 p23 R mx my mz k v w1 → Below w1.heap.size w1 w2 → VQ op i go p21 p22 p23 R mx my mz k v w2 := by
  intro k v w1 w2 h hb
  rcases k with _ | _ | _ | _ | _ | _ | _ | _ | _ | _ | _ | _ | _ | _ | _ | _ | _ | _ | _ | _ | _ | _ | _ | k
  all_goals first | exact h
structure LsP (w w0 : World) (vs : List Vl) (x i : Value) (k : Nat) (wr : World) : Prop where
  le : k ≤ vs.length
  i : i = .int .i64 k
  below : Below w.heap.size w wr
  from0 : Below w0.heap.size w0 wr
  own : wr.ownsRow w0.heap.size 35 6 x (numsOf vs k).length ((numsOf vs k).flatMap Nm.cells)
  nil : numsOf vs k = [] → x = .slice none 0 0

set_option maxRecDepth 100000 in
set_option maxHeartbeats 40000000 in
theorem law_FnParts0 (vs us : List Vl) (la lb : Option Addr) (ca cb n m : Nat) (w : World) (hn : vs.length = n) (hm : us.length = m) (hbn : n ≤ 140737488355328) (hbm : m ≤ 140737488355328) (hi1 : ∀ v ∈ vs, v.In) (hi2 : ∀ v ∈ us, v.In) (hc1 : ValAt w la vs) (hc2 : ValAt w lb us) :
    Calls Tryz.prog 6 #[.slice la n ca, .slice lb m cb] w fun e w' => e = .returned (.bool true) ∧ Below w.heap.size w w' := by
  obtain ⟨i0, hi, hz, hsz, hby⟩ := zero_val
  have HI1 := Lib.hid hi1
  have HI2 := Lib.hid hi2
  have HC1 := Lib.hid hc1
  have HC2 := Lib.hid hc2
  have HN := Lib.hid hn
  have HM := Lib.hid hm
  clear hi1 hi2 hc1 hc2 hn hm
  go_enter Tryz.func6, Tryz.ntmps6
  go_wp2_with fail
  refine (law_able _).mono ?_
  rintro e w1 ⟨rfl, hb1⟩
  go_wp2_with fail
  refine (law_texts vs la ca n _ HN.out hbn HI1.out (HC1.out.below hb1)).mono ?_
  rintro e w2 ⟨h1, rfl, hl1, hb2⟩
  have hb02 := hb1.trans (hb2.mono hb1.size)
  cases h1
  case true =>
    go_wp2
    go_ret
    exact ⟨rfl, hb02⟩
  case false =>
  go_wp2_with fail
  refine (law_texts us lb cb m _ HM.out hbm HI2.out (HC2.out.below hb02)).mono ?_
  rintro e w3 ⟨h2, rfl, hl2, hb3⟩
  have hb03 := hb02.trans (hb3.mono hb02.size)
  cases h2
  case true =>
    go_wp2
    go_ret
    exact ⟨rfl, hb03⟩
  case false =>
  have hn2 := hl1 (by simp)
  have hm2 := hl2 (by simp)
  clear hb1 hb2 hb3 hb02 hl1 hl2
  go_wp2
  go_loopw [5, 7] (fun x i wr => ∃ k, LsP w w vs x i k wr) (fun _ i _ => n - (intOf i).toNat)
  case atStart => exact ⟨0, Nat.zero_le _, rfl, hb03, hb03, World.ownsRow_nil _ _ _ _, fun _ => rfl⟩
  case round =>
    clear hb03
    obtain ⟨k, hk, rfl, hbk, hbk0, hown, hnil⟩ := hrel
    rw [HN.out] at hk
    by_cases hlt : k < n
    · obtain ⟨b, off, rfl, hbw, hrow⟩ := HC1.out (by rw [HN.out]; omega)
      obtain ⟨v, hv⟩ : ∃ v, vs[k]? = some v := ⟨_, List.getElem?_eq_getElem (by rw [HN.out]; exact hlt)⟩
      have HV := HI1.out v (List.mem_of_getElem? hv)
      have hstep := Lib.hid (numsOf_step hv)
      have hlen := numsOf_len vs k
      have hsk := hbk.size
      have hsk0 := hbk0.size
      have HRt := Lib.hid fun wx => value_Right v.k v.n v.d v.t v.b v.f wx HV
      have er : rightV ⟨v.k, v.n, v.d, v.t, v.b, v.f⟩ = rightV v := rfl
      rw [er] at HRt
      clear er HV
      obtain ⟨c0, c1, c2, c3, c4, c5⟩ := (hrow.below hbw hbk) k v hv
      have HB := Lib.hid (And.intro hbk (And.intro hbk0 (And.intro hown (And.intro hnil (And.intro hbw (hrow k v hv))))))
      clear hrow hbk hbk0 hown hnil hv
      by_cases hk1 : v.k = 1
      · cases hr : rightV v
        · have hst : numsOf vs (k + 1) = numsOf vs k := by rw [hstep.out, if_neg (by simp [hr])]
          have HST := Lib.hid hst
          rw [hr] at HRt
          have hd : (v.k == 1) = true := by simp [hk1]
          clear hst hstep hk1 hr
          go_wp2_with fail
          refine (HRt.out _).mono ?_
          rintro e w2 ⟨rfl, hb2⟩
          go_wp2
          go_roundw
          case rel =>
            obtain ⟨h1, h2, h3, h4, _⟩ := HB.out
            refine ⟨k + 1, by rw [HN.out]; omega, by go_num, h1.trans (hb2.mono hsk), h2.trans (hb2.mono hsk0), ?_, ?_⟩
            · rw [HST.out]; exact own_below h3 hb2
            · rw [HST.out]; exact h4
          case measure => simp [intOf]; omega
        · have hst : numsOf vs (k + 1) = numsOf vs k ++ [⟨v.n, v.d⟩] := by rw [hstep.out, if_pos (by simp [hr, hk1])]
          have HST := Lib.hid hst
          rw [hr] at HRt
          obtain ⟨x, hx⟩ : ∃ x : Nm, v = ⟨1, x.n, x.d, ⟨#[]⟩, false, 0⟩ := ⟨⟨v.n, v.d⟩, (right_num hk1 hr).2⟩
          clear hst hstep hk1 hr
          subst hx
          simp only at c0 c1 c2 c3 c4 c5 HRt HST HB
          have HX := HB.out.2.2.2.2
          go_wp2_with fail
          refine (HRt.out _).mono ?_
          rintro e w2 ⟨rfl, hb2⟩
          have hs2 := hb2.size
          have hb02 := HB.out.1.trans (hb2.mono hsk)
          have d0 := (lcc hb02 b HX.1 _).trans HX.2.1
          have d1 := (lcc hb02 b HX.1 _).trans HX.2.2.1
          have d2 := (lcc hb02 b HX.1 _).trans HX.2.2.2.1
          have d3 := (lcc hb02 b HX.1 _).trans HX.2.2.2.2.1
          have d4 := (lcc hb02 b HX.1 _).trans HX.2.2.2.2.2.1
          have d5 := (lcc hb02 b HX.1 _).trans HX.2.2.2.2.2.2
          have hown3 := own_below HB.out.2.2.1 hb2
          have hH := Lib.hid (And.intro hb02 (HB.out.2.1.trans (hb2.mono hsk0)))
          clear hb02 hb2 HX c0 c1 c2 c3 c4 c5
          go_wp2_with (first
            | (at_builtin; refine wpList_append_lies _ rfl _ _ 31 rfl w.heap.size 35 i0 _ 6 56 Tryz.underlying31 hi hz hsz hby rfl (by decide) _ (numsOf vs k).length _ rfl (hown3.alloc _) ⟨w2.heap.size, 0, none⟩ 1 1 (Nm.cells x) rfl rfl (World.news_of_block (heap_alloc_new _ _)) (Nm.one _) (by decide) (by unfold maxLen; omega) (by omega) (by simp; omega) _ rfl ?_; intro g capg w5 hown5 hgrow5 hat5 hlt5)
            | fail)
          go_roundw
          case rel =>
            refine ⟨k + 1, by rw [HN.out]; omega, by go_num, below_grownBy (hH.out.1.alloc (by omega) _) hgrow5 (own_mono (hown3.alloc _) (by omega)) (by simp; omega), below_grownBy (hH.out.2.alloc (by omega) _) hgrow5 (hown3.alloc _) (by simp; omega), ?_, ?_⟩
            · rw [HST.out, List.length_append, flat6_snoc]; exact hown5
            · rw [HST.out]; intro h; simp at h
          case measure => simp [intOf]; omega
      · have hst : numsOf vs (k + 1) = numsOf vs k := by rw [hstep.out, if_neg (by simp [hk1])]
        have HST := Lib.hid hst
        have hd : (v.k == 1) = false := by simp [hk1]
        clear hst hstep hk1
        go_wp2
        go_roundw
        case rel =>
          obtain ⟨h1, h2, h3, h4, _⟩ := HB.out
          exact ⟨k + 1, by rw [HN.out]; omega, by go_num, h1, h2, by rw [HST.out]; exact h3, by rw [HST.out]; exact h4⟩
        case measure => simp [intOf]; omega
    · obtain rfl : k = n := by omega
      obtain ⟨wq, rfl⟩ : ∃ x : World, x = wr := ⟨_, rfl⟩
      have hmx := numsOf_ok vs k
      have hlx := numsOf_len vs k
      generalize numsOf vs k = mx at *
      obtain ⟨xa, xc, rfl, hrowx⟩ := rowAt_of hown rfl
      have hxz : mx = [] → xa = none ∧ xc = 0 := fun h => by have h2 := hnil h; simp at h2; exact ⟨h2.1, h2.2.2⟩
      have HMX := Lib.hid hmx
      have HXZ := Lib.hid hxz
      have HRX := Lib.hid hrowx
      have hsq := hbk.size
      have HBQ := Lib.hid hbk
      clear hmx hxz hrowx hbk hbk0 hown hnil
      go_wp2
      go_loopw [6, 8] (fun x i wr => ∃ k, LsP w wq us x i k wr) (fun _ i _ => m - (intOf i).toNat)
      case atStart => exact ⟨0, Nat.zero_le _, rfl, HBQ.out, Below.refl _ _, World.ownsRow_nil _ _ _ _, fun _ => rfl⟩
      case round =>
        obtain ⟨k, hk, rfl, hbk, hbk0, hown, hnil⟩ := hrel
        rw [HM.out] at hk
        by_cases hlt : k < m
        · obtain ⟨b, off, rfl, hbw, hrow⟩ := HC2.out (by rw [HM.out]; omega)
          obtain ⟨v, hv⟩ : ∃ v, us[k]? = some v := ⟨_, List.getElem?_eq_getElem (by rw [HM.out]; exact hlt)⟩
          have HV := HI2.out v (List.mem_of_getElem? hv)
          have hstep := Lib.hid (numsOf_step hv)
          have hlen := numsOf_len us k
          have hsk := hbk.size
          have hsk0 := hbk0.size
          have HRt := Lib.hid fun wx => value_Right v.k v.n v.d v.t v.b v.f wx HV
          have er : rightV ⟨v.k, v.n, v.d, v.t, v.b, v.f⟩ = rightV v := rfl
          rw [er] at HRt
          clear er HV
          obtain ⟨c0, c1, c2, c3, c4, c5⟩ := (hrow.below hbw hbk) k v hv
          have HB := Lib.hid (And.intro hbk (And.intro hbk0 (And.intro hown (And.intro hnil (And.intro hbw (hrow k v hv))))))
          clear hrow hbk hbk0 hown hnil hv
          by_cases hk1 : v.k = 1
          · cases hr : rightV v
            · have hst : numsOf us (k + 1) = numsOf us k := by rw [hstep.out, if_neg (by simp [hr])]
              have HST := Lib.hid hst
              rw [hr] at HRt
              have hd : (v.k == 1) = true := by simp [hk1]
              clear hst hstep hk1 hr
              go_wp2_with fail
              refine (HRt.out _).mono ?_
              rintro e w2 ⟨rfl, hb2⟩
              go_wp2
              go_roundw
              case rel =>
                obtain ⟨h1, h2, h3, h4, _⟩ := HB.out
                refine ⟨k + 1, by rw [HM.out]; omega, by go_num, h1.trans (hb2.mono hsk), h2.trans (hb2.mono hsk0), ?_, ?_⟩
                · rw [HST.out]; exact own_below h3 hb2
                · rw [HST.out]; exact h4
              case measure => simp [intOf]; omega
            · have hst : numsOf us (k + 1) = numsOf us k ++ [⟨v.n, v.d⟩] := by rw [hstep.out, if_pos (by simp [hr, hk1])]
              have HST := Lib.hid hst
              rw [hr] at HRt
              obtain ⟨x, hx⟩ : ∃ x : Nm, v = ⟨1, x.n, x.d, ⟨#[]⟩, false, 0⟩ := ⟨⟨v.n, v.d⟩, (right_num hk1 hr).2⟩
              clear hst hstep hk1 hr
              subst hx
              simp only at c0 c1 c2 c3 c4 c5 HRt HST HB
              have HX := HB.out.2.2.2.2
              go_wp2_with fail
              refine (HRt.out _).mono ?_
              rintro e w2 ⟨rfl, hb2⟩
              have hs2 := hb2.size
              have hb02 := HB.out.1.trans (hb2.mono hsk)
              have d0 := (lcc hb02 b HX.1 _).trans HX.2.1
              have d1 := (lcc hb02 b HX.1 _).trans HX.2.2.1
              have d2 := (lcc hb02 b HX.1 _).trans HX.2.2.2.1
              have d3 := (lcc hb02 b HX.1 _).trans HX.2.2.2.2.1
              have d4 := (lcc hb02 b HX.1 _).trans HX.2.2.2.2.2.1
              have d5 := (lcc hb02 b HX.1 _).trans HX.2.2.2.2.2.2
              have hown3 := own_below HB.out.2.2.1 hb2
              have hH := Lib.hid (And.intro hb02 (HB.out.2.1.trans (hb2.mono hsk0)))
              clear hb02 hb2 HX c0 c1 c2 c3 c4 c5
              go_wp2_with (first
                | (at_builtin; refine wpList_append_lies _ rfl _ _ 31 rfl wq.heap.size 35 i0 _ 6 56 Tryz.underlying31 hi hz hsz hby rfl (by decide) _ (numsOf us k).length _ rfl (hown3.alloc _) ⟨w2.heap.size, 0, none⟩ 1 1 (Nm.cells x) rfl rfl (World.news_of_block (heap_alloc_new _ _)) (Nm.one _) (by decide) (by unfold maxLen; omega) (by omega) (by simp; omega) _ rfl ?_; intro g capg w5 hown5 hgrow5 hat5 hlt5)
                | fail)
              go_roundw
              case rel =>
                refine ⟨k + 1, by rw [HM.out]; omega, by go_num, below_grownBy (hH.out.1.alloc (by omega) _) hgrow5 (own_mono (hown3.alloc _) (by omega)) (by simp; omega), below_grownBy (hH.out.2.alloc (by omega) _) hgrow5 (hown3.alloc _) (by simp; omega), ?_, ?_⟩
                · rw [HST.out, List.length_append, flat6_snoc]; exact hown5
                · rw [HST.out]; intro h; simp at h
              case measure => simp [intOf]; omega
          · have hst : numsOf us (k + 1) = numsOf us k := by rw [hstep.out, if_neg (by simp [hk1])]
            have HST := Lib.hid hst
            have hd : (v.k == 1) = false := by simp [hk1]
            clear hst hstep hk1
            go_wp2
            go_roundw
            case rel =>
              obtain ⟨h1, h2, h3, h4, _⟩ := HB.out
              exact ⟨k + 1, by rw [HM.out]; omega, by go_num, h1, h2, by rw [HST.out]; exact h3, by rw [HST.out]; exact h4⟩
            case measure => simp [intOf]; omega
        · obtain rfl : k = m := by omega
          have hmy := numsOf_ok us k
          have hly := numsOf_len us k
          generalize numsOf us k = my at *
          obtain ⟨ya, yc, rfl, hrowy⟩ := rowAt_of hown rfl
          have hyz : my = [] → ya = none ∧ yc = 0 := fun h => by have h2 := hnil h; simp at h2; exact ⟨h2.1, h2.2.2⟩
          have hsy := hbk0.size
          have hsw := hbk.size
          have RX := Lib.hid (HRX.out.below hbk0)
          have RY := Lib.hid hrowy
          have HMY := Lib.hid hmy
          have HYZ := Lib.hid hyz
          have HBW := Lib.hid hbk
          clear hmy hyz hrowy hbk hbk0 hown hnil HRX HBQ
          have hs0 : (wr.alloc (.cells #[] 35)).ownsRow wr.heap.size 35 6 (.slice (some ⟨wr.heap.size, 0, none⟩) 0 0) 0 [] := ⟨rfl, .inr ⟨_, 0, #[], rfl, Nat.le_refl _, heap_alloc_new _ _, Nat.le_refl _, by decide, rfl, rfl⟩⟩
          go_upto_region 16 with (fail)
          go_wp2_with (first
            | (at_builtin; refine wpList_append_rows rfl _ _ rfl wr.heap.size _ 0 [] rfl hs0 xa xc mx rfl HXZ.out (RX.out.below (below_new' _ _)) (by omega) (by simp) ?_; intro v1 w5 hown5 hgrow5; have hb05 : Below wr.heap.size wr w5 := below_grownBy (below_new' _ _) hgrow5 hs0 (by simp); have hs5 := hb05.size)
            | (at_builtin; refine wpList_append_rows rfl _ _ rfl wr.heap.size _ _ _ rfl hown5 ya yc my rfl HYZ.out (RY.out.below hb05) (by omega) (by omega) ?_; intro v2 w6 hown6 hgrow6; have hb06 : Below wr.heap.size wr w6 := below_grownBy hb05 hgrow6 hown5 (by omega))
            | fail)
          obtain ⟨mz, hmz⟩ : ∃ l, l = mx ++ my := ⟨_, rfl⟩
          have hz6 : w6.ownsRow wr.heap.size 35 6 v2 (0 + mx.length + my.length) (mz.flatMap Nm.cells) := by rw [hmz, List.flatMap_append]; exact hown6
          have hlm : mz.length = mx.length + my.length := by rw [hmz, List.length_append]
          obtain ⟨za, zc, rfl, hrowz⟩ := rowAt_of hz6 (by omega)
          have hlZ : mz.length ≤ 1000000 := by omega
          have HMZ := Lib.hid (fun y hy => by rw [hmz] at hy; rcases List.mem_append.1 hy with h | h; exact HMX.out y h; exact HMY.out y h : ∀ y ∈ mz, RtN y)
          have HME := Lib.hid hmz
          clear hlm hmz
          refine wp_rebase ?_
          intro wI hb'
          have hbI := hb'.out
          clear hb'
          have KI := Lib.hid (Blk.below (Blk.alloc (heap_alloc_new w6 (.cells #[.int .i64 1, .int .i64 2, .int .i64 12, .int .i64 3] 3)) _) hbI)
          have KO : Blk wI (w6.heap.size + 1) #[.int .i64 11, .int .i64 13, .int .i64 11, .int .i64 11] 3 := by
            have h := heap_alloc_new (w6.alloc (.cells #[.int .i64 1, .int .i64 2, .int .i64 12, .int .i64 3] 3)) (.cells #[.int .i64 11, .int .i64 13, .int .i64 11, .int .i64 11] 3)
            rw [sz_alloc] at h
            exact Blk.below h hbI
          have KOh := Lib.hid KO
          have hs6 := hb06.size
          have hb6I : Below w6.heap.size w6 wI := (((Below.refl _ _).alloc (Nat.le_refl _) _).alloc (by simp only [sz_alloc]; omega) _).trans (hbI.mono (by simp only [sz_alloc]; omega))
          have hb0I := hb06.trans (hb6I.mono hs6)
          have RXI := Lib.hid (RX.out.below hb0I)
          have RYI := Lib.hid (RY.out.below hb0I)
          have RZI := Lib.hid (hrowz.below hb6I)
          have HBI := Lib.hid (HBW.out.trans (hb0I.mono hsw))
          have hsI := HBI.out.size
          clear KO hbI hb6I hb0I hrowz hz6 hown5 hown6 hgrow5 hgrow6 hb05 hb06 hs0 RX RY HBW HXZ HYZ HC1 HC2 HI1 HI2
          generalize w6.heap.size = gi at *
          go_loopw [12] (fun i wr => ∃ k : Nat, k ≤ 4 ∧ i = .int .i64 k ∧ Below wI.heap.size wI wr) (fun i _ => 4 - (intOf i).toNat)
          case atStart => exact ⟨0, by omega, rfl, Below.refl _ _⟩
          case round =>
            obtain ⟨k, hk, rfl, hbk⟩ := hrel
            have Ki := KI.out.below hbk
            have Ko := KOh.out.below hbk
            have RX := Lib.hid (RXI.out.below hbk)
            have RY := Lib.hid (RYI.out.below hbk)
            have RZ := Lib.hid (RZI.out.below hbk)
            have hsk := hbk.size
            by_cases hlt : k < 4
            · obtain ⟨K, op, kd, S, R, HF, hKi, hKo⟩ : ∃ (K op : Int) (kd : Value) (S : List Nm → AccS) (R : List Nm → Vl), Hid (FoldK K op kd S R) ∧ (#[.int .i64 1, .int .i64 2, .int .i64 12, .int .i64 3] : Array Value)[k]? = some (.int .i64 K) ∧ (#[.int .i64 11, .int .i64 13, .int .i64 11, .int .i64 11] : Array Value)[k]? = some (.int .i64 op) := by
                rcases (show k = 0 ∨ k = 1 ∨ k = 2 ∨ k = 3 by omega) with rfl | rfl | rfl | rfl
                · exact ⟨1, 11, _, _, _, Lib.hid foldK1, rfl, rfl⟩
                · exact ⟨2, 13, _, _, _, Lib.hid foldK2, rfl, rfl⟩
                · exact ⟨12, 11, _, _, _, Lib.hid foldK12, rfl, rfl⟩
                · exact ⟨3, 11, _, _, _, Lib.hid foldK3, rfl, rfl⟩
              have HBK := Lib.hid hbk
              have HKi := Lib.hid hKi
              have HKo := Lib.hid hKo
              have HKb := Lib.hid Ki
              have HKc := Lib.hid Ko
              clear hbk hKi hKo Ki Ko
              have hdk : decide ((k : Int) < 4) = true := by simp; omega
              go_upto_region 22 with (fail)
              try rw [hdk]
              refine wp_act fun a ha => ?_
              refine region_eachD 24 (VP K k gi kd S R mx my mz xa ya za xc yc zc wr.heap.size) (DK 21) (by kernel_rfl) (by kernel_rfl) (VP.below K k gi kd S R mx my mz xa ya za xc yc zc wr.heap.size) ?_ ?_
              · intro j hj o ho vs wx hw hk
                have hbx := hw.out
                have hzx := hbx.size
                have hci := ((HKb.out.below hbx).cell k).trans HKi.out
                rcases j with _ | _ | _ | _ | _ | _ | _ | _ | _ | _ | _ | _ | _ | _ | _ | _ | _ | _ | _ | _ | _ | _ | _ | _ | j
                · obtain rfl : _ = o := Option.some.inj ho
                  clear ho hk
                  change wpList _ _ (OneQ _ a _) _ a _
                  subst ha
                  go_wp2
                  exact ⟨_, rfl, Below.refl _ _, by first | rfl | (simp [veq_true.2, VP]; done), DK.old (by decide)⟩
                · obtain rfl : _ = o := Option.some.inj ho
                  clear ho hk
                  change wpList _ _ (OneQ _ a _) _ a _
                  subst ha
                  go_wp2
                  exact ⟨_, rfl, Below.refl _ _, by first | rfl | (simp [veq_true.2, VP]; done), DK.old (by decide)⟩
                · obtain rfl : _ = o := Option.some.inj ho
                  have y0 : vs 0 = .slice (some ⟨gi, 0, none⟩) 4 4 := hk 0 (by decide) rfl
                  have y1 : vs 1 = .int .i64 k := hk 1 (by decide) rfl
                  clear ho hk
                  change wpList _ _ (OneQ _ (Act.put (Act.put a (some 92) (vs 0)) (some 93) (vs 1)) _) _ (Act.put (Act.put a (some 92) (vs 0)) (some 93) (vs 1)) _
                  rw [y0, y1]
                  subst ha
                  go_wp2
                  exact ⟨_, rfl, Below.refl _ _, by first | rfl | (simp [veq_true.2, VP]; done), DK.old (by decide)⟩
                · obtain rfl : _ = o := Option.some.inj ho
                  have y2 : vs 2 = .pointer (some ⟨gi, k, none⟩) := hk 2 (by decide) rfl
                  clear ho hk
                  change wpList _ _ (OneQ _ (Act.put a (some 94) (vs 2)) _) _ (Act.put a (some 94) (vs 2)) _
                  rw [y2]
                  subst ha
                  go_wp2
                  exact ⟨_, rfl, Below.refl _ _, by first | rfl | (simp [veq_true.2, VP]; done), DK.old (by decide)⟩
                · obtain rfl : _ = o := Option.some.inj ho
                  clear ho hk
                  change wpList _ _ (OneQ _ a _) _ a _
                  subst ha
                  go_wp2
                  exact ⟨_, rfl, Below.refl _ _, by first | rfl | (simp [veq_true.2, VP]; done), DK.old (by decide)⟩
                · obtain rfl : _ = o := Option.some.inj ho
                  have y3 : vs 3 = .int .i64 K := hk 3 (by decide) rfl
                  have y4 : vs 4 = .slice xa mx.length xc := hk 4 (by decide) rfl
                  clear ho hk
                  change wpList _ _ (OneQ _ (Act.put (Act.put a (some 95) (vs 3)) (some 96) (vs 4)) _) _ (Act.put (Act.put a (some 95) (vs 3)) (some 96) (vs 4)) _
                  rw [y3, y4]
                  subst ha
                  go_wp2_with fail
                  refine (HF.out.fold mx HMX.out (by omega) xa xc wx (RX.out.below hbx)).mono ?_
                  rintro e w' ⟨rfl, hA', hb'⟩
                  go_wp2
                  exact ⟨_, rfl, hb', ⟨_, rfl, hA'⟩, DK.old (by decide)⟩
                · obtain rfl : _ = o := Option.some.inj ho
                  obtain ⟨p5, y5, hp5⟩ : AccAt (S mx) kd (vs 5) wx := hk 5 (by decide) rfl
                  clear ho hk
                  change wpList _ _ (OneQ _ (Act.put a (some 97) (vs 5)) _) _ (Act.put a (some 97) (vs 5)) _
                  rw [y5]
                  subst ha
                  go_wp2_with fail
                  refine (HF.out.res mx (by omega) _ _ hp5).mono ?_
                  rintro e w' ⟨rfl, hb'⟩
                  go_wp2
                  exact ⟨_, rfl, hb', by first | rfl | (simp [VP]; done), DK.old (by decide)⟩
                · obtain rfl : _ = o := Option.some.inj ho
                  clear ho hk
                  change wpList _ _ (OneQ _ a _) _ a _
                  subst ha
                  go_wp2
                  exact ⟨_, rfl, Below.refl _ _, by first | rfl | (simp [veq_true.2, VP]; done), DK.old (by decide)⟩
                · obtain rfl : _ = o := Option.some.inj ho
                  clear ho hk
                  change wpList _ _ (OneQ _ a _) _ a _
                  subst ha
                  go_wp2
                  exact ⟨_, rfl, Below.refl _ _, by first | rfl | (simp [veq_true.2, VP]; done), DK.old (by decide)⟩
                · obtain rfl : _ = o := Option.some.inj ho
                  have y7 : vs 7 = .slice (some ⟨gi, 0, none⟩) 4 4 := hk 7 (by decide) rfl
                  have y8 : vs 8 = .int .i64 k := hk 8 (by decide) rfl
                  clear ho hk
                  change wpList _ _ (OneQ _ (Act.put (Act.put a (some 99) (vs 7)) (some 100) (vs 8)) _) _ (Act.put (Act.put a (some 99) (vs 7)) (some 100) (vs 8)) _
                  rw [y7, y8]
                  subst ha
                  go_wp2
                  exact ⟨_, rfl, Below.refl _ _, by first | rfl | (simp [veq_true.2, VP]; done), DK.old (by decide)⟩
                · obtain rfl : _ = o := Option.some.inj ho
                  have y9 : vs 9 = .pointer (some ⟨gi, k, none⟩) := hk 9 (by decide) rfl
                  clear ho hk
                  change wpList _ _ (OneQ _ (Act.put a (some 101) (vs 9)) _) _ (Act.put a (some 101) (vs 9)) _
                  rw [y9]
                  subst ha
                  go_wp2
                  exact ⟨_, rfl, Below.refl _ _, by first | rfl | (simp [veq_true.2, VP]; done), DK.old (by decide)⟩
                · obtain rfl : _ = o := Option.some.inj ho
                  clear ho hk
                  change wpList _ _ (OneQ _ a _) _ a _
                  subst ha
                  go_wp2
                  exact ⟨_, rfl, Below.refl _ _, by first | rfl | (simp [veq_true.2, VP]; done), DK.old (by decide)⟩
                · obtain rfl : _ = o := Option.some.inj ho
                  have y10 : vs 10 = .int .i64 K := hk 10 (by decide) rfl
                  have y11 : vs 11 = .slice ya my.length yc := hk 11 (by decide) rfl
                  clear ho hk
                  change wpList _ _ (OneQ _ (Act.put (Act.put a (some 102) (vs 10)) (some 103) (vs 11)) _) _ (Act.put (Act.put a (some 102) (vs 10)) (some 103) (vs 11)) _
                  rw [y10, y11]
                  subst ha
                  go_wp2_with fail
                  refine (HF.out.fold my HMY.out (by omega) ya yc wx (RY.out.below hbx)).mono ?_
                  rintro e w' ⟨rfl, hA', hb'⟩
                  go_wp2
                  exact ⟨_, rfl, hb', ⟨_, rfl, hA'⟩, DK.old (by decide)⟩
                · obtain rfl : _ = o := Option.some.inj ho
                  obtain ⟨p12, y12, hp12⟩ : AccAt (S my) kd (vs 12) wx := hk 12 (by decide) rfl
                  clear ho hk
                  change wpList _ _ (OneQ _ (Act.put a (some 104) (vs 12)) _) _ (Act.put a (some 104) (vs 12)) _
                  rw [y12]
                  subst ha
                  go_wp2_with fail
                  refine (HF.out.res my (by omega) _ _ hp12).mono ?_
                  rintro e w' ⟨rfl, hb'⟩
                  go_wp2
                  exact ⟨_, rfl, hb', by first | rfl | (simp [VP]; done), DK.old (by decide)⟩
                · obtain rfl : _ = o := Option.some.inj ho
                  clear ho hk
                  change wpList _ _ (OneQ _ a _) _ a _
                  subst ha
                  go_wp2
                  exact ⟨_, rfl, Below.refl _ _, by first | rfl | (simp [veq_true.2, VP]; done), DK.old (by decide)⟩
                · obtain rfl : _ = o := Option.some.inj ho
                  clear ho hk
                  change wpList _ _ (OneQ _ a _) _ a _
                  subst ha
                  go_wp2
                  exact ⟨_, rfl, Below.refl _ _, by first | rfl | (simp [veq_true.2, VP]; done), DK.old (by decide)⟩
                · obtain rfl : _ = o := Option.some.inj ho
                  have y14 : vs 14 = .slice (some ⟨gi, 0, none⟩) 4 4 := hk 14 (by decide) rfl
                  have y15 : vs 15 = .int .i64 k := hk 15 (by decide) rfl
                  clear ho hk
                  change wpList _ _ (OneQ _ (Act.put (Act.put a (some 106) (vs 14)) (some 107) (vs 15)) _) _ (Act.put (Act.put a (some 106) (vs 14)) (some 107) (vs 15)) _
                  rw [y14, y15]
                  subst ha
                  go_wp2
                  exact ⟨_, rfl, Below.refl _ _, by first | rfl | (simp [veq_true.2, VP]; done), DK.old (by decide)⟩
                · obtain rfl : _ = o := Option.some.inj ho
                  have y16 : vs 16 = .pointer (some ⟨gi, k, none⟩) := hk 16 (by decide) rfl
                  clear ho hk
                  change wpList _ _ (OneQ _ (Act.put a (some 108) (vs 16)) _) _ (Act.put a (some 108) (vs 16)) _
                  rw [y16]
                  subst ha
                  go_wp2
                  exact ⟨_, rfl, Below.refl _ _, by first | rfl | (simp [veq_true.2, VP]; done), DK.old (by decide)⟩
                · obtain rfl : _ = o := Option.some.inj ho
                  clear ho hk
                  change wpList _ _ (OneQ _ a _) _ a _
                  subst ha
                  go_wp2
                  exact ⟨_, rfl, Below.refl _ _, by first | rfl | (simp [veq_true.2, VP]; done), DK.old (by decide)⟩
                · obtain rfl : _ = o := Option.some.inj ho
                  have y17 : vs 17 = .int .i64 K := hk 17 (by decide) rfl
                  have y18 : vs 18 = .slice za mz.length zc := hk 18 (by decide) rfl
                  clear ho hk
                  change wpList _ _ (OneQ _ (Act.put (Act.put a (some 109) (vs 17)) (some 110) (vs 18)) _) _ (Act.put (Act.put a (some 109) (vs 17)) (some 110) (vs 18)) _
                  rw [y17, y18]
                  subst ha
                  go_wp2_with fail
                  refine (HF.out.fold mz HMZ.out hlZ za zc wx (RZ.out.below hbx)).mono ?_
                  rintro e w' ⟨rfl, hA', hb'⟩
                  go_wp2
                  exact ⟨_, rfl, hb', ⟨_, rfl, hA'⟩, DK.old (by decide)⟩
                · obtain rfl : _ = o := Option.some.inj ho
                  obtain ⟨p19, y19, hp19⟩ : AccAt (S mz) kd (vs 19) wx := hk 19 (by decide) rfl
                  clear ho hk
                  change wpList _ _ (OneQ _ (Act.put a (some 111) (vs 19)) _) _ (Act.put a (some 111) (vs 19)) _
                  rw [y19]
                  subst ha
                  go_wp2_with fail
                  refine (HF.out.res mz hlZ _ _ hp19).mono ?_
                  rintro e w' ⟨rfl, hb'⟩
                  go_wp2
                  exact ⟨_, rfl, hb', by first | rfl | (simp [VP]; done), DK.old (by decide)⟩
                · obtain rfl : _ = o := Option.some.inj ho
                  clear ho hk
                  change wpList _ _ (OneQ _ a _) _ a _
                  subst ha
                  go_wp2
                  exact ⟨_, rfl, below_new' _ _, ⟨_, rfl, by omega, fresh_new _⟩, DK.new (VP.fresh K k gi kd S R mx my mz xa ya za xc yc zc wr.heap.size)⟩
                · obtain rfl : _ = o := Option.some.inj ho
                  clear ho hk
                  change wpList _ _ (OneQ _ a _) _ a _
                  subst ha
                  go_wp2
                  exact ⟨_, rfl, below_new' _ _, ⟨_, rfl, by omega, fresh_new _⟩, DK.new (VP.fresh K k gi kd S R mx my mz xa ya za xc yc zc wr.heap.size)⟩
                · obtain rfl : _ = o := Option.some.inj ho
                  clear ho hk
                  change wpList _ _ (OneQ _ a _) _ a _
                  subst ha
                  go_wp2
                  exact ⟨_, rfl, below_new' _ _, ⟨_, rfl, by omega, fresh_new _⟩, DK.new (VP.fresh K k gi kd S R mx my mz xa ya za xc yc zc wr.heap.size)⟩
                · omega
              · intro vs wx hw hv hD
                have hbx := hw.out
                have y0 : vs 0 = .slice (some ⟨gi, 0, none⟩) 4 4 := hv 0 (by decide)
                have y1 : vs 1 = .int .i64 k := hv 1 (by decide)
                have y2 : vs 2 = .pointer (some ⟨gi, k, none⟩) := hv 2 (by decide)
                have y3 : vs 3 = .int .i64 K := hv 3 (by decide)
                have y4 : vs 4 = .slice xa mx.length xc := hv 4 (by decide)
                obtain ⟨p5, y5, hp5⟩ : AccAt (S mx) kd (vs 5) wx := hv 5 (by decide)
                have y6 : vs 6 = .agg #[.int .i64 (R mx).k, .int .i64 (R mx).n, .int .i64 (R mx).d, .string (R mx).t, .bool (R mx).b, .int .i64 (R mx).f] := hv 6 (by decide)
                have y7 : vs 7 = .slice (some ⟨gi, 0, none⟩) 4 4 := hv 7 (by decide)
                have y8 : vs 8 = .int .i64 k := hv 8 (by decide)
                have y9 : vs 9 = .pointer (some ⟨gi, k, none⟩) := hv 9 (by decide)
                have y10 : vs 10 = .int .i64 K := hv 10 (by decide)
                have y11 : vs 11 = .slice ya my.length yc := hv 11 (by decide)
                obtain ⟨p12, y12, hp12⟩ : AccAt (S my) kd (vs 12) wx := hv 12 (by decide)
                have y13 : vs 13 = .agg #[.int .i64 (R my).k, .int .i64 (R my).n, .int .i64 (R my).d, .string (R my).t, .bool (R my).b, .int .i64 (R my).f] := hv 13 (by decide)
                have y14 : vs 14 = .slice (some ⟨gi, 0, none⟩) 4 4 := hv 14 (by decide)
                have y15 : vs 15 = .int .i64 k := hv 15 (by decide)
                have y16 : vs 16 = .pointer (some ⟨gi, k, none⟩) := hv 16 (by decide)
                have y17 : vs 17 = .int .i64 K := hv 17 (by decide)
                have y18 : vs 18 = .slice za mz.length zc := hv 18 (by decide)
                obtain ⟨p19, y19, hp19⟩ : AccAt (S mz) kd (vs 19) wx := hv 19 (by decide)
                have y20 : vs 20 = .agg #[.int .i64 (R mz).k, .int .i64 (R mz).n, .int .i64 (R mz).d, .string (R mz).t, .bool (R mz).b, .int .i64 (R mz).f] := hv 20 (by decide)
                obtain ⟨p21, y21, hp21⟩ : FreshV wr.heap.size (vs 21) wx := hv 21 (by decide)
                obtain ⟨p22, y22, hp22⟩ : FreshV wr.heap.size (vs 22) wx := hv 22 (by decide)
                obtain ⟨p23, y23, hp23⟩ : FreshV wr.heap.size (vs 23) wx := hv 23 (by decide)
                have n12 : ¬ p21 = p22 := by intro h; exact hD 21 22 (by decide) (by decide) (by decide) (by decide) (by decide) (by rw [y21, y22, h])
                have n13 : ¬ p21 = p23 := by intro h; exact hD 21 23 (by decide) (by decide) (by decide) (by decide) (by decide) (by rw [y21, y23, h])
                have n23 : ¬ p22 = p23 := by intro h; exact hD 22 23 (by decide) (by decide) (by decide) (by decide) (by decide) (by rw [y22, y23, h])
                clear hD
                clear hv hw
                change wpList _ _ _ _ (Act.put (Act.put (Act.put (Act.put (Act.put (Act.put (Act.put (Act.put (Act.put (Act.put (Act.put (Act.put (Act.put (Act.put (Act.put (Act.put (Act.put (Act.put (Act.put (Act.put (Act.put (Act.put (Act.put (Act.put a (some 92) (vs 0)) (some 93) (vs 1)) (some 94) (vs 2)) (some 95) (vs 3)) (some 96) (vs 4)) (some 97) (vs 5)) (some 98) (vs 6)) (some 99) (vs 7)) (some 100) (vs 8)) (some 101) (vs 9)) (some 102) (vs 10)) (some 103) (vs 11)) (some 104) (vs 12)) (some 105) (vs 13)) (some 106) (vs 14)) (some 107) (vs 15)) (some 108) (vs 16)) (some 109) (vs 17)) (some 110) (vs 18)) (some 111) (vs 19)) (some 112) (vs 20)) (some 13) (vs 21)) (some 14) (vs 22)) (some 15) (vs 23)) _
                rw [y0, y1, y2, y3, y4, y5, y6, y7, y8, y9, y10, y11, y12, y13, y14, y15, y16, y17, y18, y19, y20, y21, y22, y23]
                subst ha
                clear y0 y1 y2 y3 y4 y5 y6 y7 y8 y9 y10 y11 y12 y13 y14 y15 y16 y17 y18 y19 y20 y21 y22 y23
                simp only [List.drop_succ_cons, List.drop_zero]
                have Z1 := hp21.2.blk
                have Z2 := hp22.2.blk
                have Z3 := hp23.2.blk
                have hP := Lib.hid (And.intro hp21.1 (And.intro hp22.1 hp23.1))
                have hbw := HBK.out.trans (hbx.mono HBK.out.size)
                have m12 : ¬ p22 = p21 := fun h => n12 h.symm
                have m13 : ¬ p23 = p21 := fun h => n13 h.symm
                have m23 : ¬ p23 = p22 := fun h => n23 h.symm
                obtain ⟨_, _, _, _, _, _⟩ := Z1.v6
                have f1 := Z1.free
                have l1 := Z1.lt
                have hZ := Lib.hid (And.intro Z1 (And.intro Z2 (And.intro Z3 hbw)))
                clear Z1 Z2 Z3 hbw hp21 hp22 hp23
                refine wpList_cut ?_
                go_wp2
                unfold ThenL
                refine wpList_rebase ?_
                intro wS hb'
                have hbS := hb'.out
                clear hb'
                obtain ⟨Z1, Z2, Z3, hbw⟩ := hZ.out
                have Y1 : Blk wS p21 (vArr (R mx)) 35 := (Blk.cast ((((((Z1.set 0 _).set 1 _).set 2 _).set 3 _).set 4 _).set 5 _) rfl).below hbS
                have Y2 : Blk wS p22 (vArr blankV) 35 := ((((((Z2.set_ne m12 _).set_ne m12 _).set_ne m12 _).set_ne m12 _).set_ne m12 _).set_ne m12 _).below hbS
                have Y3 : Blk wS p23 (vArr blankV) 35 := ((((((Z3.set_ne m13 _).set_ne m13 _).set_ne m13 _).set_ne m13 _).set_ne m13 _).set_ne m13 _).below hbS
                have g1 : wI.heap.size ≤ p21 := by have := hP.out.1; omega
                have g2 : wI.heap.size ≤ p22 := by have := hP.out.2.1; omega
                have g3 : wI.heap.size ≤ p23 := by have := hP.out.2.2; omega
                have hbY := ((((((hbw.setCell g1 _).setCell g1 _).setCell g1 _).setCell g1 _).setCell g1 _).setCell g1 _).trans (hbS.mono (by have := hbw.size; simp only [sz_setCell]; omega))
                clear hZ Z1 Z2 Z3 hbw hbS f1 l1
                obtain ⟨_, _, _, _, _, _⟩ := Y2.v6
                have f2 := Y2.free
                have l2 := Y2.lt
                have hY := Lib.hid (And.intro Y1 (And.intro Y2 (And.intro Y3 hbY)))
                clear Y1 Y2 Y3 hbY
                refine wpList_cut ?_
                go_wp2
                unfold ThenL
                refine wpList_rebase ?_
                intro wT hb'
                have hbS := hb'.out
                clear hb'
                obtain ⟨Y1, Y2, Y3, hbY⟩ := hY.out
                have X1 : Blk wT p21 (vArr (R mx)) 35 := ((((((Y1.set_ne n12 _).set_ne n12 _).set_ne n12 _).set_ne n12 _).set_ne n12 _).set_ne n12 _).below hbS
                have X2 : Blk wT p22 (vArr (R my)) 35 := (Blk.cast ((((((Y2.set 0 _).set 1 _).set 2 _).set 3 _).set 4 _).set 5 _) rfl).below hbS
                have X3 : Blk wT p23 (vArr blankV) 35 := ((((((Y3.set_ne m23 _).set_ne m23 _).set_ne m23 _).set_ne m23 _).set_ne m23 _).set_ne m23 _).below hbS
                have hbX := ((((((hbY.setCell g2 _).setCell g2 _).setCell g2 _).setCell g2 _).setCell g2 _).setCell g2 _).trans (hbS.mono (by have := hbY.size; simp only [sz_setCell]; omega))
                clear hY Y1 Y2 Y3 hbY hbS f2 l2
                obtain ⟨_, _, _, _, _, _⟩ := X3.v6
                have f3 := X3.free
                have l3 := X3.lt
                have hX := Lib.hid (And.intro X1 (And.intro X2 (And.intro X3 hbX)))
                clear X1 X2 X3 hbX
                refine wpList_cut ?_
                go_wp2
                unfold ThenL
                refine wpList_rebase ?_
                intro wU hb'
                have hbS := hb'.out
                clear hb'
                obtain ⟨X1, X2, X3, hbX⟩ := hX.out
                have U1 : Blk wU p21 (vArr (R mx)) 35 := ((((((X1.set_ne n13 _).set_ne n13 _).set_ne n13 _).set_ne n13 _).set_ne n13 _).set_ne n13 _).below hbS
                have U2 : Blk wU p22 (vArr (R my)) 35 := ((((((X2.set_ne n23 _).set_ne n23 _).set_ne n23 _).set_ne n23 _).set_ne n23 _).set_ne n23 _).below hbS
                have U3 : Blk wU p23 (vArr (R mz)) 35 := (Blk.cast ((((((X3.set 0 _).set 1 _).set 2 _).set 3 _).set 4 _).set 5 _) rfl).below hbS
                have hbU := ((((((hbX.setCell g3 _).setCell g3 _).setCell g3 _).setCell g3 _).setCell g3 _).setCell g3 _).trans (hbS.mono (by have := hbX.size; simp only [sz_setCell]; omega))
                clear hX X1 X2 X3 hbX hbS f3 l3
                obtain ⟨_, _, _, _, _, _⟩ := U1.v6
                obtain ⟨_, _, _, _, _, _⟩ := U2.v6
                obtain ⟨_, _, _, _, _, _⟩ := U3.v6
                have hco := ((KOh.out.below hbU).cell k).trans HKo.out
                have lu1 := U1.lt
                have lu2 := U2.lt
                have lu3 := U3.lt
                have luo := (KOh.out.below hbU).lt
                have hU3 := Lib.hid (And.intro U1 (And.intro U2 (And.intro U3 (KOh.out.below hbU))))
                have hUb := Lib.hid hbU
                have hsU := hbU.size
                have hRl := hlZ
                clear hbU
                go_upto_region 23 with (fail)
                by_cases q1 : (R mx).k = 1
                · have e1 : ((R mx).k == 1) = true := by simp [q1]
                  by_cases q2 : (R my).k = 1
                  · have e2 : ((R my).k == 1) = true := by simp [q2]
                    by_cases q3 : (R mz).k = 1
                    · have e3 : ((R mz).k == 1) = true := by simp [q3]
                      have HBn := Lib.hid (HF.out.bin mx my HMX.out HMY.out (by omega) q1 q2 (by rw [← HME.out]; exact q3))
                      rw [← HME.out] at HBn
                      have hv : veq ⟨(R mz).k, (R mz).n, (R mz).d, (R mz).t, (R mz).b, (R mz).f⟩ ⟨(R mz).k, (R mz).n, (R mz).d, (R mz).t, (R mz).b, (R mz).f⟩ = true := veq_true.2 rfl
                      clear q1 q2 q3
                      refine wp_act fun a ha => ?_
                      refine region_each 23 (VQ op k (gi + 1) p21 p22 p23 R mx my mz) (by kernel_rfl) (by kernel_rfl) (VQ.below op k (gi + 1) p21 p22 p23 R mx my mz) ?_ ?_
                      · intro j hj o ho vs wx hw hk
                        have hbx := hw.out
                        have hzx := hbx.size
                        obtain ⟨_, _, _, _, _, _⟩ := (hU3.out.1.below hbx).v6
                        obtain ⟨_, _, _, _, _, _⟩ := (hU3.out.2.1.below hbx).v6
                        obtain ⟨_, _, _, _, _, _⟩ := (hU3.out.2.2.1.below hbx).v6
                        have hco := ((hU3.out.2.2.2.below hbx).cell k).trans HKo.out
                        rcases j with _ | _ | _ | _ | _ | _ | _ | _ | _ | _ | _ | _ | _ | _ | _ | _ | _ | _ | _ | _ | _ | _ | _ | j
                        · obtain rfl : _ = o := Option.some.inj ho
                          clear ho hk
                          change wpList _ _ (OneQ _ a _) _ a _
                          subst ha
                          go_wp2
                          exact ⟨_, rfl, Below.refl _ _, by first | rfl | (simp [veq_true.2, VQ]; done)⟩
                        · obtain rfl : _ = o := Option.some.inj ho
                          have y0 : vs 0 = .pointer (some ⟨p21, 0, none⟩) := hk 0 (by decide) rfl
                          clear ho hk
                          change wpList _ _ (OneQ _ (Act.put a (some 113) (vs 0)) _) _ (Act.put a (some 113) (vs 0)) _
                          rw [y0]
                          subst ha
                          go_wp2
                          exact ⟨_, rfl, Below.refl _ _, by first | rfl | (simp [veq_true.2, VQ]; done)⟩
                        · obtain rfl : _ = o := Option.some.inj ho
                          have y1 : vs 1 = .int .i64 (R mx).k := hk 1 (by decide) rfl
                          clear ho hk
                          change wpList _ _ (OneQ _ (Act.put a (some 114) (vs 1)) _) _ (Act.put a (some 114) (vs 1)) _
                          rw [y1]
                          subst ha
                          go_wp2
                          exact ⟨_, rfl, Below.refl _ _, by first | rfl | (simp [veq_true.2, VQ]; done)⟩
                        · obtain rfl : _ = o := Option.some.inj ho
                          have y2 : vs 2 = .bool true := hk 2 (by decide) rfl
                          clear ho hk
                          change wpList _ _ (OneQ _ (Act.put a (some 115) (vs 2)) _) _ (Act.put a (some 115) (vs 2)) _
                          rw [y2]
                          subst ha
                          go_wp2
                          exact ⟨_, rfl, Below.refl _ _, by first | rfl | (simp [veq_true.2, VQ]; done)⟩
                        · obtain rfl : _ = o := Option.some.inj ho
                          have y3 : vs 3 = .bool true := hk 3 (by decide) rfl
                          clear ho hk
                          change wpList _ _ (OneQ _ (Act.put a (some 116) (vs 3)) _) _ (Act.put a (some 116) (vs 3)) _
                          rw [y3]
                          subst ha
                          go_wp2
                          exact ⟨_, rfl, Below.refl _ _, by first | rfl | (simp [veq_true.2, VQ]; done)⟩
                        · obtain rfl : _ = o := Option.some.inj ho
                          have y3 : vs 3 = .bool true := hk 3 (by decide) rfl
                          have y4 : vs 4 = .pointer (some ⟨p22, 0, none⟩) := hk 4 (by decide) rfl
                          clear ho hk
                          change wpList _ _ (OneQ _ (Act.put (Act.put a (some 116) (vs 3)) (some 117) (vs 4)) _) _ (Act.put (Act.put a (some 116) (vs 3)) (some 117) (vs 4)) _
                          rw [y3, y4]
                          subst ha
                          go_wp2
                          exact ⟨_, rfl, Below.refl _ _, by first | rfl | (simp [veq_true.2, VQ]; done)⟩
                        · obtain rfl : _ = o := Option.some.inj ho
                          have y3 : vs 3 = .bool true := hk 3 (by decide) rfl
                          have y5 : vs 5 = .int .i64 (R my).k := hk 5 (by decide) rfl
                          clear ho hk
                          change wpList _ _ (OneQ _ (Act.put (Act.put a (some 116) (vs 3)) (some 118) (vs 5)) _) _ (Act.put (Act.put a (some 116) (vs 3)) (some 118) (vs 5)) _
                          rw [y3, y5]
                          subst ha
                          go_wp2
                          exact ⟨_, rfl, Below.refl _ _, by first | rfl | (simp [veq_true.2, VQ]; done)⟩
                        · obtain rfl : _ = o := Option.some.inj ho
                          have y3 : vs 3 = .bool true := hk 3 (by decide) rfl
                          have y6 : vs 6 = .bool true := hk 6 (by decide) rfl
                          clear ho hk
                          change wpList _ _ (OneQ _ (Act.put (Act.put a (some 116) (vs 3)) (some 119) (vs 6)) _) _ (Act.put (Act.put a (some 116) (vs 3)) (some 119) (vs 6)) _
                          rw [y3, y6]
                          subst ha
                          go_wp2
                          exact ⟨_, rfl, Below.refl _ _, by first | rfl | (simp [veq_true.2, VQ]; done)⟩
                        · obtain rfl : _ = o := Option.some.inj ho
                          have y7 : vs 7 = .bool true := hk 7 (by decide) rfl
                          clear ho hk
                          change wpList _ _ (OneQ _ (Act.put a (some 120) (vs 7)) _) _ (Act.put a (some 120) (vs 7)) _
                          rw [y7]
                          subst ha
                          go_wp2
                          exact ⟨_, rfl, Below.refl _ _, by first | rfl | (simp [veq_true.2, VQ]; done)⟩
                        · obtain rfl : _ = o := Option.some.inj ho
                          have y8 : vs 8 = .bool true := hk 8 (by decide) rfl
                          clear ho hk
                          change wpList _ _ (OneQ _ (Act.put a (some 121) (vs 8)) _) _ (Act.put a (some 121) (vs 8)) _
                          rw [y8]
                          subst ha
                          go_wp2
                          exact ⟨_, rfl, Below.refl _ _, by first | rfl | (simp [veq_true.2, VQ]; done)⟩
                        · obtain rfl : _ = o := Option.some.inj ho
                          have y8 : vs 8 = .bool true := hk 8 (by decide) rfl
                          have y9 : vs 9 = .pointer (some ⟨p23, 0, none⟩) := hk 9 (by decide) rfl
                          clear ho hk
                          change wpList _ _ (OneQ _ (Act.put (Act.put a (some 121) (vs 8)) (some 122) (vs 9)) _) _ (Act.put (Act.put a (some 121) (vs 8)) (some 122) (vs 9)) _
                          rw [y8, y9]
                          subst ha
                          go_wp2
                          exact ⟨_, rfl, Below.refl _ _, by first | rfl | (simp [veq_true.2, VQ]; done)⟩
                        · obtain rfl : _ = o := Option.some.inj ho
                          have y8 : vs 8 = .bool true := hk 8 (by decide) rfl
                          have y10 : vs 10 = .int .i64 (R mz).k := hk 10 (by decide) rfl
                          clear ho hk
                          change wpList _ _ (OneQ _ (Act.put (Act.put a (some 121) (vs 8)) (some 123) (vs 10)) _) _ (Act.put (Act.put a (some 121) (vs 8)) (some 123) (vs 10)) _
                          rw [y8, y10]
                          subst ha
                          go_wp2
                          exact ⟨_, rfl, Below.refl _ _, by first | rfl | (simp [veq_true.2, VQ]; done)⟩
                        · obtain rfl : _ = o := Option.some.inj ho
                          have y8 : vs 8 = .bool true := hk 8 (by decide) rfl
                          have y11 : vs 11 = .bool true := hk 11 (by decide) rfl
                          clear ho hk
                          change wpList _ _ (OneQ _ (Act.put (Act.put a (some 121) (vs 8)) (some 124) (vs 11)) _) _ (Act.put (Act.put a (some 121) (vs 8)) (some 124) (vs 11)) _
                          rw [y8, y11]
                          subst ha
                          go_wp2
                          exact ⟨_, rfl, Below.refl _ _, by first | rfl | (simp [veq_true.2, VQ]; done)⟩
                        · obtain rfl : _ = o := Option.some.inj ho
                          have y12 : vs 12 = .bool true := hk 12 (by decide) rfl
                          clear ho hk
                          change wpList _ _ (OneQ _ (Act.put a (some 125) (vs 12)) _) _ (Act.put a (some 125) (vs 12)) _
                          rw [y12]
                          subst ha
                          go_wp2
                          exact ⟨_, rfl, Below.refl _ _, by first | rfl | (simp [veq_true.2, VQ]; done)⟩
                        · obtain rfl : _ = o := Option.some.inj ho
                          have y13 : vs 13 = .bool true := hk 13 (by decide) rfl
                          clear ho hk
                          change wpList _ _ (OneQ _ (Act.put a (some 126) (vs 13)) _) _ (Act.put a (some 126) (vs 13)) _
                          rw [y13]
                          subst ha
                          go_wp2
                          exact ⟨_, rfl, Below.refl _ _, by first | rfl | (simp [veq_true.2, VQ]; done)⟩
                        · obtain rfl : _ = o := Option.some.inj ho
                          have y13 : vs 13 = .bool true := hk 13 (by decide) rfl
                          clear ho hk
                          change wpList _ _ (OneQ _ (Act.put a (some 126) (vs 13)) _) _ (Act.put a (some 126) (vs 13)) _
                          rw [y13]
                          subst ha
                          go_wp2
                          exact ⟨_, rfl, Below.refl _ _, by first | rfl | (simp [veq_true.2, VQ]; done)⟩
                        · obtain rfl : _ = o := Option.some.inj ho
                          have y13 : vs 13 = .bool true := hk 13 (by decide) rfl
                          have y14 : vs 14 = .slice (some ⟨gi + 1, 0, none⟩) 4 4 := hk 14 (by decide) rfl
                          have y15 : vs 15 = .int .i64 k := hk 15 (by decide) rfl
                          clear ho hk
                          change wpList _ _ (OneQ _ (Act.put (Act.put (Act.put a (some 126) (vs 13)) (some 127) (vs 14)) (some 128) (vs 15)) _) _ (Act.put (Act.put (Act.put a (some 126) (vs 13)) (some 127) (vs 14)) (some 128) (vs 15)) _
                          rw [y13, y14, y15]
                          subst ha
                          go_wp2
                          exact ⟨_, rfl, Below.refl _ _, by first | rfl | (simp [veq_true.2, VQ]; done)⟩
                        · obtain rfl : _ = o := Option.some.inj ho
                          have y13 : vs 13 = .bool true := hk 13 (by decide) rfl
                          have y16 : vs 16 = .pointer (some ⟨gi + 1, k, none⟩) := hk 16 (by decide) rfl
                          clear ho hk
                          change wpList _ _ (OneQ _ (Act.put (Act.put a (some 126) (vs 13)) (some 129) (vs 16)) _) _ (Act.put (Act.put a (some 126) (vs 13)) (some 129) (vs 16)) _
                          rw [y13, y16]
                          subst ha
                          go_wp2
                          exact ⟨_, rfl, Below.refl _ _, by first | rfl | (simp [veq_true.2, VQ]; done)⟩
                        · obtain rfl : _ = o := Option.some.inj ho
                          have y13 : vs 13 = .bool true := hk 13 (by decide) rfl
                          clear ho hk
                          change wpList _ _ (OneQ _ (Act.put a (some 126) (vs 13)) _) _ (Act.put a (some 126) (vs 13)) _
                          rw [y13]
                          subst ha
                          go_wp2
                          exact ⟨_, rfl, Below.refl _ _, by first | rfl | (simp [veq_true.2, VQ]; done)⟩
                        · obtain rfl : _ = o := Option.some.inj ho
                          have y13 : vs 13 = .bool true := hk 13 (by decide) rfl
                          clear ho hk
                          change wpList _ _ (OneQ _ (Act.put a (some 126) (vs 13)) _) _ (Act.put a (some 126) (vs 13)) _
                          rw [y13]
                          subst ha
                          go_wp2
                          exact ⟨_, rfl, Below.refl _ _, by first | rfl | (simp [veq_true.2, VQ]; done)⟩
                        · obtain rfl : _ = o := Option.some.inj ho
                          have y13 : vs 13 = .bool true := hk 13 (by decide) rfl
                          have y17 : vs 17 = .int .i64 op := hk 17 (by decide) rfl
                          have y18 : vs 18 = .agg #[.int .i64 (R mx).k, .int .i64 (R mx).n, .int .i64 (R mx).d, .string (R mx).t, .bool (R mx).b, .int .i64 (R mx).f] := hk 18 (by decide) rfl
                          have y19 : vs 19 = .agg #[.int .i64 (R my).k, .int .i64 (R my).n, .int .i64 (R my).d, .string (R my).t, .bool (R my).b, .int .i64 (R my).f] := hk 19 (by decide) rfl
                          clear ho hk
                          change wpList _ _ (OneQ _ (Act.put (Act.put (Act.put (Act.put a (some 126) (vs 13)) (some 130) (vs 17)) (some 131) (vs 18)) (some 132) (vs 19)) _) _ (Act.put (Act.put (Act.put (Act.put a (some 126) (vs 13)) (some 130) (vs 17)) (some 131) (vs 18)) (some 132) (vs 19)) _
                          rw [y13, y17, y18, y19]
                          subst ha
                          go_wp2_with fail
                          refine (HBn.out _).mono ?_
                          rintro e w' ⟨rfl, hb'⟩
                          go_wp2
                          exact ⟨_, rfl, hb', by first | rfl | (simp [VQ]; done)⟩
                        · obtain rfl : _ = o := Option.some.inj ho
                          have y13 : vs 13 = .bool true := hk 13 (by decide) rfl
                          clear ho hk
                          change wpList _ _ (OneQ _ (Act.put a (some 126) (vs 13)) _) _ (Act.put a (some 126) (vs 13)) _
                          rw [y13]
                          subst ha
                          go_wp2
                          exact ⟨_, rfl, Below.refl _ _, by first | rfl | (simp [veq_true.2, VQ]; done)⟩
                        · obtain rfl : _ = o := Option.some.inj ho
                          have y13 : vs 13 = .bool true := hk 13 (by decide) rfl
                          have y20 : vs 20 = .agg #[.int .i64 (R mz).k, .int .i64 (R mz).n, .int .i64 (R mz).d, .string (R mz).t, .bool (R mz).b, .int .i64 (R mz).f] := hk 20 (by decide) rfl
                          have y21 : vs 21 = .agg #[.int .i64 (R mz).k, .int .i64 (R mz).n, .int .i64 (R mz).d, .string (R mz).t, .bool (R mz).b, .int .i64 (R mz).f] := hk 21 (by decide) rfl
                          clear ho hk
                          change wpList _ _ (OneQ _ (Act.put (Act.put (Act.put a (some 126) (vs 13)) (some 133) (vs 20)) (some 134) (vs 21)) _) _ (Act.put (Act.put (Act.put a (some 126) (vs 13)) (some 133) (vs 20)) (some 134) (vs 21)) _
                          rw [y13, y20, y21]
                          subst ha
                          go_wp2
                          exact ⟨_, rfl, Below.refl _ _, by first | rfl | (simp [veq_true.2, VQ]; done)⟩
                        · omega
                      · intro vs wx hw hv
                        have hbx := hw.out
                        have y0 : vs 0 = .pointer (some ⟨p21, 0, none⟩) := hv 0 (by decide)
                        have y1 : vs 1 = .int .i64 (R mx).k := hv 1 (by decide)
                        have y2 : vs 2 = .bool true := hv 2 (by decide)
                        have y3 : vs 3 = .bool true := hv 3 (by decide)
                        have y4 : vs 4 = .pointer (some ⟨p22, 0, none⟩) := hv 4 (by decide)
                        have y5 : vs 5 = .int .i64 (R my).k := hv 5 (by decide)
                        have y6 : vs 6 = .bool true := hv 6 (by decide)
                        have y7 : vs 7 = .bool true := hv 7 (by decide)
                        have y8 : vs 8 = .bool true := hv 8 (by decide)
                        have y9 : vs 9 = .pointer (some ⟨p23, 0, none⟩) := hv 9 (by decide)
                        have y10 : vs 10 = .int .i64 (R mz).k := hv 10 (by decide)
                        have y11 : vs 11 = .bool true := hv 11 (by decide)
                        have y12 : vs 12 = .bool true := hv 12 (by decide)
                        have y13 : vs 13 = .bool true := hv 13 (by decide)
                        have y14 : vs 14 = .slice (some ⟨gi + 1, 0, none⟩) 4 4 := hv 14 (by decide)
                        have y15 : vs 15 = .int .i64 k := hv 15 (by decide)
                        have y16 : vs 16 = .pointer (some ⟨gi + 1, k, none⟩) := hv 16 (by decide)
                        have y17 : vs 17 = .int .i64 op := hv 17 (by decide)
                        have y18 : vs 18 = .agg #[.int .i64 (R mx).k, .int .i64 (R mx).n, .int .i64 (R mx).d, .string (R mx).t, .bool (R mx).b, .int .i64 (R mx).f] := hv 18 (by decide)
                        have y19 : vs 19 = .agg #[.int .i64 (R my).k, .int .i64 (R my).n, .int .i64 (R my).d, .string (R my).t, .bool (R my).b, .int .i64 (R my).f] := hv 19 (by decide)
                        have y20 : vs 20 = .agg #[.int .i64 (R mz).k, .int .i64 (R mz).n, .int .i64 (R mz).d, .string (R mz).t, .bool (R mz).b, .int .i64 (R mz).f] := hv 20 (by decide)
                        have y21 : vs 21 = .agg #[.int .i64 (R mz).k, .int .i64 (R mz).n, .int .i64 (R mz).d, .string (R mz).t, .bool (R mz).b, .int .i64 (R mz).f] := hv 21 (by decide)
                        have y22 : vs 22 = .bool false := hv 22 (by decide)
                        clear hv hw
                        change wpList _ _ _ _ (Act.put (Act.put (Act.put (Act.put (Act.put (Act.put (Act.put (Act.put (Act.put (Act.put (Act.put (Act.put (Act.put (Act.put (Act.put (Act.put (Act.put (Act.put (Act.put (Act.put (Act.put (Act.put (Act.put a (some 113) (vs 0)) (some 114) (vs 1)) (some 115) (vs 2)) (some 116) (vs 3)) (some 117) (vs 4)) (some 118) (vs 5)) (some 119) (vs 6)) (some 120) (vs 7)) (some 121) (vs 8)) (some 122) (vs 9)) (some 123) (vs 10)) (some 124) (vs 11)) (some 125) (vs 12)) (some 126) (vs 13)) (some 127) (vs 14)) (some 128) (vs 15)) (some 129) (vs 16)) (some 130) (vs 17)) (some 131) (vs 18)) (some 132) (vs 19)) (some 133) (vs 20)) (some 134) (vs 21)) (some 135) (vs 22)) _
                        rw [y0, y1, y2, y3, y4, y5, y6, y7, y8, y9, y10, y11, y12, y13, y14, y15, y16, y17, y18, y19, y20, y21, y22]
                        subst ha
                        clear y0 y1 y2 y3 y4 y5 y6 y7 y8 y9 y10 y11 y12 y13 y14 y15 y16 y17 y18 y19 y20 y21 y22
                        simp only [List.drop_succ_cons, List.drop_zero]
                        have hbV := Lib.hid (hUb.out.trans (hbx.mono hUb.out.size))
                        go_wp2
                        go_roundw
                        case rel => exact ⟨k + 1, by omega, by go_num, hbV.out⟩
                        case measure => simp [intOf]; omega
                    · have e3 : ((R mz).k == 1) = false := by simp [q3]
                      clear q1 q2 q3
                      go_quiet (fail)
                      go_wp2
                      go_roundw
                      case rel => exact ⟨k + 1, by omega, by go_num, below_drewN hUb.out _⟩
                      case measure => simp [intOf]; omega
                  · have e2 : ((R my).k == 1) = false := by simp [q2]
                    clear q1 q2
                    go_quiet (fail)
                    go_wp2
                    go_roundw
                    case rel => exact ⟨k + 1, by omega, by go_num, below_drewN hUb.out _⟩
                    case measure => simp [intOf]; omega
                · have e1 : ((R mx).k == 1) = false := by simp [q1]
                  clear q1
                  go_quiet (fail)
                  go_wp2
                  go_roundw
                  case rel => exact ⟨k + 1, by omega, by go_num, below_drewN hUb.out _⟩
                  case measure => simp [intOf]; omega
            · obtain rfl : k = 4 := by omega
              have hfld := field_true
              have B0 := Lib.hid hbk
              have F8x := Lib.hid fun wx (h : RowAt wx xa mx) => law_foldG fold8 mx HMX.out xa mx.length xc rfl (by omega) wx h
              have R8x := Lib.hid fun p wx h => res8' mx p wx h
              have F8y := Lib.hid fun wx (h : RowAt wx ya my) => law_foldG fold8 my HMY.out ya my.length yc rfl (by omega) wx h
              have R8y := Lib.hid fun p wx h => res8' my p wx h
              have F8z := Lib.hid fun wx (h : RowAt wx za mz) => law_foldG fold8 mz HMZ.out za mz.length zc rfl (by omega) wx h
              have R8z := Lib.hid fun p wx h => res8' mz p wx h
              have F9x := Lib.hid fun wx (h : RowAt wx xa mx) => law_foldG fold9 mx HMX.out xa mx.length xc rfl (by omega) wx h
              have R9x := Lib.hid fun p wx h => res9' mx p wx h
              have F9y := Lib.hid fun wx (h : RowAt wx ya my) => law_foldG fold9 my HMY.out ya my.length yc rfl (by omega) wx h
              have R9y := Lib.hid fun p wx h => res9' my p wx h
              have F9z := Lib.hid fun wx (h : RowAt wx za mz) => law_foldG fold9 mz HMZ.out za mz.length zc rfl (by omega) wx h
              have R9z := Lib.hid fun p wx h => res9' mz p wx h
              have F10x := Lib.hid fun wx (h : RowAt wx xa mx) => law_foldG fold10 mx HMX.out xa mx.length xc rfl (by omega) wx h
              have R10x := Lib.hid fun p wx h => res10' mx (by omega) p wx h
              have F10y := Lib.hid fun wx (h : RowAt wx ya my) => law_foldG fold10 my HMY.out ya my.length yc rfl (by omega) wx h
              have R10y := Lib.hid fun p wx h => res10' my (by omega) p wx h
              have F10z := Lib.hid fun wx (h : RowAt wx za mz) => law_foldG fold10 mz HMZ.out za mz.length zc rfl (by omega) wx h
              have R10z := Lib.hid fun p wx h => res10' mz (by omega) p wx h
              have ha : andB mz = (andB mx && andB my) := by rw [HME.out]; exact and_parts mx my
              have ho : orB mz = (orB mx || orB my) := by rw [HME.out]; exact or_parts mx my
              have hx : xorB mz = (xorB mx != xorB my) := by rw [HME.out]; exact xor_parts mx my
              rw [ha] at R8z
              rw [ho] at R9z
              rw [hx] at R10z
              clear ha ho hx hbk RX RY RZ
              generalize andB mx = p1 at *
              generalize andB my = p2 at *
              generalize orB mx = q1 at *
              generalize orB my = q2 at *
              generalize xorB mx = x1 at *
              generalize xorB my = x2 at *
              have hvv : ∀ b : Bool, veq ⟨3, 0, 0, ⟨#[]⟩, b, 0⟩ ⟨3, 0, 0, ⟨#[]⟩, b, 0⟩ = true := fun b => veq_true.2 rfl
              have HVV := Lib.hid hvv
              clear hvv
              go_wp2_with fail
              refine (F8x.out _ (RXI.out.below B0.out)).mono ?_
              rintro e wa1 ⟨rfl, A1, hb1⟩
              go_wp2_with fail
              refine (R8x.out _ _ A1).mono ?_
              rintro e wb1 ⟨rfl, hb2⟩
              have B1 := Lib.hid (B0.out.trans ((hb1.trans (hb2.mono hb1.size)).mono B0.out.size))
              clear A1 hb1 hb2
              cases p1
              · simp only [Bool.false_and] at R8z
                go_wp2_with fail
                refine (F9x.out _ (RXI.out.below B1.out)).mono ?_
                rintro e wa2 ⟨rfl, A1, hb1⟩
                go_wp2_with fail
                refine (R9x.out _ _ A1).mono ?_
                rintro e wb2 ⟨rfl, hb2⟩
                have B2 := Lib.hid (B1.out.trans ((hb1.trans (hb2.mono hb1.size)).mono B1.out.size))
                clear A1 hb1 hb2
                cases q1
                · simp only [Bool.false_or] at R9z
                  go_wp2_with fail
                  refine (F9y.out _ (RYI.out.below B2.out)).mono ?_
                  rintro e wa3 ⟨rfl, A1, hb1⟩
                  go_wp2_with fail
                  refine (R9y.out _ _ A1).mono ?_
                  rintro e wb3 ⟨rfl, hb2⟩
                  have B3 := Lib.hid (B2.out.trans ((hb1.trans (hb2.mono hb1.size)).mono B2.out.size))
                  clear A1 hb1 hb2
                  go_wp2_with fail
                  refine (F10x.out _ (RXI.out.below B3.out)).mono ?_
                  rintro e wa4 ⟨rfl, A1, hb1⟩
                  go_wp2_with fail
                  refine (R10x.out _ _ A1).mono ?_
                  rintro e wb4 ⟨rfl, hb2⟩
                  have B4 := Lib.hid (B3.out.trans ((hb1.trans (hb2.mono hb1.size)).mono B3.out.size))
                  clear A1 hb1 hb2
                  go_wp2_with fail
                  refine (F10y.out _ (RYI.out.below B4.out)).mono ?_
                  rintro e wa5 ⟨rfl, A1, hb1⟩
                  go_wp2_with fail
                  refine (R10y.out _ _ A1).mono ?_
                  rintro e wb5 ⟨rfl, hb2⟩
                  have B5 := Lib.hid (B4.out.trans ((hb1.trans (hb2.mono hb1.size)).mono B4.out.size))
                  clear A1 hb1 hb2
                  go_wp2_with fail
                  refine (F8z.out _ (RZI.out.below B5.out)).mono ?_
                  rintro e wa6 ⟨rfl, A1, hb1⟩
                  go_wp2_with fail
                  refine (R8z.out _ _ A1).mono ?_
                  rintro e wb6 ⟨rfl, hb2⟩
                  have B6 := Lib.hid (B5.out.trans ((hb1.trans (hb2.mono hb1.size)).mono B5.out.size))
                  clear A1 hb1 hb2
                  have v1 := HVV.out false
                  have v2 := HVV.out q2
                  have v3 := HVV.out (x1 != x2)
                  go_wp2_with fail
                  refine (truth' false _).mono ?_
                  rintro e wb7 ⟨rfl, hb2⟩
                  have B7 := Lib.hid (B6.out.trans (hb2.mono B6.out.size))
                  clear hb2
                  go_wp2_with fail
                  refine (F9z.out _ (RZI.out.below B7.out)).mono ?_
                  rintro e wa8 ⟨rfl, A1, hb1⟩
                  go_wp2_with fail
                  refine (R9z.out _ _ A1).mono ?_
                  rintro e wb8 ⟨rfl, hb2⟩
                  have B8 := Lib.hid (B7.out.trans ((hb1.trans (hb2.mono hb1.size)).mono B7.out.size))
                  clear A1 hb1 hb2
                  go_wp2_with fail
                  refine (truth' q2 _).mono ?_
                  rintro e wb9 ⟨rfl, hb2⟩
                  have B9 := Lib.hid (B8.out.trans (hb2.mono B8.out.size))
                  clear hb2
                  go_wp2_with fail
                  refine (F10z.out _ (RZI.out.below B9.out)).mono ?_
                  rintro e wa10 ⟨rfl, A1, hb1⟩
                  go_wp2_with fail
                  refine (R10z.out _ _ A1).mono ?_
                  rintro e wb10 ⟨rfl, hb2⟩
                  have B10 := Lib.hid (B9.out.trans ((hb1.trans (hb2.mono hb1.size)).mono B9.out.size))
                  clear A1 hb1 hb2
                  go_wp2_with fail
                  refine (truth' (x1 != x2) _).mono ?_
                  rintro e wb11 ⟨rfl, hb2⟩
                  have B11 := Lib.hid (B10.out.trans (hb2.mono B10.out.size))
                  clear hb2
                  go_wp2
                  go_ret
                  exact ⟨rfl, HBI.out.trans (B11.out.mono hsI)⟩
                · simp only [Bool.true_or] at R9z
                  go_wp2_with fail
                  refine (F10x.out _ (RXI.out.below B2.out)).mono ?_
                  rintro e wa12 ⟨rfl, A1, hb1⟩
                  go_wp2_with fail
                  refine (R10x.out _ _ A1).mono ?_
                  rintro e wb12 ⟨rfl, hb2⟩
                  have B12 := Lib.hid (B2.out.trans ((hb1.trans (hb2.mono hb1.size)).mono B2.out.size))
                  clear A1 hb1 hb2
                  go_wp2_with fail
                  refine (F10y.out _ (RYI.out.below B12.out)).mono ?_
                  rintro e wa13 ⟨rfl, A1, hb1⟩
                  go_wp2_with fail
                  refine (R10y.out _ _ A1).mono ?_
                  rintro e wb13 ⟨rfl, hb2⟩
                  have B13 := Lib.hid (B12.out.trans ((hb1.trans (hb2.mono hb1.size)).mono B12.out.size))
                  clear A1 hb1 hb2
                  go_wp2_with fail
                  refine (F8z.out _ (RZI.out.below B13.out)).mono ?_
                  rintro e wa14 ⟨rfl, A1, hb1⟩
                  go_wp2_with fail
                  refine (R8z.out _ _ A1).mono ?_
                  rintro e wb14 ⟨rfl, hb2⟩
                  have B14 := Lib.hid (B13.out.trans ((hb1.trans (hb2.mono hb1.size)).mono B13.out.size))
                  clear A1 hb1 hb2
                  have v1 := HVV.out false
                  have v2 := HVV.out true
                  have v3 := HVV.out (x1 != x2)
                  go_wp2_with fail
                  refine (truth' false _).mono ?_
                  rintro e wb15 ⟨rfl, hb2⟩
                  have B15 := Lib.hid (B14.out.trans (hb2.mono B14.out.size))
                  clear hb2
                  go_wp2_with fail
                  refine (F9z.out _ (RZI.out.below B15.out)).mono ?_
                  rintro e wa16 ⟨rfl, A1, hb1⟩
                  go_wp2_with fail
                  refine (R9z.out _ _ A1).mono ?_
                  rintro e wb16 ⟨rfl, hb2⟩
                  have B16 := Lib.hid (B15.out.trans ((hb1.trans (hb2.mono hb1.size)).mono B15.out.size))
                  clear A1 hb1 hb2
                  go_wp2_with fail
                  refine (truth' true _).mono ?_
                  rintro e wb17 ⟨rfl, hb2⟩
                  have B17 := Lib.hid (B16.out.trans (hb2.mono B16.out.size))
                  clear hb2
                  go_wp2_with fail
                  refine (F10z.out _ (RZI.out.below B17.out)).mono ?_
                  rintro e wa18 ⟨rfl, A1, hb1⟩
                  go_wp2_with fail
                  refine (R10z.out _ _ A1).mono ?_
                  rintro e wb18 ⟨rfl, hb2⟩
                  have B18 := Lib.hid (B17.out.trans ((hb1.trans (hb2.mono hb1.size)).mono B17.out.size))
                  clear A1 hb1 hb2
                  go_wp2_with fail
                  refine (truth' (x1 != x2) _).mono ?_
                  rintro e wb19 ⟨rfl, hb2⟩
                  have B19 := Lib.hid (B18.out.trans (hb2.mono B18.out.size))
                  clear hb2
                  go_wp2
                  go_ret
                  exact ⟨rfl, HBI.out.trans (B19.out.mono hsI)⟩
              · simp only [Bool.true_and] at R8z
                go_wp2_with fail
                refine (F8y.out _ (RYI.out.below B1.out)).mono ?_
                rintro e wa20 ⟨rfl, A1, hb1⟩
                go_wp2_with fail
                refine (R8y.out _ _ A1).mono ?_
                rintro e wb20 ⟨rfl, hb2⟩
                have B20 := Lib.hid (B1.out.trans ((hb1.trans (hb2.mono hb1.size)).mono B1.out.size))
                clear A1 hb1 hb2
                go_wp2_with fail
                refine (F9x.out _ (RXI.out.below B20.out)).mono ?_
                rintro e wa21 ⟨rfl, A1, hb1⟩
                go_wp2_with fail
                refine (R9x.out _ _ A1).mono ?_
                rintro e wb21 ⟨rfl, hb2⟩
                have B21 := Lib.hid (B20.out.trans ((hb1.trans (hb2.mono hb1.size)).mono B20.out.size))
                clear A1 hb1 hb2
                cases q1
                · simp only [Bool.false_or] at R9z
                  go_wp2_with fail
                  refine (F9y.out _ (RYI.out.below B21.out)).mono ?_
                  rintro e wa22 ⟨rfl, A1, hb1⟩
                  go_wp2_with fail
                  refine (R9y.out _ _ A1).mono ?_
                  rintro e wb22 ⟨rfl, hb2⟩
                  have B22 := Lib.hid (B21.out.trans ((hb1.trans (hb2.mono hb1.size)).mono B21.out.size))
                  clear A1 hb1 hb2
                  go_wp2_with fail
                  refine (F10x.out _ (RXI.out.below B22.out)).mono ?_
                  rintro e wa23 ⟨rfl, A1, hb1⟩
                  go_wp2_with fail
                  refine (R10x.out _ _ A1).mono ?_
                  rintro e wb23 ⟨rfl, hb2⟩
                  have B23 := Lib.hid (B22.out.trans ((hb1.trans (hb2.mono hb1.size)).mono B22.out.size))
                  clear A1 hb1 hb2
                  go_wp2_with fail
                  refine (F10y.out _ (RYI.out.below B23.out)).mono ?_
                  rintro e wa24 ⟨rfl, A1, hb1⟩
                  go_wp2_with fail
                  refine (R10y.out _ _ A1).mono ?_
                  rintro e wb24 ⟨rfl, hb2⟩
                  have B24 := Lib.hid (B23.out.trans ((hb1.trans (hb2.mono hb1.size)).mono B23.out.size))
                  clear A1 hb1 hb2
                  go_wp2_with fail
                  refine (F8z.out _ (RZI.out.below B24.out)).mono ?_
                  rintro e wa25 ⟨rfl, A1, hb1⟩
                  go_wp2_with fail
                  refine (R8z.out _ _ A1).mono ?_
                  rintro e wb25 ⟨rfl, hb2⟩
                  have B25 := Lib.hid (B24.out.trans ((hb1.trans (hb2.mono hb1.size)).mono B24.out.size))
                  clear A1 hb1 hb2
                  have v1 := HVV.out p2
                  have v2 := HVV.out q2
                  have v3 := HVV.out (x1 != x2)
                  go_wp2_with fail
                  refine (truth' p2 _).mono ?_
                  rintro e wb26 ⟨rfl, hb2⟩
                  have B26 := Lib.hid (B25.out.trans (hb2.mono B25.out.size))
                  clear hb2
                  go_wp2_with fail
                  refine (F9z.out _ (RZI.out.below B26.out)).mono ?_
                  rintro e wa27 ⟨rfl, A1, hb1⟩
                  go_wp2_with fail
                  refine (R9z.out _ _ A1).mono ?_
                  rintro e wb27 ⟨rfl, hb2⟩
                  have B27 := Lib.hid (B26.out.trans ((hb1.trans (hb2.mono hb1.size)).mono B26.out.size))
                  clear A1 hb1 hb2
                  go_wp2_with fail
                  refine (truth' q2 _).mono ?_
                  rintro e wb28 ⟨rfl, hb2⟩
                  have B28 := Lib.hid (B27.out.trans (hb2.mono B27.out.size))
                  clear hb2
                  go_wp2_with fail
                  refine (F10z.out _ (RZI.out.below B28.out)).mono ?_
                  rintro e wa29 ⟨rfl, A1, hb1⟩
                  go_wp2_with fail
                  refine (R10z.out _ _ A1).mono ?_
                  rintro e wb29 ⟨rfl, hb2⟩
                  have B29 := Lib.hid (B28.out.trans ((hb1.trans (hb2.mono hb1.size)).mono B28.out.size))
                  clear A1 hb1 hb2
                  go_wp2_with fail
                  refine (truth' (x1 != x2) _).mono ?_
                  rintro e wb30 ⟨rfl, hb2⟩
                  have B30 := Lib.hid (B29.out.trans (hb2.mono B29.out.size))
                  clear hb2
                  go_wp2
                  go_ret
                  exact ⟨rfl, HBI.out.trans (B30.out.mono hsI)⟩
                · simp only [Bool.true_or] at R9z
                  go_wp2_with fail
                  refine (F10x.out _ (RXI.out.below B21.out)).mono ?_
                  rintro e wa31 ⟨rfl, A1, hb1⟩
                  go_wp2_with fail
                  refine (R10x.out _ _ A1).mono ?_
                  rintro e wb31 ⟨rfl, hb2⟩
                  have B31 := Lib.hid (B21.out.trans ((hb1.trans (hb2.mono hb1.size)).mono B21.out.size))
                  clear A1 hb1 hb2
                  go_wp2_with fail
                  refine (F10y.out _ (RYI.out.below B31.out)).mono ?_
                  rintro e wa32 ⟨rfl, A1, hb1⟩
                  go_wp2_with fail
                  refine (R10y.out _ _ A1).mono ?_
                  rintro e wb32 ⟨rfl, hb2⟩
                  have B32 := Lib.hid (B31.out.trans ((hb1.trans (hb2.mono hb1.size)).mono B31.out.size))
                  clear A1 hb1 hb2
                  go_wp2_with fail
                  refine (F8z.out _ (RZI.out.below B32.out)).mono ?_
                  rintro e wa33 ⟨rfl, A1, hb1⟩
                  go_wp2_with fail
                  refine (R8z.out _ _ A1).mono ?_
                  rintro e wb33 ⟨rfl, hb2⟩
                  have B33 := Lib.hid (B32.out.trans ((hb1.trans (hb2.mono hb1.size)).mono B32.out.size))
                  clear A1 hb1 hb2
                  have v1 := HVV.out p2
                  have v2 := HVV.out true
                  have v3 := HVV.out (x1 != x2)
                  go_wp2_with fail
                  refine (truth' p2 _).mono ?_
                  rintro e wb34 ⟨rfl, hb2⟩
                  have B34 := Lib.hid (B33.out.trans (hb2.mono B33.out.size))
                  clear hb2
                  go_wp2_with fail
                  refine (F9z.out _ (RZI.out.below B34.out)).mono ?_
                  rintro e wa35 ⟨rfl, A1, hb1⟩
                  go_wp2_with fail
                  refine (R9z.out _ _ A1).mono ?_
                  rintro e wb35 ⟨rfl, hb2⟩
                  have B35 := Lib.hid (B34.out.trans ((hb1.trans (hb2.mono hb1.size)).mono B34.out.size))
                  clear A1 hb1 hb2
                  go_wp2_with fail
                  refine (truth' true _).mono ?_
                  rintro e wb36 ⟨rfl, hb2⟩
                  have B36 := Lib.hid (B35.out.trans (hb2.mono B35.out.size))
                  clear hb2
                  go_wp2_with fail
                  refine (F10z.out _ (RZI.out.below B36.out)).mono ?_
                  rintro e wa37 ⟨rfl, A1, hb1⟩
                  go_wp2_with fail
                  refine (R10z.out _ _ A1).mono ?_
                  rintro e wb37 ⟨rfl, hb2⟩
                  have B37 := Lib.hid (B36.out.trans ((hb1.trans (hb2.mono hb1.size)).mono B36.out.size))
                  clear A1 hb1 hb2
                  go_wp2_with fail
                  refine (truth' (x1 != x2) _).mono ?_
                  rintro e wb38 ⟨rfl, hb2⟩
                  have B38 := Lib.hid (B37.out.trans (hb2.mono B37.out.size))
                  clear hb2
                  go_wp2
                  go_ret
                  exact ⟨rfl, HBI.out.trans (B38.out.mono hsI)⟩
end Go.Proofs.YtangdbjoflnobaaGreatDoor
