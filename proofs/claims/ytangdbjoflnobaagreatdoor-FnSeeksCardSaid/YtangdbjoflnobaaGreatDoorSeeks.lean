/- The walk of FnSeeks. -/
import Derived.Test.YtangdbjoflnobaaGreatDoorSeekD
import Derived.Test.YtangdbjoflnobaaGreatDoorValsA
import Derived.Test.YtangdbjoflnobaaGreatDoorAble
import Derived.Test.YtangdbjoflnobaaGreatDoorEach
import Derived.Deep.QuietTactic
import Derived.BigQuiet
import Derived.Deep.Cut
namespace Go.Proofs.YtangdbjoflnobaaGreatDoor
open Go Go.RowKit
set_option linter.unusedSimpArgs false
set_option linter.unusedVariables false

def VZ (nd fd : Vl) (k f c pm pc pl : Nat) : Nat → Value → World → Prop
  | 0, v, _ => v = .pointer (some ⟨pm, 0, none⟩)
  | 1, v, _ => v = .agg #[.int .i64 (wantV f).k, .int .i64 (wantV f).n, .int .i64 (wantV f).d, .string (wantV f).t, .bool (wantV f).b, .int .i64 (wantV f).f]
  | 2, v, _ => v = .agg #[.int .i64 (wantV f).k, .int .i64 (wantV f).n, .int .i64 (wantV f).d, .string (wantV f).t, .bool (wantV f).b, .int .i64 (wantV f).f]
  | 3, v, _ => v = .bool true
  | 4, v, _ => v = .bool true
  | 5, v, _ => v = .pointer (some ⟨pm, 0, none⟩)
  | 6, v, _ => v = .bool (decide (0 < f))
  | 7, v, _ => v = .int .i64 f
  | 8, v, _ => v = .bool (decide (0 < f))
  | 9, v, _ => v = .bool true
  | 10, v, _ => v = .bool true
  | 11, v, _ => v = .bool true
  | 12, v, _ => v = .pointer (some ⟨pc, 0, none⟩)
  | 13, v, _ => v = .agg #[.int .i64 (numF c 1).k, .int .i64 (numF c 1).n, .int .i64 (numF c 1).d, .string (numF c 1).t, .bool (numF c 1).b, .int .i64 (numF c 1).f]
  | 14, v, _ => v = .int .i64 c
  | 15, v, _ => v = .agg #[.int .i64 c, .int .i64 1]
  | 16, v, _ => v = .agg #[.int .i64 (numF c 1).k, .int .i64 (numF c 1).n, .int .i64 (numF c 1).d, .string (numF c 1).t, .bool (numF c 1).b, .int .i64 (numF c 1).f]
  | 17, v, _ => v = .bool true
  | 18, v, _ => v = .bool true
  | 19, v, _ => v = .bool true
  | 20, v, _ => v = .pointer (some ⟨pl, 0, none⟩)
  | 21, v, _ => v = .agg #[.int .i64 (fd).k, .int .i64 (fd).n, .int .i64 (fd).d, .string (fd).t, .bool (fd).b, .int .i64 (fd).f]
  | 22, v, _ => v = .agg #[.int .i64 (fd).k, .int .i64 (fd).n, .int .i64 (fd).d, .string (fd).t, .bool (fd).b, .int .i64 (fd).f]
  | 23, v, _ => v = .bool true
  | 24, v, _ => v = .bool true
  | _, _, _ => True
theorem VZ.below (nd fd : Vl) (k f c pm pc pl : Nat) : ∀ k v w1 w2, VZ nd fd k f c pm pc pl k v w1 → Below w1.heap.size w1 w2 → VZ nd fd k f c pm pc pl k v w2 := by
  intro k v w1 w2 h hb
  rcases k with _ | _ | _ | _ | _ | _ | _ | _ | _ | _ | _ | _ | _ | _ | _ | _ | _ | _ | _ | _ | _ | _ | _ | _ | _ | k
  all_goals first | exact h
theorem but_below2 {B B0 b : Nat} {w w' : World} (h : But B b w w') (h1 : B0 ≤ B) (h2 : B0 ≤ b) : Below B0 w w' :=
  ⟨h.os, h.tape, h.output, h.size, fun k hk => h.block k (by omega) (by omega)⟩
/-- The partner of cell k. -/
def partnerV (us : List Vl) (k : Nat) : Vl := match us[k]? with
  | some u => if rightV u then u else blankV
  | none => blankV
theorem partner_right (us : List Vl) (k : Nat) : rightV (partnerV us k) = true := by
  unfold partnerV
  split
  · split
    · assumption
    · decide
  · decide
structure SkR (w : World) (nd : Vl) (n : Nat) (pm pc pl pf : Nat) (x y i : Value) (k f c : Nat) (fd : Vl) (wr : World) : Prop where
  le : k ≤ n
  x : x = .int .i64 f
  y : y = .int .i64 c
  i : i = .int .i64 k
  fk : f ≤ k
  ck : c ≤ k
  fz0 : f = 0 → fd = faultF 5
  below : Below w.heap.size w wr
  nb : Blk wr w.heap.size (vArr nd) 35
  mb : Blk wr pm (accArr (Mst nd k f) kdM) 104
  cb : Blk wr pc (accArr (Cst nd c) kdI) 104
  lb : Blk wr pl (accArr (Lst nd f fd) kdL) 104
  fb : Blk wr pf (vArr fd) 35

theorem wantsF (nd : Vl) (f : Nat) (fd : Vl) (p : Nat) (w : World) (hA : Blk w p (accArr (Lst nd f fd) kdL) 104) :
    Calls Tryz.prog 44 #[.pointer (some ⟨p, 0, none⟩)] w fun e w' => e = .returned (.bool false) ∧ w = w' := by
  have h := wantsL _ p w hA
  have e : (Lst nd f fd).wants = false := by unfold Lst; split <;> rfl
  rw [e] at h
  exact h
theorem wantsT (nd : Vl) (p : Nat) (w : World) (hA : Blk w p (accArr (Lwt nd) kdL) 104) :
    Calls Tryz.prog 44 #[.pointer (some ⟨p, 0, none⟩)] w fun e w' => e = .returned (.bool true) ∧ w = w' := wantsL _ p w hA
set_option maxRecDepth 100000 in
set_option maxHeartbeats 40000000 in
/-- Behind what is asked of the needle. -/
theorem law_FnSeeks0 (nd : Vl) (vs us : List Vl) (la lb : Option Addr) (ca cb n m : Nat) (w : World) (hn : vs.length = n) (hm : us.length = m) (hbn : n ≤ 140737488355328) (hbm : m ≤ 140737488355328) (hnd : nd.In) (hi1 : ∀ v ∈ vs, v.In) (hi2 : ∀ v ∈ us, v.In) (hc1 : ValAt w la vs) (hc2 : ValAt w lb us) :
    Calls Tryz.prog 12 #[.agg #[.int .i64 (nd).k, .int .i64 (nd).n, .int .i64 (nd).d, .string (nd).t, .bool (nd).b, .int .i64 (nd).f], .slice la n ca, .slice lb m cb] w fun e w' => e = .returned (.bool true) ∧ Below w.heap.size w w' := by
  have HI1 := Lib.hid hi1
  have HI2 := Lib.hid hi2
  have HC1 := Lib.hid hc1
  have HC2 := Lib.hid hc2
  have HN := Lib.hid hn
  have HM := Lib.hid hm
  have HND := Lib.hid hnd
  have W0 := Lib.hid (show Below w.heap.size w (w.alloc (.cells (vArr nd) 35)) from (Below.refl _ _).alloc (Nat.le_refl _) _)
  have N0 := Lib.hid (show Blk (w.alloc (.cells (vArr nd) 35)) w.heap.size (vArr nd) 35 from heap_alloc_new _ _)
  clear hi1 hi2 hc1 hc2 hn hm hnd
  go_enter Tryz.func12, Tryz.ntmps12
  go_wp2_with fail
  refine (law_able _).mono ?_
  rintro e w1 ⟨rfl, hb1⟩
  have W1 := Lib.hid (W0.out.trans (hb1.mono W0.out.size))
  have N1 := Lib.hid (N0.out.below hb1)
  clear hb1
  go_upto_region 3 with (fail)
  go_cut [60] from 22 (fun s wx => Below w.heap.size w wx ∧ Blk wx w.heap.size (vArr nd) 35 ∧ ∃ q : Bool, s = .bool q ∧ (q = false → Asked nd ∧ n ≤ 20000 ∧ m ≤ 20000))
  case first =>
    go_wp2_with fail
    refine (law_texts vs la ca n _ HN.out hbn HI1.out (HC1.out.below W1.out)).mono ?_
    rintro e w2 ⟨h1, rfl, hl1, hb2⟩
    have W2 := Lib.hid (W1.out.trans (hb2.mono W1.out.size))
    have N2 := Lib.hid (N1.out.below hb2)
    clear hb2
    cases h1
    case true =>
      go_wp2
      go_meet
      exact ⟨W2.out, N2.out, _, rfl, fun h => by cases h⟩
    case false =>
    have hn2 := hl1 (by simp)
    clear hl1
    go_wp2_with fail
    refine (law_texts us lb cb m _ HM.out hbm HI2.out (HC2.out.below W2.out)).mono ?_
    rintro e w3 ⟨h2, rfl, hl2, hb3⟩
    have W3 := Lib.hid (W2.out.trans (hb3.mono W2.out.size))
    have N3 := Lib.hid (N2.out.below hb3)
    clear hb3
    cases h2
    case true =>
      go_wp2
      go_meet
      exact ⟨W3.out, N3.out, _, rfl, fun h => by cases h⟩
    case false =>
    have hm2 := hl2 (by simp)
    clear hl2
    obtain ⟨_, _, _, _, _, _⟩ := N3.out.v6
    have HRt := Lib.hid fun wx => value_Right nd.k nd.n nd.d nd.t nd.b nd.f wx HND.out
    have er : rightV ⟨nd.k, nd.n, nd.d, nd.t, nd.b, nd.f⟩ = rightV nd := rfl
    rw [er] at HRt
    clear er
    cases hr : rightV nd
    · rw [hr] at HRt
      go_wp2_with fail
      refine (HRt.out _).mono ?_
      rintro e w4 ⟨rfl, hb4⟩
      have W4 := Lib.hid (W3.out.trans (hb4.mono W3.out.size))
      have N4 := Lib.hid (N3.out.below hb4)
      clear hb4
      go_wp2
      go_meet
      exact ⟨W4.out, N4.out, _, rfl, fun h => by cases h⟩
    rw [hr] at HRt
    have HR := Lib.hid hr
    clear hr
    go_wp2_with fail
    refine (HRt.out _).mono ?_
    rintro e w4 ⟨rfl, hb4⟩
    have W4 := Lib.hid (W3.out.trans (hb4.mono W3.out.size))
    have N4 := Lib.hid (N3.out.below hb4)
    clear hb4
    obtain ⟨_, _, _, _, _, _⟩ := N4.out.v6
    by_cases hk4 : nd.k = 4
    · have e4 : (nd.k == 4) = true := by simp [hk4]
      clear hk4
      go_wp2
      go_meet
      exact ⟨W4.out, N4.out, _, rfl, fun h => by first | cases h | (simp at h)⟩
    have e4 : (nd.k == 4) = false := by simp [hk4]
    by_cases hk2 : nd.k = 2
    · have e2 : (nd.k == 2) = true := by simp [hk2]
      by_cases hs0 : nd.t.size = 0
      · have HA : Hid (Asked nd) := ⟨HR.out, hk4, fun _ c r h => by
          have : nd.t.data.toList = [] := List.length_eq_zero_iff.1 (by rw [Array.length_toList]; exact hs0)
          rw [this] at h; cases h⟩
        have g0 : decide ((0 : Int) < nd.t.size) = false := by simp [hs0]
        have hs1 : ¬ (0 : Int) < nd.t.size := by omega
        clear hk4 hk2 hs0
        go_wp2
        go_meet
        exact ⟨W4.out, N4.out, _, rfl, fun _ => ⟨HA.out, hn2, hm2⟩⟩
      · have hs1 : 0 < nd.t.size := by omega
        have hs2 : (0 : Int) < nd.t.size := by omega
        have e0 : nd.t.data.toList[0]? = some nd.t[0] := by
          have h' : 0 < nd.t.data.toList.length := by rw [Array.length_toList]; exact hs1
          rw [List.getElem?_eq_getElem h']; rfl
        have hh : ∀ c r, nd.t.data.toList = c :: r → c = nd.t[0] := fun c r h => by rw [h] at e0; exact Option.some.inj e0
        by_cases hl : (nd.t[0]).toNat < 60
        · have HA : Hid (Asked nd) := ⟨HR.out, hk4, fun _ c r h => by rw [hh c r h]; exact .inl hl⟩
          have g1 : ¬ (60 : Int) ≤ (nd.t[0]).toNat := by omega
          clear hk4 hk2 hs0 e0 hh
          go_wp2
          go_meet
          exact ⟨W4.out, N4.out, _, rfl, fun _ => ⟨HA.out, hn2, hm2⟩⟩
        · have g1 : (60 : Int) ≤ (nd.t[0]).toNat := by omega
          by_cases hg : 62 < (nd.t[0]).toNat
          · have HA : Hid (Asked nd) := ⟨HR.out, hk4, fun _ c r h => by rw [hh c r h]; exact .inr hg⟩
            have g2 : ¬ ((nd.t[0]).toNat : Int) ≤ 62 := by omega
            clear hk4 hk2 hs0 e0 hh
            go_wp2
            go_meet
            exact ⟨W4.out, N4.out, _, rfl, fun _ => ⟨HA.out, hn2, hm2⟩⟩
          · have g2 : ((nd.t[0]).toNat : Int) ≤ 62 := by omega
            clear hk4 hk2 hs0 e0 hh
            go_wp2
            go_meet
            exact ⟨W4.out, N4.out, _, rfl, fun h => by first | cases h | (simp at h; done) | (simp at h; omega)⟩
    · have e2 : (nd.k == 2) = false := by simp [hk2]
      have HA : Hid (Asked nd) := ⟨HR.out, hk4, fun h => absurd h hk2⟩
      clear hk4 hk2
      go_wp2
      go_meet
      exact ⟨W4.out, N4.out, _, rfl, fun _ => ⟨HA.out, hn2, hm2⟩⟩
  case rest =>
    obtain ⟨W4, N4, q, rfl, hq⟩ := hcut
    cases q
    case true =>
      go_wp2
      go_ret
      exact ⟨rfl, W4⟩
    case false =>
    obtain ⟨hask, hn2, hm2⟩ := hq rfl
    have HW4 := Lib.hid W4
    have HN4 := Lib.hid N4
    clear W4 N4 hq W0 N0 W1 N1
    go_wp2_with fail
    refine (funcs_Open20 _).mono ?_
    rintro e w5 ⟨rfl, M5, hb5⟩
    have N5 := HN4.out.below hb5
    have W5 := HW4.out.trans (hb5.mono HW4.out.size)
    have H5 := Lib.hid (And.intro N5 (And.intro W5 M5))
    have s4 := HW4.out.size
    have sn := HN4.out.lt
    have s5 := hb5.size
    have lm5 := M5.lt
    clear N5 W5 M5 hb5
    go_wp2_with fail
    refine (funcs_Open21 _).mono ?_
    rintro e w6 ⟨rfl, C6, hb6⟩
    have s6 := hb6.size
    have lc6 := C6.lt
    have H6 := Lib.hid (And.intro (H5.out.1.below hb6) (And.intro (H5.out.2.1.trans (hb6.mono H5.out.2.1.size)) (And.intro (H5.out.2.2.below hb6) C6)))
    clear C6 hb6 H5
    go_wp2_with fail
    refine (funcs_Open23 _).mono ?_
    rintro e w7 ⟨rfl, L7, hb7⟩
    have s7 := hb7.size
    have ll7 := L7.lt
    have H7 := Lib.hid (And.intro (H6.out.1.below hb7) (And.intro (H6.out.2.1.trans (hb7.mono H6.out.2.1.size)) (And.intro (H6.out.2.2.1.below hb7) (And.intro (H6.out.2.2.2.below hb7) L7))))
    clear L7 hb7 H6 HW4 HN4
    obtain ⟨pm, hpm⟩ : ∃ p, p = wc.heap.size := ⟨_, rfl⟩
    obtain ⟨pc, hpc⟩ : ∃ p, p = w5.heap.size := ⟨_, rfl⟩
    obtain ⟨pl, hpl⟩ : ∃ p, p = w6.heap.size := ⟨_, rfl⟩
    rw [← hpm, ← hpc, ← hpl] at H7
    rw [← hpm, ← hpc, ← hpl]
    have nmc : pm ≠ pc := by omega
    have nml : pm ≠ pl := by omega
    have ncl : pc ≠ pl := by omega
    have n0m : w.heap.size ≠ pm := by omega
    have n0c : w.heap.size ≠ pc := by omega
    have n0l : w.heap.size ≠ pl := by omega
    have g0m : w.heap.size ≤ pm := by omega
    have g0c : w.heap.size ≤ pc := by omega
    have g0l : w.heap.size ≤ pl := by omega
    have lp7 : pl < w7.heap.size := by omega
    have lpm7 : pm < w7.heap.size := by omega
    have lpc7 : pc < w7.heap.size := by omega
    clear hpm hpc hpl s4 s5 s6 lm5 lc6
    obtain ⟨_, _, _, _, _, _⟩ := H7.out.1.v6
    have ln7 := H7.out.1.lt
    go_wp2_with fail
    refine ((feedM pm hask).out _ H7.out.2.2.1).mono ?_
    rintro e w8 ⟨rfl, M8, hb8⟩
    have s8 := hb8.size
    have H8 := Lib.hid (And.intro (H7.out.1.but hb8 n0m) (And.intro (H7.out.2.1.trans (but_below2 hb8 H7.out.2.1.size g0m)) (And.intro M8 (And.intro (H7.out.2.2.2.1.but hb8 nmc.symm) (H7.out.2.2.2.2.but hb8 nml.symm)))))
    clear M8 hb8 H7
    obtain ⟨_, _, _, _, _, _⟩ := H8.out.1.v6
    have ln8 := H8.out.1.lt
    go_wp2_with fail
    refine ((feedC pc hask).out _ H8.out.2.2.2.1).mono ?_
    rintro e w9 ⟨rfl, C9, hb9⟩
    have s9 := hb9.size
    have H9 := Lib.hid (And.intro (H8.out.1.but hb9 n0c) (And.intro (H8.out.2.1.trans (but_below2 hb9 H8.out.2.1.size g0c)) (And.intro (H8.out.2.2.1.but hb9 nmc) (And.intro C9 (H8.out.2.2.2.2.but hb9 ncl.symm)))))
    clear C9 hb9 H8
    obtain ⟨_, _, _, _, _, _⟩ := H9.out.1.v6
    have ln9 := H9.out.1.lt
    go_wp2_with fail
    refine ((feedL pl hask).out _ H9.out.2.2.2.2).mono ?_
    rintro e wa ⟨rfl, La, hba⟩
    have sa := hba.size
    have Ha := Lib.hid (And.intro (H9.out.1.but hba n0l) (And.intro (H9.out.2.1.trans (but_below2 hba H9.out.2.1.size g0l)) (And.intro (H9.out.2.2.1.but hba nml) (And.intro (H9.out.2.2.2.1.but hba ncl) La))))
    clear La hba H9
    go_wp2_with fail
    refine (value_Fault 5 _).mono ?_
    rintro e wb ⟨rfl, hbb⟩
    have sb := hbb.size
    have Hb := Lib.hid (And.intro (Ha.out.1.below hbb) (And.intro (Ha.out.2.1.trans (hbb.mono Ha.out.2.1.size)) (And.intro (Ha.out.2.2.1.below hbb) (And.intro (Ha.out.2.2.2.1.below hbb) (Ha.out.2.2.2.2.below hbb)))))
    clear hbb Ha
    have F0 : Blk (wb.alloc (.cells (vArr (faultF 5)) 35)) wb.heap.size (vArr (faultF 5)) 35 := heap_alloc_new _ _
    have Hc := Lib.hid (And.intro (Hb.out.1.alloc (.cells (vArr (faultF 5)) 35)) (And.intro (Hb.out.2.2.1.alloc (.cells (vArr (faultF 5)) 35)) (And.intro (Hb.out.2.2.2.1.alloc (.cells (vArr (faultF 5)) 35)) (And.intro (Hb.out.2.2.2.2.alloc (.cells (vArr (faultF 5)) 35)) (And.intro F0 (Hb.out.2.1.alloc Hb.out.2.1.size (.cells (vArr (faultF 5)) 35)))))))
    clear F0 Hb
    obtain ⟨pf, hpf⟩ : ∃ p, p = wb.heap.size := ⟨_, rfl⟩
    rw [← hpf] at Hc
    have nmf : pm ≠ pf := by omega
    have ncf : pc ≠ pf := by omega
    have nlf : pl ≠ pf := by omega
    have nfl : pf ≠ pl := by omega
    have n0f : w.heap.size ≠ pf := by omega
    have g0f : w.heap.size ≤ pf := by omega
    go_wp2
    rw [← hpf]
    clear hpf lp7 lpm7 lpc7 s7 s8 s9 sa sb ll7 ln7 ln8 ln9
    go_loopw [13, 14, 16] (fun x y i wr => ∃ k f c fd, SkR w nd n pm pc pl pf x y i k f c fd wr) (fun _ _ i _ => n - (intOf i).toNat)
    case atStart => exact ⟨0, 0, 0, faultF 5, Nat.zero_le _, rfl, rfl, rfl, Nat.le_refl _, Nat.le_refl _, fun _ => rfl, Hc.out.2.2.2.2.2, Hc.out.1, Hc.out.2.1, Hc.out.2.2.1, Hc.out.2.2.2.1, Hc.out.2.2.2.2.1⟩
    case round =>
      clear Hc
      obtain ⟨k, f, c, fd, hk, rfl, rfl, rfl, hfk, hck, hfd, W, N, M, C, L, F⟩ := hrel
      have H := Lib.hid (And.intro N (And.intro M (And.intro C (And.intro L (And.intro F W)))))
      clear N M C L F W
      by_cases hlt : k < n
      · obtain ⟨b, off, rfl, hbw, hrow⟩ := HC1.out (by rw [HN.out]; omega)
        obtain ⟨v, hv⟩ : ∃ v, vs[k]? = some v := ⟨_, List.getElem?_eq_getElem (by rw [HN.out]; exact hlt)⟩
        have HV := Lib.hid (HI1.out v (List.mem_of_getElem? hv))
        have HRW := Lib.hid (fun (wx : World) (hwx : Below w.heap.size w wx) => (hrow.below hbw hwx) k v hv)
        have HS := Lib.hid fun wx => value_Same nd.k nd.n nd.d nd.t nd.b nd.f v.k v.n v.d v.t v.b v.f wx HND.out HV.out
        have es : sameV ⟨nd.k, nd.n, nd.d, nd.t, nd.b, nd.f⟩ ⟨v.k, v.n, v.d, v.t, v.b, v.f⟩ = sameV nd v := rfl
        rw [es] at HS
        clear hrow hv es
        obtain ⟨x0, x1, x2, x3, x4, x5⟩ := HRW.out _ H.out.2.2.2.2.2
        go_wp2_with fail
        refine ((cellM pm hask k f (by omega) v HV.out).out _ H.out.2.1).mono ?_
        rintro e wa ⟨rfl, M1, hb1⟩
        have H1 := Lib.hid (And.intro (H.out.1.but hb1 n0m) (And.intro M1 (And.intro (H.out.2.2.1.but hb1 nmc.symm) (And.intro (H.out.2.2.2.1.but hb1 nml.symm) (And.intro (H.out.2.2.2.2.1.but hb1 nmf.symm) (H.out.2.2.2.2.2.trans (but_below2 hb1 H.out.2.2.2.2.2.size g0m)))))))
        clear M1 hb1 H x0 x1 x2 x3 x4 x5
        obtain ⟨x0, x1, x2, x3, x4, x5⟩ := HRW.out _ H1.out.2.2.2.2.2
        go_wp2_with fail
        refine ((cellC pc hask c (by omega) v HV.out).out _ H1.out.2.2.1).mono ?_
        rintro e wb' ⟨rfl, C2, hb2⟩
        have H2 := Lib.hid (And.intro (H1.out.1.but hb2 n0c) (And.intro (H1.out.2.1.but hb2 nmc) (And.intro C2 (And.intro (H1.out.2.2.2.1.but hb2 ncl.symm) (And.intro (H1.out.2.2.2.2.1.but hb2 ncf.symm) (H1.out.2.2.2.2.2.trans (but_below2 hb2 H1.out.2.2.2.2.2.size g0c)))))))
        clear C2 hb2 H1 x0 x1 x2 x3 x4 x5
        obtain ⟨x0, x1, x2, x3, x4, x5⟩ := HRW.out _ H2.out.2.2.2.2.2
        by_cases hone : sameV nd v = true ∧ f = 0
        · obtain ⟨hsm, hf0⟩ := hone
          have e0 : Lst nd f fd = Lst nd 0 fd := by rw [hf0]
          have L2 := H2.out.2.2.2.1
          rw [e0] at L2
          rw [hsm] at HS
          go_wp2_with fail
          refine ((cellL1 pl hask fd v HV.out hsm).out _ L2).mono ?_
          rintro e wl ⟨rfl, L3, hb3⟩
          have H3 := Lib.hid (And.intro (H2.out.1.but hb3 n0l) (And.intro (H2.out.2.1.but hb3 nml) (And.intro (H2.out.2.2.1.but hb3 ncl) (And.intro L3 (And.intro (H2.out.2.2.2.2.1.but hb3 nfl) (H2.out.2.2.2.2.2.trans (but_below2 hb3 H2.out.2.2.2.2.2.size g0l)))))))
          clear L3 L2 hb3 H2 x0 x1 x2 x3 x4 x5 e0
          obtain ⟨x0, x1, x2, x3, x4, x5⟩ := HRW.out _ H3.out.2.2.2.2.2
          obtain ⟨_, _, _, _, _, _⟩ := H3.out.1.v6
          have ln3 := H3.out.1.lt
          have lw3 := H3.out.2.2.2.2.2.size
          have lb3 : b < wl.heap.size := by omega
          go_upto_region 21 with (fail)
          refine region_below 6 (by kernel_rfl) (by kernel_rfl) ?_
          simp only [List.take_succ_cons, List.take_zero, List.drop_succ_cons, List.drop_zero]
          repeat
            first | (refine q_run ?_ ?_; focus (go_simp; done)) | (refine q_skip ?_ ?_; focus (go_simp; done))
            try (apply Exists.intro; refine ⟨fun w' hw' => ?_, ?_⟩; focus (have hc := (bcell hw'.out).1; unfold Oper.quietAt; go_simp; (try go_ints); (first | rfl | (go_at_call 43; refine (HS.out _).mono ?_; rintro e w2 ⟨rfl, hb⟩; exact ⟨rfl, hw'.chain hb⟩))))
            intro K hK
            go_simp
            refine hK _ ?_
            clear hK K
          refine wpQuiet_nil ?_
          intro w1 hb'
          have hb := hb'.out
          clear hb'
          have H4 := Lib.hid (And.intro (H3.out.1.below hb) (And.intro (H3.out.2.1.below hb) (And.intro (H3.out.2.2.1.below hb) (And.intro (H3.out.2.2.2.1.below hb) (And.intro (H3.out.2.2.2.2.1.below hb) (H3.out.2.2.2.2.2.trans (hb.mono H3.out.2.2.2.2.2.size)))))))
          clear H3 hb x0 x1 x2 x3 x4 x5 ln3 lw3 lb3
          have hfz : ((f : Int) == 0) = true := by simp [hf0]
          have hcw := w64 (x := (c : Int) + 1) (by omega) (by omega)
          have hkw := w64 (x := (k : Int) + 1) (by omega) (by omega)
          have lw4 := H4.out.2.2.2.2.2.size
          have ll4 := H4.out.2.2.2.1.lt
          go_wp2_with fail
          refine (wantsT nd pl _ H4.out.2.2.2.1).mono ?_
          rintro e wx ⟨rfl, rfl⟩
          have ln4 := H4.out.1.lt
          have lm4 := H4.out.2.1.lt
          have lc4 := H4.out.2.2.1.lt
          have lf4 := H4.out.2.2.2.2.1.lt
          go_upto_region 29 with (fail)
          have P0 : Blk (w1.alloc (.cells (vArr blankV) 35)) w1.heap.size (vArr blankV) 35 := heap_alloc_new _ _
          have H5 := Lib.hid (And.intro (H4.out.1.alloc (.cells (vArr blankV) 35)) (And.intro (H4.out.2.1.alloc (.cells (vArr blankV) 35)) (And.intro (H4.out.2.2.1.alloc (.cells (vArr blankV) 35)) (And.intro (H4.out.2.2.2.1.alloc (.cells (vArr blankV) 35)) (And.intro (H4.out.2.2.2.2.1.alloc (.cells (vArr blankV) 35)) (And.intro (H4.out.2.2.2.2.2.alloc lw4 (.cells (vArr blankV) 35)) P0))))))
          have lz5 : (w1.alloc (.cells (vArr blankV) 35)).heap.size = w1.heap.size + 1 := sz_alloc _ _
          have HPn : Hid (w1.heap.size ≠ pl) := by unfold Hid; omega
          have npn : w.heap.size ≠ w1.heap.size := by omega
          have npm : pm ≠ w1.heap.size := by omega
          have npc : pc ≠ w1.heap.size := by omega
          have npl : pl ≠ w1.heap.size := by omega
          have npf : pf ≠ w1.heap.size := by omega
          have gpp : w.heap.size ≤ w1.heap.size := by omega
          have W4h := Lib.hid H4.out.2.2.2.2.2
          clear H4 P0
          by_cases hkm : k < m
          · obtain ⟨b2, off2, rfl, hbw2, hrow2⟩ := HC2.out (by rw [HM.out]; omega)
            obtain ⟨u, hu⟩ : ∃ u, us[k]? = some u := ⟨_, List.getElem?_eq_getElem (by rw [HM.out]; exact hkm)⟩
            have HU := Lib.hid (HI2.out u (List.mem_of_getElem? hu))
            have HRW2 := Lib.hid (fun (wx : World) (hwx : Below w.heap.size w wx) => (hrow2.below hbw2 hwx) k u hu)
            have HRu := Lib.hid fun wx => value_Right u.k u.n u.d u.t u.b u.f wx HU.out
            have er : rightV ⟨u.k, u.n, u.d, u.t, u.b, u.f⟩ = rightV u := rfl
            rw [er] at HRu
            clear hrow2 hu er
            obtain ⟨y0, y1, y2, y3, y4, y5⟩ := HRW2.out _ W4h.out
            have lb5 : b2 < w1.heap.size := by omega
            cases hr : rightV u
            · rw [hr] at HRu
              go_wp2_with fail
              refine (HRu.out _).mono ?_
              rintro e wd ⟨rfl, hbd⟩
              have HQ := Lib.hid (And.intro (H5.out.1.below hbd) (And.intro (H5.out.2.1.below hbd) (And.intro (H5.out.2.2.1.below hbd) (And.intro (H5.out.2.2.2.1.below hbd) (And.intro (H5.out.2.2.2.2.1.below hbd) (And.intro (H5.out.2.2.2.2.2.1.trans (hbd.mono H5.out.2.2.2.2.2.1.size)) (H5.out.2.2.2.2.2.2.below hbd)))))))
              clear hbd H5 y0 y1 y2 y3 y4 y5
              go_upto_region 31 with (fail)
              refine wp_rebase ?_
              intro wP hb'
              have hbP := hb'.out
              clear hb'
              have HP := Lib.hid (And.intro (HQ.out.1.below hbP) (And.intro (HQ.out.2.1.below hbP) (And.intro (HQ.out.2.2.1.below hbP) (And.intro (HQ.out.2.2.2.1.below hbP) (And.intro (HQ.out.2.2.2.2.1.below hbP) (And.intro (HQ.out.2.2.2.2.2.1.trans (hbP.mono HQ.out.2.2.2.2.2.1.size)) (HQ.out.2.2.2.2.2.2.below hbP)))))))
              clear hbP HQ
              obtain ⟨p, hpe⟩ : ∃ p : Vl, p = blankV := ⟨_, rfl⟩
              rw [← hpe] at HP
              have hpr : rightV p = true := by rw [hpe]; decide
              clear hpe
              obtain ⟨_, _, _, _, _, _⟩ := HP.out.2.2.2.2.2.2.v6
              have lpP := HP.out.2.2.2.2.2.2.lt
              go_wp2_with fail
              refine ((pairL pl nd k p hpr).out _ HP.out.2.2.2.1).mono ?_
              rintro e wq ⟨rfl, L9, hb9⟩
              have P9 := HP.out.2.2.2.2.2.2.but hb9 (by have := HPn.out; omega)
              have F9 := HP.out.2.2.2.2.1.but hb9 nfl
              have N9 := HP.out.1.but hb9 n0l
              have M9 := HP.out.2.1.but hb9 nml
              have C9 := HP.out.2.2.1.but hb9 ncl
              have W9 := HP.out.2.2.2.2.2.1.trans (but_below2 hb9 (HP.out.2.2.2.2.2.1.size) g0l)
              obtain ⟨_, _, _, _, _, _⟩ := P9.v6
              obtain ⟨_, _, _, _, _, _⟩ := F9.v6
              have ff9 := F9.free
              have lf9 := F9.lt
              have lp9 := P9.lt
              have H9 := Lib.hid (And.intro N9 (And.intro M9 (And.intro C9 (And.intro L9 (And.intro F9 W9)))))
              clear P9 F9 N9 M9 C9 W9 L9 hb9
              go_wp2
              go_roundw
              case rel =>
                obtain ⟨N9, M9, C9, L9, F9, W9⟩ := H9.out
                have e1 : (if f = 0 ∧ sameV nd v = true then k + 1 else f) = k + 1 := if_pos ⟨hf0, hsm⟩
                have e2 : (if sameV nd v = true then c + 1 else c) = c + 1 := if_pos hsm
                rw [e1] at M9
                rw [e2] at C9
                refine ⟨k + 1, k + 1, c + 1, p, by omega, by go_num, by go_num, by go_num, by omega, by omega, fun h => by omega, ?_, ?_, ?_, ?_, ?_, ?_⟩
                · exact ((((((W9.setCell g0f _).setCell g0f _).setCell g0f _).setCell g0f _).setCell g0f _).setCell g0f _)
                · exact ((((((N9.set_ne n0f _).set_ne n0f _).set_ne n0f _).set_ne n0f _).set_ne n0f _).set_ne n0f _)
                · exact ((((((M9.set_ne nmf _).set_ne nmf _).set_ne nmf _).set_ne nmf _).set_ne nmf _).set_ne nmf _)
                · exact ((((((C9.set_ne ncf _).set_ne ncf _).set_ne ncf _).set_ne ncf _).set_ne ncf _).set_ne ncf _)
                · exact ((((((L9.set_ne nlf _).set_ne nlf _).set_ne nlf _).set_ne nlf _).set_ne nlf _).set_ne nlf _)
                · exact Blk.cast ((((((F9.set 0 _).set 1 _).set 2 _).set 3 _).set 4 _).set 5 _) rfl
              case measure => simp [intOf]; omega
            · rw [hr] at HRu
              have HUR := Lib.hid hr
              go_wp2_with fail
              refine (HRu.out _).mono ?_
              rintro e wd ⟨rfl, hbd⟩
              have HQ := Lib.hid (And.intro (H5.out.1.below hbd) (And.intro (H5.out.2.1.below hbd) (And.intro (H5.out.2.2.1.below hbd) (And.intro (H5.out.2.2.2.1.below hbd) (And.intro (H5.out.2.2.2.2.1.below hbd) (And.intro (H5.out.2.2.2.2.2.1.trans (hbd.mono H5.out.2.2.2.2.2.1.size)) (H5.out.2.2.2.2.2.2.below hbd)))))))
              clear hbd H5 y0 y1 y2 y3 y4 y5 hr
              obtain ⟨y0, y1, y2, y3, y4, y5⟩ := HRW2.out _ HQ.out.2.2.2.2.2.1
              obtain ⟨_, _, _, _, _, _⟩ := HQ.out.2.2.2.2.2.2.v6
              have fpp := HQ.out.2.2.2.2.2.2.free
              have lpp := HQ.out.2.2.2.2.2.2.lt
              go_upto_region 31 with (fail)
              refine wp_rebase ?_
              intro wP hb'
              have hbP := hb'.out
              clear hb'
              obtain ⟨N7, M7, C7, L7, F7, W7, P7⟩ := HQ.out
              have HP := Lib.hid (And.intro (((((((N7.set_ne npn _).set_ne npn _).set_ne npn _).set_ne npn _).set_ne npn _).set_ne npn _).below hbP) (And.intro (((((((M7.set_ne npm _).set_ne npm _).set_ne npm _).set_ne npm _).set_ne npm _).set_ne npm _).below hbP) (And.intro (((((((C7.set_ne npc _).set_ne npc _).set_ne npc _).set_ne npc _).set_ne npc _).set_ne npc _).below hbP) (And.intro (((((((L7.set_ne npl _).set_ne npl _).set_ne npl _).set_ne npl _).set_ne npl _).set_ne npl _).below hbP) (And.intro (((((((F7.set_ne npf _).set_ne npf _).set_ne npf _).set_ne npf _).set_ne npf _).set_ne npf _).below hbP) (And.intro (((((((W7.setCell gpp _).setCell gpp _).setCell gpp _).setCell gpp _).setCell gpp _).setCell gpp _).trans (hbP.mono (by have := W7.size; simp only [sz_setCell]; omega))) ((Blk.cast ((((((P7.set 0 _).set 1 _).set 2 _).set 3 _).set 4 _).set 5 _) (rfl : _ = vArr u)).below hbP)))))))
              clear hbP HQ N7 M7 C7 L7 F7 W7 P7 y0 y1 y2 y3 y4 y5 fpp lpp
              obtain ⟨p, hpe⟩ : ∃ p : Vl, p = u := ⟨_, rfl⟩
              rw [← hpe] at HP
              have hpr : rightV p = true := by rw [hpe]; exact HUR.out
              clear hpe
              obtain ⟨_, _, _, _, _, _⟩ := HP.out.2.2.2.2.2.2.v6
              have lpP := HP.out.2.2.2.2.2.2.lt
              go_wp2_with fail
              refine ((pairL pl nd k p hpr).out _ HP.out.2.2.2.1).mono ?_
              rintro e wq ⟨rfl, L9, hb9⟩
              have P9 := HP.out.2.2.2.2.2.2.but hb9 (by have := HPn.out; omega)
              have F9 := HP.out.2.2.2.2.1.but hb9 nfl
              have N9 := HP.out.1.but hb9 n0l
              have M9 := HP.out.2.1.but hb9 nml
              have C9 := HP.out.2.2.1.but hb9 ncl
              have W9 := HP.out.2.2.2.2.2.1.trans (but_below2 hb9 (HP.out.2.2.2.2.2.1.size) g0l)
              obtain ⟨_, _, _, _, _, _⟩ := P9.v6
              obtain ⟨_, _, _, _, _, _⟩ := F9.v6
              have ff9 := F9.free
              have lf9 := F9.lt
              have lp9 := P9.lt
              have H9 := Lib.hid (And.intro N9 (And.intro M9 (And.intro C9 (And.intro L9 (And.intro F9 W9)))))
              clear P9 F9 N9 M9 C9 W9 L9 hb9
              go_wp2
              go_roundw
              case rel =>
                obtain ⟨N9, M9, C9, L9, F9, W9⟩ := H9.out
                have e1 : (if f = 0 ∧ sameV nd v = true then k + 1 else f) = k + 1 := if_pos ⟨hf0, hsm⟩
                have e2 : (if sameV nd v = true then c + 1 else c) = c + 1 := if_pos hsm
                rw [e1] at M9
                rw [e2] at C9
                refine ⟨k + 1, k + 1, c + 1, p, by omega, by go_num, by go_num, by go_num, by omega, by omega, fun h => by omega, ?_, ?_, ?_, ?_, ?_, ?_⟩
                · exact ((((((W9.setCell g0f _).setCell g0f _).setCell g0f _).setCell g0f _).setCell g0f _).setCell g0f _)
                · exact ((((((N9.set_ne n0f _).set_ne n0f _).set_ne n0f _).set_ne n0f _).set_ne n0f _).set_ne n0f _)
                · exact ((((((M9.set_ne nmf _).set_ne nmf _).set_ne nmf _).set_ne nmf _).set_ne nmf _).set_ne nmf _)
                · exact ((((((C9.set_ne ncf _).set_ne ncf _).set_ne ncf _).set_ne ncf _).set_ne ncf _).set_ne ncf _)
                · exact ((((((L9.set_ne nlf _).set_ne nlf _).set_ne nlf _).set_ne nlf _).set_ne nlf _).set_ne nlf _)
                · exact Blk.cast ((((((F9.set 0 _).set 1 _).set 2 _).set 3 _).set 4 _).set 5 _) rfl
              case measure => simp [intOf]; omega
          · skip
            go_upto_region 31 with (fail)
            refine wp_rebase ?_
            intro wP hb'
            have hbP := hb'.out
            clear hb'
            have HP := Lib.hid (And.intro (H5.out.1.below hbP) (And.intro (H5.out.2.1.below hbP) (And.intro (H5.out.2.2.1.below hbP) (And.intro (H5.out.2.2.2.1.below hbP) (And.intro (H5.out.2.2.2.2.1.below hbP) (And.intro (H5.out.2.2.2.2.2.1.trans (hbP.mono H5.out.2.2.2.2.2.1.size)) (H5.out.2.2.2.2.2.2.below hbP)))))))
            clear hbP H5
            obtain ⟨p, hpe⟩ : ∃ p : Vl, p = blankV := ⟨_, rfl⟩
            rw [← hpe] at HP
            have hpr : rightV p = true := by rw [hpe]; decide
            clear hpe
            obtain ⟨_, _, _, _, _, _⟩ := HP.out.2.2.2.2.2.2.v6
            have lpP := HP.out.2.2.2.2.2.2.lt
            go_wp2_with fail
            refine ((pairL pl nd k p hpr).out _ HP.out.2.2.2.1).mono ?_
            rintro e wq ⟨rfl, L9, hb9⟩
            have P9 := HP.out.2.2.2.2.2.2.but hb9 (by have := HPn.out; omega)
            have F9 := HP.out.2.2.2.2.1.but hb9 nfl
            have N9 := HP.out.1.but hb9 n0l
            have M9 := HP.out.2.1.but hb9 nml
            have C9 := HP.out.2.2.1.but hb9 ncl
            have W9 := HP.out.2.2.2.2.2.1.trans (but_below2 hb9 (HP.out.2.2.2.2.2.1.size) g0l)
            obtain ⟨_, _, _, _, _, _⟩ := P9.v6
            obtain ⟨_, _, _, _, _, _⟩ := F9.v6
            have ff9 := F9.free
            have lf9 := F9.lt
            have lp9 := P9.lt
            have H9 := Lib.hid (And.intro N9 (And.intro M9 (And.intro C9 (And.intro L9 (And.intro F9 W9)))))
            clear P9 F9 N9 M9 C9 W9 L9 hb9
            go_wp2
            go_roundw
            case rel =>
              obtain ⟨N9, M9, C9, L9, F9, W9⟩ := H9.out
              have e1 : (if f = 0 ∧ sameV nd v = true then k + 1 else f) = k + 1 := if_pos ⟨hf0, hsm⟩
              have e2 : (if sameV nd v = true then c + 1 else c) = c + 1 := if_pos hsm
              rw [e1] at M9
              rw [e2] at C9
              refine ⟨k + 1, k + 1, c + 1, p, by omega, by go_num, by go_num, by go_num, by omega, by omega, fun h => by omega, ?_, ?_, ?_, ?_, ?_, ?_⟩
              · exact ((((((W9.setCell g0f _).setCell g0f _).setCell g0f _).setCell g0f _).setCell g0f _).setCell g0f _)
              · exact ((((((N9.set_ne n0f _).set_ne n0f _).set_ne n0f _).set_ne n0f _).set_ne n0f _).set_ne n0f _)
              · exact ((((((M9.set_ne nmf _).set_ne nmf _).set_ne nmf _).set_ne nmf _).set_ne nmf _).set_ne nmf _)
              · exact ((((((C9.set_ne ncf _).set_ne ncf _).set_ne ncf _).set_ne ncf _).set_ne ncf _).set_ne ncf _)
              · exact ((((((L9.set_ne nlf _).set_ne nlf _).set_ne nlf _).set_ne nlf _).set_ne nlf _).set_ne nlf _)
              · exact Blk.cast ((((((F9.set 0 _).set 1 _).set 2 _).set 3 _).set 4 _).set 5 _) rfl
            case measure => simp [intOf]; omega
        · have e1 : (if f = 0 ∧ sameV nd v = true then k + 1 else f) = f := if_neg (fun h => hone ⟨h.2, h.1⟩)
          have HL : Hid (Turns 41 #[.pointer (some ⟨pl, 0, none⟩), .agg #[.int .i64 (v).k, .int .i64 (v).n, .int .i64 (v).d, .string (v).t, .bool (v).b, .int .i64 (v).f]] pl (Lst nd f fd) (Lst nd f fd) kdL) := by
            unfold Hid
            by_cases hf0 : f = 0
            · subst hf0
              exact cellL0 pl hask fd v HV.out (by rcases Bool.eq_false_or_eq_true (sameV nd v) with h | h; exact absurd ⟨h, rfl⟩ hone; exact h)
            · exact cellL2 pl nd f fd v hf0
          have HE1 := Lib.hid e1
          go_wp2_with fail
          refine (HL.out.out _ H2.out.2.2.2.1).mono ?_
          rintro e wl ⟨rfl, L3, hb3⟩
          have H3 := Lib.hid (And.intro (H2.out.1.but hb3 n0l) (And.intro (H2.out.2.1.but hb3 nml) (And.intro (H2.out.2.2.1.but hb3 ncl) (And.intro L3 (And.intro (H2.out.2.2.2.2.1.but hb3 nfl) (H2.out.2.2.2.2.2.trans (but_below2 hb3 H2.out.2.2.2.2.2.size g0l)))))))
          clear L3 hb3 H2 x0 x1 x2 x3 x4 x5 e1 HL
          obtain ⟨x0, x1, x2, x3, x4, x5⟩ := HRW.out _ H3.out.2.2.2.2.2
          obtain ⟨_, _, _, _, _, _⟩ := H3.out.1.v6
          have ln3 := H3.out.1.lt
          have lw3 := H3.out.2.2.2.2.2.size
          have lb3 : b < wl.heap.size := by omega
          go_upto_region 21 with (fail)
          refine region_below 6 (by kernel_rfl) (by kernel_rfl) ?_
          simp only [List.take_succ_cons, List.take_zero, List.drop_succ_cons, List.drop_zero]
          repeat
            first | (refine q_run ?_ ?_; focus (go_simp; done)) | (refine q_skip ?_ ?_; focus (go_simp; done))
            try (apply Exists.intro; refine ⟨fun w' hw' => ?_, ?_⟩; focus (have hc := (bcell hw'.out).1; unfold Oper.quietAt; go_simp; (try go_ints); (first | rfl | (go_at_call 43; refine (HS.out _).mono ?_; rintro e w2 ⟨rfl, hb⟩; exact ⟨rfl, hw'.chain hb⟩))))
            intro K hK
            go_simp
            refine hK _ ?_
            clear hK K
          refine wpQuiet_nil ?_
          intro w1 hb'
          have hb := hb'.out
          clear hb'
          have H4 := Lib.hid (And.intro (H3.out.1.below hb) (And.intro (H3.out.2.1.below hb) (And.intro (H3.out.2.2.1.below hb) (And.intro (H3.out.2.2.2.1.below hb) (And.intro (H3.out.2.2.2.2.1.below hb) (H3.out.2.2.2.2.2.trans (hb.mono H3.out.2.2.2.2.2.size)))))))
          clear H3 hb x0 x1 x2 x3 x4 x5 ln3 lw3 lb3
          have hcw := w64 (x := (c : Int) + 1) (by omega) (by omega)
          have ll4 := H4.out.2.2.2.1.lt
          go_wp2_with fail
          refine (wantsF nd f fd pl _ H4.out.2.2.2.1).mono ?_
          rintro e wx ⟨rfl, rfl⟩
          cases hs : sameV nd v
          · have HE2 : Hid ((if sameV nd v = true then c + 1 else c) = c) := by unfold Hid; rw [hs]; rfl
            go_wp2
            go_roundw
            case rel =>
              obtain ⟨N9, M9, C9, L9, F9, W9⟩ := H4.out
              rw [HE1.out] at M9
              rw [HE2.out] at C9
              exact ⟨k + 1, f, c, fd, by omega, rfl, rfl, by go_num, by omega, by omega, hfd, W9, N9, M9, C9, L9, F9⟩
            case measure => simp [intOf]; omega
          · have hf0 : ¬ f = 0 := fun h => hone ⟨hs, h⟩
            have hfz : ((f : Int) == 0) = false := by simp [hf0]
            have HE2 : Hid ((if sameV nd v = true then c + 1 else c) = c + 1) := by unfold Hid; rw [hs]; rfl
            go_wp2
            go_roundw
            case rel =>
              obtain ⟨N9, M9, C9, L9, F9, W9⟩ := H4.out
              rw [HE1.out] at M9
              rw [HE2.out] at C9
              exact ⟨k + 1, f, c + 1, fd, by omega, rfl, by go_num, by go_num, by omega, by omega, hfd, W9, N9, M9, C9, L9, F9⟩
            case measure => simp [intOf]; omega
      · obtain rfl : k = n := by omega
        have hf6 : f ≤ 1000000 := by omega
        have hc6 : c ≤ 1000000 := by omega
        have HNf := Lib.hid fun wx => value_Number (f : Int) 1 wx (I64.of (by omega) (by omega)) ⟨by decide, by decide⟩
        have HNc := Lib.hid fun wx => value_Number (c : Int) 1 wx (I64.of (by omega) (by omega)) ⟨by decide, by decide⟩
        have lwr := H.out.2.2.2.2.2.size
        have lm4 := H.out.2.1.lt
        have lc4 := H.out.2.2.1.lt
        have ll4 := H.out.2.2.2.1.lt
        have lf4 := H.out.2.2.2.2.1.lt
        go_wp2_with fail
        refine (value_Fault 5 _).mono ?_
        rintro e we ⟨rfl, hbe⟩
        have lse := hbe.size
        have Pw : Blk (we.alloc (.cells (vArr (faultF 5)) 35)) we.heap.size (vArr (faultF 5)) 35 := heap_alloc_new _ _
        have He := Lib.hid (And.intro ((H.out.2.1.below hbe).alloc (.cells (vArr (faultF 5)) 35)) (And.intro ((H.out.2.2.1.below hbe).alloc (.cells (vArr (faultF 5)) 35)) (And.intro ((H.out.2.2.2.1.below hbe).alloc (.cells (vArr (faultF 5)) 35)) (And.intro ((H.out.2.2.2.2.1.below hbe).alloc (.cells (vArr (faultF 5)) 35)) (And.intro Pw ((H.out.2.2.2.2.2.trans (hbe.mono lwr)).alloc (by omega) (.cells (vArr (faultF 5)) 35)))))))
        have nmw : pm ≠ we.heap.size := by omega
        have ncw : pc ≠ we.heap.size := by omega
        have nlw : pl ≠ we.heap.size := by omega
        have nfw : pf ≠ we.heap.size := by omega
        have gew : w.heap.size ≤ we.heap.size := by omega
        clear H Pw hbe
        go_upto_if 160 with (fail)
        go_cut [] from 160 (fun wx => Below w.heap.size w wx ∧ Blk wx pm (accArr (Mst nd k f) kdM) 104 ∧ Blk wx pc (accArr (Cst nd c) kdI) 104 ∧ Blk wx pl (accArr (Lst nd f fd) kdL) 104 ∧ Blk wx pf (vArr fd) 35 ∧ Blk wx we.heap.size (vArr (wantV f)) 35)
        case first =>
          by_cases hf0 : f = 0
          · have hg : ¬ (0 : Int) < f := by omega
            have HW : Hid (wantV f = faultF 5) := if_pos hf0
            clear hf0
            go_wp2
            go_meet
            obtain ⟨M9, C9, L9, F9, P9, W9⟩ := He.out
            exact ⟨W9, M9, C9, L9, F9, by rw [HW.out]; exact P9⟩
          · have hg : (0 : Int) < f := by omega
            have HW : Hid (wantV f = numF f 1) := if_neg hf0
            clear hf0
            go_wp2_with fail
            refine (HNf.out _).mono ?_
            rintro e wf ⟨rfl, hbf⟩
            have Hf := Lib.hid (And.intro (He.out.1.below hbf) (And.intro (He.out.2.1.below hbf) (And.intro (He.out.2.2.1.below hbf) (And.intro (He.out.2.2.2.1.below hbf) (And.intro (He.out.2.2.2.2.1.below hbf) (He.out.2.2.2.2.2.trans (hbf.mono He.out.2.2.2.2.2.size)))))))
            clear hbf
            obtain ⟨_, _, _, _, _, _⟩ := Hf.out.2.2.2.2.1.v6
            have fpw := Hf.out.2.2.2.2.1.free
            have lpw := Hf.out.2.2.2.2.1.lt
            go_wp2
            go_meet
            obtain ⟨M9, C9, L9, F9, P9, W9⟩ := Hf.out
            refine ⟨((((((W9.setCell gew _).setCell gew _).setCell gew _).setCell gew _).setCell gew _).setCell gew _), ((((((M9.set_ne nmw _).set_ne nmw _).set_ne nmw _).set_ne nmw _).set_ne nmw _).set_ne nmw _), ((((((C9.set_ne ncw _).set_ne ncw _).set_ne ncw _).set_ne ncw _).set_ne ncw _).set_ne ncw _), ((((((L9.set_ne nlw _).set_ne nlw _).set_ne nlw _).set_ne nlw _).set_ne nlw _).set_ne nlw _), ((((((F9.set_ne nfw _).set_ne nfw _).set_ne nfw _).set_ne nfw _).set_ne nfw _).set_ne nfw _), ?_⟩
            rw [HW.out]
            exact Blk.cast ((((((P9.set 0 _).set 1 _).set 2 _).set 3 _).set 4 _).set 5 _) rfl
        case rest =>
          obtain ⟨W9, M9, C9, L9, F9, P9⟩ := hcut
          have BWb := Lib.hid W9
          have BM := Lib.hid M9
          have BC := Lib.hid C9
          have BL := Lib.hid L9
          have BF := Lib.hid F9
          have BW := Lib.hid P9
          have lpw := P9.lt
          clear W9 M9 C9 L9 F9 P9 He HC1 HC2 HI1 HI2 HNf
          go_upto_region 36 with (fail)
          refine wp_act fun a ha => ?_
          refine region_each 25 (VZ nd fd k f c pm pc pl) (by kernel_rfl) (by kernel_rfl) (VZ.below nd fd k f c pm pc pl) ?_ ?_
          · intro j hj o ho vs wx hw hk
            have hbx := hw.out
            have hzx := hbx.size
            obtain ⟨_, _, _, _, _, _⟩ := (BW.out.below hbx).v6
            obtain ⟨_, _, _, _, _, _⟩ := (BF.out.below hbx).v6
            have hcf : (decide ((0 : Int) < f)) = decide (0 < f) := by simp
            rcases j with _ | _ | _ | _ | _ | _ | _ | _ | _ | _ | _ | _ | _ | _ | _ | _ | _ | _ | _ | _ | _ | _ | _ | _ | _ | j
            · obtain rfl : _ = o := Option.some.inj ho
              clear ho hk
              change wpList _ _ (OneQ _ a _) _ a _
              subst ha
              go_wp2
              exact ⟨_, rfl, Below.refl _ _, by first | rfl | (simp [veq_true.2, VZ, hcf]; done)⟩
            · obtain rfl : _ = o := Option.some.inj ho
              have y0 : vs 0 = .pointer (some ⟨pm, 0, none⟩) := hk 0 (by decide) rfl
              clear ho hk
              change wpList _ _ (OneQ _ (Act.put a (some 164) (vs 0)) _) _ (Act.put a (some 164) (vs 0)) _
              rw [y0]
              subst ha
              go_wp2_with fail
              refine (resM nd k f hf6 pm _ (BM.out.below hbx)).mono ?_
              rintro e w' ⟨rfl, hb'⟩
              go_wp2
              exact ⟨_, rfl, hb', by first | rfl | (simp [VZ, hcf]; done)⟩
            · obtain rfl : _ = o := Option.some.inj ho
              clear ho hk
              change wpList _ _ (OneQ _ a _) _ a _
              subst ha
              go_wp2
              exact ⟨_, rfl, Below.refl _ _, by first | rfl | (simp [veq_true.2, VZ, hcf]; done)⟩
            · obtain rfl : _ = o := Option.some.inj ho
              have y1 : vs 1 = .agg #[.int .i64 (wantV f).k, .int .i64 (wantV f).n, .int .i64 (wantV f).d, .string (wantV f).t, .bool (wantV f).b, .int .i64 (wantV f).f] := hk 1 (by decide) rfl
              have y2 : vs 2 = .agg #[.int .i64 (wantV f).k, .int .i64 (wantV f).n, .int .i64 (wantV f).d, .string (wantV f).t, .bool (wantV f).b, .int .i64 (wantV f).f] := hk 2 (by decide) rfl
              clear ho hk
              change wpList _ _ (OneQ _ (Act.put (Act.put a (some 165) (vs 1)) (some 166) (vs 2)) _) _ (Act.put (Act.put a (some 165) (vs 1)) (some 166) (vs 2)) _
              rw [y1, y2]
              subst ha
              go_wp2
              exact ⟨_, rfl, Below.refl _ _, by first | rfl | (simp [veq_true.2, VZ, hcf]; done)⟩
            · obtain rfl : _ = o := Option.some.inj ho
              have y3 : vs 3 = .bool true := hk 3 (by decide) rfl
              clear ho hk
              change wpList _ _ (OneQ _ (Act.put a (some 167) (vs 3)) _) _ (Act.put a (some 167) (vs 3)) _
              rw [y3]
              subst ha
              go_wp2
              exact ⟨_, rfl, Below.refl _ _, by first | rfl | (simp [veq_true.2, VZ, hcf]; done)⟩
            · obtain rfl : _ = o := Option.some.inj ho
              have y4 : vs 4 = .bool true := hk 4 (by decide) rfl
              clear ho hk
              change wpList _ _ (OneQ _ (Act.put a (some 168) (vs 4)) _) _ (Act.put a (some 168) (vs 4)) _
              rw [y4]
              subst ha
              go_wp2
              exact ⟨_, rfl, Below.refl _ _, by first | rfl | (simp [veq_true.2, VZ, hcf]; done)⟩
            · obtain rfl : _ = o := Option.some.inj ho
              have y4 : vs 4 = .bool true := hk 4 (by decide) rfl
              have y5 : vs 5 = .pointer (some ⟨pm, 0, none⟩) := hk 5 (by decide) rfl
              clear ho hk
              change wpList _ _ (OneQ _ (Act.put (Act.put a (some 168) (vs 4)) (some 169) (vs 5)) _) _ (Act.put (Act.put a (some 168) (vs 4)) (some 169) (vs 5)) _
              rw [y4, y5]
              subst ha
              go_wp2_with fail
              refine (fullM nd k f pm _ (BM.out.below hbx)).mono ?_
              rintro e w' ⟨rfl, rfl⟩
              go_wp2
              exact ⟨_, rfl, Below.refl _ _, rfl⟩
            · obtain rfl : _ = o := Option.some.inj ho
              have y4 : vs 4 = .bool true := hk 4 (by decide) rfl
              clear ho hk
              change wpList _ _ (OneQ _ (Act.put a (some 168) (vs 4)) _) _ (Act.put a (some 168) (vs 4)) _
              rw [y4]
              subst ha
              go_wp2
              exact ⟨_, rfl, Below.refl _ _, by first | rfl | (simp [veq_true.2, VZ, hcf]; done)⟩
            · obtain rfl : _ = o := Option.some.inj ho
              have y4 : vs 4 = .bool true := hk 4 (by decide) rfl
              have y7 : vs 7 = .int .i64 f := hk 7 (by decide) rfl
              clear ho hk
              change wpList _ _ (OneQ _ (Act.put (Act.put a (some 168) (vs 4)) (some 171) (vs 7)) _) _ (Act.put (Act.put a (some 168) (vs 4)) (some 171) (vs 7)) _
              rw [y4, y7]
              subst ha
              go_wp2
              exact ⟨_, rfl, Below.refl _ _, by first | rfl | (simp [veq_true.2, VZ, hcf]; done)⟩
            · obtain rfl : _ = o := Option.some.inj ho
              have y4 : vs 4 = .bool true := hk 4 (by decide) rfl
              have y6 : vs 6 = .bool (decide (0 < f)) := hk 6 (by decide) rfl
              have y8 : vs 8 = .bool (decide (0 < f)) := hk 8 (by decide) rfl
              clear ho hk
              change wpList _ _ (OneQ _ (Act.put (Act.put (Act.put a (some 168) (vs 4)) (some 170) (vs 6)) (some 172) (vs 8)) _) _ (Act.put (Act.put (Act.put a (some 168) (vs 4)) (some 170) (vs 6)) (some 172) (vs 8)) _
              rw [y4, y6, y8]
              subst ha
              go_wp2
              exact ⟨_, rfl, Below.refl _ _, by first | rfl | (simp [veq_true.2, VZ, hcf]; done)⟩
            · obtain rfl : _ = o := Option.some.inj ho
              have y4 : vs 4 = .bool true := hk 4 (by decide) rfl
              have y9 : vs 9 = .bool true := hk 9 (by decide) rfl
              clear ho hk
              change wpList _ _ (OneQ _ (Act.put (Act.put a (some 168) (vs 4)) (some 173) (vs 9)) _) _ (Act.put (Act.put a (some 168) (vs 4)) (some 173) (vs 9)) _
              rw [y4, y9]
              subst ha
              go_wp2
              exact ⟨_, rfl, Below.refl _ _, by first | rfl | (simp [veq_true.2, VZ, hcf]; done)⟩
            · obtain rfl : _ = o := Option.some.inj ho
              have y10 : vs 10 = .bool true := hk 10 (by decide) rfl
              clear ho hk
              change wpList _ _ (OneQ _ (Act.put a (some 174) (vs 10)) _) _ (Act.put a (some 174) (vs 10)) _
              rw [y10]
              subst ha
              go_wp2
              exact ⟨_, rfl, Below.refl _ _, by first | rfl | (simp [veq_true.2, VZ, hcf]; done)⟩
            · obtain rfl : _ = o := Option.some.inj ho
              have y11 : vs 11 = .bool true := hk 11 (by decide) rfl
              clear ho hk
              change wpList _ _ (OneQ _ (Act.put a (some 175) (vs 11)) _) _ (Act.put a (some 175) (vs 11)) _
              rw [y11]
              subst ha
              go_wp2
              exact ⟨_, rfl, Below.refl _ _, by first | rfl | (simp [veq_true.2, VZ, hcf]; done)⟩
            · obtain rfl : _ = o := Option.some.inj ho
              have y11 : vs 11 = .bool true := hk 11 (by decide) rfl
              have y12 : vs 12 = .pointer (some ⟨pc, 0, none⟩) := hk 12 (by decide) rfl
              clear ho hk
              change wpList _ _ (OneQ _ (Act.put (Act.put a (some 175) (vs 11)) (some 176) (vs 12)) _) _ (Act.put (Act.put a (some 175) (vs 11)) (some 176) (vs 12)) _
              rw [y11, y12]
              subst ha
              go_wp2_with fail
              refine (resC nd c hc6 pc _ (BC.out.below hbx)).mono ?_
              rintro e w' ⟨rfl, hb'⟩
              go_wp2
              exact ⟨_, rfl, hb', by first | rfl | (simp [VZ, hcf]; done)⟩
            · obtain rfl : _ = o := Option.some.inj ho
              have y11 : vs 11 = .bool true := hk 11 (by decide) rfl
              clear ho hk
              change wpList _ _ (OneQ _ (Act.put a (some 175) (vs 11)) _) _ (Act.put a (some 175) (vs 11)) _
              rw [y11]
              subst ha
              go_wp2
              exact ⟨_, rfl, Below.refl _ _, by first | rfl | (simp [veq_true.2, VZ, hcf]; done)⟩
            · obtain rfl : _ = o := Option.some.inj ho
              have y11 : vs 11 = .bool true := hk 11 (by decide) rfl
              have y14 : vs 14 = .int .i64 c := hk 14 (by decide) rfl
              clear ho hk
              change wpList _ _ (OneQ _ (Act.put (Act.put a (some 175) (vs 11)) (some 178) (vs 14)) _) _ (Act.put (Act.put a (some 175) (vs 11)) (some 178) (vs 14)) _
              rw [y11, y14]
              subst ha
              go_wp2
              exact ⟨_, rfl, Below.refl _ _, by first | rfl | (simp [veq_true.2, VZ, hcf]; done)⟩
            · obtain rfl : _ = o := Option.some.inj ho
              have y11 : vs 11 = .bool true := hk 11 (by decide) rfl
              have y15 : vs 15 = .agg #[.int .i64 c, .int .i64 1] := hk 15 (by decide) rfl
              clear ho hk
              change wpList _ _ (OneQ _ (Act.put (Act.put a (some 175) (vs 11)) (some 179) (vs 15)) _) _ (Act.put (Act.put a (some 175) (vs 11)) (some 179) (vs 15)) _
              rw [y11, y15]
              subst ha
              go_wp2_with fail
              refine (HNc.out _).mono ?_
              rintro e w' ⟨rfl, hb'⟩
              go_wp2
              exact ⟨_, rfl, hb', by first | rfl | (simp [VZ, hcf]; done)⟩
            · obtain rfl : _ = o := Option.some.inj ho
              have y11 : vs 11 = .bool true := hk 11 (by decide) rfl
              have y13 : vs 13 = .agg #[.int .i64 (numF c 1).k, .int .i64 (numF c 1).n, .int .i64 (numF c 1).d, .string (numF c 1).t, .bool (numF c 1).b, .int .i64 (numF c 1).f] := hk 13 (by decide) rfl
              have y16 : vs 16 = .agg #[.int .i64 (numF c 1).k, .int .i64 (numF c 1).n, .int .i64 (numF c 1).d, .string (numF c 1).t, .bool (numF c 1).b, .int .i64 (numF c 1).f] := hk 16 (by decide) rfl
              clear ho hk
              change wpList _ _ (OneQ _ (Act.put (Act.put (Act.put a (some 175) (vs 11)) (some 177) (vs 13)) (some 180) (vs 16)) _) _ (Act.put (Act.put (Act.put a (some 175) (vs 11)) (some 177) (vs 13)) (some 180) (vs 16)) _
              rw [y11, y13, y16]
              subst ha
              go_wp2
              exact ⟨_, rfl, Below.refl _ _, by first | rfl | (simp [veq_true.2, VZ, hcf]; done)⟩
            · obtain rfl : _ = o := Option.some.inj ho
              have y11 : vs 11 = .bool true := hk 11 (by decide) rfl
              have y17 : vs 17 = .bool true := hk 17 (by decide) rfl
              clear ho hk
              change wpList _ _ (OneQ _ (Act.put (Act.put a (some 175) (vs 11)) (some 181) (vs 17)) _) _ (Act.put (Act.put a (some 175) (vs 11)) (some 181) (vs 17)) _
              rw [y11, y17]
              subst ha
              go_wp2
              exact ⟨_, rfl, Below.refl _ _, by first | rfl | (simp [veq_true.2, VZ, hcf]; done)⟩
            · obtain rfl : _ = o := Option.some.inj ho
              have y18 : vs 18 = .bool true := hk 18 (by decide) rfl
              clear ho hk
              change wpList _ _ (OneQ _ (Act.put a (some 182) (vs 18)) _) _ (Act.put a (some 182) (vs 18)) _
              rw [y18]
              subst ha
              go_wp2
              exact ⟨_, rfl, Below.refl _ _, by first | rfl | (simp [veq_true.2, VZ, hcf]; done)⟩
            · obtain rfl : _ = o := Option.some.inj ho
              have y19 : vs 19 = .bool true := hk 19 (by decide) rfl
              clear ho hk
              change wpList _ _ (OneQ _ (Act.put a (some 183) (vs 19)) _) _ (Act.put a (some 183) (vs 19)) _
              rw [y19]
              subst ha
              go_wp2
              exact ⟨_, rfl, Below.refl _ _, by first | rfl | (simp [veq_true.2, VZ, hcf]; done)⟩
            · obtain rfl : _ = o := Option.some.inj ho
              have y19 : vs 19 = .bool true := hk 19 (by decide) rfl
              have y20 : vs 20 = .pointer (some ⟨pl, 0, none⟩) := hk 20 (by decide) rfl
              clear ho hk
              change wpList _ _ (OneQ _ (Act.put (Act.put a (some 183) (vs 19)) (some 184) (vs 20)) _) _ (Act.put (Act.put a (some 183) (vs 19)) (some 184) (vs 20)) _
              rw [y19, y20]
              subst ha
              go_wp2_with fail
              refine (resL nd f fd hfd pl _ (BL.out.below hbx)).mono ?_
              rintro e w' ⟨rfl, hb'⟩
              go_wp2
              exact ⟨_, rfl, hb', by first | rfl | (simp [VZ, hcf]; done)⟩
            · obtain rfl : _ = o := Option.some.inj ho
              have y19 : vs 19 = .bool true := hk 19 (by decide) rfl
              clear ho hk
              change wpList _ _ (OneQ _ (Act.put a (some 183) (vs 19)) _) _ (Act.put a (some 183) (vs 19)) _
              rw [y19]
              subst ha
              go_wp2
              exact ⟨_, rfl, Below.refl _ _, by first | rfl | (simp [veq_true.2, VZ, hcf]; done)⟩
            · obtain rfl : _ = o := Option.some.inj ho
              have y19 : vs 19 = .bool true := hk 19 (by decide) rfl
              have y21 : vs 21 = .agg #[.int .i64 (fd).k, .int .i64 (fd).n, .int .i64 (fd).d, .string (fd).t, .bool (fd).b, .int .i64 (fd).f] := hk 21 (by decide) rfl
              have y22 : vs 22 = .agg #[.int .i64 (fd).k, .int .i64 (fd).n, .int .i64 (fd).d, .string (fd).t, .bool (fd).b, .int .i64 (fd).f] := hk 22 (by decide) rfl
              clear ho hk
              change wpList _ _ (OneQ _ (Act.put (Act.put (Act.put a (some 183) (vs 19)) (some 185) (vs 21)) (some 186) (vs 22)) _) _ (Act.put (Act.put (Act.put a (some 183) (vs 19)) (some 185) (vs 21)) (some 186) (vs 22)) _
              rw [y19, y21, y22]
              subst ha
              go_wp2
              exact ⟨_, rfl, Below.refl _ _, by first | rfl | (simp [veq_true.2, VZ, hcf]; done)⟩
            · obtain rfl : _ = o := Option.some.inj ho
              have y19 : vs 19 = .bool true := hk 19 (by decide) rfl
              have y23 : vs 23 = .bool true := hk 23 (by decide) rfl
              clear ho hk
              change wpList _ _ (OneQ _ (Act.put (Act.put a (some 183) (vs 19)) (some 187) (vs 23)) _) _ (Act.put (Act.put a (some 183) (vs 19)) (some 187) (vs 23)) _
              rw [y19, y23]
              subst ha
              go_wp2
              exact ⟨_, rfl, Below.refl _ _, by first | rfl | (simp [veq_true.2, VZ, hcf]; done)⟩
            · omega
          · intro vs wx hw hv
            have hbx := hw.out
            have y0 : vs 0 = .pointer (some ⟨pm, 0, none⟩) := hv 0 (by decide)
            have y1 : vs 1 = .agg #[.int .i64 (wantV f).k, .int .i64 (wantV f).n, .int .i64 (wantV f).d, .string (wantV f).t, .bool (wantV f).b, .int .i64 (wantV f).f] := hv 1 (by decide)
            have y2 : vs 2 = .agg #[.int .i64 (wantV f).k, .int .i64 (wantV f).n, .int .i64 (wantV f).d, .string (wantV f).t, .bool (wantV f).b, .int .i64 (wantV f).f] := hv 2 (by decide)
            have y3 : vs 3 = .bool true := hv 3 (by decide)
            have y4 : vs 4 = .bool true := hv 4 (by decide)
            have y5 : vs 5 = .pointer (some ⟨pm, 0, none⟩) := hv 5 (by decide)
            have y6 : vs 6 = .bool (decide (0 < f)) := hv 6 (by decide)
            have y7 : vs 7 = .int .i64 f := hv 7 (by decide)
            have y8 : vs 8 = .bool (decide (0 < f)) := hv 8 (by decide)
            have y9 : vs 9 = .bool true := hv 9 (by decide)
            have y10 : vs 10 = .bool true := hv 10 (by decide)
            have y11 : vs 11 = .bool true := hv 11 (by decide)
            have y12 : vs 12 = .pointer (some ⟨pc, 0, none⟩) := hv 12 (by decide)
            have y13 : vs 13 = .agg #[.int .i64 (numF c 1).k, .int .i64 (numF c 1).n, .int .i64 (numF c 1).d, .string (numF c 1).t, .bool (numF c 1).b, .int .i64 (numF c 1).f] := hv 13 (by decide)
            have y14 : vs 14 = .int .i64 c := hv 14 (by decide)
            have y15 : vs 15 = .agg #[.int .i64 c, .int .i64 1] := hv 15 (by decide)
            have y16 : vs 16 = .agg #[.int .i64 (numF c 1).k, .int .i64 (numF c 1).n, .int .i64 (numF c 1).d, .string (numF c 1).t, .bool (numF c 1).b, .int .i64 (numF c 1).f] := hv 16 (by decide)
            have y17 : vs 17 = .bool true := hv 17 (by decide)
            have y18 : vs 18 = .bool true := hv 18 (by decide)
            have y19 : vs 19 = .bool true := hv 19 (by decide)
            have y20 : vs 20 = .pointer (some ⟨pl, 0, none⟩) := hv 20 (by decide)
            have y21 : vs 21 = .agg #[.int .i64 (fd).k, .int .i64 (fd).n, .int .i64 (fd).d, .string (fd).t, .bool (fd).b, .int .i64 (fd).f] := hv 21 (by decide)
            have y22 : vs 22 = .agg #[.int .i64 (fd).k, .int .i64 (fd).n, .int .i64 (fd).d, .string (fd).t, .bool (fd).b, .int .i64 (fd).f] := hv 22 (by decide)
            have y23 : vs 23 = .bool true := hv 23 (by decide)
            have y24 : vs 24 = .bool true := hv 24 (by decide)
            clear hv hw
            change wpList _ _ _ _ (Act.put (Act.put (Act.put (Act.put (Act.put (Act.put (Act.put (Act.put (Act.put (Act.put (Act.put (Act.put (Act.put (Act.put (Act.put (Act.put (Act.put (Act.put (Act.put (Act.put (Act.put (Act.put (Act.put (Act.put (Act.put a (some 164) (vs 0)) (some 165) (vs 1)) (some 166) (vs 2)) (some 167) (vs 3)) (some 168) (vs 4)) (some 169) (vs 5)) (some 170) (vs 6)) (some 171) (vs 7)) (some 172) (vs 8)) (some 173) (vs 9)) (some 174) (vs 10)) (some 175) (vs 11)) (some 176) (vs 12)) (some 177) (vs 13)) (some 178) (vs 14)) (some 179) (vs 15)) (some 180) (vs 16)) (some 181) (vs 17)) (some 182) (vs 18)) (some 183) (vs 19)) (some 184) (vs 20)) (some 185) (vs 21)) (some 186) (vs 22)) (some 187) (vs 23)) (some 188) (vs 24)) _
            rw [y0, y1, y2, y3, y4, y5, y6, y7, y8, y9, y10, y11, y12, y13, y14, y15, y16, y17, y18, y19, y20, y21, y22, y23, y24]
            subst ha
            clear y0 y1 y2 y3 y4 y5 y6 y7 y8 y9 y10 y11 y12 y13 y14 y15 y16 y17 y18 y19 y20 y21 y22 y23 y24
            simp only [List.drop_succ_cons, List.drop_zero]
            have hbF := BWb.out.trans (hbx.mono BWb.out.size)
            go_wp2
            go_ret
            exact ⟨rfl, hbF⟩
end Go.Proofs.YtangdbjoflnobaaGreatDoor
