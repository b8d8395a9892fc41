/- Walks of package value: Join of a row of values. -/
import Derived.Test.YtodopbdngikpcaaGreatDoorBinC
import Derived.Test.YtodopbdngikpcaaGreatDoorTakeA
import Derived.Test.YtodopbdngikpcaaGreatDoorAppV
namespace Go.Proofs.YtodopbdngikpcaaGreatDoor
open Go Go.RowKit
set_option linter.unusedSimpArgs false
set_option linter.unusedVariables false

/-- Texts, one behind the other, as long as none is a fault. -/
def joinP : Vl → List Vl → Vl
  | out, [] => out
  | out, v :: vs => if (joinV out v).k = 4 then joinV out v else joinP (joinV out v) vs
structure JnI (w : World) (b3 : Nat) (vs : List Vl) (F : Vl) (i : Value) (k : Nat) (out : Vl) (wr : World) : Prop where
  le : k ≤ vs.length
  i : i = .int .i64 k
  go : F = joinP out (vs.drop k)
  inn : out.In
  res : Blk wr w.heap.size (vArr blankV) 26
  o : Blk wr b3 (vArr out) 26
  below : Below w.heap.size w wr
theorem text_in (t : ByteArray) : (textF t).In := by
  have z : I64 0 := ⟨by decide, by decide⟩
  unfold textF
  split
  · split
    · exact right_in (by decide)
    · rename_i h
      exact ⟨⟨by simp [textV], by simp [textV]⟩, z, z, z, by simp [textV]; omega⟩
  · exact right_in (by decide)
theorem joinV_in {a b : Vl} (ha : a.In) (hb : b.In) : (joinV a b).In := by
  unfold joinV
  split
  · exact tkV_in ha
  · split
    · exact tkV_in hb
    · exact text_in _
set_option maxRecDepth 100000 in
set_option maxHeartbeats 4000000 in
theorem value_Join (vs : List Vl) (la : Option Addr) (n lc : Nat) (w : World) (hn : vs.length = n) (hbig : n ≤ 1000000) (hin : ∀ v ∈ vs, v.In) (hc : ValAt w la vs) (hp : Pow10 w) :
    Calls Tryz.prog 18 #[.slice la n lc] w fun e w' => e = .returned (.agg #[.int .i64 (joinP (textF ⟨#[]⟩) vs).k, .int .i64 (joinP (textF ⟨#[]⟩) vs).n, .int .i64 (joinP (textF ⟨#[]⟩) vs).d, .string (joinP (textF ⟨#[]⟩) vs).t, .bool (joinP (textF ⟨#[]⟩) vs).b, .int .i64 (joinP (textF ⟨#[]⟩) vs).f]) ∧ Below w.heap.size w w' := by
  have HI := Lib.hid hin
  have HC := Lib.hid hc
  have HN := Lib.hid hn
  have HP := Lib.hid fun wx h => hp.below (w' := wx) h
  have HX := Lib.hid fun wx => value_Text ⟨#[]⟩ wx (by decide)
  have hIn0 := text_in ⟨#[]⟩
  generalize hF : joinP (textF ⟨#[]⟩) vs = F
  generalize textF ⟨#[]⟩ = o0 at *
  have HF := Lib.hid hF
  have HI0 := Lib.hid hIn0
  clear hin hc hn hp hF hIn0
  go_enter Tryz.func18, Tryz.ntmps18
  go_wp2_with fail
  refine (HX.out _).mono ?_
  rintro e w1 ⟨rfl, hb⟩
  have R1 : Blk w1 w.heap.size (vArr blankV) 26 := Blk.below (show Blk (w.alloc (.cells (vArr blankV) 26)) w.heap.size _ _ from heap_alloc_new _ _) hb
  have s1 := hb.size
  simp only [sz_alloc] at s1
  have W1 : Below w.heap.size w w1 := ((Below.refl w.heap.size w).alloc (Nat.le_refl _) (.cells (vArr blankV) 26)).trans (hb.mono (by simp only [sz_alloc]; omega))
  have HH1 := Lib.hid (And.intro R1 W1)
  clear hb R1 W1
  go_wp2
  go_loopw [9] (fun i wr => ∃ k out, JnI w w1.heap.size vs F i k out wr) (fun i _ => n - (intOf i).toNat)
  case atStart => exact ⟨0, o0, Nat.zero_le _, rfl, HF.out.symm, HI0.out, HH1.out.1.alloc _, heap_alloc_new _ _, HH1.out.2.alloc HH1.out.2.size _⟩
  case round =>
    obtain ⟨k, out, hk, rfl, hgo, hio, hres, hout, hbk⟩ := hrel
    rw [HN.out] at hk
    by_cases hlt : k < n
    · obtain ⟨g, off, rfl, hgw, hrow⟩ := HC.out (by rw [HN.out]; omega)
      have hkv : k < vs.length := by rw [HN.out]; exact hlt
      obtain ⟨v, hv⟩ : ∃ v, vs[k]? = some v := ⟨_, List.getElem?_eq_getElem hkv⟩
      obtain ⟨c0, c1, c2, c3, c4, c5⟩ := (hrow.below hgw hbk) k v hv
      have hvin := HI.out v (List.mem_of_getElem? hv)
      have HB : Hid (∀ wx : World, Below w.heap.size w wx → Calls Tryz.prog 36 #[.int .i64 16, .agg #[.int .i64 (out).k, .int .i64 (out).n, .int .i64 (out).d, .string (out).t, .bool (out).b, .int .i64 (out).f], .agg #[.int .i64 (v).k, .int .i64 (v).n, .int .i64 (v).d, .string (v).t, .bool (v).b, .int .i64 (v).f]] wx fun e w' => e = .returned (.agg #[.int .i64 (joinV out v).k, .int .i64 (joinV out v).n, .int .i64 (joinV out v).d, .string (joinV out v).t, .bool (joinV out v).b, .int .i64 (joinV out v).f]) ∧ Below wx.heap.size wx w') := fun wx h => value_Join2 out v wx hio hvin (HP.out wx h)
      have HQ := Lib.hid (joinV_in hio hvin)
      have hstep : F = if (joinV out v).k = 4 then joinV out v else joinP (joinV out v) (vs.drop (k + 1)) := by
        rw [hgo, List.drop_eq_getElem_cons hkv, show vs[k] = v from Option.some.inj ((List.getElem?_eq_getElem hkv).symm.trans hv)]
        rfl
      generalize joinV out v = q at *
      obtain ⟨z0, z1, z2, z3, z4, z5⟩ := hout.v6
      have fB := hout.free
      have lB := hout.lt
      have gw : g < wr.heap.size := by have := hbk.size; omega
      have HH := Lib.hid (And.intro hres (And.intro hout hbk))
      clear hgo hrow hv hvin hio hres hout hbk
      go_wp2_with fail
      refine (HB.out _ ?_).mono ?_
      · exact HH.out.2.2.alloc HH.out.2.2.size _
      rintro e w2 ⟨rfl, hb2⟩
      have R2 := (HH.out.1.alloc (.cells (vArr v) 26)).below hb2
      have O2 := (HH.out.2.1.alloc (.cells (vArr v) 26)).below hb2
      have s2 := hb2.size
      simp only [sz_alloc] at s2
      have W2 : Below w.heap.size w w2 := (HH.out.2.2.alloc HH.out.2.2.size (.cells (vArr v) 26)).trans (hb2.mono (by have := HH.out.2.2.size; simp only [sz_alloc]; omega))
      obtain ⟨p0, p1, p2, p3, p4, p5⟩ := O2.v6
      have f2 := O2.free
      have l2 := O2.lt
      have l2' := R2.lt
      have hne : w.heap.size ≠ w1.heap.size := by omega
      have HH2 := Lib.hid (And.intro R2 (And.intro O2 W2))
      clear hb2 R2 O2 W2 HH c0 c1 c2 c3 c4 c5 z0 z1 z2 z3 z4 z5 fB lB
      by_cases h4 : q.k = 4
      · rw [if_pos h4] at hstep
        have HV := Lib.hid hstep
        have k4 : (q.k == 4) = true := by simp [h4]
        clear hstep h4
        go_upto_region 6 with (fail)
        refine wp_rebase ?_
        intro w3 hb'
        have hb3 := hb'.out
        clear hb'
        have R3 := ((((((HH2.out.1.set_ne hne (.int .i64 q.k) (o := 0)).set_ne hne (.int .i64 q.n) (o := 1)).set_ne hne (.int .i64 q.d) (o := 2)).set_ne hne (.string q.t) (o := 3)).set_ne hne (.bool q.b) (o := 4)).set_ne hne (.int .i64 q.f) (o := 5)).below hb3
        have O3 := (HH2.out.2.1.put6 q).below hb3
        have W3 : Below w.heap.size w w3 := by
          have h1 := HH2.out.2.2
          repeat (first | with_reducible exact Below.refl _ _ | with_reducible refine below_drewN ?_ _ | with_reducible refine Below.drew ?_ | with_reducible refine Below.setCell ?_ (by (first | omega | (simp only [sz_alloc, sz_setCell, sz_drew, sz_drewN]; omega) | (simp; done) | (simp; omega))) _ | with_reducible refine Below.alloc ?_ (by (first | omega | (simp only [sz_alloc, sz_setCell, sz_drew, sz_drewN]; omega) | (simp; done) | (simp; omega))) _ | with_reducible refine below_then ?_ ?_ (by with_reducible assumption) | (first | omega | (simp only [sz_alloc, sz_setCell, sz_drew, sz_drewN]; omega) | (simp; done) | (simp; omega)))
        obtain ⟨x0, x1, x2, x3, x4, x5⟩ := O3.v6
        obtain ⟨y0, y1, y2, y3, y4, y5⟩ := R3.v6
        have xf := O3.free
        have yf := R3.free
        have xl := O3.lt
        have yl := R3.lt
        have HW3 := Lib.hid W3
        clear hb3 R3 O3 W3 HH2 f2 l2 l2' p0 p1 p2 p3 p4 p5
        go_wp2
        have hW := HW3.out
        refine bodyPost_ret (v := .agg #[.int .i64 (F).k, .int .i64 (F).n, .int .i64 (F).d, .string (F).t, .bool (F).b, .int .i64 (F).f]) (by rw [HV.out]; simp [results, Tryz.results18, go_sem, y0, y1, y2, y3, y4, y5, yf, yl]) rfl ⟨rfl, ?_⟩
        repeat (first | with_reducible exact Below.refl _ _ | with_reducible refine below_drewN ?_ _ | with_reducible refine Below.drew ?_ | with_reducible refine Below.setCell ?_ (by (first | omega | (simp only [sz_alloc, sz_setCell, sz_drew, sz_drewN]; omega) | (simp; done) | (simp; omega))) _ | with_reducible refine Below.alloc ?_ (by (first | omega | (simp only [sz_alloc, sz_setCell, sz_drew, sz_drewN]; omega) | (simp; done) | (simp; omega))) _ | with_reducible refine below_then ?_ ?_ (by with_reducible assumption) | (first | omega | (simp only [sz_alloc, sz_setCell, sz_drew, sz_drewN]; omega) | (simp; done) | (simp; omega)))
      · rw [if_neg h4] at hstep
        have HV := Lib.hid hstep
        have k4 : (q.k == 4) = false := by simp [h4]
        clear hstep h4
        go_wp2
        go_roundw
        case rel =>
          have h1 := HH2.out.2.2
          refine ⟨k + 1, q, by rw [HN.out]; omega, by go_num, HV.out, HQ.out, ?_, HH2.out.2.1.put6 q, ?_⟩
          · exact (((((HH2.out.1.set_ne hne _).set_ne hne _).set_ne hne _).set_ne hne _).set_ne hne _).set_ne hne _
          · repeat (first | with_reducible exact Below.refl _ _ | with_reducible refine below_drewN ?_ _ | with_reducible refine Below.drew ?_ | with_reducible refine Below.setCell ?_ (by (first | omega | (simp only [sz_alloc, sz_setCell, sz_drew, sz_drewN]; omega) | (simp; done) | (simp; omega))) _ | with_reducible refine Below.alloc ?_ (by (first | omega | (simp only [sz_alloc, sz_setCell, sz_drew, sz_drewN]; omega) | (simp; done) | (simp; omega))) _ | with_reducible refine below_then ?_ ?_ (by with_reducible assumption) | (first | omega | (simp only [sz_alloc, sz_setCell, sz_drew, sz_drewN]; omega) | (simp; done) | (simp; omega)))
        case measure => simp [intOf]; omega
    · obtain rfl : k = n := by omega
      have HV : Hid (F = out) := by
        unfold Hid
        rw [hgo, List.drop_of_length_le (by rw [HN.out]; exact Nat.le_refl _)]
        rfl
      obtain ⟨x0, x1, x2, x3, x4, x5⟩ := hout.v6
      obtain ⟨y0, y1, y2, y3, y4, y5⟩ := hres.v6
      have xf := hout.free
      have yf := hres.free
      have xl := hout.lt
      have yl := hres.lt
      have HW3 := Lib.hid hbk
      clear hgo hio hres hout hbk
      go_wp2
      have hW := HW3.out
      refine bodyPost_ret (v := .agg #[.int .i64 (F).k, .int .i64 (F).n, .int .i64 (F).d, .string (F).t, .bool (F).b, .int .i64 (F).f]) (by rw [HV.out]; simp [results, Tryz.results18, go_sem, y0, y1, y2, y3, y4, y5, yf, yl]) rfl ⟨rfl, ?_⟩
      repeat (first | with_reducible exact Below.refl _ _ | with_reducible refine below_drewN ?_ _ | with_reducible refine Below.drew ?_ | with_reducible refine Below.setCell ?_ (by (first | omega | (simp only [sz_alloc, sz_setCell, sz_drew, sz_drewN]; omega) | (simp; done) | (simp; omega))) _ | with_reducible refine Below.alloc ?_ (by (first | omega | (simp only [sz_alloc, sz_setCell, sz_drew, sz_drewN]; omega) | (simp; done) | (simp; omega))) _ | with_reducible refine below_then ?_ ?_ (by with_reducible assumption) | (first | omega | (simp only [sz_alloc, sz_setCell, sz_drew, sz_drewN]; omega) | (simp; done) | (simp; omega)))
end Go.Proofs.YtodopbdngikpcaaGreatDoor
