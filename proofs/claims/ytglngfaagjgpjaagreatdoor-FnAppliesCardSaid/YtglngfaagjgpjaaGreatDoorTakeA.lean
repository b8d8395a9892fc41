/- Walks of package funcs: take, of any shape and any values. -/
import Derived.Test.YtglngfaagjgpjaaGreatDoorVX
import Derived.Test.YtglngfaagjgpjaaGreatDoorBx8
import Derived.Test.YtglngfaagjgpjaaGreatDoorBx1
namespace Go.Proofs.YtglngfaagjgpjaaGreatDoor
open Go Go.RowKit
set_option linter.unusedSimpArgs false
set_option linter.unusedVariables false

structure TkS where
  ns : List Nm
  ts : List ByteArray
  tr : Bool
structure TkR where
  s : TkS
  e : Vl
/-- One value is taken as the letter says. -/
def takeStep (c : UInt8) (v : Vl) (s : TkS) : TkR :=
  if c = 110 then ⟨⟨s.ns ++ [⟨(asNum v).n, (asNum v).d⟩], s.ts, s.tr⟩, (asNum v).e⟩
  else if c = 115 then ⟨⟨s.ns, s.ts ++ [(asTxt v).t], s.tr⟩, (asTxt v).e⟩
  else ⟨⟨s.ns, s.ts, (asTru v).b⟩, (asTru v).e⟩
def takeL : List UInt8 → List Vl → TkR → TkR
  | c :: cs, v :: vs, r => if (takeStep c v r.s).e.k = 4 then takeStep c v r.s else takeL cs vs (takeStep c v r.s)
  | [], _, r => r
  | _ :: _, [], r => r
def cells2 (x : Nm) : List Value := [.int .i64 x.n, .int .i64 x.d]
theorem cells2_one (x : Nm) : ∀ u ∈ cells2 x, u.oneCell' = true := by
  intro u hu
  simp only [cells2, List.mem_cons, List.mem_nil_iff, or_false] at hu
  rcases hu with rfl | rfl <;> rfl
theorem zero_nm : ∃ i, Tryz.prog.info? 24 = some i ∧ i.zero = some (.agg #[.int .i64 0, .int .i64 0]) ∧ i.size = 2 ∧ i.bytes = 16 := by
  have h : (Tryz.prog.info? 24).map (fun i => (i.zero, i.size, i.bytes)) = some (some (.agg #[.int .i64 0, .int .i64 0]), 2, 16) := by kernel_rfl
  cases hi : Tryz.prog.info? 24 with
  | none => rw [hi] at h; cases h
  | some i => rw [hi] at h; simp only [Option.map_some, Option.some.injEq, Prod.mk.injEq] at h; exact ⟨i, rfl, h.1, h.2.1, h.2.2⟩
/-- Rows of elements of two types lie apart. -/
theorem rows_apart {w : World} {B B' e e' z z' n n' : Nat} {v v' : Value} {xs xs' : List Value} (h : w.ownsRow B e z v n xs) (h' : w.ownsRow B' e' z' v' n' xs') (hne : e ≠ e') : v.ownBlock = none ∨ v.ownBlock ≠ v'.ownBlock := by
  rcases h.2 with ⟨rfl, _⟩ | ⟨g, cap, cur, rfl, _, hgg, _⟩
  · exact .inl rfl
  · rcases h'.2 with ⟨rfl, _⟩ | ⟨g', cap', cur', rfl, _, hgg', _⟩
    · exact .inr (by simp [Value.ownBlock])
    · refine .inr fun he => ?_
      simp only [Value.ownBlock, Option.some.injEq] at he
      subst he
      rw [hgg] at hgg'
      simp only [Option.some.injEq, Obj.cells.injEq] at hgg'
      exact hne hgg'.2.1
/-- A block that an append leaves. -/
theorem Blk.grown {w w' : World} {b : Nat} {arr : Array Value} {t : TypeId} {row : Option Nat} (h : Blk w b arr t) (hg : w.grownBy w' row) (hne : some b ≠ row) : Blk w' b arr t := (hg.block b h.lt hne).trans h
theorem Blk.put6 {w : World} {b : Nat} {u : Vl} {t : TypeId} (h : Blk w b (vArr u) t) (v : Vl) :
    Blk ((((((w.setCell ⟨b, 0, none⟩ (.int .i64 v.k)).setCell ⟨b, 1, none⟩ (.int .i64 v.n)).setCell ⟨b, 2, none⟩ (.int .i64 v.d)).setCell ⟨b, 3, none⟩ (.string v.t)).setCell ⟨b, 4, none⟩ (.bool v.b)).setCell ⟨b, 5, none⟩ (.int .i64 v.f)) b (vArr v) t :=
  ((((((h.set 0 (.int .i64 v.k)).set 1 (.int .i64 v.n)).set 2 (.int .i64 v.d)).set 3 (.string v.t)).set 4 (.bool v.b)).set 5 (.int .i64 v.f)).cast rfl
theorem own_slice {w : World} {B e z n : Nat} {v : Value} {xs : List Value} (h : w.ownsRow B e z v n xs) : ∃ a l c, v = .slice a l c := by
  rcases h.2 with ⟨rfl, _⟩ | ⟨g, cap, cur, rfl, _⟩
  · exact ⟨_, _, _, rfl⟩
  · exact ⟨_, _, _, rfl⟩
structure TkI (w : World) (sh : ByteArray) (vs : List Vl) (F : TkR) (i : Value) (k : Nat) (S : TkR) (sN sT : Value) (wr : World) : Prop where
  le : k ≤ vs.length
  i : i = .int .i64 k
  go : takeL (sh.data.toList.drop k) (vs.drop k) S = F
  a : Blk wr w.heap.size #[sN, sT, .bool S.s.tr] 68
  b : Blk wr (w.heap.size + 1) (vArr S.e) 26
  n : wr.ownsRow (w.heap.size + 2) 24 2 sN S.s.ns.length (S.s.ns.flatMap cells2)
  t : wr.ownsRow (w.heap.size + 2) 9 1 sT S.s.ts.length (S.s.ts.map Value.string)
  ln : S.s.ns.length ≤ k
  lt : S.s.ts.length ≤ k
  below : Below w.heap.size w wr
  sz : w.heap.size + 2 ≤ wr.heap.size

set_option maxRecDepth 100000 in
set_option maxHeartbeats 4000000 in
theorem funcs_take (sh : ByteArray) (vs : List Vl) (la : Option Addr) (n lc : Nat) (w : World) (hn : vs.length = n) (hle : n ≤ sh.size) (hsh : sh.size ≤ 1000) (hin : ∀ v ∈ vs, v.In) (hc : ValAt w la vs) (hp : Pow10 w) :
    Calls Tryz.prog 33 #[.string sh, .slice la n lc] w fun e w' => ∃ sN sT, e = .returned (.tuple #[.agg #[sN, sT, .bool (takeL sh.data.toList vs ⟨⟨[], [], false⟩, blankV⟩).s.tr], .agg #[.int .i64 ((takeL sh.data.toList vs ⟨⟨[], [], false⟩, blankV⟩).e).k, .int .i64 ((takeL sh.data.toList vs ⟨⟨[], [], false⟩, blankV⟩).e).n, .int .i64 ((takeL sh.data.toList vs ⟨⟨[], [], false⟩, blankV⟩).e).d, .string ((takeL sh.data.toList vs ⟨⟨[], [], false⟩, blankV⟩).e).t, .bool ((takeL sh.data.toList vs ⟨⟨[], [], false⟩, blankV⟩).e).b, .int .i64 ((takeL sh.data.toList vs ⟨⟨[], [], false⟩, blankV⟩).e).f]]) ∧ Below w.heap.size w w' ∧
      w'.ownsRow w.heap.size 24 2 sN (takeL sh.data.toList vs ⟨⟨[], [], false⟩, blankV⟩).s.ns.length ((takeL sh.data.toList vs ⟨⟨[], [], false⟩, blankV⟩).s.ns.flatMap cells2) ∧
      w'.ownsRow w.heap.size 9 1 sT (takeL sh.data.toList vs ⟨⟨[], [], false⟩, blankV⟩).s.ts.length ((takeL sh.data.toList vs ⟨⟨[], [], false⟩, blankV⟩).s.ts.map Value.string) := by
  have HI := Lib.hid hin
  have HC := Lib.hid hc
  have HN := Lib.hid hn
  have HP := Lib.hid fun wx h => hp.below (w' := wx) h
  have HF := Lib.hid (show takeL sh.data.toList vs ⟨⟨[], [], false⟩, blankV⟩ = takeL sh.data.toList vs ⟨⟨[], [], false⟩, blankV⟩ from rfl)
  generalize hF : takeL sh.data.toList vs ⟨⟨[], [], false⟩, blankV⟩ = F at *
  clear hin hc hn HF
  have HF := Lib.hid hF
  clear hF
  obtain ⟨i1, hi1, hz1, hsz1, hby1⟩ := zero_nm
  obtain ⟨i2, hi2, hz2, hsz2, hby2⟩ := zero_str
  go_enter Tryz.func33, Tryz.ntmps33
  go_wp2
  go_loopw [12] (fun i wr => ∃ k S sN sT, TkI w sh vs F i k S sN sT wr) (fun i _ => n - (intOf i).toNat)
  case atStart =>
    refine ⟨0, ⟨⟨[], [], false⟩, blankV⟩, .slice none 0 0, .slice none 0 0, Nat.zero_le _, rfl, HF.out, ?_, ?_, World.ownsRow_nil _ _ _ _, World.ownsRow_nil _ _ _ _, Nat.le_refl _, Nat.le_refl _, ?_, ?_⟩
    · exact Blk.alloc (heap_alloc_new _ _) _
    · have h := heap_alloc_new (w.alloc (.cells #[.slice none 0 0, .slice none 0 0, .bool false] 68)) (.cells (vArr blankV) 26)
      rw [sz_alloc] at h
      exact h
    · focus
        repeat with_reducible first | exact Below.refl _ _ | refine below_drewN ?_ _ | refine Below.drew ?_ | refine Below.setCell ?_ ?_ _ | refine Below.alloc ?_ ?_ _ | refine below_then ?_ ?_ (by with_reducible assumption)
        all_goals first | omega | (simp only [sA, sC, sD, sE]; omega) | (simp; done) | (simp; omega)
    · simp only [sz_alloc]; omega
  case round =>
    obtain ⟨k, S, sN, sT, hk, rfl, hgo, hA, hB, hoN, hoT, hln, hlt', hbk, hsz⟩ := hrel
    obtain ⟨aN, lN, cN, rfl⟩ := own_slice hoN
    obtain ⟨aT, lT, cT, rfl⟩ := own_slice hoT
    rw [HN.out] at hk
    by_cases hlt : k < n
    · obtain ⟨g, off, rfl, hgw, hrow⟩ := HC.out (by rw [HN.out]; omega)
      have hkv : k < vs.length := by rw [HN.out]; exact hlt
      obtain ⟨v, hv⟩ : ∃ v, vs[k]? = some v := ⟨_, List.getElem?_eq_getElem hkv⟩
      obtain ⟨c0, c1, c2, c3, c4, c5⟩ := (hrow.below hgw hbk) k v hv
      have hvin := HI.out v (List.mem_of_getElem? hv)
      have hks : k < sh.size := by omega
      have hstep : takeL (sh.data.toList.drop k) (vs.drop k) S = if (takeStep sh[k] v S.s).e.k = 4 then takeStep sh[k] v S.s else takeL (sh.data.toList.drop (k + 1)) (vs.drop (k + 1)) (takeStep sh[k] v S.s) := by
        rw [drop_cons sh k hks, List.drop_eq_getElem_cons hkv, show vs[k] = v from Option.some.inj ((List.getElem?_eq_getElem hkv).symm.trans hv)]
        rfl
      rw [hgo] at hstep
      have HG := Lib.hid hstep
      clear hstep hgo hv hrow
      obtain ⟨R, hR⟩ : ∃ R, R = takeStep sh[k] v S.s := ⟨_, rfl⟩
      rw [← hR] at HG
      obtain ⟨c, hcc⟩ : ∃ c, c = sh[k] := ⟨_, rfl⟩
      have HR := Lib.hid hR
      clear hR
      rw [← hcc] at HR
      have sw := hbk.size
      go_upto_region 4 with (fail)
      go_upto_region 6 with (fail)
      rw [← hcc]
      clear hcc
      by_cases h110 : c = 110
      · subst h110
        have hRN : R = ⟨⟨S.s.ns ++ [⟨(asNum v).n, (asNum v).d⟩], S.s.ts, S.s.tr⟩, (asNum v).e⟩ := by rw [HR.out]; rfl
        have HV := Lib.hid fun wx => value_AsNumber v.k v.n v.d v.t v.b v.f wx hvin
        have HV : Hid (∀ wx : World, Calls Tryz.prog 66 #[.agg #[.int .i64 (v).k, .int .i64 (v).n, .int .i64 (v).d, .string (v).t, .bool (v).b, .int .i64 (v).f]] wx fun e w' => e = .returned (.tuple #[.agg #[.int .i64 (asNum v).n, .int .i64 (asNum v).d], .agg #[.int .i64 ((asNum v).e).k, .int .i64 ((asNum v).e).n, .int .i64 ((asNum v).e).d, .string ((asNum v).e).t, .bool ((asNum v).e).b, .int .i64 ((asNum v).e).f]]) ∧ Below wx.heap.size wx w') := fun wx => HV.out wx
        generalize asNum v = q at *
        have HRN := Lib.hid hRN
        clear hRN
        have HH0 := Lib.hid (And.intro hoN hoT)
        have HH := Lib.hid (And.intro hA (And.intro hB (And.intro hoN (And.intro hoT hbk))))
        have a0 := hA.cell 0
        have a1 := hA.cell 1
        have a2 := hA.cell 2
        simp only [List.getElem?_toArray, List.getElem?_cons_zero, List.getElem?_cons_succ] at a0 a1 a2
        clear hA hB hoN hoT hbk
        go_wp2_with fail
        refine (HV.out _).mono ?_
        rintro e w2 ⟨rfl, hb2⟩
        obtain ⟨hA, hB, hoN, hoT, hbk⟩ := HH.out
        have A2 := ((hA.alloc _).alloc _).below hb2
        have B2 := ((hB.alloc _).alloc _).below hb2
        have N2 : Blk w2 (wr.heap.size + 1) #[.int .i64 0, .int .i64 0] 24 := by
          refine Blk.below ?_ hb2
          have h := heap_alloc_new (wr.alloc (.cells (vArr v) 26)) (.cells #[.int .i64 0, .int .i64 0] 24)
          rw [sz_alloc] at h
          exact h
        have oN2 := own_below ((hoN.alloc _).alloc _) hb2
        have oT2 := own_below ((hoT.alloc _).alloc _) hb2
        have s2 := hb2.size
        simp only [sz_alloc] at s2
        have hbk2 : Below w.heap.size w w2 := (((hbk.alloc (by omega) _).alloc (by simp only [sz_alloc]; omega) _)).trans (hb2.mono (by simp only [sz_alloc]; omega))
        have fN2 := N2.free
        have fB := B2.free
        have lN2 := N2.lt
        have lB := B2.lt
        have HH2 := Lib.hid (And.intro A2 (And.intro B2 (And.intro N2 (And.intro oN2 (And.intro oT2 hbk2)))))
        have x0 := N2.cell 0
        have x1 := N2.cell 1
        have y0 := A2.cell 0
        obtain ⟨z0, z1, z2, z3, z4, z5⟩ := B2.v6
        simp only [List.getElem?_toArray, List.getElem?_cons_zero, List.getElem?_cons_succ] at x0 x1 y0
        clear hA hB hoN hoT hbk A2 B2 N2 oN2 oT2 hbk2 hb2 HH
        go_upto_region 9 with (fail)
        first | with_reducible refine wp_rebase ?_ | with_reducible refine wpList_rebase ?_
        intro w3 hb3'
        have hb3 := hb3'.out
        clear hb3'
        obtain ⟨A2, B2, N2, oN2, oT2, hbk2⟩ := HH2.out
        have A3 : Blk w3 w.heap.size #[.slice aN lN cN, .slice aT lT cT, .bool S.s.tr] 68 := by
          refine Blk.below ?_ hb3
          repeat (with_reducible refine Blk.set_ne ?_ (by omega) _)
          exact A2
        have ne1 : w.heap.size + 1 ≠ wr.heap.size + 1 := by omega
        have B3 : Blk w3 (w.heap.size + 1) (vArr q.e) 26 := (((B2.set_ne ne1 _).set_ne ne1 _).put6 q.e).below hb3
        have N3 : Blk w3 (wr.heap.size + 1) (cells2 ⟨q.n, q.d⟩).toArray 24 := by
          refine Blk.below ?_ hb3
          repeat (with_reducible refine Blk.set_ne ?_ (by omega) _)
          exact ((N2.set 0 (.int .i64 q.n)).set 1 (.int .i64 q.d)).cast rfl
        have oN3 : w3.ownsRow (w.heap.size + 2) 24 2 (.slice aN lN cN) S.s.ns.length (S.s.ns.flatMap cells2) := by
          refine own_below ?_ hb3
          repeat (with_reducible refine ownsRow_setCell_below ?_ (by show w.heap.size + 1 < _; omega) _)
          have hx : (Value.slice aN lN cN).ownBlock ≠ some (wr.heap.size + 1) := fun h => by have := ((HH0.out).1.lt _ h).2; omega
          exact ownsRow_setCell_other (ownsRow_setCell_other oN2 hx _) hx _
        have oT3 : w3.ownsRow (w.heap.size + 2) 9 1 (.slice aT lT cT) S.s.ts.length (S.s.ts.map Value.string) := by
          refine own_below ?_ hb3
          repeat (with_reducible refine ownsRow_setCell_below ?_ (by show w.heap.size + 1 < _; omega) _)
          have hx : (Value.slice aT lT cT).ownBlock ≠ some (wr.heap.size + 1) := fun h => by have := ((HH0.out).2.lt _ h).2; omega
          exact ownsRow_setCell_other (ownsRow_setCell_other oT2 hx _) hx _
        have s3 := hb3.size
        simp only [sz_setCell] at s3
        have HH3 := Lib.hid (And.intro A3 (And.intro B3 (And.intro oN3 (And.intro oT3 (And.intro hbk2 hb3)))))
        have n0 := N3.cell 0
        have n1 := N3.cell 1
        have u0 := A3.cell 0
        have fA := A3.free
        have lA := A3.lt
        have lN3 := N3.lt
        simp only [cells2, List.getElem?_toArray, List.getElem?_cons_zero, List.getElem?_cons_succ] at n0 n1 u0
        clear x0 x1 y0 z0 z1 z2 z3 z4 z5 fN2 fB lN2 lB A2 B2 N2 oN2 oT2 A3 B3 N3 HH2
        have hbk3 : Below w.heap.size w w3 := by
          have h1 := HH3.out.2.2.2.2.1
          have h2 := HH3.out.2.2.2.2.2
          focus
            repeat with_reducible first | exact Below.refl _ _ | refine below_drewN ?_ _ | refine Below.drew ?_ | refine Below.setCell ?_ ?_ _ | refine Below.alloc ?_ ?_ _ | refine below_then ?_ ?_ (by with_reducible assumption)
            all_goals first | omega | (simp only [sA, sC, sD, sE]; omega) | (simp; done) | (simp; omega)
        cases h4 : (q.e.k == 4)
        · have h4' : ¬ q.e.k = 4 := by simpa using h4
          go_wp2_with (first
            | (at_builtin
               refine wpList_append_lies _ rfl _ _ 65 rfl (w.heap.size + 2) 24 i1 _ 2 16 Tryz.underlying65 hi1 hz1 hsz1 hby1 rfl (by decide) _ S.s.ns.length _ rfl (oN3.alloc _) ⟨w3.heap.size, 0, none⟩ 1 1 (cells2 ⟨q.n, q.d⟩) rfl rfl (World.news_of_block (heap_alloc_new _ _)) (cells2_one _) (by decide) (by unfold maxLen; omega) (by omega) (by simp only [sz_alloc]; omega) _ rfl ?_
               intro gx capx w4 hown4 hgrow4 hat4 hlt4
               have A4 := (HH3.out.1.alloc _).grown hgrow4 (own_ne oN3 (by omega))
               have B4 := (HH3.out.2.1.alloc _).grown hgrow4 (own_ne oN3 (by omega))
               have oT4 := (oT3.alloc _).kept hgrow4 (rows_apart oT3 oN3 (by decide))
               have hbk4 := below_grownBy (hbk3.alloc (by omega) _) hgrow4 (own_mono (oN3.alloc _) (by omega)) (by simp only [sz_alloc]; omega)
               have fA4 := A4.free
               have fB4 := B4.free
               have lA4 := A4.lt
               have lB4 := B4.lt
               have y0 := A4.cell 0
               have y1 := A4.cell 1
               have y2 := A4.cell 2
               obtain ⟨z0, z1, z2, z3, z4, z5⟩ := B4.v6
               simp only [List.getElem?_toArray, List.getElem?_cons_zero, List.getElem?_cons_succ] at y0 y1 y2
               have HH4 := Lib.hid (And.intro A4 (And.intro B4 (And.intro hown4 (And.intro oT4 hbk4))))
               clear A4 B4 hown4 oT4 hbk4 hgrow4 hat4)
            | fail)
          go_roundw
          case rel =>
            obtain ⟨A4, B4, hown4, oT4, hbk4⟩ := HH4.out
            have hg := HG.out
            rw [if_neg (by rw [HRN.out]; exact h4')] at hg
            rw [HRN.out] at hg
            refine ⟨k + 1, _, .slice (some ⟨gx, 0, none⟩) (S.s.ns.length + 1) capx, .slice aT lT cT, by rw [HN.out]; omega, by go_num, hg.symm, (A4.set 0 _).cast rfl, B4.set_ne (by omega) _, ?_, ?_, ?_, ?_, ?_, ?_⟩
            · have e1 : (S.s.ns ++ [(⟨q.n, q.d⟩ : Nm)]).flatMap cells2 = S.s.ns.flatMap cells2 ++ cells2 ⟨q.n, q.d⟩ := by simp
              have e2 : (S.s.ns ++ [(⟨q.n, q.d⟩ : Nm)]).length = S.s.ns.length + 1 := by simp
              show World.ownsRow _ _ _ _ _ (S.s.ns ++ [(⟨q.n, q.d⟩ : Nm)]).length ((S.s.ns ++ [(⟨q.n, q.d⟩ : Nm)]).flatMap cells2)
              rw [e1, e2]
              exact ownsRow_setCell_below hown4 (by show w.heap.size < _; omega) _
            · exact ownsRow_setCell_below oT4 (by show w.heap.size < _; omega) _
            · simp; omega
            · show S.s.ts.length ≤ k + 1; omega
            · exact hbk4.setCell (Nat.le_refl _) _
            · simp only [sz_setCell]; omega
          case measure => simp [intOf]; omega
        · have H4 : Hid (q.e.k = 4) := by simpa [Hid] using h4
          go_wp2_with (first
            | (at_builtin
               refine wpList_append_lies _ rfl _ _ 65 rfl (w.heap.size + 2) 24 i1 _ 2 16 Tryz.underlying65 hi1 hz1 hsz1 hby1 rfl (by decide) _ S.s.ns.length _ rfl (oN3.alloc _) ⟨w3.heap.size, 0, none⟩ 1 1 (cells2 ⟨q.n, q.d⟩) rfl rfl (World.news_of_block (heap_alloc_new _ _)) (cells2_one _) (by decide) (by unfold maxLen; omega) (by omega) (by simp only [sz_alloc]; omega) _ rfl ?_
               intro gx capx w4 hown4 hgrow4 hat4 hlt4
               have A4 := (HH3.out.1.alloc _).grown hgrow4 (own_ne oN3 (by omega))
               have B4 := (HH3.out.2.1.alloc _).grown hgrow4 (own_ne oN3 (by omega))
               have oT4 := (oT3.alloc _).kept hgrow4 (rows_apart oT3 oN3 (by decide))
               have hbk4 := below_grownBy (hbk3.alloc (by omega) _) hgrow4 (own_mono (oN3.alloc _) (by omega)) (by simp only [sz_alloc]; omega)
               have fA4 := A4.free
               have fB4 := B4.free
               have lA4 := A4.lt
               have lB4 := B4.lt
               have y0 := A4.cell 0
               have y1 := A4.cell 1
               have y2 := A4.cell 2
               obtain ⟨z0, z1, z2, z3, z4, z5⟩ := B4.v6
               simp only [List.getElem?_toArray, List.getElem?_cons_zero, List.getElem?_cons_succ] at y0 y1 y2
               have HH4 := Lib.hid (And.intro A4 (And.intro B4 (And.intro hown4 (And.intro oT4 hbk4))))
               clear A4 B4 hown4 oT4 hbk4 hgrow4 hat4)
            | fail)
          go_region_held3 (fun w' => w'.cell? ⟨w.heap.size, 0, none⟩ = some (.slice (some ⟨gx, 0, none⟩) (S.s.ns.length + 1) capx) ∧ w'.cell? ⟨w.heap.size, 1, none⟩ = some (.slice aT lT cT) ∧ w'.cell? ⟨w.heap.size, 2, none⟩ = some (.bool S.s.tr) ∧ w'.cell? ⟨w.heap.size + 1, 0, none⟩ = some (.int .i64 q.e.k) ∧ w'.cell? ⟨w.heap.size + 1, 1, none⟩ = some (.int .i64 q.e.n) ∧ w'.cell? ⟨w.heap.size + 1, 2, none⟩ = some (.int .i64 q.e.d) ∧ w'.cell? ⟨w.heap.size + 1, 3, none⟩ = some (.string q.e.t) ∧ w'.cell? ⟨w.heap.size + 1, 4, none⟩ = some (.bool q.e.b) ∧ w'.cell? ⟨w.heap.size + 1, 5, none⟩ = some (.int .i64 q.e.f)) ((first | (refine ⟨?_, ?_, ?_, ?_, ?_, ?_, ?_, ?_, ?_⟩ <;> (go_simp; done)) | go_keep)) (fail)
          rename_i kK kA hHeld
          clear hHeld
          go_wp2
          have hg := HG.out
          rw [if_pos (by rw [HRN.out]; exact H4.out), HRN.out] at hg
          obtain ⟨A4, B4, hown4, oT4, hbk4⟩ := HH4.out
          rw [hg]
          refine bodyPost_ret (v := .tuple #[.agg #[.slice (some ⟨gx, 0, none⟩) (S.s.ns.length + 1) capx, .slice aT lT cT, .bool S.s.tr], .agg #[.int .i64 (q.e).k, .int .i64 (q.e).n, .int .i64 (q.e).d, .string (q.e).t, .bool (q.e).b, .int .i64 (q.e).f]]) (by simp [results, Tryz.results33, go_sem, z0, z1, z2, z3, z4, z5, y0, y1, y2, fA4, fB4, lA4, lB4, -beq_iff_eq]) rfl ⟨_, _, rfl, ?_, ?_, ?_⟩
          · skip
            focus
              repeat with_reducible first | exact Below.refl _ _ | refine below_drewN ?_ _ | refine Below.drew ?_ | refine Below.setCell ?_ ?_ _ | refine Below.alloc ?_ ?_ _ | refine below_then ?_ ?_ (by with_reducible assumption)
              all_goals first | omega | (simp only [sA, sC, sD, sE]; omega) | (simp; done) | (simp; omega)
          · have e1 : (S.s.ns ++ [(⟨q.n, q.d⟩ : Nm)]).flatMap cells2 = S.s.ns.flatMap cells2 ++ cells2 ⟨q.n, q.d⟩ := by simp
            have e2 : (S.s.ns ++ [(⟨q.n, q.d⟩ : Nm)]).length = S.s.ns.length + 1 := by simp
            show World.ownsRow _ _ _ _ _ (S.s.ns ++ [(⟨q.n, q.d⟩ : Nm)]).length ((S.s.ns ++ [(⟨q.n, q.d⟩ : Nm)]).flatMap cells2)
            rw [e1, e2]
            refine own_mono (base := w.heap.size + 2) ?_ (by omega)
            refine World.ownsRow.drew ?_
            repeat (with_reducible refine ownsRow_setCell_below ?_ (by first | (show w.heap.size < _; omega) | (show w.heap.size + 1 < _; omega)) _)
            exact hown4
          · refine own_mono (base := w.heap.size + 2) ?_ (by omega)
            refine World.ownsRow.drew ?_
            repeat (with_reducible refine ownsRow_setCell_below ?_ (by first | (show w.heap.size < _; omega) | (show w.heap.size + 1 < _; omega)) _)
            exact oT4
      · by_cases h115 : c = 115
        · subst h115
          have hRN : R = ⟨⟨S.s.ns, S.s.ts ++ [(asTxt v).t], S.s.tr⟩, (asTxt v).e⟩ := by rw [HR.out]; rfl
          have HV : Hid (∀ wx : World, Below w.heap.size w wx → Calls Tryz.prog 65 #[.agg #[.int .i64 (v).k, .int .i64 (v).n, .int .i64 (v).d, .string (v).t, .bool (v).b, .int .i64 (v).f]] wx fun e w' => e = .returned (.tuple #[.string (asTxt v).t, .agg #[.int .i64 ((asTxt v).e).k, .int .i64 ((asTxt v).e).n, .int .i64 ((asTxt v).e).d, .string ((asTxt v).e).t, .bool ((asTxt v).e).b, .int .i64 ((asTxt v).e).f]]) ∧ Below wx.heap.size wx w') := fun wx h => value_AsText v.k v.n v.d v.t v.b v.f wx hvin (HP.out wx h)
          generalize asTxt v = q at *
          have HRN := Lib.hid hRN
          clear hRN
          have HH0 := Lib.hid (And.intro hoN hoT)
          have HH := Lib.hid (And.intro hA (And.intro hB (And.intro hoN (And.intro hoT hbk))))
          have a0 := hA.cell 0
          have a1 := hA.cell 1
          have a2 := hA.cell 2
          simp only [List.getElem?_toArray, List.getElem?_cons_zero, List.getElem?_cons_succ] at a0 a1 a2
          clear hA hB hoN hoT hbk
          go_wp2_with fail
          refine (HV.out _ ?_).mono ?_
          · have hbk := HH.out.2.2.2.2
            focus
              repeat with_reducible first | exact Below.refl _ _ | refine below_drewN ?_ _ | refine Below.drew ?_ | refine Below.setCell ?_ ?_ _ | refine Below.alloc ?_ ?_ _ | refine below_then ?_ ?_ (by with_reducible assumption)
              all_goals first | omega | (simp only [sA, sC, sD, sE]; omega) | (simp; done) | (simp; omega)
          rintro e w2 ⟨rfl, hb2⟩
          obtain ⟨hA, hB, hoN, hoT, hbk⟩ := HH.out
          have A2 := (hA.alloc _).below hb2
          have B2 := (hB.alloc _).below hb2
          have oN2 := own_below (hoN.alloc _) hb2
          have oT2 := own_below (hoT.alloc _) hb2
          have s2 := hb2.size
          simp only [sz_alloc] at s2
          have hbk2 : Below w.heap.size w w2 := (hbk.alloc (by omega) _).trans (hb2.mono (by simp only [sz_alloc]; omega))
          have fB := B2.free
          have lB := B2.lt
          have HH2 := Lib.hid (And.intro A2 (And.intro B2 (And.intro oN2 (And.intro oT2 hbk2))))
          have y0 := A2.cell 0
          obtain ⟨z0, z1, z2, z3, z4, z5⟩ := B2.v6
          simp only [List.getElem?_toArray, List.getElem?_cons_zero, List.getElem?_cons_succ] at y0
          clear hA hB hoN hoT hbk A2 B2 oN2 oT2 hbk2 hb2 HH
          go_upto_region 13 with (fail)
          first | with_reducible refine wp_rebase ?_ | with_reducible refine wpList_rebase ?_
          intro w3 hb3'
          have hb3 := hb3'.out
          clear hb3'
          obtain ⟨A2, B2, oN2, oT2, hbk2⟩ := HH2.out
          have A3 : Blk w3 w.heap.size #[.slice aN lN cN, .slice aT lT cT, .bool S.s.tr] 68 := by
            refine Blk.below ?_ hb3
            repeat (with_reducible refine Blk.set_ne ?_ (by omega) _)
            exact A2
          have B3 : Blk w3 (w.heap.size + 1) (vArr q.e) 26 := (B2.put6 q.e).below hb3
          have oN3 : w3.ownsRow (w.heap.size + 2) 24 2 (.slice aN lN cN) S.s.ns.length (S.s.ns.flatMap cells2) := by
            refine own_below ?_ hb3
            repeat (with_reducible refine ownsRow_setCell_below ?_ (by show w.heap.size + 1 < _; omega) _)
            exact oN2
          have oT3 : w3.ownsRow (w.heap.size + 2) 9 1 (.slice aT lT cT) S.s.ts.length (S.s.ts.map Value.string) := by
            refine own_below ?_ hb3
            repeat (with_reducible refine ownsRow_setCell_below ?_ (by show w.heap.size + 1 < _; omega) _)
            exact oT2
          have s3 := hb3.size
          simp only [sz_setCell] at s3
          have HH3 := Lib.hid (And.intro A3 (And.intro B3 (And.intro oN3 (And.intro oT3 (And.intro hbk2 hb3)))))
          have u0 := A3.cell 1
          have fA := A3.free
          have lA := A3.lt
          simp only [List.getElem?_toArray, List.getElem?_cons_zero, List.getElem?_cons_succ] at u0
          clear y0 z0 z1 z2 z3 z4 z5 fB lB A2 B2 oN2 oT2 A3 B3 HH2
          have hbk3 : Below w.heap.size w w3 := by
            have h1 := HH3.out.2.2.2.2.1
            have h2 := HH3.out.2.2.2.2.2
            focus
              repeat with_reducible first | exact Below.refl _ _ | refine below_drewN ?_ _ | refine Below.drew ?_ | refine Below.setCell ?_ ?_ _ | refine Below.alloc ?_ ?_ _ | refine below_then ?_ ?_ (by with_reducible assumption)
              all_goals first | omega | (simp only [sA, sC, sD, sE]; omega) | (simp; done) | (simp; omega)
          cases h4 : (q.e.k == 4)
          · have h4' : ¬ q.e.k = 4 := by simpa using h4
            go_wp2_with (first
              | (at_builtin
                 refine wpList_append_lies _ rfl _ _ 66 rfl (w.heap.size + 2) 9 i2 _ 1 16 Tryz.underlying66 hi2 hz2 hsz2 hby2 rfl (by decide) _ S.s.ts.length _ rfl (oT3.alloc _) ⟨w3.heap.size, 0, none⟩ 1 1 [.string q.t] rfl rfl (World.news_of_block (heap_alloc_new _ _)) (by intro u hu; simp at hu; subst hu; rfl) (by decide) (by unfold maxLen; omega) (by omega) (by simp only [sz_alloc]; omega) _ rfl ?_
                 intro gx capx w4 hown4 hgrow4 hat4 hlt4
                 have A4 := (HH3.out.1.alloc _).grown hgrow4 (own_ne oT3 (by omega))
                 have B4 := (HH3.out.2.1.alloc _).grown hgrow4 (own_ne oT3 (by omega))
                 have oN4 := (oN3.alloc _).kept hgrow4 (rows_apart oN3 oT3 (by decide))
                 have hbk4 := below_grownBy (hbk3.alloc (by omega) _) hgrow4 (own_mono (oT3.alloc _) (by omega)) (by simp only [sz_alloc]; omega)
                 have fA4 := A4.free
                 have fB4 := B4.free
                 have lA4 := A4.lt
                 have lB4 := B4.lt
                 have y0 := A4.cell 0
                 have y1 := A4.cell 1
                 have y2 := A4.cell 2
                 obtain ⟨z0, z1, z2, z3, z4, z5⟩ := B4.v6
                 simp only [List.getElem?_toArray, List.getElem?_cons_zero, List.getElem?_cons_succ] at y0 y1 y2
                 have HH4 := Lib.hid (And.intro A4 (And.intro B4 (And.intro oN4 (And.intro hown4 hbk4))))
                 clear A4 B4 hown4 oN4 hbk4 hgrow4 hat4)
              | fail)
            go_roundw
            case rel =>
              obtain ⟨A4, B4, oN4, hown4, hbk4⟩ := HH4.out
              have hg := HG.out
              rw [if_neg (by rw [HRN.out]; exact h4')] at hg
              rw [HRN.out] at hg
              refine ⟨k + 1, _, .slice aN lN cN, .slice (some ⟨gx, 0, none⟩) (S.s.ts.length + 1) capx, by rw [HN.out]; omega, by go_num, hg.symm, (A4.set 1 _).cast rfl, B4.set_ne (by omega) _, ?_, ?_, ?_, ?_, ?_, ?_⟩
              · exact ownsRow_setCell_below oN4 (by show w.heap.size < _; omega) _
              · have e1 : (S.s.ts ++ [q.t]).map Value.string = S.s.ts.map Value.string ++ [Value.string q.t] := by simp
                have e2 : (S.s.ts ++ [q.t]).length = S.s.ts.length + 1 := by simp
                show World.ownsRow _ _ _ _ _ (S.s.ts ++ [q.t]).length ((S.s.ts ++ [q.t]).map Value.string)
                rw [e1, e2]
                exact ownsRow_setCell_below hown4 (by show w.heap.size < _; omega) _
              · show S.s.ns.length ≤ k + 1; omega
              · simp; omega
              · exact hbk4.setCell (Nat.le_refl _) _
              · simp only [sz_setCell]; omega
            case measure => simp [intOf]; omega
          · have H4 : Hid (q.e.k = 4) := by simpa [Hid] using h4
            go_wp2_with (first
              | (at_builtin
                 refine wpList_append_lies _ rfl _ _ 66 rfl (w.heap.size + 2) 9 i2 _ 1 16 Tryz.underlying66 hi2 hz2 hsz2 hby2 rfl (by decide) _ S.s.ts.length _ rfl (oT3.alloc _) ⟨w3.heap.size, 0, none⟩ 1 1 [.string q.t] rfl rfl (World.news_of_block (heap_alloc_new _ _)) (by intro u hu; simp at hu; subst hu; rfl) (by decide) (by unfold maxLen; omega) (by omega) (by simp only [sz_alloc]; omega) _ rfl ?_
                 intro gx capx w4 hown4 hgrow4 hat4 hlt4
                 have A4 := (HH3.out.1.alloc _).grown hgrow4 (own_ne oT3 (by omega))
                 have B4 := (HH3.out.2.1.alloc _).grown hgrow4 (own_ne oT3 (by omega))
                 have oN4 := (oN3.alloc _).kept hgrow4 (rows_apart oN3 oT3 (by decide))
                 have hbk4 := below_grownBy (hbk3.alloc (by omega) _) hgrow4 (own_mono (oT3.alloc _) (by omega)) (by simp only [sz_alloc]; omega)
                 have fA4 := A4.free
                 have fB4 := B4.free
                 have lA4 := A4.lt
                 have lB4 := B4.lt
                 have y0 := A4.cell 0
                 have y1 := A4.cell 1
                 have y2 := A4.cell 2
                 obtain ⟨z0, z1, z2, z3, z4, z5⟩ := B4.v6
                 simp only [List.getElem?_toArray, List.getElem?_cons_zero, List.getElem?_cons_succ] at y0 y1 y2
                 have HH4 := Lib.hid (And.intro A4 (And.intro B4 (And.intro oN4 (And.intro hown4 hbk4))))
                 clear A4 B4 hown4 oN4 hbk4 hgrow4 hat4)
              | fail)
            go_region_held3 (fun w' => w'.cell? ⟨w.heap.size, 0, none⟩ = some (.slice aN lN cN) ∧ w'.cell? ⟨w.heap.size, 1, none⟩ = some (.slice (some ⟨gx, 0, none⟩) (S.s.ts.length + 1) capx) ∧ w'.cell? ⟨w.heap.size, 2, none⟩ = some (.bool S.s.tr) ∧ w'.cell? ⟨w.heap.size + 1, 0, none⟩ = some (.int .i64 q.e.k) ∧ w'.cell? ⟨w.heap.size + 1, 1, none⟩ = some (.int .i64 q.e.n) ∧ w'.cell? ⟨w.heap.size + 1, 2, none⟩ = some (.int .i64 q.e.d) ∧ w'.cell? ⟨w.heap.size + 1, 3, none⟩ = some (.string q.e.t) ∧ w'.cell? ⟨w.heap.size + 1, 4, none⟩ = some (.bool q.e.b) ∧ w'.cell? ⟨w.heap.size + 1, 5, none⟩ = some (.int .i64 q.e.f)) ((first | (refine ⟨?_, ?_, ?_, ?_, ?_, ?_, ?_, ?_, ?_⟩ <;> (go_simp; done)) | go_keep)) (fail)
            rename_i kK kA hHeld
            clear hHeld
            go_wp2
            have hg := HG.out
            rw [if_pos (by rw [HRN.out]; exact H4.out), HRN.out] at hg
            obtain ⟨A4, B4, oN4, hown4, hbk4⟩ := HH4.out
            rw [hg]
            refine bodyPost_ret (v := .tuple #[.agg #[.slice aN lN cN, .slice (some ⟨gx, 0, none⟩) (S.s.ts.length + 1) capx, .bool S.s.tr], .agg #[.int .i64 (q.e).k, .int .i64 (q.e).n, .int .i64 (q.e).d, .string (q.e).t, .bool (q.e).b, .int .i64 (q.e).f]]) (by simp [results, Tryz.results33, go_sem, z0, z1, z2, z3, z4, z5, y0, y1, y2, fA4, fB4, lA4, lB4, -beq_iff_eq]) rfl ⟨_, _, rfl, ?_, ?_, ?_⟩
            · skip
              focus
                repeat with_reducible first | exact Below.refl _ _ | refine below_drewN ?_ _ | refine Below.drew ?_ | refine Below.setCell ?_ ?_ _ | refine Below.alloc ?_ ?_ _ | refine below_then ?_ ?_ (by with_reducible assumption)
                all_goals first | omega | (simp only [sA, sC, sD, sE]; omega) | (simp; done) | (simp; omega)
            · refine own_mono (base := w.heap.size + 2) ?_ (by omega)
              refine World.ownsRow.drew ?_
              repeat (with_reducible refine ownsRow_setCell_below ?_ (by first | (show w.heap.size < _; omega) | (show w.heap.size + 1 < _; omega)) _)
              exact oN4
            · have e1 : (S.s.ts ++ [q.t]).map Value.string = S.s.ts.map Value.string ++ [Value.string q.t] := by simp
              have e2 : (S.s.ts ++ [q.t]).length = S.s.ts.length + 1 := by simp
              show World.ownsRow _ _ _ _ _ (S.s.ts ++ [q.t]).length ((S.s.ts ++ [q.t]).map Value.string)
              rw [e1, e2]
              refine own_mono (base := w.heap.size + 2) ?_ (by omega)
              refine World.ownsRow.drew ?_
              repeat (with_reducible refine ownsRow_setCell_below ?_ (by first | (show w.heap.size < _; omega) | (show w.heap.size + 1 < _; omega)) _)
              exact hown4
        · have hRN : R = ⟨⟨S.s.ns, S.s.ts, (asTru v).b⟩, (asTru v).e⟩ := by rw [HR.out]; unfold takeStep; rw [if_neg h110, if_neg h115]
          have HV : Hid (∀ wx : World, Calls Tryz.prog 69 #[.agg #[.int .i64 (v).k, .int .i64 (v).n, .int .i64 (v).d, .string (v).t, .bool (v).b, .int .i64 (v).f]] wx fun e w' => e = .returned (.tuple #[.bool (asTru v).b, .agg #[.int .i64 ((asTru v).e).k, .int .i64 ((asTru v).e).n, .int .i64 ((asTru v).e).d, .string ((asTru v).e).t, .bool ((asTru v).e).b, .int .i64 ((asTru v).e).f]]) ∧ Below wx.heap.size wx w') := fun wx => value_AsTruth v.k v.n v.d v.t v.b v.f wx hvin
          generalize asTru v = q at *
          have HRN := Lib.hid hRN
          clear hRN
          have d1 : ¬ c.toNat = 110 := fun h => h110 (UInt8.toNat_inj.1 h)
          have d2 : ¬ c.toNat = 115 := fun h => h115 (UInt8.toNat_inj.1 h)
          have d1' : ¬ (c.toNat : Int) = 110 := by omega
          have d2' : ¬ (c.toNat : Int) = 115 := by omega
          have b1 : ((c.toNat : Int) == 110) = false := by simp [d1']
          have b2 : ((c.toNat : Int) == 115) = false := by simp [d2']
          have HH := Lib.hid (And.intro hA (And.intro hB (And.intro hoN (And.intro hoT hbk))))
          have a0 := hA.cell 0
          have a1 := hA.cell 1
          have a2 := hA.cell 2
          simp only [List.getElem?_toArray, List.getElem?_cons_zero, List.getElem?_cons_succ] at a0 a1 a2
          clear hA hB hoN hoT hbk
          go_wp2_with fail
          refine (HV.out _).mono ?_
          rintro e w2 ⟨rfl, hb2⟩
          obtain ⟨hA, hB, hoN, hoT, hbk⟩ := HH.out
          have A2 := (hA.alloc _).below hb2
          have B2 := (hB.alloc _).below hb2
          have oN2 := own_below (hoN.alloc _) hb2
          have oT2 := own_below (hoT.alloc _) hb2
          have s2 := hb2.size
          simp only [sz_alloc] at s2
          have hbk2 : Below w.heap.size w w2 := (hbk.alloc (by omega) _).trans (hb2.mono (by simp only [sz_alloc]; omega))
          have fA4 := A2.free
          have fB4 := B2.free
          have lA4 := A2.lt
          have lB4 := B2.lt
          have y0 := A2.cell 0
          have y1 := A2.cell 1
          have y2 := A2.cell 2
          obtain ⟨z0, z1, z2, z3, z4, z5⟩ := B2.v6
          simp only [List.getElem?_toArray, List.getElem?_cons_zero, List.getElem?_cons_succ] at y0 y1 y2
          have HH4 := Lib.hid (And.intro A2 (And.intro B2 (And.intro oN2 (And.intro oT2 hbk2))))
          clear hA hB hoN hoT hbk A2 B2 oN2 oT2 hbk2 hb2 HH
          cases h4 : (q.e.k == 4)
          · have h4' : ¬ q.e.k = 4 := by simpa using h4
            go_wp2
            go_roundw
            case rel =>
              obtain ⟨A4, B4, oN4, oT4, hbk4⟩ := HH4.out
              have hg := HG.out
              rw [if_neg (by rw [HRN.out]; exact h4')] at hg
              rw [HRN.out] at hg
              refine ⟨k + 1, _, .slice aN lN cN, .slice aT lT cT, by rw [HN.out]; omega, by go_num, hg.symm, ?_, ?_, ?_, ?_, ?_, ?_, ?_, ?_⟩
              · repeat (with_reducible refine Blk.set_ne ?_ (by omega) _)
                exact (A4.set 2 (.bool q.b)).cast rfl
              · exact (B4.set_ne (by omega) _).put6 q.e
              · repeat (with_reducible refine ownsRow_setCell_below ?_ (by first | (show w.heap.size < _; omega) | (show w.heap.size + 1 < _; omega)) _)
                exact oN4
              · repeat (with_reducible refine ownsRow_setCell_below ?_ (by first | (show w.heap.size < _; omega) | (show w.heap.size + 1 < _; omega)) _)
                exact oT4
              · show S.s.ns.length ≤ k + 1; omega
              · show S.s.ts.length ≤ k + 1; omega
              · skip
                focus
                  repeat with_reducible first | exact Below.refl _ _ | refine below_drewN ?_ _ | refine Below.drew ?_ | refine Below.setCell ?_ ?_ _ | refine Below.alloc ?_ ?_ _ | refine below_then ?_ ?_ (by with_reducible assumption)
                  all_goals first | omega | (simp only [sA, sC, sD, sE]; omega) | (simp; done) | (simp; omega)
              · simp only [sz_setCell]; omega
            case measure => simp [intOf]; omega
          · have H4 : Hid (q.e.k = 4) := by simpa [Hid] using h4
            go_upto_region 16 with (fail)
            first | with_reducible refine wp_rebase ?_ | with_reducible refine wpList_rebase ?_
            intro w5 hb5'
            have hb5 := hb5'.out
            clear hb5'
            obtain ⟨A4, B4, oN4, oT4, hbk4⟩ := HH4.out
            have A5 : Blk w5 w.heap.size #[.slice aN lN cN, .slice aT lT cT, .bool q.b] 68 := by
              refine Blk.below ?_ hb5
              repeat (with_reducible refine Blk.set_ne ?_ (by omega) _)
              exact (A4.set 2 (.bool q.b)).cast rfl
            have B5 : Blk w5 (w.heap.size + 1) (vArr q.e) 26 := ((B4.set_ne (by omega) _).put6 q.e).below hb5
            have oN5 : w5.ownsRow (w.heap.size + 2) 24 2 (.slice aN lN cN) S.s.ns.length (S.s.ns.flatMap cells2) := by
              refine own_below ?_ hb5
              repeat (with_reducible refine ownsRow_setCell_below ?_ (by first | (show w.heap.size < _; omega) | (show w.heap.size + 1 < _; omega)) _)
              exact oN4
            have oT5 : w5.ownsRow (w.heap.size + 2) 9 1 (.slice aT lT cT) S.s.ts.length (S.s.ts.map Value.string) := by
              refine own_below ?_ hb5
              repeat (with_reducible refine ownsRow_setCell_below ?_ (by first | (show w.heap.size < _; omega) | (show w.heap.size + 1 < _; omega)) _)
              exact oT4
            have hbk5 : Below w.heap.size w w5 := by
              focus
                repeat with_reducible first | exact Below.refl _ _ | refine below_drewN ?_ _ | refine Below.drew ?_ | refine Below.setCell ?_ ?_ _ | refine Below.alloc ?_ ?_ _ | refine below_then ?_ ?_ (by with_reducible assumption)
                all_goals first | omega | (simp only [sA, sC, sD, sE]; omega) | (simp; done) | (simp; omega)
            have s5 := hb5.size
            simp only [sz_setCell] at s5
            clear y0 y1 y2 z0 z1 z2 z3 z4 z5 fA4 fB4 lA4 lB4 A4 B4 oN4 oT4 hbk4 HH4 hb5 a0 a1 a2
            have fA4 := A5.free
            have fB4 := B5.free
            have lA4 := A5.lt
            have lB4 := B5.lt
            have y0 := A5.cell 0
            have y1 := A5.cell 1
            have y2 := A5.cell 2
            obtain ⟨z0, z1, z2, z3, z4, z5⟩ := B5.v6
            simp only [List.getElem?_toArray, List.getElem?_cons_zero, List.getElem?_cons_succ] at y0 y1 y2
            have HH4 := Lib.hid (And.intro A5 (And.intro B5 (And.intro oN5 (And.intro oT5 hbk5))))
            clear A5 B5 oN5 oT5 hbk5
            go_region_held3 (fun w' => w'.cell? ⟨w.heap.size, 0, none⟩ = some (.slice aN lN cN) ∧ w'.cell? ⟨w.heap.size, 1, none⟩ = some (.slice aT lT cT) ∧ w'.cell? ⟨w.heap.size, 2, none⟩ = some (.bool q.b) ∧ w'.cell? ⟨w.heap.size + 1, 0, none⟩ = some (.int .i64 q.e.k) ∧ w'.cell? ⟨w.heap.size + 1, 1, none⟩ = some (.int .i64 q.e.n) ∧ w'.cell? ⟨w.heap.size + 1, 2, none⟩ = some (.int .i64 q.e.d) ∧ w'.cell? ⟨w.heap.size + 1, 3, none⟩ = some (.string q.e.t) ∧ w'.cell? ⟨w.heap.size + 1, 4, none⟩ = some (.bool q.e.b) ∧ w'.cell? ⟨w.heap.size + 1, 5, none⟩ = some (.int .i64 q.e.f)) ((first | (refine ⟨?_, ?_, ?_, ?_, ?_, ?_, ?_, ?_, ?_⟩ <;> (go_simp; done)) | go_keep)) (fail)
            rename_i kK kA hHeld
            clear hHeld
            go_wp2
            have hg := HG.out
            rw [if_pos (by rw [HRN.out]; exact H4.out), HRN.out] at hg
            obtain ⟨A4, B4, oN4, oT4, hbk4⟩ := HH4.out
            rw [hg]
            refine bodyPost_ret (v := .tuple #[.agg #[.slice aN lN cN, .slice aT lT cT, .bool q.b], .agg #[.int .i64 (q.e).k, .int .i64 (q.e).n, .int .i64 (q.e).d, .string (q.e).t, .bool (q.e).b, .int .i64 (q.e).f]]) (by simp [results, Tryz.results33, go_sem, z0, z1, z2, z3, z4, z5, y0, y1, y2, fA4, fB4, lA4, lB4, -beq_iff_eq]) rfl ⟨_, _, rfl, ?_, ?_, ?_⟩
            · skip
              focus
                repeat with_reducible first | exact Below.refl _ _ | refine below_drewN ?_ _ | refine Below.drew ?_ | refine Below.setCell ?_ ?_ _ | refine Below.alloc ?_ ?_ _ | refine below_then ?_ ?_ (by with_reducible assumption)
                all_goals first | omega | (simp only [sA, sC, sD, sE]; omega) | (simp; done) | (simp; omega)
            · refine own_mono (base := w.heap.size + 2) ?_ (by omega)
              refine World.ownsRow.drew ?_
              repeat (with_reducible refine ownsRow_setCell_below ?_ (by first | (show w.heap.size < _; omega) | (show w.heap.size + 1 < _; omega)) _)
              exact oN4
            · refine own_mono (base := w.heap.size + 2) ?_ (by omega)
              refine World.ownsRow.drew ?_
              repeat (with_reducible refine ownsRow_setCell_below ?_ (by first | (show w.heap.size < _; omega) | (show w.heap.size + 1 < _; omega)) _)
              exact oT4
    · obtain rfl : k = n := by omega
      have hS : S = F := by
        rw [← hgo, List.drop_of_length_le (l := vs) (by rw [HN.out]; omega)]
        cases sh.data.toList.drop k <;> rfl
      have HS := Lib.hid hS
      have HH := Lib.hid (And.intro hoN (And.intro hoT hbk))
      have fA4 := hA.free
      have fB4 := hB.free
      have lA4 := hA.lt
      have lB4 := hB.lt
      have y0 := hA.cell 0
      have y1 := hA.cell 1
      have y2 := hA.cell 2
      obtain ⟨z0, z1, z2, z3, z4, z5⟩ := hB.v6
      simp only [List.getElem?_toArray, List.getElem?_cons_zero, List.getElem?_cons_succ] at y0 y1 y2
      clear hA hB hoN hoT hbk hgo hS
      go_upto_region 16 with (fail)
      go_region_held3 (fun w' => w'.cell? ⟨w.heap.size, 0, none⟩ = some (.slice aN lN cN) ∧ w'.cell? ⟨w.heap.size, 1, none⟩ = some (.slice aT lT cT) ∧ w'.cell? ⟨w.heap.size, 2, none⟩ = some (.bool S.s.tr) ∧ w'.cell? ⟨w.heap.size + 1, 0, none⟩ = some (.int .i64 S.e.k) ∧ w'.cell? ⟨w.heap.size + 1, 1, none⟩ = some (.int .i64 S.e.n) ∧ w'.cell? ⟨w.heap.size + 1, 2, none⟩ = some (.int .i64 S.e.d) ∧ w'.cell? ⟨w.heap.size + 1, 3, none⟩ = some (.string S.e.t) ∧ w'.cell? ⟨w.heap.size + 1, 4, none⟩ = some (.bool S.e.b) ∧ w'.cell? ⟨w.heap.size + 1, 5, none⟩ = some (.int .i64 S.e.f)) ((first | (refine ⟨?_, ?_, ?_, ?_, ?_, ?_, ?_, ?_, ?_⟩ <;> (go_simp; done)) | go_keep)) (fail)
      rename_i kK kA hHeld
      clear hHeld
      go_wp2
      obtain ⟨oN4, oT4, hbk4⟩ := HH.out
      rw [← HS.out]
      refine bodyPost_ret (v := .tuple #[.agg #[.slice aN lN cN, .slice aT lT cT, .bool S.s.tr], .agg #[.int .i64 (S.e).k, .int .i64 (S.e).n, .int .i64 (S.e).d, .string (S.e).t, .bool (S.e).b, .int .i64 (S.e).f]]) (by simp [results, Tryz.results33, go_sem, z0, z1, z2, z3, z4, z5, y0, y1, y2, fA4, fB4, lA4, lB4, -beq_iff_eq]) rfl ⟨_, _, rfl, ?_, ?_, ?_⟩
      · skip
        focus
          repeat with_reducible first | exact Below.refl _ _ | refine below_drewN ?_ _ | refine Below.drew ?_ | refine Below.setCell ?_ ?_ _ | refine Below.alloc ?_ ?_ _ | refine below_then ?_ ?_ (by with_reducible assumption)
          all_goals first | omega | (simp only [sA, sC, sD, sE]; omega) | (simp; done) | (simp; omega)
      · refine own_mono (base := w.heap.size + 2) ?_ (by omega)
        refine World.ownsRow.drew ?_
        repeat (with_reducible refine ownsRow_setCell_below ?_ (by first | (show w.heap.size < _; omega) | (show w.heap.size + 1 < _; omega)) _)
        exact oN4
      · refine own_mono (base := w.heap.size + 2) ?_ (by omega)
        refine World.ownsRow.drew ?_
        repeat (with_reducible refine ownsRow_setCell_below ?_ (by first | (show w.heap.size < _; omega) | (show w.heap.size + 1 < _; omega)) _)
        exact oT4
end Go.Proofs.YtglngfaagjgpjaaGreatDoor
