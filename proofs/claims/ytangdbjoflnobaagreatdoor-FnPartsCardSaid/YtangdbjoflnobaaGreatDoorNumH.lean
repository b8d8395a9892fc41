/- Walks of package num: Sum. -/
import Derived.Test.YtangdbjoflnobaaGreatDoorSumsP
import Derived.Deep.Cut
namespace Go.Proofs.YtangdbjoflnobaaGreatDoor
open Go Go.RowKit
set_option linter.unusedSimpArgs false
set_option linter.unusedVariables false

/-- A row of numbers, two cells each. -/
def PairRow (w : World) (g : Nat) (ns : List Nm) : Prop := ∀ k x, ns[k]? = some x →
  w.cell? ⟨g, k * 2, none⟩ = some (.int .i64 x.n) ∧ w.cell? ⟨g, k * 2 + 1, none⟩ = some (.int .i64 x.d)
theorem PairRow.below {w w' : World} {g : Nat} {ns : List Nm} (h : PairRow w g ns) (hg : g < w.heap.size) (hb : Below w.heap.size w w') : PairRow w' g ns := by
  intro k x hx
  obtain ⟨h0, h1⟩ := h k x hx
  have e := fun o => lcc hb g hg o
  exact ⟨(e _).trans h0, (e _).trans h1⟩

def numArr (n d : Int) : Array Value := #[.int .i64 n, .int .i64 d]
structure SumRel (w : World) (ns : List Nm) (x i : Value) (k : Nat) (wr : World) : Prop where
  le : k ≤ ns.length
  i : i = .int .i64 k
  x : x = .bool true
  ok : (sumB (ns.take k)).ok = true
  out : Blk wr (w.heap.size + 1) (numArr (sumB (ns.take k)).n (sumB (ns.take k)).d) 33
  res : Blk wr w.heap.size (numArr 0 0) 33
  below : Below w.heap.size w wr
  sz : w.heap.size + 2 ≤ wr.heap.size

set_option maxHeartbeats 4000000 in
theorem num_Sum (ns : List Nm) (a : Option Addr) (n cap : Nat) (hn : ns.length = n) (hnb : n ≤ 1000000) (w : World) (hin : ∀ x ∈ ns, I64 x.n ∧ I64 x.d)
    (hr : 0 < n → ∃ g, a = some ⟨g, 0, none⟩ ∧ g < w.heap.size ∧ PairRow w g ns) :
    Calls Tryz.prog 36 #[.slice a n cap] w fun e w' => e = .returned (.tuple #[.agg #[.int .i64 (sumB ns).n, .int .i64 (sumB ns).d], .bool (sumB ns).ok]) ∧ Below w.heap.size w w' := by
  have HI := Lib.hid hin
  have HR := Lib.hid hr
  have HN := Lib.hid hn
  clear hin hr hn
  go_enter Tryz.func36, Tryz.ntmps36
  go_wp2
  go_loopw [5, 11] (fun x i wr => ∃ k, SumRel w ns x i k wr) (fun _ i _ => n - (intOf i).toNat)
  case atStart =>
    refine ⟨0, Nat.zero_le _, rfl, rfl, rfl, ?_, ?_, ?_, ?_⟩
    · have h := heap_alloc_new (w.alloc (.cells (numArr 0 0) 33)) (.cells (numArr 0 1) 33)
      rw [sz_alloc] at h
      exact h
    · exact Blk.alloc (heap_alloc_new _ _) _
    · repeat (first | with_reducible exact Below.refl _ _ | with_reducible refine below_drewN ?_ _ | with_reducible refine Below.drew ?_ | with_reducible refine Below.setCell ?_ (by (first | omega | (simp only [sz_alloc, sz_setCell, sz_drew, sz_drewN]; omega) | (simp; done) | (simp; omega))) _ | with_reducible refine Below.alloc ?_ (by (first | omega | (simp only [sz_alloc, sz_setCell, sz_drew, sz_drewN]; omega) | (simp; done) | (simp; omega))) _ | with_reducible refine below_then ?_ ?_ (by with_reducible assumption) | (first | omega | (simp only [sz_alloc, sz_setCell, sz_drew, sz_drewN]; omega) | (simp; done) | (simp; omega)))
    · simp only [sz_alloc]; omega
  case round =>
    obtain ⟨k, hk, rfl, rfl, hok, hA, hB, hbk, hsz⟩ := hrel
    rw [HN.out] at hk
    by_cases hlt : k < n
    · obtain ⟨g, rfl, hg, hrow⟩ := HR.out (by omega)
      have hkl : k < ns.length := by rw [HN.out]; exact hlt
      obtain ⟨x, hx⟩ : ∃ x, ns[k]? = some x := ⟨_, List.getElem?_eq_getElem hkl⟩
      obtain ⟨c0, c1⟩ := (hrow.below hg hbk) k x hx
      have hxi := HI.out x (List.mem_of_getElem? hx)
      have hbd := sumB_bd (ns.take k)
      have hstep : sumB (ns.take (k + 1)) = add (sumB (ns.take k)).n (sumB (ns.take k)).d x.n x.d := by
        rw [List.take_add_one, hx]
        show sumB (ns.take k ++ [x]) = _
        rw [sumB_snoc]
        unfold addB
        rw [if_pos hok]
      have HADD := Lib.hid fun wx => num_Add (sumB (ns.take k)).n (sumB (ns.take k)).d x.n x.d wx (I64.of hbd.1 hbd.2.1) (I64.of (by omega) (by omega)) hxi.1 hxi.2
      rw [← hstep] at HADD
      have o0 : wr.cell? ⟨w.heap.size + 1, 0, none⟩ = some (.int .i64 (sumB (ns.take k)).n) := hA.cell 0
      have o1 : wr.cell? ⟨w.heap.size + 1, 1, none⟩ = some (.int .i64 (sumB (ns.take k)).d) := hA.cell 1
      have fz := hA.free
      have hlA := hA.lt
      have hlB := hB.lt
      have hstay := fun h => sumB_stays (l := ns.take (k + 1)) (ns.drop (k + 1)) h
      rw [List.take_append_drop] at hstay
      have HH := Lib.hid (And.intro hA (And.intro hB (And.intro hbk hstay)))
      clear hA hB hbk hstay hx
      go_wp2_with fail
      refine (HADD.out _).mono ?_
      rintro e w2 ⟨rfl, hb2⟩
      obtain ⟨hA, hB, hbk, hstay⟩ := HH.out
      have A2 := (hA.alloc _).below hb2
      have B2 := (hB.alloc _).below hb2
      have hs2 := hb2.size
      simp only [sz_alloc] at hs2
      have HB := Lib.hid (And.intro hbk (And.intro hb2 (And.intro A2 B2)))
      have fz2 := A2.free
      have fb2 := B2.free
      have l2 := A2.lt
      have lb2 := B2.lt
      have p0 : w2.cell? ⟨w.heap.size + 1, 0, none⟩ = some (.int .i64 (sumB (ns.take k)).n) := A2.cell 0
      have p1 : w2.cell? ⟨w.heap.size + 1, 1, none⟩ = some (.int .i64 (sumB (ns.take k)).d) := A2.cell 1
      have r0 : w2.cell? ⟨w.heap.size, 0, none⟩ = some (.int .i64 0) := B2.cell 0
      have r1 : w2.cell? ⟨w.heap.size, 1, none⟩ = some (.int .i64 0) := B2.cell 1
      clear hA hB hbk hb2 A2 B2 fz o0 o1 c0 c1 hstep
      cases hok2 : (sumB (ns.take (k + 1))).ok
      · have hbad := hstay hok2
        clear hstay HH HADD
        go_wp2
        have hbk := HB.out.1
        have hb2 := HB.out.2.1
        rw [hbad]
        refine bodyPost_ret (v := .tuple #[.agg #[.int .i64 badB.n, .int .i64 badB.d], .bool badB.ok]) (by simp [results, Tryz.results36, go_sem, badB, p0, p1, r0, r1, fz2, fb2, l2, lb2]) rfl ⟨rfl, ?_⟩
        repeat (first | with_reducible exact Below.refl _ _ | with_reducible refine below_drewN ?_ _ | with_reducible refine Below.drew ?_ | with_reducible refine Below.setCell ?_ (by (first | omega | (simp only [sz_alloc, sz_setCell, sz_drew, sz_drewN]; omega) | (simp; done) | (simp; omega))) _ | with_reducible refine Below.alloc ?_ (by (first | omega | (simp only [sz_alloc, sz_setCell, sz_drew, sz_drewN]; omega) | (simp; done) | (simp; omega))) _ | with_reducible refine below_then ?_ ?_ (by with_reducible assumption) | (first | omega | (simp only [sz_alloc, sz_setCell, sz_drew, sz_drewN]; omega) | (simp; done) | (simp; omega)))
      · clear hstay HH HADD
        go_wp2
        go_roundw
        case rel =>
          have hbk := HB.out.1
          have hb2 := HB.out.2.1
          refine ⟨k + 1, by omega, by go_num, by rfl, hok2, ((HB.out.2.2.1.set 0 _).set 1 _).cast rfl, ?_, ?_, ?_⟩
          · exact (HB.out.2.2.2.set_ne (by omega) _).set_ne (by omega) _
          · repeat (first | with_reducible exact Below.refl _ _ | with_reducible refine below_drewN ?_ _ | with_reducible refine Below.drew ?_ | with_reducible refine Below.setCell ?_ (by (first | omega | (simp only [sz_alloc, sz_setCell, sz_drew, sz_drewN]; omega) | (simp; done) | (simp; omega))) _ | with_reducible refine Below.alloc ?_ (by (first | omega | (simp only [sz_alloc, sz_setCell, sz_drew, sz_drewN]; omega) | (simp; done) | (simp; omega))) _ | with_reducible refine below_then ?_ ?_ (by with_reducible assumption) | (first | omega | (simp only [sz_alloc, sz_setCell, sz_drew, sz_drewN]; omega) | (simp; done) | (simp; omega)))
          · simp only [sz_setCell]; omega
        case measure => simp [intOf]; omega
    · obtain rfl : k = n := by omega
      have e : ns.take k = ns := List.take_of_length_le (by rw [HN.out]; exact Nat.le_refl _)
      rw [e] at hA hok
      have o0 : wr.cell? ⟨w.heap.size + 1, 0, none⟩ = some (.int .i64 (sumB ns).n) := hA.cell 0
      have o1 : wr.cell? ⟨w.heap.size + 1, 1, none⟩ = some (.int .i64 (sumB ns).d) := hA.cell 1
      have r0 : wr.cell? ⟨w.heap.size, 0, none⟩ = some (.int .i64 0) := hB.cell 0
      have r1 : wr.cell? ⟨w.heap.size, 1, none⟩ = some (.int .i64 0) := hB.cell 1
      have fb := hB.free
      have lb := hB.lt
      clear hA hB e
      go_wp2
      rw [hok]
      refine bodyPost_ret (v := .tuple #[.agg #[.int .i64 (sumB ns).n, .int .i64 (sumB ns).d], .bool true]) (by simp [results, Tryz.results36, go_sem, r0, r1, fb, lb]) rfl ⟨rfl, ?_⟩
      repeat (first | with_reducible exact Below.refl _ _ | with_reducible refine below_drewN ?_ _ | with_reducible refine Below.drew ?_ | with_reducible refine Below.setCell ?_ (by (first | omega | (simp only [sz_alloc, sz_setCell, sz_drew, sz_drewN]; omega) | (simp; done) | (simp; omega))) _ | with_reducible refine Below.alloc ?_ (by (first | omega | (simp only [sz_alloc, sz_setCell, sz_drew, sz_drewN]; omega) | (simp; done) | (simp; omega))) _ | with_reducible refine below_then ?_ ?_ (by with_reducible assumption) | (first | omega | (simp only [sz_alloc, sz_setCell, sz_drew, sz_drewN]; omega) | (simp; done) | (simp; omega)))
end Go.Proofs.YtangdbjoflnobaaGreatDoor
