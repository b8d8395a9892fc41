/- Rows of acts; the law's heavy. -/
import Derived.Test.YtnimenpfojcehaaGreatDoorBx1
import Derived.Deep.Cut
namespace Go.Proofs.YtnimenpfojcehaaGreatDoor
open Go Go.RowKit
set_option linter.unusedSimpArgs false
set_option linter.unusedVariables false

/-- An act: its kind, its value. -/
structure AcV where
  a : Int
  v : Vl
/-- A row of acts, seven cells each. -/
def ActRow (w : World) (b off : Nat) (l : List AcV) : Prop := ∀ k x, l[k]? = some x →
  w.cell? ⟨b, off + k * 7, none⟩ = some (.int .i64 x.a) ∧ w.cell? ⟨b, off + k * 7 + 1, none⟩ = some (.int .i64 x.v.k) ∧ w.cell? ⟨b, off + k * 7 + 2, none⟩ = some (.int .i64 x.v.n) ∧ w.cell? ⟨b, off + k * 7 + 3, none⟩ = some (.int .i64 x.v.d) ∧
  w.cell? ⟨b, off + k * 7 + 4, none⟩ = some (.string x.v.t) ∧ w.cell? ⟨b, off + k * 7 + 5, none⟩ = some (.bool x.v.b) ∧ w.cell? ⟨b, off + k * 7 + 6, none⟩ = some (.int .i64 x.v.f)
theorem ActRow.below {w w' : World} {b off : Nat} {l : List AcV} (h : ActRow w b off l) (hb : b < w.heap.size) (hw : Below w.heap.size w w') : ActRow w' b off l := by
  intro k v hv
  obtain ⟨h0, h1, h2, h3, h4, h5, h6⟩ := h k v hv
  have e := fun o => lcc hw b hb o
  exact ⟨(e _).trans h0, (e _).trans h1, (e _).trans h2, (e _).trans h3, (e _).trans h4, (e _).trans h5, (e _).trans h6⟩
/-- What stands in a slice of acts. -/
def ActAt (w : World) (la : Option Addr) (l : List AcV) : Prop := 0 < l.length → ∃ b off, la = some ⟨b, off, none⟩ ∧ b < w.heap.size ∧ ActRow w b off l
theorem ActAt.below {w w' : World} {la : Option Addr} {l : List AcV} (h : ActAt w la l) (hw : Below w.heap.size w w') : ActAt w' la l := by
  intro h0
  obtain ⟨b, off, e, hb, hr⟩ := h h0
  exact ⟨b, off, e, lcs hw b hb, hr.below hb hw⟩

set_option maxHeartbeats 2000000 in
theorem law_heavy (vs : List AcV) (la : Option Addr) (lc n : Nat) (w : World) (hn : vs.length = n) (hbig : n ≤ 140737488355328) (hin : ∀ x ∈ vs, x.v.In) (hc : ActAt w la vs) :
    Calls Tryz.prog 14 #[.slice la n lc] w fun e w' => ∃ h : Bool, e = .returned (.bool h) ∧ (h = false → n ≤ 20000) ∧ Below w.heap.size w w' := by
  have HI := Lib.hid hin
  have HC := Lib.hid hc
  have HN := Lib.hid hn
  clear hin hc hn
  go_enter Tryz.func14, Tryz.ntmps14
  go_wp2
  go_loopw [3, 4] (fun x i wr => ∃ k m : Nat, k ≤ n ∧ i = .int .i64 k ∧ x = .int .i64 m ∧ n ≤ m ∧ m ≤ 140737488400000 ∧ Below w.heap.size w wr) (fun _ i _ => n - (intOf i).toNat)
  case atStart => exact ⟨0, n, by omega, rfl, rfl, by omega, by omega, Below.refl _ _⟩
  case round =>
    obtain ⟨k, m, hk, rfl, rfl, hnm, hm, hb⟩ := hrel
    by_cases hlt : k < n
    · by_cases hm2 : m ≤ 20000
      · obtain ⟨b, off, rfl, hbw, hrow⟩ := HC.out (by rw [HN.out]; omega)
        obtain ⟨x, hx⟩ : ∃ x, vs[k]? = some x := ⟨_, List.getElem?_eq_getElem (by rw [HN.out]; exact hlt)⟩
        obtain ⟨c0, c1, c2, c3, c4, c5, c6⟩ := (hrow.below hbw hb) k x hx
        have ht := (HI.out x (List.mem_of_getElem? hx)).t
        have HB := Lib.hid hb
        have hw1 := w64 (x := (m : Int) + x.v.t.size) (by omega) (by omega)
        clear hb hrow hx
        go_wp2
        go_roundw
        case rel => exact ⟨k + 1, m + x.v.t.size, by omega, by first | rfl | (simp; done) | go_num, by first | rfl | (simp; done) | go_num, by omega, by omega, HB.out⟩
        case measure => simp [intOf]; omega
      · go_wp2
        go_ret
        exact ⟨_, rfl, fun h => by first | omega | (simp at h; done) | (simp at h; omega), hb⟩
    · obtain rfl : k = n := by omega
      go_wp2
      go_ret
      exact ⟨_, rfl, fun h => by first | omega | (simp at h; done) | (simp at h; omega), hb⟩
end Go.Proofs.YtnimenpfojcehaaGreatDoor
