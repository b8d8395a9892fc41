/- A number that something came to, as a value; no program in sight. Rows of values of any kind; the law's texts. -/
import Derived.Test.YtnimenpfojcehaaGreatDoorBase
import Derived.Test.YtnimenpfojcehaaGreatDoorValC
import Derived.Deep.Cut
namespace Go.Proofs.YtnimenpfojcehaaGreatDoor
open Go.RowKit
end Go.Proofs.YtnimenpfojcehaaGreatDoor
namespace Go.Proofs.YtnimenpfojcehaaGreatDoor
open Go Go.RowKit
set_option linter.unusedSimpArgs false
set_option linter.unusedVariables false

/-- A row of values, six cells each. -/
def ValRow (w : World) (b off : Nat) (vs : List Vl) : Prop := ∀ k v, vs[k]? = some v →
  w.cell? ⟨b, off + k * 6, none⟩ = some (.int .i64 v.k) ∧ w.cell? ⟨b, off + k * 6 + 1, none⟩ = some (.int .i64 v.n) ∧ w.cell? ⟨b, off + k * 6 + 2, none⟩ = some (.int .i64 v.d) ∧
  w.cell? ⟨b, off + k * 6 + 3, none⟩ = some (.string v.t) ∧ w.cell? ⟨b, off + k * 6 + 4, none⟩ = some (.bool v.b) ∧ w.cell? ⟨b, off + k * 6 + 5, none⟩ = some (.int .i64 v.f)
theorem ValRow.below {w w' : World} {b off : Nat} {vs : List Vl} (h : ValRow w b off vs) (hb : b < w.heap.size) (hw : Below w.heap.size w w') : ValRow w' b off vs := by
  intro k v hv
  obtain ⟨h0, h1, h2, h3, h4, h5⟩ := h k v hv
  have e := fun o => lcc hw b hb o
  exact ⟨(e _).trans h0, (e _).trans h1, (e _).trans h2, (e _).trans h3, (e _).trans h4, (e _).trans h5⟩
/-- What stands in a slice of values. -/
def ValAt (w : World) (la : Option Addr) (vs : List Vl) : Prop := 0 < vs.length → ∃ b off, la = some ⟨b, off, none⟩ ∧ b < w.heap.size ∧ ValRow w b off vs
theorem ValAt.below {w w' : World} {la : Option Addr} {vs : List Vl} (h : ValAt w la vs) (hw : Below w.heap.size w w') : ValAt w' la vs := by
  intro h0
  obtain ⟨b, off, e, hb, hr⟩ := h h0
  exact ⟨b, off, e, lcs hw b hb, hr.below hb hw⟩

set_option maxHeartbeats 2000000 in
theorem law_texts (vs : List Vl) (la : Option Addr) (lc n : Nat) (w : World) (hn : vs.length = n) (hbig : n ≤ 140737488355328) (hin : ∀ v ∈ vs, v.In) (hc : ValAt w la vs) :
    Calls Tryz.prog 7 #[.slice la n lc] w fun e w' => ∃ h : Bool, e = .returned (.bool h) ∧ (h = false → n ≤ 20000) ∧ Below w.heap.size w w' := by
  have HI := Lib.hid hin
  have HC := Lib.hid hc
  have HN := Lib.hid hn
  clear hin hc hn
  go_enter Tryz.func7, Tryz.ntmps7
  go_wp2
  go_loopw [3, 4] (fun x i wr => ∃ k m : Nat, k ≤ n ∧ i = .int .i64 k ∧ x = .int .i64 m ∧ n ≤ m ∧ m ≤ 140737488400000 ∧ Below w.heap.size w wr) (fun _ i _ => n - (intOf i).toNat)
  case atStart => exact ⟨0, n, by omega, rfl, rfl, by omega, by omega, Below.refl _ _⟩
  case round =>
    obtain ⟨k, m, hk, rfl, rfl, hnm, hm, hb⟩ := hrel
    by_cases hlt : k < n
    · by_cases hm2 : m ≤ 20000
      · obtain ⟨b, off, rfl, hbw, hrow⟩ := HC.out (by rw [HN.out]; omega)
        obtain ⟨v, hv⟩ : ∃ v, vs[k]? = some v := ⟨_, List.getElem?_eq_getElem (by rw [HN.out]; exact hlt)⟩
        obtain ⟨c0, c1, c2, c3, c4, c5⟩ := (hrow.below hbw hb) k v hv
        have ht := (HI.out v (List.mem_of_getElem? hv)).t
        have HB := Lib.hid hb
        have hw1 := w64 (x := (m : Int) + v.t.size) (by omega) (by omega)
        clear hb hrow hv
        go_wp2
        go_roundw
        case rel => exact ⟨k + 1, m + v.t.size, by omega, by first | rfl | (simp; done) | go_num, by first | rfl | (simp; done) | go_num, by omega, by omega, HB.out⟩
        case measure => simp [intOf]; omega
      · go_wp2
        go_ret
        exact ⟨_, rfl, fun h => by first | omega | (simp at h; done) | (simp at h; omega), hb⟩
    · obtain rfl : k = n := by omega
      go_wp2
      go_ret
      exact ⟨_, rfl, fun h => by first | omega | (simp at h; done) | (simp at h; omega), hb⟩

end Go.Proofs.YtnimenpfojcehaaGreatDoor
