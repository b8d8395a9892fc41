/- Walks of package funcs: count; the pieces of a text. Walks of package funcs: the middle piece of a text; piece of any kind. Plain laws: capitals, small letters, and texts without needless blanks; no program in sight. Texts in great and small letters, trimmed: still texts. Walks of package funcs: the functions of texts. What the library's functions read, out of a row's laid list and of the shape of its world. What the folds read of the tables, out of a row's laid list and of the shape of its world. -/
import Derived.Test.YtnimenpfojcehaaGreatDoorVTA
import Derived.Test.YtnimenpfojcehaaGreatDoorVX
import Derived.Test.YtnimenpfojcehaaGreatDoorShelfV
import Derived.Lib.Repeat
import Derived.Test.YtnimenpfojcehaaGreatDoorBase
import Derived.Lib.Case
import Derived.Lib.Fields
import Derived.Lib.Join
import Derived.Test.YtnimenpfojcehaaGreatDoorValC
import Derived.WalkSmall
import Derived.Lib.LaidTab
import Derived.Test.YtnimenpfojcehaaGreatDoorShelfU
import Derived.LaidMore
import Derived.Lay
import Derived.ProofKit
import Derived.Shelf.Vars
import Derived.Test.YtnimenpfojcehaaGreatDoorFolJ
namespace Go.Proofs.YtnimenpfojcehaaGreatDoor
open Go Go.RowKit
set_option linter.unusedSimpArgs false
set_option linter.unusedVariables false
/-- A row of numbers in a slice. -/
def NmAt (w : World) (a : Option Addr) (ns : List Nm) : Prop := 0 < ns.length → ∃ g off, a = some ⟨g, off, none⟩ ∧ g < w.heap.size ∧ ∀ k x, ns[k]? = some x →
  w.cell? ⟨g, off + k * 2, none⟩ = some (.int .i64 x.n) ∧ w.cell? ⟨g, off + k * 2 + 1, none⟩ = some (.int .i64 x.d)
theorem NmAt.below {w w' : World} {a : Option Addr} {ns : List Nm} (h : NmAt w a ns) (hb : Below w.heap.size w w') : NmAt w' a ns := by
  intro h0
  obtain ⟨g, off, e, hg, hc⟩ := h h0
  exact ⟨g, off, e, lcs hb g hg, fun k x hx => ⟨(lcc hb g hg _).trans (hc k x hx).1, (lcc hb g hg _).trans (hc k x hx).2⟩⟩
end Go.Proofs.YtnimenpfojcehaaGreatDoor
namespace Go.Proofs.YtnimenpfojcehaaGreatDoor
open Go Go.RowKit
set_option linter.unusedSimpArgs false
set_option linter.unusedVariables false

end Go.Proofs.YtnimenpfojcehaaGreatDoor
namespace Go.Proofs.YtnimenpfojcehaaGreatDoor
open Go Go.RowKit Go.Lib

end Go.Proofs.YtnimenpfojcehaaGreatDoor
namespace Go.Proofs.YtnimenpfojcehaaGreatDoor
open Go Go.RowKit
set_option linter.unusedSimpArgs false
set_option linter.unusedVariables false

def SpTab (w : World) : Prop := Lib.TabIs Tryz.prog w "strings.asciiSpace" .u8 Lib.asciiSpaceTab
theorem SpTab.below {w w1 : World} (h : SpTab w) (hb : Below w.heap.size w w1) (h0 : 0 < w.heap.size) : SpTab w1 :=
  var?_below hb (by kernel_rfl : (Tryz.prog).globalNamed "strings.asciiSpace" = some 0) h0 h

end Go.Proofs.YtnimenpfojcehaaGreatDoor
namespace Go.Proofs.YtnimenpfojcehaaGreatDoor
open Go Go.RowKit
set_option linter.unusedSimpArgs false
set_option linter.unusedVariables false

/-- What the library's functions on texts read of the world. -/
def MaxL (w : World) : Prop := 2 < w.heap.size ∧ ∃ m : Int, w.cell? ⟨2, 0, none⟩ = some (.int .i64 m)
theorem MaxL.below {w w' : World} (h : MaxL w) (hb : Below w.heap.size w w') : MaxL w' := by
  obtain ⟨h0, m, hm⟩ := h
  exact ⟨lcs hb 2 h0, m, (lcc hb 2 h0 0).trans hm⟩
structure Laid (w : World) : Prop where
  sp : SpTab w
  mx : MaxL w
  p10 : Pow10 w
theorem Laid.below {w w' : World} (h : Laid w) (hb : Below w.heap.size w w') : Laid w' :=
  ⟨h.sp.below hb (by have := h.mx.1; omega), h.mx.below hb, h.p10.below hb⟩
end Go.Proofs.YtnimenpfojcehaaGreatDoor
namespace Go.Proofs.YtnimenpfojcehaaGreatDoor
open Go Go.RowKit
set_option linter.unusedVariables false

theorem laidMet_drop {P : Program} {w : World} : ∀ (n : Nat) {l : List (String × DataW Unit)}, laidMet P l w → laidMet P (l.drop n) w
  | 0, _, h => h
  | n + 1, [], h => h
  | n + 1, x :: r, h => by
    rw [List.drop_succ_cons]
    refine laidMet_drop n ?_
    obtain ⟨ps, hv, hnd, hrows⟩ := h
    obtain ⟨m, d⟩ := x
    obtain ⟨g, t, cs, fuel, p, q, _, _, _, _, hq, rfl⟩ := hv
    exact ⟨q, hq, List.Nodup.sublist (List.sublist_append_right _ _) hnd, fun b off hm => hrows b off (List.mem_append_right _ hm)⟩
theorem p10_of {W : World} {r : List (String × DataW Unit)} (h : laidMet Tryz.prog (("internal/strconv.uint64pow10", Lib.tabData .u64 Lib.pow10Tab) :: r) W) : Pow10 W :=
  Lib.tabIs_of_head (g := 6) (t := 227) (e := 99) (n := 20) (by kernel_rfl) (by kernel_rfl) (by kernel_rfl) (by kernel_rfl) (by kernel_rfl) (by kernel_rfl) h
end Go.Proofs.YtnimenpfojcehaaGreatDoor
namespace Go.Proofs.YtnimenpfojcehaaGreatDoor
open Go Go.RowKit
set_option linter.unusedVariables false

theorem cell_of_shapedOpen_string {P : Program} {w : World} {g : Nat} {t u : TypeId} {zero : Array Value} {n : Nat}
    (h : w.ShapedOpen P) (hg : g < P.globals.size)
    (h0 : ((begin P (fun _ _ => 0) default).world.heap[g]?).bind Obj.row? = some (zero, t)) (hz : zero.size = n)
    (hb : P.buildable t = true) (hc : P.cellTypes P.depth t = some (List.replicate n u)) (hu : P.underlying u = some .string) (i : Nat) (hi : i < n) :
    g < w.heap.size ∧ ∃ m, w.cell? ⟨g, i, none⟩ = some (.string m) := by
  obtain ⟨cs, hh, hs, hr⟩ := h.1 g zero t hg h0
  obtain ⟨ts, hts, _, hall⟩ := hr hb
  rw [hc] at hts
  cases hts
  have h1 : i < cs.size := by omega
  obtain ⟨x, hx, hok⟩ := hall i cs[i] (by simp [h1])
  have : x = u := by
    rw [List.length_replicate, Nat.mod_eq_of_lt hi, List.getElem?_replicate, if_pos hi] at hx
    simpa using hx.symm
  subst this
  have hcell : w.cell? ⟨g, i, none⟩ = some cs[i] := by simp [World.cell?, hh, h1]
  refine ⟨(Array.getElem?_eq_some_iff.1 hh).1, ?_⟩
  rw [hcell]
  unfold Cell.ok at hok
  rw [hu] at hok
  cases hv : cs[i] <;> rw [hv] at hok <;> simp at hok
  case string s => exact ⟨s, rfl⟩
theorem names_of {W : World} (h : W.ShapedOpen Tryz.prog) : ∃ N, Names W N := by
  have hx := fun i hi => cell_of_shapedOpen_string (g := 10) (t := 253) (u := 9) (zero := #[.string ⟨#[]⟩, .string ⟨#[]⟩, .string ⟨#[]⟩, .string ⟨#[]⟩, .string ⟨#[]⟩, .string ⟨#[]⟩, .string ⟨#[]⟩, .string ⟨#[]⟩]) (n := 8) h (of_decide_eq_true (by kernel_rfl)) (by kernel_rfl) (by kernel_rfl) (by kernel_rfl) (by kernel_rfl) (by kernel_rfl) i hi
  obtain ⟨l, n0, h0⟩ := hx 0 (by decide)
  obtain ⟨_, n1, h1⟩ := hx 1 (by decide)
  obtain ⟨_, n2, h2⟩ := hx 2 (by decide)
  obtain ⟨_, n3, h3⟩ := hx 3 (by decide)
  obtain ⟨_, n4, h4⟩ := hx 4 (by decide)
  obtain ⟨_, n5, h5⟩ := hx 5 (by decide)
  obtain ⟨_, n6, h6⟩ := hx 6 (by decide)
  obtain ⟨_, n7, h7⟩ := hx 7 (by decide)
  exact ⟨⟨n0, n1, n2, n3, n4, n5, n6, n7⟩, l, h0, h1, h2, h3, h4, h5, h6, h7⟩
end Go.Proofs.YtnimenpfojcehaaGreatDoor
