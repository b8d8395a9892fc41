/- What the library's functions read, out of a row's laid list and of the shape of its world. -/
import Derived.Test.YtodopbdngikpcaaGreatDoorOfT
import Derived.Lib.LaidTab
import Derived.LaidMore
import Derived.Lay
import Derived.ProofKit
import Derived.Shelf.Vars
namespace Go.Proofs.YtodopbdngikpcaaGreatDoor
open Go Go.RowKit
set_option linter.unusedVariables false

theorem laidMet_drop {P : Program} {w : World} : ∀ (n : Nat) {l : List (String × DataW Unit)}, laidMet P l w → laidMet P (l.drop n) w
  | 0, _, h => h
  | n + 1, [], h => h
  | n + 1, x :: r, h => by
    rw [List.drop_succ_cons]
    refine laidMet_drop n ?_
    obtain ⟨ps, hv, hnd, hrows⟩ := h
    obtain ⟨m, d⟩ := x
    obtain ⟨g, t, cs, fuel, p, q, _, _, _, _, hq, rfl⟩ := hv
    exact ⟨q, hq, List.Nodup.sublist (List.sublist_append_right _ _) hnd, fun b off hm => hrows b off (List.mem_append_right _ hm)⟩
theorem sp_of {W : World} {r : List (String × DataW Unit)} (h : laidMet Tryz.prog (("strings.asciiSpace", Lib.tabData .u8 Lib.asciiSpaceTab) :: r) W) : SpTab W :=
  Lib.tabIs_of_head (g := 0) (t := 167) (e := 5) (n := 256) (by kernel_rfl) (by kernel_rfl) (by kernel_rfl) (by kernel_rfl) (by kernel_rfl) (by kernel_rfl) h
theorem p10_of {W : World} {r : List (String × DataW Unit)} (h : laidMet Tryz.prog (("internal/strconv.uint64pow10", Lib.tabData .u64 Lib.pow10Tab) :: r) W) : Pow10 W :=
  Lib.tabIs_of_head (g := 6) (t := 258) (e := 129) (n := 20) (by kernel_rfl) (by kernel_rfl) (by kernel_rfl) (by kernel_rfl) (by kernel_rfl) (by kernel_rfl) h
theorem max_of {W : World} (h : W.ShapedOpen Tryz.prog) : MaxL W := by
  obtain ⟨m, hm⟩ := cell_of_shapedOpen_int (g := 2) (t := 3) (zero := #[.int .i64 0]) (k := .i64) h (of_decide_eq_true (by kernel_rfl)) (by kernel_rfl) (by kernel_rfl) (by kernel_rfl) (by kernel_rfl) (by kernel_rfl)
  exact ⟨World.block_lt_of_cell? W _ hm, m, hm⟩
end Go.Proofs.YtodopbdngikpcaaGreatDoor
