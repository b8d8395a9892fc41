/- A fold under way (funcs.Acc) as a block of 22 cells; worlds in which one block alone has turned; no program in sight. -/
import Derived.Test.YtangdbjoflnobaaGreatDoorVal2
import Derived.Test.YtangdbjoflnobaaGreatDoorReg
import Derived.OneCell
namespace Go.Proofs.YtangdbjoflnobaaGreatDoor
open Go Go.RowKit

/-- api.Acc -/
structure AccS where
  fn : Int
  count : Int
  n : Int
  d : Int
  v : Vl
  needle : Vl
  has : Bool
  full : Bool
  wants : Bool
  hn : Int
  hd : Int
def accArr (S : AccS) (kd : Value) : Array Value :=
  #[.int .i64 S.fn, .int .i64 S.count, .int .i64 S.n, .int .i64 S.d,
    .int .i64 S.v.k, .int .i64 S.v.n, .int .i64 S.v.d, .string S.v.t, .bool S.v.b, .int .i64 S.v.f,
    .int .i64 S.needle.k, .int .i64 S.needle.n, .int .i64 S.needle.d, .string S.needle.t, .bool S.needle.b, .int .i64 S.needle.f,
    .bool S.has, .bool S.full, .bool S.wants, .int .i64 S.hn, .int .i64 S.hd, kd]

/-- Block b is this, none of its cells frozen. -/
def Blk (w : World) (b : Nat) (arr : Array Value) (t : TypeId) : Prop := w.heap[b]? = some (.cells arr t (0, 0))
theorem Blk.cast {w : World} {b : Nat} {arr arr' : Array Value} {t : TypeId} (h : Blk w b arr t) (e : arr = arr') : Blk w b arr' t := e ▸ h
theorem Blk.lt {w : World} {b : Nat} {arr : Array Value} {t : TypeId} (h : Blk w b arr t) : b < w.heap.size := lt_of_block h
theorem Blk.cell {w : World} {b : Nat} {arr : Array Value} {t : TypeId} (h : Blk w b arr t) (o : Nat) : w.cell? ⟨b, o, none⟩ = arr[o]? := by
  unfold Blk at h
  simp [World.cell?, h]
theorem Blk.free {w : World} {b : Nat} {arr : Array Value} {t : TypeId} (h : Blk w b arr t) : ∀ o, w.frozen? ⟨b, o, none⟩ = false := by
  intro o
  unfold Blk at h
  simp [World.frozen?, h]
theorem Blk.set {w : World} {b : Nat} {arr : Array Value} {t : TypeId} (h : Blk w b arr t) (o : Nat) (u : Value) : Blk (w.setCell ⟨b, o, none⟩ u) b (arr.setIfInBounds o u) t := by
  have hlt := h.lt
  unfold Blk at h
  have h' : w.heap[b] = .cells arr t (0, 0) := by simpa [Array.getElem?_eq_getElem hlt] using h
  show (w.heap.modify b _)[b]? = _
  rw [Array.getElem?_eq_getElem (by simpa using hlt), Array.getElem_modify_self, h']
  rfl
theorem Blk.set_ne {w : World} {b : Nat} {arr : Array Value} {t : TypeId} (h : Blk w b arr t) {c o : Nat} (hne : b ≠ c) (u : Value) : Blk (w.setCell ⟨c, o, none⟩ u) b arr t := by
  unfold Blk
  rw [Below.heap_setCell _ _ _ _ hne]
  exact h
theorem Blk.alloc {w : World} {b : Nat} {arr : Array Value} {t : TypeId} (h : Blk w b arr t) (o : Obj) : Blk (w.alloc o) b arr t := by
  unfold Blk
  rw [Below.heap_alloc _ _ _ h.lt]
  exact h
theorem Blk.drew {w : World} {b : Nat} {arr : Array Value} {t : TypeId} (h : Blk w b arr t) : Blk w.drew b arr t := h
theorem Blk.drewN {w : World} {b : Nat} {arr : Array Value} {t : TypeId} (h : Blk w b arr t) (n : Nat) : Blk (w.drewN n) b arr t := h
theorem Blk.below {w w1 : World} {b : Nat} {arr : Array Value} {t : TypeId} (h : Blk w b arr t) (hb : Below w.heap.size w w1) : Blk w1 b arr t := by
  unfold Blk
  rw [hb.block b h.lt]
  exact h

/-- Below B the world is as it was, but for block b. -/
structure But (B : Nat) (b : Nat) (w w' : World) : Prop where
  os : w'.os = w.os
  tape : w'.tape = w.tape
  output : w'.output = w.output
  size : w.heap.size ≤ w'.heap.size
  block : ∀ k, k < B → k ≠ b → w'.heap[k]? = w.heap[k]?
theorem But.of_below {B b : Nat} {w w' : World} (h : Below B w w') : But B b w w' := ⟨h.os, h.tape, h.output, h.size, fun k hk _ => h.block k hk⟩
theorem But.refl (B b : Nat) (w : World) : But B b w w := But.of_below (Below.refl _ _)
theorem But.trans {B b : Nat} {w w1 w2 : World} (h : But B b w w1) (k : But B b w1 w2) : But B b w w2 :=
  ⟨k.os.trans h.os, k.tape.trans h.tape, k.output.trans h.output, Nat.le_trans h.size k.size, fun i hi hne => (k.block i hi hne).trans (h.block i hi hne)⟩
theorem But.mono {B B' b : Nat} {w w' : World} (h : But B b w w') (hB : B' ≤ B) : But B' b w w' := ⟨h.os, h.tape, h.output, h.size, fun k hk => h.block k (Nat.lt_of_lt_of_le hk hB)⟩
theorem But.setCell {B b : Nat} {w w1 : World} (h : But B b w w1) (o : Nat) (u : Value) : But B b w (w1.setCell ⟨b, o, none⟩ u) :=
  h.trans ⟨rfl, rfl, rfl, by simp [World.setCell], fun k _ hne => Below.heap_setCell _ _ _ _ hne⟩
theorem But.setNew {B b : Nat} {w w1 : World} (h : But B b w w1) {p : Addr} (hp : B ≤ p.block) (u : Value) : But B b w (w1.setCell p u) :=
  h.trans ⟨rfl, rfl, rfl, by simp [World.setCell], fun k hk _ => Below.heap_setCell _ _ _ _ (by omega)⟩
theorem But.alloc {B b : Nat} {w w1 : World} (h : But B b w w1) (hB : B ≤ w1.heap.size) (o : Obj) : But B b w (w1.alloc o) :=
  h.trans (But.of_below ((Below.refl _ _).alloc hB o))
theorem But.drew {B b : Nat} {w w1 : World} (h : But B b w w1) : But B b w w1.drew := ⟨h.os, h.tape, h.output, h.size, h.block⟩
theorem But.drewN {B b : Nat} {w w1 : World} (h : But B b w w1) (n : Nat) : But B b w (w1.drewN n) := ⟨h.os, h.tape, h.output, h.size, h.block⟩
theorem But.then {B b : Nat} {w w1 w2 : World} (h : But B b w w1) (hB : B ≤ w1.heap.size) (k : But w1.heap.size b w1 w2) : But B b w w2 := h.trans (k.mono hB)
theorem But.thenBelow {B b : Nat} {w w1 w2 : World} (h : But B b w w1) (hB : B ≤ w1.heap.size) (k : Below w1.heap.size w1 w2) : But B b w w2 := h.trans (But.of_below (k.mono hB))
/-- What a block held that is not b, it holds. -/
theorem Blk.but {w w1 : World} {b c : Nat} {arr : Array Value} {t : TypeId} (h : Blk w c arr t) (hb : But w.heap.size b w w1) (hne : c ≠ b) : Blk w1 c arr t := by
  unfold Blk
  rw [hb.block c h.lt hne]
  exact h
theorem But.cell {w w1 : World} {b : Nat} (hb : But w.heap.size b w w1) (k : Nat) (hk : k < w.heap.size) (hne : k ≠ b) (o : Nat) : w1.cell? ⟨k, o, none⟩ = w.cell? ⟨k, o, none⟩ :=
  World.cell?_of_block (w := w) (a := ⟨k, o, none⟩) (hb.block k hk hne)
theorem But.frozen {w w1 : World} {b : Nat} (hb : But w.heap.size b w w1) (k : Nat) (hk : k < w.heap.size) (hne : k ≠ b) (o : Nat) : w1.frozen? ⟨k, o, none⟩ = w.frozen? ⟨k, o, none⟩ :=
  World.frozen?_of_block (w := w) (a := ⟨k, o, none⟩) (hb.block k hk hne)
end Go.Proofs.YtangdbjoflnobaaGreatDoor
