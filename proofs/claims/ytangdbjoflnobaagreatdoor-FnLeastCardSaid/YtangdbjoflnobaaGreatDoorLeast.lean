/- The walk of FnLeast. -/
import Derived.Test.YtangdbjoflnobaaGreatDoorFold
import Derived.Test.YtangdbjoflnobaaGreatDoorAble
import Derived.Test.YtangdbjoflnobaaGreatDoorSigEq
import Derived.Deep.QuietTactic
import Derived.BigQuiet
import Derived.Deep.RegionHeld3
import Derived.Deep.Cut
namespace Go.Proofs.YtangdbjoflnobaaGreatDoor
open Go Go.RowKit
set_option linter.unusedSimpArgs false
set_option linter.unusedVariables false

def Nm.cells (x : Nm) : List Value := [.int .i64 1, .int .i64 x.n, .int .i64 x.d, .string ⟨#[]⟩, .bool false, .int .i64 0]
theorem Nm.len (x : Nm) : x.cells.length = 6 := rfl
theorem Nm.one (x : Nm) : ∀ u ∈ x.cells, u.oneCell' = true := by
  intro u hu
  simp only [Nm.cells, List.mem_cons, List.mem_nil_iff, or_false] at hu
  rcases hu with rfl | rfl | rfl | rfl | rfl | rfl <;> rfl
/-- The right numbers among the first k. -/
def rights (ls : List Nm) (k : Nat) : List Nm := (ls.take k).filter fun x => rightN x.n x.d
theorem rights_step {ls : List Nm} {k : Nat} {x : Nm} (h : ls[k]? = some x) : rights ls (k + 1) = if rightN x.n x.d then rights ls k ++ [x] else rights ls k := by
  unfold rights
  rw [List.take_add_one, h, List.filter_append]
  cases hr : rightN x.n x.d <;> simp [hr]
theorem rights_len (ls : List Nm) (k : Nat) : (rights ls k).length ≤ k := by
  unfold rights
  have := List.length_filter_le (fun x : Nm => rightN x.n x.d) (ls.take k)
  rw [List.length_take] at this
  omega
theorem rights_ok (ls : List Nm) (k : Nat) : ∀ x ∈ rights ls k, RtN x := by
  intro x hx
  unfold rights at hx
  exact (List.mem_filter.1 hx).2
theorem rights_nil (ls : List Nm) : rights ls 0 = [] := rfl
/-- The row, turned and read from its end. -/
def turned (ms : List Nm) (K k : Nat) : List Nm := (List.range k).map fun i => ms.getD ((ms.length - 1 - i + K) % ms.length) ⟨0, 1⟩
theorem turned_step (ms : List Nm) (K k : Nat) : turned ms K (k + 1) = turned ms K k ++ [ms.getD ((ms.length - 1 - k + K) % ms.length) ⟨0, 1⟩] := by
  unfold turned
  rw [List.range_succ, List.map_append]
  rfl
theorem turned_len (ms : List Nm) (K k : Nat) : (turned ms K k).length = k := by simp [turned]
theorem turned_mem {ms : List Nm} {K : Nat} (hne : ms ≠ []) : ∀ x, x ∈ ms ↔ x ∈ turned ms K ms.length := by
  have hpos : 0 < ms.length := by cases ms with
    | nil => exact absurd rfl hne
    | cons _ _ => simp
  intro x
  unfold turned
  constructor
  · intro hx
    obtain ⟨j, hj, rfl⟩ := List.getElem_of_mem hx
    rw [List.mem_map]
    refine ⟨(ms.length - 1 - j + K) % ms.length, List.mem_range.2 (Nat.mod_lt _ hpos), ?_⟩
    have e : (ms.length - 1 - (ms.length - 1 - j + K) % ms.length + K) % ms.length = j := by
      have h1 := Nat.mod_add_div (ms.length - 1 - j + K) ms.length
      have h2 := Nat.mod_lt (ms.length - 1 - j + K) hpos
      generalize (ms.length - 1 - j + K) % ms.length = r at *
      generalize (ms.length - 1 - j + K) / ms.length = q at *
      have h3 : ms.length - 1 - r + K = j + ms.length * q := by omega
      rw [h3, Nat.add_mul_mod_self_left, Nat.mod_eq_of_lt hj]
    rw [e, List.getD_eq_getElem?_getD, List.getElem?_eq_getElem hj]
    rfl
  · intro hx
    rw [List.mem_map] at hx
    obtain ⟨i, _, rfl⟩ := hx
    have hl := Nat.mod_lt (ms.length - 1 - i + K) hpos
    rw [List.getD_eq_getElem?_getD, List.getElem?_eq_getElem hl]
    exact List.getElem_mem hl
theorem numRow_of {w : World} {B g cap : Nat} {L : List Nm} (h : w.ownsRow B 35 6 (.slice (some ⟨g, 0, none⟩) L.length cap) L.length (L.flatMap Nm.cells)) : NumRow w g L := by
  intro k x hx
  have hl : k < L.length := by
    rcases Nat.lt_or_ge k L.length with h | h
    · exact h
    · rw [List.getElem?_eq_none h] at hx; cases hx
  have e : L[k] = x := by rw [List.getElem?_eq_getElem hl] at hx; exact Option.some.inj hx
  have key : ∀ j, j < 6 → w.cell? ⟨g, k * 6 + j, none⟩ = (Nm.cells x)[j]? := fun j hj => by
    rw [h.cellAt (k * 6 + j) (by omega), flat6 Nm.cells Nm.len _ _ _ hl hj, e]
  exact ⟨key 0 (by decide), key 1 (by decide), key 2 (by decide), key 3 (by decide), key 4 (by decide), key 5 (by decide)⟩

theorem ex_frame (T : Array Value) (F : (Nat → Value) → Array Value) (h : T = F (fun i => T.getD i undef)) : ∃ u, ({ tmps := T, defers := [] } : Act) = { tmps := F u, defers := [] } := ⟨_, by rw [← h]⟩
theorem cut_block {P : Program} {c : Code} {K : Act → World → Prop} {Q' : Exit → Act → World → Prop} {id : Nat} {a : Act} {w : World} (R : Act → World → Prop) (rest : ∀ a' w', R a' w' → K a' w')
    (first : c.wp P (Exit.inBlock id (Exit.then R Q')) a w) : c.wp P (Exit.inBlock id (Exit.then K Q')) a w := by
  refine wp_mono first ?_
  intro e a' w' hq
  cases e with
  | normal => exact rest _ _ hq
  | exit id' =>
    simp only [Exit.inBlock, Exit.then] at hq ⊢
    split at hq
    · rename_i h; rw [if_pos h]; exact rest _ _ hq
    · rename_i h; rw [if_neg h]; exact hq
  | _ => exact hq

structure Lst1 (w : World) (ls : List Nm) (x i : Value) (k : Nat) (wr : World) : Prop where
  le : k ≤ ls.length
  most : k ≤ 20000
  i : i = .int .i64 k
  below : Below w.heap.size w wr
  own : wr.ownsRow w.heap.size 35 6 x (rights ls k).length ((rights ls k).flatMap Nm.cells)

def hasN (x : Nm) (l : List Nm) : Bool := l.any fun y => veq ⟨1, y.n, y.d, ⟨#[]⟩, false, 0⟩ ⟨1, x.n, x.d, ⟨#[]⟩, false, 0⟩
theorem hasN_step {x y : Nm} {ms : List Nm} {j : Nat} (h : ms[j]? = some y) : hasN x (ms.take (j + 1)) = (hasN x (ms.take j) || veq ⟨1, y.n, y.d, ⟨#[]⟩, false, 0⟩ ⟨1, x.n, x.d, ⟨#[]⟩, false, 0⟩) := by
  unfold hasN
  rw [List.take_add_one, h, List.any_append]
  simp
theorem hasN_mem {x : Nm} {ms : List Nm} (h : x ∈ ms) : hasN x ms = true := by
  unfold hasN
  rw [List.any_eq_true]
  exact ⟨x, h, veq_true.2 rfl⟩
structure Lst3 (w w0 : World) (ms : List Nm) (lo hh : Nm) (p q i : Value) (j : Nat) (wr : World) : Prop where
  le : j ≤ ms.length
  p : p = .bool (hasN lo (ms.take j))
  q : q = .bool (hasN hh (ms.take j))
  i : i = .int .i64 j
  below : Below w.heap.size w wr
  from0 : Below w0.heap.size w0 wr

structure Lst2 (w w0 : World) (ms : List Nm) (gc capc K : Nat) (x i : Value) (k : Nat) (wr : World) : Prop where
  le : k ≤ ms.length
  i : i = .int .i64 k
  below : Below w.heap.size w wr
  from0 : Below w0.heap.size w0 wr
  own : wr.ownsRow w.heap.size 35 6 (.slice (some ⟨gc, 0, none⟩) ms.length capc) ms.length (ms.flatMap Nm.cells)
  other : wr.ownsRow w0.heap.size 35 6 x k ((turned ms K k).flatMap Nm.cells)

set_option maxRecDepth 100000 in
set_option maxHeartbeats 40000000 in
theorem law_FnLeast_nil (a : Option Addr) (cap : Nat) (turn : Int) (w : World) :
    Calls Tryz.prog 5 #[.slice a 0 cap, .int .i64 turn] w fun e w' => e = .returned (.bool true) ∧ Below w.heap.size w w' := by
  go_enter Tryz.func5, Tryz.ntmps5
  go_wp2_with fail
  refine (law_able _).mono ?_
  rintro e w1 ⟨rfl, hb1⟩
  go_wp2
  refine wp_loop_rounds 1 ?_
  rw [rounds_succ]
  go_wp2
  go_ret
  exact ⟨rfl, hb1⟩

set_option maxRecDepth 100000 in
set_option maxHeartbeats 40000000 in
theorem law_FnLeast0 (ls : List Nm) (b off cap : Nat) (turn : Int) (w : World) (hb : b < w.heap.size) (hbig : ls.length ≤ 9223372036854775807) (ht : I64 turn) (hin : ∀ x ∈ ls, I64 x.n ∧ I64 x.d)
    (hc : ∀ k x, ls[k]? = some x → w.cell? ⟨b, off + k * 2, none⟩ = some (.int .i64 x.n) ∧ w.cell? ⟨b, off + k * 2 + 1, none⟩ = some (.int .i64 x.d)) :
    Calls Tryz.prog 5 #[.slice (some ⟨b, off, none⟩) ls.length cap, .int .i64 turn] w fun e w' => e = .returned (.bool true) ∧ Below w.heap.size w w' := by
  obtain ⟨i0, hi, hz, hsz, hby⟩ := zero_val
  have HC := Lib.hid hc
  have HI := Lib.hid hin
  clear hc hin
  obtain ⟨n, hn⟩ : ∃ n, n = ls.length := ⟨_, rfl⟩
  rw [← hn] at hbig ⊢
  have HN := Lib.hid hn
  clear hn
  go_enter Tryz.func5, Tryz.ntmps5
  go_wp2_with fail
  refine (law_able _).mono ?_
  rintro e w1 ⟨rfl, hb1⟩
  go_wp2
  obtain ⟨R, hR⟩ : ∃ R : Act → World → Prop, R = fun a' wc => ∃ s5, (Below w.heap.size w wc ∧ wc.ownsRow w.heap.size 35 6 s5 (rights ls 20000).length ((rights ls 20000).flatMap Nm.cells)) ∧ ∃ u : Nat → Value, a' = { tmps := #[.slice (some ⟨b, off, none⟩) n cap, .int .i64 turn, u 2, u 3, .bool false, s5, .slice none 0 0, u 7, u 8, u 9, u 10, u 11, u 12, u 13, u 14, u 15, u 16, u 17, u 18, u 19, u 20, u 21, u 22, u 23, u 24, u 25, u 26, u 27, u 28, u 29, u 30, u 31, u 32, u 33, u 34, u 35, u 36, u 37, u 38, u 39, u 40, u 41, u 42, u 43, u 44, u 45, u 46, u 47, u 48, u 49, u 50, u 51, u 52, u 53, u 54, u 55, u 56, u 57, u 58, u 59, u 60, u 61, u 62, u 63, u 64, u 65, u 66, u 67, u 68, u 69, u 70, u 71, u 72, u 73, u 74, u 75, u 76, u 77, u 78, u 79, u 80, u 81, u 82, u 83, u 84, u 85, u 86, u 87, u 88, u 89, u 90, u 91, u 92, u 93, u 94, u 95, u 96, u 97, u 98, u 99, u 100, u 101, u 102, u 103, u 104, u 105, u 106, u 107, u 108, u 109, u 110, u 111, u 112, u 113, u 114, u 115, u 116, u 117, u 118, u 119, u 120, u 121, u 122, u 123, u 124, u 125, u 126, u 127, u 128, u 129, u 130, u 131, u 132, u 133, u 134, u 135, u 136, u 137, u 138, u 139, u 140, u 141, u 142, u 143, u 144, u 145, u 146], defers := [] } := ⟨_, rfl⟩
  have hRR := Lib.hid hR
  clear hR
  refine cut_block R (fun a' wB h => ?_) ?_
  case refine_2 =>
   go_loopw [5, 7] (fun x i wr => ∃ k, Lst1 w ls x i k wr) (fun _ i _ => 20000 - (intOf i).toNat)
   case atStart => exact ⟨0, by omega, by omega, rfl, hb1, World.ownsRow_nil _ _ _ _⟩
   case round =>
     clear hb1
     obtain ⟨k, hk, hk2, rfl, hbk, hown⟩ := hrel
     by_cases hlt : k < n ∧ k < 20000
     · obtain ⟨hlt, hlt2⟩ := hlt
       have hkl : k < ls.length := by rw [← HN.out]; exact hlt
       obtain ⟨x, hx⟩ : ∃ x, ls[k]? = some x := ⟨_, List.getElem?_eq_getElem hkl⟩
       have c0 := (lcc hbk b hb _).trans (HC.out k x hx).1
       have c1 := (lcc hbk b hb _).trans (HC.out k x hx).2
       have hxi := HI.out x (List.mem_of_getElem? hx)
       have hstep := Lib.hid (rights_step hx)
       have hlen := rights_len ls k
       have hsk := hbk.size
       clear hx
       cases hr : rightN x.n x.d
       · rw [hr] at hstep
         have HR := Lib.hid hr
         clear hr
         have HB := Lib.hid (And.intro hbk hown)
         clear hbk hown
         go_wp2_with fail
         refine (num_Right _ _ _ hxi.1 hxi.2).mono ?_
         rintro e w2 ⟨rfl, hb2⟩
         rw [HR.out]
         go_wp2
         go_roundw
         case rel => exact ⟨k + 1, by omega, by omega, by go_num, HB.out.1.trans (hb2.mono hsk), by rw [hstep.out]; exact own_below HB.out.2 hb2⟩
         case measure => simp [intOf]; omega
       · rw [hr] at hstep
         have HR := Lib.hid hr
         have HV := Lib.hid fun wx => value_Number x.n x.d wx hxi.1 hxi.2
         have eV : numF x.n x.d = numV x.n x.d := by unfold numF; rw [tk_of hr]
         rw [eV] at HV
         clear hr eV
         have HB := Lib.hid (And.intro hbk hown)
         clear hbk hown
         go_wp2_with fail
         refine (num_Right _ _ _ hxi.1 hxi.2).mono ?_
         rintro e w2 ⟨rfl, hb2⟩
         rw [HR.out]
         have hs2 := hb2.size
         have c2 := (lcc hb2 b (by omega) _).trans c0
         have c3 := (lcc hb2 b (by omega) _).trans c1
         go_wp2_with fail
         refine (HV.out _).mono ?_
         rintro e w3 ⟨rfl, hb3⟩
         have hs3 := hb3.size
         have hown3 := own_below (own_below HB.out.2 hb2) hb3
         go_wp2_with (first
           | (at_builtin; refine wpList_append_lies _ rfl _ _ 31 rfl w.heap.size 35 i0 _ 6 56 Tryz.underlying31 hi hz hsz hby rfl (by decide) _ (rights ls k).length _ rfl (hown3.alloc _) ⟨w3.heap.size, 0, none⟩ 1 1 (Nm.cells x) rfl rfl (World.news_of_block (heap_alloc_new _ _)) (Nm.one _) (by decide) (by unfold maxLen; omega) (by omega) (by simp; omega) _ rfl ?_; intro g capg w5 hown5 hgrow5 hat5 hlt5)
           | fail)
         go_roundw
         case rel =>
           refine ⟨k + 1, by omega, by omega, by go_num, below_grownBy ((HB.out.1.trans ((hb2.mono hsk).trans (hb3.mono (by omega)))).alloc (by omega) _) hgrow5 (hown3.alloc _) (by simp; omega), ?_⟩
           rw [hstep.out, if_pos trivial, List.length_append, flat6_snoc]; exact hown5
         case measure => simp [intOf]; omega
     · have hm : rights ls k = rights ls 20000 := by
         rcases Nat.lt_or_ge k 20000 with h | h
         · unfold rights
           rw [List.take_of_length_le (l := ls) (by rw [← HN.out]; omega), List.take_of_length_le (l := ls) (by rw [← HN.out]; omega)]
         · have : k = 20000 := by omega
           rw [this]
       rw [hm] at hown
       clear hm
       have HB := Lib.hid (And.intro hbk hown)
       clear hbk hown
       by_cases hkn : k < n
       · have hk20 : ¬ k < 20000 := by omega
         go_wp2_with fail
         rw [hRR.out]
         exact ⟨_, HB.out, ex_frame _ _ rfl⟩
       · go_wp2_with fail
         rw [hRR.out]
         exact ⟨_, HB.out, ex_frame _ _ rfl⟩
  rw [hRR.out] at h
  clear hRR
  obtain ⟨s5, ⟨hbk, hown⟩, u, rfl⟩ := h
  clear hb1
  have hms := rights_ok ls 20000
  have hlen := rights_len ls 20000
  generalize rights ls 20000 = ms at *
  obtain ⟨m, hm⟩ : ∃ m, m = ms.length := ⟨_, rfl⟩
  rw [← hm] at hown hlen
  by_cases h0 : m = 0
  · have hnil : s5 = .slice none 0 0 ∨ ∃ g c, s5 = .slice (some ⟨g, 0, none⟩) 0 c := by
      rcases hown.2 with ⟨h, _⟩ | ⟨g, c, _, h, _⟩
      · exact Or.inl h
      · rw [h0] at h; exact Or.inr ⟨g, c, h⟩
    clear hown hms
    rcases hnil with rfl | ⟨g, c, rfl⟩
    · go_wp2
      go_ret
      exact ⟨rfl, hbk⟩
    · go_wp2
      go_ret
      exact ⟨rfl, hbk⟩
  · obtain ⟨gc, capc, rfl, hgc, hgc2⟩ := hown.form (by omega)
    have HMS := Lib.hid hms
    have HM := Lib.hid hm
    have HO := Lib.hid hown
    clear hms hm hown
    have hmi : ¬ (m : Int) = 0 := by omega
    have hab : (turn.tmod (m : Int)).natAbs < m := by rw [Int.natAbs_tmod, Int.natAbs_natCast]; exact Nat.mod_lt _ (by omega)
    go_upto_if 49 with (fail)
    go_cut [9] from 16 (fun s9 wx => wx = wB ∧ ∃ K : Nat, K < m ∧ s9 = .int .i64 K)
    case first =>
      by_cases hneg : turn.tmod (m : Int) < 0
      · go_wp2_with fail
        go_meet
        exact ⟨rfl, (turn.tmod (m : Int) + m).toNat, by omega, by rw [Int.toNat_of_nonneg (by omega)]⟩
      · go_wp2_with fail
        go_meet
        exact ⟨rfl, (turn.tmod (m : Int)).toNat, by omega, by rw [Int.toNat_of_nonneg (by omega)]⟩
    case rest =>
    obtain ⟨hwc, K, hK, rfl⟩ := hcut
    rw [hwc]
    clear hwc hab
    go_wp2
    go_loopw [6, 10] (fun x i wr => ∃ k, Lst2 w wB ms gc capc K x i k wr) (fun _ i _ => m - (intOf i).toNat)
    case atStart =>
      rw [HM.out] at *
      exact ⟨0, by omega, rfl, hbk, Below.refl _ _, HO.out, World.ownsRow_nil _ _ _ _⟩
    case round =>
      obtain ⟨k, hk, rfl, hb0, hb2, hoc, hox⟩ := hrel
      rw [← HM.out] at hk
      by_cases hlt : k < m
      · have hpos : 0 < ms.length := by rw [← HM.out]; omega
        obtain ⟨J, hJd⟩ : ∃ J, J = (ms.length - 1 - k + K) % ms.length := ⟨_, rfl⟩
        have hJl : J < ms.length := by rw [hJd]; exact Nat.mod_lt _ hpos
        have hJm : J < m := by rw [HM.out]; exact hJl
        have hJ : ((m : Int) - 1 - k + K).tmod m = (J : Int) := by
          rw [hJd, ← HM.out, show ((m : Int) - 1 - k + K) = ((m - 1 - k + K : Nat) : Int) by omega, ← Int.ofNat_tmod]
        obtain ⟨y, hy⟩ : ∃ y, ms[J]? = some y := ⟨_, List.getElem?_eq_getElem hJl⟩
        obtain ⟨c0, c1, c2, c3, c4, c5⟩ := numRow_of hoc J y hy
        have hstep : turned ms K (k + 1) = turned ms K k ++ [y] := by
          rw [turned_step, ← hJd, List.getD_eq_getElem?_getD, hy]; rfl
        have HS := Lib.hid hstep
        have hgw := (hoc.lt gc rfl).2
        have HH := Lib.hid (And.intro hb0 (And.intro hb2 (And.intro hoc hox)))
        have hs0 := hb0.size
        have hs2 := hb2.size
        have hsw := hbk.size
        clear hy hstep hJd hoc hb0 hb2
        go_wp2_with (first
          | (at_builtin; refine wpList_append_lies _ rfl _ _ 31 rfl wB.heap.size 35 i0 _ 6 56 Tryz.underlying31 hi hz hsz hby rfl (by decide) _ k _ rfl (hox.alloc _) ⟨wr.heap.size, 0, none⟩ 1 1 (Nm.cells y) rfl rfl (World.news_of_block (heap_alloc_new _ _)) (Nm.one _) (by decide) (by unfold maxLen; omega) (by omega) (by simp; omega) _ rfl ?_; intro g5 capg w5 hown5 hgrow5 hat5 hlt5)
          | fail)
        go_roundw
        case rel =>
          obtain ⟨hb0, hb2, hoc, _⟩ := HH.out
          refine ⟨k + 1, by rw [← HM.out]; omega, by go_num, below_grownBy (hb0.alloc (by omega) _) hgrow5 (own_mono (hox.alloc _) (by omega)) (by simp; omega), below_grownBy (hb2.alloc (by omega) _) hgrow5 (hox.alloc _) (by simp; omega), ?_, ?_⟩
          · have hne := own_ne (hox.alloc (.cells (Nm.cells y).toArray 35)) (k := gc) (by omega)
            exact World.ownsRow.kept (hoc.alloc _) hgrow5 (Or.inr hne)
          · rw [HS.out, flat6_snoc]; exact hown5
        case measure => simp [intOf]; omega
      · obtain rfl : k = m := by omega
        obtain ⟨go, capo, rfl, hgo, hgo2⟩ := hox.form (by omega)
        have hne : ms ≠ [] := by
          intro h
          have := HM.out
          rw [h] at this
          simp at this
          omega
        have hrow := Lib.hid (numRow_of hoc)
        have hox' : wr.ownsRow wB.heap.size 35 6 (.slice (some ⟨go, 0, none⟩) (turned ms K k).length capo) (turned ms K k).length ((turned ms K k).flatMap Nm.cells) := by rw [turned_len]; exact hox
        have hrow2 := Lib.hid (numRow_of hox')
        have hos : ∀ y ∈ turned ms K k, RtN y := by
          intro y hy
          have e : k = ms.length := HM.out
          rw [e] at hy
          exact HMS.out y ((turned_mem hne y).2 hy)
        have hos' := Lib.hid hos
        have hol : (turned ms K k).length = k := turned_len _ _ _
        have hgw := (hoc.lt gc rfl).2
        obtain ⟨lo, hlo⟩ : ∃ lo, lo = best (-1) ms := ⟨_, rfl⟩
        obtain ⟨hh, hhi⟩ : ∃ hh, hh = best 1 ms := ⟨_, rfl⟩
        have hlo2 : best (-1) (turned ms K k) = lo := by
          rw [hlo]; exact (best_same (Or.inl rfl) HMS.out hne (by rw [HM.out]; exact turned_mem hne)).symm
        have hhi2 : best 1 (turned ms K k) = hh := by
          rw [hhi]; exact (best_same (Or.inr rfl) HMS.out hne (by rw [HM.out]; exact turned_mem hne)).symm
        have hne2 : turned ms K k ≠ [] := by
          intro h; have := hol; rw [h] at this; simp at this; omega
        have F5 := Lib.hid fun wx (hg : gc < wx.heap.size) (hr : NumRow wx gc ms) => law_fold5 ms HMS.out gc k capc HM.out.symm (by omega) wx hg hr
        have F6 := Lib.hid fun wx (hg : gc < wx.heap.size) (hr : NumRow wx gc ms) => law_fold6 ms HMS.out gc k capc HM.out.symm (by omega) wx hg hr
        have G5 := Lib.hid fun wx (hg : go < wx.heap.size) (hr : NumRow wx go (turned ms K k)) => law_fold5 (turned ms K k) hos go k capo hol (by omega) wx hg hr
        have G6 := Lib.hid fun wx (hg : go < wx.heap.size) (hr : NumRow wx go (turned ms K k)) => law_fold6 (turned ms K k) hos go k capo hol (by omega) wx hg hr
        have R5 := Lib.hid fun p wx hA => res_best5 ms hne HMS.out p wx hA
        have R6 := Lib.hid fun p wx hA => res_best6 ms hne HMS.out p wx hA
        have T5 := Lib.hid fun p wx hA => res_best5 (turned ms K k) hne2 hos p wx hA
        have T6 := Lib.hid fun p wx hA => res_best6 (turned ms K k) hne2 hos p wx hA
        rw [← hlo] at R5
        rw [← hhi] at R6
        rw [hlo2] at T5
        rw [hhi2] at T6
        have hb0' := hb0
        clear hox hox' hoc hos hol hlo2 hhi2 hne2
        have HLO := Lib.hid (And.intro hlo hhi)
        clear hlo hhi
        go_wp2_with fail
        refine (F5.out _ hgw hrow.out).mono ?_
        rintro e w1 ⟨rfl, A1, hbA⟩
        go_wp2_with fail
        refine (R5.out _ _ A1).mono ?_
        rintro e w2 ⟨rfl, hbB⟩
        have hb02 := hbA.trans (hbB.mono hbA.size)
        go_wp2_with fail
        refine (F6.out _ (by have := hb02.size; omega) (hrow.out.below hgw hb02)).mono ?_
        rintro e w3 ⟨rfl, A3, hbC⟩
        go_wp2_with fail
        refine (R6.out _ _ A3).mono ?_
        rintro e w4 ⟨rfl, hbD⟩
        have hb04 := hb02.trans ((hbC.trans (hbD.mono hbC.size)).mono hb02.size)
        clear A1 A3 hbA hbB hbC hbD hb02 F5 F6 R5 R6
        have hs4 := hb04.size
        go_wp2_with fail
        refine wp_rebase ?_
        intro wC hbE'
        have hbE := hbE'.out
        clear hbE'
        have hsE := hbE.size
        simp only [sz_alloc] at hsE
        have hbC := hb0'.trans ((hb04.mono hb0'.size).trans (((Below.refl w.heap.size w4).alloc (by have := hb0'.size; omega) _ |>.alloc (by simp only [sz_alloc]; have := hb0'.size; omega) _).trans (hbE.mono (by simp only [sz_alloc]; have := hb0'.size; omega))))
        have hrowC : NumRow wC gc ms := (((hrow.out.below hgw hb04).below (by omega) ((Below.refl _ _).alloc (Nat.le_refl _) _ |>.alloc (by simp) _)).below (by simp only [sz_alloc]; omega) hbE)
        have hrowD : NumRow wC go (turned ms K k) := (((hrow2.out.below hgo2 hb04).below (by omega) ((Below.refl _ _).alloc (Nat.le_refl _) _ |>.alloc (by simp) _)).below (by simp only [sz_alloc]; omega) hbE)
        have s1 := lcs hbE (w4.heap.size) (by (first | omega | (simp only [sz_alloc, sz_setCell, sz_drew, sz_drewN]; omega) | (simp; done) | (simp; omega)))
        have c1_0 := (lcc hbE (w4.heap.size) (by (first | omega | (simp only [sz_alloc, sz_setCell, sz_drew, sz_drewN]; omega) | (simp; done) | (simp; omega))) 0).trans (by go_simp; exact rfl)
        have c1_1 := (lcc hbE (w4.heap.size) (by (first | omega | (simp only [sz_alloc, sz_setCell, sz_drew, sz_drewN]; omega) | (simp; done) | (simp; omega))) 1).trans (by go_simp; exact rfl)
        have c1_2 := (lcc hbE (w4.heap.size) (by (first | omega | (simp only [sz_alloc, sz_setCell, sz_drew, sz_drewN]; omega) | (simp; done) | (simp; omega))) 2).trans (by go_simp; exact rfl)
        have c1_3 := (lcc hbE (w4.heap.size) (by (first | omega | (simp only [sz_alloc, sz_setCell, sz_drew, sz_drewN]; omega) | (simp; done) | (simp; omega))) 3).trans (by go_simp; exact rfl)
        have c1_4 := (lcc hbE (w4.heap.size) (by (first | omega | (simp only [sz_alloc, sz_setCell, sz_drew, sz_drewN]; omega) | (simp; done) | (simp; omega))) 4).trans (by go_simp; exact rfl)
        have c1_5 := (lcc hbE (w4.heap.size) (by (first | omega | (simp only [sz_alloc, sz_setCell, sz_drew, sz_drewN]; omega) | (simp; done) | (simp; omega))) 5).trans (by go_simp; exact rfl)
        have s2 := lcs hbE (w4.heap.size + 1) (by (first | omega | (simp only [sz_alloc, sz_setCell, sz_drew, sz_drewN]; omega) | (simp; done) | (simp; omega)))
        have c2_0 := (lcc hbE (w4.heap.size + 1) (by (first | omega | (simp only [sz_alloc, sz_setCell, sz_drew, sz_drewN]; omega) | (simp; done) | (simp; omega))) 0).trans (by go_simp; exact rfl)
        have c2_1 := (lcc hbE (w4.heap.size + 1) (by (first | omega | (simp only [sz_alloc, sz_setCell, sz_drew, sz_drewN]; omega) | (simp; done) | (simp; omega))) 1).trans (by go_simp; exact rfl)
        have c2_2 := (lcc hbE (w4.heap.size + 1) (by (first | omega | (simp only [sz_alloc, sz_setCell, sz_drew, sz_drewN]; omega) | (simp; done) | (simp; omega))) 2).trans (by go_simp; exact rfl)
        have c2_3 := (lcc hbE (w4.heap.size + 1) (by (first | omega | (simp only [sz_alloc, sz_setCell, sz_drew, sz_drewN]; omega) | (simp; done) | (simp; omega))) 3).trans (by go_simp; exact rfl)
        have c2_4 := (lcc hbE (w4.heap.size + 1) (by (first | omega | (simp only [sz_alloc, sz_setCell, sz_drew, sz_drewN]; omega) | (simp; done) | (simp; omega))) 4).trans (by go_simp; exact rfl)
        have c2_5 := (lcc hbE (w4.heap.size + 1) (by (first | omega | (simp only [sz_alloc, sz_setCell, sz_drew, sz_drewN]; omega) | (simp; done) | (simp; omega))) 5).trans (by go_simp; exact rfl)
        have hrC := Lib.hid hrowC
        have hrD := Lib.hid hrowD
        clear hrow hrow2 hrowC hrowD hbE
        have G5' : ∀ wx : World, (Below wC.heap.size wC wx ∧ wx.cell? ⟨w4.heap.size, 0, none⟩ = some (.int .i64 1) ∧ wx.cell? ⟨w4.heap.size, 1, none⟩ = some (.int .i64 lo.n) ∧ wx.cell? ⟨w4.heap.size, 2, none⟩ = some (.int .i64 lo.d) ∧ wx.cell? ⟨w4.heap.size, 3, none⟩ = some (.string ⟨#[]⟩) ∧ wx.cell? ⟨w4.heap.size, 4, none⟩ = some (.bool false) ∧ wx.cell? ⟨w4.heap.size, 5, none⟩ = some (.int .i64 0) ∧ wx.cell? ⟨(w4.heap.size + 1), 0, none⟩ = some (.int .i64 1) ∧ wx.cell? ⟨(w4.heap.size + 1), 1, none⟩ = some (.int .i64 hh.n) ∧ wx.cell? ⟨(w4.heap.size + 1), 2, none⟩ = some (.int .i64 hh.d) ∧ wx.cell? ⟨(w4.heap.size + 1), 3, none⟩ = some (.string ⟨#[]⟩) ∧ wx.cell? ⟨(w4.heap.size + 1), 4, none⟩ = some (.bool false) ∧ wx.cell? ⟨(w4.heap.size + 1), 5, none⟩ = some (.int .i64 0)) → Calls Tryz.prog 27 #[.int .i64 5, .slice (some ⟨go, 0, none⟩) k capo] wx _ := fun wx hS => G5.out wx (by have := hS.1.size; omega) (hrD.out.below (by omega) hS.1)
        have G6' : ∀ wx : World, (Below wC.heap.size wC wx ∧ wx.cell? ⟨w4.heap.size, 0, none⟩ = some (.int .i64 1) ∧ wx.cell? ⟨w4.heap.size, 1, none⟩ = some (.int .i64 lo.n) ∧ wx.cell? ⟨w4.heap.size, 2, none⟩ = some (.int .i64 lo.d) ∧ wx.cell? ⟨w4.heap.size, 3, none⟩ = some (.string ⟨#[]⟩) ∧ wx.cell? ⟨w4.heap.size, 4, none⟩ = some (.bool false) ∧ wx.cell? ⟨w4.heap.size, 5, none⟩ = some (.int .i64 0) ∧ wx.cell? ⟨(w4.heap.size + 1), 0, none⟩ = some (.int .i64 1) ∧ wx.cell? ⟨(w4.heap.size + 1), 1, none⟩ = some (.int .i64 hh.n) ∧ wx.cell? ⟨(w4.heap.size + 1), 2, none⟩ = some (.int .i64 hh.d) ∧ wx.cell? ⟨(w4.heap.size + 1), 3, none⟩ = some (.string ⟨#[]⟩) ∧ wx.cell? ⟨(w4.heap.size + 1), 4, none⟩ = some (.bool false) ∧ wx.cell? ⟨(w4.heap.size + 1), 5, none⟩ = some (.int .i64 0)) → Calls Tryz.prog 27 #[.int .i64 6, .slice (some ⟨go, 0, none⟩) k capo] wx _ := fun wx hS => G6.out wx (by have := hS.1.size; omega) (hrD.out.below (by omega) hS.1)
        have KS : ∀ W w' : World, (Below wC.heap.size wC W ∧ W.cell? ⟨w4.heap.size, 0, none⟩ = some (.int .i64 1) ∧ W.cell? ⟨w4.heap.size, 1, none⟩ = some (.int .i64 lo.n) ∧ W.cell? ⟨w4.heap.size, 2, none⟩ = some (.int .i64 lo.d) ∧ W.cell? ⟨w4.heap.size, 3, none⟩ = some (.string ⟨#[]⟩) ∧ W.cell? ⟨w4.heap.size, 4, none⟩ = some (.bool false) ∧ W.cell? ⟨w4.heap.size, 5, none⟩ = some (.int .i64 0) ∧ W.cell? ⟨(w4.heap.size + 1), 0, none⟩ = some (.int .i64 1) ∧ W.cell? ⟨(w4.heap.size + 1), 1, none⟩ = some (.int .i64 hh.n) ∧ W.cell? ⟨(w4.heap.size + 1), 2, none⟩ = some (.int .i64 hh.d) ∧ W.cell? ⟨(w4.heap.size + 1), 3, none⟩ = some (.string ⟨#[]⟩) ∧ W.cell? ⟨(w4.heap.size + 1), 4, none⟩ = some (.bool false) ∧ W.cell? ⟨(w4.heap.size + 1), 5, none⟩ = some (.int .i64 0)) → Below W.heap.size W w' → (Below wC.heap.size wC w' ∧ w'.cell? ⟨w4.heap.size, 0, none⟩ = some (.int .i64 1) ∧ w'.cell? ⟨w4.heap.size, 1, none⟩ = some (.int .i64 lo.n) ∧ w'.cell? ⟨w4.heap.size, 2, none⟩ = some (.int .i64 lo.d) ∧ w'.cell? ⟨w4.heap.size, 3, none⟩ = some (.string ⟨#[]⟩) ∧ w'.cell? ⟨w4.heap.size, 4, none⟩ = some (.bool false) ∧ w'.cell? ⟨w4.heap.size, 5, none⟩ = some (.int .i64 0) ∧ w'.cell? ⟨(w4.heap.size + 1), 0, none⟩ = some (.int .i64 1) ∧ w'.cell? ⟨(w4.heap.size + 1), 1, none⟩ = some (.int .i64 hh.n) ∧ w'.cell? ⟨(w4.heap.size + 1), 2, none⟩ = some (.int .i64 hh.d) ∧ w'.cell? ⟨(w4.heap.size + 1), 3, none⟩ = some (.string ⟨#[]⟩) ∧ w'.cell? ⟨(w4.heap.size + 1), 4, none⟩ = some (.bool false) ∧ w'.cell? ⟨(w4.heap.size + 1), 5, none⟩ = some (.int .i64 0)) := by
          rintro W w' ⟨h0, h1, h2, h3, h4, h5, h6, h7, h8, h9, h10, h11, h12⟩ hb
          have hz := h0.size
          have L1 := lcc hb w4.heap.size (by omega)
          have L2 := lcc hb (w4.heap.size + 1) (by omega)
          exact ⟨below_chain h0 hb, (L1 _).trans h1, (L1 _).trans h2, (L1 _).trans h3, (L1 _).trans h4, (L1 _).trans h5, (L1 _).trans h6, (L2 _).trans h7, (L2 _).trans h8, (L2 _).trans h9, (L2 _).trans h10, (L2 _).trans h11, (L2 _).trans h12⟩
        have S0 : Below wC.heap.size wC wC.drew ∧ wC.drew.cell? ⟨w4.heap.size, 0, none⟩ = some (.int .i64 1) ∧ wC.drew.cell? ⟨w4.heap.size, 1, none⟩ = some (.int .i64 lo.n) ∧ wC.drew.cell? ⟨w4.heap.size, 2, none⟩ = some (.int .i64 lo.d) ∧ wC.drew.cell? ⟨w4.heap.size, 3, none⟩ = some (.string ⟨#[]⟩) ∧ wC.drew.cell? ⟨w4.heap.size, 4, none⟩ = some (.bool false) ∧ wC.drew.cell? ⟨w4.heap.size, 5, none⟩ = some (.int .i64 0) ∧ wC.drew.cell? ⟨(w4.heap.size + 1), 0, none⟩ = some (.int .i64 1) ∧ wC.drew.cell? ⟨(w4.heap.size + 1), 1, none⟩ = some (.int .i64 hh.n) ∧ wC.drew.cell? ⟨(w4.heap.size + 1), 2, none⟩ = some (.int .i64 hh.d) ∧ wC.drew.cell? ⟨(w4.heap.size + 1), 3, none⟩ = some (.string ⟨#[]⟩) ∧ wC.drew.cell? ⟨(w4.heap.size + 1), 4, none⟩ = some (.bool false) ∧ wC.drew.cell? ⟨(w4.heap.size + 1), 5, none⟩ = some (.int .i64 0) := ⟨(Below.refl _ _).drew, c1_0, c1_1, c1_2, c1_3, c1_4, c1_5, c2_0, c2_1, c2_2, c2_3, c2_4, c2_5⟩
        have G5h := Lib.hid G5'
        have G6h := Lib.hid G6'
        have KSh := Lib.hid KS
        have S0h := Lib.hid S0
        clear G5' G6' KS S0 G5 G6
        have vl : veq ⟨1, lo.n, lo.d, ⟨#[]⟩, false, 0⟩ ⟨1, lo.n, lo.d, ⟨#[]⟩, false, 0⟩ = true := veq_true.2 rfl
        have vh : veq ⟨1, hh.n, hh.d, ⟨#[]⟩, false, 0⟩ ⟨1, hh.n, hh.d, ⟨#[]⟩, false, 0⟩ = true := veq_true.2 rfl
        go_region_held3 (fun w' => Below wC.heap.size wC w' ∧ w'.cell? ⟨w4.heap.size, 0, none⟩ = some (.int .i64 1) ∧ w'.cell? ⟨w4.heap.size, 1, none⟩ = some (.int .i64 lo.n) ∧ w'.cell? ⟨w4.heap.size, 2, none⟩ = some (.int .i64 lo.d) ∧ w'.cell? ⟨w4.heap.size, 3, none⟩ = some (.string ⟨#[]⟩) ∧ w'.cell? ⟨w4.heap.size, 4, none⟩ = some (.bool false) ∧ w'.cell? ⟨w4.heap.size, 5, none⟩ = some (.int .i64 0) ∧ w'.cell? ⟨(w4.heap.size + 1), 0, none⟩ = some (.int .i64 1) ∧ w'.cell? ⟨(w4.heap.size + 1), 1, none⟩ = some (.int .i64 hh.n) ∧ w'.cell? ⟨(w4.heap.size + 1), 2, none⟩ = some (.int .i64 hh.d) ∧ w'.cell? ⟨(w4.heap.size + 1), 3, none⟩ = some (.string ⟨#[]⟩) ∧ w'.cell? ⟨(w4.heap.size + 1), 4, none⟩ = some (.bool false) ∧ w'.cell? ⟨(w4.heap.size + 1), 5, none⟩ = some (.int .i64 0)) ((first | exact S0h.out | exact KSh.out _ _ (by with_reducible assumption) hb))
          ((first
            | (go_at_call_of 27 (Value.int IntKind.i64 5); refine (G5h.out _ (by with_reducible assumption)).mono ?_; rintro e w' ⟨rfl, A, hb⟩)
            | (go_at_call_of 27 (Value.int IntKind.i64 6); refine (G6h.out _ (by with_reducible assumption)).mono ?_; rintro e w' ⟨rfl, A, hb⟩)
            | (go_at_call 28; refine (T5.out _ _ A).mono ?_; rintro e w' ⟨rfl, hb⟩)
            | (go_at_call 28; refine (T6.out _ _ A).mono ?_; rintro e w' ⟨rfl, hb⟩)))
        have hSF : Below wC.heap.size wC w' ∧ w'.cell? ⟨w4.heap.size, 0, none⟩ = some (.int .i64 1) ∧ w'.cell? ⟨w4.heap.size, 1, none⟩ = some (.int .i64 lo.n) ∧ w'.cell? ⟨w4.heap.size, 2, none⟩ = some (.int .i64 lo.d) ∧ w'.cell? ⟨w4.heap.size, 3, none⟩ = some (.string ⟨#[]⟩) ∧ w'.cell? ⟨w4.heap.size, 4, none⟩ = some (.bool false) ∧ w'.cell? ⟨w4.heap.size, 5, none⟩ = some (.int .i64 0) ∧ w'.cell? ⟨(w4.heap.size + 1), 0, none⟩ = some (.int .i64 1) ∧ w'.cell? ⟨(w4.heap.size + 1), 1, none⟩ = some (.int .i64 hh.n) ∧ w'.cell? ⟨(w4.heap.size + 1), 2, none⟩ = some (.int .i64 hh.d) ∧ w'.cell? ⟨(w4.heap.size + 1), 3, none⟩ = some (.string ⟨#[]⟩) ∧ w'.cell? ⟨(w4.heap.size + 1), 4, none⟩ = some (.bool false) ∧ w'.cell? ⟨(w4.heap.size + 1), 5, none⟩ = some (.int .i64 0) := by assumption
        have hSFh := Lib.hid hSF
        have hbF := hbC.trans (hSF.1.mono (by have := hbC.size; omega))
        have hCw := hbC.size
        clear hSF
        go_wp2
        go_loopw [13, 14, 15] (fun p q i wr => ∃ j, Lst3 w w' ms lo hh p q i j wr) (fun _ _ i _ => k - (intOf i).toNat)
        case atStart => exact ⟨0, by omega, rfl, rfl, rfl, hbF, Below.refl _ _⟩
        case round =>
          obtain ⟨j, hj, rfl, rfl, rfl, hb3, hbW⟩ := hrel
          rw [← HM.out] at hj
          have hwF := hSFh.out.1.size
          have hs3 := hb3.size
          have hsW := hbW.size
          by_cases hlt : j < k
          · obtain ⟨y, hy⟩ : ∃ y, ms[j]? = some y := ⟨_, List.getElem?_eq_getElem (by rw [← HM.out]; exact hlt)⟩
            have hrowW := (hrC.out.below (by omega) hSFh.out.1).below (by omega) hbW
            obtain ⟨c0, c1, c2, c3, c4, c5⟩ := hrowW j y hy
            have c2' : wr.cell? ⟨gc, j * 6 + 1 + 1, none⟩ = some (.int .i64 y.d) := c2
            have hrW := Lib.hid hrowW
            have hyr := HMS.out y (List.mem_of_getElem? hy)
            have hlor : RtN lo := by rw [HLO.out.1]; exact (best_spec (Or.inl rfl) HMS.out hne).2.1
            have hhir : RtN hh := by rw [HLO.out.2]; exact (best_spec (Or.inr rfl) HMS.out hne).2.1
            have n1 : ¬ beyond (-1) y lo := by rw [HLO.out.1]; exact (best_spec (Or.inl rfl) HMS.out hne).2.2 y (List.mem_of_getElem? hy)
            have n2 : ¬ beyond 1 y hh := by rw [HLO.out.2]; exact (best_spec (Or.inr rfl) HMS.out hne).2.2 y (List.mem_of_getElem? hy)
            have d1 : ¬ cmpN y.n y.d lo.n lo.d < 0 := by
              unfold beyond at n1
              rw [cmpN_of hyr hlor] at n1 ⊢
              rw [cmpI_lt] at n1
              rw [cmpI_le]; omega
            have d2 : ¬ 0 < cmpN y.n y.d hh.n hh.d := by
              unfold beyond at n2
              rw [cmpN_of hyr hhir] at n2 ⊢
              rw [cmpI_gt] at n2
              rw [cmpI_ge]; omega
            have d1' : decide (cmpN y.n y.d lo.n lo.d < 0) = false := decide_eq_false d1
            have d2' : decide (0 < cmpN y.n y.d hh.n hh.d) = false := decide_eq_false d2
            have i1 := hyr.i64.1
            have i2 := hyr.i64.2
            have i3 := hlor.i64.1
            have i4 := hlor.i64.2
            have i5 := hhir.i64.1
            have i6 := hhir.i64.2
            have hst1 := Lib.hid (hasN_step (x := lo) hy)
            have hst2 := Lib.hid (hasN_step (x := hh) hy)
            have hyh := Lib.hid hy
            obtain ⟨s0, s1, s2, s3, s4, s5, s6, s7, s8, s9, s10, s11, s12⟩ := hSFh.out
            have L1 := lcc hbW w4.heap.size (by omega)
            have L2 := lcc hbW (w4.heap.size + 1) (by omega)
            have x0 := (L1 _).trans s1
            have x1 := (L1 _).trans s2
            have x2 := (L1 _).trans s3
            have x3 := (L1 _).trans s4
            have x4 := (L1 _).trans s5
            have x5 := (L1 _).trans s6
            have z0 := (L2 _).trans s7
            have z1 := (L2 _).trans s8
            have z2 := (L2 _).trans s9
            have z3 := (L2 _).trans s10
            have z4 := (L2 _).trans s11
            have z5 := (L2 _).trans s12
            have l1 : gc < wr.heap.size := by omega
            have l2 : w4.heap.size < wr.heap.size := by omega
            have l3 : w4.heap.size + 1 < wr.heap.size := by omega
            have HB := Lib.hid (And.intro hb3 hbW)
            clear s0 s1 s2 s3 s4 s5 s6 s7 s8 s9 s10 s11 s12 L1 L2 hb3 hbW hrowW hy n1 n2 hyr hlor hhir
            generalize hP : hasN lo (ms.take j) = PB at *
            generalize hQ : hasN hh (ms.take j) = QB at *
            cases PB <;> cases QB
            all_goals
              go_wp2_with fail
              refine region_below_all (by kernel_rfl) (by kernel_rfl) ?_
              repeat
                first | (refine q_run ?_ ?_; focus (go_simp; done)) | (refine q_skip ?_ ?_; focus (go_simp; done))
                try (apply Exists.intro; refine ⟨fun w' hw' => ?_, ?_⟩; focus (have hc := (bcell hw'.out).1; unfold Oper.quietAt; go_simp; (try go_ints); (first | rfl | (go_at_call 29; refine (num_Cmp _ _ _ _ _ (by assumption) (by assumption) (by assumption) (by assumption)).mono ?_; rintro e w2 ⟨rfl, hb⟩; exact ⟨rfl, hw'.chain hb⟩))))
                intro K hK
                go_simp
                refine hK _ ?_
                clear hK K
              refine wpQuiet_nil ?_
              intro w1 hb'
              have hb := hb'.out
              clear hb'
              have s3 := lcs hb (w4.heap.size) (by (first | omega | (simp only [sz_alloc, sz_setCell, sz_drew, sz_drewN]; omega) | (simp; done) | (simp; omega)))
              have c3_0 := (lcc hb (w4.heap.size) (by (first | omega | (simp only [sz_alloc, sz_setCell, sz_drew, sz_drewN]; omega) | (simp; done) | (simp; omega))) 0).trans (by go_simp; exact rfl)
              have c3_1 := (lcc hb (w4.heap.size) (by (first | omega | (simp only [sz_alloc, sz_setCell, sz_drew, sz_drewN]; omega) | (simp; done) | (simp; omega))) 1).trans (by go_simp; exact rfl)
              have c3_2 := (lcc hb (w4.heap.size) (by (first | omega | (simp only [sz_alloc, sz_setCell, sz_drew, sz_drewN]; omega) | (simp; done) | (simp; omega))) 2).trans (by go_simp; exact rfl)
              have c3_3 := (lcc hb (w4.heap.size) (by (first | omega | (simp only [sz_alloc, sz_setCell, sz_drew, sz_drewN]; omega) | (simp; done) | (simp; omega))) 3).trans (by go_simp; exact rfl)
              have c3_4 := (lcc hb (w4.heap.size) (by (first | omega | (simp only [sz_alloc, sz_setCell, sz_drew, sz_drewN]; omega) | (simp; done) | (simp; omega))) 4).trans (by go_simp; exact rfl)
              have c3_5 := (lcc hb (w4.heap.size) (by (first | omega | (simp only [sz_alloc, sz_setCell, sz_drew, sz_drewN]; omega) | (simp; done) | (simp; omega))) 5).trans (by go_simp; exact rfl)
              have s4 := lcs hb (w4.heap.size + 1) (by (first | omega | (simp only [sz_alloc, sz_setCell, sz_drew, sz_drewN]; omega) | (simp; done) | (simp; omega)))
              have c4_0 := (lcc hb (w4.heap.size + 1) (by (first | omega | (simp only [sz_alloc, sz_setCell, sz_drew, sz_drewN]; omega) | (simp; done) | (simp; omega))) 0).trans (by go_simp; exact rfl)
              have c4_1 := (lcc hb (w4.heap.size + 1) (by (first | omega | (simp only [sz_alloc, sz_setCell, sz_drew, sz_drewN]; omega) | (simp; done) | (simp; omega))) 1).trans (by go_simp; exact rfl)
              have c4_2 := (lcc hb (w4.heap.size + 1) (by (first | omega | (simp only [sz_alloc, sz_setCell, sz_drew, sz_drewN]; omega) | (simp; done) | (simp; omega))) 2).trans (by go_simp; exact rfl)
              have c4_3 := (lcc hb (w4.heap.size + 1) (by (first | omega | (simp only [sz_alloc, sz_setCell, sz_drew, sz_drewN]; omega) | (simp; done) | (simp; omega))) 3).trans (by go_simp; exact rfl)
              have c4_4 := (lcc hb (w4.heap.size + 1) (by (first | omega | (simp only [sz_alloc, sz_setCell, sz_drew, sz_drewN]; omega) | (simp; done) | (simp; omega))) 4).trans (by go_simp; exact rfl)
              have c4_5 := (lcc hb (w4.heap.size + 1) (by (first | omega | (simp only [sz_alloc, sz_setCell, sz_drew, sz_drewN]; omega) | (simp; done) | (simp; omega))) 5).trans (by go_simp; exact rfl)
              obtain ⟨e0, e1, e2, e3, e4, e5⟩ := (hrW.out.below l1 hb) j y hyh.out
              go_wp2_with fail
              go_quiet (fail)
              go_wp2_with fail
              go_quiet (fail)
              go_wp2_with fail
              refine ⟨?_, ?_⟩
              · repeat apply Exists.intro
                exact (Lst3.mk (j := j + 1) (by rw [← HM.out]; omega) (by rw [hst1.out]; rfl) (by rw [hst2.out]; rfl) (by go_num) (below_drewN (HB.out.1.trans (hb.mono hs3)) _) (below_drewN (HB.out.2.trans (hb.mono hsW)) _))
              · simp [intOf]; omega
          · obtain rfl : j = k := by omega
            have e1 : hasN lo (ms.take j) = true := by
              rw [List.take_of_length_le (by rw [← HM.out]; omega)]
              rw [HLO.out.1]; exact hasN_mem (best_spec (Or.inl rfl) HMS.out hne).1
            have e2 : hasN hh (ms.take j) = true := by
              rw [List.take_of_length_le (by rw [← HM.out]; omega)]
              rw [HLO.out.2]; exact hasN_mem (best_spec (Or.inr rfl) HMS.out hne).1
            simp only [e1, e2]
            go_wp2
            go_ret
            exact ⟨rfl, hb3⟩
end Go.Proofs.YtangdbjoflnobaaGreatDoor
