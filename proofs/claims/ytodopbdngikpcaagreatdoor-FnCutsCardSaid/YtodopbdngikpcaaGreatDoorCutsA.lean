/- The walk of FnCuts: it answers true. -/
import Derived.Test.YtodopbdngikpcaaGreatDoorApX
import Derived.Test.YtodopbdngikpcaaGreatDoorCutsP
import Derived.Test.YtodopbdngikpcaaGreatDoorVX
import Derived.Test.YtodopbdngikpcaaGreatDoorJoinA
import Derived.Test.YtodopbdngikpcaaGreatDoorEach
import Derived.Test.YtodopbdngikpcaaGreatDoorAble
namespace Go.Proofs.YtodopbdngikpcaaGreatDoor
open Go Go.RowKit
set_option linter.unusedSimpArgs false
set_option linter.unusedVariables false

theorem below_new' (w : World) (o : Obj) : Below w.heap.size w (w.alloc o) := (Below.refl _ _).alloc (Nat.le_refl _) _
/-- A slice of these values. -/
def RowV (vs : List Vl) (n : Nat) (v : Value) (w : World) : Prop := ∃ a, v = .slice a n n ∧ ValAt w a vs
theorem RowV.below {vs : List Vl} {n : Nat} {v : Value} {w w' : World} (h : RowV vs n v w) (hb : Below w.heap.size w w') : RowV vs n v w' := by
  obtain ⟨a, e, h⟩ := h
  exact ⟨a, e, h.below hb⟩
theorem valAt_new (vs : List Vl) (w : World) (arr : Array Value) (h : arr = (vs.flatMap Vl.cells).toArray) : ValAt (w.alloc (.cells arr 26)) (some ⟨w.heap.size, 0, none⟩) vs := by
  intro _
  subst h
  refine ⟨w.heap.size, 0, rfl, by simp only [sz_alloc]; omega, ?_⟩
  intro k v hv
  obtain ⟨hk, he⟩ := List.getElem?_eq_some_iff.1 hv
  have hB : Blk (w.alloc (.cells (vs.flatMap Vl.cells).toArray 26)) w.heap.size (vs.flatMap Vl.cells).toArray 26 := heap_alloc_new _ _
  have key : ∀ j, j < 6 → (w.alloc (.cells (vs.flatMap Vl.cells).toArray 26)).cell? ⟨w.heap.size, 0 + k * 6 + j, none⟩ = (Vl.cells v)[j]? := fun j hj => by
    rw [Nat.zero_add, hB.cell, List.getElem?_toArray, flat6 Vl.cells Vl.six _ _ _ hk hj, he]
  exact ⟨key 0 (by decide), key 1 (by decide), key 2 (by decide), key 3 (by decide), key 4 (by decide), key 5 (by decide)⟩
theorem RowV.new2 (x y : Vl) (w : World) : RowV [x, y] 2 (.slice (some ⟨w.heap.size, 0, none⟩) 2 2) (w.alloc (.cells #[.int .i64 x.k, .int .i64 x.n, .int .i64 x.d, .string x.t, .bool x.b, .int .i64 x.f, .int .i64 y.k, .int .i64 y.n, .int .i64 y.d, .string y.t, .bool y.b, .int .i64 y.f] 26)) :=
  ⟨_, rfl, valAt_new [x, y] w _ rfl⟩
theorem RowV.new3 (x y z : Vl) (w : World) : RowV [x, y, z] 3 (.slice (some ⟨w.heap.size, 0, none⟩) 3 3) (w.alloc (.cells #[.int .i64 x.k, .int .i64 x.n, .int .i64 x.d, .string x.t, .bool x.b, .int .i64 x.f, .int .i64 y.k, .int .i64 y.n, .int .i64 y.d, .string y.t, .bool y.b, .int .i64 y.f, .int .i64 z.k, .int .i64 z.n, .int .i64 z.d, .string z.t, .bool z.b, .int .i64 z.f] 26)) :=
  ⟨_, rfl, valAt_new [x, y, z] w _ rfl⟩
/-- A pointer to a new block for a value. -/
def NewV (B : Nat) (v : Value) (w : World) : Prop := ∃ p, v = .pointer (some ⟨p, 0, none⟩) ∧ B ≤ p ∧ Blk w p (vArr blankV) 26
theorem NewV.below {B : Nat} {v : Value} {w w' : World} (h : NewV B v w) (hb : Below w.heap.size w w') : NewV B v w' := by
  obtain ⟨p, e, h1, h2⟩ := h
  exact ⟨p, e, h1, h2.below hb⟩
theorem NewV.new {B : Nat} (w : World) (h : B ≤ w.heap.size) : NewV B (.pointer (some ⟨w.heap.size, 0, none⟩)) (w.alloc (.cells (vArr blankV) 26)) := ⟨_, rfl, h, heap_alloc_new _ _⟩

def VC (s : ByteArray) (N : Nat) (z l r g : Vl) (bl bg : Nat) : Nat → Value → World → Prop
  | 0, v, _ => v = .agg #[.int .i64 (l).k, .int .i64 (l).n, .int .i64 (l).d, .string (l).t, .bool (l).b, .int .i64 (l).f]
  | 1, v, _ => v = .agg #[.int .i64 (r).k, .int .i64 (r).n, .int .i64 (r).d, .string (r).t, .bool (r).b, .int .i64 (r).f]
  | 2, v, w => RowV [l, r] 2 v w
  | 3, v, _ => v = .agg #[.int .i64 (z).k, .int .i64 (z).n, .int .i64 (z).d, .string (z).t, .bool (z).b, .int .i64 (z).f]
  | 4, v, _ => v = .agg #[.int .i64 (z).k, .int .i64 (z).n, .int .i64 (z).d, .string (z).t, .bool (z).b, .int .i64 (z).f]
  | 5, v, _ => v = .bool false
  | 6, v, _ => v = .bool false
  | 7, v, _ => v = .pointer (some ⟨bl, 3, none⟩)
  | 8, v, _ => v = .string l.t
  | 9, v, _ => v = .int .i64 (l.t.size : Int)
  | 10, v, _ => v = .int .i64 (N : Int)
  | 11, v, _ => v = .string s
  | 12, v, _ => v = .int .i64 (s.size : Int)
  | 13, v, _ => v = .int .i64 (min (N : Int) (s.size : Int))
  | 14, v, _ => v = .bool false
  | 15, v, _ => v = .bool false
  | 16, v, _ => v = .bool false
  | 17, v, _ => v = .pointer (some ⟨bg, 3, none⟩)
  | 18, v, _ => v = .string g.t
  | 19, v, _ => v = .int .i64 (g.t.size : Int)
  | 20, v, _ => v = .int .i64 (N : Int)
  | 21, v, _ => v = .string s
  | 22, v, _ => v = .int .i64 (s.size : Int)
  | 23, v, _ => v = .int .i64 (min (N : Int) (s.size : Int))
  | 24, v, _ => v = .bool false
  | 25, v, _ => v = .bool false
  | 26, v, _ => v = .bool false
  | 27, v, _ => v = .string s
  | 28, v, _ => v = .string s
  | 29, v, _ => v = .int .i64 (s.size : Int)
  | 30, v, _ => v = .pointer (some ⟨bg, 3, none⟩)
  | 31, v, _ => v = .string g.t
  | 32, v, _ => v = .int .i64 (g.t.size : Int)
  | 33, v, _ => v = .int .i64 ((s.size : Int) - (g.t.size : Int))
  | 34, v, _ => v = .string g.t
  | 35, v, _ => v = .pointer (some ⟨bg, 3, none⟩)
  | 36, v, _ => v = .string g.t
  | 37, v, _ => v = .bool false
  | _, _, _ => True
theorem VC.below (s : ByteArray) (N : Nat) (z l r g : Vl) (bl bg : Nat) : ∀ k v w1 w2, VC s N z l r g bl bg k v w1 → Below w1.heap.size w1 w2 → VC s N z l r g bl bg k v w2 := by
  intro k v w1 w2 h hb
  rcases k with _ | _ | _ | _ | _ | _ | _ | _ | _ | _ | _ | _ | _ | _ | _ | _ | _ | _ | _ | _ | _ | _ | _ | _ | _ | _ | _ | _ | _ | _ | _ | _ | _ | _ | _ | _ | _ | _ | k
  all_goals first | exact h | exact RowV.below h hb

def VD (M : Nat) (z x y pc : Vl) (B : Nat) : Nat → Value → World → Prop
  | 0, v, _ => v = .agg #[.int .i64 (z).k, .int .i64 (z).n, .int .i64 (z).d, .string (z).t, .bool (z).b, .int .i64 (z).f]
  | 1, v, _ => v = .agg #[.int .i64 (x).k, .int .i64 (x).n, .int .i64 (x).d, .string (x).t, .bool (x).b, .int .i64 (x).f]
  | 2, v, _ => v = .int .i64 (M : Int)
  | 3, v, _ => v = .agg #[.int .i64 (M : Int), .int .i64 1]
  | 4, v, _ => v = .agg #[.int .i64 (y).k, .int .i64 (y).n, .int .i64 (y).d, .string (y).t, .bool (y).b, .int .i64 (y).f]
  | 5, v, w => RowV [z, x, y] 3 v w
  | 6, v, _ => v = .agg #[.int .i64 (pc).k, .int .i64 (pc).n, .int .i64 (pc).d, .string (pc).t, .bool (pc).b, .int .i64 (pc).f]
  | 7, v, w => NewV B v w
  | _, _, _ => True
theorem VD.below (M : Nat) (z x y pc : Vl) (B : Nat) : ∀ k v w1 w2, VD M z x y pc B k v w1 → Below w1.heap.size w1 w2 → VD M z x y pc B k v w2 := by
  intro k v w1 w2 h hb
  rcases k with _ | _ | _ | _ | _ | _ | _ | _ | k
  all_goals first | exact h | exact RowV.below h hb | exact NewV.below h hb


theorem and511 (n : Int) : ∃ N : Nat, N ≤ 511 ∧ bits .and .i64 n 511 = (N : Int) := by
  have h : (BitVec.ofInt 64 n &&& BitVec.ofInt 64 511).toNat ≤ 511 := by
    rw [BitVec.toNat_and]
    exact Nat.le_trans Nat.and_le_right (by decide)
  refine ⟨(BitVec.ofInt 64 n &&& BitVec.ofInt 64 511).toNat, h, ?_⟩
  show IntKind.i64.wrap ((BitVec.ofInt 64 n &&& BitVec.ofInt 64 511).toNat : Int) = _
  exact IntWalk.i64_in _ (by omega)
set_option maxRecDepth 100000 in
set_option maxHeartbeats 8000000 in
theorem law_FnCuts0 (s : ByteArray) (n m : Int) (w : World) (hs : s.size ≤ 140737488351232) (hn : I64 n) (hm : I64 m) (hL : Laid w) :
    Calls Tryz.prog 5 #[.string s, .int .i64 n, .int .i64 m] w fun e w' => e = .returned (.bool true) ∧ Below w.heap.size w w' := by
  have HLw := Lib.hid fun wx h => hL.below (w' := wx) h
  have HT := Lib.hid fun wx => value_Text s wx hs
  by_cases hgood : ¬ (plainT s = true ∧ s.size ≤ 256)
  · have hk : ((textF s).k == 2) = false := by
      unfold textF
      by_cases h1 : plainT s = true
      · rw [if_pos h1, if_pos (Nat.lt_of_not_le fun h => hgood ⟨h1, h⟩)]; rfl
      · rw [if_neg h1]; rfl
    have hk' : ((textF s).k != 2) = true := by
      have h5 : ((textF s).k != 2) = !((textF s).k == 2) := rfl
      rw [h5, hk]; rfl
    generalize textF s = v at *
    clear hgood hL hn hm
    go_enter Tryz.func5, Tryz.ntmps5
    go_wp2_with fail
    refine (law_able _).mono ?_
    rintro e w1 ⟨rfl, hb1⟩
    go_wp2_with fail
    refine (HT.out _).mono ?_
    rintro e w2 ⟨rfl, hb2⟩
    go_wp2
    go_ret
    refine ⟨rfl, ?_⟩
    exact (hb1.trans (hb2.mono hb1.size)).alloc (hb1.trans (hb2.mono hb1.size)).size _
  obtain ⟨hp, hz⟩ := Classical.not_not.1 hgood
  clear hgood
  rw [textF_of hp hz] at HT
  obtain ⟨h0n, h1n⟩ := hn
  obtain ⟨h0m, h1m⟩ := hm
  have k2 : ((textV s).k == 2) = true := rfl
  have k2' : ((textV s).k != 2) = false := rfl
  obtain ⟨v, hv⟩ : ∃ v, v = textV s := ⟨_, rfl⟩
  rw [← hv] at HT k2 k2'
  obtain ⟨N, hN, eN⟩ := and511 n
  obtain ⟨M, hM, eM⟩ := and511 m
  obtain ⟨k, hk⟩ : ∃ k, k = numV (N : Int) 1 := ⟨_, rfl⟩
  obtain ⟨x, hx⟩ : ∃ x, x = numV ((N : Int) + 1) 1 := ⟨_, rfl⟩
  obtain ⟨a, ha⟩ : ∃ a, a = numV ((1000 : Nat) : Int) 1 := ⟨_, rfl⟩
  obtain ⟨y, hy⟩ : ∃ y, y = numV (M : Int) 1 := ⟨_, rfl⟩
  obtain ⟨l, hl⟩ : ∃ l, l = textV (cutT s 0 N) := ⟨_, rfl⟩
  obtain ⟨r, hr⟩ : ∃ r, r = textV (cutT s N 1000) := ⟨_, rfl⟩
  obtain ⟨g, hg⟩ : ∃ g, g = textV (endT s N) := ⟨_, rfl⟩
  obtain ⟨pc, hpc⟩ : ∃ pc, pc = textV (cutT s N M) := ⟨_, rfl⟩
  have num : ∀ (q : Int) (u : Vl), 0 ≤ q → q ≤ 1000000 → u = numV q 1 → Hid (∀ wx : World, Calls Tryz.prog 17 #[.agg #[.int .i64 q, .int .i64 1]] wx fun e w' => e = .returned (.agg #[.int .i64 (u).k, .int .i64 (u).n, .int .i64 (u).d, .string (u).t, .bool (u).b, .int .i64 (u).f]) ∧ Below wx.heap.size wx w') := by
    intro q u h0 h1 hu wx
    have h := value_Number q 1 wx ⟨by omega, by omega⟩ ⟨by decide, by decide⟩
    rw [numF_one h0 (by omega)] at h
    rw [hu]
    exact h
  have HK := num N k (by omega) (by omega) hk
  have HXn := num ((N : Int) + 1) x (by omega) (by omega) hx
  have HAll := num 1000 a (by omega) (by omega) ha
  have HY := num M y (by omega) (by omega) hy
  have app : ∀ (id : Int) (vs : List Vl) (u : Vl), (∀ z ∈ vs, rightV z = true) → applyP id vs = u → Hid (∀ (wx : World) (ga : Option Addr) (c : Nat), ValAt wx ga vs → Laid wx → Calls Tryz.prog 10 #[.int .i64 id, .slice ga vs.length c] wx fun e w' => e = .returned (.agg #[.int .i64 (u).k, .int .i64 (u).n, .int .i64 (u).d, .string (u).t, .bool (u).b, .int .i64 (u).f]) ∧ Below wx.heap.size wx w') := by
    intro id vs u h1 h2 wx ga c h3 h4
    rw [← h2]
    exact funcs_Apply id vs ga vs.length c wx rfl (fun z hz => right_in (h1 z hz)) h3 h4
  have rt : ∀ {t : ByteArray}, plainT t = true → t.size ≤ 256 → rightV (textV t) = true := by
    intro t h1 h2
    unfold rightV textV
    simp [veq_true.2, h1, h2]
  have rn : ∀ {q : Int}, 0 ≤ q → q ≤ 1000000 → rightV (numV q 1) = true := fun h0 h1 => rightV_num.trans (rightN_one h0 (by omega))
  have rv : rightV v = true := by rw [hv]; exact rt hp hz
  have rk : rightV k = true := by rw [hk]; exact rn (by omega) (by omega)
  have rx : rightV x = true := by rw [hx]; exact rn (by omega) (by omega)
  have ra : rightV a = true := by rw [ha]; exact rn (by omega) (by omega)
  have ry : rightV y = true := by rw [hy]; exact rn (by omega) (by omega)
  have pl := cut_plain hp hz 0 N
  have pr := cut_plain hp hz N 1000
  have pp := cut_plain hp hz N M
  have pg := end_plain hp hz N
  have rl : rightV l = true := by rw [hl]; exact rt pl.1 pl.2
  have rr : rightV r = true := by rw [hr]; exact rt pr.1 pr.2
  have rp : rightV pc = true := by rw [hpc]; exact rt pp.1 pp.2
  have HA49 := app 49 [v, k] l (by simp [rv, rk]) (by rw [hv, hk, hl, apply_left hp hz (by omega), textF_of pl.1 pl.2])
  have HA51 := app 51 [v, x, a] r (by simp [rv, rx, ra]) (by rw [hv, hx, ha, hr, apply_mid hp hz (by omega) (by omega), textF_of pr.1 pr.2])
  have HA50 := app 50 [v, k] g (by simp [rv, rk]) (by rw [hv, hk, hg, apply_right' hp hz (by omega), textF_of pg.1 pg.2])
  have HP := app 51 [v, x, y] pc (by simp [rv, rx, ry]) (by rw [hv, hx, hy, hpc, apply_mid hp hz (by omega) (by omega), textF_of pp.1 pp.2])
  have HF53 := app 53 [pc, v] (findV (cutT s N M) s) (by simp [rv, rp]) (by rw [hpc, hv, apply_find hp hz pp.1 pp.2])
  obtain ⟨u, hu48⟩ : ∃ u, u = numV (s.size : Int) 1 := ⟨_, rfl⟩
  have HA48 := app 48 [v] u (by simp [rv]) (by rw [hv, hu48, apply_len hp hz])
  have HSz := num (s.size : Int) u (by omega) (by omega) hu48
  have HQ : Hid (veq ⟨u.k, u.n, u.d, u.t, u.b, u.f⟩ ⟨u.k, u.n, u.d, u.t, u.b, u.f⟩ = true) := veq_true.2 rfl
  have HJ : Hid (∀ (wx : World) (ga : Option Addr) (c : Nat), ValAt wx ga [l, r] → Pow10 wx → Calls Tryz.prog 18 #[.slice ga 2 c] wx fun e w' => e = .returned (.agg #[.int .i64 (v).k, .int .i64 (v).n, .int .i64 (v).d, .string (v).t, .bool (v).b, .int .i64 (v).f]) ∧ Below wx.heap.size wx w') := by
    intro wx ga c h3 h4
    have h := value_Join [l, r] ga 2 c wx rfl (by omega) (by intro z hz'; simp at hz'; rcases hz' with rfl | rfl; exact right_in rl; exact right_in rr) h3 h4
    have e : joinP (textF ⟨#[]⟩) [l, r] = v := by
      have e0 : textF ⟨#[]⟩ = textV ⟨#[]⟩ := rfl
      have j1 : (joinV (textV ⟨#[]⟩) l).k = 2 := by rw [hl, join_first hp hz N]; rfl
      have j2 := join_cuts hp hz N
      rw [← hl, ← hr, ← hv] at j2
      rw [e0]
      unfold joinP
      rw [if_neg (by rw [j1]; decide)]
      unfold joinP
      rw [j2, if_neg (by rw [hv]; simp [textV])]
      rfl
    rw [e] at h
    exact h
  have zl : (l.t.size : Int) = min (N : Int) (s.size : Int) := by rw [hl]; show ((cutT s 0 N).size : Int) = _; rw [cut_len]; omega
  have zg : (g.t.size : Int) = min (N : Int) (s.size : Int) := by rw [hg]; show ((endT s N).size : Int) = _; rw [end_len]; omega
  have zge : s.extract ((s.size : Int) - (g.t.size : Int)).toNat s.size = g.t := by
    have e : ((s.size : Int) - (g.t.size : Int)).toNat = s.size - g.t.size := by omega
    rw [e, hg]
    exact end_tail s N
  have zgl : g.t.size ≤ s.size := by omega
  have zge2 : s.extract (s.size - g.t.size) s.size = g.t := by
    rw [hg]
    exact end_tail s N
  obtain ⟨i, hidx, hi1, hi2, hi3, hi4⟩ := find_piece s N M
  have hu : findV (cutT s N M) s = numV ((i : Int) + 1) 1 := by
    unfold findV
    rw [hidx, if_neg (by omega)]
    exact whole_one (by omega) (by omega)
  have HU : Hid (∀ (wx : World) (ga : Option Addr) (c : Nat), ValAt wx ga [pc, v] → Laid wx → Calls Tryz.prog 10 #[.int .i64 53, .slice ga 2 c] wx fun e w' => e = .returned (.agg #[.int .i64 1, .int .i64 ((i : Int) + 1), .int .i64 1, .string ⟨#[]⟩, .bool false, .int .i64 0]) ∧ Below wx.heap.size wx w') := by
    intro wx ga c h1 h2
    have h := HF53.out wx ga c h1 h2
    rw [hu] at h
    exact h
  have ept : pc.t = cutT s N M := by rw [hpc]; rfl
  rw [← ept] at hi2 hi3 hi4
  have zl1 : ((l.t.size : Int) != min (N : Int) (s.size : Int)) = false := by rw [zl]; simp
  have zg1 : ((g.t.size : Int) != min (N : Int) (s.size : Int)) = false := by rw [zg]; simp
  have FZ := Lib.hid (And.intro zl1 (And.intro zg1 (And.intro zge (And.intro zge2 zgl))))
  have FI := Lib.hid (And.intro hi1 hi2)
  have HI := Lib.hid (And.intro hi3 hi4)
  have EN := Lib.hid eN
  have EM := Lib.hid eM
  clear hu hidx HF53 ept zl zg zl1 zg1 zge zge2 zgl hi1 hi2 hi3 hi4 eN eM hv hk hx ha hy hl hr hg hpc hu48 num app rt rn rv rk rx ra ry rl rr rp pl pr pp pg
  go_enter Tryz.func5, Tryz.ntmps5
  go_wp2_with fail
  refine (law_able _).mono ?_
  rintro e w1 ⟨rfl, hb1⟩
  go_wp2_with fail
  refine (HT.out _).mono ?_
  rintro e w2 ⟨rfl, hb2⟩
  have s1 := hb1.size
  have W2 := Lib.hid (hb1.trans (hb2.mono s1))
  clear hb1 hb2 s1 HT
  go_upto_region 7 with (fail)
  simp only [EN.out, EM.out]
  clear EN EM

  go_wp2_with fail
  have hbel : Below w.heap.size w (w2.alloc (.cells (vArr v) 26)) := W2.out.alloc W2.out.size _
  refine (HK.out _).mono ?_
  rintro e w3 ⟨rfl, hb⟩
  have z3 := hb.size
  simp only [sz_alloc] at z3
  have W3 := Lib.hid (hbel.trans (hb.mono hbel.size))
  have Bv : Hid (Blk w3 w2.heap.size (vArr v) 26) := Lib.hid (Blk.below ((show Blk (w2.alloc (.cells (vArr v) 26)) w2.heap.size (vArr v) 26 from heap_alloc_new _ _)) hb)
  clear hb hbel
  go_wp2_with fail
  have hbel : Below w.heap.size w (w3.alloc (.cells (vArr k) 26)) := W3.out.alloc W3.out.size _
  refine (HXn.out _).mono ?_
  rintro e w4 ⟨rfl, hb⟩
  have z4 := hb.size
  simp only [sz_alloc] at z4
  have W4 := Lib.hid (hbel.trans (hb.mono hbel.size))
  replace Bv : Hid (Blk w4 w2.heap.size (vArr v) 26) := Lib.hid (((Bv.out).alloc _).below hb)
  have Bk : Hid (Blk w4 w3.heap.size (vArr k) 26) := Lib.hid (Blk.below ((show Blk (w3.alloc (.cells (vArr k) 26)) w3.heap.size (vArr k) 26 from heap_alloc_new _ _)) hb)
  clear hb hbel
  go_wp2_with fail
  have hbel : Below w.heap.size w (w4.alloc (.cells (vArr x) 26)) := W4.out.alloc W4.out.size _
  refine (HAll.out _).mono ?_
  rintro e w5 ⟨rfl, hb⟩
  have z5 := hb.size
  simp only [sz_alloc] at z5
  have W5 := Lib.hid (hbel.trans (hb.mono hbel.size))
  replace Bv : Hid (Blk w5 w2.heap.size (vArr v) 26) := Lib.hid (((Bv.out).alloc _).below hb)
  replace Bk : Hid (Blk w5 w3.heap.size (vArr k) 26) := Lib.hid (((Bk.out).alloc _).below hb)
  have Bx : Hid (Blk w5 w4.heap.size (vArr x) 26) := Lib.hid (Blk.below ((show Blk (w4.alloc (.cells (vArr x) 26)) w4.heap.size (vArr x) 26 from heap_alloc_new _ _)) hb)
  clear hb hbel
  obtain ⟨cv0, cv1, cv2, cv3, cv4, cv5⟩ := Bv.out.v6
  have lv := Bv.out.lt
  obtain ⟨ck0, ck1, ck2, ck3, ck4, ck5⟩ := Bk.out.v6
  have lk := Bk.out.lt
  go_wp2_with fail
  have hval : ValAt ((w5.alloc (.cells (vArr a) 26)).alloc (.cells #[.int .i64 v.k, .int .i64 v.n, .int .i64 v.d, .string v.t, .bool v.b, .int .i64 v.f, .int .i64 k.k, .int .i64 k.n, .int .i64 k.d, .string k.t, .bool k.b, .int .i64 k.f] 26)) (some ⟨w5.heap.size + 1, 0, none⟩) [v, k] := by
    have h := valAt_new [v, k] (w5.alloc (.cells (vArr a) 26)) #[.int .i64 v.k, .int .i64 v.n, .int .i64 v.d, .string v.t, .bool v.b, .int .i64 v.f, .int .i64 k.k, .int .i64 k.n, .int .i64 k.d, .string k.t, .bool k.b, .int .i64 k.f] rfl
    rw [sz_alloc] at h
    exact h
  have hbel : Below w.heap.size w ((w5.alloc (.cells (vArr a) 26)).alloc (.cells #[.int .i64 v.k, .int .i64 v.n, .int .i64 v.d, .string v.t, .bool v.b, .int .i64 v.f, .int .i64 k.k, .int .i64 k.n, .int .i64 k.d, .string k.t, .bool k.b, .int .i64 k.f] 26)) := (W5.out.alloc W5.out.size _).alloc (by have := W5.out.size; simp only [sz_alloc]; omega) _
  refine (HA49.out _ _ _ hval (HLw.out _ hbel)).mono ?_
  rintro e w6 ⟨rfl, hb⟩
  have z6 := hb.size
  simp only [sz_alloc] at z6
  have W6 := Lib.hid (hbel.trans (hb.mono hbel.size))
  replace Bv : Hid (Blk w6 w2.heap.size (vArr v) 26) := Lib.hid ((((Bv.out).alloc _).alloc _).below hb)
  replace Bk : Hid (Blk w6 w3.heap.size (vArr k) 26) := Lib.hid ((((Bk.out).alloc _).alloc _).below hb)
  replace Bx : Hid (Blk w6 w4.heap.size (vArr x) 26) := Lib.hid ((((Bx.out).alloc _).alloc _).below hb)
  have Ba : Hid (Blk w6 w5.heap.size (vArr a) 26) := Lib.hid (Blk.below (((show Blk (w5.alloc (.cells (vArr a) 26)) w5.heap.size (vArr a) 26 from heap_alloc_new _ _)).alloc _) hb)
  clear hb hbel hval cv0 cv1 cv2 cv3 cv4 cv5 lv ck0 ck1 ck2 ck3 ck4 ck5 lk
  obtain ⟨cv0, cv1, cv2, cv3, cv4, cv5⟩ := Bv.out.v6
  have lv := Bv.out.lt
  obtain ⟨cx0, cx1, cx2, cx3, cx4, cx5⟩ := Bx.out.v6
  have lx := Bx.out.lt
  obtain ⟨ca0, ca1, ca2, ca3, ca4, ca5⟩ := Ba.out.v6
  have la := Ba.out.lt
  go_wp2_with fail
  have hval : ValAt ((w6.alloc (.cells (vArr l) 26)).alloc (.cells #[.int .i64 v.k, .int .i64 v.n, .int .i64 v.d, .string v.t, .bool v.b, .int .i64 v.f, .int .i64 x.k, .int .i64 x.n, .int .i64 x.d, .string x.t, .bool x.b, .int .i64 x.f, .int .i64 a.k, .int .i64 a.n, .int .i64 a.d, .string a.t, .bool a.b, .int .i64 a.f] 26)) (some ⟨w6.heap.size + 1, 0, none⟩) [v, x, a] := by
    have h := valAt_new [v, x, a] (w6.alloc (.cells (vArr l) 26)) #[.int .i64 v.k, .int .i64 v.n, .int .i64 v.d, .string v.t, .bool v.b, .int .i64 v.f, .int .i64 x.k, .int .i64 x.n, .int .i64 x.d, .string x.t, .bool x.b, .int .i64 x.f, .int .i64 a.k, .int .i64 a.n, .int .i64 a.d, .string a.t, .bool a.b, .int .i64 a.f] rfl
    rw [sz_alloc] at h
    exact h
  have hbel : Below w.heap.size w ((w6.alloc (.cells (vArr l) 26)).alloc (.cells #[.int .i64 v.k, .int .i64 v.n, .int .i64 v.d, .string v.t, .bool v.b, .int .i64 v.f, .int .i64 x.k, .int .i64 x.n, .int .i64 x.d, .string x.t, .bool x.b, .int .i64 x.f, .int .i64 a.k, .int .i64 a.n, .int .i64 a.d, .string a.t, .bool a.b, .int .i64 a.f] 26)) := (W6.out.alloc W6.out.size _).alloc (by have := W6.out.size; simp only [sz_alloc]; omega) _
  refine (HA51.out _ _ _ hval (HLw.out _ hbel)).mono ?_
  rintro e w7 ⟨rfl, hb⟩
  have z7 := hb.size
  simp only [sz_alloc] at z7
  have W7 := Lib.hid (hbel.trans (hb.mono hbel.size))
  replace Bv : Hid (Blk w7 w2.heap.size (vArr v) 26) := Lib.hid ((((Bv.out).alloc _).alloc _).below hb)
  replace Bk : Hid (Blk w7 w3.heap.size (vArr k) 26) := Lib.hid ((((Bk.out).alloc _).alloc _).below hb)
  replace Bx : Hid (Blk w7 w4.heap.size (vArr x) 26) := Lib.hid ((((Bx.out).alloc _).alloc _).below hb)
  replace Ba : Hid (Blk w7 w5.heap.size (vArr a) 26) := Lib.hid ((((Ba.out).alloc _).alloc _).below hb)
  have Bl : Hid (Blk w7 w6.heap.size (vArr l) 26) := Lib.hid (Blk.below (((show Blk (w6.alloc (.cells (vArr l) 26)) w6.heap.size (vArr l) 26 from heap_alloc_new _ _)).alloc _) hb)
  clear hb hbel hval cv0 cv1 cv2 cv3 cv4 cv5 lv cx0 cx1 cx2 cx3 cx4 cx5 lx ca0 ca1 ca2 ca3 ca4 ca5 la
  obtain ⟨cv0, cv1, cv2, cv3, cv4, cv5⟩ := Bv.out.v6
  have lv := Bv.out.lt
  obtain ⟨ck0, ck1, ck2, ck3, ck4, ck5⟩ := Bk.out.v6
  have lk := Bk.out.lt
  go_wp2_with fail
  have hval : ValAt ((w7.alloc (.cells (vArr r) 26)).alloc (.cells #[.int .i64 v.k, .int .i64 v.n, .int .i64 v.d, .string v.t, .bool v.b, .int .i64 v.f, .int .i64 k.k, .int .i64 k.n, .int .i64 k.d, .string k.t, .bool k.b, .int .i64 k.f] 26)) (some ⟨w7.heap.size + 1, 0, none⟩) [v, k] := by
    have h := valAt_new [v, k] (w7.alloc (.cells (vArr r) 26)) #[.int .i64 v.k, .int .i64 v.n, .int .i64 v.d, .string v.t, .bool v.b, .int .i64 v.f, .int .i64 k.k, .int .i64 k.n, .int .i64 k.d, .string k.t, .bool k.b, .int .i64 k.f] rfl
    rw [sz_alloc] at h
    exact h
  have hbel : Below w.heap.size w ((w7.alloc (.cells (vArr r) 26)).alloc (.cells #[.int .i64 v.k, .int .i64 v.n, .int .i64 v.d, .string v.t, .bool v.b, .int .i64 v.f, .int .i64 k.k, .int .i64 k.n, .int .i64 k.d, .string k.t, .bool k.b, .int .i64 k.f] 26)) := (W7.out.alloc W7.out.size _).alloc (by have := W7.out.size; simp only [sz_alloc]; omega) _
  refine (HA50.out _ _ _ hval (HLw.out _ hbel)).mono ?_
  rintro e w8 ⟨rfl, hb⟩
  have z8 := hb.size
  simp only [sz_alloc] at z8
  have W8 := Lib.hid (hbel.trans (hb.mono hbel.size))
  replace Bv : Hid (Blk w8 w2.heap.size (vArr v) 26) := Lib.hid ((((Bv.out).alloc _).alloc _).below hb)
  replace Bk : Hid (Blk w8 w3.heap.size (vArr k) 26) := Lib.hid ((((Bk.out).alloc _).alloc _).below hb)
  replace Bx : Hid (Blk w8 w4.heap.size (vArr x) 26) := Lib.hid ((((Bx.out).alloc _).alloc _).below hb)
  replace Ba : Hid (Blk w8 w5.heap.size (vArr a) 26) := Lib.hid ((((Ba.out).alloc _).alloc _).below hb)
  replace Bl : Hid (Blk w8 w6.heap.size (vArr l) 26) := Lib.hid ((((Bl.out).alloc _).alloc _).below hb)
  have Br : Hid (Blk w8 w7.heap.size (vArr r) 26) := Lib.hid (Blk.below (((show Blk (w7.alloc (.cells (vArr r) 26)) w7.heap.size (vArr r) 26 from heap_alloc_new _ _)).alloc _) hb)
  clear hb hbel hval cv0 cv1 cv2 cv3 cv4 cv5 lv ck0 ck1 ck2 ck3 ck4 ck5 lk
  go_upto_region 13 with (fail)
  have W9p : Below w.heap.size w (w8.alloc (.cells (vArr g) 26)) := W8.out.alloc W8.out.size _
  have Bgp : Blk (w8.alloc (.cells (vArr g) 26)) w8.heap.size (vArr g) 26 := heap_alloc_new _ _
  refine wp_rebase ?_
  intro w9 hb'
  have hb := hb'.out
  clear hb'
  have Bg : Hid (Blk w9 w8.heap.size (vArr g) 26) := Lib.hid (Bgp.below hb)
  have W9 := Lib.hid (W9p.trans (hb.mono W9p.size))
  replace Bv : Hid (Blk w9 w2.heap.size (vArr v) 26) := Lib.hid ((Bv.out.alloc _).below hb)
  replace Bk : Hid (Blk w9 w3.heap.size (vArr k) 26) := Lib.hid ((Bk.out.alloc _).below hb)
  replace Bx : Hid (Blk w9 w4.heap.size (vArr x) 26) := Lib.hid ((Bx.out.alloc _).below hb)
  replace Ba : Hid (Blk w9 w5.heap.size (vArr a) 26) := Lib.hid ((Ba.out.alloc _).below hb)
  replace Bl : Hid (Blk w9 w6.heap.size (vArr l) 26) := Lib.hid ((Bl.out.alloc _).below hb)
  replace Br : Hid (Blk w9 w7.heap.size (vArr r) 26) := Lib.hid ((Br.out.alloc _).below hb)
  clear hb W9p Bgp 
  have HW : Hid (Laid w9) := HLw.out _ W9.out
  obtain ⟨bl, ebl⟩ : ∃ b, b = w6.heap.size := ⟨_, rfl⟩
  obtain ⟨bg, ebg⟩ : ∃ b, b = w8.heap.size := ⟨_, rfl⟩
  obtain ⟨bv, ebv⟩ : ∃ b, b = w2.heap.size := ⟨_, rfl⟩
  obtain ⟨br, ebr⟩ : ∃ b, b = w7.heap.size := ⟨_, rfl⟩
  obtain ⟨bx, ebx⟩ : ∃ b, b = w4.heap.size := ⟨_, rfl⟩
  rw [← ebl] at Bl
  rw [← ebg] at Bg
  rw [← ebv] at Bv
  rw [← ebr] at Br
  rw [← ebx] at Bx
  simp only [← ebl, ← ebg, ← ebv, ← ebr, ← ebx]
  clear ebl ebg ebv ebr ebx Bk Ba
  have hveq : veq ⟨v.k, v.n, v.d, v.t, v.b, v.f⟩ ⟨v.k, v.n, v.d, v.t, v.b, v.f⟩ = true := veq_true.2 rfl
  obtain ⟨zl1, zg1, zge, zge2, zgl⟩ := FZ.out
  clear HK HXn HAll HA49 HA51 HA50
  refine wp_act fun a ha => ?_
  refine region_each 38 (VC s N v l r g bl bg) (by kernel_rfl) (by kernel_rfl) (VC.below s N v l r g bl bg) ?_ ?_
  · intro j hj o ho vs wx hw hk
    have hbx := hw.out
    have hzx := hbx.size
    obtain ⟨_, _, _, _, _, _⟩ := (Bl.out.below hbx).v6
    obtain ⟨_, _, _, _, _, _⟩ := (Br.out.below hbx).v6
    obtain ⟨_, _, _, _, _, _⟩ := (Bg.out.below hbx).v6
    obtain ⟨_, _, _, _, _, _⟩ := (Bv.out.below hbx).v6
    rcases j with _ | _ | _ | _ | _ | _ | _ | _ | _ | _ | _ | _ | _ | _ | _ | _ | _ | _ | _ | _ | _ | _ | _ | _ | _ | _ | _ | _ | _ | _ | _ | _ | _ | _ | _ | _ | _ | _ | j
    · obtain rfl : _ = o := Option.some.inj ho
      clear ho hk
      change wpList _ _ (OneQ _ a _) _ a _
      subst ha
      go_wp2
      exact ⟨_, rfl, Below.refl _ _, by first | rfl | (simp [veq_true.2, VC, veq_true.2]; done)⟩
    · obtain rfl : _ = o := Option.some.inj ho
      clear ho hk
      change wpList _ _ (OneQ _ a _) _ a _
      subst ha
      go_wp2
      exact ⟨_, rfl, Below.refl _ _, by first | rfl | (simp [veq_true.2, VC, veq_true.2]; done)⟩
    · obtain rfl : _ = o := Option.some.inj ho
      have y0 : vs 0 = .agg #[.int .i64 (l).k, .int .i64 (l).n, .int .i64 (l).d, .string (l).t, .bool (l).b, .int .i64 (l).f] := hk 0 (by decide) rfl
      have y1 : vs 1 = .agg #[.int .i64 (r).k, .int .i64 (r).n, .int .i64 (r).d, .string (r).t, .bool (r).b, .int .i64 (r).f] := hk 1 (by decide) rfl
      clear ho hk
      change wpList _ _ (OneQ _ (Act.put (Act.put a (some 52) (vs 0)) (some 53) (vs 1)) _) _ (Act.put (Act.put a (some 52) (vs 0)) (some 53) (vs 1)) _
      rw [y0, y1]
      subst ha
      go_wp2
      exact ⟨_, rfl, below_new' _ _, RowV.new2 l r wx⟩
    · obtain rfl : _ = o := Option.some.inj ho
      obtain ⟨p2, y2, hp2⟩ : RowV [l, r] 2 (vs 2) wx := hk 2 (by decide) rfl
      clear ho hk
      change wpList _ _ (OneQ _ (Act.put a (some 54) (vs 2)) _) _ (Act.put a (some 54) (vs 2)) _
      rw [y2]
      subst ha
      go_wp2_with fail
      refine (HJ.out _ _ _ hp2 ((HW.out.below hbx).p10)).mono ?_
      rintro e w' ⟨rfl, hb'⟩
      go_wp2
      exact ⟨_, rfl, hb', by first | rfl | (simp [VC, veq_true.2]; done)⟩
    · obtain rfl : _ = o := Option.some.inj ho
      clear ho hk
      change wpList _ _ (OneQ _ a _) _ a _
      subst ha
      go_wp2
      exact ⟨_, rfl, Below.refl _ _, by first | rfl | (simp [veq_true.2, VC, veq_true.2]; done)⟩
    · obtain rfl : _ = o := Option.some.inj ho
      have y3 : vs 3 = .agg #[.int .i64 (v).k, .int .i64 (v).n, .int .i64 (v).d, .string (v).t, .bool (v).b, .int .i64 (v).f] := hk 3 (by decide) rfl
      have y4 : vs 4 = .agg #[.int .i64 (v).k, .int .i64 (v).n, .int .i64 (v).d, .string (v).t, .bool (v).b, .int .i64 (v).f] := hk 4 (by decide) rfl
      clear ho hk
      change wpList _ _ (OneQ _ (Act.put (Act.put a (some 55) (vs 3)) (some 56) (vs 4)) _) _ (Act.put (Act.put a (some 55) (vs 3)) (some 56) (vs 4)) _
      rw [y3, y4]
      subst ha
      go_wp2
      exact ⟨_, rfl, Below.refl _ _, by first | rfl | (simp [veq_true.2, VC, veq_true.2]; done)⟩
    · obtain rfl : _ = o := Option.some.inj ho
      have y5 : vs 5 = .bool false := hk 5 (by decide) rfl
      clear ho hk
      change wpList _ _ (OneQ _ (Act.put a (some 57) (vs 5)) _) _ (Act.put a (some 57) (vs 5)) _
      rw [y5]
      subst ha
      go_wp2
      exact ⟨_, rfl, Below.refl _ _, by first | rfl | (simp [veq_true.2, VC, veq_true.2]; done)⟩
    · obtain rfl : _ = o := Option.some.inj ho
      have y6 : vs 6 = .bool false := hk 6 (by decide) rfl
      clear ho hk
      change wpList _ _ (OneQ _ (Act.put a (some 58) (vs 6)) _) _ (Act.put a (some 58) (vs 6)) _
      rw [y6]
      subst ha
      go_wp2
      exact ⟨_, rfl, Below.refl _ _, by first | rfl | (simp [veq_true.2, VC, veq_true.2]; done)⟩
    · obtain rfl : _ = o := Option.some.inj ho
      have y6 : vs 6 = .bool false := hk 6 (by decide) rfl
      have y7 : vs 7 = .pointer (some ⟨bl, 3, none⟩) := hk 7 (by decide) rfl
      clear ho hk
      change wpList _ _ (OneQ _ (Act.put (Act.put a (some 58) (vs 6)) (some 59) (vs 7)) _) _ (Act.put (Act.put a (some 58) (vs 6)) (some 59) (vs 7)) _
      rw [y6, y7]
      subst ha
      go_wp2
      exact ⟨_, rfl, Below.refl _ _, by first | rfl | (simp [veq_true.2, VC, veq_true.2]; done)⟩
    · obtain rfl : _ = o := Option.some.inj ho
      have y6 : vs 6 = .bool false := hk 6 (by decide) rfl
      have y8 : vs 8 = .string l.t := hk 8 (by decide) rfl
      clear ho hk
      change wpList _ _ (OneQ _ (Act.put (Act.put a (some 58) (vs 6)) (some 60) (vs 8)) _) _ (Act.put (Act.put a (some 58) (vs 6)) (some 60) (vs 8)) _
      rw [y6, y8]
      subst ha
      go_wp2
      exact ⟨_, rfl, Below.refl _ _, by first | rfl | (simp [veq_true.2, VC, veq_true.2]; done)⟩
    · obtain rfl : _ = o := Option.some.inj ho
      have y6 : vs 6 = .bool false := hk 6 (by decide) rfl
      clear ho hk
      change wpList _ _ (OneQ _ (Act.put a (some 58) (vs 6)) _) _ (Act.put a (some 58) (vs 6)) _
      rw [y6]
      subst ha
      go_wp2
      exact ⟨_, rfl, Below.refl _ _, by first | rfl | (simp [veq_true.2, VC, veq_true.2]; done)⟩
    · obtain rfl : _ = o := Option.some.inj ho
      have y6 : vs 6 = .bool false := hk 6 (by decide) rfl
      clear ho hk
      change wpList _ _ (OneQ _ (Act.put a (some 58) (vs 6)) _) _ (Act.put a (some 58) (vs 6)) _
      rw [y6]
      subst ha
      go_wp2
      exact ⟨_, rfl, Below.refl _ _, by first | rfl | (simp [veq_true.2, VC, veq_true.2]; done)⟩
    · obtain rfl : _ = o := Option.some.inj ho
      have y6 : vs 6 = .bool false := hk 6 (by decide) rfl
      have y11 : vs 11 = .string s := hk 11 (by decide) rfl
      clear ho hk
      change wpList _ _ (OneQ _ (Act.put (Act.put a (some 58) (vs 6)) (some 63) (vs 11)) _) _ (Act.put (Act.put a (some 58) (vs 6)) (some 63) (vs 11)) _
      rw [y6, y11]
      subst ha
      go_wp2
      exact ⟨_, rfl, Below.refl _ _, by first | rfl | (simp [veq_true.2, VC, veq_true.2]; done)⟩
    · obtain rfl : _ = o := Option.some.inj ho
      have y6 : vs 6 = .bool false := hk 6 (by decide) rfl
      have y10 : vs 10 = .int .i64 (N : Int) := hk 10 (by decide) rfl
      have y12 : vs 12 = .int .i64 (s.size : Int) := hk 12 (by decide) rfl
      clear ho hk
      change wpList _ _ (OneQ _ (Act.put (Act.put (Act.put a (some 58) (vs 6)) (some 62) (vs 10)) (some 64) (vs 12)) _) _ (Act.put (Act.put (Act.put a (some 58) (vs 6)) (some 62) (vs 10)) (some 64) (vs 12)) _
      rw [y6, y10, y12]
      subst ha
      go_wp2
      exact ⟨_, rfl, Below.refl _ _, by first | rfl | (simp [veq_true.2, VC, veq_true.2]; done)⟩
    · obtain rfl : _ = o := Option.some.inj ho
      have y6 : vs 6 = .bool false := hk 6 (by decide) rfl
      have y9 : vs 9 = .int .i64 (l.t.size : Int) := hk 9 (by decide) rfl
      have y13 : vs 13 = .int .i64 (min (N : Int) (s.size : Int)) := hk 13 (by decide) rfl
      clear ho hk
      change wpList _ _ (OneQ _ (Act.put (Act.put (Act.put a (some 58) (vs 6)) (some 61) (vs 9)) (some 65) (vs 13)) _) _ (Act.put (Act.put (Act.put a (some 58) (vs 6)) (some 61) (vs 9)) (some 65) (vs 13)) _
      rw [y6, y9, y13]
      subst ha
      go_wp2
      exact ⟨_, rfl, Below.refl _ _, by first | rfl | (simp [veq_true.2, VC, veq_true.2]; done)⟩
    · obtain rfl : _ = o := Option.some.inj ho
      have y6 : vs 6 = .bool false := hk 6 (by decide) rfl
      have y14 : vs 14 = .bool false := hk 14 (by decide) rfl
      clear ho hk
      change wpList _ _ (OneQ _ (Act.put (Act.put a (some 58) (vs 6)) (some 66) (vs 14)) _) _ (Act.put (Act.put a (some 58) (vs 6)) (some 66) (vs 14)) _
      rw [y6, y14]
      subst ha
      go_wp2
      exact ⟨_, rfl, Below.refl _ _, by first | rfl | (simp [veq_true.2, VC, veq_true.2]; done)⟩
    · obtain rfl : _ = o := Option.some.inj ho
      have y15 : vs 15 = .bool false := hk 15 (by decide) rfl
      clear ho hk
      change wpList _ _ (OneQ _ (Act.put a (some 67) (vs 15)) _) _ (Act.put a (some 67) (vs 15)) _
      rw [y15]
      subst ha
      go_wp2
      exact ⟨_, rfl, Below.refl _ _, by first | rfl | (simp [veq_true.2, VC, veq_true.2]; done)⟩
    · obtain rfl : _ = o := Option.some.inj ho
      have y16 : vs 16 = .bool false := hk 16 (by decide) rfl
      clear ho hk
      change wpList _ _ (OneQ _ (Act.put a (some 68) (vs 16)) _) _ (Act.put a (some 68) (vs 16)) _
      rw [y16]
      subst ha
      go_wp2
      exact ⟨_, rfl, Below.refl _ _, by first | rfl | (simp [veq_true.2, VC, veq_true.2]; done)⟩
    · obtain rfl : _ = o := Option.some.inj ho
      have y16 : vs 16 = .bool false := hk 16 (by decide) rfl
      have y17 : vs 17 = .pointer (some ⟨bg, 3, none⟩) := hk 17 (by decide) rfl
      clear ho hk
      change wpList _ _ (OneQ _ (Act.put (Act.put a (some 68) (vs 16)) (some 69) (vs 17)) _) _ (Act.put (Act.put a (some 68) (vs 16)) (some 69) (vs 17)) _
      rw [y16, y17]
      subst ha
      go_wp2
      exact ⟨_, rfl, Below.refl _ _, by first | rfl | (simp [veq_true.2, VC, veq_true.2]; done)⟩
    · obtain rfl : _ = o := Option.some.inj ho
      have y16 : vs 16 = .bool false := hk 16 (by decide) rfl
      have y18 : vs 18 = .string g.t := hk 18 (by decide) rfl
      clear ho hk
      change wpList _ _ (OneQ _ (Act.put (Act.put a (some 68) (vs 16)) (some 70) (vs 18)) _) _ (Act.put (Act.put a (some 68) (vs 16)) (some 70) (vs 18)) _
      rw [y16, y18]
      subst ha
      go_wp2
      exact ⟨_, rfl, Below.refl _ _, by first | rfl | (simp [veq_true.2, VC, veq_true.2]; done)⟩
    · obtain rfl : _ = o := Option.some.inj ho
      have y16 : vs 16 = .bool false := hk 16 (by decide) rfl
      clear ho hk
      change wpList _ _ (OneQ _ (Act.put a (some 68) (vs 16)) _) _ (Act.put a (some 68) (vs 16)) _
      rw [y16]
      subst ha
      go_wp2
      exact ⟨_, rfl, Below.refl _ _, by first | rfl | (simp [veq_true.2, VC, veq_true.2]; done)⟩
    · obtain rfl : _ = o := Option.some.inj ho
      have y16 : vs 16 = .bool false := hk 16 (by decide) rfl
      clear ho hk
      change wpList _ _ (OneQ _ (Act.put a (some 68) (vs 16)) _) _ (Act.put a (some 68) (vs 16)) _
      rw [y16]
      subst ha
      go_wp2
      exact ⟨_, rfl, Below.refl _ _, by first | rfl | (simp [veq_true.2, VC, veq_true.2]; done)⟩
    · obtain rfl : _ = o := Option.some.inj ho
      have y16 : vs 16 = .bool false := hk 16 (by decide) rfl
      have y21 : vs 21 = .string s := hk 21 (by decide) rfl
      clear ho hk
      change wpList _ _ (OneQ _ (Act.put (Act.put a (some 68) (vs 16)) (some 73) (vs 21)) _) _ (Act.put (Act.put a (some 68) (vs 16)) (some 73) (vs 21)) _
      rw [y16, y21]
      subst ha
      go_wp2
      exact ⟨_, rfl, Below.refl _ _, by first | rfl | (simp [veq_true.2, VC, veq_true.2]; done)⟩
    · obtain rfl : _ = o := Option.some.inj ho
      have y16 : vs 16 = .bool false := hk 16 (by decide) rfl
      have y20 : vs 20 = .int .i64 (N : Int) := hk 20 (by decide) rfl
      have y22 : vs 22 = .int .i64 (s.size : Int) := hk 22 (by decide) rfl
      clear ho hk
      change wpList _ _ (OneQ _ (Act.put (Act.put (Act.put a (some 68) (vs 16)) (some 72) (vs 20)) (some 74) (vs 22)) _) _ (Act.put (Act.put (Act.put a (some 68) (vs 16)) (some 72) (vs 20)) (some 74) (vs 22)) _
      rw [y16, y20, y22]
      subst ha
      go_wp2
      exact ⟨_, rfl, Below.refl _ _, by first | rfl | (simp [veq_true.2, VC, veq_true.2]; done)⟩
    · obtain rfl : _ = o := Option.some.inj ho
      have y16 : vs 16 = .bool false := hk 16 (by decide) rfl
      have y19 : vs 19 = .int .i64 (g.t.size : Int) := hk 19 (by decide) rfl
      have y23 : vs 23 = .int .i64 (min (N : Int) (s.size : Int)) := hk 23 (by decide) rfl
      clear ho hk
      change wpList _ _ (OneQ _ (Act.put (Act.put (Act.put a (some 68) (vs 16)) (some 71) (vs 19)) (some 75) (vs 23)) _) _ (Act.put (Act.put (Act.put a (some 68) (vs 16)) (some 71) (vs 19)) (some 75) (vs 23)) _
      rw [y16, y19, y23]
      subst ha
      go_wp2
      exact ⟨_, rfl, Below.refl _ _, by first | rfl | (simp [veq_true.2, VC, veq_true.2]; done)⟩
    · obtain rfl : _ = o := Option.some.inj ho
      have y16 : vs 16 = .bool false := hk 16 (by decide) rfl
      have y24 : vs 24 = .bool false := hk 24 (by decide) rfl
      clear ho hk
      change wpList _ _ (OneQ _ (Act.put (Act.put a (some 68) (vs 16)) (some 76) (vs 24)) _) _ (Act.put (Act.put a (some 68) (vs 16)) (some 76) (vs 24)) _
      rw [y16, y24]
      subst ha
      go_wp2
      exact ⟨_, rfl, Below.refl _ _, by first | rfl | (simp [veq_true.2, VC, veq_true.2]; done)⟩
    · obtain rfl : _ = o := Option.some.inj ho
      have y25 : vs 25 = .bool false := hk 25 (by decide) rfl
      clear ho hk
      change wpList _ _ (OneQ _ (Act.put a (some 77) (vs 25)) _) _ (Act.put a (some 77) (vs 25)) _
      rw [y25]
      subst ha
      go_wp2
      exact ⟨_, rfl, Below.refl _ _, by first | rfl | (simp [veq_true.2, VC, veq_true.2]; done)⟩
    · obtain rfl : _ = o := Option.some.inj ho
      have y26 : vs 26 = .bool false := hk 26 (by decide) rfl
      clear ho hk
      change wpList _ _ (OneQ _ (Act.put a (some 78) (vs 26)) _) _ (Act.put a (some 78) (vs 26)) _
      rw [y26]
      subst ha
      go_wp2
      exact ⟨_, rfl, Below.refl _ _, by first | rfl | (simp [veq_true.2, VC, veq_true.2]; done)⟩
    · obtain rfl : _ = o := Option.some.inj ho
      have y26 : vs 26 = .bool false := hk 26 (by decide) rfl
      clear ho hk
      change wpList _ _ (OneQ _ (Act.put a (some 78) (vs 26)) _) _ (Act.put a (some 78) (vs 26)) _
      rw [y26]
      subst ha
      go_wp2
      exact ⟨_, rfl, Below.refl _ _, by first | rfl | (simp [veq_true.2, VC, veq_true.2]; done)⟩
    · obtain rfl : _ = o := Option.some.inj ho
      have y26 : vs 26 = .bool false := hk 26 (by decide) rfl
      have y28 : vs 28 = .string s := hk 28 (by decide) rfl
      clear ho hk
      change wpList _ _ (OneQ _ (Act.put (Act.put a (some 78) (vs 26)) (some 80) (vs 28)) _) _ (Act.put (Act.put a (some 78) (vs 26)) (some 80) (vs 28)) _
      rw [y26, y28]
      subst ha
      go_wp2
      exact ⟨_, rfl, Below.refl _ _, by first | rfl | (simp [veq_true.2, VC, veq_true.2]; done)⟩
    · obtain rfl : _ = o := Option.some.inj ho
      have y26 : vs 26 = .bool false := hk 26 (by decide) rfl
      clear ho hk
      change wpList _ _ (OneQ _ (Act.put a (some 78) (vs 26)) _) _ (Act.put a (some 78) (vs 26)) _
      rw [y26]
      subst ha
      go_wp2
      exact ⟨_, rfl, Below.refl _ _, by first | rfl | (simp [veq_true.2, VC, veq_true.2]; done)⟩
    · obtain rfl : _ = o := Option.some.inj ho
      have y26 : vs 26 = .bool false := hk 26 (by decide) rfl
      have y30 : vs 30 = .pointer (some ⟨bg, 3, none⟩) := hk 30 (by decide) rfl
      clear ho hk
      change wpList _ _ (OneQ _ (Act.put (Act.put a (some 78) (vs 26)) (some 82) (vs 30)) _) _ (Act.put (Act.put a (some 78) (vs 26)) (some 82) (vs 30)) _
      rw [y26, y30]
      subst ha
      go_wp2
      exact ⟨_, rfl, Below.refl _ _, by first | rfl | (simp [veq_true.2, VC, veq_true.2]; done)⟩
    · obtain rfl : _ = o := Option.some.inj ho
      have y26 : vs 26 = .bool false := hk 26 (by decide) rfl
      have y31 : vs 31 = .string g.t := hk 31 (by decide) rfl
      clear ho hk
      change wpList _ _ (OneQ _ (Act.put (Act.put a (some 78) (vs 26)) (some 83) (vs 31)) _) _ (Act.put (Act.put a (some 78) (vs 26)) (some 83) (vs 31)) _
      rw [y26, y31]
      subst ha
      go_wp2
      exact ⟨_, rfl, Below.refl _ _, by first | rfl | (simp [veq_true.2, VC, veq_true.2]; done)⟩
    · obtain rfl : _ = o := Option.some.inj ho
      have y26 : vs 26 = .bool false := hk 26 (by decide) rfl
      have y29 : vs 29 = .int .i64 (s.size : Int) := hk 29 (by decide) rfl
      have y32 : vs 32 = .int .i64 (g.t.size : Int) := hk 32 (by decide) rfl
      clear ho hk
      change wpList _ _ (OneQ _ (Act.put (Act.put (Act.put a (some 78) (vs 26)) (some 81) (vs 29)) (some 84) (vs 32)) _) _ (Act.put (Act.put (Act.put a (some 78) (vs 26)) (some 81) (vs 29)) (some 84) (vs 32)) _
      rw [y26, y29, y32]
      subst ha
      go_wp2
      exact ⟨_, rfl, Below.refl _ _, by first | rfl | (simp [veq_true.2, VC, veq_true.2]; done)⟩
    · obtain rfl : _ = o := Option.some.inj ho
      have y26 : vs 26 = .bool false := hk 26 (by decide) rfl
      have y27 : vs 27 = .string s := hk 27 (by decide) rfl
      have y33 : vs 33 = .int .i64 ((s.size : Int) - (g.t.size : Int)) := hk 33 (by decide) rfl
      clear ho hk
      change wpList _ _ (OneQ _ (Act.put (Act.put (Act.put a (some 78) (vs 26)) (some 79) (vs 27)) (some 85) (vs 33)) _) _ (Act.put (Act.put (Act.put a (some 78) (vs 26)) (some 79) (vs 27)) (some 85) (vs 33)) _
      rw [y26, y27, y33]
      subst ha
      go_wp2
      exact ⟨_, rfl, Below.refl _ _, by first | rfl | (simp [veq_true.2, VC, veq_true.2]; done)⟩
    · obtain rfl : _ = o := Option.some.inj ho
      have y26 : vs 26 = .bool false := hk 26 (by decide) rfl
      clear ho hk
      change wpList _ _ (OneQ _ (Act.put a (some 78) (vs 26)) _) _ (Act.put a (some 78) (vs 26)) _
      rw [y26]
      subst ha
      go_wp2
      exact ⟨_, rfl, Below.refl _ _, by first | rfl | (simp [veq_true.2, VC, veq_true.2]; done)⟩
    · obtain rfl : _ = o := Option.some.inj ho
      have y26 : vs 26 = .bool false := hk 26 (by decide) rfl
      have y35 : vs 35 = .pointer (some ⟨bg, 3, none⟩) := hk 35 (by decide) rfl
      clear ho hk
      change wpList _ _ (OneQ _ (Act.put (Act.put a (some 78) (vs 26)) (some 87) (vs 35)) _) _ (Act.put (Act.put a (some 78) (vs 26)) (some 87) (vs 35)) _
      rw [y26, y35]
      subst ha
      go_wp2
      exact ⟨_, rfl, Below.refl _ _, by first | rfl | (simp [veq_true.2, VC, veq_true.2]; done)⟩
    · obtain rfl : _ = o := Option.some.inj ho
      have y26 : vs 26 = .bool false := hk 26 (by decide) rfl
      have y34 : vs 34 = .string g.t := hk 34 (by decide) rfl
      have y36 : vs 36 = .string g.t := hk 36 (by decide) rfl
      clear ho hk
      change wpList _ _ (OneQ _ (Act.put (Act.put (Act.put a (some 78) (vs 26)) (some 86) (vs 34)) (some 88) (vs 36)) _) _ (Act.put (Act.put (Act.put a (some 78) (vs 26)) (some 86) (vs 34)) (some 88) (vs 36)) _
      rw [y26, y34, y36]
      subst ha
      go_wp2
      exact ⟨_, rfl, Below.refl _ _, by first | rfl | (simp [veq_true.2, VC, veq_true.2]; done)⟩
    · omega
  · intro vs wx hw hv
    have hbx := hw.out
    have y0 : vs 0 = .agg #[.int .i64 (l).k, .int .i64 (l).n, .int .i64 (l).d, .string (l).t, .bool (l).b, .int .i64 (l).f] := hv 0 (by decide)
    have y1 : vs 1 = .agg #[.int .i64 (r).k, .int .i64 (r).n, .int .i64 (r).d, .string (r).t, .bool (r).b, .int .i64 (r).f] := hv 1 (by decide)
    obtain ⟨p2, y2, hp2⟩ : RowV [l, r] 2 (vs 2) wx := hv 2 (by decide)
    have y3 : vs 3 = .agg #[.int .i64 (v).k, .int .i64 (v).n, .int .i64 (v).d, .string (v).t, .bool (v).b, .int .i64 (v).f] := hv 3 (by decide)
    have y4 : vs 4 = .agg #[.int .i64 (v).k, .int .i64 (v).n, .int .i64 (v).d, .string (v).t, .bool (v).b, .int .i64 (v).f] := hv 4 (by decide)
    have y5 : vs 5 = .bool false := hv 5 (by decide)
    have y6 : vs 6 = .bool false := hv 6 (by decide)
    have y7 : vs 7 = .pointer (some ⟨bl, 3, none⟩) := hv 7 (by decide)
    have y8 : vs 8 = .string l.t := hv 8 (by decide)
    have y9 : vs 9 = .int .i64 (l.t.size : Int) := hv 9 (by decide)
    have y10 : vs 10 = .int .i64 (N : Int) := hv 10 (by decide)
    have y11 : vs 11 = .string s := hv 11 (by decide)
    have y12 : vs 12 = .int .i64 (s.size : Int) := hv 12 (by decide)
    have y13 : vs 13 = .int .i64 (min (N : Int) (s.size : Int)) := hv 13 (by decide)
    have y14 : vs 14 = .bool false := hv 14 (by decide)
    have y15 : vs 15 = .bool false := hv 15 (by decide)
    have y16 : vs 16 = .bool false := hv 16 (by decide)
    have y17 : vs 17 = .pointer (some ⟨bg, 3, none⟩) := hv 17 (by decide)
    have y18 : vs 18 = .string g.t := hv 18 (by decide)
    have y19 : vs 19 = .int .i64 (g.t.size : Int) := hv 19 (by decide)
    have y20 : vs 20 = .int .i64 (N : Int) := hv 20 (by decide)
    have y21 : vs 21 = .string s := hv 21 (by decide)
    have y22 : vs 22 = .int .i64 (s.size : Int) := hv 22 (by decide)
    have y23 : vs 23 = .int .i64 (min (N : Int) (s.size : Int)) := hv 23 (by decide)
    have y24 : vs 24 = .bool false := hv 24 (by decide)
    have y25 : vs 25 = .bool false := hv 25 (by decide)
    have y26 : vs 26 = .bool false := hv 26 (by decide)
    have y27 : vs 27 = .string s := hv 27 (by decide)
    have y28 : vs 28 = .string s := hv 28 (by decide)
    have y29 : vs 29 = .int .i64 (s.size : Int) := hv 29 (by decide)
    have y30 : vs 30 = .pointer (some ⟨bg, 3, none⟩) := hv 30 (by decide)
    have y31 : vs 31 = .string g.t := hv 31 (by decide)
    have y32 : vs 32 = .int .i64 (g.t.size : Int) := hv 32 (by decide)
    have y33 : vs 33 = .int .i64 ((s.size : Int) - (g.t.size : Int)) := hv 33 (by decide)
    have y34 : vs 34 = .string g.t := hv 34 (by decide)
    have y35 : vs 35 = .pointer (some ⟨bg, 3, none⟩) := hv 35 (by decide)
    have y36 : vs 36 = .string g.t := hv 36 (by decide)
    have y37 : vs 37 = .bool false := hv 37 (by decide)
    clear hv hw
    change wpList _ _ _ _ (Act.put (Act.put (Act.put (Act.put (Act.put (Act.put (Act.put (Act.put (Act.put (Act.put (Act.put (Act.put (Act.put (Act.put (Act.put (Act.put (Act.put (Act.put (Act.put (Act.put (Act.put (Act.put (Act.put (Act.put (Act.put (Act.put (Act.put (Act.put (Act.put (Act.put (Act.put (Act.put (Act.put (Act.put (Act.put (Act.put (Act.put (Act.put a (some 52) (vs 0)) (some 53) (vs 1)) (some 54) (vs 2)) (some 55) (vs 3)) (some 56) (vs 4)) (some 57) (vs 5)) (some 58) (vs 6)) (some 59) (vs 7)) (some 60) (vs 8)) (some 61) (vs 9)) (some 62) (vs 10)) (some 63) (vs 11)) (some 64) (vs 12)) (some 65) (vs 13)) (some 66) (vs 14)) (some 67) (vs 15)) (some 68) (vs 16)) (some 69) (vs 17)) (some 70) (vs 18)) (some 71) (vs 19)) (some 72) (vs 20)) (some 73) (vs 21)) (some 74) (vs 22)) (some 75) (vs 23)) (some 76) (vs 24)) (some 77) (vs 25)) (some 78) (vs 26)) (some 79) (vs 27)) (some 80) (vs 28)) (some 81) (vs 29)) (some 82) (vs 30)) (some 83) (vs 31)) (some 84) (vs 32)) (some 85) (vs 33)) (some 86) (vs 34)) (some 87) (vs 35)) (some 88) (vs 36)) (some 89) (vs 37)) _
    rw [y0, y1, y2, y3, y4, y5, y6, y7, y8, y9, y10, y11, y12, y13, y14, y15, y16, y17, y18, y19, y20, y21, y22, y23, y24, y25, y26, y27, y28, y29, y30, y31, y32, y33, y34, y35, y36, y37]
    subst ha
    clear y0 y1 y2 y3 y4 y5 y6 y7 y8 y9 y10 y11 y12 y13 y14 y15 y16 y17 y18 y19 y20 y21 y22 y23 y24 y25 y26 y27 y28 y29 y30 y31 y32 y33 y34 y35 y36 y37
    simp only [List.drop_succ_cons, List.drop_zero]

    have Bv2 := Lib.hid (Bv.out.below hbx)
    have Bx2 := Lib.hid (Bx.out.below hbx)
    have HW2 : Hid (Laid wx) := HW.out.below hbx
    have W10 := Lib.hid (W9.out.trans (hbx.mono W9.out.size))
    have W9s : w.heap.size ≤ wx.heap.size := W10.out.size
    have lbv : bv < wx.heap.size := Bv2.out.lt
    clear hbx Bl Br Bg HJ HW W9 Bv Bx
    go_upto_region 15 with (fail)
    rename World => wB
    refine wp_act fun a ha => ?_
    refine region_each 8 (VD M v x y pc wB.heap.size) (by kernel_rfl) (by kernel_rfl) (VD.below M v x y pc wB.heap.size) ?_ ?_
    · intro j hj o ho vs wx hw hk
      have hbx := hw.out
      have hzx := hbx.size
      obtain ⟨_, _, _, _, _, _⟩ := (Bv2.out.below hbx).v6
      obtain ⟨_, _, _, _, _, _⟩ := (Bx2.out.below hbx).v6
      rcases j with _ | _ | _ | _ | _ | _ | _ | _ | j
      · obtain rfl : _ = o := Option.some.inj ho
        clear ho hk
        change wpList _ _ (OneQ _ a _) _ a _
        subst ha
        go_wp2
        exact ⟨_, rfl, Below.refl _ _, by first | rfl | (simp [veq_true.2, VD]; done)⟩
      · obtain rfl : _ = o := Option.some.inj ho
        clear ho hk
        change wpList _ _ (OneQ _ a _) _ a _
        subst ha
        go_wp2
        exact ⟨_, rfl, Below.refl _ _, by first | rfl | (simp [veq_true.2, VD]; done)⟩
      · obtain rfl : _ = o := Option.some.inj ho
        clear ho hk
        change wpList _ _ (OneQ _ a _) _ a _
        subst ha
        go_wp2
        exact ⟨_, rfl, Below.refl _ _, by first | rfl | (simp [veq_true.2, VD]; done)⟩
      · obtain rfl : _ = o := Option.some.inj ho
        have y2 : vs 2 = .int .i64 (M : Int) := hk 2 (by decide) rfl
        clear ho hk
        change wpList _ _ (OneQ _ (Act.put a (some 93) (vs 2)) _) _ (Act.put a (some 93) (vs 2)) _
        rw [y2]
        subst ha
        go_wp2
        exact ⟨_, rfl, Below.refl _ _, by first | rfl | (simp [veq_true.2, VD]; done)⟩
      · obtain rfl : _ = o := Option.some.inj ho
        have y3 : vs 3 = .agg #[.int .i64 (M : Int), .int .i64 1] := hk 3 (by decide) rfl
        clear ho hk
        change wpList _ _ (OneQ _ (Act.put a (some 94) (vs 3)) _) _ (Act.put a (some 94) (vs 3)) _
        rw [y3]
        subst ha
        go_wp2_with fail
        refine (HY.out _).mono ?_
        rintro e w' ⟨rfl, hb'⟩
        go_wp2
        exact ⟨_, rfl, hb', by first | rfl | (simp [VD]; done)⟩
      · obtain rfl : _ = o := Option.some.inj ho
        have y0 : vs 0 = .agg #[.int .i64 (v).k, .int .i64 (v).n, .int .i64 (v).d, .string (v).t, .bool (v).b, .int .i64 (v).f] := hk 0 (by decide) rfl
        have y1 : vs 1 = .agg #[.int .i64 (x).k, .int .i64 (x).n, .int .i64 (x).d, .string (x).t, .bool (x).b, .int .i64 (x).f] := hk 1 (by decide) rfl
        have y4 : vs 4 = .agg #[.int .i64 (y).k, .int .i64 (y).n, .int .i64 (y).d, .string (y).t, .bool (y).b, .int .i64 (y).f] := hk 4 (by decide) rfl
        clear ho hk
        change wpList _ _ (OneQ _ (Act.put (Act.put (Act.put a (some 91) (vs 0)) (some 92) (vs 1)) (some 95) (vs 4)) _) _ (Act.put (Act.put (Act.put a (some 91) (vs 0)) (some 92) (vs 1)) (some 95) (vs 4)) _
        rw [y0, y1, y4]
        subst ha
        go_wp2
        exact ⟨_, rfl, below_new' _ _, RowV.new3 v x y wx⟩
      · obtain rfl : _ = o := Option.some.inj ho
        obtain ⟨p5, y5, hp5⟩ : RowV [v, x, y] 3 (vs 5) wx := hk 5 (by decide) rfl
        clear ho hk
        change wpList _ _ (OneQ _ (Act.put a (some 96) (vs 5)) _) _ (Act.put a (some 96) (vs 5)) _
        rw [y5]
        subst ha
        go_wp2_with fail
        refine (HP.out _ _ _ hp5 (HW2.out.below hbx)).mono ?_
        rintro e w' ⟨rfl, hb'⟩
        go_wp2
        exact ⟨_, rfl, hb', by first | rfl | (simp [VD]; done)⟩
      · obtain rfl : _ = o := Option.some.inj ho
        clear ho hk
        change wpList _ _ (OneQ _ a _) _ a _
        subst ha
        go_wp2
        exact ⟨_, rfl, below_new' _ _, NewV.new wx (by omega)⟩
      · omega
    · intro vs wx hw hv
      have hbx := hw.out
      have y0 : vs 0 = .agg #[.int .i64 (v).k, .int .i64 (v).n, .int .i64 (v).d, .string (v).t, .bool (v).b, .int .i64 (v).f] := hv 0 (by decide)
      have y1 : vs 1 = .agg #[.int .i64 (x).k, .int .i64 (x).n, .int .i64 (x).d, .string (x).t, .bool (x).b, .int .i64 (x).f] := hv 1 (by decide)
      have y2 : vs 2 = .int .i64 (M : Int) := hv 2 (by decide)
      have y3 : vs 3 = .agg #[.int .i64 (M : Int), .int .i64 1] := hv 3 (by decide)
      have y4 : vs 4 = .agg #[.int .i64 (y).k, .int .i64 (y).n, .int .i64 (y).d, .string (y).t, .bool (y).b, .int .i64 (y).f] := hv 4 (by decide)
      obtain ⟨p5, y5, hp5⟩ : RowV [v, x, y] 3 (vs 5) wx := hv 5 (by decide)
      have y6 : vs 6 = .agg #[.int .i64 (pc).k, .int .i64 (pc).n, .int .i64 (pc).d, .string (pc).t, .bool (pc).b, .int .i64 (pc).f] := hv 6 (by decide)
      obtain ⟨p7, y7, hp7⟩ : NewV wB.heap.size (vs 7) wx := hv 7 (by decide)
      clear hv hw
      change wpList _ _ _ _ (Act.put (Act.put (Act.put (Act.put (Act.put (Act.put (Act.put (Act.put a (some 91) (vs 0)) (some 92) (vs 1)) (some 93) (vs 2)) (some 94) (vs 3)) (some 95) (vs 4)) (some 96) (vs 5)) (some 97) (vs 6)) (some 14) (vs 7)) _
      rw [y0, y1, y2, y3, y4, y5, y6, y7]
      subst ha
      clear y0 y1 y2 y3 y4 y5 y6 y7
      simp only [List.drop_succ_cons, List.drop_zero]
      have Bv3 := Lib.hid (Bv2.out.below hbx)
      have HW3 : Hid (Laid wx) := HW2.out.below hbx
      have W11 := Lib.hid (W10.out.trans (hbx.mono W10.out.size))
      clear hbx Bv2 Bx2 HW2 W10
      obtain ⟨hp7a, hp7b⟩ := hp7
      have nev : bv ≠ p7 := by omega
      have fp := hp7b.free
      obtain ⟨cn0, cn1, cn2, cn3, cn4, cn5⟩ := hp7b.v6
      have lp := hp7b.lt
      have HP7 := Lib.hid hp7b
      clear hp7b
      go_upto_region 16 with (fail)
      have WDp : Below w.heap.size w ((((((wx.setCell ⟨p7, 0, none⟩ (.int .i64 pc.k)).setCell ⟨p7, 1, none⟩ (.int .i64 pc.n)).setCell ⟨p7, 2, none⟩ (.int .i64 pc.d)).setCell ⟨p7, 3, none⟩ (.string pc.t)).setCell ⟨p7, 4, none⟩ (.bool pc.b)).setCell ⟨p7, 5, none⟩ (.int .i64 pc.f)) := by
        have h0 := W11.out
        have h1 : w.heap.size ≤ p7 := by have := W9s; omega
        exact (((((h0.setCell h1 _).setCell h1 _).setCell h1 _).setCell h1 _).setCell h1 _).setCell h1 _
      have BPp := HP7.out.put6 pc
      have BVp := (((((Bv3.out.set_ne nev (.int .i64 pc.k) (o := 0)).set_ne nev (.int .i64 pc.n) (o := 1)).set_ne nev (.int .i64 pc.d) (o := 2)).set_ne nev (.string pc.t) (o := 3)).set_ne nev (.bool pc.b) (o := 4)).set_ne nev (.int .i64 pc.f) (o := 5)
      refine wp_rebase ?_
      intro wD hb'
      have hb := hb'.out
      clear hb'
      have BP := Lib.hid (BPp.below hb)
      have BV := Lib.hid (BVp.below hb)
      have WD := Lib.hid (WDp.trans (hb.mono WDp.size))
      clear hb BPp BVp WDp HP7 Bv3 W11 HW3 fp lp cn0 cn1 cn2 cn3 cn4 cn5
      obtain ⟨hi1, hi2⟩ := FI.out
      obtain ⟨cv0, cv1, cv2, cv3, cv4, cv5⟩ := BV.out.v6
      obtain ⟨cp0, cp1, cp2, cp3, cp4, cp5⟩ := BP.out.v6
      have lv := BV.out.lt
      have lp := BP.out.lt
      go_wp2_with fail
      have hval : ValAt (wD.alloc (.cells #[.int .i64 pc.k, .int .i64 pc.n, .int .i64 pc.d, .string pc.t, .bool pc.b, .int .i64 pc.f, .int .i64 v.k, .int .i64 v.n, .int .i64 v.d, .string v.t, .bool v.b, .int .i64 v.f] 26)) (some ⟨wD.heap.size, 0, none⟩) [pc, v] := valAt_new [pc, v] wD #[.int .i64 pc.k, .int .i64 pc.n, .int .i64 pc.d, .string pc.t, .bool pc.b, .int .i64 pc.f, .int .i64 v.k, .int .i64 v.n, .int .i64 v.d, .string v.t, .bool v.b, .int .i64 v.f] rfl
      have hbel : Below w.heap.size w (wD.alloc (.cells #[.int .i64 pc.k, .int .i64 pc.n, .int .i64 pc.d, .string pc.t, .bool pc.b, .int .i64 pc.f, .int .i64 v.k, .int .i64 v.n, .int .i64 v.d, .string v.t, .bool v.b, .int .i64 v.f] 26)) := WD.out.alloc WD.out.size _
      refine (HU.out _ _ _ hval (HLw.out _ hbel)).mono ?_
      rintro e wE ⟨rfl, hb⟩
      have zE := hb.size
      simp only [sz_alloc] at zE
      have BV2 := Lib.hid ((BV.out.alloc (.cells #[.int .i64 pc.k, .int .i64 pc.n, .int .i64 pc.d, .string pc.t, .bool pc.b, .int .i64 pc.f, .int .i64 v.k, .int .i64 v.n, .int .i64 v.d, .string v.t, .bool v.b, .int .i64 v.f] 26)).below hb)
      have BP2 := Lib.hid ((BP.out.alloc (.cells #[.int .i64 pc.k, .int .i64 pc.n, .int .i64 pc.d, .string pc.t, .bool pc.b, .int .i64 pc.f, .int .i64 v.k, .int .i64 v.n, .int .i64 v.d, .string v.t, .bool v.b, .int .i64 v.f] 26)).below hb)
      have WE := Lib.hid (hbel.trans (hb.mono hbel.size))
      clear hb hbel hval cv0 cv1 cv2 cv3 cv4 cv5 cp0 cp1 cp2 cp3 cp4 cp5 lv lp BV BP WD HU
      have dp2 : wE.cell? ⟨p7, 3, none⟩ = some (.string pc.t) := BP2.out.cell 3
      have lp := BP2.out.lt
      have g1 : ¬ (i : Int) < 0 := by omega
      have g2 : ¬ min (N : Int) (s.size : Int) < (i : Int) := by omega
      have g3 : ¬ (s.size : Int) < (i : Int) + (pc.t.size : Int) := by omega
      go_upto_region 21 with (fail)
      have hE : s.extract ((i : Int)).toNat ((i : Int) + (pc.t.size : Int)).toNat = pc.t := by
        have e : ((i : Int) + (pc.t.size : Int)).toNat = i + pc.t.size := by omega
        rw [e, Int.toNat_natCast]
        exact HI.out.1
      have hE2 : s.extract i ((i : Int) + (pc.t.size : Int)).toNat = pc.t := by rwa [Int.toNat_natCast] at hE
      have hE3 : s.extract i (i + pc.t.size) = pc.t := HI.out.1
      have hE4 := tl_yes hE3
      have BV3 := BV2.out.alloc (.cells #[.int .i64 1, .int .i64 ((i : Int) + 1), .int .i64 1, .string ⟨#[]⟩, .bool false, .int .i64 0] 26)
      have hbE : Below w.heap.size w (wE.alloc (.cells #[.int .i64 1, .int .i64 ((i : Int) + 1), .int .i64 1, .string ⟨#[]⟩, .bool false, .int .i64 0] 26)) := WE.out.alloc WE.out.size _
      generalize wE.alloc (.cells #[.int .i64 1, .int .i64 ((i : Int) + 1), .int .i64 1, .string ⟨#[]⟩, .bool false, .int .i64 0] 26) = wF at *
      have HbE := Lib.hid hbE
      have HBV := Lib.hid BV3
      clear BP2 BV2 dp2 lp WE hbE BV3
      go_wp2
      go_loop [18] (fun x => ∃ j : Nat, j ≤ i ∧ x = .int .i64 j) (fun x => i - (intOf x).toNat)
      case atStart => exact ⟨0, Nat.zero_le _, rfl⟩
      case round =>
        obtain ⟨j, hj, rfl⟩ := hrel
        by_cases hlt : j < i
        · have hne : ¬ s.extract ((j : Int)).toNat ((j : Int) + (pc.t.size : Int)).toNat = pc.t := by
            have e : ((j : Int) + (pc.t.size : Int)).toNat = j + pc.t.size := by omega
            rw [e, Int.toNat_natCast]
            exact HI.out.2 j hlt
          have hne2 : ¬ s.extract j ((j : Int) + (pc.t.size : Int)).toNat = pc.t := by rwa [Int.toNat_natCast] at hne
          have hne3 : ¬ s.extract j (j + pc.t.size) = pc.t := HI.out.2 j hlt
          have hne4 := tl_no hne3
          have hj2 : (j : Int) + (pc.t.size : Int) ≤ (s.size : Int) := by omega
          go_wp2
          go_round
          case rel => exact ⟨j + 1, by omega, by go_num⟩
          case measure => simp [intOf]; omega
        · obtain rfl : j = i := by omega
          obtain ⟨cv0, cv1, cv2, cv3, cv4, cv5⟩ := HBV.out.v6
          have lv := HBV.out.lt
          go_wp2_with fail
          have hval : ValAt (wF.alloc (.cells #[.int .i64 v.k, .int .i64 v.n, .int .i64 v.d, .string v.t, .bool v.b, .int .i64 v.f] 26)) (some ⟨wF.heap.size, 0, none⟩) [v] := valAt_new [v] wF #[.int .i64 v.k, .int .i64 v.n, .int .i64 v.d, .string v.t, .bool v.b, .int .i64 v.f] rfl
          have hbel : Below w.heap.size w (wF.alloc (.cells #[.int .i64 v.k, .int .i64 v.n, .int .i64 v.d, .string v.t, .bool v.b, .int .i64 v.f] 26)) := HbE.out.alloc HbE.out.size _
          refine (HA48.out _ _ _ hval (HLw.out _ hbel)).mono ?_
          rintro e wG ⟨rfl, hb⟩
          have WG := Lib.hid (hbel.trans (hb.mono hbel.size))
          clear hb hbel hval cv0 cv1 cv2 cv3 cv4 cv5 lv
          go_wp2_with fail
          refine (HSz.out _).mono ?_
          rintro e wH ⟨rfl, hb⟩
          have WH := Lib.hid (WG.out.trans (hb.mono WG.out.size))
          clear hb
          go_wp2
          go_ret
          refine ⟨congrArg (fun b => Ending.returned (Value.bool b)) HQ.out, ?_⟩
          exact WH.out
end Go.Proofs.YtodopbdngikpcaaGreatDoor
