/- The state of a fold, as it is handed out, read and laid in memory as a whole. '==' of states of folds; the fields of a state that was handed out. -/
import Derived.Test.YtnimenpfojcehaaGreatDoorFolF
import Derived.Test.YtnimenpfojcehaaGreatDoorEach
import Derived.Deep.MidRow
import Derived.Deep.WholeRow
import Derived.Test.YtnimenpfojcehaaGreatDoorValA
namespace Go.Proofs.YtnimenpfojcehaaGreatDoor
open Go Go.RowKit
set_option linter.unusedSimpArgs false
set_option linter.unusedVariables false

/-- The cells of a state. -/
def accC (S : AccS) : Array Value := #[.int .i64 S.fn, .int .i64 S.count, .int .i64 S.n, .int .i64 S.d,
    .int .i64 S.v.k, .int .i64 S.v.n, .int .i64 S.v.d, .string S.v.t, .bool S.v.b, .int .i64 S.v.f,
    .int .i64 S.needle.k, .int .i64 S.needle.n, .int .i64 S.needle.d, .string S.needle.t, .bool S.needle.b, .int .i64 S.needle.f,
    .bool S.has, .bool S.full, .bool S.wants, .int .i64 S.hn, .int .i64 S.hd]
/-- The state, as it is handed out. -/
def accV (S : AccS) : Value := .agg (accC S)
/-- What a block that holds no state yet is made of. -/
def accZ : Array Value := #[.int .i64 0, .int .i64 0, .int .i64 0, .int .i64 0, .int .i64 0, .int .i64 0, .int .i64 0, .string ⟨#[]⟩, .bool false, .int .i64 0, .int .i64 0, .int .i64 0, .int .i64 0, .string ⟨#[]⟩, .bool false, .int .i64 0, .bool false, .bool false, .bool false, .int .i64 0, .int .i64 0]
theorem under_acc : ∃ d, Tryz.prog.underlying 35 = some d ∧ d.isRow = true := ⟨_, Tryz.underlying35, rfl⟩
theorem info_acc : (Tryz.prog.info? 35).map (·.size) = some 21 := by kernel_rfl
theorem range_acc {w : World} {b : Nat} {S : AccS} {kd : Value} {t : TypeId} (h : Blk w b (accArr S kd) t) : w.rangeAt b 0 (accC S).toList := by
  intro j v hv
  rw [Nat.zero_add, h.cell j]
  have e : (accArr S kd).toList = (accC S).toList ++ [kd] := rfl
  rw [← Array.getElem?_toList, e, List.getElem?_append_left (by
    rcases Nat.lt_or_ge j (accC S).toList.length with h | h
    · exact h
    · rw [List.getElem?_eq_none h] at hv; cases hv)]
  exact hv
theorem range_accC {w : World} {b : Nat} {S : AccS} {t : TypeId} (h : Blk w b (accC S) t) : w.rangeAt b 0 (accC S).toList := by
  intro j v hv
  rw [Nat.zero_add, h.cell j, ← Array.getElem?_toList]
  exact hv
theorem lv_range {w : World} {b : Nat} {S : AccS} (h : w.rangeAt b 0 (accC S).toList) : (loadVar 35 ⟨b, 0, none⟩).run Tryz.prog w = .ok (accV S) w := by
  obtain ⟨d, h1, h2⟩ := under_acc
  exact run_loadVar_mid w b 0 35 (accC S).toList d h h1 h2 info_acc
theorem st_new (w : World) (S : AccS) : (Instr.storeAt 35 (.pointer (some ⟨w.heap.size, 0, none⟩)) (accV S)).run Tryz.prog (w.alloc (.cells accZ 35)) = .ok () (w.alloc (.cells (accC S) 35)) :=
  run_storeAt_new w 35 accZ (accC S) info_acc rfl (by simp [accC, Value.oneCell'])
theorem blk_new (w : World) (S : AccS) : Blk (w.alloc (.cells (accC S) 35)) w.heap.size (accC S) 35 := heap_alloc_new _ _
section
variable {ops : Array Oper} {rest : List Oper} {o : Oper} {a : Act} {w : World} {Q : Exit → Act → World → Prop}
/-- A state is loaded, as a whole. -/
theorem wpList_load_acc {x : Operand} {b : Nat} (S : AccS) (hgd : o.guard = none) (ho : o.op = .load 35 x) (hx : a.eval x = .pointer (some ⟨b, 0, none⟩)) (hr : w.rangeAt b 0 (accC S).toList)
    (h : wpList Tryz.prog ops Q rest (a.put o.dst (accV S)) w) : wpList Tryz.prog ops Q (o :: rest) a w := by
  obtain ⟨d, h1, h2⟩ := under_acc
  exact wpList_load_mid hgd 35 x ho b 0 hx (accC S).toList d hr h1 h2 info_acc h
/-- .. under a guard that holds. -/
theorem wpList_load_accG {x : Operand} {b : Nat} (S : AccS) (hgd : Region.wanted o (yielded ops a.tmps) = true) (ho : o.op = .load 35 x) (hx : a.eval x = .pointer (some ⟨b, 0, none⟩)) (hr : w.rangeAt b 0 (accC S).toList)
    (h : wpList Tryz.prog ops Q rest (a.put o.dst (accV S)) w) : wpList Tryz.prog ops Q (o :: rest) a w := by
  obtain ⟨d, h1, h2⟩ := under_acc
  unfold wpList
  rw [if_pos hgd]
  exact Or.inl (wp_load_mid 35 x ho b 0 hx (accC S).toList d hr h1 h2 info_acc h)
/-- A state is stored at the head of a fold's block. -/
theorem wpList_store_head {x y : Operand} {b : Nat} {S0 : AccS} {kd : Value} (S : AccS) (hB : Blk w b (accArr S0 kd) 57) (hgd : o.guard = none) (ho : o.op = .store 35 x y) (hx : a.eval x = .pointer (some ⟨b, 0, none⟩)) (hy : a.eval y = accV S)
    (h : wpList Tryz.prog ops Q rest (a.put o.dst undef) (w.setCells b 0 (accC S).toList)) : wpList Tryz.prog ops Q (o :: rest) a w := by
  refine wpList_store_mid hgd 35 x y ho b 0 (accC S) hx hy ?_ info_acc (by simp [accC, Value.oneCell']) h
  intro j hj
  rw [Nat.zero_add]
  refine ⟨?_, hB.free j⟩
  rw [hB.cell j]
  have hs : (accArr S0 kd).size = 22 := rfl
  have hc : (accC S).size = 21 := rfl
  rw [Array.getElem?_eq_getElem (by omega)]
  rfl
/-- A state is stored into the block that was made last. -/
theorem wpList_store_acc {x y : Operand} (S : AccS) (hgd : o.guard = none) (ho : o.op = .store 35 x y) (hx : a.eval x = .pointer (some ⟨w.heap.size, 0, none⟩)) (hy : a.eval y = accV S)
    (h : wpList Tryz.prog ops Q rest (a.put o.dst undef) (w.alloc (.cells (accC S) 35))) : wpList Tryz.prog ops Q (o :: rest) a (w.alloc (.cells accZ 35)) := by
  refine wpList_plain hgd fun K hK => ?_
  have hst := st_new w S
  unfold Oper.wp execOp
  simp only [ho, hx, hy, Sem.run_bind, hst, Result.andThen_ok, Sem.run_pure]
  exact hK _ _ h
end
/-- A row with a list laid over it from place o on. -/
def laidOver (arr : Array Value) : Nat → List Value → Array Value
  | _, [] => arr
  | o, v :: r => laidOver (arr.setIfInBounds o v) (o + 1) r
theorem blk_setCells {b : Nat} {t : TypeId} : ∀ (l : List Value) (o : Nat) (arr : Array Value) (w : World), Blk w b arr t → Blk (w.setCells b o l) b (laidOver arr o l) t
  | [], _, _, _, h => h
  | v :: r, o, arr, w, h => blk_setCells r (o + 1) (arr.setIfInBounds o v) (w.setCell ⟨b, o, none⟩ v) (h.set o v)
theorem laid_acc (S0 S : AccS) (kd : Value) : laidOver (accArr S0 kd) 0 (accC S).toList = accArr S kd := by
  unfold accC accArr
  simp [laidOver]
theorem blk_head {w : World} {b : Nat} {S0 : AccS} {kd : Value} (S : AccS) (B : Blk w b (accArr S0 kd) 57) : Blk (w.setCells b 0 (accC S).toList) b (accArr S kd) 57 :=
  (blk_setCells (accC S).toList 0 _ w B).cast (laid_acc S0 S kd)
theorem below_setCells {B b : Nat} (hB : B ≤ b) : ∀ (l : List Value) (o : Nat) (w : World), Below B w (w.setCells b o l)
  | [], _, w => Below.refl _ _
  | v :: r, o, w => by
    show Below B w ((w.setCell ⟨b, o, none⟩ v).setCells b (o + 1) r)
    exact ((Below.refl B w).setCell hB v).trans (below_setCells hB r (o + 1) _)
theorem blk_setCells_ne {b c : Nat} {t : TypeId} (hne : b ≠ c) {arr : Array Value} : ∀ (l : List Value) (o : Nat) (w : World), Blk w b arr t → Blk (w.setCells c o l) b arr t
  | [], _, _, h => h
  | v :: r, o, w, h => blk_setCells_ne hne r (o + 1) (w.setCell ⟨c, o, none⟩ v) (h.set_ne hne v)
theorem laid_accZ (S : AccS) : laidOver accZ 0 (accC S).toList = accC S := by
  unfold accC accZ
  simp [laidOver]
theorem blk_whole {w : World} {b : Nat} (S : AccS) (B : Blk w b accZ 35) : Blk (w.setCells b 0 (accC S).toList) b (accC S) 35 :=
  (blk_setCells (accC S).toList 0 _ w B).cast (laid_accZ S)
/-- A state is stored into a new block. -/
theorem wpList_store_blk {ops : Array Oper} {rest : List Oper} {o : Oper} {a : Act} {w : World} {Q : Exit → Act → World → Prop} {x y : Operand} {b : Nat} (S : AccS) (hB : Blk w b accZ 35) (hgd : o.guard = none) (ho : o.op = .store 35 x y) (hx : a.eval x = .pointer (some ⟨b, 0, none⟩)) (hy : a.eval y = accV S)
    (h : wpList Tryz.prog ops Q rest (a.put o.dst undef) (w.setCells b 0 (accC S).toList)) : wpList Tryz.prog ops Q (o :: rest) a w := by
  refine wpList_store_mid hgd 35 x y ho b 0 (accC S) hx hy ?_ info_acc (by simp [accC, Value.oneCell']) h
  intro j hj
  rw [Nat.zero_add]
  refine ⟨?_, hB.free j⟩
  rw [hB.cell j]
  have hs : accZ.size = 21 := rfl
  have hc : (accC S).size = 21 := rfl
  rw [Array.getElem?_eq_getElem (by omega)]
  rfl
set_option maxRecDepth 100000 in
set_option maxHeartbeats 4000000 in
theorem acc_State (b : Nat) (S : AccS) (kd : Value) (w : World) (hA : Blk w b (accArr S kd) 57) :
    Calls Tryz.prog 10 #[.pointer (some ⟨b, 0, none⟩)] w fun e w' => e = .returned (accV S) ∧ Below w.heap.size w w' := by
  have hlt := hA.lt
  have hr := range_acc (hA.alloc (.cells accZ 35))
  have lv := lv_range (range_accC (blk_new w S))
  clear hA
  go_enter Tryz.func10, Tryz.ntmps10
  go_upto_region 1 with (fail)
  refine wp_region_lit ?_
  refine wpList_cut ?_
  go_wp2
  unfold ThenL
  refine wpList_cut ?_
  go_wp2
  unfold ThenL
  refine wpList_cut ?_
  go_wp2
  unfold ThenL
  refine wpList_load_acc S rfl rfl rfl hr ?_
  refine wpList_store_acc S rfl rfl rfl rfl ?_
  clear hr
  go_wp2
  refine bodyPost_ret (v := accV S) (by simp [results, Tryz.results10, asAddr, Act.put, lv]) rfl ⟨rfl, ?_⟩
  focus
    repeat with_reducible first | exact Below.refl _ _ | refine below_drewN ?_ _ | refine Below.drew ?_ | refine Below.setCell ?_ ?_ _ | refine Below.alloc ?_ ?_ _ | refine below_then ?_ ?_ (by with_reducible assumption)
    all_goals first | omega | (simp only [sA, sC, sD, sE]; omega) | (simp; done) | (simp; omega)
end Go.Proofs.YtnimenpfojcehaaGreatDoor
namespace Go.Proofs.YtnimenpfojcehaaGreatDoor
open Go Go.RowKit
set_option linter.unusedSimpArgs false
set_option linter.unusedVariables false

open Classical in
/-- Two states are the same. -/
noncomputable def aeq (S T : AccS) : Bool := decide (S = T)
theorem aeq_true {S T : AccS} : aeq S T = true ↔ S = T := by unfold aeq; simp
theorem aeq_self (S : AccS) : aeq S S = true := aeq_true.2 rfl
theorem eqA (dp : Nat) (w : World) (S T : AccS) :
    (Op.equalIn (dp + 4) 35 (accV S) (accV T)).run Tryz.prog w
      = .ok (S.fn == T.fn && (S.count == T.count && ((S.n == T.n && (S.d == T.d && true))
        && ((S.v.k == T.v.k && ((S.v.n == T.v.n && (S.v.d == T.v.d && true)) && (S.v.t.toList == T.v.t.toList && (S.v.b == T.v.b && (S.v.f == T.v.f && true)))))
        && ((S.needle.k == T.needle.k && ((S.needle.n == T.needle.n && (S.needle.d == T.needle.d && true)) && (S.needle.t.toList == T.needle.t.toList && (S.needle.b == T.needle.b && (S.needle.f == T.needle.f && true)))))
        && (S.has == T.has && (S.full == T.full && (S.wants == T.wants && ((S.hn == T.hn && (S.hd == T.hd && true)) && true))))))))) w := by
  unfold accV accC
  rw [run_equalIn_struct (P := Tryz.prog) w (dp + 3) 35 _ _ (by simp [Program.fieldsOf, Tryz.underlying35]) (by kernel_rfl)]
  simp only [Program.fieldsOf, Tryz.underlying35]
  exact eqF (by decide) (by go_simp; rfl) (by go_simp; rfl) (by go_simp) (eqF (by decide) (by go_simp; rfl) (by go_simp; rfl) (by go_simp) (eqF (by decide) (by go_simp) (by go_simp) (eqN (dp + 1) w _ _ _ _)
    (eqF (by decide) (by go_simp) (by go_simp) (eqV dp w _ _ _ _ _ _ _ _ _ _ _ _) (eqF (by decide) (by go_simp) (by go_simp) (eqV dp w _ _ _ _ _ _ _ _ _ _ _ _)
    (eqF (by decide) (by go_simp; rfl) (by go_simp; rfl) (by go_simp) (eqF (by decide) (by go_simp; rfl) (by go_simp; rfl) (by go_simp) (eqF (by decide) (by go_simp; rfl) (by go_simp; rfl) (by go_simp)
    (eqF (by decide) (by go_simp) (by go_simp) (eqN (dp + 1) w _ _ _ _) eqF0))))))))
theorem aeq_mk (S T : AccS) : (S.fn == T.fn && (S.count == T.count && ((S.n == T.n && (S.d == T.d && true))
        && ((S.v.k == T.v.k && ((S.v.n == T.v.n && (S.v.d == T.v.d && true)) && (S.v.t.toList == T.v.t.toList && (S.v.b == T.v.b && (S.v.f == T.v.f && true)))))
        && ((S.needle.k == T.needle.k && ((S.needle.n == T.needle.n && (S.needle.d == T.needle.d && true)) && (S.needle.t.toList == T.needle.t.toList && (S.needle.b == T.needle.b && (S.needle.f == T.needle.f && true)))))
        && (S.has == T.has && (S.full == T.full && (S.wants == T.wants && ((S.hn == T.hn && (S.hd == T.hd && true)) && true))))))))) = aeq S T := by
  rw [Bool.eq_iff_iff, aeq_true]
  obtain ⟨fn, count, n, d, ⟨vk, vn, vd, vt, vb, vf⟩, ⟨nk, nn, nd, nt, nb, nf⟩, has, full, wants, hn, hd⟩ := S
  obtain ⟨fn', count', n', d', ⟨vk', vn', vd', vt', vb', vf'⟩, ⟨nk', nn', nd', nt', nb', nf'⟩, has', full', wants', hn', hd'⟩ := T
  simp only [Bool.and_eq_true, beq_iff_eq, AccS.mk.injEq, Vl.mk.injEq, and_true]
  constructor
  · rintro ⟨h1, h2, ⟨h3, h4⟩, ⟨h5, ⟨h6, h7⟩, h8, h9, h10⟩, ⟨g5, ⟨g6, g7⟩, g8, g9, g10⟩, h11, h12, h13, h14, h15⟩
    exact ⟨h1, h2, h3, h4, ⟨h5, h6, h7, toList_inj h8, h9, h10⟩, ⟨g5, g6, g7, toList_inj g8, g9, g10⟩, h11, h12, h13, h14, h15⟩
  · rintro ⟨h1, h2, h3, h4, ⟨h5, h6, h7, h8, h9, h10⟩, ⟨g5, g6, g7, g8, g9, g10⟩, h11, h12, h13, h14, h15⟩
    exact ⟨h1, h2, ⟨h3, h4⟩, ⟨h5, ⟨h6, h7⟩, by rw [h8], h9, h10⟩, ⟨g5, ⟨g6, g7⟩, by rw [g8], g9, g10⟩, h11, h12, h13, h14, h15⟩
@[go_sem high] theorem run_eqA (w : World) (S T : AccS) : (binOp .eql 35 (accV S) (accV T)).run Tryz.prog w = .ok (.bool (aeq S T)) w := by
  have h := eqA 9996 w S T
  unfold accV at *
  simp only [binOp, Op.equal, Op.maxDepth]
  rw [← aeq_mk]
  simp [h]
@[go_sem high] theorem run_neA (w : World) (S T : AccS) : (binOp .neq 35 (accV S) (accV T)).run Tryz.prog w = .ok (.bool (!aeq S T)) w := by
  have h := eqA 9996 w S T
  unfold accV at *
  simp only [binOp, Op.equal, Op.maxDepth]
  rw [← aeq_mk]
  simp [h]
@[go_sem high] theorem run_eqGuardA (w : World) (op : BinOp) (x y : Operand) (S T : AccS) : (eqGuard op 35 x y (accV S) (accV T)).run Tryz.prog w = .ok () w :=
  run_eqGuard_agg w op 35 x y (accC S) (accC T) (by kernel_rfl)
end Go.Proofs.YtnimenpfojcehaaGreatDoor
