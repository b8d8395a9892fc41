/- A region that draws its order and whose operations make memory: each operation of the head is shown ONCE, under the facts on the values that it reads, whatever came ahead of it; then the tail, whose order is forced. A plain law over any program. -/
import Derived.Test.YtnimenpfojcehaaGreatDoorBase
namespace Go.Proofs.YtnimenpfojcehaaGreatDoor
open Go Go.RowKit
set_option linter.unusedSimpArgs false
set_option linter.unusedVariables false

section
variable {P : Program} {ops : Array Oper} {md : Region.Mode}

/-- Does o look at what operation k puts? -/
def lookB (ops : Array Oper) (o : Oper) (k : Nat) : Bool :=
  match (ops[k]?).bind (·.dst) with
  | some d => (o.looksAt ops).contains d
  | none => false
/-- The operations below n that b marks have put their values. -/
def putsOf (ops : Array Oper) (vs : Nat → Value) (b : Nat → Bool) (a0 : Act) : Nat → Act
  | 0 => a0
  | n + 1 => if b n = true then (putsOf ops vs b a0 n).put ((ops[n]?).bind (·.dst)) (vs n) else putsOf ops vs b a0 n

theorem put_size (a : Act) (d : Option Tmp) (v : Value) : (a.put d v).tmps.size = a.tmps.size := by cases d <;> simp [Act.put]
theorem putsOf_size (vs : Nat → Value) (b : Nat → Bool) (a0 : Act) : ∀ n, (putsOf ops vs b a0 n).tmps.size = a0.tmps.size
  | 0 => rfl
  | n + 1 => by unfold putsOf; split <;> simp [put_size, putsOf_size vs b a0 n]
theorem putsOf_at (vs : Nat → Value) (b b' : Nat → Bool) (a0 : Act) (t : Tmp) : ∀ n, (∀ k, k < n → b k ≠ b' k → (ops[k]?).bind (·.dst) ≠ some t) → (putsOf ops vs b a0 n).tmps[t]? = (putsOf ops vs b' a0 n).tmps[t]?
  | 0, _ => rfl
  | n + 1, h => by
    have ih := putsOf_at vs b b' a0 t n (fun k hk => h k (by omega))
    have hn := h n (by omega)
    have sz : (putsOf ops vs b a0 n).tmps.size = (putsOf ops vs b' a0 n).tmps.size := by rw [putsOf_size, putsOf_size]
    unfold putsOf
    generalize (ops[n]?).bind (·.dst) = d at hn ⊢
    cases d with
    | none => simpa [Act.put] using ih
    | some d =>
      by_cases hd : d = t
      · subst hd
        have hbb : b n = b' n := Decidable.byContradiction fun hne => hn hne rfl
        rw [hbb]
        split
        · simp [Act.put, Array.getElem?_setIfInBounds, sz]
        · exact ih
      · have e : ∀ (a : Act) (v : Value), (a.put (some d) v).tmps[t]? = a.tmps[t]? := fun a v => by simp [Act.put, Array.getElem?_setIfInBounds_ne hd]
        split <;> split <;> simp [e, ih]
/-- One more is put: it might have been put at its place. -/
theorem putsOf_put (vs : Nat → Value) (b : Nat → Bool) (a0 : Act) (i : Nat) (v : Value) : ∀ n, i < n → b i = false → (∀ k, k < n → k ≠ i → ∀ d, (ops[k]?).bind (·.dst) = some d → (ops[i]?).bind (·.dst) ≠ some d) →
    (putsOf ops vs b a0 n).put ((ops[i]?).bind (·.dst)) v = putsOf ops (fun k => if k = i then v else vs k) (fun k => if k = i then true else b k) a0 n
  | 0, h, _, _ => absurd h (by omega)
  | n + 1, h, hb, hd => by
    have same : ∀ m, m ≤ i → putsOf ops vs b a0 m = putsOf ops (fun k => if k = i then v else vs k) (fun k => if k = i then true else b k) a0 m := by
      intro m
      induction m with
      | zero => intro _; rfl
      | succ m ih =>
        intro hm
        have hne : m ≠ i := by omega
        unfold putsOf
        simp only [if_neg hne]
        rw [ih (by omega)]
    by_cases hin : i = n
    · subst hin
      have e1 : putsOf ops vs b a0 (i + 1) = putsOf ops vs b a0 i := by rw [putsOf]; simp [hb]
      have e2 : putsOf ops (fun k => if k = i then v else vs k) (fun k => if k = i then true else b k) a0 (i + 1) = (putsOf ops (fun k => if k = i then v else vs k) (fun k => if k = i then true else b k) a0 i).put ((ops[i]?).bind (·.dst)) v := by rw [putsOf]; simp
      rw [e1, e2, ← same i (Nat.le_refl _)]
    · have ih := putsOf_put vs b a0 i v n (by omega) hb (fun k hk => hd k (by omega))
      have hne : n ≠ i := fun h => hin h.symm
      rw [putsOf, putsOf]
      simp only [if_neg hne]
      split
      · rw [← ih]
        exact Act.put_comm _ _ _ (fun d h1 => hd n (by omega) hne d h1)
      · exact ih

theorem put_cong {a a' : Act} {d : Option Tmp} {v v' : Value} (hs : a.tmps.size = a'.tmps.size) (h : a'.put d v = a'.put d v') : a.put d v = a.put d v' := by
  cases d with
  | none => rfl
  | some d =>
    simp only [Act.put, Act.mk.injEq, and_true] at h ⊢
    by_cases hd : d < a'.tmps.size
    · have := congrArg (·[d]?) h
      simp [Array.getElem?_setIfInBounds, hd] at this
      rw [this]
    · have hle : a.tmps.size ≤ d := by rw [hs]; exact Nat.le_of_not_lt hd
      rw [Array.setIfInBounds_eq_of_size_le hle, Array.setIfInBounds_eq_of_size_le hle]

/-- What one operation does: it puts a value, R of it and of the world behind. -/
def OneQ (o : Oper) (a : Act) (R : Value → World → Prop) : Exit → Act → World → Prop
  | .normal, a', w' => ∃ v, a' = a.put o.dst v ∧ R v w'
  | _, _, _ => False

theorem one_moves {Q : Exit → Act → World → Prop} {o : Oper} {i : Nat} {a a' : Act} {w : World} {R : Value → World → Prop} {K : Act → World → Prop} (hi : ops[i]? = some o)
    (hsel : ∀ cs b, o.op ≠ .select cs b) (hsz : a.tmps.size = a'.tmps.size) (hat : ∀ t, t ∈ o.looksAt ops → a.tmps[t]? = a'.tmps[t]?)
    (hK : ∀ v w', R v w' → K (a.put o.dst v) w')
    (h : wpList P ops (OneQ o a' R) [o] a' w) : wpOp P ops Q i K a w := by
  have hev : execOp a.eval o = execOp a'.eval o := execOp_congr o hsel fun x hx => by
    cases x with
    | tmp t =>
      have hm : t ∈ o.looksAt ops := List.mem_append_left _ (List.mem_filterMap.2 ⟨.tmp t, by simpa using hx, rfl⟩)
      have := hat t hm
      simp only [Act.eval, Array.getD_eq_getD_getElem?, this]
    | _ => rfl
  have hwa : Region.wanted o (yielded ops a.tmps) = Region.wanted o (yielded ops a'.tmps) := by
    unfold Region.wanted
    cases hg : o.guard with
    | none => rfl
    | some gw =>
      obtain ⟨g, want⟩ := gw
      have : yielded ops a.tmps g = yielded ops a'.tmps g := by
        unfold yielded
        cases ht : (ops[g]?).bind (·.dst) with
        | none => rfl
        | some t =>
          have hm : t ∈ o.looksAt ops := by simp [Oper.looksAt, hg, ht]
          simp only [Option.bind_some, hat t hm]
      simp only [this]
  have out : ∀ v w', (∃ v', a'.put o.dst v = a'.put o.dst v' ∧ R v' w') → K (a.put o.dst v) w' := by
    rintro v w' ⟨v', e, hR⟩
    rw [put_cong hsz e]
    exact hK v' w' hR
  unfold wpOp
  simp only [hi]
  unfold wpList at h
  rw [hwa]
  split
  · rename_i hw
    simp only [hw, if_true] at h
    rcases h with h | ⟨_, _, _, h⟩
    · refine .inl ?_
      unfold Oper.wp at h ⊢
      rw [hev]
      generalize (execOp a'.eval o).run P w = r at h ⊢
      cases r with
      | ok n w' =>
        cases n <;> simp only [Oper.upon] at h ⊢
        case value v => exact out _ _ h
        case skip => exact out _ _ h
        case defer d =>
          obtain ⟨v', e, _⟩ := h
          have := congrArg Act.defers e
          cases hd : o.dst <;> simp [hd, Act.put] at this
        case enter f args => exact Calls.mono h (fun e w'' he => by cases e <;> first | exact out _ _ he | exact (he : False).elim | (obtain ⟨_, _, he⟩ := he; exact (he : False).elim))
        case row row args => exact Rows.mono h (fun _ _ he => out _ _ he)
      | halt x w' => cases x <;> simp only [Oper.upon] at h <;> exact (h : False).elim
    · exact (h : False).elim
  · rename_i hw
    simp only [hw] at h
    exact out _ _ h

theorem one_weak {o : Oper} {a a' : Act} {w : World} {R R' : Value → World → Prop} (hR : ∀ v w', R v w' → R' v w') (h : wpList P ops (OneQ o a R) [o] a' w) : wpList P ops (OneQ o a R') [o] a' w := by
  have out : ∀ e a1 w1, OneQ o a R e a1 w1 → OneQ o a R' e a1 w1 := by
    intro e a1 w1 h
    cases e with
    | normal => obtain ⟨v, h1, h2⟩ := h; exact ⟨v, h1, hR v w1 h2⟩
    | _ => exact h
  unfold wpList at h ⊢
  split
  · rename_i hw
    simp only [hw, if_true] at h
    rcases h with h | ⟨_, _, _, h⟩
    · refine .inl ?_
      unfold Oper.wp at h ⊢
      generalize (execOp a'.eval o).run P w = r at h ⊢
      cases r with
      | ok n w' =>
        cases n <;> simp only [Oper.upon] at h ⊢
        case value v => exact out _ _ _ h
        case skip => exact out _ _ _ h
        case defer d => exact out _ _ _ h
        case enter f args => exact Calls.mono h (fun e w'' he => by cases e <;> first | exact out _ _ _ he | exact (he : False).elim | (obtain ⟨_, _, he⟩ := he; exact (he : False).elim))
        case row row args => exact Rows.mono h (fun _ _ he => out _ _ _ he)
      | halt x w' => cases x <;> simp only [Oper.upon] at h <;> exact (h : False).elim
    · exact (h : False).elim
  · rename_i hw
    simp only [hw] at h
    exact out _ _ _ h

def eachB (md : Region.Mode) (ops : Array Oper) (n : Nat) : Bool :=
  Region.noSelect ops && decide (n < ops.size) && Region.sinkB md ops n && Region.chainB md ops n &&
  ((List.range n).all fun j => ((ops[j]?).map fun o => (o.after.all fun e => !Region.binds md e || decide (e.on < j)) &&
    (List.range n).all fun k => !lookB ops o k || (decide (k < j) && Region.waitsFor md ops j k)).getD false) &&
  ((List.range n).all fun j => (List.range n).all fun k => decide (j = k) || ((ops[j]?).bind (·.dst) == none) || (ops[j]?).bind (·.dst) != (ops[k]?).bind (·.dst)) &&
  Region.seqB md ops (ops.size - n) n ((Array.range ops.size).map fun i => decide (i < n))

theorem wpAny_each {Q : Exit → Act → World → Prop} {a0 : Act} {n : Nat} (C : World → Prop) (St : World → World → Prop) (V : Nat → Value → World → Prop) (D : Nat → Value → Nat → Value → Prop)
    (hB : eachB md ops n = true) (hCS : ∀ w w', C w → St w w' → C w') (hV : ∀ k v w w', C w → V k v w → St w w' → V k v w')
    (hop : ∀ j, j < n → ∀ o, ops[j]? = some o → ∀ vs w, C w → (∀ k, k < n → lookB ops o k = true → V k (vs k) w) →
      wpList P ops (OneQ o (putsOf ops vs (lookB ops o) a0 n) fun v w' => St w w' ∧ V j v w' ∧ ∀ k u, k < n → k ≠ j → V k u w → D k u j v ∧ D j v k u) [o] (putsOf ops vs (lookB ops o) a0 n) w)
    (tail : ∀ vs w, C w → (∀ k, k < n → V k (vs k) w) → (∀ k k', k < n → k' < n → k ≠ k' → D k (vs k) k' (vs k')) → wpList P ops Q (ops.toList.drop n) (putsOf ops vs (fun _ => true) a0 n) w) :
    ∀ (f : Nat) (listed : Array Bool) (vs : Nat → Value) (w : World), HeadInv md ops n listed → ((List.range n).filter fun k => !listed.getD k false).length = f → C w →
      (∀ k, k < n → listed.getD k false = true → V k (vs k) w) → (∀ k k', k < n → k' < n → k ≠ k' → listed.getD k false = true → listed.getD k' false = true → D k (vs k) k' (vs k')) → wpAny P md ops Q (f + (ops.size - n)) listed (putsOf ops vs (fun k => listed.getD k false) a0 n) w := by
  simp only [eachB, Bool.and_eq_true, decide_eq_true_eq] at hB
  obtain ⟨⟨⟨⟨⟨⟨hsel, hn⟩, hs⟩, hc⟩, hed⟩, hds⟩, hseq⟩ := hB
  intro f
  induction f with
  | zero =>
    intro listed vs w inv hf hC hv hD
    have hall : ∀ k, k < n → listed.getD k false = true := by
      intro k hk
      have h1 := List.length_eq_zero_iff.1 hf
      have h2 := List.filter_eq_nil_iff.1 h1 k (List.mem_range.2 hk)
      simpa using h2
    have hl : listed = (Array.range ops.size).map fun i => decide (i < n) := by
      apply Array.ext
      · simp [inv.size]
      · intro i h1 h2
        have h3 : i < ops.size := by rw [← inv.size]; exact h1
        simp only [Array.getElem_map, Array.getElem_range]
        by_cases hin : i < n
        · have := hall i hin
          simp [h1] at this
          simp [this, hin]
        · have := inv.tail i (by omega) h3
          simp [h1] at this
          simp [this, hin]
    rw [Nat.zero_add]
    have htl := tail vs w hC (fun k hk => hv k hk (hall k hk)) (fun k k' hk hk' hne => hD k k' hk hk' hne (hall k hk) (hall k' hk'))
    have e : putsOf ops vs (fun k => listed.getD k false) a0 n = putsOf ops vs (fun _ => true) a0 n := by
      have : ∀ m, m ≤ n → putsOf ops vs (fun k => listed.getD k false) a0 m = putsOf ops vs (fun _ => true) a0 m := by
        intro m
        induction m with
        | zero => intro _; rfl
        | succ m ih => intro hm; rw [putsOf, putsOf, ih (by omega), hall m (by omega)]
      exact this n (Nat.le_refl _)
    rw [e, hl]
    have hdl : (ops.toList.drop n).length = ops.size - n := by simp
    have := wpAny_of_seq (md := md) (Q' := Q) (ops.toList.drop n) n _ _ w (fun j => by simp [List.getElem?_drop]) (by rw [hdl]; exact hseq) htl
    rwa [hdl] at this
  | succ f ih =>
    intro listed vs w inv hf hC hv hD
    obtain ⟨i0, hi0, hu0⟩ : ∃ i, i < n ∧ listed.getD i false = false := by
      cases he : (List.range n).filter fun k => !listed.getD k false with
      | nil => rw [he] at hf; simp at hf
      | cons x r =>
        have hx : x ∈ (List.range n).filter fun k => !listed.getD k false := by rw [he]; simp
        rw [List.mem_filter] at hx
        exact ⟨x, List.mem_range.1 hx.1, by simpa using hx.2⟩
    have hex : ∃ i, i < n ∧ i ∈ Region.ready md ops listed := by
      have : ∀ m, m < n → listed.getD m false = false → ∃ i, i < n ∧ i ∈ Region.ready md ops listed := by
        intro m
        induction m using Nat.strongRecOn with
        | _ m ihm =>
          intro hm hum
          obtain ⟨o, ho⟩ : ∃ o, ops[m]? = some o := ⟨_, Array.getElem?_eq_getElem (by omega)⟩
          have h1 := List.all_eq_true.1 hed m (List.mem_range.2 hm)
          simp only [ho, Option.map_some, Option.getD_some, Bool.and_eq_true] at h1
          by_cases hall : ∀ e ∈ o.after, Region.binds md e = true → listed.getD e.on false = true
          · exact ⟨m, hm, mem_ready.2 ⟨getD_in (by rw [inv.size]; omega) hum, o, ho, hall⟩⟩
          · obtain ⟨e, h2⟩ := Classical.not_forall.1 hall
            obtain ⟨he, h2⟩ := Classical.not_forall.1 h2
            obtain ⟨hb, h2⟩ := Classical.not_forall.1 h2
            have h3 := Array.all_eq_true'.1 h1.1 e he
            simp [hb] at h3
            exact ihm e.on h3 (by omega) (by simpa using h2)
      exact this i0 hi0 hu0
    rw [show f + 1 + (ops.size - n) = (f + (ops.size - n)) + 1 by omega]
    refine ⟨fun h => ?_, fun i hi => ?_⟩
    · obtain ⟨i, _, hi⟩ := hex
      rw [h] at hi; cases hi
    · have hin : i < n := Nat.lt_of_not_le fun h => tail_waits hs hc hn inv _ i0 rfl hi0 (getD_in (by rw [inv.size]; omega) hu0) i h hi
      obtain ⟨hun, o, ho, hall⟩ := mem_ready.1 hi
      have hunf := getD_both hun
      have h1 := List.all_eq_true.1 hed i (List.mem_range.2 hin)
      simp only [ho, Option.map_some, Option.getD_some, Bool.and_eq_true] at h1
      have hdep : ∀ k, k < n → lookB ops o k = true → listed.getD k false = true := by
        intro k hk hl
        have h2 := List.all_eq_true.1 h1.2 k (List.mem_range.2 hk)
        simp only [hl, Bool.not_true, Bool.false_or, Bool.and_eq_true, decide_eq_true_eq] at h2
        obtain ⟨o', ho', e, he, hb, hon⟩ := Region.waitsFor_spec h2.2
        obtain rfl : o' = o := Option.some.inj (ho'.symm.trans ho)
        have := hall e he hb
        rwa [hon] at this
      have hstep := hop i hin o ho vs w hC (fun k hk hl => hv k hk (hdep k hk hl))
      refine one_moves ho (fun cs b => Region.noSelect_spec hsel i o cs b ho) (by rw [putsOf_size, putsOf_size]) (fun t ht => putsOf_at vs _ _ a0 t n fun k hk hne hd => ?_) (fun v w' hR => ?_) hstep
      · have hl : lookB ops o k = true := by
          unfold lookB
          rw [hd]
          simpa using ht
        exact hne (by rw [hl, hdep k hk hl])
      · have hdst : o.dst = (ops[i]?).bind (·.dst) := by rw [ho]; rfl
        rw [hdst, putsOf_put vs _ a0 i v n hin hunf (fun k hk hki d hd => by
          have h3 := List.all_eq_true.1 (List.all_eq_true.1 hds k (List.mem_range.2 hk)) i (List.mem_range.2 hin)
          simp only [hd, Bool.or_eq_true, decide_eq_true_eq] at h3
          rcases h3 with (h3 | h3) | h3
          · exact absurd h3 hki
          · cases h3
          · intro he; rw [he] at h3; simp at h3)]
        have hget : ∀ k, (listed.setIfInBounds i true).getD k false = if k = i then true else listed.getD k false := by
          intro k
          by_cases hki : k = i
          · subst hki
            have : k < listed.size := by rw [inv.size]; omega
            simp [this]
          · rw [getD_set_ne false (fun h => hki h.symm), if_neg hki]
        have efun : (fun k => if k = i then true else listed.getD k false) = fun k => (listed.setIfInBounds i true).getD k false := funext fun k => (hget k).symm
        rw [efun]
        refine ih _ _ w' (inv.set hi hin) ?_ (hCS w w' hC hR.1) ?_ ?_
        · have h4 : ((List.range n).filter fun k => !(listed.setIfInBounds i true).getD k false) = ((List.range n).filter fun k => !listed.getD k false).erase i := by
            rw [List.Nodup.erase_eq_filter ((List.nodup_range).filter _), List.filter_filter]
            apply List.filter_congr
            intro k _
            rw [hget]
            by_cases hki : k = i <;> simp [hki]
          rw [h4, List.length_erase_of_mem (by rw [List.mem_filter]; exact ⟨List.mem_range.2 hin, by simp [hunf]⟩), hf]
          rfl
        · intro k hk hl
          rw [hget] at hl
          by_cases hki : k = i
          · subst hki; simpa using hR.2.1
          · simp only [if_neg hki] at hl ⊢
            exact hV k _ w w' hC (hv k hk hl) hR.1
        · intro k k' hk hk' hne hl hl'
          rw [hget] at hl hl'
          by_cases hki : k = i
          · have hki' : k' ≠ i := fun h => hne (by rw [hki, h])
            simp only [if_neg hki'] at hl' ⊢
            simp only [hki, if_true]
            exact (hR.2.2 k' (vs k') hk' hki' (hv k' hk' hl')).2
          · simp only [if_neg hki] at hl ⊢
            by_cases hki' : k' = i
            · simp only [hki', if_true]
              exact (hR.2.2 k (vs k) hk hki (hv k hk hl)).1
            · simp only [if_neg hki'] at hl' ⊢
              exact hD k k' hk hk' hne hl hl'

/-- The region: its head each by itself, its tail in its forced order; D: what holds between two operations' values. -/
theorem region_eachD {id : Nat} {Q : Exit → Act → World → Prop} {a0 : Act} {w : World} {l : List Oper} (n : Nat) (V : Nat → Value → World → Prop) (D : Nat → Value → Nat → Value → Prop)
    (hm : P.follows .mixedOrders = true) (hB : eachB .any l.toArray n = true)
    (hV : ∀ k v w1 w2, V k v w1 → Below w1.heap.size w1 w2 → V k v w2)
    (hop : ∀ j, j < n → ∀ o, l[j]? = some o → ∀ vs wx, Bw w wx → (∀ k, k < n → lookB l.toArray o k = true → V k (vs k) wx) →
      wpList P l.toArray (OneQ o (putsOf l.toArray vs (lookB l.toArray o) a0 n) fun v w' => Below wx.heap.size wx w' ∧ V j v w' ∧ ∀ k u, k < n → k ≠ j → V k u wx → D k u j v ∧ D j v k u) [o] (putsOf l.toArray vs (lookB l.toArray o) a0 n) wx)
    (tail : ∀ vs wx, Bw w wx → (∀ k, k < n → V k (vs k) wx) → (∀ k k', k < n → k' < n → k ≠ k' → D k (vs k) k' (vs k')) → wpList P l.toArray Q (l.drop n) (putsOf l.toArray vs (fun _ => true) a0 n) wx) :
    (Code.region id l.toArray true).wp P Q a0 w := by
  refine wp_region_any hm ?_
  have hB' := hB
  simp only [eachB, Bool.and_eq_true, decide_eq_true_eq] at hB'
  have hn : n < l.toArray.size := hB'.1.1.1.1.1.2
  have inv0 : HeadInv .any l.toArray n (Array.replicate l.toArray.size false) :=
    ⟨by simp, fun j oj _ hl => (by rw [getD_replicate_false] at hl; cases hl), fun t _ ht => getD_in (by simpa using ht) (getD_replicate_false _ _)⟩
  have h0 : ((List.range n).filter fun k => !(Array.replicate l.toArray.size false).getD k false).length = n := by
    have : ((List.range n).filter fun k => !(Array.replicate l.toArray.size false).getD k false) = List.range n := by
      rw [List.filter_eq_self]
      intro k _
      rw [getD_replicate_false]; rfl
    rw [this, List.length_range]
  have H := wpAny_each (P := P) (md := .any) (Q := Q) (a0 := a0) (Bw w) (fun w1 w2 => Below w1.heap.size w1 w2) V D hB (fun _ _ h k => h.chain k) (fun k v w1 w2 _ h s => hV k v w1 w2 h s)
    (fun j hj o ho => hop j hj o (by simpa using ho)) (fun vs wx hC hv hD => by simpa using tail vs wx hC hv hD) n _ (fun _ => undef) { w with drawn := w.drawn + 1 } inv0 h0 ⟨(Below.refl _ _).drew⟩
    (fun k _ h => by rw [getD_replicate_false] at h; cases h) (fun k k' _ _ _ h _ => by rw [getD_replicate_false] at h; cases h)
  have e : putsOf l.toArray (fun _ => undef) (fun k => (Array.replicate l.toArray.size false).getD k false) a0 n = a0 := by
    have : ∀ m, putsOf l.toArray (fun _ => undef) (fun k => (Array.replicate l.toArray.size false).getD k false) a0 m = a0 := by
      intro m
      induction m with
      | zero => rfl
      | succ m ih =>
        rw [putsOf, ih]
        simp only [getD_replicate_false, Bool.false_eq_true, if_false]
    exact this n
  rw [e, show n + (l.toArray.size - n) = l.toArray.size by omega] at H
  exact H
/-- .. with nothing between two operations' values. -/
theorem region_each {id : Nat} {Q : Exit → Act → World → Prop} {a0 : Act} {w : World} {l : List Oper} (n : Nat) (V : Nat → Value → World → Prop)
    (hm : P.follows .mixedOrders = true) (hB : eachB .any l.toArray n = true)
    (hV : ∀ k v w1 w2, V k v w1 → Below w1.heap.size w1 w2 → V k v w2)
    (hop : ∀ j, j < n → ∀ o, l[j]? = some o → ∀ vs wx, Bw w wx → (∀ k, k < n → lookB l.toArray o k = true → V k (vs k) wx) →
      wpList P l.toArray (OneQ o (putsOf l.toArray vs (lookB l.toArray o) a0 n) fun v w' => Below wx.heap.size wx w' ∧ V j v w') [o] (putsOf l.toArray vs (lookB l.toArray o) a0 n) wx)
    (tail : ∀ vs wx, Bw w wx → (∀ k, k < n → V k (vs k) wx) → wpList P l.toArray Q (l.drop n) (putsOf l.toArray vs (fun _ => true) a0 n) wx) :
    (Code.region id l.toArray true).wp P Q a0 w :=
  region_eachD n V (fun _ _ _ _ => True) hm hB hV
    (fun j hj o ho vs wx hw hk => one_weak (fun v w' h => ⟨h.1, h.2, fun _ _ _ _ _ => ⟨trivial, trivial⟩⟩) (hop j hj o ho vs wx hw hk))
    (fun vs wx hw hk _ => tail vs wx hw hk)

/-- A name for the frame at hand. -/
theorem wp_act {c : Code} {Q : Exit → Act → World → Prop} {a0 : Act} {w : World} (h : ∀ a, a = a0 → c.wp P Q a w) : c.wp P Q a0 w := h _ rfl
/-- A list cut in two. -/
def ThenL (P : Program) (ops : Array Oper) (Q : Exit → Act → World → Prop) (l : List Oper) : Exit → Act → World → Prop
  | .normal, a, w => wpList P ops Q l a w
  | e, a, w => Q e a w
theorem wpList_cut {Q : Exit → Act → World → Prop} {o : Oper} {l : List Oper} {a : Act} {w : World} (h : wpList P ops (ThenL P ops Q l) [o] a w) : wpList P ops Q (o :: l) a w := by
  unfold wpList at h ⊢
  split
  · rename_i hw
    simp only [hw, if_true] at h
    rcases h with h | h
    · refine .inl ?_
      unfold Oper.wp at h ⊢
      generalize (execOp a.eval o).run P w = r at h ⊢
      cases r with
      | ok n w' =>
        cases n <;> simp only [Oper.upon] at h ⊢
        case value v => exact h
        case skip => exact h
        case defer d => exact h
        case enter f args => exact Calls.mono h (fun e w'' he => by cases e <;> first | exact he | exact (by obtain ⟨x, y, hxy⟩ := he; exact ⟨x, y, hxy⟩))
        case row row args => exact Rows.mono h (fun _ _ he => he)
      | halt x w' => cases x <;> simp only [Oper.upon] at h ⊢ <;> exact h
    · refine .inr ⟨h.1, ?_⟩
      obtain ⟨x, y, hxy⟩ := h.2
      exact ⟨x, y, hxy⟩
  · rename_i hw
    simp only [hw] at h
    exact h
end
end Go.Proofs.YtnimenpfojcehaaGreatDoor
