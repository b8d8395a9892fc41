/- What the three searches hold behind some cells, and what a cell does to them. -/
import Derived.Test.YtangdbjoflnobaaGreatDoorSeekC
import Derived.Test.YtangdbjoflnobaaGreatDoorSumsP
namespace Go.Proofs.YtangdbjoflnobaaGreatDoor
open Go Go.RowKit
set_option linter.unusedSimpArgs false
set_option linter.unusedVariables false

/-- A needle that FnSeeks asks for. -/
structure Asked (nd : Vl) : Prop where
  right : rightV nd = true
  k : ¬ nd.k = 4
  u : nd.k = 2 → Unmarked nd.t
def Mst (nd : Vl) (k f : Nat) : AccS := if f = 0 then { acc0 20 0 with needle := nd, has := true, count := k } else { acc0 20 0 with needle := nd, has := true, count := f, full := true, v := wholeF f }
def Cst (nd : Vl) (c : Nat) : AccS := { acc0 21 0 with needle := nd, has := true, count := c }
def Lst (nd : Vl) (f : Nat) (fd : Vl) : AccS := if f = 0 then { acc0 23 0 with needle := nd, has := true } else { acc0 23 0 with needle := nd, has := true, full := true, v := fd }
def Lwt (nd : Vl) : AccS := { acc0 23 0 with needle := nd, has := true, wants := true }

theorem same_tk (nd v : Vl) : sameV nd (tkV v) = sameV nd v := by unfold sameV; rw [tkV_tkV]
theorem meets_same (nd v : Vl) : meetsV nd (tkV v) = sameV nd v := by
  unfold meetsV
  by_cases h : (tkV v).k = 0 ∨ (tkV v).k = 4
  · rw [if_pos h]
    unfold sameV sameT
    rw [if_neg]
    rintro ⟨h1, h2, h3⟩
    rcases h with h | h <;> omega
  · rw [if_neg h, same_tk]

theorem feedM (b : Nat) {nd : Vl} (h : Asked nd) : Turns 42 #[.pointer (some ⟨b, 0, none⟩), .agg #[.int .i64 (nd).k, .int .i64 (nd).n, .int .i64 (nd).d, .string (nd).t, .bool (nd).b, .int .i64 (nd).f]] b (acc0 20 0) (Mst nd 0 0) kdM :=
  acc_Feed20 b _ _ _ _ _ _ _ _ nd (tkV_of h.right).symm (right_in h.right) rfl rfl (search_feed b _ kdM nd rfl h.k)
theorem feedC (b : Nat) {nd : Vl} (h : Asked nd) : Turns 42 #[.pointer (some ⟨b, 0, none⟩), .agg #[.int .i64 (nd).k, .int .i64 (nd).n, .int .i64 (nd).d, .string (nd).t, .bool (nd).b, .int .i64 (nd).f]] b (acc0 21 0) (Cst nd 0) kdI :=
  acc_Feed21 b _ _ _ _ _ _ _ _ nd (tkV_of h.right).symm (right_in h.right) rfl rfl (search_feed b _ kdI nd rfl h.k)
theorem feedL (b : Nat) {nd : Vl} (h : Asked nd) : Turns 42 #[.pointer (some ⟨b, 0, none⟩), .agg #[.int .i64 (nd).k, .int .i64 (nd).n, .int .i64 (nd).d, .string (nd).t, .bool (nd).b, .int .i64 (nd).f]] b (acc0 23 0) (Lst nd 0 (faultF 5)) kdL :=
  acc_Feed23 b _ _ _ _ _ _ _ _ nd (tkV_of h.right).symm (right_in h.right) rfl rfl (search_feed b _ kdL nd rfl h.k)

theorem cellM (b : Nat) {nd : Vl} (h : Asked nd) (k f : Nat) (hk : k ≤ 1000000) (v : Vl) (hv : v.In) :
    Turns 41 #[.pointer (some ⟨b, 0, none⟩), .agg #[.int .i64 (v).k, .int .i64 (v).n, .int .i64 (v).d, .string (v).t, .bool (v).b, .int .i64 (v).f]] b (Mst nd k f) (Mst nd (k + 1) (if f = 0 ∧ sameV nd v = true then k + 1 else f)) kdM := by
  by_cases hf : f = 0
  · subst hf
    have e0 : Mst nd k 0 = { acc0 20 0 with needle := nd, has := true, count := k } := rfl
    cases hs : sameV nd v
    · rw [if_neg (by simp)]
      refine acc_Cell20 b _ _ _ _ _ _ _ _ (tkV v) rfl hv rfl rfl ?_
      have h2 := match_no b (Mst nd k 0) kdM (tkV v) rfl (right_in h.right) (tkV_in hv) (by rw [← hs]; exact same_tk nd v) (by rw [e0]; exact Int.natCast_nonneg _) (by rw [e0]; simp only; omega)
      exact h2
    · rw [if_pos ⟨rfl, rfl⟩]
      refine acc_Cell20 b _ _ _ _ _ _ _ _ (tkV v) rfl hv rfl rfl ?_
      have h2 := match_yes b (Mst nd k 0) kdM (tkV v) rfl (right_in h.right) (tkV_in hv) (by rw [← hs]; exact same_tk nd v) (by rw [e0]; exact Int.natCast_nonneg _) (by rw [e0]; simp only; omega)
      exact h2
  · rw [if_neg (by omega)]
    have e : Mst nd (k + 1) f = Mst nd k f := by unfold Mst; rw [if_neg hf, if_neg hf]
    rw [e]
    exact acc_Cell_full b _ kdM _ _ _ _ _ _ (by unfold Mst; rw [if_neg hf])
theorem cellC (b : Nat) {nd : Vl} (h : Asked nd) (c : Nat) (hc : c ≤ 1000000) (v : Vl) (hv : v.In) :
    Turns 41 #[.pointer (some ⟨b, 0, none⟩), .agg #[.int .i64 (v).k, .int .i64 (v).n, .int .i64 (v).d, .string (v).t, .bool (v).b, .int .i64 (v).f]] b (Cst nd c) (Cst nd (if sameV nd v = true then c + 1 else c)) kdI := by
  refine acc_Cell21 b _ _ _ _ _ _ _ _ (tkV v) rfl hv rfl rfl ?_
  have h2 := countIf_cell b (Cst nd c) kdI (tkV v) rfl (right_in h.right) (tkV_in hv) h.u (Int.natCast_nonneg _) (by unfold Cst; simp only; omega)
  have e : meetsV (Cst nd c).needle (tkV v) = sameV nd v := meets_same nd v
  rw [e] at h2
  cases hs : sameV nd v
  · rw [hs] at h2; exact h2
  · rw [hs] at h2; exact h2
theorem cellL0 (b : Nat) {nd : Vl} (h : Asked nd) (fd : Vl) (v : Vl) (hv : v.In) (hs : sameV nd v = false) :
    Turns 41 #[.pointer (some ⟨b, 0, none⟩), .agg #[.int .i64 (v).k, .int .i64 (v).n, .int .i64 (v).d, .string (v).t, .bool (v).b, .int .i64 (v).f]] b (Lst nd 0 fd) (Lst nd 0 fd) kdL := by
  refine acc_Cell23 b _ _ _ _ _ _ _ _ (tkV v) rfl hv rfl rfl ?_
  have h2 := lookup_cell b (Lst nd 0 fd) kdL (tkV v) rfl (right_in h.right) (tkV_in hv)
  have e : sameV (Lst nd 0 fd).needle (tkV v) = false := (same_tk nd v).trans hs
  rw [e] at h2
  exact h2
theorem cellL1 (b : Nat) {nd : Vl} (h : Asked nd) (fd : Vl) (v : Vl) (hv : v.In) (hs : sameV nd v = true) :
    Turns 41 #[.pointer (some ⟨b, 0, none⟩), .agg #[.int .i64 (v).k, .int .i64 (v).n, .int .i64 (v).d, .string (v).t, .bool (v).b, .int .i64 (v).f]] b (Lst nd 0 fd) (Lwt nd) kdL := by
  refine acc_Cell23 b _ _ _ _ _ _ _ _ (tkV v) rfl hv rfl rfl ?_
  have h2 := lookup_cell b (Lst nd 0 fd) kdL (tkV v) rfl (right_in h.right) (tkV_in hv)
  have e : sameV (Lst nd 0 fd).needle (tkV v) = true := (same_tk nd v).trans hs
  rw [e] at h2
  exact h2
theorem cellL2 (b : Nat) (nd : Vl) (f : Nat) (fd : Vl) (v : Vl) (hf : ¬ f = 0) :
    Turns 41 #[.pointer (some ⟨b, 0, none⟩), .agg #[.int .i64 (v).k, .int .i64 (v).n, .int .i64 (v).d, .string (v).t, .bool (v).b, .int .i64 (v).f]] b (Lst nd f fd) (Lst nd f fd) kdL :=
  acc_Cell_full b _ kdL _ _ _ _ _ _ (by unfold Lst; rw [if_neg hf])
theorem pairL (b : Nat) (nd : Vl) (k : Nat) (p : Vl) (hp : rightV p = true) :
    Turns 45 #[.pointer (some ⟨b, 0, none⟩), .agg #[.int .i64 (p).k, .int .i64 (p).n, .int .i64 (p).d, .string (p).t, .bool (p).b, .int .i64 (p).f]] b (Lwt nd) (Lst nd (k + 1) p) kdL :=
  acc_Pair b (Lwt nd) p hp rfl rfl rfl

def wantV (f : Nat) : Vl := if f = 0 then faultF 5 else numF f 1
theorem resM (nd : Vl) (k f : Nat) (hf : f ≤ 1000000) (p : Nat) (w : World) (hA : Blk w p (accArr (Mst nd k f) kdM) 104) :
    Calls Tryz.prog 28 #[.pointer (some ⟨p, 0, none⟩)] w fun e w' => e = .returned (.agg #[.int .i64 (wantV f).k, .int .i64 (wantV f).n, .int .i64 (wantV f).d, .string (wantV f).t, .bool (wantV f).b, .int .i64 (wantV f).f]) ∧ Below w.heap.size w w' := by
  unfold wantV
  by_cases h0 : f = 0
  · rw [if_pos h0]
    subst h0
    exact acc_Result20 p _ w hA rfl rfl
  · rw [if_neg h0]
    have e : Mst nd k f = { acc0 20 0 with needle := nd, has := true, count := f, full := true, v := wholeF f } := by unfold Mst; rw [if_neg h0]
    rw [e] at hA
    have R := acc_Result_full p _ kdM w hA rfl
    simp only [wholeF_of (c := (f : Int)) (by omega) (by omega)] at R
    exact R
theorem fullM (nd : Vl) (k f : Nat) (p : Nat) (w : World) (hA : Blk w p (accArr (Mst nd k f) kdM) 104) :
    Calls Tryz.prog 46 #[.pointer (some ⟨p, 0, none⟩)] w fun e w' => e = .returned (.bool (decide (0 < f))) ∧ w = w' := by
  have h := acc_Full p _ kdM w hA
  have e : (Mst nd k f).full = decide (0 < f) := by
    unfold Mst
    by_cases h0 : f = 0
    · rw [if_pos h0]; subst h0; rfl
    · rw [if_neg h0]
      have : 0 < f := by omega
      simp [this]
  rw [e] at h
  exact h
theorem resC (nd : Vl) (c : Nat) (hc : c ≤ 1000000) (p : Nat) (w : World) (hA : Blk w p (accArr (Cst nd c) kdI) 104) :
    Calls Tryz.prog 28 #[.pointer (some ⟨p, 0, none⟩)] w fun e w' => e = .returned (.agg #[.int .i64 (numF c 1).k, .int .i64 (numF c 1).n, .int .i64 (numF c 1).d, .string (numF c 1).t, .bool (numF c 1).b, .int .i64 (numF c 1).f]) ∧ Below w.heap.size w w' := by
  have R := acc_Result21 p _ w hA rfl rfl (I64.of (by unfold Cst; simp only; omega) (by unfold Cst; simp only; omega))
  have e : wholeF (Cst nd c).count = numF c 1 := wholeF_of (c := (c : Int)) (by omega) (by omega)
  rw [e] at R
  exact R
theorem resL (nd : Vl) (f : Nat) (fd : Vl) (hfd : f = 0 → fd = faultF 5) (p : Nat) (w : World) (hA : Blk w p (accArr (Lst nd f fd) kdL) 104) :
    Calls Tryz.prog 28 #[.pointer (some ⟨p, 0, none⟩)] w fun e w' => e = .returned (.agg #[.int .i64 (fd).k, .int .i64 (fd).n, .int .i64 (fd).d, .string (fd).t, .bool (fd).b, .int .i64 (fd).f]) ∧ Below w.heap.size w w' := by
  by_cases h0 : f = 0
  · have e := hfd h0
    subst h0
    rw [e]
    exact acc_Result23 p _ w hA rfl rfl
  · have e : Lst nd f fd = { acc0 23 0 with needle := nd, has := true, full := true, v := fd } := by unfold Lst; rw [if_neg h0]
    rw [e] at hA
    exact acc_Result_full p _ kdL w hA rfl
theorem wantsL (S : AccS) (p : Nat) (w : World) (hA : Blk w p (accArr S kdL) 104) :
    Calls Tryz.prog 44 #[.pointer (some ⟨p, 0, none⟩)] w fun e w' => e = .returned (.bool S.wants) ∧ w = w' := acc_Wants p S kdL w hA
end Go.Proofs.YtangdbjoflnobaaGreatDoor
