/- The plain functions of chapter 1 (numbers): what package num's functions answer, as Lean functions on whole numbers; no program in sight. -/
import Derived.IntWalk
import Derived.Below
namespace Go.Proofs.YtangdbjoflnobaaGreatDoor
open Go.RowKit

/-- It fits into an int. -/
structure I64 (x : Int) : Prop where
  lo : -9223372036854775808 ≤ x
  hi : x ≤ 9223372036854775807
structure Nm where
  n : Int
  d : Int
structure NmB where
  n : Int
  d : Int
  ok : Bool
def rightN (n d : Int) : Bool := decide (-1000000000000 ≤ n) && decide (n ≤ 1000000000000) && decide (1 ≤ d) && decide (d ≤ 1000000) && (Nat.gcd n.natAbs d.natAbs == 1)
def tk (n d : Int) : Nm := if rightN n d then ⟨n, d⟩ else ⟨0, 1⟩
def badB : NmB := ⟨0, 0, false⟩
def signed (minus : Bool) (x y : Nat) : NmB := if 1000000000000 < x ∨ 1000000 < y then badB else ⟨if minus then -(x : Int) else x, y, true⟩
def mk (n d : Int) : NmB := if d = 0 then badB else
  signed (decide (n < 0) != decide (d < 0)) (n.natAbs / Nat.gcd n.natAbs d.natAbs) (d.natAbs / Nat.gcd n.natAbs d.natAbs)
def add (n d m e : Int) : NmB := mk ((tk n d).n * (tk m e).d + (tk m e).n * (tk n d).d) ((tk n d).d * (tk m e).d)
def neg (n d : Int) : Nm := ⟨-(tk n d).n, (tk n d).d⟩
def sub (n d m e : Int) : NmB := add n d (neg m e).n (neg m e).d
/-- n/d by m/e, over cross. -/
def prodQ (n d m e : Int) : NmB :=
  if (m ≠ 0 ∧ 1000000000000 / m.natAbs < n.natAbs) ∨ 1000000 < d * e then badB else if n * m = 0 then ⟨0, 1, true⟩ else ⟨n * m, d * e, true⟩
def prod (n d m e : Int) : NmB :=
  prodQ (n.tdiv (Nat.gcd n.natAbs e.natAbs : Nat)) (d / (Nat.gcd m.natAbs d.natAbs : Nat)) (m.tdiv (Nat.gcd m.natAbs d.natAbs : Nat)) (e / (Nat.gcd n.natAbs e.natAbs : Nat))
def mul (n d m e : Int) : NmB := prod (tk n d).n (tk n d).d (tk m e).n (tk m e).d
def div (n d m e : Int) : NmB := if (tk m e).n = 0 then badB else if (tk m e).n < 0 then prod (tk n d).n (tk n d).d (-(tk m e).d) (-(tk m e).n) else prod (tk n d).n (tk n d).d (tk m e).d (tk m e).n
def cmpI (x y : Int) : Int := if x < y then -1 else if y < x then 1 else 0
def cmpN (n d m e : Int) : Int := cmpI ((tk n d).n * (tk m e).d) ((tk m e).n * (tk n d).d)
def absN (n d : Int) : Nm := ⟨if (tk n d).n < 0 then -(tk n d).n else (tk n d).n, (tk n d).d⟩
def wholeN (n d : Int) : Int := if (tk n d).d = 1 then (tk n d).n else 0
def wholeB (n d : Int) : Bool := decide ((tk n d).d = 1)

theorem rightN_iff {n d : Int} : rightN n d = true ↔ (-1000000000000 ≤ n ∧ n ≤ 1000000000000 ∧ 1 ≤ d ∧ d ≤ 1000000 ∧ Nat.gcd n.natAbs d.natAbs = 1) := by
  unfold rightN
  simp only [Bool.and_eq_true, decide_eq_true_eq, beq_iff_eq]
  constructor
  · rintro ⟨⟨⟨⟨h1, h2⟩, h3⟩, h4⟩, h5⟩; exact ⟨h1, h2, h3, h4, h5⟩
  · rintro ⟨h1, h2, h3, h4, h5⟩; exact ⟨⟨⟨⟨h1, h2⟩, h3⟩, h4⟩, h5⟩
theorem rightN_out {n d : Int} (h : n < -1000000000000 ∨ 1000000000000 < n ∨ d < 1 ∨ 1000000 < d) : rightN n d = false := by
  cases h' : rightN n d
  · rfl
  · have := rightN_iff.1 h'; omega
theorem rightN_in {n d : Int} (h1 : -1000000000000 ≤ n) (h2 : n ≤ 1000000000000) (h3 : 1 ≤ d) (h4 : d ≤ 1000000) : rightN n d = (((Nat.gcd n.natAbs d.natAbs : Nat) : Int) == 1) := by
  rw [Bool.eq_iff_iff, rightN_iff, beq_iff_eq]
  constructor
  · intro h; rw [h.2.2.2.2]; rfl
  · intro h; exact ⟨h1, h2, h3, h4, by omega⟩
theorem tk_right (n d : Int) : rightN (tk n d).n (tk n d).d = true := by
  unfold tk
  by_cases h : rightN n d = true
  · rw [if_pos h]; exact h
  · rw [if_neg h]; decide
theorem tk_of {n d : Int} (h : rightN n d = true) : tk n d = ⟨n, d⟩ := by unfold tk; rw [if_pos h]
theorem tk_tk (n d : Int) : tk (tk n d).n (tk n d).d = tk n d := tk_of (tk_right n d)
theorem tk_bd (n d : Int) : -1000000000000 ≤ (tk n d).n ∧ (tk n d).n ≤ 1000000000000 ∧ 1 ≤ (tk n d).d ∧ (tk n d).d ≤ 1000000 := by
  have := rightN_iff.1 (tk_right n d)
  omega
theorem mul_bd {x y a b : Int} (h1 : -a ≤ x) (h2 : x ≤ a) (h3 : 0 ≤ y) (h4 : y ≤ b) : -(a * b) ≤ x * y ∧ x * y ≤ a * b := by
  have ha : 0 ≤ a := by omega
  have e2 : a * y ≤ a * b := Int.mul_le_mul_of_nonneg_left h4 ha
  constructor
  · have e1 : (-a) * y ≤ x * y := Int.mul_le_mul_of_nonneg_right h1 h3
    rw [Int.neg_mul] at e1
    omega
  · have e1 : x * y ≤ a * y := Int.mul_le_mul_of_nonneg_right h2 h3
    omega
theorem tk_mul (n d m e : Int) : -1000000000000000000 ≤ (tk n d).n * (tk m e).d ∧ (tk n d).n * (tk m e).d ≤ 1000000000000000000 := by
  obtain ⟨h1, h2, _, _⟩ := tk_bd n d
  obtain ⟨_, _, h3, h4⟩ := tk_bd m e
  have := mul_bd h1 h2 (by omega) h4
  omega
theorem tk_muld (n d m e : Int) : 1 ≤ (tk n d).d * (tk m e).d ∧ (tk n d).d * (tk m e).d ≤ 1000000000000 := by
  obtain ⟨_, _, h1, h2⟩ := tk_bd n d
  obtain ⟨_, _, h3, h4⟩ := tk_bd m e
  have := mul_bd (a := 1000000) (b := 1000000) (by omega) h2 (by omega) h4
  have := Int.mul_pos (show 0 < (tk n d).d by omega) (show 0 < (tk m e).d by omega)
  omega
theorem w64 {x : Int} (h0 : -9223372036854775808 ≤ x) (h1 : x ≤ 9223372036854775807) : IntKind.i64.wrap x = x := IntWalk.i64_in _ (by omega)
theorem tk_wrap (n d m e : Int) : IntKind.i64.wrap ((tk n d).n * (tk m e).d) = (tk n d).n * (tk m e).d := by
  have := tk_mul n d m e
  exact w64 (by omega) (by omega)
theorem tk_wrapd (n d m e : Int) : IntKind.i64.wrap ((tk n d).d * (tk m e).d) = (tk n d).d * (tk m e).d := by
  have := tk_muld n d m e
  exact w64 (by omega) (by omega)
theorem I64.tkn (n d : Int) : I64 (tk n d).n := by have := tk_bd n d; exact ⟨by omega, by omega⟩
theorem I64.tkd (n d : Int) : I64 (tk n d).d := by have := tk_bd n d; exact ⟨by omega, by omega⟩

/-! what Make answers -/
theorem signed_bd (b : Bool) (x y : Nat) : -1000000000000 ≤ (signed b x y).n ∧ (signed b x y).n ≤ 1000000000000 ∧ 0 ≤ (signed b x y).d ∧ (signed b x y).d ≤ 1000000 := by
  unfold signed
  split
  · simp [badB]
  · cases b <;> simp only [Bool.false_eq_true, if_true, if_false] <;> omega
theorem mk_bd (n d : Int) : -1000000000000 ≤ (mk n d).n ∧ (mk n d).n ≤ 1000000000000 ∧ 0 ≤ (mk n d).d ∧ (mk n d).d ≤ 1000000 := by
  unfold mk
  split
  · simp [badB]
  · exact signed_bd _ _ _
theorem I64.of {x : Int} (h0 : -1000000000000 ≤ x) (h1 : x ≤ 1000000000000) : I64 x := ⟨by omega, by omega⟩

/-! quotients rounded down -/
theorem tdiv_floor {n d : Int} (hd : 0 < d) (hn : n < 0) : (n.tmod d ≠ 0 → n / d = n.tdiv d - 1) ∧ (n.tmod d = 0 → n / d = n.tdiv d) := by
  have e1 := Int.tdiv_eq_ediv (a := n) (b := d)
  have hs : Int.sign d = 1 := Int.sign_eq_one_of_pos hd
  constructor
  · intro h
    have hnd : ¬ d ∣ n := fun h' => h (Int.tmod_eq_zero_of_dvd h')
    rw [e1, if_neg (by simp [hnd]; omega), hs]; omega
  · intro h
    have hnd : d ∣ n := Int.dvd_of_tmod_eq_zero h
    rw [e1, if_pos (Or.inr hnd)]; omega
theorem ediv_bd {n d a : Int} (hd : 0 < d) (h0 : -a ≤ n) (h1 : n ≤ a) (ha : 0 ≤ a) : -a ≤ n / d ∧ n / d ≤ a := by
  constructor
  · refine Int.le_ediv_of_mul_le hd ?_
    have : (-a) * d ≤ (-a) * 1 := Int.mul_le_mul_of_nonpos_left (by omega) (by omega)
    omega
  · refine Int.ediv_le_of_le_mul hd ?_
    have : a * 1 ≤ a * d := Int.mul_le_mul_of_nonneg_left (by omega) ha
    omega
def floorN (n d : Int) : Nm := ⟨(tk n d).n / (tk n d).d, 1⟩
end Go.Proofs.YtangdbjoflnobaaGreatDoor
