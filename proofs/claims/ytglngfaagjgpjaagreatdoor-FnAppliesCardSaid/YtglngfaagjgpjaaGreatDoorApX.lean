/- funcs.Apply at every number, with any arguments: what it answers. -/
import Derived.Test.YtglngfaagjgpjaaGreatDoorApW
namespace Go.Proofs.YtglngfaagjgpjaaGreatDoor
open Go Go.RowKit
set_option linter.unusedSimpArgs false
set_option linter.unusedVariables false

theorem funcs_Apply (id : Int) (vs : List Vl) (la : Option Addr) (n lc : Nat) (w : World) (hn : vs.length = n) (hin : ∀ v ∈ vs, v.In) (hc : ValAt w la vs) (hL : Laid w) :
    Calls Tryz.prog 8 #[.int .i64 id, .slice la n lc] w fun e w' => e = .returned (.agg #[.int .i64 (applyP id vs).k, .int .i64 (applyP id vs).n, .int .i64 (applyP id vs).d, .string (applyP id vs).t, .bool (applyP id vs).b, .int .i64 (applyP id vs).f]) ∧ Below w.heap.size w w' := by
  unfold applyP
  cases hr : refused id vs.length
  · rw [if_neg (by simp)]
    obtain ⟨S, hS, hm, rfl, hcl, h1, h2⟩ := accepted hr
    rw [hn] at h1 h2
    obtain ⟨h40, h62, hone, hfit⟩ := accepted_fit (id := 0) hm hcl h1 h2
    by_cases h : S.id = 62
    · rw [if_pos h]
      rw [h] at hS
      rw [byId62] at hS
      cases hS
      have hn0 : n = 0 := by simp at h2; omega
      subst hn0
      exact apply_NA la lc w
    · rw [if_neg h, hS]
      exact apply_main S.id S vs la n lc w hS hcl h1 h2 h h62 hn (fits_of (hfit h)) hin hc hL
  · rw [if_pos rfl]
    unfold refused at hr
    rw [hn] at hr
    split at hr
    · rename_i hS; exact apply_none id la n lc w hS
    · rename_i S hS
      refine apply_refuse id S la n lc w hS ?_
      simp only [Bool.or_eq_true, Bool.not_eq_true', beq_eq_false_iff_ne, decide_eq_true_eq] at hr
      by_cases a : S.cl = 4
      · by_cases b : (n : Int) < S.least
        · exact .inr (.inl ⟨a, b⟩)
        · refine .inr (.inr ⟨a, b, ?_⟩)
          rcases hr with (h | h) | h
          · exact absurd a h
          · exact absurd h b
          · exact h
      · exact .inl a
end Go.Proofs.YtglngfaagjgpjaaGreatDoor
