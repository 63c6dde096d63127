/- Lists of numbers in the order of games, in plain words. -/
import Derived.Test.YtkbljlbfkgoalaaGreatDoorOrderLaw
namespace Go.Proofs.YtkbljlbfkgoalaaGreatDoor
set_option linter.unusedVariables false
set_option linter.unusedSimpArgs false
open Go.RowKit

theorem cmpL_eq : ∀ (a b : List Nat), cmpL a b = 0 → a = b
  | [], [] => fun _ => rfl
  | [], y :: b => fun h => by simp [cmpL] at h
  | x :: a, [] => fun h => by simp [cmpL] at h
  | x :: a, y :: b => fun h => by
    unfold cmpL at h
    by_cases e : x = y
    · subst e; rw [if_pos rfl] at h; rw [cmpL_eq a b h]
    · rw [if_neg e] at h; split at h <;> cases h
theorem cmpL_self (a : List Nat) : cmpL a a = 0 := by have := cmpL_swap a a; omega
theorem cmpL_trans : ∀ (a b c : List Nat), cmpL a b < 0 → cmpL b c < 0 → cmpL a c < 0
  | [], [], c => fun h _ => by simp [cmpL] at h
  | [], y :: b, [] => fun _ h => by simp [cmpL] at h
  | [], y :: b, z :: c => fun _ _ => by simp [cmpL]
  | x :: a, [], c => fun h _ => by simp [cmpL] at h
  | x :: a, y :: b, [] => fun _ h => by simp [cmpL] at h
  | x :: a, y :: b, z :: c => fun h1 h2 => by
    have ih := cmpL_trans a b c
    unfold cmpL at h1 h2 ⊢
    by_cases e1 : x = y
    · subst e1
      rw [if_pos rfl] at h1
      by_cases e2 : x = z
      · subst e2; rw [if_pos rfl] at h2 ⊢; exact ih h1 h2
      · rw [if_neg e2] at h2 ⊢; exact h2
    · rw [if_neg e1] at h1
      have hxy : x < y := by
        by_cases q : x < y
        · exact q
        · rw [if_neg q] at h1; omega
      by_cases e2 : y = z
      · subst e2; rw [if_neg e1, if_pos hxy]; omega
      · rw [if_neg e2] at h2
        have hyz : y < z := by
          by_cases q : y < z
          · exact q
          · rw [if_neg q] at h2; omega
        rw [if_neg (by omega), if_pos (by omega)]; omega
theorem aheadB_trans {x y z : PL} (h1 : aheadB x y = true) (h2 : aheadB y z = true) : aheadB x z = true := by
  unfold aheadB at h1 h2 ⊢
  by_cases e1 : cmpL x.1 y.1 = 0
  · rw [if_pos e1] at h1
    rw [cmpL_eq _ _ e1]
    by_cases e2 : cmpL y.1 z.1 = 0
    · rw [if_pos e2] at h2 ⊢
      simp only [decide_eq_true_eq] at h1 h2 ⊢
      exact cmpL_trans _ _ _ h1 h2
    · rw [if_neg e2] at h2 ⊢; exact h2
  · rw [if_neg e1] at h1
    simp only [decide_eq_true_eq] at h1
    by_cases e2 : cmpL y.1 z.1 = 0
    · rw [← cmpL_eq _ _ e2, if_neg e1]; simpa using h1
    · rw [if_neg e2] at h2
      simp only [decide_eq_true_eq] at h2
      have := cmpL_trans _ _ _ h1 h2
      rw [if_neg (by omega)]; simpa using this
theorem aheadB_tri {x y : PL} (h1 : aheadB x y = false) (h2 : aheadB y x = false) : x = y := by
  unfold aheadB at h1 h2
  have s1 := cmpL_swap x.1 y.1
  have s2 := cmpL_swap x.2 y.2
  by_cases e : cmpL x.1 y.1 = 0
  · rw [if_pos e] at h1
    rw [if_pos (by omega)] at h2
    simp only [decide_eq_false_iff_not] at h1 h2
    exact Prod.ext (cmpL_eq _ _ e) (cmpL_eq _ _ (by omega))
  · rw [if_neg e] at h1
    rw [if_neg (by omega)] at h2
    simp only [decide_eq_false_iff_not] at h1 h2
    omega

end Go.Proofs.YtkbljlbfkgoalaaGreatDoor
