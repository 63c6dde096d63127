/- Entries as rows of three cells. -/
import Derived.Test.YtkbljlbfkgoalaaGreatDoorFormDefs
namespace Go.Proofs.YtkbljlbfkgoalaaGreatDoor
set_option linter.unusedVariables false
set_option linter.unusedSimpArgs false
open Go.RowKit

def enc3 (lv rv : Nat → Value) (i : Nat) : List Value := [encN i, lv i, rv i]
def flat3 (lv rv : Nat → Value) (G : List Nat) : List Value := G.flatMap (enc3 lv rv)
theorem flat3_length (lv rv : Nat → Value) (G : List Nat) : (flat3 lv rv G).length = G.length * 3 := by
  induction G with
  | nil => rfl
  | cons y l ih => simp only [flat3, List.flatMap_cons, List.length_append, enc3, List.length_cons, List.length_nil] at ih ⊢; omega
theorem flat3_get (lv rv : Nat → Value) (G : List Nat) (j x : Nat) (h : G[j]? = some x) : (flat3 lv rv G)[j * 3]? = some (encN x) ∧ (flat3 lv rv G)[j * 3 + 1]? = some (lv x) ∧ (flat3 lv rv G)[j * 3 + 2]? = some (rv x) := by
  induction G generalizing j with
  | nil => cases h
  | cons y l ih =>
    cases j with
    | zero => simp at h; subst h; exact ⟨rfl, rfl, rfl⟩
    | succ j =>
      have := ih j (by simpa using h)
      simp only [flat3, List.flatMap_cons] at this ⊢
      rw [show (j + 1) * 3 = j * 3 + 1 + 1 + 1 from by omega]
      exact this
end Go.Proofs.YtkbljlbfkgoalaaGreatDoor
