/- The texts of stalks: which are good, in plain words. -/
import Derived.Test.YtkbljlbfkgoalaaGreatDoorGoodLaw
import Derived.Lib.SlTrimSet
namespace Go.Proofs.YtkbljlbfkgoalaaGreatDoor
set_option linter.unusedVariables false
set_option linter.unusedSimpArgs false
open Go.RowKit

/-- The marks of a text: true for L. -/
def bitsS (s : ByteArray) : List Bool := s.data.toList.map fun b => decide (b = 76)
def marksOK (s : ByteArray) : Prop := ∀ b ∈ s.data.toList, b = 76 ∨ b = 82
theorem bitsS_length (s : ByteArray) : (bitsS s).length = s.size := by simp [bitsS]
theorem dropW_nil {α : Type} (p : α → Bool) (l : List α) : l.dropWhile p = [] ↔ ∀ x ∈ l, p x = true := by
  induction l with
  | nil => simp
  | cons a l ih =>
    rw [List.dropWhile_cons]
    split
    · rename_i h
      rw [ih]
      constructor
      · intro h2 x hx
        rcases List.mem_cons.1 hx with rfl | hx
        · exact h
        · exact h2 x hx
      · exact fun h2 x hx => h2 x (List.mem_cons_of_mem _ hx)
    · rename_i h
      constructor
      · intro h2; cases h2
      · intro h2; exact absurd (h2 a List.mem_cons_self) h
theorem trim_nil (l : List UInt8) : Lib.trimS l [76, 82] = [] ↔ ∀ b ∈ l, b = 76 ∨ b = 82 := by
  have hp : ∀ b : UInt8, ([76, 82] : List UInt8).contains b = true ↔ b = 76 ∨ b = 82 := fun b => by simp
  unfold Lib.trimS Lib.trimLeftS Lib.trimRightS
  constructor
  · intro h b hb
    rw [dropW_nil] at h
    have hm : l.reverse.dropWhile (fun b => ([76, 82] : List UInt8).contains b) = [] := by
      cases hd : l.reverse.dropWhile (fun b => ([76, 82] : List UInt8).contains b) with
      | nil => rfl
      | cons y m =>
        exfalso
        have h1 := h y (by rw [hd]; simp)
        have h2 := List.head_dropWhile_not (fun b => ([76, 82] : List UInt8).contains b) (l := l.reverse) (by rw [hd]; simp)
        simp only [hd, List.head_cons] at h2
        rw [h1] at h2; cases h2
    rw [dropW_nil] at hm
    exact (hp b).1 (hm b (by simpa using hb))
  · intro h
    have hm : l.reverse.dropWhile (fun b => ([76, 82] : List UInt8).contains b) = [] := by
      rw [dropW_nil]
      intro b hb
      exact (hp b).2 (h b (by simpa using hb))
    rw [hm]; rfl
theorem bitsS_getD (s : ByteArray) (i : Nat) (b : UInt8) (h : s.data.toList[i]? = some b) : (bitsS s).getD i false = decide (b = 76) := by
  unfold bitsS
  rw [List.getD_eq_getElem?_getD, List.getElem?_map, h]; rfl
/-- What loops over the marks collect. -/
def goL (s : List Bool) (i : Nat) : List Nat := (List.range i).filter fun j => s.getD j false
def goR (s : List Bool) (i : Nat) : List Nat := (List.range i).filter fun j => !s.getD j false
theorem goL_succ (s : List Bool) (i : Nat) : goL s (i + 1) = if s.getD i false = true then goL s i ++ [i] else goL s i := by
  unfold goL
  rw [List.range_succ, List.filter_append]
  split <;> simp_all
theorem goR_succ (s : List Bool) (i : Nat) : goR s (i + 1) = if s.getD i false = true then goR s i else goR s i ++ [i] := by
  unfold goR
  rw [List.range_succ, List.filter_append]
  split <;> simp_all
theorem goL_le (s : List Bool) (i : Nat) : (goL s i).length ≤ i := by
  have := (List.filter_sublist (p := fun j => s.getD j false) (l := List.range i)).length_le
  simpa [goL] using this
theorem goR_le (s : List Bool) (i : Nat) : (goR s i).length ≤ i := by
  have := (List.filter_sublist (p := fun j => !s.getD j false) (l := List.range i)).length_le
  simpa [goR] using this
end Go.Proofs.YtkbljlbfkgoalaaGreatDoor
