/- The texts by which the program's pool finds its games: which bytes they are, and that no two are alike. -/
import Derived.Test.YtkbljlbfkgoalaaGreatDoorFormDefs
namespace Go.Proofs.YtkbljlbfkgoalaaGreatDoor
set_option linter.unusedVariables false
set_option linter.unusedSimpArgs false
open Go.RowKit

/-- The digit d of base 36 as a byte, and a number's digits. -/
def dg (d : Nat) : UInt8 := UInt8.ofNat (if d < 10 then 48 + d else 87 + d)
def undg (b : UInt8) : Nat := if b.toNat < 58 then b.toNat - 48 else b.toNat - 87
def d36 (n : Nat) : List UInt8 := if n < 36 then [dg n] else d36 (n / 36) ++ [dg (n % 36)]
  termination_by n
  decreasing_by omega

theorem dg_toNat (d : Nat) (h : d < 36) : (dg d).toNat = if d < 10 then 48 + d else 87 + d := by
  unfold dg
  rw [UInt8.toNat_ofNat']
  split <;> omega
theorem undg_dg (d : Nat) (h : d < 36) : undg (dg d) = d := by
  unfold undg
  rw [dg_toNat d h]
  by_cases h1 : d < 10
  · rw [if_pos h1, if_pos (by omega)]; omega
  · rw [if_neg h1, if_neg (by omega)]; omega
theorem d36_lt (n : Nat) : ∀ b ∈ d36 n, 48 ≤ b.toNat ∧ b.toNat < 123 ∧ b.toNat ≠ 44 ∧ b.toNat ≠ 124 := by
  have key : ∀ d, d < 36 → 48 ≤ (dg d).toNat ∧ (dg d).toNat < 123 ∧ (dg d).toNat ≠ 44 ∧ (dg d).toNat ≠ 124 := by
    intro d h
    rw [dg_toNat d h]
    split <;> omega
  induction n using Nat.strongRecOn with
  | _ n ih =>
    intro b hb
    unfold d36 at hb
    split at hb
    · simp at hb; subst hb; exact key _ (by assumption)
    · rw [List.mem_append, List.mem_singleton] at hb
      rcases hb with hb | rfl
      · exact ih (n / 36) (by omega) b hb
      · exact key _ (Nat.mod_lt _ (by decide))
theorem d36_ne (n : Nat) : d36 n ≠ [] := by
  unfold d36
  split <;> simp
def val36 (l : List UInt8) : Nat := l.foldl (fun v b => v * 36 + undg b) 0
theorem val36_d36 (n : Nat) : val36 (d36 n) = n := by
  induction n using Nat.strongRecOn with
  | _ n ih =>
    unfold d36
    split
    · rename_i h; simp [val36, undg_dg n h]
    · have := ih (n / 36) (by omega)
      unfold val36 at this ⊢
      rw [List.foldl_append, this]
      simp only [List.foldl_cons, List.foldl_nil]
      rw [undg_dg _ (Nat.mod_lt _ (by decide))]
      omega
theorem d36_inj {a b : Nat} (h : d36 a = d36 b) : a = b := by rw [← val36_d36 a, h, val36_d36]

/-- The bytes of a list of places, each with a comma behind it, and of a node. -/
def keyL (l : List Nat) : List UInt8 := l.flatMap fun i => d36 i ++ [44]
def keyS (x : PL) : List UInt8 := keyL x.1 ++ 124 :: keyL x.2
theorem keyL_snoc (l : List Nat) (i : Nat) : keyL (l ++ [i]) = keyL l ++ d36 i ++ [44] := by simp [keyL]

theorem split_at {α : Type} (c : α) : ∀ (a b x y : List α), c ∉ a → c ∉ b → a ++ c :: x = b ++ c :: y → a = b ∧ x = y
  | [], [], x, y, _, _, h => by simp at h; exact ⟨rfl, h⟩
  | [], q :: b, x, y, _, hb, h => by simp at h; exact absurd (by rw [h.1]; exact List.mem_cons_self) hb
  | p :: a, [], x, y, ha, _, h => by simp at h; exact absurd (by rw [← h.1]; exact List.mem_cons_self) ha
  | p :: a, q :: b, x, y, ha, hb, h => by
    simp only [List.cons_append, List.cons.injEq] at h
    obtain ⟨h1, h2⟩ := split_at c a b x y (fun q => ha (List.mem_cons_of_mem _ q)) (fun q => hb (List.mem_cons_of_mem _ q)) h.2
    exact ⟨by rw [h.1, h1], h2⟩
theorem d36_no (n : Nat) (c : UInt8) (h : c.toNat = 44 ∨ c.toNat = 124) : c ∉ d36 n := fun hc => by
  have := d36_lt n c hc
  omega
theorem keyL_nil {l : List Nat} (h : keyL l = []) : l = [] := by
  cases l with
  | nil => rfl
  | cons i t => simp [keyL] at h
theorem keyL_inj : ∀ (l m : List Nat), keyL l = keyL m → l = m
  | [], m, h => (keyL_nil (by rw [← h]; rfl)).symm
  | i :: t, [], h => by simp [keyL] at h
  | i :: t, j :: u, h => by
    have h' : d36 i ++ 44 :: keyL t = d36 j ++ 44 :: keyL u := by simpa [keyL] using h
    obtain ⟨h1, h2⟩ := split_at 44 _ _ _ _ (d36_no i 44 (.inl rfl)) (d36_no j 44 (.inl rfl)) h'
    rw [d36_inj h1, keyL_inj t u h2]
theorem keyS_inj : ∀ (x y : PL), keyS x = keyS y → x = y := by
  intro ⟨l, r⟩ ⟨l', r'⟩ h
  have no : ∀ m : List Nat, (124 : UInt8) ∉ keyL m := by
    intro m hm
    obtain ⟨i, _, hi⟩ := List.mem_flatMap.1 hm
    rw [List.mem_append, List.mem_singleton] at hi
    rcases hi with hi | hi
    · exact d36_no i 124 (.inr rfl) hi
    · cases hi
  obtain ⟨h1, h2⟩ := split_at 124 _ _ _ _ (no l) (no l') h
  rw [keyL_inj l l' h1, keyL_inj r r' h2]
end Go.Proofs.YtkbljlbfkgoalaaGreatDoor
