/- What the reference's (*l3Book).form computes, in plain Lean, and rows of nodes that a call owns. -/
import Derived.Test.YtkbljlbfkgoalaaGreatDoorRows2
namespace Go.Proofs.YtkbljlbfkgoalaaGreatDoor
set_option linter.unusedVariables false
set_option linter.unusedSimpArgs false
open Go.RowKit

abbrev PL := List Nat × List Nat
def posA (LL : List PL) (x : PL) : Nat := (LL.takeWhile fun y => aheadB y x).length
def keyF (A : List Nat) (y : PL) : PL := (sortN (atAll A y.1), sortN (atAll A y.2))
def insF (s : List PL × List Nat) (x : PL) (k : Nat) : List PL × List Nat :=
  (s.1.take (posA s.1 x) ++ x :: s.1.drop (posA s.1 x), s.2.take (posA s.1 x) ++ k :: s.2.drop (posA s.1 x))
def pickStep (NL : List PL) (BL : List Nat) (need : List Bool) (A : List Nat) (born : Nat) (s : List PL × List Nat) (k : Nat) : List PL × List Nat :=
  if need.getD k false = true ∧ BL.getD k 0 = born then insF s (keyF A (NL.getD k ([], []))) k else s
def pickB (NL : List PL) (BL : List Nat) (need : List Bool) (A : List Nat) (born n : Nat) : List PL × List Nat := (List.range n).foldl (pickStep NL BL need A born) ([], [])
def layF (s : List Nat × List PL) (p : PL × Nat) : List Nat × List PL := (s.1.set p.2 s.2.length, s.2 ++ [p.1])
def bornF (NL : List PL) (BL : List Nat) (need : List Bool) (root : Nat) (s : List Nat × List PL) (born : Nat) : List Nat × List PL :=
  (List.zip (pickB NL BL need s.1 born (root + 1)).1 (pickB NL BL need s.1 born (root + 1)).2).foldl layF s
def formUp (NL : List PL) (BL : List Nat) (need : List Bool) (root n : Nat) : List Nat × List PL := (List.range n).foldl (bornF NL BL need root) (List.replicate (root + 1) 0, [])
def formB (NL : List PL) (BL : List Nat) (root : Nat) : List PL := (formUp NL BL (reachB NL root) root (BL.getD root 0 + 1)).2

theorem pickB_succ (NL : List PL) (BL : List Nat) (need : List Bool) (A : List Nat) (born n : Nat) : pickB NL BL need A born (n + 1) = pickStep NL BL need A born (pickB NL BL need A born n) n := by simp [pickB, List.range_succ]
theorem formUp_succ (NL : List PL) (BL : List Nat) (need : List Bool) (root n : Nat) : formUp NL BL need root (n + 1) = bornF NL BL need root (formUp NL BL need root n) n := by simp [formUp, List.range_succ]

theorem reachStep_length (NL : List PL) (m : List Bool) (k : Nat) : (reachStep NL m k).length = m.length := by
  unfold reachStep
  split
  · rw [markL_length, markL_length]
  · rfl
theorem reachFrom_length (NL : List PL) (n : Nat) (m : List Bool) : (reachFrom NL n m).length = m.length := by
  induction n generalizing m with
  | zero => rfl
  | succ n ih => unfold reachFrom; rw [ih, reachStep_length]
theorem reachB_length (NL : List PL) (root : Nat) : (reachB NL root).length = root + 1 := by unfold reachB; rw [reachFrom_length]; simp

theorem posA_le (LL : List PL) (x : PL) : posA LL x ≤ LL.length := (List.takeWhile_sublist _).length_le
theorem posA_at (LL : List PL) (x : PL) (k : Nat) (hk : k ≤ LL.length) (hb : ∀ j y, j < k → LL[j]? = some y → aheadB y x = true) (he : ∀ y, LL[k]? = some y → aheadB y x = false) : posA LL x = k := by
  induction LL generalizing k with
  | nil => simp at hk; subst hk; rfl
  | cons a l ih =>
    cases k with
    | zero => have := he a rfl; simp [posA, List.takeWhile_cons, this]
    | succ k =>
      have h0 := hb 0 a (by omega) rfl
      have := ih k (by simpa using hk) (fun j y hj hy => hb (j + 1) y (by omega) (by simpa using hy)) (fun y hy => he y (by simpa using hy))
      simp only [posA, List.takeWhile_cons, h0, if_true, List.length_cons] at this ⊢
      omega
theorem insF_length (s : List PL × List Nat) (x : PL) (k : Nat) (h : s.1.length = s.2.length) : (insF s x k).1.length = s.1.length + 1 ∧ (insF s x k).2.length = s.2.length + 1 := by
  have := posA_le s.1 x
  simp only [insF, List.length_append, List.length_take, List.length_cons, List.length_drop]
  omega
theorem pickB_length (NL : List PL) (BL : List Nat) (need : List Bool) (A : List Nat) (born n : Nat) : (pickB NL BL need A born n).1.length = (pickB NL BL need A born n).2.length ∧ (pickB NL BL need A born n).1.length ≤ n := by
  induction n with
  | zero => simp [pickB]
  | succ n ih =>
    rw [pickB_succ]
    unfold pickStep
    split
    · have := insF_length _ (keyF A (NL.getD n ([], []))) n ih.1
      omega
    · omega
theorem insF_mem (s : List PL × List Nat) (x : PL) (k y : Nat) : y ∈ (insF s x k).2 ↔ y ∈ s.2 ∨ y = k := by
  simp only [insF, List.mem_append, List.mem_cons]
  constructor
  · rintro (h | h | h)
    · exact .inl (List.mem_of_mem_take h)
    · exact .inr h
    · exact .inl (List.mem_of_mem_drop h)
  · rintro (h | h)
    · rw [← List.take_append_drop (posA s.1 x) s.2, List.mem_append] at h
      rcases h with h | h
      · exact .inl h
      · exact .inr (.inr h)
    · exact .inr (.inl h)
theorem pickB_lt (NL : List PL) (BL : List Nat) (need : List Bool) (A : List Nat) (born n : Nat) : ∀ y ∈ (pickB NL BL need A born n).2, y < n := by
  induction n with
  | zero => simp [pickB]
  | succ n ih =>
    rw [pickB_succ]
    unfold pickStep
    intro y hy
    split at hy
    · rcases (insF_mem _ _ _ _).1 hy with h | h
      · have := ih y h; omega
      · omega
    · have := ih y hy; omega

theorem layF_foldl_length (l : List (PL × Nat)) (s : List Nat × List PL) : (l.foldl layF s).1.length = s.1.length ∧ (l.foldl layF s).2.length = s.2.length + l.length := by
  induction l generalizing s with
  | nil => simp
  | cons x l ih =>
    rw [List.foldl_cons]
    have := ih (layF s x)
    simp only [layF, List.length_set, List.length_append, List.length_cons, List.length_nil] at this ⊢
    omega
theorem formUp_length (NL : List PL) (BL : List Nat) (need : List Bool) (root n : Nat) : (formUp NL BL need root n).1.length = root + 1 ∧ (formUp NL BL need root n).2.length ≤ n * (root + 1) := by
  induction n with
  | zero => simp [formUp]
  | succ n ih =>
    rw [formUp_succ]
    unfold bornF
    have h := layF_foldl_length (List.zip (pickB NL BL need (formUp NL BL need root n).1 n (root + 1)).1 (pickB NL BL need (formUp NL BL need root n).1 n (root + 1)).2) (formUp NL BL need root n)
    have h2 := pickB_length NL BL need (formUp NL BL need root n).1 n (root + 1)
    rw [List.length_zip] at h
    rw [Nat.succ_mul]
    omega

/-- A row of nodes that a call owns; the nodes' own slices lie among T. -/
def NodeRow (T : Nat → Prop) (base : Nat) (w : World) (v : Value) (LL : List PL) : Prop :=
  ∃ NV : List (Value × Value), w.ownsRow base 91 2 v NV.length (flat2 NV) ∧ NV.length = LL.length ∧
    ∀ (j : Nat) (x : Value × Value) (y : PL), NV[j]? = some x → LL[j]? = some y → Nats w x.1 y.1 ∧ Nats w x.2 y.2 ∧ (y.1 ≠ [] → ∀ q, x.1.ownBlock = some q → T q) ∧ (y.2 ≠ [] → ∀ q, x.2.ownBlock = some q → T q)
section
variable {T : Nat → Prop} {base : Nat} {w w' : World} {v : Value} {LL : List PL}
theorem NodeRow.fr {M : Nat → Prop} (h : NodeRow T base w v LL) (hf : Fr M w w') (hv : ∀ b, v.ownBlock = some b → ¬ M b) (hT : ∀ b, T b → ¬ M b) : NodeRow T base w' v LL := by
  obtain ⟨NV, h1, h2, h3⟩ := h
  refine ⟨NV, owns_fr h1 hf hv, h2, fun j x y hx hy => ?_⟩
  obtain ⟨s1, s2, t1, t2⟩ := h3 j x y hx hy
  exact ⟨s1.fr hf (fun hne q hq => hT q (t1 hne q hq)), s2.fr hf (fun hne q hq => hT q (t2 hne q hq)), t1, t2⟩
theorem NodeRow.fr0 (h : NodeRow T base w v LL) (hf : Fr NoM w w') : NodeRow T base w' v LL := h.fr hf (fun _ _ q => q) (fun _ _ q => q)
theorem NodeRow.mono {T' : Nat → Prop} (h : NodeRow T base w v LL) (ht : ∀ b, T b → b < w.heap.size → T' b) : NodeRow T' base w v LL := by
  obtain ⟨NV, h1, h2, h3⟩ := h
  refine ⟨NV, h1, h2, fun j x y hx hy => ?_⟩
  obtain ⟨s1, s2, t1, t2⟩ := h3 j x y hx hy
  refine ⟨s1, s2, fun hne q hq => ht q (t1 hne q hq) ?_, fun hne q hq => ht q (t2 hne q hq) ?_⟩
  · obtain ⟨b, hb, hl⟩ := s1.block hne; rw [hq] at hb; cases hb; exact hl
  · obtain ⟨b, hb, hl⟩ := s2.block hne; rw [hq] at hb; cases hb; exact hl
theorem NodeRow.nodeL {R : Nat → Prop} (h : NodeRow T base w v LL) (hR : ∀ b, base ≤ b → R b) (hT : ∀ b, T b → R b) : NodeL R encN w v LL := by
  obtain ⟨NV, h1, h2, h3⟩ := h
  have hb := fun b hb => (h1.lt b hb).1
  obtain ⟨a, c, rfl, h4, h5, h6⟩ := Pairs.of_owns h1
  rw [h2] at h4 hb ⊢
  refine ⟨a, c, rfl, h4, h5, fun j y hy => ?_⟩
  have hj := (List.getElem?_eq_some_iff.1 hy).1
  obtain ⟨x, hx⟩ : ∃ x, NV[j]? = some x := ⟨NV[j]'(by rw [h2]; exact hj), List.getElem?_eq_getElem _⟩
  obtain ⟨b, off, rfl, c1, c2⟩ := h6 j x hx
  obtain ⟨s1, s2, t1, t2⟩ := h3 j x y hx hy
  exact ⟨b, off, x.1, x.2, rfl, hR b (hb b rfl), c1, c2, s1, s2, fun hne q hq => hT q (t1 hne q hq), fun hne q hq => hT q (t2 hne q hq)⟩
end
end Go.Proofs.YtkbljlbfkgoalaaGreatDoor
