/- What l3Make's roots keep of a book, in plain words. -/
import Derived.Test.YtkbljlbfkgoalaaGreatDoorStalkLaw
import Derived.Test.YtkbljlbfkgoalaaGreatDoorOrderLaw
import Derived.Test.YtkbljlbfkgoalaaGreatDoorBookRoot
namespace Go.Proofs.YtkbljlbfkgoalaaGreatDoor
set_option linter.unusedVariables false
set_option linter.unusedSimpArgs false
open Go.RowKit

theorem up_len {L : List Nat} {n : Nat} (hu : L.Pairwise (· < ·)) (h : ∀ x ∈ L, x < n) : L.length ≤ n := by
  have hd : L.Nodup := hu.imp fun hlt e => by omega
  have := hd.length_le_of_subset (l₂ := List.range n) (fun x hx => List.mem_range.2 (h x hx))
  simpa using this
/-- The lists of a book rise. -/
def BookUp (NL : List PL) : Prop := ∀ (j : Nat) (y : PL), NL[j]? = some y → y.1.Pairwise (· < ·) ∧ y.2.Pairwise (· < ·)
theorem BookUp.nil : BookUp [] := by intro j y h; simp at h
theorem BookUp.lens {NL : List PL} {BL : List Nat} (h : BookUp NL) (hOK : BookOK NL BL) : ∀ y ∈ NL, y.1.length ≤ NL.length ∧ y.2.length ≤ NL.length := by
  intro y hy
  obtain ⟨j, hj, rfl⟩ := List.getElem_of_mem hy
  have e := List.getElem?_eq_getElem hj
  obtain ⟨o1, o2⟩ := hOK.opts j _ e
  obtain ⟨u1, u2⟩ := h j _ e
  have := up_len u1 o1
  have := up_len u2 o2
  omega
theorem putB_up {NL : List PL} {BL : List Nat} (h : BookUp NL) (L R : List Nat) : BookUp (putB NL BL L R).1 := by
  unfold putB
  simp only
  split
  · exact h
  · intro j y hy
    by_cases hj : j < NL.length
    · rw [List.getElem?_append_left hj] at hy; exact h j y hy
    · rw [List.getElem?_append_right (by omega)] at hy
      cases hd : j - NL.length with
      | zero => rw [hd] at hy; simp at hy; subst hy; exact ⟨sortN_up L, sortN_up R⟩
      | succ d => rw [hd] at hy; simp at hy
theorem addB_up {NL : List PL} {BL : List Nat} (h : BookUp NL) (FL : List PL) : BookUp (addB NL BL FL).1 := by
  suffices hs : ∀ n, n ≤ FL.length → BookUp (addB NL BL (FL.take n)).1 by
    have := hs FL.length (Nat.le_refl _)
    rwa [List.take_length] at this
  intro n
  induction n with
  | zero => intro _; exact h
  | succ n ih =>
    intro hn
    rw [List.take_succ_eq_append_getElem (by omega), addB_snoc]
    exact putB_up (ih (by omega)) _ _
theorem BookOK.nil : BookOK [] [] := ⟨rfl, by simp, by simp⟩

/-- A form that root takes. -/
structure GoodF (Fm : List PL) : Prop where
  pos : 0 < Fm.length
  le : Fm.length ≤ 120
  opts : ∀ (j : Nat) (y : PL), Fm[j]? = some y → (∀ x ∈ y.1, x < j) ∧ ∀ x ∈ y.2, x < j
  lens : ∀ y ∈ Fm, y.1.length < 1000 ∧ y.2.length < 1000
/-- What holds of roots' book and places. -/
structure RootsOK (n : Nat) (s : List PL × List Nat × List Nat) : Prop where
  ok : BookOK s.1 s.2.1
  up : BookUp s.1
  len : s.1.length ≤ n
  lt : ∀ x ∈ s.2.2, x < s.1.length
theorem RootsOK.step {n : Nat} {s : List PL × List Nat × List Nat} (h : RootsOK n s) {Fm : List PL} (hF : GoodF Fm) : RootsOK (n + 120) (rootsStep s Fm) := by
  obtain ⟨k1, k2, k3, k4, k5⟩ := addB_ok h.ok Fm hF.opts
  have hp := hF.pos
  have hl := hF.le
  refine ⟨k1, addB_up h.up Fm, ?_, fun x hx => ?_⟩
  · have := h.len
    show (addB s.1 s.2.1 Fm).1.length ≤ n + 120
    omega
  · rcases List.mem_append.1 hx with hx | hx
    · exact Nat.lt_of_lt_of_le (h.lt x hx) k5.length_le
    · rw [List.mem_singleton] at hx
      subst hx
      unfold rootB
      rw [List.getD_eq_getElem?_getD, List.getElem?_eq_getElem (by omega)]
      exact k3 _ (List.getElem_mem _)
theorem rootsFrom_ok {FL : List (List PL)} : ∀ {n : Nat} {s : List PL × List Nat × List Nat}, RootsOK n s → (∀ Fm ∈ FL, GoodF Fm) → RootsOK (n + 120 * FL.length) (FL.foldl rootsStep s) := by
  induction FL with
  | nil => intro n s h _; simpa using h
  | cons f l ih =>
    intro n s h hF
    have := ih (h.step (hF f List.mem_cons_self)) (fun g hg => hF g (List.mem_cons_of_mem _ hg))
    rw [List.foldl_cons, List.length_cons]
    rwa [show n + 120 + 120 * l.length = n + 120 * (l.length + 1) from by omega] at this
theorem rootsB_len (FL : List (List PL)) : ∀ (s : List PL × List Nat × List Nat), (FL.foldl rootsStep s).2.2.length = s.2.2.length + FL.length := by
  induction FL with
  | nil => intro s; simp
  | cons f l ih => intro s; rw [List.foldl_cons, ih]; simp [rootsStep]; omega
end Go.Proofs.YtkbljlbfkgoalaaGreatDoor
