/- What BypassForm gives, the program's and the reference's, in plain words. -/
import Derived.Test.YtioiljboihehcaaGreatDoorDropLaw
namespace Go.Proofs.YtioiljboihehcaaGreatDoor
set_option linter.unusedVariables false
set_option linter.unusedSimpArgs false
open Go.RowKit

/-- The first option that is bypassed, and the option through which. -/
def byp1 (g : Nat → Nat → Bool) (opt : Nat → List Nat) (r : Nat) (L : List Nat) : Option (Nat × Nat) := (List.range L.length).findSome? fun i => ((opt (L.getD i 0)).find? (g r)).map fun z => (i, z)
theorem byp1_hit {g : Nat → Nat → Bool} {opt : Nat → List Nat} {r : Nat} {L : List Nat} {k z : Nat} (hk : k < L.length) (h0 : ∀ i, i < k → (opt (L.getD i 0)).find? (g r) = none) (h : (opt (L.getD k 0)).find? (g r) = some z) : byp1 g opt r L = some (k, z) := by
  obtain ⟨m, hm⟩ : ∃ m, L.length = k + 1 + m := ⟨L.length - (k + 1), by omega⟩
  unfold byp1
  rw [hm, List.range_add, List.range_succ, List.append_assoc, List.findSome?_append]
  have h1 : (List.range k).findSome? (fun i => ((opt (L.getD i 0)).find? (g r)).map fun z => (i, z)) = none := by
    rw [List.findSome?_eq_none_iff]
    intro i hi
    rw [h0 i (List.mem_range.1 hi)]; rfl
  rw [h1, Option.none_or, List.singleton_append, List.findSome?_cons, h]
  rfl
theorem byp1_miss {g : Nat → Nat → Bool} {opt : Nat → List Nat} {r : Nat} {L : List Nat} (h0 : ∀ i, i < L.length → (opt (L.getD i 0)).find? (g r) = none) : byp1 g opt r L = none := by
  unfold byp1
  rw [List.findSome?_eq_none_iff]
  intro i hi
  rw [h0 i (List.mem_range.1 hi)]; rfl
theorem byp1_some {g : Nat → Nat → Bool} {opt : Nat → List Nat} {r : Nat} {L : List Nat} {k z : Nat} (h : byp1 g opt r L = some (k, z)) : k < L.length ∧ z ∈ opt (L.getD k 0) := by
  unfold byp1 at h
  obtain ⟨i, hi, h⟩ := List.exists_of_findSome?_eq_some h
  cases hf : (opt (L.getD i 0)).find? (g r) with
  | none => rw [hf] at h; cases h
  | some y =>
    rw [hf] at h
    cases h
    exact ⟨List.mem_range.1 hi, List.mem_of_find?_eq_some hf⟩

/-- The options with one of them bypassed, if one is. -/
def bypP (V : List PL) (C : List Nat) (r : Nat) (x : PL) : Option PL :=
  match byp1 (gR C) (fun y => (nodeV V y).2) r x.1 with
  | some (i, z) => some (withoutL x.1 [i] ++ (nodeV V z).1, x.2)
  | none => (byp1 (gL C) (fun y => (nodeV V y).1) r x.2).map fun p => (x.1, withoutL x.2 [p.1] ++ (nodeV V p.2).2)
theorem bypP_left {V : List PL} {C : List Nat} {r i z : Nat} {x : PL} (h : byp1 (gR C) (fun y => (nodeV V y).2) r x.1 = some (i, z)) : bypP V C r x = some (withoutL x.1 [i] ++ (nodeV V z).1, x.2) := by
  unfold bypP; rw [h]
theorem bypP_right {V : List PL} {C : List Nat} {r i z : Nat} {x : PL} (h0 : byp1 (gR C) (fun y => (nodeV V y).2) r x.1 = none) (h : byp1 (gL C) (fun y => (nodeV V y).1) r x.2 = some (i, z)) : bypP V C r x = some (x.1, withoutL x.2 [i] ++ (nodeV V z).2) := by
  unfold bypP; rw [h0, h]; rfl
theorem bypP_none {V : List PL} {C : List Nat} {r : Nat} {x : PL} (h0 : byp1 (gR C) (fun y => (nodeV V y).2) r x.1 = none) (h : byp1 (gL C) (fun y => (nodeV V y).1) r x.2 = none) : bypP V C r x = none := by
  unfold bypP; rw [h0, h]; rfl
def bypQ (Fs : List PL) : Option PL := bypP Fs (codesOf Fs) (Fs.length - 1) (nodeV Fs (Fs.length - 1))
/-- What BypassForm gives for a good form, where it fits. -/
def bypF (Fs : List PL) : List PL :=
  match bypQ Fs with
  | none => []
  | some x => formB (poolPut Fs (bornsF Fs) x.1 x.2).1 (poolPut Fs (bornsF Fs) x.1 x.2).2.1 (poolPut Fs (bornsF Fs) x.1 x.2).2.2

theorem bypQ_lt {Fs : List PL} (h : goodI (i2 Fs)) {x : PL} (hx : bypQ Fs = some x) : (∀ a ∈ x.1, a < Fs.length) ∧ (∀ a ∈ x.2, a < Fs.length) ∧ x.1.length ≤ 48 ∧ x.2.length ≤ 48 := by
  obtain ⟨hp, hle, hl, hP, _⟩ := goodI_parts h
  have hlt : Fs.length - 1 < Fs.length := by omega
  obtain ⟨o1, o2⟩ := hP.opts _ _ (node_at hlt)
  obtain ⟨l1, l2⟩ := hl _ (nodeV_mem hlt)
  have opt : ∀ {L : List Nat} {k : Nat}, (∀ a ∈ L, a < Fs.length - 1) → k < L.length → L.getD k 0 < Fs.length - 1 := fun {L k} hL hk => by
    rw [List.getD_eq_getElem?_getD, List.getElem?_eq_getElem hk]
    exact hL _ (List.getElem_mem hk)
  have sub : ∀ {y z : Nat}, y < Fs.length - 1 → (z ∈ (nodeV Fs y).1 ∨ z ∈ (nodeV Fs y).2) → z < Fs.length ∧ (∀ a ∈ (nodeV Fs z).1, a < Fs.length) ∧ (∀ a ∈ (nodeV Fs z).2, a < Fs.length) ∧ (nodeV Fs z).1.length ≤ 24 ∧ (nodeV Fs z).2.length ≤ 24 := fun {y z} hy hz => by
    obtain ⟨p1, p2⟩ := hP.opts _ _ (node_at (show y < Fs.length by omega))
    have hzy : z < y := by
      rcases hz with hz | hz
      · exact p1 z hz
      · exact p2 z hz
    obtain ⟨r1, r2⟩ := hP.opts _ _ (node_at (show z < Fs.length by omega))
    obtain ⟨m1, m2⟩ := hl _ (nodeV_mem (show z < Fs.length by omega))
    exact ⟨by omega, fun a ha => by have := r1 a ha; omega, fun a ha => by have := r2 a ha; omega, m1, m2⟩
  unfold bypQ bypP at hx
  split at hx
  · rename_i i z hb
    cases hx
    obtain ⟨hi, hz⟩ := byp1_some hb
    obtain ⟨_, s1, _, s3, _⟩ := sub (opt o1 hi) (.inr hz)
    refine ⟨fun a ha => ?_, fun a ha => by have := o2 a ha; omega, ?_, Nat.le_trans l2 (by omega)⟩
    · rcases List.mem_append.1 ha with ha | ha
      · have := o1 a (withoutL_mem ha); omega
      · exact s1 a ha
    · rw [List.length_append]
      have := withoutL_len (nodeV Fs (Fs.length - 1)).1 [i]
      omega
  · cases hb : byp1 (gL (codesOf Fs)) (fun y => (nodeV Fs y).1) (Fs.length - 1) (nodeV Fs (Fs.length - 1)).2 with
    | none => rw [hb] at hx; cases hx
    | some p =>
      rw [hb] at hx
      cases hx
      obtain ⟨hi, hz⟩ := byp1_some (k := p.1) (z := p.2) hb
      obtain ⟨_, _, s2, _, s4⟩ := sub (opt o2 hi) (.inl hz)
      refine ⟨fun a ha => by have := o1 a ha; omega, fun a ha => ?_, Nat.le_trans l1 (by omega), ?_⟩
      · rcases List.mem_append.1 ha with ha | ha
        · have := o2 a (withoutL_mem ha); omega
        · exact s2 a ha
      · rw [List.length_append]
        have := withoutL_len (nodeV Fs (Fs.length - 1)).2 [p.1]
        omega
theorem fits_nil : fitsB ([] : List PL) = false := by decide
/-- An answer of through: the option, or -1. -/
def thrI : Option Nat → Int
  | some z => (z : Int)
  | none => -1
end Go.Proofs.YtioiljboihehcaaGreatDoor
