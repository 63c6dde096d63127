/- What l3Good says of a form. -/
import Derived.Test.YtkbljlbfkgoalaaGreatDoorStalkLaw
namespace Go.Proofs.YtkbljlbfkgoalaaGreatDoor
set_option linter.unusedVariables false
set_option linter.unusedSimpArgs false
open Go.RowKit

/-- A form's nodes as ints. -/
def i2 (Fs : List PL) : List (List Int × List Int) := Fs.map fun y => (ints y.1, ints y.2)
theorem i2_length (Fs : List PL) : (i2 Fs).length = Fs.length := by simp [i2]
theorem i2_get {Fs : List PL} {k : Nat} {y : List Int × List Int} (h : (i2 Fs)[k]? = some y) : ∃ x, Fs[k]? = some x ∧ y = (ints x.1, ints x.2) := by
  unfold i2 at h
  rw [List.getElem?_map] at h
  cases hq : Fs[k]? with
  | none => rw [hq] at h; cases h
  | some x => rw [hq] at h; cases h; exact ⟨x, rfl, rfl⟩
theorem i2_inj {Fs G : List PL} (h : i2 Fs = i2 G) : Fs = G := by
  have hl : Fs.length = G.length := by have := congrArg List.length h; simpa [i2] using this
  refine List.ext_getElem hl fun k h1 h2 => ?_
  have e : (i2 Fs)[k]? = (i2 G)[k]? := by rw [h]
  unfold i2 at e
  rw [List.getElem?_map, List.getElem?_map, List.getElem?_eq_getElem h1, List.getElem?_eq_getElem h2] at e
  have e := Option.some.inj e
  have e1 := ints_inj (congrArg Prod.fst e)
  have e2 := ints_inj (congrArg Prod.snd e)
  exact Prod.ext e1 e2
theorem ris_up (hi : Nat) (L : List Nat) : ∀ (p : Option Int), L.Pairwise (· < ·) → (∀ x ∈ L, x < hi) → (∀ y, p = some y → ∀ x ∈ L, y < (x : Int)) → risFrom 0 ((hi : Int) - 1) p (ints L) = true := by
  induction L with
  | nil => intro p _ _ _; cases p <;> rfl
  | cons x l ih =>
    intro p hL hb hp
    have hx := hb x List.mem_cons_self
    have h1 : betw (Int.ofNat x) 0 ((hi : Int) - 1) = true := by unfold betw; simp; omega
    have h2 := ih (some (Int.ofNat x)) (List.pairwise_cons.1 hL).2 (fun y hy => hb y (List.mem_cons_of_mem _ hy)) (fun y e z hz => by
      cases e
      have := (List.pairwise_cons.1 hL).1 z hz
      show ((x : Nat) : Int) < (z : Int)
      omega)
    cases p with
    | none =>
      show (betw (Int.ofNat x) 0 ((hi : Int) - 1) && risFrom 0 ((hi : Int) - 1) (some (Int.ofNat x)) (ints l)) = true
      rw [h1, h2]; rfl
    | some y =>
      have h3 := hp y rfl x List.mem_cons_self
      show (betw (Int.ofNat x) 0 ((hi : Int) - 1) && (decide (y < Int.ofNat x) && risFrom 0 ((hi : Int) - 1) (some (Int.ofNat x)) (ints l))) = true
      rw [h1, h2, decide_eq_true (show y < Int.ofNat x from h3)]; rfl
theorem ris_down (hi : Nat) (L : List Int) : ∀ (p : Option Int), risFrom 0 ((hi : Int) - 1) p L = true → ∃ L' : List Nat, L = ints L' ∧ L'.Pairwise (· < ·) ∧ (∀ x ∈ L', x < hi) ∧ ∀ y, p = some y → ∀ x ∈ L', y < (x : Int) := by
  induction L with
  | nil => intro p _; exact ⟨[], rfl, List.Pairwise.nil, by simp, by simp⟩
  | cons x l ih =>
    intro p h
    have h0 : betw x 0 ((hi : Int) - 1) = true ∧ (∀ y, p = some y → y < x) ∧ risFrom 0 ((hi : Int) - 1) (some x) l = true := by
      cases p with
      | none =>
        have h : (betw x 0 ((hi : Int) - 1) && risFrom 0 ((hi : Int) - 1) (some x) l) = true := h
        rw [Bool.and_eq_true] at h
        exact ⟨h.1, by simp, h.2⟩
      | some y =>
        have h : (betw x 0 ((hi : Int) - 1) && (decide (y < x) && risFrom 0 ((hi : Int) - 1) (some x) l)) = true := h
        rw [Bool.and_eq_true, Bool.and_eq_true] at h
        exact ⟨h.1, fun z e => by cases e; exact of_decide_eq_true h.2.1, h.2.2⟩
    obtain ⟨h1, h2, h3⟩ := h0
    obtain ⟨L', e, u, b, q⟩ := ih (some x) h3
    have h1 : 0 ≤ x ∧ x ≤ (hi : Int) - 1 := of_decide_eq_true h1
    refine ⟨x.toNat :: L', ?_, List.pairwise_cons.2 ⟨fun z hz => ?_, u⟩, fun z hz => ?_, fun y hy z hz => ?_⟩
    · rw [e]
      show x :: ints L' = Int.ofNat x.toNat :: ints L'
      rw [show Int.ofNat x.toNat = x from Int.toNat_of_nonneg h1.1]
    · have := q x rfl z hz; omega
    · rcases List.mem_cons.1 hz with rfl | hz
      · omega
      · exact b z hz
    · have h4 := h2 y hy
      rcases List.mem_cons.1 hz with rfl | hz
      · omega
      · have := q x rfl z hz; omega
/-- l3Good, in plain words. -/
def risI (Fs : List (List Int × List Int)) (k : Nat) : Prop := ∀ (j : Nat) (y : List Int × List Int), j < k → Fs[j]? = some y → risFrom 0 ((j : Int) - 1) none y.1 = true ∧ risFrom 0 ((j : Int) - 1) none y.2 = true
def goodI (Fs : List (List Int × List Int)) : Prop := fitsB Fs = true ∧ risI Fs Fs.length ∧ ∀ Fs' : List PL, Fs = i2 Fs' → formB (addB [] [] Fs').1 (addB [] [] Fs').2.1 (rootB [] [] Fs') = Fs'
theorem risI_nat {Fs : List (List Int × List Int)} (h : risI Fs Fs.length) : ∃ Fs' : List PL, Fs = i2 Fs' ∧ (∀ (j : Nat) (y : PL), Fs'[j]? = some y → (∀ i ∈ y.1, i < j) ∧ ∀ i ∈ y.2, i < j) ∧ ∀ (j : Nat) (y : PL), Fs'[j]? = some y → y.1.Pairwise (· < ·) ∧ y.2.Pairwise (· < ·) := by
  have key : ∀ (j : Nat) (y : List Int × List Int), Fs[j]? = some y → ∃ x : PL, y = (ints x.1, ints x.2) ∧ ((∀ i ∈ x.1, i < j) ∧ ∀ i ∈ x.2, i < j) ∧ x.1.Pairwise (· < ·) ∧ x.2.Pairwise (· < ·) := fun j y hy => by
    obtain ⟨h1, h2⟩ := h j y (List.getElem?_eq_some_iff.1 hy).1 hy
    obtain ⟨L1, e1, u1, b1, _⟩ := ris_down j y.1 none h1
    obtain ⟨L2, e2, u2, b2, _⟩ := ris_down j y.2 none h2
    exact ⟨(L1, L2), Prod.ext e1 e2, ⟨b1, b2⟩, u1, u2⟩
  let f : List Int × List Int → PL := fun y => (y.1.map Int.toNat, y.2.map Int.toNat)
  have hf : ∀ x : PL, f (ints x.1, ints x.2) = x := fun x => by
    have e : ∀ L : List Nat, (ints L).map Int.toNat = L := fun L => by unfold ints; rw [List.map_map]; exact (List.map_congr_left fun a _ => rfl).trans (List.map_id' L)
    exact Prod.ext (e _) (e _)
  have hg : ∀ (j : Nat) (y : PL), (Fs.map f)[j]? = some y → ∃ z, Fs[j]? = some z ∧ z = (ints y.1, ints y.2) ∧ ((∀ i ∈ y.1, i < j) ∧ ∀ i ∈ y.2, i < j) ∧ y.1.Pairwise (· < ·) ∧ y.2.Pairwise (· < ·) := fun j y hy => by
    rw [List.getElem?_map] at hy
    cases hq : Fs[j]? with
    | none => rw [hq] at hy; cases hy
    | some z =>
      rw [hq] at hy
      obtain ⟨x, e, hx⟩ := key j z hq
      have hy := Option.some.inj hy
      rw [e, hf] at hy
      subst hy
      exact ⟨z, rfl, e, hx⟩
  refine ⟨Fs.map f, ?_, fun j y hy => ?_, fun j y hy => ?_⟩
  · unfold i2
    rw [List.map_map]
    refine ((List.map_congr_left fun z hz => ?_).trans (List.map_id' Fs)).symm
    obtain ⟨j, hj, rfl⟩ := List.getElem_of_mem hz
    obtain ⟨x, e, _⟩ := key j _ (List.getElem?_eq_getElem hj)
    show (ints (f Fs[j]).1, ints (f Fs[j]).2) = Fs[j]
    rw [e, hf]
  · obtain ⟨_, _, _, h, _⟩ := hg j y hy; exact h
  · obtain ⟨_, _, _, _, h⟩ := hg j y hy; exact h
theorem fits_i2 (Fs : List PL) : fitsB (i2 Fs) = fitsB Fs := by
  unfold fitsB i2
  rw [List.length_map]
  congr 1
  refine propext ⟨fun ⟨h1, h2, h3⟩ => ⟨h1, h2, fun y hy => ?_⟩, fun ⟨h1, h2, h3⟩ => ⟨h1, h2, fun y hy => ?_⟩⟩
  · have := h3 _ (List.mem_map.2 ⟨y, hy, rfl⟩); simpa [ints] using this
  · obtain ⟨x, hx, rfl⟩ := List.mem_map.1 hy
    simpa [ints] using h3 x hx
theorem fits_st (s : List Bool) (n : Nat) (hn : n ≤ 24) : fitsB (stF s (n + 1)) = true := by
  refine decide_eq_true ⟨by rw [stF_length]; omega, by rw [stF_length]; omega, fun y hy => ?_⟩
  obtain ⟨k, hk, rfl⟩ := List.mem_map.1 hy
  have hk := List.mem_range.1 hk
  have h1 := (List.filter_sublist (p := fun i => s.getD i false) (l := List.range k)).length_le
  have h2 := (List.filter_sublist (p := fun i => !s.getD i false) (l := List.range k)).length_le
  simp only [List.length_range] at h1 h2
  exact ⟨Nat.le_trans h1 (by omega), Nat.le_trans h2 (by omega)⟩
theorem good_st (s : List Bool) (n : Nat) (hn : n ≤ 24) : goodI (i2 (stF s (n + 1))) := by
  refine ⟨by rw [fits_i2, fits_st s n hn], fun j y _ hy => ?_, fun Fs' e => ?_⟩
  · obtain ⟨x, hx, rfl⟩ := i2_get hy
    obtain ⟨_, rfl⟩ := stF_get s _ j x hx
    obtain ⟨l1, l2⟩ := stN_lt s j
    obtain ⟨u1, u2⟩ := stN_up s j
    exact ⟨ris_up j _ none u1 l1 (by simp), ris_up j _ none u2 l2 (by simp)⟩
  · rw [← i2_inj e]
    have h1 := addB_st s 0 (n + 1)
    have h2 := rootB_st s 0 n
    have h0 : stF s 0 = [] := rfl
    rw [h0, List.range_zero] at h1 h2
    rw [h1, h2]
    simp only [Nat.zero_max]
    exact formB_st s n
end Go.Proofs.YtkbljlbfkgoalaaGreatDoor
