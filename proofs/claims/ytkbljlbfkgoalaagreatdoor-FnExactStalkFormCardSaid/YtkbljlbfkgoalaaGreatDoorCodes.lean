/- Games as codes: a game's code holds the codes of its left options at even bits, of its right ones at odd bits. A game has one form. -/
import Derived.Test.YtkbljlbfkgoalaaGreatDoorFormDefs
namespace Go.Proofs.YtkbljlbfkgoalaaGreatDoor
set_option linter.unusedVariables false
set_option linter.unusedSimpArgs false
open Go.RowKit

def hasL (c i : Nat) : Prop := c.testBit (2 * i) = true
def hasR (c i : Nat) : Prop := c.testBit (2 * i + 1) = true
instance (c i : Nat) : Decidable (hasL c i) := inferInstanceAs (Decidable (_ = _))
instance (c i : Nat) : Decidable (hasR c i) := inferInstanceAs (Decidable (_ = _))
def optC (c i : Nat) : Prop := hasL c i ∨ hasR c i
instance (c i : Nat) : Decidable (optC c i) := inferInstanceAs (Decidable (_ ∨ _))
def bitsC (g : Nat → Nat) (L : List Nat) : Nat := L.foldr (fun i n => n ||| 2 ^ g i) 0
def mkC (L R : List Nat) : Nat := bitsC (fun i => 2 * i) L ||| bitsC (fun i => 2 * i + 1) R

theorem bitsC_at (g : Nat → Nat) (L : List Nat) (j : Nat) : (bitsC g L).testBit j = decide (∃ i ∈ L, g i = j) := by
  induction L with
  | nil => simp [bitsC]
  | cons x l ih =>
    unfold bitsC at ih ⊢
    rw [List.foldr_cons, Nat.testBit_or, ih, Nat.testBit_two_pow]
    by_cases h1 : ∃ i ∈ l, g i = j
    · obtain ⟨i, hi, e⟩ := h1
      have h2 : ∃ i ∈ x :: l, g i = j := ⟨i, List.mem_cons_of_mem _ hi, e⟩
      have h1 : ∃ i ∈ l, g i = j := ⟨i, hi, e⟩
      rw [decide_eq_true h1, decide_eq_true h2]; rfl
    · rw [decide_eq_false h1, Bool.false_or]
      congr 1
      simp only [eq_iff_iff]
      constructor
      · intro e; exact ⟨x, List.mem_cons_self, e⟩
      · rintro ⟨i, hi, e⟩
        rcases List.mem_cons.1 hi with rfl | hi
        · exact e
        · exact absurd ⟨i, hi, e⟩ h1
theorem hasL_mk (L R : List Nat) (i : Nat) : hasL (mkC L R) i ↔ i ∈ L := by
  unfold hasL mkC
  rw [Nat.testBit_or, bitsC_at, bitsC_at, Bool.or_eq_true, decide_eq_true_eq, decide_eq_true_eq]
  constructor
  · rintro (⟨j, hj, e⟩ | ⟨j, hj, e⟩)
    · have : j = i := by omega
      subst this; exact hj
    · omega
  · intro h; exact .inl ⟨i, h, rfl⟩
theorem hasR_mk (L R : List Nat) (i : Nat) : hasR (mkC L R) i ↔ i ∈ R := by
  unfold hasR mkC
  rw [Nat.testBit_or, bitsC_at, bitsC_at, Bool.or_eq_true, decide_eq_true_eq, decide_eq_true_eq]
  constructor
  · rintro (⟨j, hj, e⟩ | ⟨j, hj, e⟩)
    · omega
    · have : j = i := by omega
      subst this; exact hj
  · intro h; exact .inr ⟨i, h, rfl⟩
theorem code_ext {c d : Nat} (h1 : ∀ i, hasL c i ↔ hasL d i) (h2 : ∀ i, hasR c i ↔ hasR d i) : c = d := by
  apply Nat.eq_of_testBit_eq
  intro j
  have e : ∀ a b : Bool, (a = true ↔ b = true) → a = b := by decide
  apply e
  rcases Nat.mod_two_eq_zero_or_one j with h | h
  · have := h1 (j / 2); unfold hasL at this; rwa [show 2 * (j / 2) = j from by omega] at this
  · have := h2 (j / 2); unfold hasR at this; rwa [show 2 * (j / 2) + 1 = j from by omega] at this
theorem bit_lt {c j : Nat} (h : c.testBit j = true) : j < c := Nat.lt_of_lt_of_le Nat.lt_two_pow_self (Nat.ge_two_pow_of_testBit h)
theorem optC_lt {c i : Nat} (h : optC c i) : i < c := by
  rcases h with h | h <;> have := bit_lt h <;> omega
theorem mkC_ext {L R L' R' : List Nat} (h1 : ∀ i, i ∈ L ↔ i ∈ L') (h2 : ∀ i, i ∈ R ↔ i ∈ R') : mkC L R = mkC L' R' :=
  code_ext (fun i => by rw [hasL_mk, hasL_mk, h1]) (fun i => by rw [hasR_mk, hasR_mk, h2])
def lefts (c : Nat) : List Nat := (List.range c).filter fun i => decide (hasL c i)
def rights (c : Nat) : List Nat := (List.range c).filter fun i => decide (hasR c i)
theorem mem_lefts {c i : Nat} : i ∈ lefts c ↔ hasL c i := by
  unfold lefts
  rw [List.mem_filter, List.mem_range, decide_eq_true_eq]
  exact ⟨fun h => h.2, fun h => ⟨optC_lt (.inl h), h⟩⟩
theorem mem_rights {c i : Nat} : i ∈ rights c ↔ hasR c i := by
  unfold rights
  rw [List.mem_filter, List.mem_range, decide_eq_true_eq]
  exact ⟨fun h => h.2, fun h => ⟨optC_lt (.inr h), h⟩⟩
theorem mkC_self (c : Nat) : mkC (lefts c) (rights c) = c := code_ext (fun i => by rw [hasL_mk, mem_lefts]) (fun i => by rw [hasR_mk, mem_rights])

/-- A game's birthday. -/
def bornC (c : Nat) : Nat := ((List.range c).attach.filter fun i => decide (optC c i.1)).foldl (fun m i => max m (bornC i.1 + 1)) 0
  termination_by c
  decreasing_by exact List.mem_range.1 i.2
theorem foldl_max {α : Type} (g : α → Nat) (L : List α) (m : Nat) : m ≤ L.foldl (fun m i => max m (g i)) m ∧ (∀ x ∈ L, g x ≤ L.foldl (fun m i => max m (g i)) m) ∧ (L.foldl (fun m i => max m (g i)) m = m ∨ ∃ x ∈ L, L.foldl (fun m i => max m (g i)) m = g x) := by
  induction L generalizing m with
  | nil => exact ⟨Nat.le_refl _, by simp, .inl rfl⟩
  | cons y l ih =>
    rw [List.foldl_cons]
    obtain ⟨h1, h2, h3⟩ := ih (max m (g y))
    refine ⟨by omega, fun x hx => ?_, ?_⟩
    · rcases List.mem_cons.1 hx with rfl | hx
      · omega
      · exact h2 x hx
    · rcases h3 with h3 | ⟨x, hx, h3⟩
      · by_cases hm : g y ≤ m
        · exact .inl (by rw [h3]; omega)
        · exact .inr ⟨y, List.mem_cons_self, by rw [h3]; omega⟩
      · exact .inr ⟨x, List.mem_cons_of_mem _ hx, h3⟩
theorem bornC_lt {c i : Nat} (h : optC c i) : bornC i < bornC c := by
  rw [bornC.eq_1 c]
  have := (foldl_max (fun (i : {x // x ∈ List.range c}) => bornC i.1 + 1) ((List.range c).attach.filter fun i => decide (optC c i.1)) 0).2.1 ⟨i, List.mem_range.2 (optC_lt h)⟩ (by simp [h])
  simp only at this
  omega
theorem bornC_is (c : Nat) : bornC c = 0 ∨ ∃ i, optC c i ∧ bornC c = bornC i + 1 := by
  rw [bornC.eq_1 c]
  rcases (foldl_max (fun (i : {x // x ∈ List.range c}) => bornC i.1 + 1) ((List.range c).attach.filter fun i => decide (optC c i.1)) 0).2.2 with h | ⟨x, hx, h⟩
  · exact .inl h
  · exact .inr ⟨x.1, by simpa using (List.mem_filter.1 hx).2, h⟩
/-- The birthday is the least number above the birthdays of the options. -/
theorem bornC_eq {c m : Nat} (h1 : ∀ i, optC c i → bornC i < m) (h2 : m = 0 ∨ ∃ i, optC c i ∧ m ≤ bornC i + 1) : bornC c = m := by
  rcases bornC_is c with h | ⟨i, hi, h⟩
  · rcases h2 with h2 | ⟨i, hi, h2⟩
    · omega
    · have := bornC_lt hi; omega
  · have := h1 i hi
    rcases h2 with h2 | ⟨j, hj, h2⟩
    · omega
    · have := bornC_lt hj; omega

/-- A game and its subpositions. -/
inductive SubC (c : Nat) : Nat → Prop
  | root : SubC c c
  | step {x y : Nat} : SubC c x → optC x y → SubC c y

/-- A list of nodes, each game once, whose codes are C. -/
structure BookC (NL : List PL) (C : List Nat) : Prop where
  len : C.length = NL.length
  opts : ∀ (j : Nat) (x : PL), NL[j]? = some x → (∀ i ∈ x.1, i < j) ∧ ∀ i ∈ x.2, i < j
  up : ∀ (j : Nat) (x : PL), NL[j]? = some x → x.1.Pairwise (· < ·) ∧ x.2.Pairwise (· < ·)
  code : ∀ (j : Nat) (x : PL), NL[j]? = some x → C.getD j 0 = mkC (atAll C x.1) (atAll C x.2)
  nodup : C.Nodup

theorem up_ext {L M : List Nat} (hL : L.Pairwise (· < ·)) (hM : M.Pairwise (· < ·)) (h : ∀ x, x ∈ L ↔ x ∈ M) : L = M := by
  induction L generalizing M with
  | nil => cases M with
    | nil => rfl
    | cons y m => exact absurd ((h y).2 List.mem_cons_self) (by simp)
  | cons x l ih =>
    cases M with
    | nil => exact absurd ((h x).1 List.mem_cons_self) (by simp)
    | cons y m =>
      rw [List.pairwise_cons] at hL hM
      have hxy : x = y := by
        rcases List.mem_cons.1 ((h x).1 List.mem_cons_self) with e | hx
        · exact e
        · rcases List.mem_cons.1 ((h y).2 List.mem_cons_self) with e | hy
          · exact e.symm
          · have := hL.1 y hy; have := hM.1 x hx; omega
      subst hxy
      rw [ih hL.2 hM.2 (fun z => ?_)]
      constructor
      · intro hz
        rcases List.mem_cons.1 ((h z).1 (List.mem_cons_of_mem _ hz)) with e | hz'
        · subst e; have := hL.1 z hz; omega
        · exact hz'
      · intro hz
        rcases List.mem_cons.1 ((h z).2 (List.mem_cons_of_mem _ hz)) with e | hz'
        · subst e; have := hM.1 z hz; omega
        · exact hz'

theorem nodup_getD {C : List Nat} (h : C.Nodup) {i j : Nat} (hi : i < C.length) (hj : j < C.length) (e : C.getD i 0 = C.getD j 0) : i = j := by
  rw [List.getD_eq_getElem?_getD, List.getD_eq_getElem?_getD, List.getElem?_eq_getElem hi, List.getElem?_eq_getElem hj] at e
  exact (List.getElem_inj h).1 e
theorem getD_mem {C : List Nat} {i : Nat} (hi : i < C.length) : C.getD i 0 ∈ C := by
  rw [List.getD_eq_getElem?_getD, List.getElem?_eq_getElem hi]; exact List.getElem_mem _
theorem mem_getD {C : List Nat} {x : Nat} (h : x ∈ C) : ∃ i, i < C.length ∧ C.getD i 0 = x := by
  obtain ⟨i, hi, e⟩ := List.getElem_of_mem h
  exact ⟨i, hi, by rw [List.getD_eq_getElem?_getD, List.getElem?_eq_getElem hi]; exact e⟩
theorem mem_atAll {C L : List Nat} {x : Nat} : x ∈ atAll C L ↔ ∃ i ∈ L, C.getD i 0 = x := by
  unfold atAll; exact List.mem_map

/-- The order of nodes: birthday, left options, right options. -/
def klt (b1 : Nat) (x1 : PL) (b2 : Nat) (x2 : PL) : Prop := b1 < b2 ∨ b1 = b2 ∧ aheadB x1 x2 = true
theorem cmpL_swap : ∀ (a b : List Nat), cmpL a b = - cmpL b a
  | [], [] => rfl
  | [], y :: b => by simp [cmpL]
  | x :: a, [] => by simp [cmpL]
  | x :: a, y :: b => by
    unfold cmpL
    have := cmpL_swap a b
    by_cases h : x = y
    · subst h; simpa using this
    · have h' : ¬ y = x := fun q => h q.symm
      by_cases h1 : x < y
      · have : ¬ y < x := by omega
        simp [h, h', h1, this]
      · have : y < x := by omega
        simp [h, h', h1, this]
theorem aheadB_asymm {x y : PL} (h : aheadB x y = true) : aheadB y x = false := by
  unfold aheadB at h ⊢
  have h1 := cmpL_swap x.1 y.1
  have h2 := cmpL_swap x.2 y.2
  by_cases e : cmpL x.1 y.1 = 0
  · rw [if_pos e] at h
    rw [if_pos (by omega)]
    simp at h ⊢; omega
  · rw [if_neg e] at h
    rw [if_neg (by omega)]
    simp at h ⊢; omega
theorem klt_asymm {b1 b2 : Nat} {x1 x2 : PL} (h : klt b1 x1 b2 x2) : ¬ klt b2 x2 b1 x1 := by
  rintro (h' | ⟨e, h'⟩)
  · rcases h with h | ⟨e, _⟩ <;> omega
  · rcases h with h | ⟨_, h⟩
    · omega
    · rw [aheadB_asymm h'] at h; cases h

/-- FN is the form of the game c; P are its nodes' codes. -/
structure FormAt (c : Nat) (FN : List PL) (P : List Nat) : Prop where
  book : BookC FN P
  sub : ∀ x, x ∈ P ↔ SubC c x
  up : ∀ (i j : Nat) (x y : PL), i < j → FN[i]? = some x → FN[j]? = some y → klt (bornC (P.getD i 0)) x (bornC (P.getD j 0)) y
def FormC (c : Nat) (FN : List PL) : Prop := ∃ P, FormAt c FN P

/-- Two lists of nodes that agree below k, and a game that stands at k in the one, at a in the other. -/
theorem same_node {FN FN' : List PL} {P P' : List Nat} (B : BookC FN P) (B' : BookC FN' P') (k a : Nat) (hag : ∀ j, j < k → P.getD j 0 = P'.getD j 0) (hk : k < P.length) (hka : k ≤ a) (ha : a < P'.length) (he : P.getD k 0 = P'.getD a 0)
    (x y : PL) (hx : FN[k]? = some x) (hy : FN'[a]? = some y) : x = y := by
  have c1 := B.code k x hx
  have c2 := B'.code a y hy
  rw [he, c2] at c1
  obtain ⟨o1, o2⟩ := B.opts k x hx
  obtain ⟨p1, p2⟩ := B'.opts a y hy
  obtain ⟨u1, u2⟩ := B.up k x hx
  obtain ⟨v1, v2⟩ := B'.up a y hy
  have side : ∀ l m : List Nat, (∀ i ∈ l, i < k) → (∀ i ∈ m, i < a) → (∀ z, z ∈ atAll P l ↔ z ∈ atAll P' m) → ∀ i, i ∈ l ↔ i ∈ m := by
    intro l m hl hm h i
    constructor
    · intro hi
      obtain ⟨j, hj, e⟩ := mem_atAll.1 ((h (P.getD i 0)).1 (mem_atAll.2 ⟨i, hi, rfl⟩))
      rw [hag i (hl i hi)] at e
      have := hl i hi; have := hm j hj
      rw [← nodup_getD B'.nodup (by omega) (by omega) e]; exact hj
    · intro hi
      obtain ⟨j, hj, e⟩ := mem_atAll.1 ((h (P'.getD i 0)).2 (mem_atAll.2 ⟨i, hi, rfl⟩))
      rw [hag j (hl j hj)] at e
      have := hl j hj; have := hm i hi
      rw [← nodup_getD B'.nodup (by omega) (by omega) e]; exact hj
  have e1 : x.1 = y.1 := up_ext u1 v1 (side _ _ o1 p1 fun z => by rw [← hasL_mk _ (atAll P x.2), ← hasL_mk _ (atAll P' y.2), c1])
  have e2 : x.2 = y.2 := up_ext u2 v2 (side _ _ o2 p2 fun z => by rw [← hasR_mk (atAll P x.1), ← hasR_mk (atAll P' y.1), c1])
  exact Prod.ext e1 e2

theorem form_one {c : Nat} {FN FN' : List PL} {P P' : List Nat} (A : FormAt c FN P) (A' : FormAt c FN' P') : FN = FN' ∧ P = P' := by
  have key : ∀ k, k < P.length → k < P'.length → P.getD k 0 = P'.getD k 0 ∧ FN[k]? = FN'[k]? := by
    intro k
    induction k using Nat.strongRecOn with
    | _ k ih =>
      intro hk hk'
      have hag : ∀ j, j < k → P.getD j 0 = P'.getD j 0 := fun j hj => (ih j hj (by omega) (by omega)).1
      have hxF := List.getElem?_eq_getElem (l := FN) (i := k) (by rw [← A.book.len]; exact hk)
      have hyF := List.getElem?_eq_getElem (l := FN') (i := k) (by rw [← A'.book.len]; exact hk')
      obtain ⟨a, ha, ea⟩ := mem_getD ((A'.sub _).2 ((A.sub _).1 (getD_mem hk)))
      obtain ⟨b, hb, eb⟩ := mem_getD ((A.sub _).2 ((A'.sub _).1 (getD_mem hk')))
      have hka : k ≤ a := by
        rcases Nat.lt_or_ge a k with h | h
        · have := hag a h; rw [ea] at this; exact absurd (nodup_getD A.book.nodup (by omega) hk this) (by omega)
        · exact h
      have hkb : k ≤ b := by
        rcases Nat.lt_or_ge b k with h | h
        · have := hag b h; rw [eb] at this; exact absurd (nodup_getD A'.book.nodup (by omega) hk' this.symm) (by omega)
        · exact h
      have hyA := List.getElem?_eq_getElem (l := FN') (i := a) (by rw [← A'.book.len]; exact ha)
      have hxB := List.getElem?_eq_getElem (l := FN) (i := b) (by rw [← A.book.len]; exact hb)
      have n1 := same_node A.book A'.book k a hag hk hka ha ea.symm _ _ hxF hyA
      have n2 := same_node A'.book A.book k b (fun j hj => (hag j hj).symm) hk' hkb hb eb.symm _ _ hyF hxB
      rcases Nat.lt_or_ge k a with hlt | hge
      · have k1 := A'.up k a _ _ hlt hyF hyA
        rw [ea, ← n1] at k1
        rcases Nat.lt_or_ge k b with hltb | hgeb
        · have k2 := A.up k b _ _ hltb hxF hxB
          rw [eb, ← n2] at k2
          exact absurd k1 (klt_asymm k2)
        · have : b = k := by omega
          subst this
          exact absurd (nodup_getD A'.book.nodup ha hk' (ea.trans eb)) (by omega)
      · have : a = k := by omega
        subst this
        exact ⟨ea.symm, by rw [hxF, hyF, n1]⟩
  have hl : P.length = P'.length := by
    refine Nat.le_antisymm ?_ ?_
    · exact A.book.nodup.length_le_of_subset (fun x hx => (A'.sub x).2 ((A.sub x).1 hx))
    · exact A'.book.nodup.length_le_of_subset (fun x hx => (A.sub x).2 ((A'.sub x).1 hx))
  have hPl := A.book.len
  have hPl' := A'.book.len
  constructor
  · apply List.ext_getElem?
    intro k
    rcases Nat.lt_or_ge k P.length with h | h
    · exact (key k h (by omega)).2
    · rw [List.getElem?_eq_none (by omega), List.getElem?_eq_none (by omega)]
  · apply List.ext_getElem hl
    intro k h1 h2
    have := (key k h1 h2).1
    rw [List.getD_eq_getElem?_getD, List.getD_eq_getElem?_getD, List.getElem?_eq_getElem h1, List.getElem?_eq_getElem h2] at this
    exact this
theorem FormC.one {c : Nat} {FN FN' : List PL} (h : FormC c FN) (h' : FormC c FN') : FN = FN' := by
  obtain ⟨P, h⟩ := h
  obtain ⟨P', h'⟩ := h'
  exact (form_one h h').1
end Go.Proofs.YtkbljlbfkgoalaaGreatDoor
