import Derived.Test.YtiidnnpanickaaaGreatDoorZbDigits
/- What the claim of FnExactCompareNumberCard needs of: OrderRun. -/
namespace Go.Proofs.YtiidnnpanickaaaGreatDoor
set_option linter.unusedVariables false
set_option linter.unusedSimpArgs false
open Go.RowKit
def hasL (c i : Nat) : Prop := c.testBit (2 * i) = true
def hasR (c i : Nat) : Prop := c.testBit (2 * i + 1) = true
instance (c i : Nat) : Decidable (hasL c i) := inferInstanceAs (Decidable (_ = _))
instance (c i : Nat) : Decidable (hasR c i) := inferInstanceAs (Decidable (_ = _))
def optC (c i : Nat) : Prop := hasL c i ∨ hasR c i
instance (c i : Nat) : Decidable (optC c i) := inferInstanceAs (Decidable (_ ∨ _))
def bitsC (g : Nat → Nat) (L : List Nat) : Nat := L.foldr (fun i n => n ||| 2 ^ g i) 0
def mkC (L R : List Nat) : Nat := bitsC (fun i => 2 * i) L ||| bitsC (fun i => 2 * i + 1) R
theorem bitsC_at (g : Nat → Nat) (L : List Nat) (j : Nat) : (bitsC g L).testBit j = decide (∃ i ∈ L, g i = j) := by
  induction L with
  | nil => simp [bitsC]
  | cons x l ih =>
    unfold bitsC at ih ⊢
    rw [List.foldr_cons, Nat.testBit_or, ih, Nat.testBit_two_pow]
    by_cases h1 : ∃ i ∈ l, g i = j
    · obtain ⟨i, hi, e⟩ := h1
      have h2 : ∃ i ∈ x :: l, g i = j := ⟨i, List.mem_cons_of_mem _ hi, e⟩
      have h1 : ∃ i ∈ l, g i = j := ⟨i, hi, e⟩
      rw [decide_eq_true h1, decide_eq_true h2]; rfl
    · rw [decide_eq_false h1, Bool.false_or]
      congr 1
      simp only [eq_iff_iff]
      constructor
      · intro e; exact ⟨x, List.mem_cons_self, e⟩
      · rintro ⟨i, hi, e⟩
        rcases List.mem_cons.1 hi with rfl | hi
        · exact e
        · exact absurd ⟨i, hi, e⟩ h1
theorem hasL_mk (L R : List Nat) (i : Nat) : hasL (mkC L R) i ↔ i ∈ L := by
  unfold hasL mkC
  rw [Nat.testBit_or, bitsC_at, bitsC_at, Bool.or_eq_true, decide_eq_true_eq, decide_eq_true_eq]
  constructor
  · rintro (⟨j, hj, e⟩ | ⟨j, hj, e⟩)
    · have : j = i := by omega
      subst this; exact hj
    · omega
  · intro h; exact .inl ⟨i, h, rfl⟩
theorem hasR_mk (L R : List Nat) (i : Nat) : hasR (mkC L R) i ↔ i ∈ R := by
  unfold hasR mkC
  rw [Nat.testBit_or, bitsC_at, bitsC_at, Bool.or_eq_true, decide_eq_true_eq, decide_eq_true_eq]
  constructor
  · rintro (⟨j, hj, e⟩ | ⟨j, hj, e⟩)
    · omega
    · have : j = i := by omega
      subst this; exact hj
  · intro h; exact .inr ⟨i, h, rfl⟩
theorem code_ext {c d : Nat} (h1 : ∀ i, hasL c i ↔ hasL d i) (h2 : ∀ i, hasR c i ↔ hasR d i) : c = d := by
  apply Nat.eq_of_testBit_eq
  intro j
  have e : ∀ a b : Bool, (a = true ↔ b = true) → a = b := by decide
  apply e
  rcases Nat.mod_two_eq_zero_or_one j with h | h
  · have := h1 (j / 2); unfold hasL at this; rwa [show 2 * (j / 2) = j from by omega] at this
  · have := h2 (j / 2); unfold hasR at this; rwa [show 2 * (j / 2) + 1 = j from by omega] at this
theorem bit_lt {c j : Nat} (h : c.testBit j = true) : j < c := Nat.lt_of_lt_of_le Nat.lt_two_pow_self (Nat.ge_two_pow_of_testBit h)
theorem optC_lt {c i : Nat} (h : optC c i) : i < c := by
  rcases h with h | h <;> have := bit_lt h <;> omega
theorem mkC_ext {L R L' R' : List Nat} (h1 : ∀ i, i ∈ L ↔ i ∈ L') (h2 : ∀ i, i ∈ R ↔ i ∈ R') : mkC L R = mkC L' R' :=
  code_ext (fun i => by rw [hasL_mk, hasL_mk, h1]) (fun i => by rw [hasR_mk, hasR_mk, h2])
def lefts (c : Nat) : List Nat := (List.range c).filter fun i => decide (hasL c i)
def rights (c : Nat) : List Nat := (List.range c).filter fun i => decide (hasR c i)
theorem mem_lefts {c i : Nat} : i ∈ lefts c ↔ hasL c i := by
  unfold lefts
  rw [List.mem_filter, List.mem_range, decide_eq_true_eq]
  exact ⟨fun h => h.2, fun h => ⟨optC_lt (.inl h), h⟩⟩
theorem mem_rights {c i : Nat} : i ∈ rights c ↔ hasR c i := by
  unfold rights
  rw [List.mem_filter, List.mem_range, decide_eq_true_eq]
  exact ⟨fun h => h.2, fun h => ⟨optC_lt (.inr h), h⟩⟩
theorem mkC_self (c : Nat) : mkC (lefts c) (rights c) = c := code_ext (fun i => by rw [hasL_mk, mem_lefts]) (fun i => by rw [hasR_mk, mem_rights])
def bornC (c : Nat) : Nat := ((List.range c).attach.filter fun i => decide (optC c i.1)).foldl (fun m i => max m (bornC i.1 + 1)) 0
  termination_by c
  decreasing_by exact List.mem_range.1 i.2
theorem foldl_max {α : Type} (g : α → Nat) (L : List α) (m : Nat) : m ≤ L.foldl (fun m i => max m (g i)) m ∧ (∀ x ∈ L, g x ≤ L.foldl (fun m i => max m (g i)) m) ∧ (L.foldl (fun m i => max m (g i)) m = m ∨ ∃ x ∈ L, L.foldl (fun m i => max m (g i)) m = g x) := by
  induction L generalizing m with
  | nil => exact ⟨Nat.le_refl _, by simp, .inl rfl⟩
  | cons y l ih =>
    rw [List.foldl_cons]
    obtain ⟨h1, h2, h3⟩ := ih (max m (g y))
    refine ⟨by omega, fun x hx => ?_, ?_⟩
    · rcases List.mem_cons.1 hx with rfl | hx
      · omega
      · exact h2 x hx
    · rcases h3 with h3 | ⟨x, hx, h3⟩
      · by_cases hm : g y ≤ m
        · exact .inl (by rw [h3]; omega)
        · exact .inr ⟨y, List.mem_cons_self, by rw [h3]; omega⟩
      · exact .inr ⟨x, List.mem_cons_of_mem _ hx, h3⟩
theorem bornC_lt {c i : Nat} (h : optC c i) : bornC i < bornC c := by
  rw [bornC.eq_1 c]
  have := (foldl_max (fun (i : {x // x ∈ List.range c}) => bornC i.1 + 1) ((List.range c).attach.filter fun i => decide (optC c i.1)) 0).2.1 ⟨i, List.mem_range.2 (optC_lt h)⟩ (by simp [h])
  simp only at this
  omega
theorem bornC_is (c : Nat) : bornC c = 0 ∨ ∃ i, optC c i ∧ bornC c = bornC i + 1 := by
  rw [bornC.eq_1 c]
  rcases (foldl_max (fun (i : {x // x ∈ List.range c}) => bornC i.1 + 1) ((List.range c).attach.filter fun i => decide (optC c i.1)) 0).2.2 with h | ⟨x, hx, h⟩
  · exact .inl h
  · exact .inr ⟨x.1, by simpa using (List.mem_filter.1 hx).2, h⟩
theorem bornC_eq {c m : Nat} (h1 : ∀ i, optC c i → bornC i < m) (h2 : m = 0 ∨ ∃ i, optC c i ∧ m ≤ bornC i + 1) : bornC c = m := by
  rcases bornC_is c with h | ⟨i, hi, h⟩
  · rcases h2 with h2 | ⟨i, hi, h2⟩
    · omega
    · have := bornC_lt hi; omega
  · have := h1 i hi
    rcases h2 with h2 | ⟨j, hj, h2⟩
    · omega
    · have := bornC_lt hj; omega
inductive SubC (c : Nat) : Nat → Prop
  | root : SubC c c
  | step {x y : Nat} : SubC c x → optC x y → SubC c y
structure BookC (NL : List PL) (C : List Nat) : Prop where
  len : C.length = NL.length
  opts : ∀ (j : Nat) (x : PL), NL[j]? = some x → (∀ i ∈ x.1, i < j) ∧ ∀ i ∈ x.2, i < j
  up : ∀ (j : Nat) (x : PL), NL[j]? = some x → x.1.Pairwise (· < ·) ∧ x.2.Pairwise (· < ·)
  code : ∀ (j : Nat) (x : PL), NL[j]? = some x → C.getD j 0 = mkC (atAll C x.1) (atAll C x.2)
  nodup : C.Nodup
theorem up_ext {L M : List Nat} (hL : L.Pairwise (· < ·)) (hM : M.Pairwise (· < ·)) (h : ∀ x, x ∈ L ↔ x ∈ M) : L = M := by
  induction L generalizing M with
  | nil => cases M with
    | nil => rfl
    | cons y m => exact absurd ((h y).2 List.mem_cons_self) (by simp)
  | cons x l ih =>
    cases M with
    | nil => exact absurd ((h x).1 List.mem_cons_self) (by simp)
    | cons y m =>
      rw [List.pairwise_cons] at hL hM
      have hxy : x = y := by
        rcases List.mem_cons.1 ((h x).1 List.mem_cons_self) with e | hx
        · exact e
        · rcases List.mem_cons.1 ((h y).2 List.mem_cons_self) with e | hy
          · exact e.symm
          · have := hL.1 y hy; have := hM.1 x hx; omega
      subst hxy
      rw [ih hL.2 hM.2 (fun z => ?_)]
      constructor
      · intro hz
        rcases List.mem_cons.1 ((h z).1 (List.mem_cons_of_mem _ hz)) with e | hz'
        · subst e; have := hL.1 z hz; omega
        · exact hz'
      · intro hz
        rcases List.mem_cons.1 ((h z).2 (List.mem_cons_of_mem _ hz)) with e | hz'
        · subst e; have := hM.1 z hz; omega
        · exact hz'
theorem nodup_getD {C : List Nat} (h : C.Nodup) {i j : Nat} (hi : i < C.length) (hj : j < C.length) (e : C.getD i 0 = C.getD j 0) : i = j := by
  rw [List.getD_eq_getElem?_getD, List.getD_eq_getElem?_getD, List.getElem?_eq_getElem hi, List.getElem?_eq_getElem hj] at e
  exact (List.getElem_inj h).1 e
theorem getD_mem {C : List Nat} {i : Nat} (hi : i < C.length) : C.getD i 0 ∈ C := by
  rw [List.getD_eq_getElem?_getD, List.getElem?_eq_getElem hi]; exact List.getElem_mem _
theorem mem_getD {C : List Nat} {x : Nat} (h : x ∈ C) : ∃ i, i < C.length ∧ C.getD i 0 = x := by
  obtain ⟨i, hi, e⟩ := List.getElem_of_mem h
  exact ⟨i, hi, by rw [List.getD_eq_getElem?_getD, List.getElem?_eq_getElem hi]; exact e⟩
theorem mem_atAll {C L : List Nat} {x : Nat} : x ∈ atAll C L ↔ ∃ i ∈ L, C.getD i 0 = x := by
  unfold atAll; exact List.mem_map
def klt (b1 : Nat) (x1 : PL) (b2 : Nat) (x2 : PL) : Prop := b1 < b2 ∨ b1 = b2 ∧ aheadB x1 x2 = true
theorem cmpL_swap : ∀ (a b : List Nat), cmpL a b = - cmpL b a
  | [], [] => rfl
  | [], y :: b => by simp [cmpL]
  | x :: a, [] => by simp [cmpL]
  | x :: a, y :: b => by
    unfold cmpL
    have := cmpL_swap a b
    by_cases h : x = y
    · subst h; simpa using this
    · have h' : ¬ y = x := fun q => h q.symm
      by_cases h1 : x < y
      · have : ¬ y < x := by omega
        simp [h, h', h1, this]
      · have : y < x := by omega
        simp [h, h', h1, this]
theorem aheadB_asymm {x y : PL} (h : aheadB x y = true) : aheadB y x = false := by
  unfold aheadB at h ⊢
  have h1 := cmpL_swap x.1 y.1
  have h2 := cmpL_swap x.2 y.2
  by_cases e : cmpL x.1 y.1 = 0
  · rw [if_pos e] at h
    rw [if_pos (by omega)]
    simp at h ⊢; omega
  · rw [if_neg e] at h
    rw [if_neg (by omega)]
    simp at h ⊢; omega
theorem klt_asymm {b1 b2 : Nat} {x1 x2 : PL} (h : klt b1 x1 b2 x2) : ¬ klt b2 x2 b1 x1 := by
  rintro (h' | ⟨e, h'⟩)
  · rcases h with h | ⟨e, _⟩ <;> omega
  · rcases h with h | ⟨_, h⟩
    · omega
    · rw [aheadB_asymm h'] at h; cases h
structure FormAt (c : Nat) (FN : List PL) (P : List Nat) : Prop where
  book : BookC FN P
  sub : ∀ x, x ∈ P ↔ SubC c x
  up : ∀ (i j : Nat) (x y : PL), i < j → FN[i]? = some x → FN[j]? = some y → klt (bornC (P.getD i 0)) x (bornC (P.getD j 0)) y
def FormC (c : Nat) (FN : List PL) : Prop := ∃ P, FormAt c FN P
theorem same_node {FN FN' : List PL} {P P' : List Nat} (B : BookC FN P) (B' : BookC FN' P') (k a : Nat) (hag : ∀ j, j < k → P.getD j 0 = P'.getD j 0) (hk : k < P.length) (hka : k ≤ a) (ha : a < P'.length) (he : P.getD k 0 = P'.getD a 0)
    (x y : PL) (hx : FN[k]? = some x) (hy : FN'[a]? = some y) : x = y := by
  have c1 := B.code k x hx
  have c2 := B'.code a y hy
  rw [he, c2] at c1
  obtain ⟨o1, o2⟩ := B.opts k x hx
  obtain ⟨p1, p2⟩ := B'.opts a y hy
  obtain ⟨u1, u2⟩ := B.up k x hx
  obtain ⟨v1, v2⟩ := B'.up a y hy
  have side : ∀ l m : List Nat, (∀ i ∈ l, i < k) → (∀ i ∈ m, i < a) → (∀ z, z ∈ atAll P l ↔ z ∈ atAll P' m) → ∀ i, i ∈ l ↔ i ∈ m := by
    intro l m hl hm h i
    constructor
    · intro hi
      obtain ⟨j, hj, e⟩ := mem_atAll.1 ((h (P.getD i 0)).1 (mem_atAll.2 ⟨i, hi, rfl⟩))
      rw [hag i (hl i hi)] at e
      have := hl i hi; have := hm j hj
      rw [← nodup_getD B'.nodup (by omega) (by omega) e]; exact hj
    · intro hi
      obtain ⟨j, hj, e⟩ := mem_atAll.1 ((h (P'.getD i 0)).2 (mem_atAll.2 ⟨i, hi, rfl⟩))
      rw [hag j (hl j hj)] at e
      have := hl j hj; have := hm i hi
      rw [← nodup_getD B'.nodup (by omega) (by omega) e]; exact hj
  have e1 : x.1 = y.1 := up_ext u1 v1 (side _ _ o1 p1 fun z => by rw [← hasL_mk _ (atAll P x.2), ← hasL_mk _ (atAll P' y.2), c1])
  have e2 : x.2 = y.2 := up_ext u2 v2 (side _ _ o2 p2 fun z => by rw [← hasR_mk (atAll P x.1), ← hasR_mk (atAll P' y.1), c1])
  exact Prod.ext e1 e2
theorem form_one {c : Nat} {FN FN' : List PL} {P P' : List Nat} (A : FormAt c FN P) (A' : FormAt c FN' P') : FN = FN' ∧ P = P' := by
  have key : ∀ k, k < P.length → k < P'.length → P.getD k 0 = P'.getD k 0 ∧ FN[k]? = FN'[k]? := by
    intro k
    induction k using Nat.strongRecOn with
    | _ k ih =>
      intro hk hk'
      have hag : ∀ j, j < k → P.getD j 0 = P'.getD j 0 := fun j hj => (ih j hj (by omega) (by omega)).1
      have hxF := List.getElem?_eq_getElem (l := FN) (i := k) (by rw [← A.book.len]; exact hk)
      have hyF := List.getElem?_eq_getElem (l := FN') (i := k) (by rw [← A'.book.len]; exact hk')
      obtain ⟨a, ha, ea⟩ := mem_getD ((A'.sub _).2 ((A.sub _).1 (getD_mem hk)))
      obtain ⟨b, hb, eb⟩ := mem_getD ((A.sub _).2 ((A'.sub _).1 (getD_mem hk')))
      have hka : k ≤ a := by
        rcases Nat.lt_or_ge a k with h | h
        · have := hag a h; rw [ea] at this; exact absurd (nodup_getD A.book.nodup (by omega) hk this) (by omega)
        · exact h
      have hkb : k ≤ b := by
        rcases Nat.lt_or_ge b k with h | h
        · have := hag b h; rw [eb] at this; exact absurd (nodup_getD A'.book.nodup (by omega) hk' this.symm) (by omega)
        · exact h
      have hyA := List.getElem?_eq_getElem (l := FN') (i := a) (by rw [← A'.book.len]; exact ha)
      have hxB := List.getElem?_eq_getElem (l := FN) (i := b) (by rw [← A.book.len]; exact hb)
      have n1 := same_node A.book A'.book k a hag hk hka ha ea.symm _ _ hxF hyA
      have n2 := same_node A'.book A.book k b (fun j hj => (hag j hj).symm) hk' hkb hb eb.symm _ _ hyF hxB
      rcases Nat.lt_or_ge k a with hlt | hge
      · have k1 := A'.up k a _ _ hlt hyF hyA
        rw [ea, ← n1] at k1
        rcases Nat.lt_or_ge k b with hltb | hgeb
        · have k2 := A.up k b _ _ hltb hxF hxB
          rw [eb, ← n2] at k2
          exact absurd k1 (klt_asymm k2)
        · have : b = k := by omega
          subst this
          exact absurd (nodup_getD A'.book.nodup ha hk' (ea.trans eb)) (by omega)
      · have : a = k := by omega
        subst this
        exact ⟨ea.symm, by rw [hxF, hyF, n1]⟩
  have hl : P.length = P'.length := by
    refine Nat.le_antisymm ?_ ?_
    · exact A.book.nodup.length_le_of_subset (fun x hx => (A'.sub x).2 ((A.sub x).1 hx))
    · exact A'.book.nodup.length_le_of_subset (fun x hx => (A.sub x).2 ((A'.sub x).1 hx))
  have hPl := A.book.len
  have hPl' := A'.book.len
  constructor
  · apply List.ext_getElem?
    intro k
    rcases Nat.lt_or_ge k P.length with h | h
    · exact (key k h (by omega)).2
    · rw [List.getElem?_eq_none (by omega), List.getElem?_eq_none (by omega)]
  · apply List.ext_getElem hl
    intro k h1 h2
    have := (key k h1 h2).1
    rw [List.getD_eq_getElem?_getD, List.getD_eq_getElem?_getD, List.getElem?_eq_getElem h1, List.getElem?_eq_getElem h2] at this
    exact this
theorem FormC.one {c : Nat} {FN FN' : List PL} (h : FormC c FN) (h' : FormC c FN') : FN = FN' := by
  obtain ⟨P, h⟩ := h
  obtain ⟨P', h'⟩ := h'
  exact (form_one h h').1
theorem putN_cons (y : Nat) (l : List Nat) (n : Nat) : putN (y :: l) n = if y < n then y :: putN l n else if y = n then y :: l else n :: y :: l := by
  unfold putN posN
  by_cases h : y < n
  · simp only [List.takeWhile_cons, h, decide_true, if_true, List.length_cons, List.getElem?_cons_succ, List.take_succ_cons, List.drop_succ_cons, List.cons_append]
    split <;> rfl
  · simp only [List.takeWhile_cons, h, decide_false, Bool.false_eq_true, if_false, List.length_nil, List.getElem?_cons_zero, List.take_zero, List.drop_zero, List.nil_append, Option.some.injEq]
theorem putN_up {L : List Nat} (n : Nat) (h : L.Pairwise (· < ·)) : (putN L n).Pairwise (· < ·) := by
  induction L with
  | nil => simp [putN, posN]
  | cons y l ih =>
    rw [List.pairwise_cons] at h
    rw [putN_cons]
    split
    · refine List.pairwise_cons.2 ⟨fun z hz => ?_, ih h.2⟩
      rcases (putN_mem l n z).1 hz with hz | rfl
      · exact h.1 z hz
      · assumption
    · split
      · exact List.pairwise_cons.2 h
      · refine List.pairwise_cons.2 ⟨fun z hz => ?_, List.pairwise_cons.2 h⟩
        rcases List.mem_cons.1 hz with rfl | hz
        · omega
        · have := h.1 z hz; omega
theorem sortN_up (L : List Nat) : (sortN L).Pairwise (· < ·) := by
  suffices h : ∀ (L A : List Nat), A.Pairwise (· < ·) → (L.foldl putN A).Pairwise (· < ·) by simpa [sortN] using h L [] (by simp)
  intro L
  induction L with
  | nil => intro A h; exact h
  | cons y l ih => intro A h; rw [List.foldl_cons]; exact ih _ (putN_up y h)
inductive ReachV (V : List PL) (R : List Nat) : Nat → Prop
  | root {x : Nat} : x ∈ R → ReachV V R x
  | left {x y : Nat} : ReachV V R x → y ∈ (V.getD x ([], [])).1 → ReachV V R y
  | right {x y : Nat} : ReachV V R x → y ∈ (V.getD x ([], [])).2 → ReachV V R y
def rankL (Q : List Nat) (L : List Nat) : List Nat := sortN (L.map fun x => Q.idxOf x)
def rankP (Q : List Nat) (x : PL) : PL := (rankL Q x.1, rankL Q x.2)
structure OrderIs (V : List PL) (BV : List Nat) (R : List Nat) (Q : List Nat) (FN : List PL) : Prop where
  nodup : Q.Nodup
  mem : ∀ x, x ∈ Q ↔ ReachV V R x
  nodes : FN = Q.map fun x => rankP Q (V.getD x ([], []))
  up : ∀ (i j : Nat) (x y : PL), i < j → FN[i]? = some x → FN[j]? = some y → klt (BV.getD (Q.getD i 0) 0) x (BV.getD (Q.getD j 0) 0) y
section
variable {V : List PL} {C : List Nat}
theorem BookC.getD (B : BookC V C) {j : Nat} (hj : j < V.length) : V[j]? = some (V.getD j ([], [])) := by
  rw [List.getD_eq_getElem?_getD, List.getElem?_eq_getElem hj]; rfl
theorem BookC.left (B : BookC V C) {x y : Nat} (hx : x < V.length) (hy : y ∈ (V.getD x ([], [])).1) : y < x ∧ hasL (C.getD x 0) (C.getD y 0) :=
  ⟨(B.opts x _ (B.getD hx)).1 y hy, by rw [B.code x _ (B.getD hx), hasL_mk]; exact mem_atAll.2 ⟨y, hy, rfl⟩⟩
theorem BookC.right (B : BookC V C) {x y : Nat} (hx : x < V.length) (hy : y ∈ (V.getD x ([], [])).2) : y < x ∧ hasR (C.getD x 0) (C.getD y 0) :=
  ⟨(B.opts x _ (B.getD hx)).2 y hy, by rw [B.code x _ (B.getD hx), hasR_mk]; exact mem_atAll.2 ⟨y, hy, rfl⟩⟩
theorem reach_lt (B : BookC V C) {R : List Nat} (hR : ∀ r ∈ R, r < V.length) {x : Nat} (h : ReachV V R x) : x < V.length := by
  induction h with
  | root h => exact hR _ h
  | left _ hy ih => have := (B.left ih hy).1; omega
  | right _ hy ih => have := (B.right ih hy).1; omega
theorem idx_getD {Q : List Nat} {y : Nat} (h : y ∈ Q) : Q.idxOf y < Q.length ∧ Q.getD (Q.idxOf y) 0 = y := by
  have hl := List.idxOf_lt_length_of_mem h
  refine ⟨hl, ?_⟩
  rw [List.getD_eq_getElem?_getD, List.getElem?_eq_getElem hl]
  exact List.getElem_idxOf hl
theorem mem_rankL {Q L : List Nat} {i : Nat} : i ∈ rankL Q L ↔ ∃ y ∈ L, Q.idxOf y = i := by
  unfold rankL
  rw [sortN_mem, List.mem_map]
theorem order_form (B : BookC V C) {BV : List Nat} (hb : ∀ j, j < V.length → BV.getD j 0 = bornC (C.getD j 0)) {r : Nat} (hr : r < V.length) {Q : List Nat} {FN : List PL} (O : OrderIs V BV [r] Q FN) : FormAt (C.getD r 0) FN (Q.map fun x => C.getD x 0) := by
  have hlt : ∀ x ∈ Q, x < V.length := fun x hx => reach_lt B (by simpa using hr) ((O.mem x).1 hx)
  have hF : ∀ (j : Nat) (x : PL), FN[j]? = some x → ∃ y, Q[j]? = some y ∧ y ∈ Q ∧ x = rankP Q (V.getD y ([], [])) := by
    intro j x hx
    rw [O.nodes, List.getElem?_map] at hx
    cases hq : Q[j]? with
    | none => rw [hq] at hx; cases hx
    | some y => rw [hq] at hx; exact ⟨y, rfl, List.mem_of_getElem? hq, (Option.some.inj hx).symm⟩
  have hP : ∀ y ∈ Q, (Q.map fun x => C.getD x 0).getD (Q.idxOf y) 0 = C.getD y 0 := by
    intro y hy
    obtain ⟨h1, h2⟩ := idx_getD hy
    rw [List.getD_eq_getElem?_getD, List.getElem?_map, List.getElem?_eq_getElem h1]
    rw [List.getD_eq_getElem?_getD, List.getElem?_eq_getElem h1] at h2
    simp only [Option.getD_some] at h2
    simp only [Option.map_some, Option.getD_some, h2]
  have hPj : ∀ (j y : Nat), Q[j]? = some y → (Q.map fun x => C.getD x 0).getD j 0 = C.getD y 0 := by
    intro j y h
    rw [List.getD_eq_getElem?_getD, List.getElem?_map, h]; rfl
  have hQj : ∀ (j y : Nat), Q[j]? = some y → Q.getD j 0 = y := by
    intro j y h
    rw [List.getD_eq_getElem?_getD, h]; rfl
  have hin1 : ∀ y ∈ Q, ∀ z ∈ (V.getD y ([], [])).1, z ∈ Q := fun y hy z hz => (O.mem z).2 (.left ((O.mem y).1 hy) hz)
  have hin2 : ∀ y ∈ Q, ∀ z ∈ (V.getD y ([], [])).2, z ∈ Q := fun y hy z hz => (O.mem z).2 (.right ((O.mem y).1 hy) hz)
  have hlow : ∀ (j y z : Nat), Q[j]? = some y → z ∈ Q → bornC (C.getD z 0) < bornC (C.getD y 0) → Q.idxOf z < j := by
    intro j y z hy hz hbo
    have hyQ := List.mem_of_getElem? hy
    have hj := (List.getElem?_eq_some_iff.1 hy).1
    obtain ⟨h1, h2⟩ := idx_getD hz
    rcases Nat.lt_trichotomy (Q.idxOf z) j with h | h | h
    · exact h
    · rw [h, hQj j y hy] at h2; subst h2; omega
    · have hl : FN.length = Q.length := by rw [O.nodes]; simp
      have := O.up j (Q.idxOf z) _ _ h (List.getElem?_eq_getElem (l := FN) (by omega)) (List.getElem?_eq_getElem (l := FN) (by omega))
      rw [hQj j y hy, h2, hb y (hlt y hyQ), hb z (hlt z hz)] at this
      rcases this with h | ⟨h, _⟩ <;> omega
  have hside : ∀ (y : Nat) (l : List Nat), (∀ z ∈ l, z ∈ Q) → ∀ i, i ∈ atAll (Q.map fun x => C.getD x 0) (rankL Q l) ↔ i ∈ atAll C l := by
    intro y l hl i
    rw [mem_atAll, mem_atAll]
    constructor
    · rintro ⟨k, hk, e⟩
      obtain ⟨z, hz, rfl⟩ := mem_rankL.1 hk
      rw [hP z (hl z hz)] at e
      exact ⟨z, hz, e⟩
    · rintro ⟨z, hz, e⟩
      exact ⟨Q.idxOf z, mem_rankL.2 ⟨z, hz, rfl⟩, by rw [hP z (hl z hz)]; exact e⟩
  refine ⟨⟨by rw [O.nodes]; simp, fun j x hx => ?_, fun j x hx => ?_, fun j x hx => ?_, ?_⟩, fun x => ⟨fun hx => ?_, fun hx => ?_⟩, fun i j x y hij hx hy => ?_⟩
  · obtain ⟨y, hy, hyQ, rfl⟩ := hF j x hx
    constructor
    · intro i hi
      obtain ⟨z, hz, rfl⟩ := mem_rankL.1 hi
      exact hlow j y z hy (hin1 y hyQ z hz) (bornC_lt (.inl (B.left (hlt y hyQ) hz).2))
    · intro i hi
      obtain ⟨z, hz, rfl⟩ := mem_rankL.1 hi
      exact hlow j y z hy (hin2 y hyQ z hz) (bornC_lt (.inr (B.right (hlt y hyQ) hz).2))
  · obtain ⟨y, hy, hyQ, rfl⟩ := hF j x hx
    exact ⟨sortN_up _, sortN_up _⟩
  · obtain ⟨y, hy, hyQ, rfl⟩ := hF j x hx
    rw [hPj j y hy, B.code y _ (B.getD (hlt y hyQ))]
    exact mkC_ext (fun i => (hside y _ (hin1 y hyQ) i).symm) (fun i => (hside y _ (hin2 y hyQ) i).symm)
  · refine List.nodup_iff_pairwise_ne.2 (List.pairwise_map.2 ((List.nodup_iff_pairwise_ne.1 O.nodup).imp_of_mem fun {a b} ha hb' hne e => hne ?_))
    have hl := B.len
    exact nodup_getD B.nodup (by have := hlt a ha; omega) (by have := hlt b hb'; omega) e
  · obtain ⟨y, hy, rfl⟩ := List.mem_map.1 hx
    have hr' := (O.mem y).1 hy
    clear hx hy
    induction hr' with
    | root h => simp at h; subst h; exact .root
    | left h hz ih => exact .step ih (.inl (B.left (reach_lt B (by simpa using hr) h) hz).2)
    | right h hz ih => exact .step ih (.inr (B.right (reach_lt B (by simpa using hr) h) hz).2)
  · induction hx with
    | root => exact List.mem_map.2 ⟨r, (O.mem r).2 (.root (by simp)), rfl⟩
    | step _ ho ih =>
      obtain ⟨y, hy, rfl⟩ := List.mem_map.1 ih
      rw [B.code y _ (B.getD (hlt y hy))] at ho
      rcases ho with ho | ho
      · rw [hasL_mk] at ho
        obtain ⟨z, hz, rfl⟩ := mem_atAll.1 ho
        exact List.mem_map.2 ⟨z, hin1 y hy z hz, rfl⟩
      · rw [hasR_mk] at ho
        obtain ⟨z, hz, rfl⟩ := mem_atAll.1 ho
        exact List.mem_map.2 ⟨z, hin2 y hy z hz, rfl⟩
  · obtain ⟨a, ha, haQ, rfl⟩ := hF i x hx
    obtain ⟨b, hb', hbQ, rfl⟩ := hF j y hy
    have := O.up i j _ _ hij hx hy
    rw [hQj i a ha, hQj j b hb', hb a (hlt a haQ), hb b (hlt b hbQ)] at this
    rw [hPj i a ha, hPj j b hb']
    exact this
end
theorem cmpL_eq : ∀ (a b : List Nat), cmpL a b = 0 → a = b
  | [], [] => fun _ => rfl
  | [], y :: b => fun h => by simp [cmpL] at h
  | x :: a, [] => fun h => by simp [cmpL] at h
  | x :: a, y :: b => fun h => by
    unfold cmpL at h
    by_cases e : x = y
    · subst e; rw [if_pos rfl] at h; rw [cmpL_eq a b h]
    · rw [if_neg e] at h; split at h <;> cases h
theorem cmpL_trans : ∀ (a b c : List Nat), cmpL a b < 0 → cmpL b c < 0 → cmpL a c < 0
  | [], [], c => fun h _ => by simp [cmpL] at h
  | [], y :: b, [] => fun _ h => by simp [cmpL] at h
  | [], y :: b, z :: c => fun _ _ => by simp [cmpL]
  | x :: a, [], c => fun h _ => by simp [cmpL] at h
  | x :: a, y :: b, [] => fun _ h => by simp [cmpL] at h
  | x :: a, y :: b, z :: c => fun h1 h2 => by
    have ih := cmpL_trans a b c
    unfold cmpL at h1 h2 ⊢
    by_cases e1 : x = y
    · subst e1
      rw [if_pos rfl] at h1
      by_cases e2 : x = z
      · subst e2; rw [if_pos rfl] at h2 ⊢; exact ih h1 h2
      · rw [if_neg e2] at h2 ⊢; exact h2
    · rw [if_neg e1] at h1
      have hxy : x < y := by
        by_cases q : x < y
        · exact q
        · rw [if_neg q] at h1; omega
      by_cases e2 : y = z
      · subst e2; rw [if_neg e1, if_pos hxy]; omega
      · rw [if_neg e2] at h2
        have hyz : y < z := by
          by_cases q : y < z
          · exact q
          · rw [if_neg q] at h2; omega
        rw [if_neg (by omega), if_pos (by omega)]; omega
theorem aheadB_trans {x y z : PL} (h1 : aheadB x y = true) (h2 : aheadB y z = true) : aheadB x z = true := by
  unfold aheadB at h1 h2 ⊢
  by_cases e1 : cmpL x.1 y.1 = 0
  · rw [if_pos e1] at h1
    rw [cmpL_eq _ _ e1]
    by_cases e2 : cmpL y.1 z.1 = 0
    · rw [if_pos e2] at h2 ⊢
      simp only [decide_eq_true_eq] at h1 h2 ⊢
      exact cmpL_trans _ _ _ h1 h2
    · rw [if_neg e2] at h2 ⊢; exact h2
  · rw [if_neg e1] at h1
    simp only [decide_eq_true_eq] at h1
    by_cases e2 : cmpL y.1 z.1 = 0
    · rw [← cmpL_eq _ _ e2, if_neg e1]; simpa using h1
    · rw [if_neg e2] at h2
      simp only [decide_eq_true_eq] at h2
      have := cmpL_trans _ _ _ h1 h2
      rw [if_neg (by omega)]; simpa using this
theorem aheadB_tri {x y : PL} (h1 : aheadB x y = false) (h2 : aheadB y x = false) : x = y := by
  unfold aheadB at h1 h2
  have s1 := cmpL_swap x.1 y.1
  have s2 := cmpL_swap x.2 y.2
  by_cases e : cmpL x.1 y.1 = 0
  · rw [if_pos e] at h1
    rw [if_pos (by omega)] at h2
    simp only [decide_eq_false_iff_not] at h1 h2
    exact Prod.ext (cmpL_eq _ _ e) (cmpL_eq _ _ (by omega))
  · rw [if_neg e] at h1
    rw [if_neg (by omega)] at h2
    simp only [decide_eq_false_iff_not] at h1 h2
    omega
def poolPut (V : List PL) (BV : List Nat) (L R : List Nat) : List PL × List Nat × Nat :=
  if (sortN L, sortN R) ∈ V then (V, BV, V.idxOf (sortN L, sortN R)) else (V ++ [(sortN L, sortN R)], BV ++ [bornL BV (bornL BV 0 (sortN L)) (sortN R)], V.length)
theorem poolPut_lt (V : List PL) (BV : List Nat) (L R : List Nat) : (poolPut V BV L R).2.2 < (poolPut V BV L R).1.length ∧ (poolPut V BV L R).1.length ≤ V.length + 1 ∧ V <+: (poolPut V BV L R).1 := by
  unfold poolPut
  split
  · rename_i h; exact ⟨List.idxOf_lt_length_of_mem h, by simp, List.prefix_refl _⟩
  · simp
def nodeV (V : List PL) (x : Nat) : PL := V.getD x ([], [])
structure QOk (V : List PL) (BV : List Nat) (Q : List Nat) : Prop where
  nodup : Q.Nodup
  sorted : Q.Pairwise fun a b => BV.getD a 0 ≤ BV.getD b 0
  opt1 : ∀ x ∈ Q, ∀ y ∈ (nodeV V x).1, y ∈ Q ∧ BV.getD y 0 < BV.getD x 0
  opt2 : ∀ x ∈ Q, ∀ y ∈ (nodeV V x).2, y ∈ Q ∧ BV.getD y 0 < BV.getD x 0
  up : ∀ x ∈ Q, (nodeV V x).1.Pairwise (· < ·) ∧ (nodeV V x).2.Pairwise (· < ·)
  inj : ∀ x ∈ Q, ∀ y ∈ Q, nodeV V x = nodeV V y → x = y
structure GInv (V : List PL) (BV : List Nat) (Q A : List Nat) (n : Nat) : Prop where
  le : n ≤ Q.length
  perm : A.Perm (Q.take n)
  cut : ∀ x ∈ Q.take n, ∀ y ∈ Q.drop n, BV.getD x 0 < BV.getD y 0
  up : A.Pairwise fun x y => klt (BV.getD x 0) (rankP A (nodeV V x)) (BV.getD y 0) (rankP A (nodeV V y))
theorem GInv.start (V : List PL) (BV Q : List Nat) : GInv V BV Q [] 0 := ⟨Nat.zero_le _, by simp, by simp, by simp⟩
theorem idxOf_append_mem {A G : List Nat} {x : Nat} (h : x ∈ A) : (A ++ G).idxOf x = A.idxOf x := by
  rw [List.idxOf_append, if_pos h]
theorem rankL_append {A G l : List Nat} (h : ∀ x ∈ l, x ∈ A) : rankL (A ++ G) l = rankL A l := by
  unfold rankL
  rw [List.map_congr_left fun x hx => idxOf_append_mem (h x hx)]
theorem rankP_append {A G : List Nat} {x : PL} (h1 : ∀ y ∈ x.1, y ∈ A) (h2 : ∀ y ∈ x.2, y ∈ A) : rankP (A ++ G) x = rankP A x := by
  unfold rankP
  rw [rankL_append h1, rankL_append h2]
theorem rankL_inj {A l l' : List Nat} (h : ∀ x ∈ l, x ∈ A) (h' : ∀ x ∈ l', x ∈ A) (u : l.Pairwise (· < ·)) (u' : l'.Pairwise (· < ·)) (e : rankL A l = rankL A l') : l = l' := by
  have key : ∀ {a b : List Nat}, (∀ x ∈ a, x ∈ A) → (∀ x ∈ b, x ∈ A) → rankL A a = rankL A b → ∀ x ∈ a, x ∈ b := by
    intro a b ha hb e x hx
    have : A.idxOf x ∈ rankL A b := by rw [← e]; exact mem_rankL.2 ⟨x, hx, rfl⟩
    obtain ⟨y, hy, hxy⟩ := mem_rankL.1 this
    have h1 := (idx_getD (ha x hx)).2
    have h2 := (idx_getD (hb y hy)).2
    rw [hxy] at h2
    rw [← h1, h2]; exact hy
  exact up_ext u u' fun x => ⟨key h h' e x, key h' h e.symm x⟩
section
variable {V : List PL} {BV Q A : List Nat} {n : Nat}
theorem GInv.mem (h : GInv V BV Q A n) (x : Nat) : x ∈ A ↔ x ∈ Q.take n := h.perm.mem_iff
theorem QOk.low (q : QOk V BV Q) (h : GInv V BV Q A n) {x y : Nat} (hx : x ∈ Q) (hy : y ∈ Q) (hlt : BV.getD y 0 < BV.getD x 0) (hb : x ∈ A ∨ ∀ z ∈ Q.drop n, BV.getD x 0 ≤ BV.getD z 0) : y ∈ A := by
  rw [h.mem]
  have : y ∈ Q.take n ++ Q.drop n := by rw [List.take_append_drop]; exact hy
  rcases List.mem_append.1 this with this | this
  · exact this
  · rcases hb with hb | hb
    · have := h.cut x ((h.mem x).1 hb) y this; omega
    · have := hb y this; omega
theorem QOk.closed (q : QOk V BV Q) (h : GInv V BV Q A n) {x : Nat} (hx : x ∈ A) : (∀ y ∈ (nodeV V x).1, y ∈ A) ∧ ∀ y ∈ (nodeV V x).2, y ∈ A := by
  have hxQ : x ∈ Q := List.mem_of_mem_take ((h.mem x).1 hx)
  exact ⟨fun y hy => q.low h hxQ (q.opt1 x hxQ y hy).1 (q.opt1 x hxQ y hy).2 (.inl hx), fun y hy => q.low h hxQ (q.opt2 x hxQ y hy).1 (q.opt2 x hxQ y hy).2 (.inl hx)⟩
theorem QOk.group (q : QOk V BV Q) (h : GInv V BV Q A n) (hn : n < Q.length) {x : Nat} (hx : x ∈ Q) (hb : BV.getD x 0 = BV.getD (Q.getD n 0) 0) : (∀ y ∈ (nodeV V x).1, y ∈ A) ∧ ∀ y ∈ (nodeV V x).2, y ∈ A := by
  have hz : ∀ z ∈ Q.drop n, BV.getD x 0 ≤ BV.getD z 0 := by
    intro z hz
    rw [hb]
    rw [List.drop_eq_getElem_cons hn] at hz
    rcases List.mem_cons.1 hz with rfl | hz
    · rw [List.getD_eq_getElem?_getD (l := Q), List.getElem?_eq_getElem hn]; exact Nat.le_refl _
    · have := q.sorted
      rw [← List.take_append_drop n Q, List.pairwise_append] at this
      have h2 := this.2.1
      rw [List.drop_eq_getElem_cons hn, List.pairwise_cons] at h2
      have h3 := h2.1 z hz
      rw [List.getD_eq_getElem?_getD (l := Q), List.getElem?_eq_getElem hn]; exact h3
  exact ⟨fun y hy => q.low h hx (q.opt1 x hx y hy).1 (q.opt1 x hx y hy).2 (.inr hz), fun y hy => q.low h hx (q.opt2 x hx y hy).1 (q.opt2 x hx y hy).2 (.inr hz)⟩
theorem GInv.step (q : QOk V BV Q) (h : GInv V BV Q A n) {m : Nat} {G G' : List Nat} (hm : 0 < m) (hnm : n + m ≤ Q.length) (hG : G = (Q.drop n).take m) (hb : ∀ x ∈ G, BV.getD x 0 = BV.getD (Q.getD n 0) 0)
    (hend : n + m = Q.length ∨ BV.getD (Q.getD (n + m) 0) 0 ≠ BV.getD (Q.getD n 0) 0) (hp : G'.Perm G) (hs : G'.Pairwise fun a b => aheadB (rankP A (nodeV V b)) (rankP A (nodeV V a)) = false) : GInv V BV Q (A ++ G') (n + m) := by
  have hn : n < Q.length := by omega
  have htake : Q.take (n + m) = Q.take n ++ (Q.drop n).take m := List.take_add
  have hdrop : Q.drop (n + m) = (Q.drop n).drop m := by rw [List.drop_drop]
  have hGQ : ∀ x ∈ G, x ∈ Q := fun x hx => by rw [hG] at hx; exact List.mem_of_mem_drop (List.mem_of_mem_take hx)
  have hG'Q : ∀ x ∈ G', x ∈ G := fun x hx => (hp.mem_iff).1 hx
  have hGd : ∀ x ∈ G, x ∈ Q.drop n := fun x hx => by rw [hG] at hx; exact List.mem_of_mem_take hx
  have hnd : G'.Nodup := by
    rw [hp.nodup_iff, hG]
    exact (List.take_sublist _ _).nodup ((List.drop_sublist _ _).nodup q.nodup)
  refine ⟨hnm, ?_, ?_, ?_⟩
  · rw [htake, ← hG]; exact h.perm.append hp
  · intro x hx y hy
    have hyb : BV.getD (Q.getD n 0) 0 < BV.getD y 0 := by
      have hlt : n + m < Q.length := by
        rcases Nat.lt_or_ge (n + m) Q.length with h1 | h1
        · exact h1
        · rw [List.drop_eq_nil_of_le h1] at hy; cases hy
      have hne : BV.getD (Q.getD (n + m) 0) 0 ≠ BV.getD (Q.getD n 0) 0 := by
        rcases hend with h1 | h1
        · omega
        · exact h1
      have e1 : Q.getD n 0 = Q[n] := by rw [List.getD_eq_getElem?_getD, List.getElem?_eq_getElem hn]; rfl
      have e2 : Q.getD (n + m) 0 = Q[n + m] := by rw [List.getD_eq_getElem?_getD, List.getElem?_eq_getElem hlt]; rfl
      have h1 := List.pairwise_iff_getElem.1 q.sorted n (n + m) hn hlt (by omega)
      rw [← e1, ← e2] at h1
      rw [List.drop_eq_getElem_cons hlt] at hy
      rcases List.mem_cons.1 hy with rfl | hy
      · rw [← e2]; omega
      · have := q.sorted
        rw [← List.take_append_drop (n + m) Q, List.pairwise_append] at this
        have h2 := this.2.1
        rw [List.drop_eq_getElem_cons hlt, List.pairwise_cons] at h2
        have h3 := h2.1 y hy
        rw [← e2] at h3; omega
    rw [htake, ← hG, List.mem_append] at hx
    rcases hx with hx | hx
    · refine h.cut x hx y ?_
      rw [hdrop] at hy; exact List.mem_of_mem_drop hy
    · rw [hb x hx]; exact hyb
  · have hA : ∀ x ∈ A, rankP (A ++ G') (nodeV V x) = rankP A (nodeV V x) := fun x hx => rankP_append (q.closed h hx).1 (q.closed h hx).2
    have hGr : ∀ x ∈ G', rankP (A ++ G') (nodeV V x) = rankP A (nodeV V x) := fun x hx =>
      have hg := q.group h hn (hGQ x (hG'Q x hx)) (hb x (hG'Q x hx))
      rankP_append hg.1 hg.2
    refine List.pairwise_append.2 ⟨h.up.imp_of_mem fun {a b} ha hb' hk => ?_, ?_, fun x hx y hy => ?_⟩
    · rw [hA a ha, hA b hb']; exact hk
    · refine ((List.nodup_iff_pairwise_ne.1 hnd).and hs).imp_of_mem fun {a b} ha hb' hk => ?_
      have ga := hG'Q a ha
      have gb := hG'Q b hb'
      have g1 := q.group h hn (hGQ a ga) (hb a ga)
      have g2 := q.group h hn (hGQ b gb) (hb b gb)
      rw [hGr a ha, hGr b hb']
      refine .inr ⟨by rw [hb a ga, hb b gb], ?_⟩
      cases hc : aheadB (rankP A (nodeV V a)) (rankP A (nodeV V b)) with
      | true => rfl
      | false =>
        exfalso
        have e := aheadB_tri hc hk.2
        unfold rankP at e
        have e1 := rankL_inj g1.1 g2.1 (q.up a (hGQ a ga)).1 (q.up b (hGQ b gb)).1 (congrArg Prod.fst e)
        have e2 := rankL_inj g1.2 g2.2 (q.up a (hGQ a ga)).2 (q.up b (hGQ b gb)).2 (congrArg Prod.snd e)
        exact hk.1 (q.inj a (hGQ a ga) b (hGQ b gb) (Prod.ext e1 e2))
    · exact .inl (h.cut x ((h.mem x).1 hx) y ((hGd y (hG'Q y hy))) |> fun h1 => h1)
theorem GInv.order (h : GInv V BV Q A Q.length) (hn : Q.Nodup) {R : List Nat} (hr : ∀ x, x ∈ Q ↔ ReachV V R x) : OrderIs V BV R A (A.map fun x => rankP A (nodeV V x)) := by
  have hp := h.perm
  rw [List.take_length] at hp
  refine ⟨(hp.nodup_iff).2 hn, fun x => (hp.mem_iff).trans (hr x), rfl, fun i j x y hij hx hy => ?_⟩
  rw [List.getElem?_map] at hx hy
  cases ha : A[i]? with
  | none => rw [ha] at hx; cases hx
  | some a =>
    cases hb : A[j]? with
    | none => rw [hb] at hy; cases hy
    | some b =>
      rw [ha] at hx; rw [hb] at hy
      cases hx; cases hy
      obtain ⟨hi, rfl⟩ := List.getElem?_eq_some_iff.1 ha
      obtain ⟨hj, rfl⟩ := List.getElem?_eq_some_iff.1 hb
      rw [List.getD_eq_getElem?_getD (l := A), ha, List.getD_eq_getElem?_getD (l := A), hb]
      exact List.pairwise_iff_getElem.1 h.up i j hi hj hij
end
end Go.Proofs.YtiidnnpanickaaaGreatDoor
