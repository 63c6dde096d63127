/- Canonical forms of games: each game equals at most one; what is reversible is bypassed, what is dominated left out. -/
import Derived.Test.YtioiljboihehcaaGreatDoorSumLaw
namespace Go.Proofs.YtioiljboihehcaaGreatDoor
set_option linter.unusedVariables false
set_option linter.unusedSimpArgs false
open Go.RowKit

theorem ge_refl (a : Nat) : geC a a = true := by
  induction a using Nat.strongRecOn with
  | _ a ih =>
    rw [geC_iff]
    constructor
    · intro r hr
      cases h : geC a r with
      | false => rfl
      | true =>
        have h1 := ((geC_iff a r).1 h).1 r hr
        rw [ih r (optC_lt (.inr hr))] at h1
        cases h1
    · intro l hl
      cases h : geC l a with
      | false => rfl
      | true =>
        have h1 := ((geC_iff l a).1 h).2 l hl
        rw [ih l (optC_lt (.inl hl))] at h1
        cases h1
theorem ge_right {a b r : Nat} (h : geC a b = true) (hr : hasR a r) : geC b r = false := ((geC_iff a b).1 h).1 r hr
theorem ge_left {a b l : Nat} (h : geC a b = true) (hl : hasL b l) : geC l a = false := ((geC_iff a b).1 h).2 l hl
theorem ge_intro {a b : Nat} (h1 : ∀ r, hasR a r → geC b r = false) (h2 : ∀ l, hasL b l → geC l a = false) : geC a b = true := (geC_iff a b).2 ⟨h1, h2⟩
theorem ge_not {a b : Nat} (h : geC a b = false) : (∃ r, hasR a r ∧ geC b r = true) ∨ ∃ l, hasL b l ∧ geC l a = true := by
  refine Classical.byContradiction fun q => ?_
  have : geC a b = true := ge_intro (fun r hr => by
    cases e : geC b r with
    | false => rfl
    | true => exact absurd (.inl ⟨r, hr, e⟩) q) (fun l hl => by
    cases e : geC l a with
    | false => rfl
    | true => exact absurd (.inr ⟨l, hl, e⟩) q)
  rw [h] at this; cases this
theorem ge_trans' (n : Nat) : ∀ a b c, a + b + c < n → geC a b = true → geC b c = true → geC a c = true := by
  induction n with
  | zero => intro a b c h; omega
  | succ n ih =>
    intro a b c hn h1 h2
    refine ge_intro (fun r hr => ?_) fun l hl => ?_
    · cases e : geC c r with
      | false => rfl
      | true =>
        have hlt := optC_lt (.inr hr)
        have h3 := ih b c r (by omega) h2 e
        rw [ge_right h1 hr] at h3; cases h3
    · cases e : geC l a with
      | false => rfl
      | true =>
        have hlt := optC_lt (.inl hl)
        have h3 := ih l a b (by omega) e h1
        rw [ge_left h2 hl] at h3; cases h3
theorem ge_trans {a b c : Nat} (h1 : geC a b = true) (h2 : geC b c = true) : geC a c = true := ge_trans' _ a b c (Nat.lt_succ_self _) h1 h2
theorem not_ge_of_le {a b c : Nat} (h1 : geC a b = true) (h2 : geC a c = false) : geC b c = false := by
  cases e : geC b c with
  | false => rfl
  | true => rw [ge_trans h1 e] at h2; cases h2
theorem not_ge_of_ge {a b c : Nat} (h1 : geC c b = true) (h2 : geC a b = false) : geC a c = false := by
  cases e : geC a c with
  | false => rfl
  | true => rw [ge_trans e h1] at h2; cases h2
theorem opt_left {a l : Nat} (h : hasL a l) : geC l a = false := ge_left (ge_refl a) h
theorem opt_right {a r : Nat} (h : hasR a r) : geC a r = false := ge_right (ge_refl a) h

/-- Nothing of a game's options is dominated, nothing reversible. -/
structure CanC1 (a : Nat) : Prop where
  domL : ∀ l l', hasL a l → hasL a l' → geC l' l = true → l' = l
  domR : ∀ r r', hasR a r → hasR a r' → geC r r' = true → r' = r
  revL : ∀ l r, hasL a l → hasR l r → geC a r = false
  revR : ∀ r l, hasR a r → hasL r l → geC l a = false
/-- A game in canonical form. -/
def CanC (a : Nat) : Prop := ∀ x, SubC a x → CanC1 x
theorem CanC.opt {a x : Nat} (h : CanC a) (ho : optC a x) : CanC x := fun y hy => h y ((SubC.root.step ho).trans hy)
theorem CanC.mk {a : Nat} (h : CanC1 a) (ho : ∀ x, optC a x → CanC x) : CanC a := by
  intro x hx
  have key : x = a ∨ ∃ y, optC a y ∧ SubC y x := by
    induction hx with
    | root => exact .inl rfl
    | step _ hop ih =>
      rcases ih with rfl | ⟨y, hy, hs⟩
      · exact .inr ⟨_, hop, .root⟩
      · exact .inr ⟨y, hy, hs.step hop⟩
  rcases key with rfl | ⟨y, hy, hs⟩
  · exact h
  · exact ho y hy x hs
theorem can_half (a b : Nat) (ih : ∀ x y, x + y < a + b → CanC x → CanC y → geC x y = true → geC y x = true → x = y) (ca : CanC a) (cb : CanC b) (hab : geC a b = true) (hba : geC b a = true) :
    (∀ l, hasL a l → hasL b l) ∧ ∀ r, hasR a r → hasR b r := by
  have ka := ca a .root
  have kb := cb b .root
  constructor
  · intro l hl
    rcases ge_not (ge_left hba hl) with ⟨r, hr, e⟩ | ⟨l', hl', e⟩
    · have := ge_trans hab e
      rw [ka.revL l r hl hr] at this; cases this
    · rcases ge_not (ge_left hab hl') with ⟨r, hr, e'⟩ | ⟨l2, hl2, e'⟩
      · have := ge_trans hba e'
        rw [kb.revL l' r hl' hr] at this; cases this
      · obtain rfl := ka.domL l l2 hl hl2 (ge_trans e' e)
        have h1 := optC_lt (.inl hl); have h2 := optC_lt (.inl hl')
        rw [ih l2 l' (by omega) (ca.opt (.inl hl)) (cb.opt (.inl hl')) e' e]
        exact hl'
  · intro r hr
    rcases ge_not (ge_right hab hr) with ⟨r', hr', e⟩ | ⟨l, hl, e⟩
    · rcases ge_not (ge_right hba hr') with ⟨r2, hr2, e'⟩ | ⟨l, hl, e'⟩
      · obtain rfl := ka.domR r r2 hr hr2 (ge_trans e e')
        have h1 := optC_lt (.inr hr); have h2 := optC_lt (.inr hr')
        rw [ih r2 r' (by omega) (ca.opt (.inr hr)) (cb.opt (.inr hr')) e e']
        exact hr'
      · have := ge_trans e' hab
        rw [kb.revR r' l hr' hl] at this; cases this
    · have := ge_trans e hba
      rw [ka.revR r l hr hl] at this; cases this
theorem can_one' (n : Nat) : ∀ a b, a + b < n → CanC a → CanC b → geC a b = true → geC b a = true → a = b := by
  induction n with
  | zero => intro a b h; omega
  | succ n ih =>
    intro a b hn ca cb hab hba
    obtain ⟨p1, p2⟩ := can_half a b (fun x y h => ih x y (by omega)) ca cb hab hba
    obtain ⟨q1, q2⟩ := can_half b a (fun x y h => ih x y (by omega)) cb ca hba hab
    exact code_ext (fun i => ⟨p1 i, q1 i⟩) fun i => ⟨p2 i, q2 i⟩
/-- Games in canonical form that are equal are the same. -/
theorem can_one {a b : Nat} (ca : CanC a) (cb : CanC b) (hab : geC a b = true) (hba : geC b a = true) : a = b := can_one' _ a b (Nat.lt_succ_self _) ca cb hab hba

open Classical in
/-- The canonical form of a game. -/
noncomputable def canC (f : Nat) : Nat := if h : ∃ c, CanC c ∧ geC c f = true ∧ geC f c = true then Classical.choose h else 0
theorem canC_of {f c : Nat} (h : CanC c) (h1 : geC c f = true) (h2 : geC f c = true) : c = canC f := by
  have he : ∃ c, CanC c ∧ geC c f = true ∧ geC f c = true := ⟨c, h, h1, h2⟩
  unfold canC
  rw [dif_pos he]
  obtain ⟨k0, k1, k2⟩ := Classical.choose_spec he
  exact can_one h k0 (ge_trans h1 k2) (ge_trans k1 h2)
theorem canC_self {c : Nat} (h : CanC c) : canC c = c := (canC_of h (ge_refl c) (ge_refl c)).symm

/-- What is left of a game's options once the reversible ones are bypassed and the dominated ones left out is equal to the game. -/
theorem reduce_eq {f : Nat} {KL KR SL SR : List Nat} (aL : ∀ i ∈ KL, geC i f = false) (aR : ∀ i ∈ KR, geC f i = false)
    (sL : ∀ i ∈ SL, (∃ j ∈ KL, geC j i = true) ∨ ∃ k, hasR i k ∧ geC f k = true ∧ ∀ l, hasL k l → l ∈ SL)
    (sR : ∀ i ∈ SR, (∃ j ∈ KR, geC i j = true) ∨ ∃ k, hasL i k ∧ geC k f = true ∧ ∀ r, hasR k r → r ∈ SR)
    (oL : ∀ l, hasL f l → ∃ i ∈ SL, geC i l = true) (oR : ∀ r, hasR f r → ∃ i ∈ SR, geC r i = true) :
    geC (mkC KL KR) f = true ∧ geC f (mkC KL KR) = true := by
  have cL : ∀ n i, i < n → i ∈ SL → geC i (mkC KL KR) = false := by
    intro n
    induction n with
    | zero => intro i h; omega
    | succ n ih =>
      intro i hn hi
      rcases sL i hi with ⟨j, hj, e⟩ | ⟨k, hk, e, hs⟩
      · exact not_ge_of_le e (opt_left ((hasL_mk KL KR j).2 hj))
      · have hlt := optC_lt (.inr hk)
        have hg : geC (mkC KL KR) k = true := ge_intro (fun r hr => not_ge_of_le e (aR r ((hasR_mk KL KR r).1 hr))) fun l hl => ih l (by have := optC_lt (.inl hl); omega) (hs l hl)
        exact not_ge_of_ge hg (opt_right hk)
  have cR : ∀ n i, i < n → i ∈ SR → geC (mkC KL KR) i = false := by
    intro n
    induction n with
    | zero => intro i h; omega
    | succ n ih =>
      intro i hn hi
      rcases sR i hi with ⟨j, hj, e⟩ | ⟨k, hk, e, hs⟩
      · exact not_ge_of_ge e (opt_right ((hasR_mk KL KR j).2 hj))
      · have hlt := optC_lt (.inl hk)
        have hg : geC k (mkC KL KR) = true := ge_intro (fun r hr => ih r (by have := optC_lt (.inr hr); omega) (hs r hr)) fun l hl => not_ge_of_ge e (aL l ((hasL_mk KL KR l).1 hl))
        exact not_ge_of_le hg (opt_left hk)
  constructor
  · refine ge_intro (fun r hr => aR r ((hasR_mk KL KR r).1 hr)) fun l hl => ?_
    obtain ⟨i, hi, e⟩ := oL l hl
    exact not_ge_of_le e (cL _ i (Nat.lt_succ_self _) hi)
  · refine ge_intro (fun r hr => ?_) fun l hl => aL l ((hasL_mk KL KR l).1 hl)
    obtain ⟨i, hi, e⟩ := oR r hr
    exact not_ge_of_ge e (cR _ i (Nat.lt_succ_self _) hi)
/-- And it is in canonical form, if what is left is, with nothing dominated and nothing reversible. -/
theorem reduce_can {f : Nat} {KL KR : List Nat} (e1 : geC (mkC KL KR) f = true) (e2 : geC f (mkC KL KR) = true) (cL : ∀ i ∈ KL, CanC i) (cR : ∀ i ∈ KR, CanC i)
    (dL : ∀ i ∈ KL, ∀ j ∈ KL, geC j i = true → j = i) (dR : ∀ i ∈ KR, ∀ j ∈ KR, geC i j = true → j = i)
    (rL : ∀ i ∈ KL, ∀ r, hasR i r → geC f r = false) (rR : ∀ i ∈ KR, ∀ l, hasL i l → geC l f = false) : CanC (mkC KL KR) := by
  refine CanC.mk ⟨fun l l' h h' => dL l ((hasL_mk KL KR l).1 h) l' ((hasL_mk KL KR l').1 h'), fun r r' h h' => dR r ((hasR_mk KL KR r).1 h) r' ((hasR_mk KL KR r').1 h'), fun l r h h' => not_ge_of_le e2 (rL l ((hasL_mk KL KR l).1 h) r h'), fun r l h h' => not_ge_of_ge e1 (rR r ((hasR_mk KL KR r).1 h) l h')⟩ ?_
  rintro x (h | h)
  · exact cL x ((hasL_mk KL KR x).1 h)
  · exact cR x ((hasR_mk KL KR x).1 h)

theorem mem_without {L P : List Nat} {x : Nat} : x ∈ withoutL L P ↔ ∃ i, L[i]? = some x ∧ i ∉ P := by
  unfold withoutL
  rw [List.mem_map]
  constructor
  · rintro ⟨⟨y, i⟩, h, rfl⟩
    rw [List.mem_filter] at h
    exact ⟨i, List.mem_zipIdx_iff_getElem?.1 h.1, by simpa using h.2⟩
  · rintro ⟨i, h, hP⟩
    exact ⟨(x, i), List.mem_filter.2 ⟨List.mem_zipIdx_iff_getElem?.2 h, by simpa using hP⟩, rfl⟩
theorem mem_dom {g : Nat → Nat → Bool} {L : List Nat} {k : Nat} : k ∈ domB g L ↔ k < L.length ∧ ∃ j, j < L.length ∧ domP g L k j = true := by
  unfold domB
  rw [List.mem_filter, List.mem_range, List.any_eq_true]
  simp only [List.mem_range]
theorem domP_iff {g : Nat → Nat → Bool} {L : List Nat} {k j : Nat} : domP g L k j = true ↔ j ≠ k ∧ g (L.getD k 0) (L.getD j 0) = true ∧ (g (L.getD j 0) (L.getD k 0) = false ∨ j < k) := by
  unfold domP
  rw [Bool.and_eq_true, Bool.and_eq_true, Bool.or_eq_true, decide_eq_true_eq, decide_eq_true_eq, Bool.not_eq_true']
theorem domP_trans {g : Nat → Nat → Bool} (ht : ∀ a b c, g a b = true → g b c = true → g a c = true) {L : List Nat} {k j i : Nat} (h : domP g L k j = true) (h' : domP g L j i = true) : domP g L k i = true := by
  rw [domP_iff] at h h' ⊢
  obtain ⟨n1, g1, o1⟩ := h
  obtain ⟨n2, g2, o2⟩ := h'
  have g3 := ht _ _ _ g1 g2
  have key : g (L.getD i 0) (L.getD k 0) = false ∨ i < k := by
    cases e : g (L.getD i 0) (L.getD k 0) with
    | false => exact .inl rfl
    | true =>
      have e1 := ht _ _ _ g2 e
      have e2 := ht _ _ _ e g1
      rcases o1 with o | o
      · rw [o] at e1; cases e1
      · rcases o2 with p | p
        · rw [p] at e2; cases e2
        · exact .inr (by omega)
  refine ⟨fun e => ?_, g3, key⟩
  subst e
  rcases o1 with o | o
  · rw [o] at g2; cases g2
  · rcases o2 with p | p
    · rw [p] at g1; cases g1
    · omega
theorem dom_cover {g : Nat → Nat → Bool} (ht : ∀ a b c, g a b = true → g b c = true → g a c = true) (L : List Nat) : ∀ n k, k < L.length → ((List.range L.length).filter (domP g L k)).length < n →
    ∃ j, j < L.length ∧ j ∉ domB g L ∧ (j = k ∨ g (L.getD k 0) (L.getD j 0) = true) := by
  intro n
  induction n with
  | zero => intro k _ h; omega
  | succ n ih =>
    intro k hk hn
    by_cases hd : k ∈ domB g L
    · obtain ⟨_, j, hj, hp⟩ := mem_dom.1 hd
      have hlt : ((List.range L.length).filter (domP g L j)).length + 1 ≤ ((List.range L.length).filter (domP g L k)).length := by
        have hnd : (j :: (List.range L.length).filter (domP g L j)).Nodup := by
          refine List.nodup_cons.2 ⟨fun h => ?_, List.nodup_range.filter _⟩
          exact (domP_iff.1 (List.mem_filter.1 h).2).1 rfl
        have := hnd.length_le_of_subset (l₂ := (List.range L.length).filter (domP g L k)) (fun x hx => by
          rcases List.mem_cons.1 hx with rfl | hx
          · exact List.mem_filter.2 ⟨List.mem_range.2 hj, hp⟩
          · obtain ⟨h1, h2⟩ := List.mem_filter.1 hx
            exact List.mem_filter.2 ⟨h1, domP_trans ht hp h2⟩)
        simpa using this
      obtain ⟨i, hi, hni, h⟩ := ih j hj (by omega)
      refine ⟨i, hi, hni, .inr ?_⟩
      have g1 := (domP_iff.1 hp).2.1
      rcases h with rfl | h
      · exact g1
      · exact ht _ _ _ g1 h
    · exact ⟨k, hk, hd, .inl rfl⟩
theorem getD_of {L : List Nat} {i x : Nat} (h : L[i]? = some x) : L.getD i 0 = x := by rw [List.getD_eq_getElem?_getD, h]; rfl
/-- What is left out is dominated by something that stays. -/
theorem without_cover {g : Nat → Nat → Bool} (ht : ∀ a b c, g a b = true → g b c = true → g a c = true) {L : List Nat} {x : Nat} (hx : x ∈ L) : ∃ y ∈ withoutL L (domB g L), y = x ∨ g x y = true := by
  obtain ⟨k, hk, rfl⟩ := List.getElem_of_mem hx
  obtain ⟨j, hj, hn, h⟩ := dom_cover ht L _ k hk (Nat.lt_succ_self _)
  have e1 := getD_of (List.getElem?_eq_getElem hj)
  have e2 := getD_of (List.getElem?_eq_getElem hk)
  refine ⟨L[j], mem_without.2 ⟨j, List.getElem?_eq_getElem hj, hn⟩, ?_⟩
  rcases h with rfl | h
  · exact .inl rfl
  · rw [e1, e2] at h; exact .inr h
/-- Of what stays nothing is dominated. -/
theorem without_free {g : Nat → Nat → Bool} {L : List Nat} {x y : Nat} (hx : x ∈ withoutL L (domB g L)) (hy : y ∈ withoutL L (domB g L)) (h : g x y = true) : x = y := by
  obtain ⟨k, hk, nk⟩ := mem_without.1 hx
  obtain ⟨j, hj, nj⟩ := mem_without.1 hy
  have lk := (List.getElem?_eq_some_iff.1 hk).1
  have lj := (List.getElem?_eq_some_iff.1 hj).1
  by_cases e : j = k
  · subst e
    rw [hk] at hj; exact Option.some.inj hj
  · refine absurd (mem_dom.2 ⟨lk, j, lj, ?_⟩) nk
    rw [domP_iff, getD_of hk, getD_of hj]
    refine ⟨e, h, ?_⟩
    cases hb : g y x with
    | false => exact .inl rfl
    | true =>
      refine .inr (Classical.byContradiction fun q => nj (mem_dom.2 ⟨lj, k, lk, ?_⟩))
      rw [domP_iff, getD_of hk, getD_of hj]
      exact ⟨fun e' => e e'.symm, hb, .inr (by omega)⟩
end Go.Proofs.YtioiljboihehcaaGreatDoor
