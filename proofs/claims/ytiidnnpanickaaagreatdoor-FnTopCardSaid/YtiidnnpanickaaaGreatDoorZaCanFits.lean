import Derived.Test.YtiidnnpanickaaaGreatDoorZaSumGe
import Derived.Test.YtiidnnpanickaaaGreatDoorZaDraws
/- What the claim of FnTopCard needs of: CanFits. -/
namespace Go.Proofs.YtiidnnpanickaaaGreatDoor
set_option linter.unusedVariables false
set_option linter.unusedSimpArgs false
open Go.RowKit
theorem nine_apart : [nn1, nn2, nn3, nn9, nn5, nn6].Nodup := by decide +kernel
theorem nine_ge : geC nn2 nn1 = true ∧ geC nn9 nn3 = true ∧ geC nn6 nn5 = true := by decide +kernel
theorem few_opts {x c s : Nat} {U A : List Nat} (hc : CanC c) (h1 : geC x c = true) (h2 : geC c x = true) (hU : ∀ s, SubC x s → s ∈ U) (hn : ∀ i ∈ [nn1, nn2, nn3, nn9, nn5, nn6], i ∈ U) (hlen : U.length ≤ 27) (hs : SubC c s) (hA : A.Nodup) (hopt : ∀ a ∈ A, optC s a) (hfree : ∀ a ∈ A, ∀ b ∈ A, geC b a = true → a = b) : A.length ≤ 24 := by
  refine Nat.le_of_not_lt fun hbig => ?_
  have hex : ∀ a, ∃ s', a ∈ A → SubC x s' ∧ geC s' a = true ∧ geC a s' = true := fun a => by
    by_cases h : a ∈ A
    · obtain ⟨s', e⟩ := can_sub_eq hc h1 h2 (hs.step (hopt a h))
      exact ⟨s', fun _ => e⟩
    · exact ⟨0, fun q => absurd q h⟩
  let f : Nat → Nat := fun a => Classical.choose (hex a)
  have hf : ∀ a, a ∈ A → SubC x (f a) ∧ geC (f a) a = true ∧ geC a (f a) = true := fun a => Classical.choose_spec (hex a)
  have hB : (A.map f).Nodup := by
    refine List.pairwise_map.2 (hA.imp_of_mem ?_)
    intro a b ha hb hab e
    obtain ⟨_, a1, a2⟩ := hf a ha
    obtain ⟨_, b1, b2⟩ := hf b hb
    rw [e] at a2
    exact hab (hfree b hb a ha (ge_trans a2 b1)).symm
  have hpair : ∀ lo hi, lo ≠ hi → geC hi lo = true → ∃ b, (b = lo ∨ b = hi) ∧ b ∉ A.map f := fun lo hi hne hg => by
    by_cases q1 : lo ∈ A.map f
    · refine ⟨hi, .inr rfl, fun q2 => ?_⟩
      obtain ⟨a, ha, ea⟩ := List.mem_map.1 q1
      obtain ⟨b, hb, eb⟩ := List.mem_map.1 q2
      obtain ⟨_, a1, a2⟩ := hf a ha
      obtain ⟨_, b1, b2⟩ := hf b hb
      rw [ea] at a1
      rw [eb] at b2
      have e := hfree a ha b hb (ge_trans b2 (ge_trans hg a1))
      subst e
      exact hne (ea.symm.trans eb)
    · exact ⟨lo, .inl rfl, q1⟩
  have hap := nine_apart
  simp only [List.nodup_cons, List.mem_cons, List.not_mem_nil, or_false, not_or, not_false_eq_true, List.nodup_nil, and_true] at hap
  obtain ⟨⟨a12, a13, a19, a15, a16⟩, ⟨a23, a29, a25, a26⟩, ⟨a39, a35, a36⟩, ⟨a95, a96⟩, a56⟩ := hap
  obtain ⟨g1, g2, g3⟩ := nine_ge
  obtain ⟨b1, e1, m1⟩ := hpair nn1 nn2 a12 g1
  obtain ⟨b2, e2, m2⟩ := hpair nn3 nn9 a39 g2
  obtain ⟨b3, e3, m3⟩ := hpair nn5 nn6 a56 g3
  have k12 : b1 ≠ b2 := by rcases e1 with rfl | rfl <;> rcases e2 with rfl | rfl <;> assumption
  have k13 : b1 ≠ b3 := by rcases e1 with rfl | rfl <;> rcases e3 with rfl | rfl <;> assumption
  have k23 : b2 ≠ b3 := by rcases e2 with rfl | rfl <;> rcases e3 with rfl | rfl <;> assumption
  have hall : (b1 :: b2 :: b3 :: A.map f).Nodup := by
    simp only [List.nodup_cons, List.mem_cons, not_or]
    exact ⟨⟨k12, k13, m1⟩, ⟨k23, m2⟩, m3, hB⟩
  have hle := hall.length_le_of_subset (l₂ := U) (fun z hz => by
    rcases List.mem_cons.1 hz with rfl | hz
    · exact hn _ (by rcases e1 with rfl | rfl <;> simp)
    rcases List.mem_cons.1 hz with rfl | hz
    · exact hn _ (by rcases e2 with rfl | rfl <;> simp)
    rcases List.mem_cons.1 hz with rfl | hz
    · exact hn _ (by rcases e3 with rfl | rfl <;> simp)
    obtain ⟨a, ha, rfl⟩ := List.mem_map.1 hz
    exact hU _ (hf a ha).1)
  simp only [List.length_cons, List.length_map] at hle
  omega
theorem codes_nodup {P L : List Nat} {n : Nat} (hP : P.Nodup) (hL : L.Pairwise (· < ·)) (hl : ∀ x ∈ L, x < n) (hn : n ≤ P.length) : (atAll P L).Nodup := by
  unfold atAll
  refine List.pairwise_map.2 (hL.imp_of_mem ?_)
  intro a b ha hb hab e
  have la := hl a ha
  have lb := hl b hb
  rw [getD_of (List.getElem?_eq_getElem (show a < P.length by omega)), getD_of (List.getElem?_eq_getElem (show b < P.length by omega))] at e
  have := (List.getElem_inj hP).1 e
  omega
theorem can_fits {x : Nat} {U : List Nat} {Fs : List PL} (hU : ∀ s, SubC x s → s ∈ U) (hn : ∀ i ∈ [nn1, nn2, nn3, nn9, nn5, nn6], i ∈ U) (hlen : U.length ≤ 27) (hF : FormC x Fs) (hl : Fs.length ≤ 120) : fitsB (formOf (canC x)) = true := by
  have hi := can_is x
  obtain ⟨P, hA⟩ := formOf_is (canC x)
  have hle := can_least hi.1 hi.2.2 hi.2.1 hF
  have hPl := hA.book.len
  have hpos := (of_form (formOf_is (canC x))).1
  unfold fitsB
  rw [decide_eq_true_eq]
  refine ⟨by omega, by omega, fun y hy => ?_⟩
  obtain ⟨j, hj, rfl⟩ := List.getElem_of_mem hy
  have ej := List.getElem?_eq_getElem hj
  obtain ⟨o1, o2⟩ := hA.book.opts j _ ej
  obtain ⟨u1, u2⟩ := hA.book.up j _ ej
  have hcode := hA.book.code j _ ej
  have hs : SubC (canC x) (P.getD j 0) := (hA.sub _).1 (getD_mem (by omega))
  have hcs := hi.1 _ hs
  constructor
  · have h := few_opts (A := atAll P (formOf (canC x))[j].1) hi.1 hi.2.2 hi.2.1 hU hn hlen hs (codes_nodup hA.book.nodup u1 o1 (by omega)) (fun a ha => .inl (by rw [hcode]; exact (hasL_mk _ _ _).2 ha)) (fun a ha b hb e => by
      have := hcs.domL a b (by rw [hcode]; exact (hasL_mk _ _ _).2 ha) (by rw [hcode]; exact (hasL_mk _ _ _).2 hb) e
      exact this.symm)
    simpa [atAll] using h
  · have h := few_opts (A := atAll P (formOf (canC x))[j].2) hi.1 hi.2.2 hi.2.1 hU hn hlen hs (codes_nodup hA.book.nodup u2 o2 (by omega)) (fun a ha => .inr (by rw [hcode]; exact (hasR_mk _ _ _).2 ha)) (fun a ha b hb e => by
      have := hcs.domR b a (by rw [hcode]; exact (hasR_mk _ _ _).2 hb) (by rw [hcode]; exact (hasR_mk _ _ _).2 ha) e
      exact this)
    simpa [atAll] using h
theorem can_fits_few {x : Nat} {Fs : List PL} (hF : FormC x Fs) (hl : Fs.length ≤ 25) : fitsB (formOf (canC x)) = true := by
  have hi := can_is x
  have hle := can_least hi.1 hi.2.2 hi.2.1 hF
  obtain ⟨hpos, ho, hu, _⟩ := of_form (formOf_is (canC x))
  unfold fitsB
  rw [decide_eq_true_eq]
  refine ⟨by omega, by omega, fun y hy => ?_⟩
  obtain ⟨j, hj, rfl⟩ := List.getElem_of_mem hy
  have ej := List.getElem?_eq_getElem hj
  obtain ⟨o1, o2⟩ := ho j _ ej
  obtain ⟨u1, u2⟩ := hu j _ ej
  have key : ∀ L : List Nat, L.Pairwise (· < ·) → (∀ i ∈ L, i < j) → L.length ≤ j := fun L hL hlt => by
    have := List.Nodup.length_le_of_subset (show L.Nodup from hL.imp (fun h => Nat.ne_of_lt h)) (fun z hz => List.mem_range.2 (hlt z hz))
    rwa [List.length_range] at this
  have l1 := key _ u1 o1
  have l2 := key _ u2 o2
  exact ⟨by omega, by omega⟩
end Go.Proofs.YtiidnnpanickaaaGreatDoor
