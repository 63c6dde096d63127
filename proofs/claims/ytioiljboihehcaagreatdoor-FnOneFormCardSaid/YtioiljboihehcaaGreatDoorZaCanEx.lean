import Derived.Test.YtioiljboihehcaaGreatDoorZaMinLaw
import Derived.Test.YtioiljboihehcaaGreatDoorZaGroupLaw
/- What the claim of FnOneFormCard needs of: CanEx. -/
namespace Go.Proofs.YtioiljboihehcaaGreatDoor

set_option linter.unusedVariables false

set_option linter.unusedSimpArgs false

open Go.RowKit

theorem bound_all : ∀ L : List Nat, ∃ N, ∀ x ∈ L, x < N := by
  intro L
  induction L with
  | nil => exact ⟨0, by simp⟩
  | cons a l ih =>
    obtain ⟨N, hN⟩ := ih
    refine ⟨N + a + 1, fun x hx => ?_⟩
    rcases List.mem_cons.1 hx with rfl | hx
    · omega
    · have := hN x hx; omega

/-- What the left options of a game come to when reversible ones are bypassed. -/
inductive CandL (f : Nat) : Nat → Prop
  | opt {l : Nat} : hasL f l → CandL f (canC l)
  | thr {i k l : Nat} : CandL f i → hasR i k → geC f k = true → hasL k l → CandL f l

inductive CandR (f : Nat) : Nat → Prop
  | opt {r : Nat} : hasR f r → CandR f (canC r)
  | thr {i k r : Nat} : CandR f i → hasL i k → geC k f = true → hasR k r → CandR f r

theorem CandL.props {f : Nat} (ih : ∀ i, i < f → IsCan (canC i) i) {i : Nat} (h : CandL f i) : CanC i ∧ geC i f = false := by
  induction h with
  | opt hl =>
    have k := ih _ (optC_lt (.inl hl))
    exact ⟨k.1, not_ge_of_le k.2.2 (opt_left hl)⟩
  | thr _ hk hg hl i1 => exact ⟨(i1.1.opt (.inr hk)).opt (.inl hl), not_ge_of_ge hg (opt_left hl)⟩

theorem CandR.props {f : Nat} (ih : ∀ i, i < f → IsCan (canC i) i) {i : Nat} (h : CandR f i) : CanC i ∧ geC f i = false := by
  induction h with
  | opt hl =>
    have k := ih _ (optC_lt (.inr hl))
    exact ⟨k.1, not_ge_of_ge k.2.1 (opt_right hl)⟩
  | thr _ hk hg hl i1 => exact ⟨(i1.1.opt (.inl hk)).opt (.inr hl), not_ge_of_le hg (opt_right hl)⟩

theorem CandL.lt {f N : Nat} (hN : ∀ l, hasL f l → canC l < N) {i : Nat} (h : CandL f i) : i < N := by
  induction h with
  | opt hl => exact hN _ hl
  | thr _ hk _ hl i1 =>
    have h1 := optC_lt (.inr hk)
    have h2 := optC_lt (.inl hl)
    omega

theorem CandR.lt {f N : Nat} (hN : ∀ l, hasR f l → canC l < N) {i : Nat} (h : CandR f i) : i < N := by
  induction h with
  | opt hl => exact hN _ hl
  | thr _ hk _ hl i1 =>
    have h1 := optC_lt (.inl hk)
    have h2 := optC_lt (.inr hl)
    omega

open Classical in
theorem redL_exists {f : Nat} (ih : ∀ i, i < f → IsCan (canC i) i) : ∃ K, RedL f K := by
  obtain ⟨N, hN⟩ := bound_all ((lefts f).map canC)
  have hN' : ∀ l, hasL f l → canC l < N := fun l hl => hN _ (List.mem_map.2 ⟨l, mem_lefts.2 hl, rfl⟩)
  obtain ⟨SL, hSL⟩ : ∃ SL : List Nat, ∀ i, i ∈ SL ↔ CandL f i := ⟨(List.range N).filter fun i => decide (CandL f i), fun i => by
    rw [List.mem_filter, List.mem_range, decide_eq_true_eq]
    exact ⟨fun h => h.2, fun h => ⟨h.lt hN', h⟩⟩⟩
  obtain ⟨NR, hNR⟩ : ∃ NR : List Nat, ∀ i, i ∈ NR ↔ CandL f i ∧ ∀ r, hasR i r → geC f r = false := ⟨SL.filter fun i => decide (∀ r, hasR i r → geC f r = false), fun i => by
    rw [List.mem_filter, hSL, decide_eq_true_eq]⟩
  have ht : ∀ a b c, (fun a b => geC b a) a b = true → (fun a b => geC b a) b c = true → (fun a b => geC b a) a c = true := fun a b c h1 h2 => ge_trans h2 h1
  have hsub : ∀ i, i ∈ withoutL NR (domB (fun a b => geC b a) NR) → i ∈ NR := fun i hi => withoutL_mem hi
  refine ⟨withoutL NR (domB (fun a b => geC b a) NR), fun i hi => (((hNR i).1 (hsub i hi)).1.props ih).2, ⟨SL, fun i hi => ?_, fun l hl => ?_⟩, fun i hi => (((hNR i).1 (hsub i hi)).1.props ih).1, fun i hi j hj e => (without_free hi hj e).symm, fun i hi => ((hNR i).1 (hsub i hi)).2⟩
  · have hc := (hSL i).1 hi
    by_cases hr : ∀ r, hasR i r → geC f r = false
    · obtain ⟨y, hy, e⟩ := without_cover ht ((hNR i).2 ⟨hc, hr⟩)
      refine .inl ⟨y, hy, ?_⟩
      rcases e with rfl | e
      · exact ge_refl _
      · exact e
    · obtain ⟨k, hk⟩ := Classical.not_forall.1 hr
      obtain ⟨hk1, hk2⟩ := Classical.not_imp.1 hk
      have hk3 : geC f k = true := by
        cases e : geC f k with
        | true => rfl
        | false => exact absurd e hk2
      exact .inr ⟨k, hk1, hk3, fun l hl => (hSL l).2 (.thr hc hk1 hk3 hl)⟩
  · exact ⟨canC l, (hSL _).2 (.opt hl), (ih l (optC_lt (.inl hl))).2.1⟩

open Classical in
theorem redR_exists {f : Nat} (ih : ∀ i, i < f → IsCan (canC i) i) : ∃ K, RedR f K := by
  obtain ⟨N, hN⟩ := bound_all ((rights f).map canC)
  have hN' : ∀ l, hasR f l → canC l < N := fun l hl => hN _ (List.mem_map.2 ⟨l, mem_rights.2 hl, rfl⟩)
  obtain ⟨SL, hSL⟩ : ∃ SL : List Nat, ∀ i, i ∈ SL ↔ CandR f i := ⟨(List.range N).filter fun i => decide (CandR f i), fun i => by
    rw [List.mem_filter, List.mem_range, decide_eq_true_eq]
    exact ⟨fun h => h.2, fun h => ⟨h.lt hN', h⟩⟩⟩
  obtain ⟨NR, hNR⟩ : ∃ NR : List Nat, ∀ i, i ∈ NR ↔ CandR f i ∧ ∀ r, hasL i r → geC r f = false := ⟨SL.filter fun i => decide (∀ r, hasL i r → geC r f = false), fun i => by
    rw [List.mem_filter, hSL, decide_eq_true_eq]⟩
  have ht : ∀ a b c, geC a b = true → geC b c = true → geC a c = true := fun a b c h1 h2 => ge_trans h1 h2
  have hsub : ∀ i, i ∈ withoutL NR (domB geC NR) → i ∈ NR := fun i hi => withoutL_mem hi
  refine ⟨withoutL NR (domB geC NR), fun i hi => (((hNR i).1 (hsub i hi)).1.props ih).2, ⟨SL, fun i hi => ?_, fun l hl => ?_⟩, fun i hi => (((hNR i).1 (hsub i hi)).1.props ih).1, fun i hi j hj e => (without_free hi hj e).symm, fun i hi => ((hNR i).1 (hsub i hi)).2⟩
  · have hc := (hSL i).1 hi
    by_cases hr : ∀ r, hasL i r → geC r f = false
    · obtain ⟨y, hy, e⟩ := without_cover ht ((hNR i).2 ⟨hc, hr⟩)
      refine .inl ⟨y, hy, ?_⟩
      rcases e with rfl | e
      · exact ge_refl _
      · exact e
    · obtain ⟨k, hk⟩ := Classical.not_forall.1 hr
      obtain ⟨hk1, hk2⟩ := Classical.not_imp.1 hk
      have hk3 : geC k f = true := by
        cases e : geC k f with
        | true => rfl
        | false => exact absurd e hk2
      exact .inr ⟨k, hk1, hk3, fun l hl => (hSL l).2 (.thr hc hk1 hk3 hl)⟩
  · exact ⟨canC l, (hSL _).2 (.opt hl), (ih l (optC_lt (.inr hl))).2.2⟩

/-- Each game has a canonical form. -/
theorem can_is (f : Nat) : IsCan (canC f) f := by
  induction f using Nat.strongRecOn with
  | _ f ih =>
    obtain ⟨KL, hL⟩ := redL_exists ih
    obtain ⟨KR, hR⟩ := redR_exists ih
    have h := red_is hL hR
    rw [h.eq] at h
    exact h

/-- Equal games have one canonical form, and only they. -/
theorem can_same {a b : Nat} : canC a = canC b ↔ geC a b = true ∧ geC b a = true := by
  constructor
  · intro e
    have ha := can_is a
    have hb := can_is b
    rw [← e] at hb
    exact ⟨ge_trans ha.2.2 hb.2.1, ge_trans hb.2.2 ha.2.1⟩
  · rintro ⟨h1, h2⟩
    exact ((can_is a).step h1 h2).eq

/-- What a game does in a sum is told by how it stands to 0. -/
theorem sum_zero' (n : Nat) : ∀ a y, a + y < n → (geC y zeroC = true → geC (sumC a y) a = true) ∧ (geC y zeroC = false → geC (sumC a y) a = false) ∧ (geC zeroC y = true → geC a (sumC a y) = true) ∧ (geC zeroC y = false → geC a (sumC a y) = false) := by
  induction n with
  | zero => intro a y h; omega
  | succ n ih =>
    intro a y hn
    refine ⟨fun h => ?_, fun h => ?_, fun h => ?_, fun h => ?_⟩
    · refine ge_intro (fun r hr => ?_) fun l hl => ?_
      · rcases (hasR_sum a y r).1 hr with ⟨b, hb, rfl⟩ | ⟨b, hb, rfl⟩
        · have hlt := optC_lt (.inr hb)
          exact not_ge_of_ge ((ih b y (by omega)).1 h) (opt_right hb)
        · have hlt := optC_lt (.inr hb)
          exact (ih a b (by omega)).2.2.2 (ge_right h hb)
      · have hlt := optC_lt (.inl hl)
        exact not_ge_of_le ((ih l y (by omega)).1 h) (opt_left ((hasL_sum a y _).2 (.inl ⟨l, hl, rfl⟩)))
    · rcases ge_not h with ⟨r, hr, e⟩ | ⟨l, hl, _⟩
      · have hlt := optC_lt (.inr hr)
        have k := (ih a r (by omega)).2.2.1 e
        cases hc : geC (sumC a y) a with
        | false => rfl
        | true =>
          have := ge_right hc ((hasR_sum a y _).2 (.inr ⟨r, hr, rfl⟩))
          rw [this] at k; cases k
      · exact absurd hl (zeroL l)
    · refine ge_intro (fun r hr => ?_) fun l hl => ?_
      · have hlt := optC_lt (.inr hr)
        exact not_ge_of_ge ((ih r y (by omega)).2.2.1 h) (opt_right ((hasR_sum a y _).2 (.inl ⟨r, hr, rfl⟩)))
      · rcases (hasL_sum a y l).1 hl with ⟨b, hb, rfl⟩ | ⟨b, hb, rfl⟩
        · have hlt := optC_lt (.inl hb)
          exact not_ge_of_le ((ih b y (by omega)).2.2.1 h) (opt_left hb)
        · have hlt := optC_lt (.inl hb)
          exact (ih a b (by omega)).2.1 (ge_left h hb)
    · rcases ge_not h with ⟨r, hr, _⟩ | ⟨l, hl, e⟩
      · exact absurd hr (zeroR r)
      · have hlt := optC_lt (.inl hl)
        have k := (ih a l (by omega)).1 e
        cases hc : geC a (sumC a y) with
        | false => rfl
        | true =>
          have := ge_left hc ((hasL_sum a y _).2 (.inr ⟨l, hl, rfl⟩))
          rw [this] at k; cases k

theorem sum_zero {a z : Nat} (h1 : geC z zeroC = true) (h2 : geC zeroC z = true) : geC (sumC a z) a = true ∧ geC a (sumC a z) = true :=
  ⟨(sum_zero' _ a z (Nat.lt_succ_self _)).1 h1, (sum_zero' _ a z (Nat.lt_succ_self _)).2.2.1 h2⟩

end Go.Proofs.YtioiljboihehcaaGreatDoor
