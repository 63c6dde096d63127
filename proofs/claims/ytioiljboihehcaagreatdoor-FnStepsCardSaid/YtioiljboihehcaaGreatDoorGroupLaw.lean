/- Sums and negatives as a group, who wins a difference, and copies of a negative: in plain words. -/
import Derived.Test.YtioiljboihehcaaGreatDoorCanLaw
import Derived.Test.YtioiljboihehcaaGreatDoorSumFn
namespace Go.Proofs.YtioiljboihehcaaGreatDoor
set_option linter.unusedVariables false
set_option linter.unusedSimpArgs false
open Go.RowKit

theorem sum_comm' (n : Nat) : ∀ a b, a + b < n → sumC a b = sumC b a := by
  induction n with
  | zero => intro a b h; omega
  | succ n ih =>
    intro a b hn
    have k1 : ∀ x, x < a → sumC x b = sumC b x := fun x hx => ih x b (by omega)
    have k2 : ∀ x, x < b → sumC a x = sumC x a := fun x hx => ih a x (by omega)
    refine code_ext (fun i => ?_) fun i => ?_
    · rw [hasL_sum, hasL_sum]
      constructor
      · rintro (⟨l, hl, e⟩ | ⟨l, hl, e⟩)
        · exact .inr ⟨l, hl, by rw [← k1 l (optC_lt (.inl hl))]; exact e⟩
        · exact .inl ⟨l, hl, by rw [← k2 l (optC_lt (.inl hl))]; exact e⟩
      · rintro (⟨l, hl, e⟩ | ⟨l, hl, e⟩)
        · exact .inr ⟨l, hl, by rw [k2 l (optC_lt (.inl hl))]; exact e⟩
        · exact .inl ⟨l, hl, by rw [k1 l (optC_lt (.inl hl))]; exact e⟩
    · rw [hasR_sum, hasR_sum]
      constructor
      · rintro (⟨l, hl, e⟩ | ⟨l, hl, e⟩)
        · exact .inr ⟨l, hl, by rw [← k1 l (optC_lt (.inr hl))]; exact e⟩
        · exact .inl ⟨l, hl, by rw [← k2 l (optC_lt (.inr hl))]; exact e⟩
      · rintro (⟨l, hl, e⟩ | ⟨l, hl, e⟩)
        · exact .inr ⟨l, hl, by rw [k2 l (optC_lt (.inr hl))]; exact e⟩
        · exact .inl ⟨l, hl, by rw [k1 l (optC_lt (.inr hl))]; exact e⟩
theorem sum_comm (a b : Nat) : sumC a b = sumC b a := sum_comm' _ a b (Nat.lt_succ_self _)
theorem neg_neg (a : Nat) : negC (negC a) = a := by
  induction a using Nat.strongRecOn with
  | _ a ih =>
    refine code_ext (fun i => ?_) fun i => ?_
    · rw [hasL_neg]
      constructor
      · rintro ⟨r, hr, e⟩
        obtain ⟨l, hl, e'⟩ := (hasR_neg a r).1 hr
        rw [← e, ← e', ih l (optC_lt (.inl hl))]; exact hl
      · intro hl
        exact ⟨negC i, (hasR_neg a _).2 ⟨i, hl, rfl⟩, ih i (optC_lt (.inl hl))⟩
    · rw [hasR_neg]
      constructor
      · rintro ⟨r, hr, e⟩
        obtain ⟨l, hl, e'⟩ := (hasL_neg a r).1 hr
        rw [← e, ← e', ih l (optC_lt (.inr hl))]; exact hl
      · intro hl
        exact ⟨negC i, (hasL_neg a _).2 ⟨i, hl, rfl⟩, ih i (optC_lt (.inr hl))⟩
theorem neg_sum' (n : Nat) : ∀ a b, a + b < n → negC (sumC a b) = sumC (negC a) (negC b) := by
  induction n with
  | zero => intro a b h; omega
  | succ n ih =>
    intro a b hn
    have k1 : ∀ x, x < a → negC (sumC x b) = sumC (negC x) (negC b) := fun x hx => ih x b (by omega)
    have k2 : ∀ x, x < b → negC (sumC a x) = sumC (negC a) (negC x) := fun x hx => ih a x (by omega)
    refine code_ext (fun i => ?_) fun i => ?_
    · rw [hasL_neg, hasL_sum]
      constructor
      · rintro ⟨r, hr, e⟩
        rcases (hasR_sum a b r).1 hr with ⟨l, hl, e'⟩ | ⟨l, hl, e'⟩
        · exact .inl ⟨negC l, (hasL_neg a _).2 ⟨l, hl, rfl⟩, by rw [← k1 l (optC_lt (.inr hl)), e', e]⟩
        · exact .inr ⟨negC l, (hasL_neg b _).2 ⟨l, hl, rfl⟩, by rw [← k2 l (optC_lt (.inr hl)), e', e]⟩
      · rintro (⟨l, hl, e⟩ | ⟨l, hl, e⟩)
        · obtain ⟨r, hr, e'⟩ := (hasL_neg a l).1 hl
          exact ⟨sumC r b, (hasR_sum a b _).2 (.inl ⟨r, hr, rfl⟩), by rw [k1 r (optC_lt (.inr hr)), e', e]⟩
        · obtain ⟨r, hr, e'⟩ := (hasL_neg b l).1 hl
          exact ⟨sumC a r, (hasR_sum a b _).2 (.inr ⟨r, hr, rfl⟩), by rw [k2 r (optC_lt (.inr hr)), e', e]⟩
    · rw [hasR_neg, hasR_sum]
      constructor
      · rintro ⟨r, hr, e⟩
        rcases (hasL_sum a b r).1 hr with ⟨l, hl, e'⟩ | ⟨l, hl, e'⟩
        · exact .inl ⟨negC l, (hasR_neg a _).2 ⟨l, hl, rfl⟩, by rw [← k1 l (optC_lt (.inl hl)), e', e]⟩
        · exact .inr ⟨negC l, (hasR_neg b _).2 ⟨l, hl, rfl⟩, by rw [← k2 l (optC_lt (.inl hl)), e', e]⟩
      · rintro (⟨l, hl, e⟩ | ⟨l, hl, e⟩)
        · obtain ⟨r, hr, e'⟩ := (hasR_neg a l).1 hl
          exact ⟨sumC r b, (hasL_sum a b _).2 (.inl ⟨r, hr, rfl⟩), by rw [k1 r (optC_lt (.inl hr)), e', e]⟩
        · obtain ⟨r, hr, e'⟩ := (hasR_neg b l).1 hl
          exact ⟨sumC a r, (hasL_sum a b _).2 (.inr ⟨r, hr, rfl⟩), by rw [k2 r (optC_lt (.inl hr)), e', e]⟩
theorem neg_sum (a b : Nat) : negC (sumC a b) = sumC (negC a) (negC b) := neg_sum' _ a b (Nat.lt_succ_self _)

/-- The game without options. -/
def zeroC : Nat := mkC [] []
theorem zeroL (i : Nat) : ¬ hasL zeroC i := fun h => by
  have := (hasL_mk [] [] i).1 h
  simp at this
theorem zeroR (i : Nat) : ¬ hasR zeroC i := fun h => by
  have := (hasR_mk [] [] i).1 h
  simp at this
theorem ge_zero (x : Nat) : geC x zeroC = true ↔ ∀ r, hasR x r → geC zeroC r = false := by
  rw [geC_iff]
  exact ⟨fun h => h.1, fun h => ⟨h, fun l hl => absurd hl (zeroL l)⟩⟩
theorem zero_ge (x : Nat) : geC zeroC x = true ↔ ∀ l, hasL x l → geC l zeroC = false := by
  rw [geC_iff]
  exact ⟨fun h => h.2, fun h => ⟨fun r hr => absurd hr (zeroR r), h⟩⟩
theorem ge_diff' (n : Nat) : ∀ a b, a + b < n → geC (sumC a (negC b)) zeroC = geC a b ∧ geC zeroC (sumC a (negC b)) = geC b a := by
  induction n with
  | zero => intro a b h; omega
  | succ n ih =>
    intro a b hn
    have k1 : ∀ x, x < a → geC (sumC x (negC b)) zeroC = geC x b ∧ geC zeroC (sumC x (negC b)) = geC b x := fun x hx => ih x b (by omega)
    have k2 : ∀ x, x < b → geC (sumC a (negC x)) zeroC = geC a x ∧ geC zeroC (sumC a (negC x)) = geC x a := fun x hx => ih a x (by omega)
    constructor
    · refine Bool.eq_iff_iff.2 ?_
      rw [ge_zero, geC_iff]
      constructor
      · intro h
        exact ⟨fun r hr => by rw [← (k1 r (optC_lt (.inr hr))).2]; exact h _ ((hasR_sum a (negC b) _).2 (.inl ⟨r, hr, rfl⟩)), fun l hl => by rw [← (k2 l (optC_lt (.inl hl))).2]; exact h _ ((hasR_sum a (negC b) _).2 (.inr ⟨negC l, (hasR_neg b _).2 ⟨l, hl, rfl⟩, rfl⟩))⟩
      · rintro ⟨h1, h2⟩ r hr
        rcases (hasR_sum a (negC b) r).1 hr with ⟨l, hl, rfl⟩ | ⟨l, hl, rfl⟩
        · rw [(k1 l (optC_lt (.inr hl))).2]; exact h1 l hl
        · obtain ⟨y, hy, rfl⟩ := (hasR_neg b l).1 hl
          rw [(k2 y (optC_lt (.inl hy))).2]; exact h2 y hy
    · refine Bool.eq_iff_iff.2 ?_
      rw [zero_ge, geC_iff]
      constructor
      · intro h
        exact ⟨fun r hr => by rw [← (k2 r (optC_lt (.inr hr))).1]; exact h _ ((hasL_sum a (negC b) _).2 (.inr ⟨negC r, (hasL_neg b _).2 ⟨r, hr, rfl⟩, rfl⟩)), fun l hl => by rw [← (k1 l (optC_lt (.inl hl))).1]; exact h _ ((hasL_sum a (negC b) _).2 (.inl ⟨l, hl, rfl⟩))⟩
      · rintro ⟨h1, h2⟩ r hr
        rcases (hasL_sum a (negC b) r).1 hr with ⟨l, hl, rfl⟩ | ⟨l, hl, rfl⟩
        · rw [(k1 l (optC_lt (.inl hl))).1]; exact h2 l hl
        · obtain ⟨y, hy, rfl⟩ := (hasL_neg b l).1 hl
          rw [(k2 y (optC_lt (.inr hy))).1]; exact h1 y hy
/-- One game is at least another one just where Right, moving first, does not win the difference. -/
theorem ge_diff (a b : Nat) : geC (sumC a (negC b)) zeroC = geC a b ∧ geC zeroC (sumC a (negC b)) = geC b a := ge_diff' _ a b (Nat.lt_succ_self _)

theorem codeF_formOf (c : Nat) : codeF (formOf c) = c := (of_form (formOf_is c)).2.2.2.2.2
theorem formOf_codeF {Fs : List PL} (h : goodI (i2 Fs)) : formOf (codeF Fs) = Fs := (good_form h).of.symm
theorem sumN_comm (Fs Gs : List PL) : sumN Fs Gs = sumN Gs Fs := by unfold sumN; rw [sum_comm]
theorem negN_negN {Fs : List PL} (h : goodI (i2 Fs)) : negN (negN Fs) = Fs := by
  unfold negN
  rw [codeF_formOf, neg_neg, formOf_codeF h]
theorem negN_sumN (Fs Gs : List PL) : negN (sumN Fs Gs) = sumN (negN Fs) (negN Gs) := by
  unfold negN sumN
  rw [codeF_formOf, codeF_formOf, codeF_formOf, neg_sum]
theorem codeF_zero : codeF [([], [])] = zeroC := by
  unfold codeF zeroC
  rw [show codesOf [([], [])] = codesOf ([] ++ [([], [])]) from rfl, codesOf_snoc]
  rfl
theorem neg_zero : negC zeroC = zeroC := code_ext (fun i => by
    rw [hasL_neg]
    exact ⟨fun ⟨r, hr, _⟩ => absurd hr (zeroR r), fun h => absurd h (zeroL i)⟩) fun i => by
    rw [hasR_neg]
    exact ⟨fun ⟨r, hr, _⟩ => absurd hr (zeroL r), fun h => absurd h (zeroR i)⟩
theorem negN_zero : negN [([], [])] = [([], [])] := by
  have h := formOf_codeF good_zero
  rw [codeF_zero] at h
  unfold negN
  rw [codeF_zero, neg_zero, h]
theorem many_snoc (l : List (List (List Int × List Int))) (a : List (List Int × List Int)) : manyF (l ++ [a]) = manyStep (manyF l) a := by
  unfold manyF
  rw [List.foldl_append]; rfl
theorem manyStep_some {s : Option (List PL)} {Gi : List (List Int × List Int)} {X : List PL} (h : manyStep s Gi = some X) : ∃ Fs, s = some Fs ∧ sumOk (i2 Fs) Gi = true ∧ X = sumN Fs (natF Gi) := by
  cases s with
  | none => cases h
  | some Fs =>
    have h : (if sumOk (i2 Fs) Gi = true then some (sumN Fs (natF Gi)) else none) = some X := h
    split at h
    · rename_i ho
      exact ⟨Fs, rfl, ho, (Option.some.inj h).symm⟩
    · cases h
theorem many_neg {Fs : List PL} : ∀ (k : Nat) (X Y : List PL), manyF (List.replicate k (i2 (negN Fs))) = some X → manyF (List.replicate k (i2 Fs)) = some Y → X = negN Y := by
  intro k
  induction k with
  | zero =>
    intro X Y h1 h2
    have e1 : [([], [])] = X := Option.some.inj h1
    have e2 : [([], [])] = Y := Option.some.inj h2
    rw [← e1, ← e2, negN_zero]
  | succ k ih =>
    intro X Y h1 h2
    rw [List.replicate_succ', many_snoc] at h1 h2
    obtain ⟨X', a1, _, a3⟩ := manyStep_some h1
    obtain ⟨Y', b1, _, b3⟩ := manyStep_some h2
    rw [natF_i2] at a3 b3
    rw [a3, b3, ih X' Y' a1 b1, negN_sumN]
/-- So many copies of a game and so many of its negative are each other's negatives. -/
theorem times_opp {n : Int} {Fi : List (List Int × List Int)} {X Y : List PL} (hn : n < 0) (h1 : timesF n Fi = some X) (h2 : timesF (-n) Fi = some Y) : X = negN Y := by
  have hc : -12 ≤ n ∧ n ≤ 12 ∧ goodI Fi := Classical.byContradiction fun q => by rw [timesF_no q] at h1; cases h1
  have hc' : -12 ≤ -n ∧ -n ≤ 12 ∧ goodI Fi := ⟨by omega, by omega, hc.2.2⟩
  rw [timesF_of hc, if_pos hn] at h1
  rw [timesF_of hc', if_neg (by omega), Int.natAbs_neg] at h2
  obtain ⟨hF, _⟩ := goodI_natF hc.2.2
  rw [hF] at h2
  exact many_neg _ _ _ h1 h2
/-- One more copy. -/
theorem times_next {n : Int} {Fi : List (List Int × List Int)} {X : List PL} (hn : 0 < n) (h : timesF n Fi = some X) : ∃ Y, timesF (n - 1) Fi = some Y ∧ sumOk (i2 Y) Fi = true ∧ X = sumN Y (natF Fi) := by
  have hc : -12 ≤ n ∧ n ≤ 12 ∧ goodI Fi := Classical.byContradiction fun q => by rw [timesF_no q] at h; cases h
  have hc' : -12 ≤ n - 1 ∧ n - 1 ≤ 12 ∧ goodI Fi := ⟨by omega, by omega, hc.2.2⟩
  rw [timesF_of hc, if_neg (by omega), show n.natAbs = (n - 1).natAbs + 1 from by omega, List.replicate_succ', many_snoc] at h
  rw [timesF_of hc', if_neg (by omega)]
  exact manyStep_some h
end Go.Proofs.YtioiljboihehcaaGreatDoor
namespace Go.Proofs.YtioiljboihehcaaGreatDoor
set_option linter.unusedVariables false
set_option linter.unusedSimpArgs false
open Go.RowKit

/-- Who wins moving first, from who wins behind the options. -/
theorem lw_code (C L R : List Nat) : (!geC zeroC (mkC (atAll C L) R)) = L.any fun k => geC (C.getD k 0) zeroC := by
  refine Bool.eq_iff_iff.2 ?_
  rw [Bool.not_eq_true', List.any_eq_true, ← Bool.not_eq_true, zero_ge]
  constructor
  · intro h
    refine Classical.byContradiction fun q => h fun l hl => ?_
    obtain ⟨k, hk, rfl⟩ := mem_atAll.1 ((hasL_mk _ _ l).1 hl)
    cases e : geC (C.getD k 0) zeroC with
    | false => rfl
    | true => exact absurd ⟨k, hk, e⟩ q
  · rintro ⟨k, hk, e⟩ h
    rw [h _ ((hasL_mk _ _ _).2 (mem_atAll.2 ⟨k, hk, rfl⟩))] at e
    cases e
theorem rw_code (C L R : List Nat) : (!geC (mkC L (atAll C R)) zeroC) = R.any fun k => geC zeroC (C.getD k 0) := by
  refine Bool.eq_iff_iff.2 ?_
  rw [Bool.not_eq_true', List.any_eq_true, ← Bool.not_eq_true, ge_zero]
  constructor
  · intro h
    refine Classical.byContradiction fun q => h fun l hl => ?_
    obtain ⟨k, hk, rfl⟩ := mem_atAll.1 ((hasR_mk _ _ l).1 hl)
    cases e : geC zeroC (C.getD k 0) with
    | false => rfl
    | true => exact absurd ⟨k, hk, e⟩ q
  · rintro ⟨k, hk, e⟩ h
    rw [h _ ((hasR_mk _ _ _).2 (mem_atAll.2 ⟨k, hk, rfl⟩))] at e
    cases e
/-- The negative of a form is no longer than the form. -/
theorem negN_len {Fs : List PL} (h : goodI (i2 Fs)) : (negN Fs).length ≤ Fs.length := by
  obtain ⟨P, hA⟩ := good_form h
  obtain ⟨P', hA'⟩ := formOf_is (negC (codeF Fs))
  have hPl := hA.book.len
  have hPl' := hA'.book.len
  have sub : ∀ x ∈ P', x ∈ P.map negC := fun x hx => by
    obtain ⟨y, hy, rfl⟩ := ((hA'.sub x).1 hx).neg
    exact List.mem_map.2 ⟨y, (hA.sub y).2 hy, rfl⟩
  have hlen : P'.length ≤ P.length := by
    have := hA'.book.nodup.length_le_of_subset sub
    rwa [List.length_map] at this
  show (formOf (negC (codeF Fs))).length ≤ _
  omega
/-- The form of a difference. -/
noncomputable def minusN (Fs Gs : List PL) : List PL := formOf (sumC (codeF Fs) (negC (codeF Gs)))
theorem minusN_sum (Fs Gs : List PL) : minusN Fs Gs = sumN Fs (negN Gs) := by
  unfold minusN sumN negN
  rw [codeF_formOf]
end Go.Proofs.YtioiljboihehcaaGreatDoor
