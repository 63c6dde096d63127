/- Sums of forms, of many forms and of copies of a form: what the program and the reference give, in plain words. -/
import Derived.Test.YtioiljboihehcaaGreatDoorSumLaw
import Derived.Test.YtioiljboihehcaaGreatDoorRefDropForm
namespace Go.Proofs.YtioiljboihehcaaGreatDoor
set_option linter.unusedVariables false
set_option linter.unusedSimpArgs false
open Go.RowKit

noncomputable def sumN (Fs Gs : List PL) : List PL := formOf (sumC (codeF Fs) (codeF Gs))
open Classical in
/-- Whether two forms have a sum that is told. -/
noncomputable def sumOk (Fi Gi : List (List Int × List Int)) : Bool := decide (goodI Fi ∧ goodI Gi ∧ Fi.length * Gi.length ≤ 1600 ∧ fitsB (sumN (natF Fi) (natF Gi)) = true)
open Classical in
theorem sumOk_iff {Fi Gi : List (List Int × List Int)} : sumOk Fi Gi = true ↔ goodI Fi ∧ goodI Gi ∧ Fi.length * Gi.length ≤ 1600 ∧ fitsB (sumN (natF Fi) (natF Gi)) = true := by
  unfold sumOk; exact ⟨fun h => of_decide_eq_true h, fun h => decide_eq_true h⟩
theorem sumOk_good {Fi Gi : List (List Int × List Int)} (h : sumOk Fi Gi = true) : goodI (i2 (sumN (natF Fi) (natF Gi))) := (form_good (formOf_is _) (sumOk_iff.1 h).2.2.2).1
/-- One more form put to a sum. -/
noncomputable def manyStep (s : Option (List PL)) (Gi : List (List Int × List Int)) : Option (List PL) := s.bind fun Fs => if sumOk (i2 Fs) Gi = true then some (sumN Fs (natF Gi)) else none
noncomputable def manyF (l : List (List (List Int × List Int))) : Option (List PL) := l.foldl manyStep (some [([], [])])
theorem many_none (l : List (List (List Int × List Int))) : l.foldl manyStep none = none := by
  induction l with
  | nil => rfl
  | cons a l ih => rw [List.foldl_cons]; exact ih
theorem many_next {l : List (List (List Int × List Int))} {k : Nat} (hk : k < l.length) : manyF (l.take (k + 1)) = manyStep (manyF (l.take k)) l[k] := by
  unfold manyF
  rw [List.take_succ_eq_append_getElem hk, List.foldl_append]; rfl
theorem many_stop {l : List (List (List Int × List Int))} {k : Nat} (h : manyF (l.take k) = none) : manyF l = none := by
  unfold manyF at h ⊢
  rw [← List.take_append_drop k l, List.foldl_append, h, many_none]
theorem many_bad' {Gi : List (List Int × List Int)} (hb : ¬ goodI Gi) (l : List (List (List Int × List Int))) : ∀ s, Gi ∈ l → l.foldl manyStep s = none := by
  induction l with
  | nil => intro s h; simp at h
  | cons a l ih =>
    intro s h
    rw [List.foldl_cons]
    rcases List.mem_cons.1 h with rfl | h
    · have : manyStep s Gi = none := by
        cases s with
        | none => rfl
        | some Fs =>
          show (if sumOk (i2 Fs) Gi = true then some (sumN Fs (natF Gi)) else none) = none
          rw [if_neg (fun h => hb (sumOk_iff.1 h).2.1)]
      rw [this, many_none]
    · exact ih _ h
theorem many_bad {Gi : List (List Int × List Int)} {l : List (List (List Int × List Int))} (hb : ¬ goodI Gi) (h : Gi ∈ l) : manyF l = none := many_bad' hb l _ h
theorem good_zero : goodI (i2 [([], [])]) := good_st [] 0 (by decide)
theorem many_good' (l : List (List (List Int × List Int))) : ∀ s, (∀ Fs, s = some Fs → goodI (i2 Fs)) → ∀ Fs, l.foldl manyStep s = some Fs → goodI (i2 Fs) := by
  induction l with
  | nil => intro s h Fs e; exact h Fs e
  | cons a l ih =>
    intro s h
    rw [List.foldl_cons]
    refine ih _ fun Fs e => ?_
    cases s with
    | none => cases e
    | some F0 =>
      have e : (if sumOk (i2 F0) a = true then some (sumN F0 (natF a)) else none) = some Fs := e
      split at e
      · rename_i ho
        cases e
        have := sumOk_good ho
        rwa [natF_i2] at this
      · cases e
theorem many_good {l : List (List (List Int × List Int))} {Fs : List PL} (h : manyF l = some Fs) : goodI (i2 Fs) := many_good' l _ (fun Fs e => by cases e; exact good_zero) Fs h
noncomputable def negN (Fs : List PL) : List PL := formOf (negC (codeF Fs))
theorem negN_good {Fs : List PL} (h : goodI (i2 Fs)) : fitsB (negN Fs) = true ∧ goodI (i2 (negN Fs)) := by
  have hf := neg_fits (good_form h) (formOf_is _) (by rw [← fits_i2]; exact h.1)
  exact ⟨hf, (form_good (formOf_is _) hf).1⟩
open Classical in
/-- So many copies of a form, or of its negative, put together. -/
noncomputable def timesF (n : Int) (Fi : List (List Int × List Int)) : Option (List PL) :=
  if -12 ≤ n ∧ n ≤ 12 ∧ goodI Fi then manyF (List.replicate n.natAbs (if n < 0 then i2 (negN (natF Fi)) else Fi)) else none
theorem timesF_of {n : Int} {Fi : List (List Int × List Int)} (h : -12 ≤ n ∧ n ≤ 12 ∧ goodI Fi) : timesF n Fi = manyF (List.replicate n.natAbs (if n < 0 then i2 (negN (natF Fi)) else Fi)) := by
  unfold timesF; rw [if_pos h]
theorem timesF_no {n : Int} {Fi : List (List Int × List Int)} (h : ¬ (-12 ≤ n ∧ n ≤ 12 ∧ goodI Fi)) : timesF n Fi = none := by
  unfold timesF; rw [if_neg h]
theorem times_good {n : Int} {Fi : List (List Int × List Int)} {Fs : List PL} (h : timesF n Fi = some Fs) : goodI (i2 Fs) := by
  by_cases hc : -12 ≤ n ∧ n ≤ 12 ∧ goodI Fi
  · rw [timesF_of hc] at h; exact many_good h
  · rw [timesF_no hc] at h; cases h
end Go.Proofs.YtioiljboihehcaaGreatDoor
