/- What DropForm gives, the program's and the reference's, in plain words. -/
import Derived.Test.YtioiljboihehcaaGreatDoorPoolForm
import Derived.Test.YtioiljboihehcaaGreatDoorPlain
namespace Go.Proofs.YtioiljboihehcaaGreatDoor
set_option linter.unusedVariables false
set_option linter.unusedSimpArgs false
open Go.RowKit

theorem FormRes.is {V : List PL} {BV : List Nat} {r : Nat} {ok : Bool} {FN : List PL} (h : PoolOK V BV) (hr : r < V.length) (hres : FormRes V BV r ok FN) : ok = fitsB (formB V BV r) ∧ FN = if ok then formB V BV r else [] := by
  rcases hres with ⟨e1, e2, Q, hnd, hm, hl⟩ | ⟨Q, GN, O, _, e1, e2⟩
  · obtain ⟨Q0, O⟩ := formB_order h hr
    have hlen : (formB V BV r).length = Q0.length := by rw [O.nodes]; simp
    have hle : Q.length ≤ Q0.length := hnd.length_le_of_subset fun x hx => (O.mem x).2 ((hm x).1 hx)
    have hf : fitsB (formB V BV r) = false := decide_eq_false fun q => by have := q.1; omega
    rw [hf]
    exact ⟨e1, by rw [e2, e1]; rfl⟩
  · have e : GN = formB V BV r := FormC.one ⟨_, order_form h.book h.births hr O⟩ (h.form hr)
    rw [← e]
    exact ⟨e1, e2⟩
theorem nodeV_mem {V : List PL} {x : Nat} (h : x < V.length) : nodeV V x ∈ V := List.mem_of_getElem? (node_at h)
theorem nodeV_append {V : List PL} {y : PL} {x : Nat} : nodeV (V ++ [y]) x = if x < V.length then nodeV V x else if x = V.length then y else ([], []) := by
  unfold nodeV
  rw [List.getD_eq_getElem?_getD, List.getD_eq_getElem?_getD]
  by_cases h : x < V.length
  · rw [if_pos h, List.getElem?_append_left h]
  · rw [if_neg h]
    by_cases e : x = V.length
    · subst e; rw [if_pos rfl]; simp
    · rw [if_neg e, List.getElem?_eq_none (by simp; omega)]; rfl
theorem fits_of_order {V : List PL} {BV : List Nat} (h : PoolOK V BV) {r : Nat} (hr : r < V.length) (hlen : ∀ y ∈ V, y.1.length ≤ 24 ∧ y.2.length ≤ 24) (hn : ∀ Q : List Nat, Q.Nodup → (∀ x ∈ Q, ReachV V [r] x) → Q.length ≤ 120) : fitsB (formB V BV r) = true := by
  obtain ⟨Q, O⟩ := formB_order h hr
  have hl : (formB V BV r).length = Q.length := by rw [O.nodes]; simp
  have hq := hn Q O.nodup fun x hx => (O.mem x).1 hx
  have hp : 0 < Q.length := List.length_pos_of_mem ((O.mem r).2 (.root (by simp)))
  refine fits_of (by omega) (by omega) fun k y hy => ?_
  rw [O.nodes, List.getElem?_map] at hy
  cases hk : Q[k]? with
  | none => rw [hk] at hy; cases hy
  | some x =>
    rw [hk] at hy
    cases hy
    have hx := h.reach (R := [r]) (by simpa using hr) ((O.mem x).1 (List.mem_of_getElem? hk))
    have hy := hlen _ (nodeV_mem hx)
    have h1 : ∀ L : List Nat, (rankL Q L).length ≤ L.length := fun L => by
      unfold rankL
      have := sortN_length (L.map fun x => Q.idxOf x)
      rwa [List.length_map] at this
    have := h1 (nodeV V x).1
    have := h1 (nodeV V x).2
    exact ⟨by show (rankL Q (nodeV V x).1).length ≤ 24; omega, by show (rankL Q (nodeV V x).2).length ≤ 24; omega⟩
/-- The form of a game whose options are nodes of a good form ahead of its last one is within the limits. -/
theorem fits_put {Fs : List PL} (hf : fitsB Fs = true) {BV : List Nat} (hP : PoolOK Fs BV) {L R : List Nat} (hL : ∀ x ∈ L, x + 1 < Fs.length) (hR : ∀ x ∈ R, x + 1 < Fs.length) (lL : L.length ≤ 24) (lR : R.length ≤ 24) :
    fitsB (formB (poolPut Fs BV L R).1 (poolPut Fs BV L R).2.1 (poolPut Fs BV L R).2.2) = true := by
  obtain ⟨k1, k2⟩ := poolPut_ok hP (L := L) (R := R) (fun x hx => by have := hL x hx; omega) (fun x hx => by have := hR x hx; omega)
  have hr := (List.getElem?_eq_some_iff.1 k2).1
  unfold fitsB at hf
  rw [decide_eq_true_eq] at hf
  obtain ⟨f1, f2, f3⟩ := hf
  have h1 := sortN_length L
  have h2 := sortN_length R
  refine fits_of_order k1 hr ?_ ?_
  · unfold poolPut
    split
    · exact f3
    · intro y hy
      rcases List.mem_append.1 hy with hy | hy
      · exact f3 y hy
      · rw [List.mem_singleton] at hy
        subst hy
        exact ⟨by show (sortN L).length ≤ 24; omega, by show (sortN R).length ≤ 24; omega⟩
  · by_cases hm : (sortN L, sortN R) ∈ Fs
    · intro Q hQ hx
      have hle := hQ.length_le_of_subset (l₂ := List.range Fs.length) fun x hx' => List.mem_range.2 (by
        have h := hx x hx'
        have hh := k1.reach (R := [(poolPut Fs BV L R).2.2]) (by simpa using hr) h
        unfold poolPut at hh
        rw [if_pos hm] at hh
        exact hh)
      rw [List.length_range] at hle
      omega
    · have e : poolPut Fs BV L R = (Fs ++ [(sortN L, sortN R)], BV ++ [bornL BV (bornL BV 0 (sortN L)) (sortN R)], Fs.length) := by unfold poolPut; rw [if_neg hm]
      rw [e]
      intro Q hQ hx
      have hle := hQ.length_le_of_subset (l₂ := Fs.length :: List.range (Fs.length - 1)) fun x hx' => by
        have h := hx x hx'
        clear hx' hx
        rw [List.mem_cons, List.mem_range]
        have step : ∀ x, x = Fs.length ∨ x < Fs.length - 1 → (∀ y ∈ (nodeV (Fs ++ [(sortN L, sortN R)]) x).1, y < Fs.length - 1) ∧ ∀ y ∈ (nodeV (Fs ++ [(sortN L, sortN R)]) x).2, y < Fs.length - 1 := by
          intro x hx
          rw [nodeV_append]
          rcases hx with rfl | hx
          · rw [if_neg (Nat.lt_irrefl _), if_pos rfl]
            exact ⟨fun y hy => by have := hL y ((sortN_mem L y).1 hy); omega, fun y hy => by have := hR y ((sortN_mem R y).1 hy); omega⟩
          · rw [if_pos (by omega)]
            obtain ⟨o1, o2⟩ := hP.opts x _ (node_at (by omega))
            exact ⟨fun y hy => by have := o1 y hy; omega, fun y hy => by have := o2 y hy; omega⟩
        induction h with
        | root h => simp at h; exact .inl h
        | left _ hy ih => exact .inr ((step _ ih).1 _ hy)
        | right _ hy ih => exact .inr ((step _ ih).2 _ hy)
      rw [List.length_cons, List.length_range] at hle
      omega

/-- The options that DropForm keeps. -/
def dropP (C : List Nat) (x : PL) : PL := (withoutL x.1 (domB (gL C) x.1), withoutL x.2 (domB (gR C) x.2))
/-- What DropForm gives for a good form. -/
def dropF (Fs : List PL) : List PL :=
  let x := dropP (codesOf Fs) (nodeV Fs (Fs.length - 1))
  let p := poolPut Fs (bornsF Fs) x.1 x.2
  formB p.1 p.2.1 p.2.2
theorem goodI_parts {Fs : List PL} (h : goodI (i2 Fs)) : 0 < Fs.length ∧ Fs.length ≤ 120 ∧ (∀ y ∈ Fs, y.1.length ≤ 24 ∧ y.2.length ≤ 24) ∧ PoolOK Fs (bornsF Fs) ∧ addB [] [] Fs = (Fs, bornsF Fs, List.range Fs.length) ∧ rootB [] [] Fs = Fs.length - 1 := by
  obtain ⟨h1, ho, hu, hk, hr⟩ := (goodI_iff Fs).1 h
  have hn := next_nodup ho hk
  have hf := h1
  unfold fitsB at hf
  rw [decide_eq_true_eq] at hf
  have ha := addB_self Fs ho hu hn
  refine ⟨by omega, hf.1, hf.2.2, poolOK_F ho hu hn, ha, ?_⟩
  unfold rootB
  rw [ha]
  show (List.range Fs.length).getD (Fs.length - 1) 0 = _
  rw [range_getD, if_pos (by omega)]
theorem goodI_nat {Fi : List (List Int × List Int)} (h : goodI Fi) : ∃ Fs, Fi = i2 Fs := by
  obtain ⟨Fs, e, _⟩ := risI_nat h.2.1
  exact ⟨Fs, e⟩
theorem dropP_lt {Fs : List PL} (h : goodI (i2 Fs)) : (∀ x ∈ (dropP (codesOf Fs) (nodeV Fs (Fs.length - 1))).1, x + 1 < Fs.length) ∧ (∀ x ∈ (dropP (codesOf Fs) (nodeV Fs (Fs.length - 1))).2, x + 1 < Fs.length) ∧
    (dropP (codesOf Fs) (nodeV Fs (Fs.length - 1))).1.length ≤ 24 ∧ (dropP (codesOf Fs) (nodeV Fs (Fs.length - 1))).2.length ≤ 24 := by
  obtain ⟨hp, _, hl, hP, _⟩ := goodI_parts h
  have hlt : Fs.length - 1 < Fs.length := by omega
  obtain ⟨o1, o2⟩ := hP.opts _ _ (node_at hlt)
  obtain ⟨l1, l2⟩ := hl _ (nodeV_mem hlt)
  refine ⟨fun x hx => ?_, fun x hx => ?_, Nat.le_trans (withoutL_len _ _) l1, Nat.le_trans (withoutL_len _ _) l2⟩
  · have := o1 x (withoutL_mem hx); omega
  · have := o2 x (withoutL_mem hx); omega
theorem dropF_fits {Fs : List PL} (h : goodI (i2 Fs)) : fitsB (dropF Fs) = true := by
  obtain ⟨_, _, _, hP, _⟩ := goodI_parts h
  obtain ⟨h1, h2, h3, h4⟩ := dropP_lt h
  have hf := ((goodI_iff Fs).1 h).1
  exact fits_put hf hP h1 h2 h3 h4
end Go.Proofs.YtioiljboihehcaaGreatDoor
