import Derived.Test.YtiidnnpanickaaaGreatDoorZbPlain
/- What the claim of FnExactCompareNumberCard needs of: SumLaw. -/
namespace Go.Proofs.YtiidnnpanickaaaGreatDoor
set_option linter.unusedVariables false
set_option linter.unusedSimpArgs false
open Go.RowKit
def negC (a : Nat) : Nat := mkC ((rights a).attach.map fun r => negC r.1) ((lefts a).attach.map fun l => negC l.1)
  termination_by a
  decreasing_by
    · exact optC_lt (.inr (mem_rights.1 r.2))
    · exact optC_lt (.inl (mem_lefts.1 l.2))
theorem code_mono {V V' : List PL} (h : V <+: V') {x : Nat} (hx : x < V.length) : (codesOf V').getD x 0 = (codesOf V).getD x 0 := by
  obtain ⟨t, ht⟩ := codesOf_prefix h
  rw [← ht]
  exact getD_append (by rw [codesOf_length]; exact hx)
def RowC (V : List PL) (L cs : List Nat) : Prop := (∀ x ∈ L, x < V.length) ∧ atAll (codesOf V) L = cs
theorem RowC.nil (V : List PL) : RowC V [] [] := ⟨by simp, rfl⟩
theorem RowC.mono {V V' : List PL} {L cs : List Nat} (h : RowC V L cs) (hp : V <+: V') : RowC V' L cs := by
  refine ⟨fun x hx => Nat.lt_of_lt_of_le (h.1 x hx) hp.length_le, ?_⟩
  rw [← h.2]
  exact List.map_congr_left fun x hx => code_mono hp (h.1 x hx)
theorem RowC.snoc {V : List PL} {L cs : List Nat} {x c : Nat} (h : RowC V L cs) (hx : x < V.length) (hc : (codesOf V).getD x 0 = c) : RowC V (L ++ [x]) (cs ++ [c]) := by
  refine ⟨fun y hy => ?_, ?_⟩
  · rcases List.mem_append.1 hy with hy | hy
    · exact h.1 y hy
    · rw [List.mem_singleton.1 hy]; exact hx
  · rw [← h.2, ← hc]
    simp [atAll]
theorem RowC.len {V : List PL} {L cs : List Nat} (h : RowC V L cs) : L.length = cs.length := by
  rw [← h.2]; simp [atAll]
theorem put_row {V : List PL} {BV : List Nat} (h : PoolOK V BV) {L R cs ds : List Nat} (hL : RowC V L cs) (hR : RowC V R ds) :
    PoolOK (poolPut V BV L R).1 (poolPut V BV L R).2.1 ∧ V <+: (poolPut V BV L R).1 ∧ (poolPut V BV L R).2.2 < (poolPut V BV L R).1.length ∧ (codesOf (poolPut V BV L R).1).getD (poolPut V BV L R).2.2 0 = mkC cs ds := by
  obtain ⟨p1, _, p3⟩ := poolPut_lt V BV L R
  exact ⟨(poolPut_ok h hL.1 hR.1).1, p3, p1, by rw [poolPut_code h hL.1 hR.1, hL.2, hR.2]⟩
theorem pool_size {V : List PL} {BV : List Nat} (h : PoolOK V BV) {U : List Nat} (hU : ∀ x, x < V.length → (codesOf V).getD x 0 ∈ U) : V.length ≤ U.length := by
  rw [← codesOf_length V]
  refine h.book.nodup.length_le_of_subset fun c hc => ?_
  obtain ⟨i, hi, rfl⟩ := mem_getD hc
  exact hU i (by rw [← codesOf_length V]; exact hi)
theorem poolPut_in {V : List PL} {BV : List Nat} {L R U : List Nat} (hU : ∀ x, x < V.length → (codesOf V).getD x 0 ∈ U) (hc : (codesOf (poolPut V BV L R).1).getD (poolPut V BV L R).2.2 0 ∈ U) :
    ∀ x, x < (poolPut V BV L R).1.length → (codesOf (poolPut V BV L R).1).getD x 0 ∈ U := by
  intro x hx
  obtain ⟨p1, p2, p3⟩ := poolPut_lt V BV L R
  by_cases h : x < V.length
  · rw [code_mono p3 h]; exact hU x h
  · have e : x = (poolPut V BV L R).2.2 := by
      unfold poolPut at hx p1 ⊢
      split
      · rename_i hm; rw [if_pos hm] at hx; exact absurd hx h
      · rename_i hm
        rw [if_neg hm] at hx
        simp at hx ⊢
        omega
    rw [e]; exact hc
theorem code_in_pool : ∀ (c : Nat) (V : List PL) (BV : List Nat), PoolOK V BV → ∃ V' BV' r, PoolOK V' BV' ∧ V <+: V' ∧ r < V'.length ∧ (codesOf V').getD r 0 = c := by
  intro c
  induction c using Nat.strongRecOn with
  | _ c ih =>
    have row : ∀ (L : List Nat), (∀ l ∈ L, l < c) → ∀ (V : List PL) (BV : List Nat), PoolOK V BV → ∃ V' BV' A, PoolOK V' BV' ∧ V <+: V' ∧ RowC V' A L := by
      intro L
      induction L using snoc_ind with
      | h0 => intro _ V BV h; exact ⟨V, BV, [], h, List.prefix_refl _, RowC.nil V⟩
      | h1 l a il =>
        intro hl V BV h
        obtain ⟨V1, B1, A, h1, p1, r1⟩ := il (fun x hx => hl x (List.mem_append_left _ hx)) V BV h
        obtain ⟨V2, B2, r, h2, p2, hr, hc⟩ := ih a (hl a (by simp)) V1 B1 h1
        exact ⟨V2, B2, A ++ [r], h2, p1.trans p2, (r1.mono p2).snoc hr hc⟩
    intro V BV h
    obtain ⟨V1, B1, A1, h1, p1, r1⟩ := row (lefts c) (fun l hl => optC_lt (.inl (mem_lefts.1 hl))) V BV h
    obtain ⟨V2, B2, A2, h2, p2, r2⟩ := row (rights c) (fun l hl => optC_lt (.inr (mem_rights.1 hl))) V1 B1 h1
    obtain ⟨q1, q2, q3, q4⟩ := put_row h2 (r1.mono p2) r2
    exact ⟨_, _, _, q1, (p1.trans p2).trans q2, q3, by rw [q4, mkC_self]⟩
theorem form_is (c : Nat) : ∃ FN, FormC c FN := by
  obtain ⟨V, BV, r, h, _, hr, hc⟩ := code_in_pool c [] [] PoolOK.nil
  have := h.form hr
  rw [hc] at this
  exact ⟨_, this⟩
noncomputable def formOf (c : Nat) : List PL := Classical.choose (form_is c)
theorem formOf_is (c : Nat) : FormC c (formOf c) := Classical.choose_spec (form_is c)
theorem FormC.of {c : Nat} {FN : List PL} (h : FormC c FN) : FN = formOf c := h.one (formOf_is c)
theorem formB_of {V : List PL} {BV : List Nat} (h : PoolOK V BV) {r c : Nat} (hr : r < V.length) (hc : (codesOf V).getD r 0 = c) : formB V BV r = formOf c := by
  have := h.form hr
  rw [hc] at this
  exact this.of
theorem SubC.trans {a b c : Nat} (h : SubC a b) (h' : SubC b c) : SubC a c := by
  induction h' with
  | root => exact h
  | step _ ho ih => exact ih.step ho
theorem atAll_atAll {C A L : List Nat} (h : ∀ i ∈ L, i < A.length) : atAll C (atAll A L) = atAll (atAll C A) L := by
  unfold atAll
  rw [List.map_map]
  refine List.map_congr_left fun i hi => ?_
  have hl := h i hi
  simp [List.getD_eq_getElem?_getD, List.getElem?_map, List.getElem?_eq_getElem hl]
theorem RowC.at {V : List PL} {A cs L : List Nat} (h : RowC V A cs) (hL : ∀ i ∈ L, i < A.length) : RowC V (atAll A L) (atAll cs L) := by
  refine ⟨fun x hx => ?_, ?_⟩
  · obtain ⟨i, hi, rfl⟩ := mem_atAll.1 hx
    exact h.1 _ (getD_mem (hL i hi))
  · rw [atAll_atAll hL, h.2]
theorem OptsOK.last {l : List PL} {a : PL} (ho : OptsOK (l ++ [a])) : (∀ i ∈ a.1, i < l.length) ∧ ∀ i ∈ a.2, i < l.length := ho l.length a (by simp)
theorem addB_code (Fs : List PL) : OptsOK Fs → ∀ {V : List PL} {BV : List Nat}, PoolOK V BV → PoolOK (addB V BV Fs).1 (addB V BV Fs).2.1 ∧ V <+: (addB V BV Fs).1 ∧ RowC (addB V BV Fs).1 (addB V BV Fs).2.2 (codesOf Fs) ∧
    ∀ x, x < (addB V BV Fs).1.length → (codesOf (addB V BV Fs).1).getD x 0 ∈ codesOf V ++ codesOf Fs := by
  induction Fs using snoc_ind with
  | h0 =>
    intro _ V BV h
    exact ⟨h, List.prefix_refl _, RowC.nil V, fun x hx => List.mem_append_left _ (getD_mem (by rw [codesOf_length]; exact hx))⟩
  | h1 l a ih =>
    intro ho V BV h
    obtain ⟨i1, i2, i3, i4⟩ := ih ho.cut h
    obtain ⟨o1, o2⟩ := ho.last
    have hlen : (addB V BV l).2.2.length = l.length := by rw [i3.len, codesOf_length]
    have r1 := i3.at (L := a.1) (fun i hi => by rw [hlen]; exact o1 i hi)
    have r2 := i3.at (L := a.2) (fun i hi => by rw [hlen]; exact o2 i hi)
    obtain ⟨q1, q2, q3, q4⟩ := put_row i1 r1 r2
    have e : addB V BV (l ++ [a]) = ((poolPut (addB V BV l).1 (addB V BV l).2.1 (atAll (addB V BV l).2.2 a.1) (atAll (addB V BV l).2.2 a.2)).1, (poolPut (addB V BV l).1 (addB V BV l).2.1 (atAll (addB V BV l).2.2 a.1) (atAll (addB V BV l).2.2 a.2)).2.1,
        (addB V BV l).2.2 ++ [(poolPut (addB V BV l).1 (addB V BV l).2.1 (atAll (addB V BV l).2.2 a.1) (atAll (addB V BV l).2.2 a.2)).2.2]) := by
      rw [addB_snoc, ← putB_pool i1]; rfl
    rw [e, codesOf_snoc]
    refine ⟨q1, i2.trans q2, (i3.mono q2).snoc q3 q4, ?_⟩
    refine poolPut_in (fun x hx => ?_) ?_
    · rcases List.mem_append.1 (i4 x hx) with h | h
      · exact List.mem_append_left _ h
      · exact List.mem_append_right _ (List.mem_append_left _ h)
    · rw [q4]
      exact List.mem_append_right _ (List.mem_append_right _ (List.mem_singleton.2 rfl))
theorem bookOK_v {V : List PL} {BV : List Nat} (h : PoolOK V BV) : BookOK V BV := by
  have hle : ∀ j, j < V.length → BV.getD j 0 ≤ j := by
    intro j
    induction j using Nat.strongRecOn with
    | _ j ih =>
      intro hj
      have e := node_at hj
      obtain ⟨o1, o2⟩ := h.opts j _ e
      rw [h.born j _ e, bornL_iff, bornL_iff]
      exact ⟨⟨Nat.zero_le _, fun x hx => by have := o1 x hx; have := ih x this (by omega); omega⟩, fun x hx => by have := o2 x hx; have := ih x this (by omega); omega⟩
  exact ⟨h.len, h.opts, fun j x hx => by
    have hj := (List.getElem?_eq_some_iff.1 hx).1
    have := hle j (by rw [← h.len]; exact hj)
    rw [List.getD_eq_getElem?_getD, hx] at this
    exact this⟩
theorem RowC.get {V : List PL} {A Tb : List Nat} {P p c : Nat} (h : RowC V A (Tb.take P)) (hp : p < P) (hTb : Tb[p]? = some c) : ∃ x, A[p]? = some x ∧ x < V.length ∧ (codesOf V).getD x 0 = c := by
  have h1 : (Tb.take P)[p]? = some c := by rw [List.getElem?_take, if_pos hp]; exact hTb
  rw [← h.2] at h1
  unfold atAll at h1
  rw [List.getElem?_map] at h1
  cases hA : A[p]? with
  | none => rw [hA] at h1; cases h1
  | some x =>
    rw [hA] at h1
    exact ⟨x, rfl, h.1 x (List.mem_of_getElem? hA), Option.some.inj h1⟩
end Go.Proofs.YtiidnnpanickaaaGreatDoor
