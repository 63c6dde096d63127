import Derived.Test.YtioiljboihehcaaGreatDoorZaPlain
/- What the claim of FnOneFormCard needs of: SumLaw CanLaw. -/
namespace Go.Proofs.YtioiljboihehcaaGreatDoor

set_option linter.unusedVariables false

set_option linter.unusedSimpArgs false

open Go.RowKit

/-- The negative of a game. -/
def negC (a : Nat) : Nat := mkC ((rights a).attach.map fun r => negC r.1) ((lefts a).attach.map fun l => negC l.1)
  termination_by a
  decreasing_by
    · exact optC_lt (.inr (mem_rights.1 r.2))
    · exact optC_lt (.inl (mem_lefts.1 l.2))

theorem hasL_neg (a i : Nat) : hasL (negC a) i ↔ ∃ r, hasR a r ∧ negC r = i := by
  rw [negC, hasL_mk, List.mem_map]
  constructor
  · rintro ⟨r, _, e⟩; exact ⟨r.1, mem_rights.1 r.2, e⟩
  · rintro ⟨r, hr, e⟩; exact ⟨⟨r, mem_rights.2 hr⟩, List.mem_attach _ _, e⟩

theorem hasR_neg (a i : Nat) : hasR (negC a) i ↔ ∃ l, hasL a l ∧ negC l = i := by
  rw [negC, hasR_mk, List.mem_map]
  constructor
  · rintro ⟨r, _, e⟩; exact ⟨r.1, mem_lefts.1 r.2, e⟩
  · rintro ⟨r, hr, e⟩; exact ⟨⟨r, mem_lefts.2 hr⟩, List.mem_attach _ _, e⟩

/-- The sum of two games. -/
def sumC (a b : Nat) : Nat :=
  mkC ((lefts a).attach.map (fun l => sumC l.1 b) ++ (lefts b).attach.map fun l => sumC a l.1) ((rights a).attach.map (fun r => sumC r.1 b) ++ (rights b).attach.map fun r => sumC a r.1)
  termination_by a + b
  decreasing_by
    · have := optC_lt (.inl (mem_lefts.1 l.2)); omega
    · have := optC_lt (.inl (mem_lefts.1 l.2)); omega
    · have := optC_lt (.inr (mem_rights.1 r.2)); omega
    · have := optC_lt (.inr (mem_rights.1 r.2)); omega

theorem hasL_sum (a b i : Nat) : hasL (sumC a b) i ↔ (∃ l, hasL a l ∧ sumC l b = i) ∨ ∃ l, hasL b l ∧ sumC a l = i := by
  rw [sumC, hasL_mk, List.mem_append, List.mem_map, List.mem_map]
  constructor
  · rintro (⟨r, _, e⟩ | ⟨r, _, e⟩)
    · exact .inl ⟨r.1, mem_lefts.1 r.2, e⟩
    · exact .inr ⟨r.1, mem_lefts.1 r.2, e⟩
  · rintro (⟨r, hr, e⟩ | ⟨r, hr, e⟩)
    · exact .inl ⟨⟨r, mem_lefts.2 hr⟩, List.mem_attach _ _, e⟩
    · exact .inr ⟨⟨r, mem_lefts.2 hr⟩, List.mem_attach _ _, e⟩

theorem hasR_sum (a b i : Nat) : hasR (sumC a b) i ↔ (∃ l, hasR a l ∧ sumC l b = i) ∨ ∃ l, hasR b l ∧ sumC a l = i := by
  rw [sumC, hasR_mk, List.mem_append, List.mem_map, List.mem_map]
  constructor
  · rintro (⟨r, _, e⟩ | ⟨r, _, e⟩)
    · exact .inl ⟨r.1, mem_rights.1 r.2, e⟩
    · exact .inr ⟨r.1, mem_rights.1 r.2, e⟩
  · rintro (⟨r, hr, e⟩ | ⟨r, hr, e⟩)
    · exact .inl ⟨⟨r, mem_rights.2 hr⟩, List.mem_attach _ _, e⟩
    · exact .inr ⟨⟨r, mem_rights.2 hr⟩, List.mem_attach _ _, e⟩

/-- The sum of two nodes, in a book whose codes are known. -/
theorem sumC_mk (a b : Nat) (L R : List Nat) (hL : ∀ i, i ∈ L ↔ (∃ l, hasL a l ∧ sumC l b = i) ∨ ∃ l, hasL b l ∧ sumC a l = i) (hR : ∀ i, i ∈ R ↔ (∃ l, hasR a l ∧ sumC l b = i) ∨ ∃ l, hasR b l ∧ sumC a l = i) : mkC L R = sumC a b :=
  code_ext (fun i => by rw [hasL_mk, hL, hasL_sum]) (fun i => by rw [hasR_mk, hR, hasR_sum])

theorem negC_mk (a : Nat) (L R : List Nat) (hL : ∀ i, i ∈ L ↔ ∃ r, hasR a r ∧ negC r = i) (hR : ∀ i, i ∈ R ↔ ∃ l, hasL a l ∧ negC l = i) : mkC L R = negC a :=
  code_ext (fun i => by rw [hasL_mk, hL, hasL_neg]) (fun i => by rw [hasR_mk, hR, hasR_neg])

/-- What stands in a pool stands in each longer one. -/
theorem code_mono {V V' : List PL} (h : V <+: V') {x : Nat} (hx : x < V.length) : (codesOf V').getD x 0 = (codesOf V).getD x 0 := by
  obtain ⟨t, ht⟩ := codesOf_prefix h
  rw [← ht]
  exact getD_append (by rw [codesOf_length]; exact hx)

theorem node_mono {V V' : List PL} (h : V <+: V') {x : Nat} (hx : x < V.length) : nodeV V' x = nodeV V x := by
  obtain ⟨t, rfl⟩ := h
  unfold nodeV
  rw [List.getD_eq_getElem?_getD, List.getD_eq_getElem?_getD, List.getElem?_append_left hx]

/-- A row of places whose games are known. -/
def RowC (V : List PL) (L cs : List Nat) : Prop := (∀ x ∈ L, x < V.length) ∧ atAll (codesOf V) L = cs

theorem RowC.nil (V : List PL) : RowC V [] [] := ⟨by simp, rfl⟩

theorem RowC.mono {V V' : List PL} {L cs : List Nat} (h : RowC V L cs) (hp : V <+: V') : RowC V' L cs := by
  refine ⟨fun x hx => Nat.lt_of_lt_of_le (h.1 x hx) hp.length_le, ?_⟩
  rw [← h.2]
  exact List.map_congr_left fun x hx => code_mono hp (h.1 x hx)

theorem RowC.snoc {V : List PL} {L cs : List Nat} {x c : Nat} (h : RowC V L cs) (hx : x < V.length) (hc : (codesOf V).getD x 0 = c) : RowC V (L ++ [x]) (cs ++ [c]) := by
  refine ⟨fun y hy => ?_, ?_⟩
  · rcases List.mem_append.1 hy with hy | hy
    · exact h.1 y hy
    · rw [List.mem_singleton.1 hy]; exact hx
  · rw [← h.2, ← hc]
    simp [atAll]

theorem RowC.next {V : List PL} {L TL : List Nat} {x c j : Nat} (h : RowC V L (TL.take j)) (hj : TL[j]? = some c) (hx : x < V.length) (hc : (codesOf V).getD x 0 = c) : RowC V (L ++ [x]) (TL.take (j + 1)) := by
  obtain ⟨hl, e⟩ := List.getElem?_eq_some_iff.1 hj
  rw [List.take_succ_eq_append_getElem hl, e]
  exact h.snoc hx hc

theorem RowC.len {V : List PL} {L cs : List Nat} (h : RowC V L cs) : L.length = cs.length := by
  rw [← h.2]; simp [atAll]

theorem put_row {V : List PL} {BV : List Nat} (h : PoolOK V BV) {L R cs ds : List Nat} (hL : RowC V L cs) (hR : RowC V R ds) :
    PoolOK (poolPut V BV L R).1 (poolPut V BV L R).2.1 ∧ V <+: (poolPut V BV L R).1 ∧ (poolPut V BV L R).2.2 < (poolPut V BV L R).1.length ∧ (codesOf (poolPut V BV L R).1).getD (poolPut V BV L R).2.2 0 = mkC cs ds := by
  obtain ⟨p1, _, p3⟩ := poolPut_lt V BV L R
  exact ⟨(poolPut_ok h hL.1 hR.1).1, p3, p1, by rw [poolPut_code h hL.1 hR.1, hL.2, hR.2]⟩

theorem sum_mk {C D : List Nat} {x y : PL} {a b : Nat} (hx : a = mkC (atAll C x.1) (atAll C x.2)) (hy : b = mkC (atAll D y.1) (atAll D y.2)) :
    mkC ((atAll C x.1).map (fun l => sumC l b) ++ (atAll D y.1).map fun l => sumC a l) ((atAll C x.2).map (fun l => sumC l b) ++ (atAll D y.2).map fun l => sumC a l) = sumC a b := by
  have e1 : ∀ l, hasL a l ↔ l ∈ atAll C x.1 := fun l => by rw [hx, hasL_mk]
  have e2 : ∀ l, hasR a l ↔ l ∈ atAll C x.2 := fun l => by rw [hx, hasR_mk]
  have e3 : ∀ l, hasL b l ↔ l ∈ atAll D y.1 := fun l => by rw [hy, hasL_mk]
  have e4 : ∀ l, hasR b l ↔ l ∈ atAll D y.2 := fun l => by rw [hy, hasR_mk]
  refine sumC_mk a b _ _ (fun i => ?_) fun i => ?_
  · rw [List.mem_append, List.mem_map, List.mem_map]
    simp only [e1, e3]
  · rw [List.mem_append, List.mem_map, List.mem_map]
    simp only [e2, e4]

theorem neg_mk {C : List Nat} {x : PL} {a : Nat} (hx : a = mkC (atAll C x.1) (atAll C x.2)) : mkC ((atAll C x.2).map negC) ((atAll C x.1).map negC) = negC a := by
  have e1 : ∀ l, hasL a l ↔ l ∈ atAll C x.1 := fun l => by rw [hx, hasL_mk]
  have e2 : ∀ l, hasR a l ↔ l ∈ atAll C x.2 := fun l => by rw [hx, hasR_mk]
  refine negC_mk a _ _ (fun i => ?_) fun i => ?_
  · rw [List.mem_map]; simp only [e2]
  · rw [List.mem_map]; simp only [e1]

/-- Where the options of a sum stand. -/
theorem tl_left {C A B : List Nat} {g : Nat → Nat} {k l : Nat} (h : A[k]? = some l) : ((atAll C A).map g ++ B)[k]? = some (g (C.getD l 0)) := by
  have hk := (List.getElem?_eq_some_iff.1 h).1
  rw [List.getElem?_append_left (by simpa [atAll] using hk)]
  simp [atAll, List.getElem?_map, h]

theorem tl_right {C D A B : List Nat} {g g' : Nat → Nat} {k l : Nat} (h : B[k]? = some l) : ((atAll C A).map g ++ (atAll D B).map g')[A.length + k]? = some (g' (D.getD l 0)) := by
  rw [List.getElem?_append_right (by simp [atAll])]
  simp [atAll, List.getElem?_map, h]

theorem tl_one {C A : List Nat} {g : Nat → Nat} {k l : Nat} (h : A[k]? = some l) : ((atAll C A).map g)[k]? = some (g (C.getD l 0)) := by
  simp [atAll, List.getElem?_map, h]

/-- The pool's places are no more than the games that may stand there. -/
theorem pool_size {V : List PL} {BV : List Nat} (h : PoolOK V BV) {U : List Nat} (hU : ∀ x, x < V.length → (codesOf V).getD x 0 ∈ U) : V.length ≤ U.length := by
  rw [← codesOf_length V]
  refine h.book.nodup.length_le_of_subset fun c hc => ?_
  obtain ⟨i, hi, rfl⟩ := mem_getD hc
  exact hU i (by rw [← codesOf_length V]; exact hi)

theorem poolPut_in {V : List PL} {BV : List Nat} {L R U : List Nat} (hU : ∀ x, x < V.length → (codesOf V).getD x 0 ∈ U) (hc : (codesOf (poolPut V BV L R).1).getD (poolPut V BV L R).2.2 0 ∈ U) :
    ∀ x, x < (poolPut V BV L R).1.length → (codesOf (poolPut V BV L R).1).getD x 0 ∈ U := by
  intro x hx
  obtain ⟨p1, p2, p3⟩ := poolPut_lt V BV L R
  by_cases h : x < V.length
  · rw [code_mono p3 h]; exact hU x h
  · have e : x = (poolPut V BV L R).2.2 := by
      unfold poolPut at hx p1 ⊢
      split
      · rename_i hm; rw [if_pos hm] at hx; exact absurd hx h
      · rename_i hm
        rw [if_neg hm] at hx
        simp at hx ⊢
        omega
    rw [e]; exact hc

/-- Each game has a form. -/
theorem code_in_pool : ∀ (c : Nat) (V : List PL) (BV : List Nat), PoolOK V BV → ∃ V' BV' r, PoolOK V' BV' ∧ V <+: V' ∧ r < V'.length ∧ (codesOf V').getD r 0 = c := by
  intro c
  induction c using Nat.strongRecOn with
  | _ c ih =>
    have row : ∀ (L : List Nat), (∀ l ∈ L, l < c) → ∀ (V : List PL) (BV : List Nat), PoolOK V BV → ∃ V' BV' A, PoolOK V' BV' ∧ V <+: V' ∧ RowC V' A L := by
      intro L
      induction L using snoc_ind with
      | h0 => intro _ V BV h; exact ⟨V, BV, [], h, List.prefix_refl _, RowC.nil V⟩
      | h1 l a il =>
        intro hl V BV h
        obtain ⟨V1, B1, A, h1, p1, r1⟩ := il (fun x hx => hl x (List.mem_append_left _ hx)) V BV h
        obtain ⟨V2, B2, r, h2, p2, hr, hc⟩ := ih a (hl a (by simp)) V1 B1 h1
        exact ⟨V2, B2, A ++ [r], h2, p1.trans p2, (r1.mono p2).snoc hr hc⟩
    intro V BV h
    obtain ⟨V1, B1, A1, h1, p1, r1⟩ := row (lefts c) (fun l hl => optC_lt (.inl (mem_lefts.1 hl))) V BV h
    obtain ⟨V2, B2, A2, h2, p2, r2⟩ := row (rights c) (fun l hl => optC_lt (.inr (mem_rights.1 hl))) V1 B1 h1
    obtain ⟨q1, q2, q3, q4⟩ := put_row h2 (r1.mono p2) r2
    exact ⟨_, _, _, q1, (p1.trans p2).trans q2, q3, by rw [q4, mkC_self]⟩

theorem form_is (c : Nat) : ∃ FN, FormC c FN := by
  obtain ⟨V, BV, r, h, _, hr, hc⟩ := code_in_pool c [] [] PoolOK.nil
  have := h.form hr
  rw [hc] at this
  exact ⟨_, this⟩

noncomputable def formOf (c : Nat) : List PL := Classical.choose (form_is c)

theorem formOf_is (c : Nat) : FormC c (formOf c) := Classical.choose_spec (form_is c)

theorem FormC.of {c : Nat} {FN : List PL} (h : FormC c FN) : FN = formOf c := h.one (formOf_is c)

theorem formB_of {V : List PL} {BV : List Nat} (h : PoolOK V BV) {r c : Nat} (hr : r < V.length) (hc : (codesOf V).getD r 0 = c) : formB V BV r = formOf c := by
  have := h.form hr
  rw [hc] at this
  exact this.of

theorem SubC.trans {a b c : Nat} (h : SubC a b) (h' : SubC b c) : SubC a c := by
  induction h' with
  | root => exact h
  | step _ ho ih => exact ih.step ho

/-- The negative of a form is as long as the form. -/
theorem SubC.neg {c x : Nat} (h : SubC (negC c) x) : ∃ y, SubC c y ∧ x = negC y := by
  induction h with
  | root => exact ⟨c, .root, rfl⟩
  | step _ ho ih =>
    obtain ⟨y, hy, rfl⟩ := ih
    rcases ho with h | h
    · obtain ⟨r, hr, e⟩ := (hasL_neg y _).1 h
      exact ⟨r, hy.step (.inr hr), e.symm⟩
    · obtain ⟨r, hr, e⟩ := (hasR_neg y _).1 h
      exact ⟨r, hy.step (.inl hr), e.symm⟩

theorem atAll_nodup {C L : List Nat} (hC : C.Nodup) (hu : L.Pairwise (· < ·)) (hl : ∀ x ∈ L, x < C.length) : (atAll C L).Nodup := by
  unfold atAll
  refine List.pairwise_map.2 (hu.imp_of_mem ?_)
  intro a b ha hb hab e
  have := nodup_getD hC (hl a ha) (hl b hb) e
  omega

theorem neg_fits {c : Nat} {Fs FN : List PL} (h : FormC c Fs) (h' : FormC (negC c) FN) (hf : fitsB Fs = true) : fitsB FN = true := by
  obtain ⟨P, hA⟩ := h
  obtain ⟨P', hA'⟩ := h'
  have hp := (of_form ⟨P', hA'⟩).1
  have hPl := hA.book.len; have hPl' := hA'.book.len
  unfold fitsB at hf ⊢
  rw [decide_eq_true_eq] at hf ⊢
  obtain ⟨f1, f2, f3⟩ := hf
  have sub : ∀ x ∈ P', x ∈ P.map negC := fun x hx => by
    obtain ⟨y, hy, rfl⟩ := ((hA'.sub x).1 hx).neg
    exact List.mem_map.2 ⟨y, (hA.sub y).2 hy, rfl⟩
  have hlen : P'.length ≤ P.length := by
    have := hA'.book.nodup.length_le_of_subset sub
    rwa [List.length_map] at this
  refine ⟨by omega, by omega, fun y hy => ?_⟩
  obtain ⟨j, hj, rfl⟩ := List.getElem_of_mem hy
  have ej := List.getElem?_eq_getElem hj
  have cj := hA'.book.code j _ ej
  obtain ⟨o1, o2⟩ := hA'.book.opts j _ ej
  obtain ⟨u1, u2⟩ := hA'.book.up j _ ej
  obtain ⟨z, hz, ez⟩ := List.mem_map.1 (sub _ (getD_mem (show j < P'.length by omega)))
  obtain ⟨k, hk, rfl⟩ := mem_getD hz
  have ek := List.getElem?_eq_getElem (show k < Fs.length by omega)
  have ck := hA.book.code k _ ek
  obtain ⟨g1, g2⟩ := f3 _ (List.mem_of_getElem? ek)
  have hL : ∀ i, i ∈ atAll P' (FN[j]).1 → i ∈ (atAll P (Fs[k]'(by omega)).2).map negC := fun i hi => by
    have h1 : hasL (P'.getD j 0) i := by rw [cj, hasL_mk]; exact hi
    rw [← ez, hasL_neg] at h1
    obtain ⟨r, hr, e⟩ := h1
    rw [ck, hasR_mk] at hr
    exact List.mem_map.2 ⟨r, hr, e⟩
  have hR : ∀ i, i ∈ atAll P' (FN[j]).2 → i ∈ (atAll P (Fs[k]'(by omega)).1).map negC := fun i hi => by
    have h1 : hasR (P'.getD j 0) i := by rw [cj, hasR_mk]; exact hi
    rw [← ez, hasR_neg] at h1
    obtain ⟨r, hr, e⟩ := h1
    rw [ck, hasL_mk] at hr
    exact List.mem_map.2 ⟨r, hr, e⟩
  have n1 := (atAll_nodup hA'.book.nodup u1 (fun x hx => by have := o1 x hx; omega)).length_le_of_subset hL
  have n2 := (atAll_nodup hA'.book.nodup u2 (fun x hx => by have := o2 x hx; omega)).length_le_of_subset hR
  simp only [List.length_map, atAll] at n1 n2
  exact ⟨by omega, by omega⟩

theorem atAll_atAll {C A L : List Nat} (h : ∀ i ∈ L, i < A.length) : atAll C (atAll A L) = atAll (atAll C A) L := by
  unfold atAll
  rw [List.map_map]
  refine List.map_congr_left fun i hi => ?_
  have hl := h i hi
  simp [List.getD_eq_getElem?_getD, List.getElem?_map, List.getElem?_eq_getElem hl]

theorem RowC.at {V : List PL} {A cs L : List Nat} (h : RowC V A cs) (hL : ∀ i ∈ L, i < A.length) : RowC V (atAll A L) (atAll cs L) := by
  refine ⟨fun x hx => ?_, ?_⟩
  · obtain ⟨i, hi, rfl⟩ := mem_atAll.1 hx
    exact h.1 _ (getD_mem (hL i hi))
  · rw [atAll_atAll hL, h.2]

theorem OptsOK.last {l : List PL} {a : PL} (ho : OptsOK (l ++ [a])) : (∀ i ∈ a.1, i < l.length) ∧ ∀ i ∈ a.2, i < l.length := ho l.length a (by simp)

/-- The games of a form that is put into a pool. -/
theorem addB_code (Fs : List PL) : OptsOK Fs → ∀ {V : List PL} {BV : List Nat}, PoolOK V BV → PoolOK (addB V BV Fs).1 (addB V BV Fs).2.1 ∧ V <+: (addB V BV Fs).1 ∧ RowC (addB V BV Fs).1 (addB V BV Fs).2.2 (codesOf Fs) ∧
    ∀ x, x < (addB V BV Fs).1.length → (codesOf (addB V BV Fs).1).getD x 0 ∈ codesOf V ++ codesOf Fs := by
  induction Fs using snoc_ind with
  | h0 =>
    intro _ V BV h
    exact ⟨h, List.prefix_refl _, RowC.nil V, fun x hx => List.mem_append_left _ (getD_mem (by rw [codesOf_length]; exact hx))⟩
  | h1 l a ih =>
    intro ho V BV h
    obtain ⟨i1, i2, i3, i4⟩ := ih ho.cut h
    obtain ⟨o1, o2⟩ := ho.last
    have hlen : (addB V BV l).2.2.length = l.length := by rw [i3.len, codesOf_length]
    have r1 := i3.at (L := a.1) (fun i hi => by rw [hlen]; exact o1 i hi)
    have r2 := i3.at (L := a.2) (fun i hi => by rw [hlen]; exact o2 i hi)
    obtain ⟨q1, q2, q3, q4⟩ := put_row i1 r1 r2
    have e : addB V BV (l ++ [a]) = ((poolPut (addB V BV l).1 (addB V BV l).2.1 (atAll (addB V BV l).2.2 a.1) (atAll (addB V BV l).2.2 a.2)).1, (poolPut (addB V BV l).1 (addB V BV l).2.1 (atAll (addB V BV l).2.2 a.1) (atAll (addB V BV l).2.2 a.2)).2.1,
        (addB V BV l).2.2 ++ [(poolPut (addB V BV l).1 (addB V BV l).2.1 (atAll (addB V BV l).2.2 a.1) (atAll (addB V BV l).2.2 a.2)).2.2]) := by
      rw [addB_snoc, ← putB_pool i1]; rfl
    rw [e, codesOf_snoc]
    refine ⟨q1, i2.trans q2, (i3.mono q2).snoc q3 q4, ?_⟩
    refine poolPut_in (fun x hx => ?_) ?_
    · rcases List.mem_append.1 (i4 x hx) with h | h
      · exact List.mem_append_left _ h
      · exact List.mem_append_right _ (List.mem_append_left _ h)
    · rw [q4]
      exact List.mem_append_right _ (List.mem_append_right _ (List.mem_singleton.2 rfl))

theorem sub_codes {V : List PL} {BV : List Nat} (h : PoolOK V BV) {r : Nat} (hr : r < V.length) {a : Nat} (hs : SubC ((codesOf V).getD r 0) a) : a ∈ codesOf V := by
  obtain ⟨x, _, hx, e⟩ := sub_reach h.book hr hs
  rw [← e]
  exact getD_mem (by rw [codesOf_length]; exact hx)

/-- The games that may stand in a pool in which two games are put together. -/
def sumU (C : List Nat) : List Nat := C ++ C.flatMap fun a => C.map fun b => sumC a b

theorem mem_sumU {C : List Nat} {a b : Nat} (ha : a ∈ C) (hb : b ∈ C) : sumC a b ∈ sumU C := List.mem_append_right _ (List.mem_flatMap.2 ⟨a, ha, List.mem_map.2 ⟨b, hb, rfl⟩⟩)

theorem sumU_len (C : List Nat) : (sumU C).length = C.length + C.length * C.length := by
  unfold sumU
  rw [List.length_append]
  congr 1
  have : ∀ D : List Nat, (D.flatMap fun a => C.map fun b => sumC a b).length = D.length * C.length := by
    intro D
    induction D with
    | nil => simp
    | cons a l ih => rw [List.flatMap_cons, List.length_append, ih, List.length_map, List.length_cons, Nat.succ_mul, Nat.add_comm]
  exact this C

theorem bookOK_v {V : List PL} {BV : List Nat} (h : PoolOK V BV) : BookOK V BV := by
  have hle : ∀ j, j < V.length → BV.getD j 0 ≤ j := by
    intro j
    induction j using Nat.strongRecOn with
    | _ j ih =>
      intro hj
      have e := node_at hj
      obtain ⟨o1, o2⟩ := h.opts j _ e
      rw [h.born j _ e, bornL_iff, bornL_iff]
      exact ⟨⟨Nat.zero_le _, fun x hx => by have := o1 x hx; have := ih x this (by omega); omega⟩, fun x hx => by have := o2 x hx; have := ih x this (by omega); omega⟩
  exact ⟨h.len, h.opts, fun j x hx => by
    have hj := (List.getElem?_eq_some_iff.1 hx).1
    have := hle j (by rw [← h.len]; exact hj)
    rw [List.getD_eq_getElem?_getD, hx] at this
    exact this⟩

/-- The games of all sums of two forms' games, line by line. -/
def sumTab (CF CG : List Nat) : List Nat := CF.flatMap fun a => CG.map fun b => sumC a b

theorem sumTab_len (CF CG : List Nat) : (sumTab CF CG).length = CF.length * CG.length := by
  unfold sumTab
  induction CF with
  | nil => simp
  | cons a l ih => rw [List.flatMap_cons, List.length_append, ih, List.length_map, List.length_cons, Nat.succ_mul, Nat.add_comm]

theorem sumTab_get {CF CG : List Nat} : ∀ {i k : Nat}, i < CF.length → k < CG.length → (sumTab CF CG)[i * CG.length + k]? = some (sumC (CF.getD i 0) (CG.getD k 0)) := by
  induction CF with
  | nil => intro i k h; simp at h
  | cons a l ih =>
    intro i k hi hk
    have e : sumTab (a :: l) CG = (CG.map fun b => sumC a b) ++ sumTab l CG := by unfold sumTab; rw [List.flatMap_cons]
    rw [e]
    cases i with
    | zero =>
      rw [Nat.zero_mul, Nat.zero_add, List.getElem?_append_left (by simpa using hk), List.getElem?_map, List.getElem?_eq_getElem hk, List.getD_eq_getElem?_getD (l := CG), List.getElem?_eq_getElem hk]
      rfl
    | succ j =>
      rw [List.getElem?_append_right (by rw [List.length_map, Nat.succ_mul]; omega), List.length_map]
      have := ih (i := j) (k := k) (by simpa using hi) hk
      rw [show (j + 1) * CG.length + k - CG.length = j * CG.length + k from by rw [Nat.succ_mul]; omega, this]
      rfl

theorem RowC.get {V : List PL} {A Tb : List Nat} {P p c : Nat} (h : RowC V A (Tb.take P)) (hp : p < P) (hTb : Tb[p]? = some c) : ∃ x, A[p]? = some x ∧ x < V.length ∧ (codesOf V).getD x 0 = c := by
  have h1 : (Tb.take P)[p]? = some c := by rw [List.getElem?_take, if_pos hp]; exact hTb
  rw [← h.2] at h1
  unfold atAll at h1
  rw [List.getElem?_map] at h1
  cases hA : A[p]? with
  | none => rw [hA] at h1; cases h1
  | some x =>
    rw [hA] at h1
    exact ⟨x, rfl, h.1 x (List.mem_of_getElem? hA), Option.some.inj h1⟩

theorem take_nxt {Tb : List Nat} {p c : Nat} (h : Tb[p]? = some c) : Tb.take p ++ [c] = Tb.take (p + 1) := by
  obtain ⟨hl, e⟩ := List.getElem?_eq_some_iff.1 h
  rw [List.take_succ_eq_append_getElem hl, e]

end Go.Proofs.YtioiljboihehcaaGreatDoor

namespace Go.Proofs.YtioiljboihehcaaGreatDoor

set_option linter.unusedVariables false

set_option linter.unusedSimpArgs false

open Go.RowKit

theorem ge_refl (a : Nat) : geC a a = true := by
  induction a using Nat.strongRecOn with
  | _ a ih =>
    rw [geC_iff]
    constructor
    · intro r hr
      cases h : geC a r with
      | false => rfl
      | true =>
        have h1 := ((geC_iff a r).1 h).1 r hr
        rw [ih r (optC_lt (.inr hr))] at h1
        cases h1
    · intro l hl
      cases h : geC l a with
      | false => rfl
      | true =>
        have h1 := ((geC_iff l a).1 h).2 l hl
        rw [ih l (optC_lt (.inl hl))] at h1
        cases h1

theorem ge_right {a b r : Nat} (h : geC a b = true) (hr : hasR a r) : geC b r = false := ((geC_iff a b).1 h).1 r hr

theorem ge_left {a b l : Nat} (h : geC a b = true) (hl : hasL b l) : geC l a = false := ((geC_iff a b).1 h).2 l hl

theorem ge_intro {a b : Nat} (h1 : ∀ r, hasR a r → geC b r = false) (h2 : ∀ l, hasL b l → geC l a = false) : geC a b = true := (geC_iff a b).2 ⟨h1, h2⟩

theorem ge_not {a b : Nat} (h : geC a b = false) : (∃ r, hasR a r ∧ geC b r = true) ∨ ∃ l, hasL b l ∧ geC l a = true := by
  refine Classical.byContradiction fun q => ?_
  have : geC a b = true := ge_intro (fun r hr => by
    cases e : geC b r with
    | false => rfl
    | true => exact absurd (.inl ⟨r, hr, e⟩) q) (fun l hl => by
    cases e : geC l a with
    | false => rfl
    | true => exact absurd (.inr ⟨l, hl, e⟩) q)
  rw [h] at this; cases this

theorem ge_trans' (n : Nat) : ∀ a b c, a + b + c < n → geC a b = true → geC b c = true → geC a c = true := by
  induction n with
  | zero => intro a b c h; omega
  | succ n ih =>
    intro a b c hn h1 h2
    refine ge_intro (fun r hr => ?_) fun l hl => ?_
    · cases e : geC c r with
      | false => rfl
      | true =>
        have hlt := optC_lt (.inr hr)
        have h3 := ih b c r (by omega) h2 e
        rw [ge_right h1 hr] at h3; cases h3
    · cases e : geC l a with
      | false => rfl
      | true =>
        have hlt := optC_lt (.inl hl)
        have h3 := ih l a b (by omega) e h1
        rw [ge_left h2 hl] at h3; cases h3

theorem ge_trans {a b c : Nat} (h1 : geC a b = true) (h2 : geC b c = true) : geC a c = true := ge_trans' _ a b c (Nat.lt_succ_self _) h1 h2

theorem not_ge_of_le {a b c : Nat} (h1 : geC a b = true) (h2 : geC a c = false) : geC b c = false := by
  cases e : geC b c with
  | false => rfl
  | true => rw [ge_trans h1 e] at h2; cases h2

theorem not_ge_of_ge {a b c : Nat} (h1 : geC c b = true) (h2 : geC a b = false) : geC a c = false := by
  cases e : geC a c with
  | false => rfl
  | true => rw [ge_trans e h1] at h2; cases h2

theorem opt_left {a l : Nat} (h : hasL a l) : geC l a = false := ge_left (ge_refl a) h

theorem opt_right {a r : Nat} (h : hasR a r) : geC a r = false := ge_right (ge_refl a) h

/-- Nothing of a game's options is dominated, nothing reversible. -/
structure CanC1 (a : Nat) : Prop where
  domL : ∀ l l', hasL a l → hasL a l' → geC l' l = true → l' = l
  domR : ∀ r r', hasR a r → hasR a r' → geC r r' = true → r' = r
  revL : ∀ l r, hasL a l → hasR l r → geC a r = false
  revR : ∀ r l, hasR a r → hasL r l → geC l a = false

/-- A game in canonical form. -/
def CanC (a : Nat) : Prop := ∀ x, SubC a x → CanC1 x

theorem CanC.opt {a x : Nat} (h : CanC a) (ho : optC a x) : CanC x := fun y hy => h y ((SubC.root.step ho).trans hy)

theorem CanC.mk {a : Nat} (h : CanC1 a) (ho : ∀ x, optC a x → CanC x) : CanC a := by
  intro x hx
  have key : x = a ∨ ∃ y, optC a y ∧ SubC y x := by
    induction hx with
    | root => exact .inl rfl
    | step _ hop ih =>
      rcases ih with rfl | ⟨y, hy, hs⟩
      · exact .inr ⟨_, hop, .root⟩
      · exact .inr ⟨y, hy, hs.step hop⟩
  rcases key with rfl | ⟨y, hy, hs⟩
  · exact h
  · exact ho y hy x hs

theorem can_half (a b : Nat) (ih : ∀ x y, x + y < a + b → CanC x → CanC y → geC x y = true → geC y x = true → x = y) (ca : CanC a) (cb : CanC b) (hab : geC a b = true) (hba : geC b a = true) :
    (∀ l, hasL a l → hasL b l) ∧ ∀ r, hasR a r → hasR b r := by
  have ka := ca a .root
  have kb := cb b .root
  constructor
  · intro l hl
    rcases ge_not (ge_left hba hl) with ⟨r, hr, e⟩ | ⟨l', hl', e⟩
    · have := ge_trans hab e
      rw [ka.revL l r hl hr] at this; cases this
    · rcases ge_not (ge_left hab hl') with ⟨r, hr, e'⟩ | ⟨l2, hl2, e'⟩
      · have := ge_trans hba e'
        rw [kb.revL l' r hl' hr] at this; cases this
      · obtain rfl := ka.domL l l2 hl hl2 (ge_trans e' e)
        have h1 := optC_lt (.inl hl); have h2 := optC_lt (.inl hl')
        rw [ih l2 l' (by omega) (ca.opt (.inl hl)) (cb.opt (.inl hl')) e' e]
        exact hl'
  · intro r hr
    rcases ge_not (ge_right hab hr) with ⟨r', hr', e⟩ | ⟨l, hl, e⟩
    · rcases ge_not (ge_right hba hr') with ⟨r2, hr2, e'⟩ | ⟨l, hl, e'⟩
      · obtain rfl := ka.domR r r2 hr hr2 (ge_trans e e')
        have h1 := optC_lt (.inr hr); have h2 := optC_lt (.inr hr')
        rw [ih r2 r' (by omega) (ca.opt (.inr hr)) (cb.opt (.inr hr')) e e']
        exact hr'
      · have := ge_trans e' hab
        rw [kb.revR r' l hr' hl] at this; cases this
    · have := ge_trans e hba
      rw [ka.revR r l hr hl] at this; cases this

theorem can_one' (n : Nat) : ∀ a b, a + b < n → CanC a → CanC b → geC a b = true → geC b a = true → a = b := by
  induction n with
  | zero => intro a b h; omega
  | succ n ih =>
    intro a b hn ca cb hab hba
    obtain ⟨p1, p2⟩ := can_half a b (fun x y h => ih x y (by omega)) ca cb hab hba
    obtain ⟨q1, q2⟩ := can_half b a (fun x y h => ih x y (by omega)) cb ca hba hab
    exact code_ext (fun i => ⟨p1 i, q1 i⟩) fun i => ⟨p2 i, q2 i⟩

/-- Games in canonical form that are equal are the same. -/
theorem can_one {a b : Nat} (ca : CanC a) (cb : CanC b) (hab : geC a b = true) (hba : geC b a = true) : a = b := can_one' _ a b (Nat.lt_succ_self _) ca cb hab hba

open Classical in
/-- The canonical form of a game. -/
noncomputable def canC (f : Nat) : Nat := if h : ∃ c, CanC c ∧ geC c f = true ∧ geC f c = true then Classical.choose h else 0

theorem canC_of {f c : Nat} (h : CanC c) (h1 : geC c f = true) (h2 : geC f c = true) : c = canC f := by
  have he : ∃ c, CanC c ∧ geC c f = true ∧ geC f c = true := ⟨c, h, h1, h2⟩
  unfold canC
  rw [dif_pos he]
  obtain ⟨k0, k1, k2⟩ := Classical.choose_spec he
  exact can_one h k0 (ge_trans h1 k2) (ge_trans k1 h2)

/-- What is left of a game's options once the reversible ones are bypassed and the dominated ones left out is equal to the game. -/
theorem reduce_eq {f : Nat} {KL KR SL SR : List Nat} (aL : ∀ i ∈ KL, geC i f = false) (aR : ∀ i ∈ KR, geC f i = false)
    (sL : ∀ i ∈ SL, (∃ j ∈ KL, geC j i = true) ∨ ∃ k, hasR i k ∧ geC f k = true ∧ ∀ l, hasL k l → l ∈ SL)
    (sR : ∀ i ∈ SR, (∃ j ∈ KR, geC i j = true) ∨ ∃ k, hasL i k ∧ geC k f = true ∧ ∀ r, hasR k r → r ∈ SR)
    (oL : ∀ l, hasL f l → ∃ i ∈ SL, geC i l = true) (oR : ∀ r, hasR f r → ∃ i ∈ SR, geC r i = true) :
    geC (mkC KL KR) f = true ∧ geC f (mkC KL KR) = true := by
  have cL : ∀ n i, i < n → i ∈ SL → geC i (mkC KL KR) = false := by
    intro n
    induction n with
    | zero => intro i h; omega
    | succ n ih =>
      intro i hn hi
      rcases sL i hi with ⟨j, hj, e⟩ | ⟨k, hk, e, hs⟩
      · exact not_ge_of_le e (opt_left ((hasL_mk KL KR j).2 hj))
      · have hlt := optC_lt (.inr hk)
        have hg : geC (mkC KL KR) k = true := ge_intro (fun r hr => not_ge_of_le e (aR r ((hasR_mk KL KR r).1 hr))) fun l hl => ih l (by have := optC_lt (.inl hl); omega) (hs l hl)
        exact not_ge_of_ge hg (opt_right hk)
  have cR : ∀ n i, i < n → i ∈ SR → geC (mkC KL KR) i = false := by
    intro n
    induction n with
    | zero => intro i h; omega
    | succ n ih =>
      intro i hn hi
      rcases sR i hi with ⟨j, hj, e⟩ | ⟨k, hk, e, hs⟩
      · exact not_ge_of_ge e (opt_right ((hasR_mk KL KR j).2 hj))
      · have hlt := optC_lt (.inl hk)
        have hg : geC k (mkC KL KR) = true := ge_intro (fun r hr => ih r (by have := optC_lt (.inr hr); omega) (hs r hr)) fun l hl => not_ge_of_ge e (aL l ((hasL_mk KL KR l).1 hl))
        exact not_ge_of_le hg (opt_left hk)
  constructor
  · refine ge_intro (fun r hr => aR r ((hasR_mk KL KR r).1 hr)) fun l hl => ?_
    obtain ⟨i, hi, e⟩ := oL l hl
    exact not_ge_of_le e (cL _ i (Nat.lt_succ_self _) hi)
  · refine ge_intro (fun r hr => ?_) fun l hl => aL l ((hasL_mk KL KR l).1 hl)
    obtain ⟨i, hi, e⟩ := oR r hr
    exact not_ge_of_ge e (cR _ i (Nat.lt_succ_self _) hi)

/-- And it is in canonical form, if what is left is, with nothing dominated and nothing reversible. -/
theorem reduce_can {f : Nat} {KL KR : List Nat} (e1 : geC (mkC KL KR) f = true) (e2 : geC f (mkC KL KR) = true) (cL : ∀ i ∈ KL, CanC i) (cR : ∀ i ∈ KR, CanC i)
    (dL : ∀ i ∈ KL, ∀ j ∈ KL, geC j i = true → j = i) (dR : ∀ i ∈ KR, ∀ j ∈ KR, geC i j = true → j = i)
    (rL : ∀ i ∈ KL, ∀ r, hasR i r → geC f r = false) (rR : ∀ i ∈ KR, ∀ l, hasL i l → geC l f = false) : CanC (mkC KL KR) := by
  refine CanC.mk ⟨fun l l' h h' => dL l ((hasL_mk KL KR l).1 h) l' ((hasL_mk KL KR l').1 h'), fun r r' h h' => dR r ((hasR_mk KL KR r).1 h) r' ((hasR_mk KL KR r').1 h'), fun l r h h' => not_ge_of_le e2 (rL l ((hasL_mk KL KR l).1 h) r h'), fun r l h h' => not_ge_of_ge e1 (rR r ((hasR_mk KL KR r).1 h) l h')⟩ ?_
  rintro x (h | h)
  · exact cL x ((hasL_mk KL KR x).1 h)
  · exact cR x ((hasR_mk KL KR x).1 h)

theorem mem_without {L P : List Nat} {x : Nat} : x ∈ withoutL L P ↔ ∃ i, L[i]? = some x ∧ i ∉ P := by
  unfold withoutL
  rw [List.mem_map]
  constructor
  · rintro ⟨⟨y, i⟩, h, rfl⟩
    rw [List.mem_filter] at h
    exact ⟨i, List.mem_zipIdx_iff_getElem?.1 h.1, by simpa using h.2⟩
  · rintro ⟨i, h, hP⟩
    exact ⟨(x, i), List.mem_filter.2 ⟨List.mem_zipIdx_iff_getElem?.2 h, by simpa using hP⟩, rfl⟩

theorem mem_dom {g : Nat → Nat → Bool} {L : List Nat} {k : Nat} : k ∈ domB g L ↔ k < L.length ∧ ∃ j, j < L.length ∧ domP g L k j = true := by
  unfold domB
  rw [List.mem_filter, List.mem_range, List.any_eq_true]
  simp only [List.mem_range]

theorem domP_iff {g : Nat → Nat → Bool} {L : List Nat} {k j : Nat} : domP g L k j = true ↔ j ≠ k ∧ g (L.getD k 0) (L.getD j 0) = true ∧ (g (L.getD j 0) (L.getD k 0) = false ∨ j < k) := by
  unfold domP
  rw [Bool.and_eq_true, Bool.and_eq_true, Bool.or_eq_true, decide_eq_true_eq, decide_eq_true_eq, Bool.not_eq_true']

theorem domP_trans {g : Nat → Nat → Bool} (ht : ∀ a b c, g a b = true → g b c = true → g a c = true) {L : List Nat} {k j i : Nat} (h : domP g L k j = true) (h' : domP g L j i = true) : domP g L k i = true := by
  rw [domP_iff] at h h' ⊢
  obtain ⟨n1, g1, o1⟩ := h
  obtain ⟨n2, g2, o2⟩ := h'
  have g3 := ht _ _ _ g1 g2
  have key : g (L.getD i 0) (L.getD k 0) = false ∨ i < k := by
    cases e : g (L.getD i 0) (L.getD k 0) with
    | false => exact .inl rfl
    | true =>
      have e1 := ht _ _ _ g2 e
      have e2 := ht _ _ _ e g1
      rcases o1 with o | o
      · rw [o] at e1; cases e1
      · rcases o2 with p | p
        · rw [p] at e2; cases e2
        · exact .inr (by omega)
  refine ⟨fun e => ?_, g3, key⟩
  subst e
  rcases o1 with o | o
  · rw [o] at g2; cases g2
  · rcases o2 with p | p
    · rw [p] at g1; cases g1
    · omega

theorem dom_cover {g : Nat → Nat → Bool} (ht : ∀ a b c, g a b = true → g b c = true → g a c = true) (L : List Nat) : ∀ n k, k < L.length → ((List.range L.length).filter (domP g L k)).length < n →
    ∃ j, j < L.length ∧ j ∉ domB g L ∧ (j = k ∨ g (L.getD k 0) (L.getD j 0) = true) := by
  intro n
  induction n with
  | zero => intro k _ h; omega
  | succ n ih =>
    intro k hk hn
    by_cases hd : k ∈ domB g L
    · obtain ⟨_, j, hj, hp⟩ := mem_dom.1 hd
      have hlt : ((List.range L.length).filter (domP g L j)).length + 1 ≤ ((List.range L.length).filter (domP g L k)).length := by
        have hnd : (j :: (List.range L.length).filter (domP g L j)).Nodup := by
          refine List.nodup_cons.2 ⟨fun h => ?_, List.nodup_range.filter _⟩
          exact (domP_iff.1 (List.mem_filter.1 h).2).1 rfl
        have := hnd.length_le_of_subset (l₂ := (List.range L.length).filter (domP g L k)) (fun x hx => by
          rcases List.mem_cons.1 hx with rfl | hx
          · exact List.mem_filter.2 ⟨List.mem_range.2 hj, hp⟩
          · obtain ⟨h1, h2⟩ := List.mem_filter.1 hx
            exact List.mem_filter.2 ⟨h1, domP_trans ht hp h2⟩)
        simpa using this
      obtain ⟨i, hi, hni, h⟩ := ih j hj (by omega)
      refine ⟨i, hi, hni, .inr ?_⟩
      have g1 := (domP_iff.1 hp).2.1
      rcases h with rfl | h
      · exact g1
      · exact ht _ _ _ g1 h
    · exact ⟨k, hk, hd, .inl rfl⟩

theorem getD_of {L : List Nat} {i x : Nat} (h : L[i]? = some x) : L.getD i 0 = x := by rw [List.getD_eq_getElem?_getD, h]; rfl

/-- What is left out is dominated by something that stays. -/
theorem without_cover {g : Nat → Nat → Bool} (ht : ∀ a b c, g a b = true → g b c = true → g a c = true) {L : List Nat} {x : Nat} (hx : x ∈ L) : ∃ y ∈ withoutL L (domB g L), y = x ∨ g x y = true := by
  obtain ⟨k, hk, rfl⟩ := List.getElem_of_mem hx
  obtain ⟨j, hj, hn, h⟩ := dom_cover ht L _ k hk (Nat.lt_succ_self _)
  have e1 := getD_of (List.getElem?_eq_getElem hj)
  have e2 := getD_of (List.getElem?_eq_getElem hk)
  refine ⟨L[j], mem_without.2 ⟨j, List.getElem?_eq_getElem hj, hn⟩, ?_⟩
  rcases h with rfl | h
  · exact .inl rfl
  · rw [e1, e2] at h; exact .inr h

/-- Of what stays nothing is dominated. -/
theorem without_free {g : Nat → Nat → Bool} {L : List Nat} {x y : Nat} (hx : x ∈ withoutL L (domB g L)) (hy : y ∈ withoutL L (domB g L)) (h : g x y = true) : x = y := by
  obtain ⟨k, hk, nk⟩ := mem_without.1 hx
  obtain ⟨j, hj, nj⟩ := mem_without.1 hy
  have lk := (List.getElem?_eq_some_iff.1 hk).1
  have lj := (List.getElem?_eq_some_iff.1 hj).1
  by_cases e : j = k
  · subst e
    rw [hk] at hj; exact Option.some.inj hj
  · refine absurd (mem_dom.2 ⟨lk, j, lj, ?_⟩) nk
    rw [domP_iff, getD_of hk, getD_of hj]
    refine ⟨e, h, ?_⟩
    cases hb : g y x with
    | false => exact .inl rfl
    | true =>
      refine .inr (Classical.byContradiction fun q => nj (mem_dom.2 ⟨lj, k, lk, ?_⟩))
      rw [domP_iff, getD_of hk, getD_of hj]
      exact ⟨fun e' => e e'.symm, hb, .inr (by omega)⟩

end Go.Proofs.YtioiljboihehcaaGreatDoor
