/- Sums and negatives of games, on codes. -/
import Derived.Test.YtioiljboihehcaaGreatDoorPlain
namespace Go.Proofs.YtioiljboihehcaaGreatDoor
set_option linter.unusedVariables false
set_option linter.unusedSimpArgs false
open Go.RowKit

/-- The negative of a game. -/
def negC (a : Nat) : Nat := mkC ((rights a).attach.map fun r => negC r.1) ((lefts a).attach.map fun l => negC l.1)
  termination_by a
  decreasing_by
    · exact optC_lt (.inr (mem_rights.1 r.2))
    · exact optC_lt (.inl (mem_lefts.1 l.2))
theorem hasL_neg (a i : Nat) : hasL (negC a) i ↔ ∃ r, hasR a r ∧ negC r = i := by
  rw [negC, hasL_mk, List.mem_map]
  constructor
  · rintro ⟨r, _, e⟩; exact ⟨r.1, mem_rights.1 r.2, e⟩
  · rintro ⟨r, hr, e⟩; exact ⟨⟨r, mem_rights.2 hr⟩, List.mem_attach _ _, e⟩
theorem hasR_neg (a i : Nat) : hasR (negC a) i ↔ ∃ l, hasL a l ∧ negC l = i := by
  rw [negC, hasR_mk, List.mem_map]
  constructor
  · rintro ⟨r, _, e⟩; exact ⟨r.1, mem_lefts.1 r.2, e⟩
  · rintro ⟨r, hr, e⟩; exact ⟨⟨r, mem_lefts.2 hr⟩, List.mem_attach _ _, e⟩
/-- The sum of two games. -/
def sumC (a b : Nat) : Nat :=
  mkC ((lefts a).attach.map (fun l => sumC l.1 b) ++ (lefts b).attach.map fun l => sumC a l.1) ((rights a).attach.map (fun r => sumC r.1 b) ++ (rights b).attach.map fun r => sumC a r.1)
  termination_by a + b
  decreasing_by
    · have := optC_lt (.inl (mem_lefts.1 l.2)); omega
    · have := optC_lt (.inl (mem_lefts.1 l.2)); omega
    · have := optC_lt (.inr (mem_rights.1 r.2)); omega
    · have := optC_lt (.inr (mem_rights.1 r.2)); omega
theorem hasL_sum (a b i : Nat) : hasL (sumC a b) i ↔ (∃ l, hasL a l ∧ sumC l b = i) ∨ ∃ l, hasL b l ∧ sumC a l = i := by
  rw [sumC, hasL_mk, List.mem_append, List.mem_map, List.mem_map]
  constructor
  · rintro (⟨r, _, e⟩ | ⟨r, _, e⟩)
    · exact .inl ⟨r.1, mem_lefts.1 r.2, e⟩
    · exact .inr ⟨r.1, mem_lefts.1 r.2, e⟩
  · rintro (⟨r, hr, e⟩ | ⟨r, hr, e⟩)
    · exact .inl ⟨⟨r, mem_lefts.2 hr⟩, List.mem_attach _ _, e⟩
    · exact .inr ⟨⟨r, mem_lefts.2 hr⟩, List.mem_attach _ _, e⟩
theorem hasR_sum (a b i : Nat) : hasR (sumC a b) i ↔ (∃ l, hasR a l ∧ sumC l b = i) ∨ ∃ l, hasR b l ∧ sumC a l = i := by
  rw [sumC, hasR_mk, List.mem_append, List.mem_map, List.mem_map]
  constructor
  · rintro (⟨r, _, e⟩ | ⟨r, _, e⟩)
    · exact .inl ⟨r.1, mem_rights.1 r.2, e⟩
    · exact .inr ⟨r.1, mem_rights.1 r.2, e⟩
  · rintro (⟨r, hr, e⟩ | ⟨r, hr, e⟩)
    · exact .inl ⟨⟨r, mem_rights.2 hr⟩, List.mem_attach _ _, e⟩
    · exact .inr ⟨⟨r, mem_rights.2 hr⟩, List.mem_attach _ _, e⟩
/-- The sum of two nodes, in a book whose codes are known. -/
theorem sumC_mk (a b : Nat) (L R : List Nat) (hL : ∀ i, i ∈ L ↔ (∃ l, hasL a l ∧ sumC l b = i) ∨ ∃ l, hasL b l ∧ sumC a l = i) (hR : ∀ i, i ∈ R ↔ (∃ l, hasR a l ∧ sumC l b = i) ∨ ∃ l, hasR b l ∧ sumC a l = i) : mkC L R = sumC a b :=
  code_ext (fun i => by rw [hasL_mk, hL, hasL_sum]) (fun i => by rw [hasR_mk, hR, hasR_sum])
theorem negC_mk (a : Nat) (L R : List Nat) (hL : ∀ i, i ∈ L ↔ ∃ r, hasR a r ∧ negC r = i) (hR : ∀ i, i ∈ R ↔ ∃ l, hasL a l ∧ negC l = i) : mkC L R = negC a :=
  code_ext (fun i => by rw [hasL_mk, hL, hasL_neg]) (fun i => by rw [hasR_mk, hR, hasR_neg])

/-- What stands in a pool stands in each longer one. -/
theorem code_mono {V V' : List PL} (h : V <+: V') {x : Nat} (hx : x < V.length) : (codesOf V').getD x 0 = (codesOf V).getD x 0 := by
  obtain ⟨t, ht⟩ := codesOf_prefix h
  rw [← ht]
  exact getD_append (by rw [codesOf_length]; exact hx)
theorem node_mono {V V' : List PL} (h : V <+: V') {x : Nat} (hx : x < V.length) : nodeV V' x = nodeV V x := by
  obtain ⟨t, rfl⟩ := h
  unfold nodeV
  rw [List.getD_eq_getElem?_getD, List.getD_eq_getElem?_getD, List.getElem?_append_left hx]
/-- A row of places whose games are known. -/
def RowC (V : List PL) (L cs : List Nat) : Prop := (∀ x ∈ L, x < V.length) ∧ atAll (codesOf V) L = cs
theorem RowC.nil (V : List PL) : RowC V [] [] := ⟨by simp, rfl⟩
theorem RowC.mono {V V' : List PL} {L cs : List Nat} (h : RowC V L cs) (hp : V <+: V') : RowC V' L cs := by
  refine ⟨fun x hx => Nat.lt_of_lt_of_le (h.1 x hx) hp.length_le, ?_⟩
  rw [← h.2]
  exact List.map_congr_left fun x hx => code_mono hp (h.1 x hx)
theorem RowC.snoc {V : List PL} {L cs : List Nat} {x c : Nat} (h : RowC V L cs) (hx : x < V.length) (hc : (codesOf V).getD x 0 = c) : RowC V (L ++ [x]) (cs ++ [c]) := by
  refine ⟨fun y hy => ?_, ?_⟩
  · rcases List.mem_append.1 hy with hy | hy
    · exact h.1 y hy
    · rw [List.mem_singleton.1 hy]; exact hx
  · rw [← h.2, ← hc]
    simp [atAll]
theorem RowC.next {V : List PL} {L TL : List Nat} {x c j : Nat} (h : RowC V L (TL.take j)) (hj : TL[j]? = some c) (hx : x < V.length) (hc : (codesOf V).getD x 0 = c) : RowC V (L ++ [x]) (TL.take (j + 1)) := by
  obtain ⟨hl, e⟩ := List.getElem?_eq_some_iff.1 hj
  rw [List.take_succ_eq_append_getElem hl, e]
  exact h.snoc hx hc
theorem RowC.len {V : List PL} {L cs : List Nat} (h : RowC V L cs) : L.length = cs.length := by
  rw [← h.2]; simp [atAll]
theorem put_row {V : List PL} {BV : List Nat} (h : PoolOK V BV) {L R cs ds : List Nat} (hL : RowC V L cs) (hR : RowC V R ds) :
    PoolOK (poolPut V BV L R).1 (poolPut V BV L R).2.1 ∧ V <+: (poolPut V BV L R).1 ∧ (poolPut V BV L R).2.2 < (poolPut V BV L R).1.length ∧ (codesOf (poolPut V BV L R).1).getD (poolPut V BV L R).2.2 0 = mkC cs ds := by
  obtain ⟨p1, _, p3⟩ := poolPut_lt V BV L R
  exact ⟨(poolPut_ok h hL.1 hR.1).1, p3, p1, by rw [poolPut_code h hL.1 hR.1, hL.2, hR.2]⟩
theorem sum_mk {C D : List Nat} {x y : PL} {a b : Nat} (hx : a = mkC (atAll C x.1) (atAll C x.2)) (hy : b = mkC (atAll D y.1) (atAll D y.2)) :
    mkC ((atAll C x.1).map (fun l => sumC l b) ++ (atAll D y.1).map fun l => sumC a l) ((atAll C x.2).map (fun l => sumC l b) ++ (atAll D y.2).map fun l => sumC a l) = sumC a b := by
  have e1 : ∀ l, hasL a l ↔ l ∈ atAll C x.1 := fun l => by rw [hx, hasL_mk]
  have e2 : ∀ l, hasR a l ↔ l ∈ atAll C x.2 := fun l => by rw [hx, hasR_mk]
  have e3 : ∀ l, hasL b l ↔ l ∈ atAll D y.1 := fun l => by rw [hy, hasL_mk]
  have e4 : ∀ l, hasR b l ↔ l ∈ atAll D y.2 := fun l => by rw [hy, hasR_mk]
  refine sumC_mk a b _ _ (fun i => ?_) fun i => ?_
  · rw [List.mem_append, List.mem_map, List.mem_map]
    simp only [e1, e3]
  · rw [List.mem_append, List.mem_map, List.mem_map]
    simp only [e2, e4]
theorem neg_mk {C : List Nat} {x : PL} {a : Nat} (hx : a = mkC (atAll C x.1) (atAll C x.2)) : mkC ((atAll C x.2).map negC) ((atAll C x.1).map negC) = negC a := by
  have e1 : ∀ l, hasL a l ↔ l ∈ atAll C x.1 := fun l => by rw [hx, hasL_mk]
  have e2 : ∀ l, hasR a l ↔ l ∈ atAll C x.2 := fun l => by rw [hx, hasR_mk]
  refine negC_mk a _ _ (fun i => ?_) fun i => ?_
  · rw [List.mem_map]; simp only [e2]
  · rw [List.mem_map]; simp only [e1]
/-- Where the options of a sum stand. -/
theorem tl_left {C A B : List Nat} {g : Nat → Nat} {k l : Nat} (h : A[k]? = some l) : ((atAll C A).map g ++ B)[k]? = some (g (C.getD l 0)) := by
  have hk := (List.getElem?_eq_some_iff.1 h).1
  rw [List.getElem?_append_left (by simpa [atAll] using hk)]
  simp [atAll, List.getElem?_map, h]
theorem tl_right {C D A B : List Nat} {g g' : Nat → Nat} {k l : Nat} (h : B[k]? = some l) : ((atAll C A).map g ++ (atAll D B).map g')[A.length + k]? = some (g' (D.getD l 0)) := by
  rw [List.getElem?_append_right (by simp [atAll])]
  simp [atAll, List.getElem?_map, h]
theorem tl_one {C A : List Nat} {g : Nat → Nat} {k l : Nat} (h : A[k]? = some l) : ((atAll C A).map g)[k]? = some (g (C.getD l 0)) := by
  simp [atAll, List.getElem?_map, h]
/-- The pool's places are no more than the games that may stand there. -/
theorem pool_size {V : List PL} {BV : List Nat} (h : PoolOK V BV) {U : List Nat} (hU : ∀ x, x < V.length → (codesOf V).getD x 0 ∈ U) : V.length ≤ U.length := by
  rw [← codesOf_length V]
  refine h.book.nodup.length_le_of_subset fun c hc => ?_
  obtain ⟨i, hi, rfl⟩ := mem_getD hc
  exact hU i (by rw [← codesOf_length V]; exact hi)
theorem poolPut_in {V : List PL} {BV : List Nat} {L R U : List Nat} (hU : ∀ x, x < V.length → (codesOf V).getD x 0 ∈ U) (hc : (codesOf (poolPut V BV L R).1).getD (poolPut V BV L R).2.2 0 ∈ U) :
    ∀ x, x < (poolPut V BV L R).1.length → (codesOf (poolPut V BV L R).1).getD x 0 ∈ U := by
  intro x hx
  obtain ⟨p1, p2, p3⟩ := poolPut_lt V BV L R
  by_cases h : x < V.length
  · rw [code_mono p3 h]; exact hU x h
  · have e : x = (poolPut V BV L R).2.2 := by
      unfold poolPut at hx p1 ⊢
      split
      · rename_i hm; rw [if_pos hm] at hx; exact absurd hx h
      · rename_i hm
        rw [if_neg hm] at hx
        simp at hx ⊢
        omega
    rw [e]; exact hc

/-- Each game has a form. -/
theorem code_in_pool : ∀ (c : Nat) (V : List PL) (BV : List Nat), PoolOK V BV → ∃ V' BV' r, PoolOK V' BV' ∧ V <+: V' ∧ r < V'.length ∧ (codesOf V').getD r 0 = c := by
  intro c
  induction c using Nat.strongRecOn with
  | _ c ih =>
    have row : ∀ (L : List Nat), (∀ l ∈ L, l < c) → ∀ (V : List PL) (BV : List Nat), PoolOK V BV → ∃ V' BV' A, PoolOK V' BV' ∧ V <+: V' ∧ RowC V' A L := by
      intro L
      induction L using snoc_ind with
      | h0 => intro _ V BV h; exact ⟨V, BV, [], h, List.prefix_refl _, RowC.nil V⟩
      | h1 l a il =>
        intro hl V BV h
        obtain ⟨V1, B1, A, h1, p1, r1⟩ := il (fun x hx => hl x (List.mem_append_left _ hx)) V BV h
        obtain ⟨V2, B2, r, h2, p2, hr, hc⟩ := ih a (hl a (by simp)) V1 B1 h1
        exact ⟨V2, B2, A ++ [r], h2, p1.trans p2, (r1.mono p2).snoc hr hc⟩
    intro V BV h
    obtain ⟨V1, B1, A1, h1, p1, r1⟩ := row (lefts c) (fun l hl => optC_lt (.inl (mem_lefts.1 hl))) V BV h
    obtain ⟨V2, B2, A2, h2, p2, r2⟩ := row (rights c) (fun l hl => optC_lt (.inr (mem_rights.1 hl))) V1 B1 h1
    obtain ⟨q1, q2, q3, q4⟩ := put_row h2 (r1.mono p2) r2
    exact ⟨_, _, _, q1, (p1.trans p2).trans q2, q3, by rw [q4, mkC_self]⟩
theorem form_is (c : Nat) : ∃ FN, FormC c FN := by
  obtain ⟨V, BV, r, h, _, hr, hc⟩ := code_in_pool c [] [] PoolOK.nil
  have := h.form hr
  rw [hc] at this
  exact ⟨_, this⟩
noncomputable def formOf (c : Nat) : List PL := Classical.choose (form_is c)
theorem formOf_is (c : Nat) : FormC c (formOf c) := Classical.choose_spec (form_is c)
theorem FormC.of {c : Nat} {FN : List PL} (h : FormC c FN) : FN = formOf c := h.one (formOf_is c)
theorem formB_of {V : List PL} {BV : List Nat} (h : PoolOK V BV) {r c : Nat} (hr : r < V.length) (hc : (codesOf V).getD r 0 = c) : formB V BV r = formOf c := by
  have := h.form hr
  rw [hc] at this
  exact this.of

theorem SubC.trans {a b c : Nat} (h : SubC a b) (h' : SubC b c) : SubC a c := by
  induction h' with
  | root => exact h
  | step _ ho ih => exact ih.step ho
/-- The negative of a form is as long as the form. -/
theorem SubC.neg {c x : Nat} (h : SubC (negC c) x) : ∃ y, SubC c y ∧ x = negC y := by
  induction h with
  | root => exact ⟨c, .root, rfl⟩
  | step _ ho ih =>
    obtain ⟨y, hy, rfl⟩ := ih
    rcases ho with h | h
    · obtain ⟨r, hr, e⟩ := (hasL_neg y _).1 h
      exact ⟨r, hy.step (.inr hr), e.symm⟩
    · obtain ⟨r, hr, e⟩ := (hasR_neg y _).1 h
      exact ⟨r, hy.step (.inl hr), e.symm⟩
theorem atAll_nodup {C L : List Nat} (hC : C.Nodup) (hu : L.Pairwise (· < ·)) (hl : ∀ x ∈ L, x < C.length) : (atAll C L).Nodup := by
  unfold atAll
  refine List.pairwise_map.2 (hu.imp_of_mem ?_)
  intro a b ha hb hab e
  have := nodup_getD hC (hl a ha) (hl b hb) e
  omega
theorem neg_fits {c : Nat} {Fs FN : List PL} (h : FormC c Fs) (h' : FormC (negC c) FN) (hf : fitsB Fs = true) : fitsB FN = true := by
  obtain ⟨P, hA⟩ := h
  obtain ⟨P', hA'⟩ := h'
  have hp := (of_form ⟨P', hA'⟩).1
  have hPl := hA.book.len; have hPl' := hA'.book.len
  unfold fitsB at hf ⊢
  rw [decide_eq_true_eq] at hf ⊢
  obtain ⟨f1, f2, f3⟩ := hf
  have sub : ∀ x ∈ P', x ∈ P.map negC := fun x hx => by
    obtain ⟨y, hy, rfl⟩ := ((hA'.sub x).1 hx).neg
    exact List.mem_map.2 ⟨y, (hA.sub y).2 hy, rfl⟩
  have hlen : P'.length ≤ P.length := by
    have := hA'.book.nodup.length_le_of_subset sub
    rwa [List.length_map] at this
  refine ⟨by omega, by omega, fun y hy => ?_⟩
  obtain ⟨j, hj, rfl⟩ := List.getElem_of_mem hy
  have ej := List.getElem?_eq_getElem hj
  have cj := hA'.book.code j _ ej
  obtain ⟨o1, o2⟩ := hA'.book.opts j _ ej
  obtain ⟨u1, u2⟩ := hA'.book.up j _ ej
  obtain ⟨z, hz, ez⟩ := List.mem_map.1 (sub _ (getD_mem (show j < P'.length by omega)))
  obtain ⟨k, hk, rfl⟩ := mem_getD hz
  have ek := List.getElem?_eq_getElem (show k < Fs.length by omega)
  have ck := hA.book.code k _ ek
  obtain ⟨g1, g2⟩ := f3 _ (List.mem_of_getElem? ek)
  have hL : ∀ i, i ∈ atAll P' (FN[j]).1 → i ∈ (atAll P (Fs[k]'(by omega)).2).map negC := fun i hi => by
    have h1 : hasL (P'.getD j 0) i := by rw [cj, hasL_mk]; exact hi
    rw [← ez, hasL_neg] at h1
    obtain ⟨r, hr, e⟩ := h1
    rw [ck, hasR_mk] at hr
    exact List.mem_map.2 ⟨r, hr, e⟩
  have hR : ∀ i, i ∈ atAll P' (FN[j]).2 → i ∈ (atAll P (Fs[k]'(by omega)).1).map negC := fun i hi => by
    have h1 : hasR (P'.getD j 0) i := by rw [cj, hasR_mk]; exact hi
    rw [← ez, hasR_neg] at h1
    obtain ⟨r, hr, e⟩ := h1
    rw [ck, hasL_mk] at hr
    exact List.mem_map.2 ⟨r, hr, e⟩
  have n1 := (atAll_nodup hA'.book.nodup u1 (fun x hx => by have := o1 x hx; omega)).length_le_of_subset hL
  have n2 := (atAll_nodup hA'.book.nodup u2 (fun x hx => by have := o2 x hx; omega)).length_le_of_subset hR
  simp only [List.length_map, atAll] at n1 n2
  exact ⟨by omega, by omega⟩

theorem atAll_atAll {C A L : List Nat} (h : ∀ i ∈ L, i < A.length) : atAll C (atAll A L) = atAll (atAll C A) L := by
  unfold atAll
  rw [List.map_map]
  refine List.map_congr_left fun i hi => ?_
  have hl := h i hi
  simp [List.getD_eq_getElem?_getD, List.getElem?_map, List.getElem?_eq_getElem hl]
theorem RowC.at {V : List PL} {A cs L : List Nat} (h : RowC V A cs) (hL : ∀ i ∈ L, i < A.length) : RowC V (atAll A L) (atAll cs L) := by
  refine ⟨fun x hx => ?_, ?_⟩
  · obtain ⟨i, hi, rfl⟩ := mem_atAll.1 hx
    exact h.1 _ (getD_mem (hL i hi))
  · rw [atAll_atAll hL, h.2]
theorem OptsOK.last {l : List PL} {a : PL} (ho : OptsOK (l ++ [a])) : (∀ i ∈ a.1, i < l.length) ∧ ∀ i ∈ a.2, i < l.length := ho l.length a (by simp)
/-- The games of a form that is put into a pool. -/
theorem addB_code (Fs : List PL) : OptsOK Fs → ∀ {V : List PL} {BV : List Nat}, PoolOK V BV → PoolOK (addB V BV Fs).1 (addB V BV Fs).2.1 ∧ V <+: (addB V BV Fs).1 ∧ RowC (addB V BV Fs).1 (addB V BV Fs).2.2 (codesOf Fs) ∧
    ∀ x, x < (addB V BV Fs).1.length → (codesOf (addB V BV Fs).1).getD x 0 ∈ codesOf V ++ codesOf Fs := by
  induction Fs using snoc_ind with
  | h0 =>
    intro _ V BV h
    exact ⟨h, List.prefix_refl _, RowC.nil V, fun x hx => List.mem_append_left _ (getD_mem (by rw [codesOf_length]; exact hx))⟩
  | h1 l a ih =>
    intro ho V BV h
    obtain ⟨i1, i2, i3, i4⟩ := ih ho.cut h
    obtain ⟨o1, o2⟩ := ho.last
    have hlen : (addB V BV l).2.2.length = l.length := by rw [i3.len, codesOf_length]
    have r1 := i3.at (L := a.1) (fun i hi => by rw [hlen]; exact o1 i hi)
    have r2 := i3.at (L := a.2) (fun i hi => by rw [hlen]; exact o2 i hi)
    obtain ⟨q1, q2, q3, q4⟩ := put_row i1 r1 r2
    have e : addB V BV (l ++ [a]) = ((poolPut (addB V BV l).1 (addB V BV l).2.1 (atAll (addB V BV l).2.2 a.1) (atAll (addB V BV l).2.2 a.2)).1, (poolPut (addB V BV l).1 (addB V BV l).2.1 (atAll (addB V BV l).2.2 a.1) (atAll (addB V BV l).2.2 a.2)).2.1,
        (addB V BV l).2.2 ++ [(poolPut (addB V BV l).1 (addB V BV l).2.1 (atAll (addB V BV l).2.2 a.1) (atAll (addB V BV l).2.2 a.2)).2.2]) := by
      rw [addB_snoc, ← putB_pool i1]; rfl
    rw [e, codesOf_snoc]
    refine ⟨q1, i2.trans q2, (i3.mono q2).snoc q3 q4, ?_⟩
    refine poolPut_in (fun x hx => ?_) ?_
    · rcases List.mem_append.1 (i4 x hx) with h | h
      · exact List.mem_append_left _ h
      · exact List.mem_append_right _ (List.mem_append_left _ h)
    · rw [q4]
      exact List.mem_append_right _ (List.mem_append_right _ (List.mem_singleton.2 rfl))
theorem sub_codes {V : List PL} {BV : List Nat} (h : PoolOK V BV) {r : Nat} (hr : r < V.length) {a : Nat} (hs : SubC ((codesOf V).getD r 0) a) : a ∈ codesOf V := by
  obtain ⟨x, _, hx, e⟩ := sub_reach h.book hr hs
  rw [← e]
  exact getD_mem (by rw [codesOf_length]; exact hx)
/-- The games that may stand in a pool in which two games are put together. -/
def sumU (C : List Nat) : List Nat := C ++ C.flatMap fun a => C.map fun b => sumC a b
theorem mem_sumU {C : List Nat} {a b : Nat} (ha : a ∈ C) (hb : b ∈ C) : sumC a b ∈ sumU C := List.mem_append_right _ (List.mem_flatMap.2 ⟨a, ha, List.mem_map.2 ⟨b, hb, rfl⟩⟩)
theorem sumU_len (C : List Nat) : (sumU C).length = C.length + C.length * C.length := by
  unfold sumU
  rw [List.length_append]
  congr 1
  have : ∀ D : List Nat, (D.flatMap fun a => C.map fun b => sumC a b).length = D.length * C.length := by
    intro D
    induction D with
    | nil => simp
    | cons a l ih => rw [List.flatMap_cons, List.length_append, ih, List.length_map, List.length_cons, Nat.succ_mul, Nat.add_comm]
  exact this C
theorem bookOK_v {V : List PL} {BV : List Nat} (h : PoolOK V BV) : BookOK V BV := by
  have hle : ∀ j, j < V.length → BV.getD j 0 ≤ j := by
    intro j
    induction j using Nat.strongRecOn with
    | _ j ih =>
      intro hj
      have e := node_at hj
      obtain ⟨o1, o2⟩ := h.opts j _ e
      rw [h.born j _ e, bornL_iff, bornL_iff]
      exact ⟨⟨Nat.zero_le _, fun x hx => by have := o1 x hx; have := ih x this (by omega); omega⟩, fun x hx => by have := o2 x hx; have := ih x this (by omega); omega⟩
  exact ⟨h.len, h.opts, fun j x hx => by
    have hj := (List.getElem?_eq_some_iff.1 hx).1
    have := hle j (by rw [← h.len]; exact hj)
    rw [List.getD_eq_getElem?_getD, hx] at this
    exact this⟩
/-- The games of all sums of two forms' games, line by line. -/
def sumTab (CF CG : List Nat) : List Nat := CF.flatMap fun a => CG.map fun b => sumC a b
theorem sumTab_len (CF CG : List Nat) : (sumTab CF CG).length = CF.length * CG.length := by
  unfold sumTab
  induction CF with
  | nil => simp
  | cons a l ih => rw [List.flatMap_cons, List.length_append, ih, List.length_map, List.length_cons, Nat.succ_mul, Nat.add_comm]
theorem sumTab_get {CF CG : List Nat} : ∀ {i k : Nat}, i < CF.length → k < CG.length → (sumTab CF CG)[i * CG.length + k]? = some (sumC (CF.getD i 0) (CG.getD k 0)) := by
  induction CF with
  | nil => intro i k h; simp at h
  | cons a l ih =>
    intro i k hi hk
    have e : sumTab (a :: l) CG = (CG.map fun b => sumC a b) ++ sumTab l CG := by unfold sumTab; rw [List.flatMap_cons]
    rw [e]
    cases i with
    | zero =>
      rw [Nat.zero_mul, Nat.zero_add, List.getElem?_append_left (by simpa using hk), List.getElem?_map, List.getElem?_eq_getElem hk, List.getD_eq_getElem?_getD (l := CG), List.getElem?_eq_getElem hk]
      rfl
    | succ j =>
      rw [List.getElem?_append_right (by rw [List.length_map, Nat.succ_mul]; omega), List.length_map]
      have := ih (i := j) (k := k) (by simpa using hi) hk
      rw [show (j + 1) * CG.length + k - CG.length = j * CG.length + k from by rw [Nat.succ_mul]; omega, this]
      rfl
theorem RowC.get {V : List PL} {A Tb : List Nat} {P p c : Nat} (h : RowC V A (Tb.take P)) (hp : p < P) (hTb : Tb[p]? = some c) : ∃ x, A[p]? = some x ∧ x < V.length ∧ (codesOf V).getD x 0 = c := by
  have h1 : (Tb.take P)[p]? = some c := by rw [List.getElem?_take, if_pos hp]; exact hTb
  rw [← h.2] at h1
  unfold atAll at h1
  rw [List.getElem?_map] at h1
  cases hA : A[p]? with
  | none => rw [hA] at h1; cases h1
  | some x =>
    rw [hA] at h1
    exact ⟨x, rfl, h.1 x (List.mem_of_getElem? hA), Option.some.inj h1⟩
theorem take_nxt {Tb : List Nat} {p c : Nat} (h : Tb[p]? = some c) : Tb.take p ++ [c] = Tb.take (p + 1) := by
  obtain ⟨hl, e⟩ := List.getElem?_eq_some_iff.1 h
  rw [List.take_succ_eq_append_getElem hl, e]
end Go.Proofs.YtioiljboihehcaaGreatDoor
