/- What DropForm and BypassForm give is equal to the form, in plain words. -/
import Derived.Test.YtioiljboihehcaaGreatDoorCanQ
import Derived.Test.YtioiljboihehcaaGreatDoorBypLaw
import Derived.Test.YtioiljboihehcaaGreatDoorGroupLaw
import Derived.Test.YtioiljboihehcaaGreatDoorListsIn
namespace Go.Proofs.YtioiljboihehcaaGreatDoor
set_option linter.unusedVariables false
set_option linter.unusedSimpArgs false
open Go.RowKit

/-- The code of a node that is put behind a good form. -/
theorem put_code {Fs : List PL} (h : goodI (i2 Fs)) {A D : List Nat} (hA : ∀ x ∈ A, x < Fs.length) (hD : ∀ x ∈ D, x < Fs.length) :
    formB (poolPut Fs (bornsF Fs) A D).1 (poolPut Fs (bornsF Fs) A D).2.1 (poolPut Fs (bornsF Fs) A D).2.2 = formOf (mkC (atAll (codesOf Fs) A) (atAll (codesOf Fs) D)) := by
  obtain ⟨_, _, _, hP, _⟩ := goodI_parts h
  obtain ⟨ok, _, lt, cd⟩ := put_row hP (L := A) (R := D) ⟨hA, rfl⟩ ⟨hD, rfl⟩
  exact formB_of ok lt cd
/-- The options of a good form's game, as codes. -/
theorem root_opts {Fs : List PL} (h : goodI (i2 Fs)) : (∀ i, hasL (codeF Fs) i ↔ ∃ x ∈ (nodeV Fs (Fs.length - 1)).1, (codesOf Fs).getD x 0 = i) ∧ (∀ i, hasR (codeF Fs) i ↔ ∃ x ∈ (nodeV Fs (Fs.length - 1)).2, (codesOf Fs).getD x 0 = i) := by
  obtain ⟨hp, _, _, hP, _⟩ := goodI_parts h
  exact opts_code hP.book (show Fs.length - 1 < Fs.length by omega)
theorem gL_trans (C : List Nat) : ∀ a b c, gL C a b = true → gL C b c = true → gL C a c = true := fun a b c h1 h2 => ge_trans h2 h1
theorem gR_trans (C : List Nat) : ∀ a b c, gR C a b = true → gR C b c = true → gR C a c = true := fun a b c h1 h2 => ge_trans h1 h2
theorem drop_code {Fs : List PL} (h : goodI (i2 Fs)) : codeF (dropF Fs) = mkC (atAll (codesOf Fs) (dropP (codesOf Fs) (nodeV Fs (Fs.length - 1))).1) (atAll (codesOf Fs) (dropP (codesOf Fs) (nodeV Fs (Fs.length - 1))).2) := by
  obtain ⟨l1, l2, _, _⟩ := dropP_lt h
  have e : dropF Fs = _ := put_code h (fun x hx => by have := l1 x hx; omega) (fun x hx => by have := l2 x hx; omega)
  rw [e, codeF_formOf]
theorem drop_equal {Fs : List PL} (h : goodI (i2 Fs)) : geC (codeF (dropF Fs)) (codeF Fs) = true ∧ geC (codeF Fs) (codeF (dropF Fs)) = true := by
  obtain ⟨r1, r2⟩ := root_opts h
  rw [drop_code h]
  refine reduce_eq (SL := atAll (codesOf Fs) (nodeV Fs (Fs.length - 1)).1) (SR := atAll (codesOf Fs) (nodeV Fs (Fs.length - 1)).2) ?_ ?_ ?_ ?_ ?_ ?_
  · intro i hi
    obtain ⟨x, hx, rfl⟩ := mem_atAll.1 hi
    exact opt_left ((r1 _).2 ⟨x, withoutL_mem hx, rfl⟩)
  · intro i hi
    obtain ⟨x, hx, rfl⟩ := mem_atAll.1 hi
    exact opt_right ((r2 _).2 ⟨x, withoutL_mem hx, rfl⟩)
  · intro i hi
    obtain ⟨x, hx, rfl⟩ := mem_atAll.1 hi
    obtain ⟨y, hy, e⟩ := without_cover (gL_trans (codesOf Fs)) hx
    refine .inl ⟨_, mem_atAll.2 ⟨y, hy, rfl⟩, ?_⟩
    rcases e with rfl | e
    · exact ge_refl _
    · exact e
  · intro i hi
    obtain ⟨x, hx, rfl⟩ := mem_atAll.1 hi
    obtain ⟨y, hy, e⟩ := without_cover (gR_trans (codesOf Fs)) hx
    refine .inl ⟨_, mem_atAll.2 ⟨y, hy, rfl⟩, ?_⟩
    rcases e with rfl | e
    · exact ge_refl _
    · exact e
  · intro l hl
    obtain ⟨x, hx, rfl⟩ := (r1 l).1 hl
    exact ⟨_, mem_atAll.2 ⟨x, hx, rfl⟩, ge_refl _⟩
  · intro l hl
    obtain ⟨x, hx, rfl⟩ := (r2 l).1 hl
    exact ⟨_, mem_atAll.2 ⟨x, hx, rfl⟩, ge_refl _⟩
/-- A list in which nothing is better than anything else has no dominated places. -/
theorem domB_nil {g : Nat → Nat → Bool} {L : List Nat} (hn : L.Nodup) (h : ∀ x ∈ L, ∀ y ∈ L, g x y = true → x = y) : domB g L = [] := by
  refine List.eq_nil_iff_forall_not_mem.2 fun k hk => ?_
  obtain ⟨hk1, j, hj, hp⟩ := mem_dom.1 hk
  obtain ⟨hne, hg, _⟩ := domP_iff.1 hp
  have e1 := getD_of (List.getElem?_eq_getElem hk1)
  have e2 := getD_of (List.getElem?_eq_getElem hj)
  rw [e1, e2] at hg
  have he := h _ (List.getElem_mem hk1) _ (List.getElem_mem hj) hg
  exact hne ((List.getElem_inj hn).1 he).symm
theorem drop_free {Fs : List PL} (h : goodI (i2 Fs)) : domB (gL (codesOf (dropF Fs))) (nodeV (dropF Fs) ((dropF Fs).length - 1)).1 = [] ∧ domB (gR (codesOf (dropF Fs))) (nodeV (dropF Fs) ((dropF Fs).length - 1)).2 = [] := by
  have hgd : goodI (i2 (dropF Fs)) := by
    have hf := dropF_fits h
    obtain ⟨l1, l2, _, _⟩ := dropP_lt h
    have e : dropF Fs = _ := put_code h (fun x hx => by have := l1 x hx; omega) (fun x hx => by have := l2 x hx; omega)
    rw [e] at hf ⊢
    exact (form_good (formOf_is _) hf).1
  obtain ⟨hp, _, _, hP, _⟩ := goodI_parts hgd
  have hlt : (dropF Fs).length - 1 < (dropF Fs).length := by omega
  obtain ⟨u1, u2⟩ := hP.up _ _ (node_at hlt)
  obtain ⟨o1, o2⟩ := hP.opts _ _ (node_at hlt)
  obtain ⟨r1, r2⟩ := root_opts hgd
  rw [drop_code h] at r1 r2
  have inj : ∀ x y, x < (dropF Fs).length → y < (dropF Fs).length → (codesOf (dropF Fs)).getD x 0 = (codesOf (dropF Fs)).getD y 0 → x = y := fun x y hx hy e => by
    have hl := codesOf_length (dropF Fs)
    have e1 := getD_of (List.getElem?_eq_getElem (show x < (codesOf (dropF Fs)).length by omega))
    have e2 := getD_of (List.getElem?_eq_getElem (show y < (codesOf (dropF Fs)).length by omega))
    rw [e1, e2] at e
    exact (List.getElem_inj hP.book.nodup).1 e
  have hB := (goodI_parts h).2.2.2.1
  constructor
  · refine domB_nil (show List.Nodup _ from u1.imp (fun h => Nat.ne_of_lt h)) fun x hx y hy hg => inj x y (by have := o1 x hx; omega) (by have := o1 y hy; omega) ?_
    obtain ⟨a, ha, ea⟩ := mem_atAll.1 ((hasL_mk _ _ _).1 ((r1 _).2 ⟨x, hx, rfl⟩))
    obtain ⟨b, hb, eb⟩ := mem_atAll.1 ((hasL_mk _ _ _).1 ((r1 _).2 ⟨y, hy, rfl⟩))
    have hg2 : gL (codesOf Fs) a b = true := by
      unfold gL geV at hg ⊢
      rw [ea, eb]; exact hg
    have := without_free ha hb hg2
    rw [← ea, ← eb, this]
  · refine domB_nil (show List.Nodup _ from u2.imp (fun h => Nat.ne_of_lt h)) fun x hx y hy hg => inj x y (by have := o2 x hx; omega) (by have := o2 y hy; omega) ?_
    obtain ⟨a, ha, ea⟩ := mem_atAll.1 ((hasR_mk _ _ _).1 ((r2 _).2 ⟨x, hx, rfl⟩))
    obtain ⟨b, hb, eb⟩ := mem_atAll.1 ((hasR_mk _ _ _).1 ((r2 _).2 ⟨y, hy, rfl⟩))
    have hg2 : gR (codesOf Fs) a b = true := by
      unfold gR geV at hg ⊢
      rw [ea, eb]; exact hg
    have := without_free ha hb hg2
    rw [← ea, ← eb, this]
theorem drop_good {Fs : List PL} (h : goodI (i2 Fs)) : goodI (i2 (dropF Fs)) := by
  have hf := dropF_fits h
  obtain ⟨l1, l2, _, _⟩ := dropP_lt h
  have e : dropF Fs = _ := put_code h (fun x hx => by have := l1 x hx; omega) (fun x hx => by have := l2 x hx; omega)
  rw [e] at hf ⊢
  exact (form_good (formOf_is _) hf).1
theorem byp1_at {g : Nat → Nat → Bool} {opt : Nat → List Nat} {r : Nat} {L : List Nat} {i z : Nat} (h : byp1 g opt r L = some (i, z)) : i < L.length ∧ (opt (L.getD i 0)).find? (g r) = some z := by
  unfold byp1 at h
  obtain ⟨a, ha, e⟩ := List.exists_of_findSome?_eq_some h
  obtain ⟨z', hz, e2⟩ := Option.map_eq_some_iff.1 e
  cases e2
  exact ⟨List.mem_range.1 ha, hz⟩
theorem byp1_rev {g : Nat → Nat → Bool} {opt : Nat → List Nat} {r : Nat} {L : List Nat} {i z : Nat} (h : byp1 g opt r L = some (i, z)) : 0 < (revB g opt r L).length := by
  obtain ⟨h1, h2⟩ := byp1_at h
  refine List.length_pos_of_mem (a := i) (List.mem_filter.2 ⟨List.mem_range.2 h1, ?_⟩)
  rw [h2]; rfl
theorem mem_cut {L : List Nat} {i x : Nat} (hx : x ∈ L) : x ∈ withoutL L [i] ∨ x = L.getD i 0 := by
  obtain ⟨j, hj, rfl⟩ := List.getElem_of_mem hx
  by_cases e : j = i
  · subst e; exact .inr (getD_of (List.getElem?_eq_getElem hj)).symm
  · exact .inl (mem_without.2 ⟨j, List.getElem?_eq_getElem hj, by simpa using e⟩)
theorem byp_code {Fs : List PL} (h : goodI (i2 Fs)) {x : PL} (hx : bypQ Fs = some x) : codeF (bypF Fs) = mkC (atAll (codesOf Fs) x.1) (atAll (codesOf Fs) x.2) := by
  obtain ⟨l1, l2, _, _⟩ := bypQ_lt h hx
  have e : bypF Fs = formB (poolPut Fs (bornsF Fs) x.1 x.2).1 (poolPut Fs (bornsF Fs) x.1 x.2).2.1 (poolPut Fs (bornsF Fs) x.1 x.2).2.2 := by unfold bypF; rw [hx]
  rw [e, put_code h l1 l2, codeF_formOf]
theorem byp_good {Fs : List PL} (h : goodI (i2 Fs)) {x : PL} (hx : bypQ Fs = some x) (hf : fitsB (bypF Fs) = true) : goodI (i2 (bypF Fs)) := by
  obtain ⟨l1, l2, _, _⟩ := bypQ_lt h hx
  have e : bypF Fs = formB (poolPut Fs (bornsF Fs) x.1 x.2).1 (poolPut Fs (bornsF Fs) x.1 x.2).2.1 (poolPut Fs (bornsF Fs) x.1 x.2).2.2 := by unfold bypF; rw [hx]
  rw [e, put_code h l1 l2] at hf ⊢
  exact (form_good (formOf_is _) hf).1
theorem byp_equal {Fs : List PL} (h : goodI (i2 Fs)) {x : PL} (hx : bypQ Fs = some x) : geC (codeF (bypF Fs)) (codeF Fs) = true ∧ geC (codeF Fs) (codeF (bypF Fs)) = true := by
  obtain ⟨r1, r2⟩ := root_opts h
  obtain ⟨hp, _, _, hP, _⟩ := goodI_parts h
  have hlt : Fs.length - 1 < Fs.length := by omega
  obtain ⟨o1, o2⟩ := hP.opts _ _ (node_at hlt)
  rw [byp_code h hx]
  have hcf : (codesOf Fs).getD (Fs.length - 1) 0 = codeF Fs := rfl
  unfold bypQ bypP at hx
  cases h1 : byp1 (gR (codesOf Fs)) (fun y => (nodeV Fs y).2) (Fs.length - 1) (nodeV Fs (Fs.length - 1)).1 with
  | some iz =>
    obtain ⟨i, z⟩ := iz
    rw [h1] at hx
    cases hx
    obtain ⟨hi, hz⟩ := byp1_at h1
    have hg := List.find?_some hz
    have hm := List.mem_of_find?_eq_some hz
    unfold gR geV at hg
    rw [hcf] at hg
    obtain ⟨o, ho⟩ : ∃ o, o = (nodeV Fs (Fs.length - 1)).1.getD i 0 := ⟨_, rfl⟩
    rw [← ho] at hm
    have hoL : o ∈ (nodeV Fs (Fs.length - 1)).1 := by rw [ho]; exact getD_mem hi
    have hol : o < Fs.length := by have := o1 o hoL; omega
    have hzl : z < Fs.length := by have := (hP.opts o _ (node_at hol)).2 z hm; omega
    obtain ⟨_, c2⟩ := opts_code hP.book hol
    obtain ⟨d1, _⟩ := opts_code hP.book hzl
    dsimp only
    refine reduce_eq (SL := atAll (codesOf Fs) ((nodeV Fs (Fs.length - 1)).1 ++ (nodeV Fs z).1)) (SR := atAll (codesOf Fs) (nodeV Fs (Fs.length - 1)).2) ?_ ?_ ?_ ?_ ?_ ?_
    · intro c hc
      obtain ⟨y, hy, rfl⟩ := mem_atAll.1 hc
      rcases List.mem_append.1 hy with hy | hy
      · exact opt_left ((r1 _).2 ⟨y, withoutL_mem hy, rfl⟩)
      · exact not_ge_of_ge hg (opt_left ((d1 _).2 ⟨y, hy, rfl⟩))
    · intro c hc
      obtain ⟨y, hy, rfl⟩ := mem_atAll.1 hc
      exact opt_right ((r2 _).2 ⟨y, hy, rfl⟩)
    · intro c hc
      obtain ⟨y, hy, rfl⟩ := mem_atAll.1 hc
      rcases List.mem_append.1 hy with hy | hy
      · rcases mem_cut (i := i) hy with hw | hw
        · exact .inl ⟨_, mem_atAll.2 ⟨y, List.mem_append_left _ hw, rfl⟩, ge_refl _⟩
        · rw [← ho] at hw
          subst hw
          refine .inr ⟨(codesOf Fs).getD z 0, (c2 _).2 ⟨z, hm, rfl⟩, hg, fun l hl => ?_⟩
          obtain ⟨t, ht, rfl⟩ := (d1 l).1 hl
          exact mem_atAll.2 ⟨t, List.mem_append_right _ ht, rfl⟩
      · exact .inl ⟨_, mem_atAll.2 ⟨y, List.mem_append_right _ hy, rfl⟩, ge_refl _⟩
    · intro c hc
      exact .inl ⟨c, hc, ge_refl _⟩
    · intro l hl
      obtain ⟨y, hy, rfl⟩ := (r1 l).1 hl
      exact ⟨_, mem_atAll.2 ⟨y, List.mem_append_left _ hy, rfl⟩, ge_refl _⟩
    · intro l hl
      obtain ⟨y, hy, rfl⟩ := (r2 l).1 hl
      exact ⟨_, mem_atAll.2 ⟨y, hy, rfl⟩, ge_refl _⟩
  | none =>
    rw [h1] at hx
    obtain ⟨⟨i, z⟩, h2, e⟩ := Option.map_eq_some_iff.1 hx
    cases e
    obtain ⟨hi, hz⟩ := byp1_at h2
    have hg := List.find?_some hz
    have hm := List.mem_of_find?_eq_some hz
    unfold gL geV at hg
    rw [hcf] at hg
    obtain ⟨o, ho⟩ : ∃ o, o = (nodeV Fs (Fs.length - 1)).2.getD i 0 := ⟨_, rfl⟩
    rw [← ho] at hm
    have hoL : o ∈ (nodeV Fs (Fs.length - 1)).2 := by rw [ho]; exact getD_mem hi
    have hol : o < Fs.length := by have := o2 o hoL; omega
    have hzl : z < Fs.length := by have := (hP.opts o _ (node_at hol)).1 z hm; omega
    obtain ⟨c1, _⟩ := opts_code hP.book hol
    obtain ⟨_, d2⟩ := opts_code hP.book hzl
    dsimp only
    refine reduce_eq (SL := atAll (codesOf Fs) (nodeV Fs (Fs.length - 1)).1) (SR := atAll (codesOf Fs) ((nodeV Fs (Fs.length - 1)).2 ++ (nodeV Fs z).2)) ?_ ?_ ?_ ?_ ?_ ?_
    · intro c hc
      obtain ⟨y, hy, rfl⟩ := mem_atAll.1 hc
      exact opt_left ((r1 _).2 ⟨y, hy, rfl⟩)
    · intro c hc
      obtain ⟨y, hy, rfl⟩ := mem_atAll.1 hc
      rcases List.mem_append.1 hy with hy | hy
      · exact opt_right ((r2 _).2 ⟨y, withoutL_mem hy, rfl⟩)
      · exact not_ge_of_le hg (opt_right ((d2 _).2 ⟨y, hy, rfl⟩))
    · intro c hc
      exact .inl ⟨c, hc, ge_refl _⟩
    · intro c hc
      obtain ⟨y, hy, rfl⟩ := mem_atAll.1 hc
      rcases List.mem_append.1 hy with hy | hy
      · rcases mem_cut (i := i) hy with hw | hw
        · exact .inl ⟨_, mem_atAll.2 ⟨y, List.mem_append_left _ hw, rfl⟩, ge_refl _⟩
        · rw [← ho] at hw
          subst hw
          refine .inr ⟨(codesOf Fs).getD z 0, (c1 _).2 ⟨z, hm, rfl⟩, hg, fun l hl => ?_⟩
          obtain ⟨t, ht, rfl⟩ := (d2 l).1 hl
          exact mem_atAll.2 ⟨t, List.mem_append_right _ ht, rfl⟩
      · exact .inl ⟨_, mem_atAll.2 ⟨y, List.mem_append_right _ hy, rfl⟩, ge_refl _⟩
    · intro l hl
      obtain ⟨y, hy, rfl⟩ := (r1 l).1 hl
      exact ⟨_, mem_atAll.2 ⟨y, hy, rfl⟩, ge_refl _⟩
    · intro l hl
      obtain ⟨y, hy, rfl⟩ := (r2 l).1 hl
      exact ⟨_, mem_atAll.2 ⟨y, List.mem_append_left _ hy, rfl⟩, ge_refl _⟩
/-- Where a form can be bypassed, it has reversible options. -/
theorem byp_rev {Fs : List PL} {x : PL} (hx : bypQ Fs = some x) : 0 < (revB (gR (codesOf Fs)) (optS Fs true) (Fs.length - 1) (nodeV Fs (Fs.length - 1)).1).length + (revB (gL (codesOf Fs)) (optS Fs false) (Fs.length - 1) (nodeV Fs (Fs.length - 1)).2).length := by
  have e1 : optS Fs true = fun y => (nodeV Fs y).2 := by funext y; rfl
  have e2 : optS Fs false = fun y => (nodeV Fs y).1 := by funext y; rfl
  rw [e1, e2]
  unfold bypQ bypP at hx
  cases h1 : byp1 (gR (codesOf Fs)) (fun y => (nodeV Fs y).2) (Fs.length - 1) (nodeV Fs (Fs.length - 1)).1 with
  | some iz =>
    obtain ⟨i, z⟩ := iz
    have := byp1_rev h1
    omega
  | none =>
    rw [h1] at hx
    obtain ⟨⟨i, z⟩, h2, e⟩ := Option.map_eq_some_iff.1 hx
    have := byp1_rev h2
    omega
end Go.Proofs.YtioiljboihehcaaGreatDoor
