import Derived.Test.YtioiljboihehcaaGreatDoorZaCanLaw
/- What the claim of FnOneFormCard needs of: CanQ MinLaw. -/
namespace Go.Proofs.YtioiljboihehcaaGreatDoor

set_option linter.unusedVariables false

set_option linter.unusedSimpArgs false

open Go.RowKit

/-- c is the canonical form of a. -/
def IsCan (c a : Nat) : Prop := CanC c ∧ geC c a = true ∧ geC a c = true

theorem IsCan.eq {c a : Nat} (h : IsCan c a) : c = canC a := canC_of h.1 h.2.1 h.2.2

theorem IsCan.self {c a : Nat} (h : IsCan c a) : IsCan c c := ⟨h.1, ge_refl c, ge_refl c⟩

theorem IsCan.step {c a b : Nat} (h : IsCan c a) (h1 : geC a b = true) (h2 : geC b a = true) : IsCan c b := ⟨h.1, ge_trans h.2.1 h1, ge_trans h2 h.2.2⟩

structure RedL (f : Nat) (KL : List Nat) : Prop where
  a : ∀ i ∈ KL, geC i f = false
  s : ∃ SL : List Nat, (∀ i ∈ SL, (∃ j ∈ KL, geC j i = true) ∨ ∃ k, hasR i k ∧ geC f k = true ∧ ∀ l, hasL k l → l ∈ SL) ∧ ∀ l, hasL f l → ∃ i ∈ SL, geC i l = true
  c : ∀ i ∈ KL, CanC i
  d : ∀ i ∈ KL, ∀ j ∈ KL, geC j i = true → j = i
  r : ∀ i ∈ KL, ∀ r, hasR i r → geC f r = false

structure RedR (f : Nat) (KR : List Nat) : Prop where
  a : ∀ i ∈ KR, geC f i = false
  s : ∃ SR : List Nat, (∀ i ∈ SR, (∃ j ∈ KR, geC i j = true) ∨ ∃ k, hasL i k ∧ geC k f = true ∧ ∀ l, hasR k l → l ∈ SR) ∧ ∀ l, hasR f l → ∃ i ∈ SR, geC l i = true
  c : ∀ i ∈ KR, CanC i
  d : ∀ i ∈ KR, ∀ j ∈ KR, geC i j = true → j = i
  r : ∀ i ∈ KR, ∀ r, hasL i r → geC r f = false

theorem red_is {f : Nat} {KL KR : List Nat} (hL : RedL f KL) (hR : RedR f KR) : IsCan (mkC KL KR) f := by
  obtain ⟨SL, s1, s2⟩ := hL.s
  obtain ⟨SR, t1, t2⟩ := hR.s
  obtain ⟨e1, e2⟩ := reduce_eq hL.a hR.a s1 t1 s2 t2
  exact ⟨reduce_can e1 e2 hL.c hR.c hL.d hR.d hL.r hR.r, e1, e2⟩

/-- Where the queue of left options stands. -/
structure QL (V : List PL) (C : List Nat) (cf : Nat) (S : Nat → Bool) (Q Kp : List Nat) : Prop where
  snd : ∀ i, (S i = true ∨ i ∈ Q) → i < V.length ∧ CanC (C.getD i 0) ∧ geC (C.getD i 0) cf = false
  kp : ∀ i ∈ Kp, S i = true ∧ ∀ r ∈ (nodeV V i).2, geC cf (C.getD r 0) = false
  seen : ∀ i, S i = true → i ∈ Kp ∨ ∃ k ∈ (nodeV V i).2, geC cf (C.getD k 0) = true ∧ ∀ l ∈ (nodeV V k).1, S l = true ∨ l ∈ Q
  opt : ∀ l, hasL cf l → ∃ i, (S i = true ∨ i ∈ Q) ∧ geC (C.getD i 0) l = true
  nodup : Kp.Nodup

structure QR (V : List PL) (C : List Nat) (cf : Nat) (S : Nat → Bool) (Q Kp : List Nat) : Prop where
  snd : ∀ i, (S i = true ∨ i ∈ Q) → i < V.length ∧ CanC (C.getD i 0) ∧ geC cf (C.getD i 0) = false
  kp : ∀ i ∈ Kp, S i = true ∧ ∀ r ∈ (nodeV V i).1, geC (C.getD r 0) cf = false
  seen : ∀ i, S i = true → i ∈ Kp ∨ ∃ k ∈ (nodeV V i).1, geC (C.getD k 0) cf = true ∧ ∀ l ∈ (nodeV V k).2, S l = true ∨ l ∈ Q
  opt : ∀ l, hasR cf l → ∃ i, (S i = true ∨ i ∈ Q) ∧ geC l (C.getD i 0) = true
  nodup : Kp.Nodup

def addS (S : Nat → Bool) (i : Nat) : Nat → Bool := fun k => S k || decide (k = i)

theorem addS_iff {S : Nat → Bool} {i k : Nat} : addS S i k = true ↔ S k = true ∨ k = i := by
  unfold addS
  rw [Bool.or_eq_true, decide_eq_true_eq]

theorem opts_code {V : List PL} {C : List Nat} (B : BookC V C) {i : Nat} (hi : i < V.length) : (∀ l, hasL (C.getD i 0) l ↔ ∃ x ∈ (nodeV V i).1, C.getD x 0 = l) ∧ ∀ l, hasR (C.getD i 0) l ↔ ∃ x ∈ (nodeV V i).2, C.getD x 0 = l := by
  have e := B.code i _ (node_at hi)
  exact ⟨fun l => by rw [e, hasL_mk, mem_atAll], fun l => by rw [e, hasR_mk, mem_atAll]⟩

section

variable {V : List PL} {C : List Nat} {f : Nat} {S : Nat → Bool} {Q Kp : List Nat} {i k : Nat}

theorem QL.skip {cf : Nat} (h : QL V C cf S (Q ++ [i]) Kp) (hi : S i = true) : QL V C cf S Q Kp := by
  have key : ∀ x, S x = true ∨ x ∈ Q ++ [i] → S x = true ∨ x ∈ Q := fun x hx => hx.elim .inl (fun hx => by
    rcases List.mem_append.1 hx with hx | hx
    · exact .inr hx
    · rw [List.mem_singleton.1 hx]; exact .inl hi)
  refine ⟨fun x hx => h.snd x (hx.imp_right (List.mem_append_left _)), h.kp, fun x hx => (h.seen x hx).imp_right (fun ⟨k, h1, h2, h3⟩ => ⟨k, h1, h2, fun l hl => key l (h3 l hl)⟩), fun l hl => ?_, h.nodup⟩
  obtain ⟨x, hx, e⟩ := h.opt l hl
  exact ⟨x, key x hx, e⟩

theorem QL.keep {cf : Nat} (h : QL V C cf S (Q ++ [i]) Kp) (hi : ¬ S i = true) (hn : ∀ r ∈ (nodeV V i).2, geC cf (C.getD r 0) = false) : QL V C cf (addS S i) Q (Kp ++ [i]) := by
  have key : ∀ x, S x = true ∨ x ∈ Q ++ [i] → addS S i x = true ∨ x ∈ Q := fun x hx => hx.elim (fun hx => .inl (addS_iff.2 (.inl hx))) (fun hx => by
    rcases List.mem_append.1 hx with hx | hx
    · exact .inr hx
    · exact .inl (addS_iff.2 (.inr (List.mem_singleton.1 hx))))
  refine ⟨fun x hx => h.snd x ?_, fun x hx => ?_, fun x hx => ?_, fun l hl => ?_, ?_⟩
  · rcases hx with hx | hx
    · rcases addS_iff.1 hx with hx | rfl
      · exact .inl hx
      · exact .inr (by simp)
    · exact .inr (List.mem_append_left _ hx)
  · rcases List.mem_append.1 hx with hx | hx
    · exact ⟨addS_iff.2 (.inl (h.kp x hx).1), (h.kp x hx).2⟩
    · rw [List.mem_singleton.1 hx]
      exact ⟨addS_iff.2 (.inr rfl), hn⟩
  · rcases addS_iff.1 hx with hx | rfl
    · rcases h.seen x hx with hx | ⟨k, h1, h2, h3⟩
      · exact .inl (List.mem_append_left _ hx)
      · exact .inr ⟨k, h1, h2, fun l hl => key l (h3 l hl)⟩
    · exact .inl (by simp)
  · obtain ⟨x, hx, e⟩ := h.opt l hl
    exact ⟨x, key x hx, e⟩
  · refine List.nodup_append.2 ⟨h.nodup, by simp, fun a ha b hb e => ?_⟩
    rw [List.mem_singleton.1 hb] at e
    subst e
    exact hi (h.kp a ha).1

theorem QL.push (B : BookC V C) {cf : Nat} (h : QL V C cf S (Q ++ [i]) Kp) (hk : k ∈ (nodeV V i).2) (hg : geC cf (C.getD k 0) = true) : QL V C cf (addS S i) (Q ++ (nodeV V k).1) Kp := by
  obtain ⟨hil, hic, _⟩ := h.snd i (.inr (by simp))
  have hki := (B.opts i _ (node_at hil)).2 k hk
  have hkl : k < V.length := by omega
  have hkc : CanC (C.getD k 0) := hic.opt (.inr (((opts_code B hil).2 _).2 ⟨k, hk, rfl⟩))
  have key : ∀ x, S x = true ∨ x ∈ Q ++ [i] → addS S i x = true ∨ x ∈ Q ++ (nodeV V k).1 := fun x hx => hx.elim (fun hx => .inl (addS_iff.2 (.inl hx))) (fun hx => by
    rcases List.mem_append.1 hx with hx | hx
    · exact .inr (List.mem_append_left _ hx)
    · exact .inl (addS_iff.2 (.inr (List.mem_singleton.1 hx))))
  refine ⟨fun x hx => ?_, fun x hx => ⟨addS_iff.2 (.inl (h.kp x hx).1), (h.kp x hx).2⟩, fun x hx => ?_, fun l hl => ?_, h.nodup⟩
  · have old : ∀ x, S x = true ∨ x ∈ Q ++ [i] → x < V.length ∧ CanC (C.getD x 0) ∧ geC (C.getD x 0) cf = false := h.snd
    rcases hx with hx | hx
    · rcases addS_iff.1 hx with hx | rfl
      · exact old x (.inl hx)
      · exact old x (.inr (by simp))
    · rcases List.mem_append.1 hx with hx | hx
      · exact old x (.inr (List.mem_append_left _ hx))
      · have hxk := (B.opts k _ (node_at hkl)).1 x hx
        have hL : hasL (C.getD k 0) (C.getD x 0) := ((opts_code B hkl).1 _).2 ⟨x, hx, rfl⟩
        exact ⟨by omega, hkc.opt (.inl hL), not_ge_of_ge hg (opt_left hL)⟩
  · rcases addS_iff.1 hx with hx | rfl
    · exact (h.seen x hx).imp_right (fun ⟨k', h1, h2, h3⟩ => ⟨k', h1, h2, fun l hl => key l (h3 l hl)⟩)
    · exact .inr ⟨k, hk, hg, fun l hl => .inr (List.mem_append_right _ hl)⟩
  · obtain ⟨x, hx, e⟩ := h.opt l hl
    exact ⟨x, key x hx, e⟩

theorem QL.done (B : BookC V C) {cf : Nat} (h : QL V C cf S [] Kp) : RedL cf (atAll C (withoutL Kp (domB (gL C) Kp))) := by
  have ht : ∀ a b c, gL C a b = true → gL C b c = true → gL C a c = true := fun a b c h1 h2 => ge_trans h2 h1
  have hsub : ∀ x ∈ withoutL Kp (domB (gL C) Kp), x ∈ Kp := fun x hx => withoutL_mem hx
  have hs : ∀ x ∈ Kp, x < V.length ∧ CanC (C.getD x 0) ∧ geC (C.getD x 0) cf = false := fun x hx => h.snd x (.inl (h.kp x hx).1)
  refine ⟨fun c hc => ?_, ⟨((List.range V.length).filter S).map (fun x => C.getD x 0), fun c hc => ?_, fun l hl => ?_⟩, fun c hc => ?_, fun c hc c' hc' e => ?_, fun c hc r hr => ?_⟩
  · obtain ⟨x, hx, rfl⟩ := mem_atAll.1 hc
    exact (hs x (hsub x hx)).2.2
  · obtain ⟨x, hx, rfl⟩ := List.mem_map.1 hc
    have hSx := (List.mem_filter.1 hx).2
    rcases h.seen x hSx with hk | ⟨k, h1, h2, h3⟩
    · obtain ⟨y, hy, hyx⟩ := without_cover ht hk
      refine .inl ⟨C.getD y 0, mem_atAll.2 ⟨y, hy, rfl⟩, ?_⟩
      rcases hyx with rfl | e
      · exact ge_refl _
      · exact e
    · have hxl := (h.snd x (.inl hSx)).1
      have hkx := (B.opts x _ (node_at hxl)).2 k h1
      refine .inr ⟨C.getD k 0, ((opts_code B hxl).2 _).2 ⟨k, h1, rfl⟩, h2, fun l hl => ?_⟩
      obtain ⟨z, hz, rfl⟩ := ((opts_code B (show k < V.length by omega)).1 l).1 hl
      have hzS := (h3 z hz).resolve_right (by simp)
      exact List.mem_map.2 ⟨z, List.mem_filter.2 ⟨List.mem_range.2 (h.snd z (.inl hzS)).1, hzS⟩, rfl⟩
  · obtain ⟨x, hx, e⟩ := h.opt l hl
    have hxS := hx.resolve_right (by simp)
    exact ⟨_, List.mem_map.2 ⟨x, List.mem_filter.2 ⟨List.mem_range.2 (h.snd x (.inl hxS)).1, hxS⟩, rfl⟩, e⟩
  · obtain ⟨x, hx, rfl⟩ := mem_atAll.1 hc
    exact (hs x (hsub x hx)).2.1
  · obtain ⟨x, hx, rfl⟩ := mem_atAll.1 hc
    obtain ⟨y, hy, rfl⟩ := mem_atAll.1 hc'
    rw [without_free hx hy e]
  · obtain ⟨x, hx, rfl⟩ := mem_atAll.1 hc
    obtain ⟨z, hz, rfl⟩ := ((opts_code B (hs x (hsub x hx)).1).2 r).1 hr
    exact (h.kp x (hsub x hx)).2 z hz

theorem QR.skip {cf : Nat} (h : QR V C cf S (Q ++ [i]) Kp) (hi : S i = true) : QR V C cf S Q Kp := by
  have key : ∀ x, S x = true ∨ x ∈ Q ++ [i] → S x = true ∨ x ∈ Q := fun x hx => hx.elim .inl (fun hx => by
    rcases List.mem_append.1 hx with hx | hx
    · exact .inr hx
    · rw [List.mem_singleton.1 hx]; exact .inl hi)
  refine ⟨fun x hx => h.snd x (hx.imp_right (List.mem_append_left _)), h.kp, fun x hx => (h.seen x hx).imp_right (fun ⟨k, h1, h2, h3⟩ => ⟨k, h1, h2, fun l hl => key l (h3 l hl)⟩), fun l hl => ?_, h.nodup⟩
  obtain ⟨x, hx, e⟩ := h.opt l hl
  exact ⟨x, key x hx, e⟩

theorem QR.keep {cf : Nat} (h : QR V C cf S (Q ++ [i]) Kp) (hi : ¬ S i = true) (hn : ∀ r ∈ (nodeV V i).1, geC (C.getD r 0) cf = false) : QR V C cf (addS S i) Q (Kp ++ [i]) := by
  have key : ∀ x, S x = true ∨ x ∈ Q ++ [i] → addS S i x = true ∨ x ∈ Q := fun x hx => hx.elim (fun hx => .inl (addS_iff.2 (.inl hx))) (fun hx => by
    rcases List.mem_append.1 hx with hx | hx
    · exact .inr hx
    · exact .inl (addS_iff.2 (.inr (List.mem_singleton.1 hx))))
  refine ⟨fun x hx => h.snd x ?_, fun x hx => ?_, fun x hx => ?_, fun l hl => ?_, ?_⟩
  · rcases hx with hx | hx
    · rcases addS_iff.1 hx with hx | rfl
      · exact .inl hx
      · exact .inr (by simp)
    · exact .inr (List.mem_append_left _ hx)
  · rcases List.mem_append.1 hx with hx | hx
    · exact ⟨addS_iff.2 (.inl (h.kp x hx).1), (h.kp x hx).2⟩
    · rw [List.mem_singleton.1 hx]
      exact ⟨addS_iff.2 (.inr rfl), hn⟩
  · rcases addS_iff.1 hx with hx | rfl
    · rcases h.seen x hx with hx | ⟨k, h1, h2, h3⟩
      · exact .inl (List.mem_append_left _ hx)
      · exact .inr ⟨k, h1, h2, fun l hl => key l (h3 l hl)⟩
    · exact .inl (by simp)
  · obtain ⟨x, hx, e⟩ := h.opt l hl
    exact ⟨x, key x hx, e⟩
  · refine List.nodup_append.2 ⟨h.nodup, by simp, fun a ha b hb e => ?_⟩
    rw [List.mem_singleton.1 hb] at e
    subst e
    exact hi (h.kp a ha).1

theorem QR.push (B : BookC V C) {cf : Nat} (h : QR V C cf S (Q ++ [i]) Kp) (hk : k ∈ (nodeV V i).1) (hg : geC (C.getD k 0) cf = true) : QR V C cf (addS S i) (Q ++ (nodeV V k).2) Kp := by
  obtain ⟨hil, hic, _⟩ := h.snd i (.inr (by simp))
  have hki := (B.opts i _ (node_at hil)).1 k hk
  have hkl : k < V.length := by omega
  have hkc : CanC (C.getD k 0) := hic.opt (.inl (((opts_code B hil).1 _).2 ⟨k, hk, rfl⟩))
  have key : ∀ x, S x = true ∨ x ∈ Q ++ [i] → addS S i x = true ∨ x ∈ Q ++ (nodeV V k).2 := fun x hx => hx.elim (fun hx => .inl (addS_iff.2 (.inl hx))) (fun hx => by
    rcases List.mem_append.1 hx with hx | hx
    · exact .inr (List.mem_append_left _ hx)
    · exact .inl (addS_iff.2 (.inr (List.mem_singleton.1 hx))))
  refine ⟨fun x hx => ?_, fun x hx => ⟨addS_iff.2 (.inl (h.kp x hx).1), (h.kp x hx).2⟩, fun x hx => ?_, fun l hl => ?_, h.nodup⟩
  · have old : ∀ x, S x = true ∨ x ∈ Q ++ [i] → x < V.length ∧ CanC (C.getD x 0) ∧ geC cf (C.getD x 0) = false := h.snd
    rcases hx with hx | hx
    · rcases addS_iff.1 hx with hx | rfl
      · exact old x (.inl hx)
      · exact old x (.inr (by simp))
    · rcases List.mem_append.1 hx with hx | hx
      · exact old x (.inr (List.mem_append_left _ hx))
      · have hxk := (B.opts k _ (node_at hkl)).2 x hx
        have hL : hasR (C.getD k 0) (C.getD x 0) := ((opts_code B hkl).2 _).2 ⟨x, hx, rfl⟩
        exact ⟨by omega, hkc.opt (.inr hL), not_ge_of_le hg (opt_right hL)⟩
  · rcases addS_iff.1 hx with hx | rfl
    · exact (h.seen x hx).imp_right (fun ⟨k', h1, h2, h3⟩ => ⟨k', h1, h2, fun l hl => key l (h3 l hl)⟩)
    · exact .inr ⟨k, hk, hg, fun l hl => .inr (List.mem_append_right _ hl)⟩
  · obtain ⟨x, hx, e⟩ := h.opt l hl
    exact ⟨x, key x hx, e⟩

theorem QR.done (B : BookC V C) {cf : Nat} (h : QR V C cf S [] Kp) : RedR cf (atAll C (withoutL Kp (domB (gR C) Kp))) := by
  have ht : ∀ a b c, gR C a b = true → gR C b c = true → gR C a c = true := fun a b c h1 h2 => ge_trans h1 h2
  have hsub : ∀ x ∈ withoutL Kp (domB (gR C) Kp), x ∈ Kp := fun x hx => withoutL_mem hx
  have hs : ∀ x ∈ Kp, x < V.length ∧ CanC (C.getD x 0) ∧ geC cf (C.getD x 0) = false := fun x hx => h.snd x (.inl (h.kp x hx).1)
  refine ⟨fun c hc => ?_, ⟨((List.range V.length).filter S).map (fun x => C.getD x 0), fun c hc => ?_, fun l hl => ?_⟩, fun c hc => ?_, fun c hc c' hc' e => ?_, fun c hc r hr => ?_⟩
  · obtain ⟨x, hx, rfl⟩ := mem_atAll.1 hc
    exact (hs x (hsub x hx)).2.2
  · obtain ⟨x, hx, rfl⟩ := List.mem_map.1 hc
    have hSx := (List.mem_filter.1 hx).2
    rcases h.seen x hSx with hk | ⟨k, h1, h2, h3⟩
    · obtain ⟨y, hy, hyx⟩ := without_cover ht hk
      refine .inl ⟨C.getD y 0, mem_atAll.2 ⟨y, hy, rfl⟩, ?_⟩
      rcases hyx with rfl | e
      · exact ge_refl _
      · exact e
    · have hxl := (h.snd x (.inl hSx)).1
      have hkx := (B.opts x _ (node_at hxl)).1 k h1
      refine .inr ⟨C.getD k 0, ((opts_code B hxl).1 _).2 ⟨k, h1, rfl⟩, h2, fun l hl => ?_⟩
      obtain ⟨z, hz, rfl⟩ := ((opts_code B (show k < V.length by omega)).2 l).1 hl
      have hzS := (h3 z hz).resolve_right (by simp)
      exact List.mem_map.2 ⟨z, List.mem_filter.2 ⟨List.mem_range.2 (h.snd z (.inl hzS)).1, hzS⟩, rfl⟩
  · obtain ⟨x, hx, e⟩ := h.opt l hl
    have hxS := hx.resolve_right (by simp)
    exact ⟨_, List.mem_map.2 ⟨x, List.mem_filter.2 ⟨List.mem_range.2 (h.snd x (.inl hxS)).1, hxS⟩, rfl⟩, e⟩
  · obtain ⟨x, hx, rfl⟩ := mem_atAll.1 hc
    exact (hs x (hsub x hx)).2.1
  · obtain ⟨x, hx, rfl⟩ := mem_atAll.1 hc
    obtain ⟨y, hy, rfl⟩ := mem_atAll.1 hc'
    rw [without_free hx hy e]
  · obtain ⟨x, hx, rfl⟩ := mem_atAll.1 hc
    obtain ⟨z, hz, rfl⟩ := ((opts_code B (hs x (hsub x hx)).1).1 r).1 hr
    exact (h.kp x (hsub x hx)).2 z hz

end

/-- The form of a game's canonical form. -/
noncomputable def canN (Fs : List PL) : List PL := formOf (canC (codeF Fs))

end Go.Proofs.YtioiljboihehcaaGreatDoor

namespace Go.Proofs.YtioiljboihehcaaGreatDoor

set_option linter.unusedVariables false

set_option linter.unusedSimpArgs false

open Go.RowKit

theorem can_left' {c x l : Nat} (hc : CanC c) (hl : hasL c l) : ∀ y, SubC x y → geC c y = true → geC l y = false → ∃ s, SubC x s ∧ geC s l = true ∧ geC l s = true := by
  intro y
  induction y using Nat.strongRecOn with
  | _ y ih =>
    intro hy h1 h2
    have k := hc c .root
    rcases ge_not h2 with ⟨r, hr, e⟩ | ⟨z, hz, e⟩
    · have := ge_trans h1 e
      rw [k.revL l r hl hr] at this; cases this
    · have hsz := hy.step (.inl hz)
      rcases ge_not (ge_left h1 hz) with ⟨r, hr, e'⟩ | ⟨l', hl', e'⟩
      · have l1 := optC_lt (.inl hz)
        have l2 := optC_lt (.inr hr)
        exact ih r (by omega) (hsz.step (.inr hr)) e' (ge_right e hr)
      · have h := k.domL l l' hl hl' (ge_trans e' e)
        rw [h] at e'
        exact ⟨z, hsz, e, e'⟩

theorem can_right' {c x l : Nat} (hc : CanC c) (hl : hasR c l) : ∀ y, SubC x y → geC y c = true → geC y l = false → ∃ s, SubC x s ∧ geC s l = true ∧ geC l s = true := by
  intro y
  induction y using Nat.strongRecOn with
  | _ y ih =>
    intro hy h1 h2
    have k := hc c .root
    rcases ge_not h2 with ⟨z, hz, e⟩ | ⟨r, hr, e⟩
    · have hsz := hy.step (.inr hz)
      rcases ge_not (ge_right h1 hz) with ⟨l', hl', e'⟩ | ⟨r, hr, e'⟩
      · have h := k.domR l l' hl hl' (ge_trans e e')
        rw [h] at e'
        exact ⟨z, hsz, e', e⟩
      · have l1 := optC_lt (.inr hz)
        have l2 := optC_lt (.inl hr)
        exact ih r (by omega) (hsz.step (.inl hr)) e' (ge_left e hr)
    · have := ge_trans e h1
      rw [k.revR l r hl hr] at this; cases this

/-- Each subposition of a game in canonical form is equal to one of any game that is equal. -/
theorem can_sub_eq {c x s : Nat} (hc : CanC c) (h1 : geC x c = true) (h2 : geC c x = true) (hs : SubC c s) : ∃ s', SubC x s' ∧ geC s' s = true ∧ geC s s' = true := by
  induction hs with
  | root => exact ⟨x, .root, h1, h2⟩
  | step hs ho ih =>
    obtain ⟨y, hy, e1, e2⟩ := ih
    rename_i a o
    have ca : CanC a := fun z hz => hc z (hs.trans hz)
    rcases ho with h | h
    · obtain ⟨s', t1, t2, t3⟩ := can_left' ca h y .root e2 (not_ge_of_ge e1 (opt_left h))
      exact ⟨s', hy.trans t1, t2, t3⟩
    · obtain ⟨s', t1, t2, t3⟩ := can_right' ca h y .root e1 (not_ge_of_le e2 (opt_right h))
      exact ⟨s', hy.trans t1, t2, t3⟩

/-- The canonical form has the fewest nodes. -/
theorem can_least {c x : Nat} (hc : CanC c) (h1 : geC x c = true) (h2 : geC c x = true) {Fs : List PL} (hF : FormC x Fs) : (formOf c).length ≤ Fs.length := by
  obtain ⟨P, hA⟩ := formOf_is c
  obtain ⟨P', hA'⟩ := hF
  have hl := hA.book.len
  have hl' := hA'.book.len
  have hex : ∀ s, ∃ s', SubC c s → SubC x s' ∧ geC s' s = true ∧ geC s s' = true := fun s => by
    by_cases h : SubC c s
    · obtain ⟨s', e⟩ := can_sub_eq hc h1 h2 h
      exact ⟨s', fun _ => e⟩
    · exact ⟨0, fun q => absurd q h⟩
  let f : Nat → Nat := fun s => Classical.choose (hex s)
  have hf : ∀ s, SubC c s → SubC x (f s) ∧ geC (f s) s = true ∧ geC s (f s) = true := fun s => Classical.choose_spec (hex s)
  have hn : (P.map f).Nodup := by
    refine List.pairwise_map.2 (hA.book.nodup.imp_of_mem ?_)
    intro a b ha hb hab e
    obtain ⟨_, a1, a2⟩ := hf a ((hA.sub a).1 ha)
    obtain ⟨_, b1, b2⟩ := hf b ((hA.sub b).1 hb)
    rw [e] at a1 a2
    exact hab (can_one (fun z hz => hc z (((hA.sub a).1 ha).trans hz)) (fun z hz => hc z (((hA.sub b).1 hb).trans hz)) (ge_trans a2 b1) (ge_trans b2 a1))
  have := hn.length_le_of_subset (l₂ := P') (fun s hs => by
    obtain ⟨a, ha, rfl⟩ := List.mem_map.1 hs
    exact (hA'.sub _).2 (hf a ((hA.sub a).1 ha)).1)
  rw [List.length_map] at this
  omega

end Go.Proofs.YtioiljboihehcaaGreatDoor
