/- The reference's book of nodes in memory, and its method put: it returns what its text says, for every book and every two lists of its places. -/
import Derived.Test.YtkbljlbfkgoalaaGreatDoorNodes
namespace Go.Proofs.YtkbljlbfkgoalaaGreatDoor
set_option linter.unusedVariables false
set_option linter.unusedSimpArgs false
open Go.RowKit

/-- The blocks that the book at bb writes to. -/
def BookM (w : World) (bb : Nat) (k : Nat) : Prop := k = bb ∨ ∃ i v, w.cell? ⟨bb, i, none⟩ = some v ∧ v.ownBlock = some k
def flat2 (NV : List (Value × Value)) : List Value := NV.flatMap fun x => [x.1, x.2]

structure BookAt (w : World) (bb : Nat) (NL : List (List Nat × List Nat)) (BL : List Nat) (nv bv : Value) (NV : List (Value × Value)) : Prop where
  blk : w.heap[bb]? = some (.cells #[nv, bv] 93 (0, 0))
  nodes : w.ownsRow 0 91 2 nv NL.length (flat2 NV)
  born : w.ownsRow 0 3 1 bv BL.length (BL.map encN)
  lens : BL.length = NL.length
  lenV : NV.length = NL.length
  inner : ∀ (j : Nat) (x : Value × Value) (y : List Nat × List Nat), NV[j]? = some x → NL[j]? = some y → Nats w x.1 y.1 ∧ Nats w x.2 y.2 ∧ (y.1 ≠ [] → ∀ q, x.1.ownBlock = some q → ¬ BookM w bb q) ∧ (y.2 ≠ [] → ∀ q, x.2.ownBlock = some q → ¬ BookM w bb q)
  d1 : ∀ q, nv.ownBlock = some q → q ≠ bb
  d2 : ∀ q, bv.ownBlock = some q → q ≠ bb
  d3 : ∀ q, nv.ownBlock = some q → bv.ownBlock = some q → False
def Book (w : World) (bb : Nat) (NL : List (List Nat × List Nat)) (BL : List Nat) : Prop := ∃ nv bv NV, BookAt w bb NL BL nv bv NV

theorem BookM_iff {w : World} {bb k : Nat} {nv bv : Value} (h : w.heap[bb]? = some (.cells #[nv, bv] 93 (0, 0))) : BookM w bb k ↔ k = bb ∨ nv.ownBlock = some k ∨ bv.ownBlock = some k := by
  have c : ∀ i, w.cell? ⟨bb, i, none⟩ = (#[nv, bv] : Array Value)[i]? := fun i => by rw [cell_of_row w bb i _ _ _ h]
  unfold BookM
  constructor
  · rintro (e | ⟨i, v, hc, hv⟩)
    · exact .inl e
    · rw [c] at hc
      match i, hc with
      | 0, hc => simp at hc; subst hc; exact .inr (.inl hv)
      | 1, hc => simp at hc; subst hc; exact .inr (.inr hv)
      | i + 2, hc => simp at hc
  · rintro (e | e | e)
    · exact .inl e
    · exact .inr ⟨0, nv, by rw [c]; rfl, e⟩
    · exact .inr ⟨1, bv, by rw [c]; rfl, e⟩

theorem BookAt.fr {w w' : World} {bb : Nat} {NL : List (List Nat × List Nat)} {BL : List Nat} {nv bv : Value} {NV : List (Value × Value)} {M : Nat → Prop} (h : BookAt w bb NL BL nv bv NV) (hf : Fr M w w') (h1 : ∀ k, BookM w bb k → ¬ M k)
    (h2 : ∀ (j : Nat) (x : Value × Value) (y : List Nat × List Nat), NV[j]? = some x → NL[j]? = some y → (y.1 ≠ [] → ∀ q, x.1.ownBlock = some q → ¬ M q) ∧ (y.2 ≠ [] → ∀ q, x.2.ownBlock = some q → ¬ M q)) : BookAt w' bb NL BL nv bv NV := by
  have hb : w'.heap[bb]? = some (.cells #[nv, bv] 93 (0, 0)) := hf.heap h.blk (h1 bb (.inl rfl))
  have hM : ∀ k, BookM w' bb k ↔ BookM w bb k := fun k => by rw [BookM_iff h.blk, BookM_iff hb]
  refine ⟨hb, owns_fr h.nodes hf (fun b hb' => h1 b ((BookM_iff h.blk).2 (.inr (.inl hb')))), owns_fr h.born hf (fun b hb' => h1 b ((BookM_iff h.blk).2 (.inr (.inr hb')))), h.lens, h.lenV, ?_, h.d1, h.d2, h.d3⟩
  intro j x y hx hy
  obtain ⟨s1, s2, q1, q2⟩ := h.inner j x y hx hy
  obtain ⟨m1, m2⟩ := h2 j x y hx hy
  exact ⟨s1.fr hf m1, s2.fr hf m2, fun hne q hq => by rw [hM]; exact q1 hne q hq, fun hne q hq => by rw [hM]; exact q2 hne q hq⟩
theorem BookAt.fr0 {w w' : World} {bb : Nat} {NL : List (List Nat × List Nat)} {BL : List Nat} {nv bv : Value} {NV : List (Value × Value)} (h : BookAt w bb NL BL nv bv NV) (hf : Fr NoM w w') : BookAt w' bb NL BL nv bv NV :=
  h.fr hf (fun _ _ q => q) (fun _ _ _ _ _ => ⟨fun _ _ _ q => q, fun _ _ _ q => q⟩)
theorem Book.fr0 {w w' : World} {bb : Nat} {NL : List (List Nat × List Nat)} {BL : List Nat} (h : Book w bb NL BL) (hf : Fr NoM w w') : Book w' bb NL BL := by
  obtain ⟨nv, bv, NV, h⟩ := h
  exact ⟨nv, bv, NV, h.fr0 hf⟩
theorem BookM_fr0 {w w' : World} {bb k : Nat} {NL : List (List Nat × List Nat)} {BL : List Nat} (h : Book w bb NL BL) (hf : Fr NoM w w') : BookM w' bb k ↔ BookM w bb k := by
  obtain ⟨nv, bv, NV, h⟩ := h
  rw [BookM_iff h.blk, BookM_iff (h.fr0 hf).blk]

/-- A book's places as a slice of nodes. -/
theorem flat2_get (NV : List (Value × Value)) (j : Nat) (x : Value × Value) (h : NV[j]? = some x) : (flat2 NV)[j * 2]? = some x.1 ∧ (flat2 NV)[j * 2 + 1]? = some x.2 := by
  induction NV generalizing j with
  | nil => cases h
  | cons y l ih =>
    cases j with
    | zero => simp at h; subst h; exact ⟨rfl, rfl⟩
    | succ j =>
      have := ih j (by simpa using h)
      simp only [flat2, List.flatMap_cons] at this ⊢
      rw [show (j + 1) * 2 = j * 2 + 1 + 1 from by omega]
      exact this
theorem flat2_length (NV : List (Value × Value)) : (flat2 NV).length = NV.length * 2 := by
  induction NV with
  | nil => rfl
  | cons y l ih => simp only [flat2, List.flatMap_cons, List.length_append, List.length_cons, List.length_nil] at ih ⊢; omega

theorem BookAt.nodeL {w : World} {bb : Nat} {NL : List (List Nat × List Nat)} {BL : List Nat} {nv bv : Value} {NV : List (Value × Value)} (h : BookAt w bb NL BL nv bv NV) : NodeL AnyB encN w nv NL := by
  rcases h.nodes.2 with ⟨rfl, h0⟩ | ⟨g, cap, cur, rfl, _, hg, hnc, hcm, hs, ht⟩
  · have : NL = [] := List.eq_nil_of_length_eq_zero h0
    subst this
    exact ⟨none, 0, rfl, Nat.le_refl _, by decide, by simp⟩
  · refine ⟨_, cap, rfl, hnc, by simpa [maxLen] using hcm, fun j y hy => ?_⟩
    have hj : j < NL.length := (List.getElem?_eq_some_iff.1 hy).1
    obtain ⟨x, hx⟩ : ∃ x, NV[j]? = some x := ⟨NV[j]'(by rw [h.lenV]; exact hj), List.getElem?_eq_getElem _⟩
    obtain ⟨s1, s2, _, _⟩ := h.inner j x y hx hy
    obtain ⟨f1, f2⟩ := flat2_get NV j x hx
    have key : ∀ i u, i < NL.length * 2 → (flat2 NV)[i]? = some u → w.cell? ⟨g, 0 + i, none⟩ = some u := fun i u hi hu => by
      rw [Nat.zero_add, cell_of_row w g i cur _ _ hg]
      rw [← ht, List.getElem?_take, if_pos hi] at hu
      simpa using hu
    exact ⟨g, 0, x.1, x.2, rfl, trivial, key _ _ (by omega) f1, by rw [Nat.add_assoc]; exact key _ _ (by omega) f2, s1, s2, fun _ _ _ => trivial, fun _ _ _ => trivial⟩

theorem Fr.set (w : World) (a : Addr) (u : Value) : Fr (fun k => k = a.block) w (w.setCell a u) := (Fr.refl _ _).setCell a u (fun _ => rfl)
theorem heap_set {w : World} {bb i : Nat} {cur : Array Value} {e : TypeId} (h : w.heap[bb]? = some (.cells cur e (0, 0))) (u : Value) : (w.setCell ⟨bb, i, none⟩ u).heap[bb]? = some (.cells (cur.setIfInBounds i u) e (0, 0)) := by
  simp [World.setCell, Array.getElem?_modify, h]
theorem owns_lt {w : World} {base : Nat} {e : TypeId} {size : Nat} {v : Value} {n : Nat} {xs : List Value} (h : w.ownsRow base e size v n xs) {b : Nat} (hb : v.ownBlock = some b) : b < w.heap.size := (h.lt b hb).2

theorem book_push {wq w1 w2 : World} {bb : Nat} {NL : List (List Nat × List Nat)} {BL : List Nat} {nv bv v1 v2 x1 x2 : Value} {NV : List (Value × Value)} {l r : List Nat} {bn : Nat} (hB : BookAt wq bb NL BL nv bv NV)
    (h1 : w1.ownsRow 0 91 2 v1 (NL.length + 1) (flat2 NV ++ [x1, x2])) (f1 : Fr (Own1 nv) wq w1) (q1 : v1.ownBlock = nv.ownBlock ∨ ∃ b, v1.ownBlock = some b ∧ wq.heap.size ≤ b)
    (h2 : w2.ownsRow 0 3 1 v2 (BL.length + 1) (BL.map encN ++ [encN bn])) (f2 : Fr (Own1 bv) (w1.setCell ⟨bb, 0, none⟩ v1) w2) (q2 : v2.ownBlock = bv.ownBlock ∨ ∃ b, v2.ownBlock = some b ∧ w1.heap.size ≤ b)
    (s1 : Nats wq x1 l) (s2 : Nats wq x2 r) (n1 : l ≠ [] → ∀ b, x1.ownBlock = some b → ¬ BookM wq bb b) (n2 : r ≠ [] → ∀ b, x2.ownBlock = some b → ¬ BookM wq bb b) :
    BookAt (w2.setCell ⟨bb, 1, none⟩ v2) bb (NL ++ [(l, r)]) (BL ++ [bn]) v1 v2 (NV ++ [(x1, x2)]) ∧ Fr (BookM wq bb) wq (w2.setCell ⟨bb, 1, none⟩ v2) ∧ ∀ k, BookM (w2.setCell ⟨bb, 1, none⟩ v2) bb k → BookM wq bb k ∨ wq.heap.size ≤ k := by
  have hbb : bb < wq.heap.size := (Array.getElem?_eq_some_iff.1 hB.blk).1
  have hnl : ∀ q, nv.ownBlock = some q → q < wq.heap.size := fun q hq => owns_lt hB.nodes hq
  have hbl : ∀ q, bv.ownBlock = some q → q < wq.heap.size := fun q hq => owns_lt hB.born hq
  have sz1 : wq.heap.size ≤ w1.heap.size := f1.size
  -- the book's own block
  have b1 : w1.heap[bb]? = some (.cells #[nv, bv] 93 (0, 0)) := f1.heap hB.blk (fun h => hB.d1 bb h rfl)
  have b1' : (w1.setCell ⟨bb, 0, none⟩ v1).heap[bb]? = some (.cells #[v1, bv] 93 (0, 0)) := by rw [heap_set b1]; rfl
  have b2 : w2.heap[bb]? = some (.cells #[v1, bv] 93 (0, 0)) := f2.heap b1' (fun h => hB.d2 bb h rfl)
  have b3 : (w2.setCell ⟨bb, 1, none⟩ v2).heap[bb]? = some (.cells #[v1, v2] 93 (0, 0)) := by rw [heap_set b2]; rfl
  -- where the new rows lie
  have e1 : ∀ q, v1.ownBlock = some q → q ≠ bb := by
    intro q hq
    rcases q1 with e | ⟨b, hb, hle⟩
    · exact hB.d1 q (by rw [← e]; exact hq)
    · rw [hb] at hq; cases hq; omega
  have e1b : ∀ q, v1.ownBlock = some q → bv.ownBlock = some q → False := by
    intro q hq hq2
    rcases q1 with e | ⟨b, hb, hle⟩
    · exact hB.d3 q (by rw [← e]; exact hq) hq2
    · rw [hb] at hq; cases hq; have := hbl _ hq2; omega
  have e2 : ∀ q, v2.ownBlock = some q → q ≠ bb := by
    intro q hq
    rcases q2 with e | ⟨b, hb, hle⟩
    · exact hB.d2 q (by rw [← e]; exact hq)
    · rw [hb] at hq; cases hq; omega
  have e12 : ∀ q, v1.ownBlock = some q → v2.ownBlock = some q → False := by
    intro q hq hq2
    rcases q2 with e | ⟨b, hb, hle⟩
    · exact e1b q hq (by rw [← e]; exact hq2)
    · rw [hb] at hq2; cases hq2; have := owns_lt h1 hq; omega
  have hM3 : ∀ k, BookM (w2.setCell ⟨bb, 1, none⟩ v2) bb k ↔ k = bb ∨ v1.ownBlock = some k ∨ v2.ownBlock = some k := fun k => BookM_iff b3
  have hMq : ∀ k, BookM wq bb k ↔ k = bb ∨ nv.ownBlock = some k ∨ bv.ownBlock = some k := fun k => BookM_iff hB.blk
  have hnew : ∀ k, BookM (w2.setCell ⟨bb, 1, none⟩ v2) bb k → BookM wq bb k ∨ wq.heap.size ≤ k := by
    intro k hk
    rcases (hM3 k).1 hk with h | h | h
    · exact .inl ((hMq k).2 (.inl h))
    · rcases q1 with e | ⟨b, hb, hle⟩
      · exact .inl ((hMq k).2 (.inr (.inl (by rw [← e]; exact h))))
      · rw [hb] at h; cases h; exact .inr hle
    · rcases q2 with e | ⟨b, hb, hle⟩
      · exact .inl ((hMq k).2 (.inr (.inr (by rw [← e]; exact h))))
      · rw [hb] at h; cases h; exact .inr (by omega)
  have ff : Fr (BookM wq bb) wq (w2.setCell ⟨bb, 1, none⟩ v2) := by
    refine (((f1.mono fun k _ h => (hMq k).2 (.inr (.inl h))).trans (Fr.set w1 ⟨bb, 0, none⟩ v1) fun k _ h => (hMq k).2 (.inl h)).trans f2 fun k _ h => (hMq k).2 (.inr (.inr h))).trans (Fr.set w2 ⟨bb, 1, none⟩ v2) fun k _ h => (hMq k).2 (.inl h)
  -- what a kept row needs
  have keep : ∀ {v : Value} {L : List Nat}, Nats wq v L → (L ≠ [] → ∀ b, v.ownBlock = some b → ¬ BookM wq bb b) → Nats (w2.setCell ⟨bb, 1, none⟩ v2) v L ∧ (L ≠ [] → ∀ b, v.ownBlock = some b → ¬ BookM (w2.setCell ⟨bb, 1, none⟩ v2) bb b) := by
    intro v L hs hn
    refine ⟨hs.fr ff hn, fun hne b hb hk => ?_⟩
    obtain ⟨b', hb', hlt⟩ := hs.block hne
    rw [hb] at hb'; cases hb'
    rcases hnew b hk with h | h
    · exact hn hne b hb h
    · omega
  refine ⟨⟨b3, ?_, ?_, by simp [hB.lens], by simp [hB.lenV], ?_, e1, e2, e12⟩, ff, hnew⟩
  · have a1 := owns_fr h1 (Fr.set w1 ⟨bb, 0, none⟩ v1) (fun b hb => e1 b hb)
    have a2 := owns_fr a1 f2 (fun b hb h => e1b b hb h)
    have a3 := owns_fr a2 (Fr.set w2 ⟨bb, 1, none⟩ v2) (fun b hb => e1 b hb)
    have : flat2 (NV ++ [(x1, x2)]) = flat2 NV ++ [x1, x2] := by simp [flat2]
    rw [this, List.length_append]
    exact a3
  · have a3 := owns_fr h2 (Fr.set w2 ⟨bb, 1, none⟩ v2) (fun b hb => e2 b hb)
    rw [List.length_append, List.map_append]
    exact a3
  · intro j x y hx hy
    by_cases hj : j < NL.length
    · rw [List.getElem?_append_left (by rw [hB.lenV]; exact hj)] at hx
      rw [List.getElem?_append_left hj] at hy
      obtain ⟨t1, t2, m1, m2⟩ := hB.inner j x y hx hy
      exact ⟨(keep t1 m1).1, (keep t2 m2).1, (keep t1 m1).2, (keep t2 m2).2⟩
    · rw [List.getElem?_append_right (by rw [hB.lenV]; omega)] at hx
      rw [List.getElem?_append_right (by omega)] at hy
      rw [hB.lenV] at hx
      cases hd : j - NL.length with
      | zero =>
        rw [hd] at hx hy
        simp at hx hy
        subst hx hy
        exact ⟨(keep s1 n1).1, (keep s2 n2).1, (keep s1 n1).2, (keep s2 n2).2⟩
      | succ d => rw [hd] at hx; simp at hx

/-- A book all of whose blocks are among S. -/
def InS (S : Nat → Prop) (NV : List (Value × Value)) (NL : List (List Nat × List Nat)) : Prop :=
  ∀ (j : Nat) (x : Value × Value) (y : List Nat × List Nat), NV[j]? = some x → NL[j]? = some y → (y.1 ≠ [] → ∀ q, x.1.ownBlock = some q → S q) ∧ (y.2 ≠ [] → ∀ q, x.2.ownBlock = some q → S q)
def BookS (S : Nat → Prop) (w : World) (bb : Nat) (NL : List (List Nat × List Nat)) (BL : List Nat) : Prop :=
  ∃ nv bv NV, BookAt w bb NL BL nv bv NV ∧ (∀ k, BookM w bb k → S k) ∧ InS S NV NL
theorem BookS.book {S : Nat → Prop} {w : World} {bb : Nat} {NL : List (List Nat × List Nat)} {BL : List Nat} (h : BookS S w bb NL BL) : Book w bb NL BL := by
  obtain ⟨nv, bv, NV, h, _⟩ := h; exact ⟨nv, bv, NV, h⟩
theorem BookS.fr {S M : Nat → Prop} {w w' : World} {bb : Nat} {NL : List (List Nat × List Nat)} {BL : List Nat} (h : BookS S w bb NL BL) (hf : Fr M w w') (hm : ∀ k, S k → ¬ M k) : BookS S w' bb NL BL := by
  obtain ⟨nv, bv, NV, h, h1, h2⟩ := h
  have h' := h.fr hf (fun k hk => hm k (h1 k hk)) (fun j x y hx hy => ⟨fun hne q hq => hm q ((h2 j x y hx hy).1 hne q hq), fun hne q hq => hm q ((h2 j x y hx hy).2 hne q hq)⟩)
  refine ⟨nv, bv, NV, h', fun k hk => h1 k ?_, h2⟩
  rw [BookM_iff h.blk]
  exact (BookM_iff h'.blk).1 hk
theorem BookS.fr0 {S : Nat → Prop} {w w' : World} {bb : Nat} {NL : List (List Nat × List Nat)} {BL : List Nat} (h : BookS S w bb NL BL) (hf : Fr NoM w w') : BookS S w' bb NL BL := h.fr hf fun _ _ q => q
theorem BookS.mono {S S' : Nat → Prop} {w : World} {bb : Nat} {NL : List (List Nat × List Nat)} {BL : List Nat} (h : BookS S w bb NL BL) (hs : ∀ k, S k → S' k) : BookS S' w bb NL BL := by
  obtain ⟨nv, bv, NV, h, h1, h2⟩ := h
  exact ⟨nv, bv, NV, h, fun k hk => hs k (h1 k hk), fun j x y hx hy => ⟨fun hne q hq => hs q ((h2 j x y hx hy).1 hne q hq), fun hne q hq => hs q ((h2 j x y hx hy).2 hne q hq)⟩⟩
theorem InS.push {S : Nat → Prop} {NV : List (Value × Value)} {NL : List (List Nat × List Nat)} (h : InS S NV NL) (hl : NV.length = NL.length) (x : Value × Value) (y : List Nat × List Nat) (h1 : y.1 ≠ [] → ∀ q, x.1.ownBlock = some q → S q)
    (h2 : y.2 ≠ [] → ∀ q, x.2.ownBlock = some q → S q) : InS S (NV ++ [x]) (NL ++ [y]) := by
  intro j a b ha hb
  by_cases hj : j < NL.length
  · rw [List.getElem?_append_left (by omega)] at ha
    rw [List.getElem?_append_left hj] at hb
    exact h j a b ha hb
  · rw [List.getElem?_append_right (by omega), hl] at ha
    rw [List.getElem?_append_right (by omega)] at hb
    cases hd : j - NL.length with
    | zero => rw [hd] at ha hb; simp at ha hb; subst ha hb; exact ⟨h1, h2⟩
    | succ d => rw [hd] at ha; simp at ha

theorem BookS.cut {S : Nat → Prop} {w : World} {bb : Nat} {NL : List (List Nat × List Nat)} {BL : List Nat} (h : BookS S w bb NL BL) : BookS (fun k => S k ∧ k < w.heap.size) w bb NL BL := by
  obtain ⟨nv, bv, NV, h, h1, h2⟩ := h
  refine ⟨nv, bv, NV, h, fun k hk => ⟨h1 k hk, ?_⟩, fun j x y hx hy => ?_⟩
  · rcases (BookM_iff h.blk).1 hk with e | e | e
    · subst e; exact (Array.getElem?_eq_some_iff.1 h.blk).1
    · exact owns_lt h.nodes e
    · exact owns_lt h.born e
  · obtain ⟨s1, s2, _, _⟩ := h.inner j x y hx hy
    obtain ⟨t1, t2⟩ := h2 j x y hx hy
    refine ⟨fun hne q hq => ⟨t1 hne q hq, ?_⟩, fun hne q hq => ⟨t2 hne q hq, ?_⟩⟩
    · obtain ⟨b, hb, hl⟩ := s1.block hne; rw [hq] at hb; cases hb; exact hl
    · obtain ⟨b, hb, hl⟩ := s2.block hne; rw [hq] at hb; cases hb; exact hl
theorem BookS.m {S : Nat → Prop} {w : World} {bb : Nat} {NL : List (List Nat × List Nat)} {BL : List Nat} (h : BookS S w bb NL BL) : ∀ k, BookM w bb k → S k := by
  obtain ⟨_, _, _, _, h1, _⟩ := h; exact h1
end Go.Proofs.YtkbljlbfkgoalaaGreatDoor
