/- What the laws' marks do to a list of nodes, in plain words. -/
import Derived.Test.YtkbljlbfkgoalaaGreatDoorOrderKit
namespace Go.Proofs.YtkbljlbfkgoalaaGreatDoor
set_option linter.unusedVariables false
set_option linter.unusedSimpArgs false
open Go.RowKit

def cntF (FN : List PL) : Nat := (FN.map fun y => y.1.length + y.2.length).sum
def markF : Nat → List PL → List PL
  | _, [] => []
  | k, y :: l => (List.range' k y.1.length, List.range' (k + y.1.length) y.2.length) :: markF (k + (y.1.length + y.2.length)) l
theorem cntF_nil : cntF [] = 0 := rfl
theorem cntF_cons (y : PL) (l : List PL) : cntF (y :: l) = y.1.length + y.2.length + cntF l := by simp [cntF]
theorem cntF_append (A B : List PL) : cntF (A ++ B) = cntF A + cntF B := by simp [cntF]
theorem markF_length (k : Nat) (Fs : List PL) : (markF k Fs).length = Fs.length := by
  induction Fs generalizing k with
  | nil => rfl
  | cons y l ih => simp [markF, ih]
theorem markF_append (k : Nat) (A B : List PL) : markF k (A ++ B) = markF k A ++ markF (k + cntF A) B := by
  induction A generalizing k with
  | nil => simp [markF, cntF_nil]
  | cons y l ih =>
    rw [List.cons_append, markF, markF, ih, cntF_cons, List.cons_append]
    rw [show k + (y.1.length + y.2.length) + cntF l = k + (y.1.length + y.2.length + cntF l) from by omega]
theorem cntF_take_succ {Fs : List PL} {i : Nat} {y : PL} (h : Fs[i]? = some y) : cntF (Fs.take (i + 1)) = cntF (Fs.take i) + (y.1.length + y.2.length) := by
  have hi := (List.getElem?_eq_some_iff.1 h).1
  have e : Fs[i] = y := (List.getElem?_eq_some_iff.1 h).2
  rw [List.take_succ_eq_append_getElem hi, cntF_append, e]
  simp [cntF]
theorem cntF_take_le (Fs : List PL) (i : Nat) : cntF (Fs.take i) ≤ cntF Fs := by
  have h := cntF_append (Fs.take i) (Fs.drop i)
  rw [List.take_append_drop] at h
  omega
theorem markF_take_succ {k : Nat} {Fs : List PL} {i : Nat} {y : PL} (h : Fs[i]? = some y) : markF k (Fs.take (i + 1)) = markF k (Fs.take i) ++ [(List.range' (k + cntF (Fs.take i)) y.1.length, List.range' (k + cntF (Fs.take i) + y.1.length) y.2.length)] := by
  have hi := (List.getElem?_eq_some_iff.1 h).1
  have e : Fs[i] = y := (List.getElem?_eq_some_iff.1 h).2
  rw [List.take_succ_eq_append_getElem hi, markF_append, e]
  rfl
theorem markF_get {k : Nat} {Fs : List PL} {i : Nat} {y : PL} (h : Fs[i]? = some y) : (markF k Fs)[i]? = some (List.range' (k + cntF (Fs.take i)) y.1.length, List.range' (k + cntF (Fs.take i) + y.1.length) y.2.length) := by
  have hi := (List.getElem?_eq_some_iff.1 h).1
  have e := markF_append k (Fs.take (i + 1)) (Fs.drop (i + 1))
  rw [List.take_append_drop, markF_take_succ h, List.append_assoc] at e
  rw [e, List.getElem?_append_right (by rw [markF_length]; simp; omega), markF_length, List.length_take, Nat.min_eq_left (by omega), Nat.sub_self]
  rfl
/-- The list of nodes when the first i have been marked. -/
def midF (k i : Nat) (Fs : List PL) : List PL := markF k (Fs.take i) ++ Fs.drop i
theorem midF_zero (k : Nat) (Fs : List PL) : midF k 0 Fs = Fs := by simp [midF, markF]
theorem midF_all (k : Nat) (Fs : List PL) : midF k Fs.length Fs = markF k Fs := by simp [midF]
theorem midF_length (k i : Nat) (Fs : List PL) (h : i ≤ Fs.length) : (midF k i Fs).length = Fs.length := by simp [midF, markF_length]; omega
theorem midF_get {k i : Nat} {Fs : List PL} {y : PL} (h : Fs[i]? = some y) : (midF k i Fs)[i]? = some y := by
  have hi := (List.getElem?_eq_some_iff.1 h).1
  unfold midF
  rw [List.getElem?_append_right (by rw [markF_length]; simp; omega), markF_length, List.length_take, Nat.min_eq_left (by omega), Nat.sub_self, List.getElem?_drop]
  exact h
theorem midF_next {k i : Nat} {Fs : List PL} {y : PL} (h : Fs[i]? = some y) : ((midF k i Fs).set i (List.range' (k + cntF (Fs.take i)) y.1.length, y.2)).set i (List.range' (k + cntF (Fs.take i)) y.1.length, List.range' (k + cntF (Fs.take i) + y.1.length) y.2.length) = midF k (i + 1) Fs := by
  have hi := (List.getElem?_eq_some_iff.1 h).1
  rw [List.set_set]
  unfold midF
  have hl : (markF k (Fs.take i)).length = i := by rw [markF_length]; simp; omega
  rw [List.set_append_right _ _ (by omega), hl, Nat.sub_self, List.drop_eq_getElem_cons hi, List.set_cons_zero, markF_take_succ h]
  simp

theorem blocksOf_cons (x : Value × Value) (NV : List (Value × Value)) : blocksOf (x :: NV) = [x.1, x.2].filterMap Value.ownBlock ++ blocksOf NV := by
  simp only [blocksOf, flat2, List.flatMap_cons, List.filterMap_append]
theorem pair_mem1 {l r : Value} {q : Nat} (h : l.ownBlock = some q) : q ∈ [l, r].filterMap Value.ownBlock := List.mem_filterMap.2 ⟨l, by simp, h⟩
theorem pair_mem2 {l r : Value} {q : Nat} (h : r.ownBlock = some q) : q ∈ [l, r].filterMap Value.ownBlock := List.mem_filterMap.2 ⟨r, by simp, h⟩
theorem sep_same {NV : List (Value × Value)} (h : (blocksOf NV).Nodup) {i : Nat} {x : Value × Value} (hx : NV[i]? = some x) (q : Nat) (hq : x.1.ownBlock = some q) : x.2.ownBlock ≠ some q := by
  induction NV generalizing i with
  | nil => simp at hx
  | cons y l ih =>
    rw [blocksOf_cons, List.nodup_append] at h
    cases i with
    | zero =>
      have e : y = x := by simpa using hx
      subst e
      intro hq'
      have h1 := h.1
      simp [List.filterMap_cons, hq, hq'] at h1
    | succ i => exact ih h.2.1 (by simpa using hx)
theorem sep_other {NV : List (Value × Value)} (h : (blocksOf NV).Nodup) {i j : Nat} {x z : Value × Value} (hx : NV[i]? = some x) (hz : NV[j]? = some z) (hij : i ≠ j) (q : Nat) (hq : x.1.ownBlock = some q ∨ x.2.ownBlock = some q) : z.1.ownBlock ≠ some q ∧ z.2.ownBlock ≠ some q := by
  induction NV generalizing i j with
  | nil => simp at hx
  | cons y l ih =>
    rw [blocksOf_cons, List.nodup_append] at h
    have hm : ∀ (k : Nat) (u : Value × Value), l[k]? = some u → (u.1.ownBlock = some q ∨ u.2.ownBlock = some q) → q ∈ blocksOf l := fun k u hu hq => by
      rcases hq with hq | hq
      · exact (mem_blocks hu).1 q hq
      · exact (mem_blocks hu).2 q hq
    have hp : ∀ (u : Value × Value), (u.1.ownBlock = some q ∨ u.2.ownBlock = some q) → q ∈ [u.1, u.2].filterMap Value.ownBlock := fun u hq => by
      rcases hq with hq | hq
      · exact pair_mem1 hq
      · exact pair_mem2 hq
    cases i with
    | zero =>
      have e : y = x := by simpa using hx
      subst e
      cases j with
      | zero => exact absurd rfl hij
      | succ j =>
        have hz : l[j]? = some z := by simpa using hz
        refine ⟨fun e => h.2.2 q (hp _ hq) q (hm j z hz (.inl e)) rfl, fun e => h.2.2 q (hp _ hq) q (hm j z hz (.inr e)) rfl⟩
    | succ i =>
      have hx : l[i]? = some x := by simpa using hx
      cases j with
      | zero =>
        have e : y = z := by simpa using hz
        subst e
        refine ⟨fun e => h.2.2 q (hp _ (.inl e)) q (hm i x hx hq) rfl, fun e => h.2.2 q (hp _ (.inr e)) q (hm i x hx hq) rfl⟩
      | succ j => exact ih h.2.1 hx (by simpa using hz) (fun e => hij (by rw [e]))
/-- A row of a node that is written anew. -/
theorem NodesN.upd1 {D : Nat} {w w' : World} {v : Value} {FN : List PL} {NV : List (Value × Value)} (h : NodesN D w v FN NV) {i : Nat} {x : Value × Value} {y : PL} {L : List Nat} (hx : NV[i]? = some x) (hy : FN[i]? = some y) (hf : Fr (Own1 x.1) w w') (hL : Nats w' x.1 L) (hB : ∀ q, x.1.ownBlock = some q → RowB w' q) : NodesN D w' v (FN.set i (L, y.2)) NV := by
  have hvne : ∀ q, v.ownBlock = some q → ¬ Own1 x.1 q := fun q hq e => (h.blk q ((mem_blocks hx).1 q e)).2.2 hq
  refine ⟨owns_fr h.row hf hvne, by rw [List.length_set]; exact h.len, fun j z u hz hu => ?_, fun q hq => ⟨(h.blk q hq).1, Nat.lt_of_lt_of_le (h.blk q hq).2.1 hf.size, (h.blk q hq).2.2⟩, h.sep, fun q hq => ?_⟩
  · rw [List.getElem?_set] at hu
    by_cases e : i = j
    · subst e
      rw [if_pos rfl, if_pos (List.getElem?_eq_some_iff.1 hy).1] at hu
      cases hu
      rw [hx] at hz; cases hz
      exact ⟨hL, (h.nats i x y hx hy).2.fr hf (fun _ q hq e => sep_same h.sep hx q e hq)⟩
    · rw [if_neg e] at hu
      obtain ⟨s1, s2⟩ := h.nats j z u hz hu
      exact ⟨s1.fr hf (fun _ q hq e' => (sep_other h.sep hx hz e q (.inl e')).1 hq), s2.fr hf (fun _ q hq e' => (sep_other h.sep hx hz e q (.inl e')).2 hq)⟩
  · by_cases e : x.1.ownBlock = some q
    · exact hB q e
    · exact (h.thaw q hq).fr hf e
theorem NodesN.upd2 {D : Nat} {w w' : World} {v : Value} {FN : List PL} {NV : List (Value × Value)} (h : NodesN D w v FN NV) {i : Nat} {x : Value × Value} {y : PL} {L : List Nat} (hx : NV[i]? = some x) (hy : FN[i]? = some y) (hf : Fr (Own1 x.2) w w') (hL : Nats w' x.2 L) (hB : ∀ q, x.2.ownBlock = some q → RowB w' q) : NodesN D w' v (FN.set i (y.1, L)) NV := by
  have hvne : ∀ q, v.ownBlock = some q → ¬ Own1 x.2 q := fun q hq e => (h.blk q ((mem_blocks hx).2 q e)).2.2 hq
  refine ⟨owns_fr h.row hf hvne, by rw [List.length_set]; exact h.len, fun j z u hz hu => ?_, fun q hq => ⟨(h.blk q hq).1, Nat.lt_of_lt_of_le (h.blk q hq).2.1 hf.size, (h.blk q hq).2.2⟩, h.sep, fun q hq => ?_⟩
  · rw [List.getElem?_set] at hu
    by_cases e : i = j
    · subst e
      rw [if_pos rfl, if_pos (List.getElem?_eq_some_iff.1 hy).1] at hu
      cases hu
      rw [hx] at hz; cases hz
      exact ⟨(h.nats i x y hx hy).1.fr hf (fun _ q hq e => sep_same h.sep hx q hq e), hL⟩
    · rw [if_neg e] at hu
      obtain ⟨s1, s2⟩ := h.nats j z u hz hu
      exact ⟨s1.fr hf (fun _ q hq e' => (sep_other h.sep hx hz e q (.inr e')).1 hq), s2.fr hf (fun _ q hq e' => (sep_other h.sep hx hz e q (.inr e')).2 hq)⟩
  · by_cases e : x.2.ownBlock = some q
    · exact hB q e
    · exact (h.thaw q hq).fr hf e
/-- A place of a row that is written. -/
theorem nats_set {w : World} {L : List Nat} {b off n c i : Nat} (x : Nat) (h : Nats w (.slice (some ⟨b, off, none⟩) n c) L) (hb : RowB w b) (hi : i < L.length) :
    (∃ u, w.cell? ⟨b, off + i, none⟩ = some u) ∧ w.frozen? ⟨b, off + i, none⟩ = false ∧ Nats (w.setCell ⟨b, off + i, none⟩ (encN x)) (.slice (some ⟨b, off, none⟩) n c) (L.set i x) ∧ RowB (w.setCell ⟨b, off + i, none⟩ (encN x)) b := by
  obtain ⟨cur, hb⟩ := hb
  obtain ⟨a, c', e, h1, h2, h3⟩ := h
  cases e
  obtain ⟨b', off', e, c1⟩ := h3 i L[i] (List.getElem?_eq_getElem hi)
  cases e
  have hs := heap_set (i := off + i) hb (encN x)
  have hsz : off + i < cur.size := by
    rw [cell_of_row w b (off + i) cur _ _ hb] at c1
    exact (Array.getElem?_eq_some_iff.1 c1).1
  refine ⟨⟨_, c1⟩, by simp [World.frozen?, hb], ⟨some ⟨b, off, none⟩, c, by rw [List.length_set], by rw [List.length_set]; exact h1, h2, fun j y hy => ⟨b, off, rfl, ?_⟩⟩, ⟨_, hs⟩⟩
  rw [cell_of_row _ b (off + j) _ _ _ hs]
  rw [List.getElem?_set] at hy
  by_cases e : i = j
  · subst e
    rw [if_pos rfl, if_pos hi] at hy
    cases hy
    rw [Array.getElem?_setIfInBounds_self_of_lt hsz]
  · rw [if_neg e] at hy
    obtain ⟨b2, off2, e2, c2⟩ := h3 j y hy
    cases e2
    rw [cell_of_row w b (off + j) cur _ _ hb] at c2
    rw [Array.getElem?_setIfInBounds_ne (by omega)]
    exact c2
end Go.Proofs.YtkbljlbfkgoalaaGreatDoor
