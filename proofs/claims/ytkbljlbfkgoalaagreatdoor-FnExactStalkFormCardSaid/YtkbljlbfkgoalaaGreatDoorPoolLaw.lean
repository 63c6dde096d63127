/- A pool in order, and what a pool of a stalk's games holds. -/
import Derived.Test.YtkbljlbfkgoalaaGreatDoorMakeLaw
import Derived.Test.YtkbljlbfkgoalaaGreatDoorOrderRun
namespace Go.Proofs.YtkbljlbfkgoalaaGreatDoor
set_option linter.unusedVariables false
set_option linter.unusedSimpArgs false
open Go.RowKit

/-- A pool's lists: options below, each list rising, each node once, births as they should be. -/
structure PoolOK (V : List PL) (BV : List Nat) : Prop where
  len : BV.length = V.length
  opts : ∀ (j : Nat) (y : PL), V[j]? = some y → (∀ i ∈ y.1, i < j) ∧ ∀ i ∈ y.2, i < j
  up : ∀ (j : Nat) (y : PL), V[j]? = some y → y.1.Pairwise (· < ·) ∧ y.2.Pairwise (· < ·)
  nodup : V.Nodup
  born : ∀ (j : Nat) (y : PL), V[j]? = some y → BV.getD j 0 = bornL BV (bornL BV 0 y.1) y.2
theorem PoolOK.nil : PoolOK [] [] := ⟨rfl, by simp, by simp, by simp, by simp⟩
theorem bornL_append (BV t : List Nat) (m : Nat) (L : List Nat) (h : ∀ x ∈ L, x < BV.length) : bornL (BV ++ t) m L = bornL BV m L := by
  unfold bornL
  induction L generalizing m with
  | nil => rfl
  | cons x l ih =>
    have hx := h x List.mem_cons_self
    have e : (BV ++ t).getD x 0 = BV.getD x 0 := by rw [List.getD_eq_getElem?_getD, List.getD_eq_getElem?_getD, List.getElem?_append_left hx]
    rw [List.foldl_cons, List.foldl_cons, e, ih _ (fun y hy => h y (List.mem_cons_of_mem _ hy))]
theorem get_snoc {α : Type} {V : List α} {x y : α} {j : Nat} (h : (V ++ [x])[j]? = some y) : (j < V.length ∧ V[j]? = some y) ∨ (j = V.length ∧ y = x) := by
  by_cases hj : j < V.length
  · rw [List.getElem?_append_left hj] at h; exact .inl ⟨hj, h⟩
  · have hl := (List.getElem?_eq_some_iff.1 h).1
    have hje : j = V.length := by simp at hl; omega
    subst hje
    exact .inr ⟨rfl, by simpa using h.symm⟩
theorem poolPut_ok {V : List PL} {BV : List Nat} (h : PoolOK V BV) {L R : List Nat} (hL : ∀ x ∈ L, x < V.length) (hR : ∀ x ∈ R, x < V.length) :
    PoolOK (poolPut V BV L R).1 (poolPut V BV L R).2.1 ∧ (poolPut V BV L R).1[(poolPut V BV L R).2.2]? = some (sortN L, sortN R) := by
  unfold poolPut
  split
  · rename_i hm
    refine ⟨h, ?_⟩
    have hi := List.idxOf_lt_length_of_mem hm
    show V[V.idxOf (sortN L, sortN R)]? = _
    rw [List.getElem?_eq_getElem hi, List.getElem_idxOf]
  · rename_i hm
    have h1 : ∀ x ∈ sortN L, x < V.length := fun x hx => hL x ((sortN_mem L x).1 hx)
    have h2 : ∀ x ∈ sortN R, x < V.length := fun x hx => hR x ((sortN_mem R x).1 hx)
    refine ⟨⟨by simp [h.len], fun j y hy => ?_, fun j y hy => ?_, ?_, fun j y hy => ?_⟩, by simp⟩
    · rcases get_snoc hy with ⟨_, hy⟩ | ⟨rfl, rfl⟩
      · exact h.opts j y hy
      · exact ⟨h1, h2⟩
    · rcases get_snoc hy with ⟨_, hy⟩ | ⟨rfl, rfl⟩
      · exact h.up j y hy
      · exact ⟨sortN_up L, sortN_up R⟩
    · rw [List.nodup_append]
      refine ⟨h.nodup, by simp, fun a ha b hb e => ?_⟩
      rw [List.mem_singleton] at hb
      subst e; subst hb
      exact hm ha
    · rcases get_snoc hy with ⟨hj, hy⟩ | ⟨rfl, rfl⟩
      · obtain ⟨o1, o2⟩ := h.opts j y hy
        rw [bornL_append _ _ _ _ (fun x hx => by have := o2 x hx; rw [h.len]; omega), bornL_append _ _ _ _ (fun x hx => by have := o1 x hx; rw [h.len]; omega), ← h.born j y hy,
          List.getD_eq_getElem?_getD, List.getD_eq_getElem?_getD, List.getElem?_append_left (by rw [h.len]; exact hj)]
      · rw [bornL_append _ _ _ _ (fun x hx => by rw [h.len]; exact h2 x hx), bornL_append _ _ _ _ (fun x hx => by rw [h.len]; exact h1 x hx), ← h.len]
        simp [List.getD_eq_getElem?_getD]
theorem node_at {V : List PL} {x : Nat} (h : x < V.length) : V[x]? = some (nodeV V x) := by
  unfold nodeV
  rw [List.getD_eq_getElem?_getD, List.getElem?_eq_getElem h]; rfl
theorem PoolOK.reach {V : List PL} {BV R : List Nat} (h : PoolOK V BV) (hR : ∀ r ∈ R, r < V.length) {x : Nat} (hx : ReachV V R x) : x < V.length := by
  induction hx with
  | root hr => exact hR _ hr
  | @left x y _ hy ih => have := (h.opts x _ (node_at ih)).1 y hy; omega
  | @right x y _ hy ih => have := (h.opts x _ (node_at ih)).2 y hy; omega
theorem PoolOK.lower {V : List PL} {BV : List Nat} (h : PoolOK V BV) {x : Nat} (hx : x < V.length) : (∀ y ∈ (nodeV V x).1, BV.getD y 0 < BV.getD x 0) ∧ ∀ y ∈ (nodeV V x).2, BV.getD y 0 < BV.getD x 0 := by
  rw [h.born x _ (node_at hx)]
  obtain ⟨a1, a2⟩ := bornL_ge BV 0 (nodeV V x).1
  obtain ⟨b1, b2⟩ := bornL_ge BV (bornL BV 0 (nodeV V x).1) (nodeV V x).2
  exact ⟨fun y hy => by have := a2 y hy; omega, fun y hy => by have := b2 y hy; omega⟩
theorem PoolOK.qok {V : List PL} {BV R Q : List Nat} (h : PoolOK V BV) (hR : ∀ r ∈ R, r < V.length) (hn : Q.Nodup) (hm : ∀ x, x ∈ Q ↔ ReachV V R x) (hs : Q.Pairwise fun a b => BV.getD a 0 ≤ BV.getD b 0) : QOk V BV Q := by
  have hl : ∀ x ∈ Q, x < V.length := fun x hx => h.reach hR ((hm x).1 hx)
  refine ⟨hn, hs, fun x hx y hy => ⟨(hm y).2 (.left ((hm x).1 hx) hy), (h.lower (hl x hx)).1 y hy⟩, fun x hx y hy => ⟨(hm y).2 (.right ((hm x).1 hx) hy), (h.lower (hl x hx)).2 y hy⟩, fun x hx => h.up x _ (node_at (hl x hx)), fun x hx y hy e => ?_⟩
  have e1 := node_at (hl x hx)
  have e2 := node_at (hl y hy)
  rw [e] at e1
  exact (List.getElem?_inj (hl x hx) h.nodup).1 (e1.trans e2.symm)
theorem PoolOK.lens {V : List PL} {BV : List Nat} (h : PoolOK V BV) {n : Nat} (hn : V.length < n) : ∀ y ∈ V, y.1.length < n ∧ y.2.length < n := by
  intro y hy
  obtain ⟨j, hj, rfl⟩ := List.getElem_of_mem hy
  have e := List.getElem?_eq_getElem hj
  obtain ⟨o1, o2⟩ := h.opts j _ e
  obtain ⟨u1, u2⟩ := h.up j _ e
  have := up_len u1 o1
  have := up_len u2 o2
  omega
theorem PoolOK.opts' {V : List PL} {BV : List Nat} (h : PoolOK V BV) (j : Nat) (y : PL) (hy : V[j]? = some y) : (∀ i ∈ y.1, i < V.length) ∧ ∀ i ∈ y.2, i < V.length := by
  have hj := (List.getElem?_eq_some_iff.1 hy).1
  obtain ⟨o1, o2⟩ := h.opts j y hy
  exact ⟨fun i hi => by have := o1 i hi; omega, fun i hi => by have := o2 i hi; omega⟩

-- the stalk's pool
theorem stN_notin (s : List Bool) (k : Nat) : stN s k ∉ stF s k := fun h => by
  obtain ⟨j, hj, e⟩ := List.mem_map.1 h
  have hj := List.mem_range.1 hj
  rcases stN_cov s k j hj with h | h
  · rw [← e] at h; have := (stN_lt s j).1 j h; omega
  · rw [← e] at h; have := (stN_lt s j).2 j h; omega
theorem poolPut_st (s : List Bool) (k : Nat) : poolPut (stF s k) (List.range k) (stN s k).1 (stN s k).2 = (stF s (k + 1), List.range (k + 1), k) := by
  obtain ⟨u1, u2⟩ := stN_up s k
  have hk := congrArg Prod.fst (putKey_st s k k (Nat.le_refl _))
  unfold putKey at hk
  unfold poolPut
  rw [sortN_id _ u1, sortN_id _ u2, if_neg (stN_notin s k)]
  have e : bornL (List.range k) (bornL (List.range k) 0 (stN s k).1) (stN s k).2 = k := hk
  rw [e, stF_length, stF_succ, List.range_succ]
theorem poolOK_st (s : List Bool) (n : Nat) : PoolOK (stF s n) (List.range n) := by
  induction n with
  | zero => exact PoolOK.nil
  | succ n ih =>
    obtain ⟨l1, l2⟩ := stN_lt s n
    have h := (poolPut_ok ih (L := (stN s n).1) (R := (stN s n).2) (fun x hx => by rw [stF_length]; exact l1 x hx) (fun x hx => by rw [stF_length]; exact l2 x hx)).1
    rw [poolPut_st] at h
    exact h
theorem idxOf_range {n x : Nat} (h : x < n) : (List.range n).idxOf x = x := by
  obtain ⟨h1, h2⟩ := idx_getD (Q := List.range n) (y := x) (List.mem_range.2 h)
  rw [range_getD, if_pos (by simpa using h1)] at h2
  exact h2
theorem rankL_id {L : List Nat} {n : Nat} (hu : L.Pairwise (· < ·)) (h : ∀ x ∈ L, x < n) : rankL (List.range n) L = L := by
  unfold rankL
  have e : L.map (fun x => (List.range n).idxOf x) = L := (List.map_congr_left fun x hx => idxOf_range (h x hx)).trans (List.map_id' L)
  rw [e, sortN_id _ hu]
theorem order_st (s : List Bool) (n : Nat) {Q : List Nat} {FN : List PL} (O : OrderIs (stF s (n + 1)) (List.range (n + 1)) [n] Q FN) : FN = stF s (n + 1) := by
  have hm : ∀ x, x ∈ Q ↔ x < n + 1 := fun x => by
    rw [O.mem]
    constructor
    · intro h
      induction h with
      | root h => simp at h; omega
      | @left x y _ hy ih => rw [stF_getD s _ x ih] at hy; have := (stN_lt s x).1 y hy; omega
      | @right x y _ hy ih => rw [stF_getD s _ x ih] at hy; have := (stN_lt s x).2 y hy; omega
    · intro h
      by_cases e : x = n
      · subst e; exact .root (by simp)
      · have hr : ReachV (stF s (n + 1)) [n] n := .root (by simp)
        rcases stN_cov s n x (by omega) with h | h
        · exact .left hr (by rw [stF_getD s _ n (by omega)]; exact h)
        · exact .right hr (by rw [stF_getD s _ n (by omega)]; exact h)
  have hQ : Q = List.range (n + 1) := by
    refine up_ext ?_ List.pairwise_lt_range (fun x => by rw [hm, List.mem_range])
    rw [List.pairwise_iff_getElem]
    intro i j hi hj hij
    have hl : FN.length = Q.length := by rw [O.nodes]; simp
    have h := O.up i j _ _ hij (List.getElem?_eq_getElem (by rw [hl]; exact hi)) (List.getElem?_eq_getElem (by rw [hl]; exact hj))
    have e1 : Q.getD i 0 = Q[i] := by rw [List.getD_eq_getElem?_getD, List.getElem?_eq_getElem hi]; rfl
    have e2 : Q.getD j 0 = Q[j] := by rw [List.getD_eq_getElem?_getD, List.getElem?_eq_getElem hj]; rfl
    have b1 := (hm Q[i]).1 (List.getElem_mem _)
    have b2 := (hm Q[j]).1 (List.getElem_mem _)
    have hne : Q[i] ≠ Q[j] := fun e => by
      have := nodup_getD O.nodup hi hj (by rw [e1, e2, e])
      omega
    rw [e1, e2, range_getD, range_getD, if_pos b1, if_pos b2] at h
    unfold klt at h
    omega
  rw [O.nodes, hQ]
  show (List.range (n + 1)).map _ = (List.range (n + 1)).map (stN s)
  refine List.map_congr_left fun x hx => ?_
  have hx := List.mem_range.1 hx
  obtain ⟨l1, l2⟩ := stN_lt s x
  obtain ⟨u1, u2⟩ := stN_up s x
  rw [stF_getD s _ x hx]
  unfold rankP
  rw [rankL_id u1 (fun y hy => by have := l1 y hy; omega), rankL_id u2 (fun y hy => by have := l2 y hy; omega)]
end Go.Proofs.YtkbljlbfkgoalaaGreatDoor
