/- What the program's order does with its lists, in plain words: group after group. -/
import Derived.Test.YtkbljlbfkgoalaaGreatDoorCmpLaw
namespace Go.Proofs.YtkbljlbfkgoalaaGreatDoor
set_option linter.unusedVariables false
set_option linter.unusedSimpArgs false
open Go.RowKit

/-- What node leaves: the pool's nodes, their births, and the place. -/
def poolPut (V : List PL) (BV : List Nat) (L R : List Nat) : List PL × List Nat × Nat :=
  if (sortN L, sortN R) ∈ V then (V, BV, V.idxOf (sortN L, sortN R)) else (V ++ [(sortN L, sortN R)], BV ++ [bornL BV (bornL BV 0 (sortN L)) (sortN R)], V.length)
theorem poolPut_lt (V : List PL) (BV : List Nat) (L R : List Nat) : (poolPut V BV L R).2.2 < (poolPut V BV L R).1.length ∧ (poolPut V BV L R).1.length ≤ V.length + 1 ∧ V <+: (poolPut V BV L R).1 := by
  unfold poolPut
  split
  · rename_i h; exact ⟨List.idxOf_lt_length_of_mem h, by simp, List.prefix_refl _⟩
  · simp

def nodeV (V : List PL) (x : Nat) : PL := V.getD x ([], [])
/-- What order starts from: what is reached, each once, by births. -/
structure QOk (V : List PL) (BV : List Nat) (Q : List Nat) : Prop where
  nodup : Q.Nodup
  sorted : Q.Pairwise fun a b => BV.getD a 0 ≤ BV.getD b 0
  opt1 : ∀ x ∈ Q, ∀ y ∈ (nodeV V x).1, y ∈ Q ∧ BV.getD y 0 < BV.getD x 0
  opt2 : ∀ x ∈ Q, ∀ y ∈ (nodeV V x).2, y ∈ Q ∧ BV.getD y 0 < BV.getD x 0
  up : ∀ x ∈ Q, (nodeV V x).1.Pairwise (· < ·) ∧ (nodeV V x).2.Pairwise (· < ·)
  inj : ∀ x ∈ Q, ∀ y ∈ Q, nodeV V x = nodeV V y → x = y
structure GInv (V : List PL) (BV : List Nat) (Q A : List Nat) (n : Nat) : Prop where
  le : n ≤ Q.length
  perm : A.Perm (Q.take n)
  cut : ∀ x ∈ Q.take n, ∀ y ∈ Q.drop n, BV.getD x 0 < BV.getD y 0
  up : A.Pairwise fun x y => klt (BV.getD x 0) (rankP A (nodeV V x)) (BV.getD y 0) (rankP A (nodeV V y))

theorem GInv.start (V : List PL) (BV Q : List Nat) : GInv V BV Q [] 0 := ⟨Nat.zero_le _, by simp, by simp, by simp⟩

theorem idxOf_append_mem {A G : List Nat} {x : Nat} (h : x ∈ A) : (A ++ G).idxOf x = A.idxOf x := by
  rw [List.idxOf_append, if_pos h]
theorem rankL_append {A G l : List Nat} (h : ∀ x ∈ l, x ∈ A) : rankL (A ++ G) l = rankL A l := by
  unfold rankL
  rw [List.map_congr_left fun x hx => idxOf_append_mem (h x hx)]
theorem rankP_append {A G : List Nat} {x : PL} (h1 : ∀ y ∈ x.1, y ∈ A) (h2 : ∀ y ∈ x.2, y ∈ A) : rankP (A ++ G) x = rankP A x := by
  unfold rankP
  rw [rankL_append h1, rankL_append h2]
theorem rankL_inj {A l l' : List Nat} (h : ∀ x ∈ l, x ∈ A) (h' : ∀ x ∈ l', x ∈ A) (u : l.Pairwise (· < ·)) (u' : l'.Pairwise (· < ·)) (e : rankL A l = rankL A l') : l = l' := by
  have key : ∀ {a b : List Nat}, (∀ x ∈ a, x ∈ A) → (∀ x ∈ b, x ∈ A) → rankL A a = rankL A b → ∀ x ∈ a, x ∈ b := by
    intro a b ha hb e x hx
    have : A.idxOf x ∈ rankL A b := by rw [← e]; exact mem_rankL.2 ⟨x, hx, rfl⟩
    obtain ⟨y, hy, hxy⟩ := mem_rankL.1 this
    have h1 := (idx_getD (ha x hx)).2
    have h2 := (idx_getD (hb y hy)).2
    rw [hxy] at h2
    rw [← h1, h2]; exact hy
  exact up_ext u u' fun x => ⟨key h h' e x, key h' h e.symm x⟩

section
variable {V : List PL} {BV Q A : List Nat} {n : Nat}
theorem GInv.mem (h : GInv V BV Q A n) (x : Nat) : x ∈ A ↔ x ∈ Q.take n := h.perm.mem_iff
theorem QOk.low (q : QOk V BV Q) (h : GInv V BV Q A n) {x y : Nat} (hx : x ∈ Q) (hy : y ∈ Q) (hlt : BV.getD y 0 < BV.getD x 0) (hb : x ∈ A ∨ ∀ z ∈ Q.drop n, BV.getD x 0 ≤ BV.getD z 0) : y ∈ A := by
  rw [h.mem]
  have : y ∈ Q.take n ++ Q.drop n := by rw [List.take_append_drop]; exact hy
  rcases List.mem_append.1 this with this | this
  · exact this
  · rcases hb with hb | hb
    · have := h.cut x ((h.mem x).1 hb) y this; omega
    · have := hb y this; omega
theorem QOk.closed (q : QOk V BV Q) (h : GInv V BV Q A n) {x : Nat} (hx : x ∈ A) : (∀ y ∈ (nodeV V x).1, y ∈ A) ∧ ∀ y ∈ (nodeV V x).2, y ∈ A := by
  have hxQ : x ∈ Q := List.mem_of_mem_take ((h.mem x).1 hx)
  exact ⟨fun y hy => q.low h hxQ (q.opt1 x hxQ y hy).1 (q.opt1 x hxQ y hy).2 (.inl hx), fun y hy => q.low h hxQ (q.opt2 x hxQ y hy).1 (q.opt2 x hxQ y hy).2 (.inl hx)⟩
/-- A game of the group at n: its options have been listed. -/
theorem QOk.group (q : QOk V BV Q) (h : GInv V BV Q A n) (hn : n < Q.length) {x : Nat} (hx : x ∈ Q) (hb : BV.getD x 0 = BV.getD (Q.getD n 0) 0) : (∀ y ∈ (nodeV V x).1, y ∈ A) ∧ ∀ y ∈ (nodeV V x).2, y ∈ A := by
  have hz : ∀ z ∈ Q.drop n, BV.getD x 0 ≤ BV.getD z 0 := by
    intro z hz
    rw [hb]
    rw [List.drop_eq_getElem_cons hn] at hz
    rcases List.mem_cons.1 hz with rfl | hz
    · rw [List.getD_eq_getElem?_getD (l := Q), List.getElem?_eq_getElem hn]; exact Nat.le_refl _
    · have := q.sorted
      rw [← List.take_append_drop n Q, List.pairwise_append] at this
      have h2 := this.2.1
      rw [List.drop_eq_getElem_cons hn, List.pairwise_cons] at h2
      have h3 := h2.1 z hz
      rw [List.getD_eq_getElem?_getD (l := Q), List.getElem?_eq_getElem hn]; exact h3
  exact ⟨fun y hy => q.low h hx (q.opt1 x hx y hy).1 (q.opt1 x hx y hy).2 (.inr hz), fun y hy => q.low h hx (q.opt2 x hx y hy).1 (q.opt2 x hx y hy).2 (.inr hz)⟩

theorem GInv.step (q : QOk V BV Q) (h : GInv V BV Q A n) {m : Nat} {G G' : List Nat} (hm : 0 < m) (hnm : n + m ≤ Q.length) (hG : G = (Q.drop n).take m) (hb : ∀ x ∈ G, BV.getD x 0 = BV.getD (Q.getD n 0) 0)
    (hend : n + m = Q.length ∨ BV.getD (Q.getD (n + m) 0) 0 ≠ BV.getD (Q.getD n 0) 0) (hp : G'.Perm G) (hs : G'.Pairwise fun a b => aheadB (rankP A (nodeV V b)) (rankP A (nodeV V a)) = false) : GInv V BV Q (A ++ G') (n + m) := by
  have hn : n < Q.length := by omega
  have htake : Q.take (n + m) = Q.take n ++ (Q.drop n).take m := List.take_add
  have hdrop : Q.drop (n + m) = (Q.drop n).drop m := by rw [List.drop_drop]
  have hGQ : ∀ x ∈ G, x ∈ Q := fun x hx => by rw [hG] at hx; exact List.mem_of_mem_drop (List.mem_of_mem_take hx)
  have hG'Q : ∀ x ∈ G', x ∈ G := fun x hx => (hp.mem_iff).1 hx
  have hGd : ∀ x ∈ G, x ∈ Q.drop n := fun x hx => by rw [hG] at hx; exact List.mem_of_mem_take hx
  have hnd : G'.Nodup := by
    rw [hp.nodup_iff, hG]
    exact (List.take_sublist _ _).nodup ((List.drop_sublist _ _).nodup q.nodup)
  refine ⟨hnm, ?_, ?_, ?_⟩
  · rw [htake, ← hG]; exact h.perm.append hp
  · intro x hx y hy
    have hyb : BV.getD (Q.getD n 0) 0 < BV.getD y 0 := by
      have hlt : n + m < Q.length := by
        rcases Nat.lt_or_ge (n + m) Q.length with h1 | h1
        · exact h1
        · rw [List.drop_eq_nil_of_le h1] at hy; cases hy
      have hne : BV.getD (Q.getD (n + m) 0) 0 ≠ BV.getD (Q.getD n 0) 0 := by
        rcases hend with h1 | h1
        · omega
        · exact h1
      have e1 : Q.getD n 0 = Q[n] := by rw [List.getD_eq_getElem?_getD, List.getElem?_eq_getElem hn]; rfl
      have e2 : Q.getD (n + m) 0 = Q[n + m] := by rw [List.getD_eq_getElem?_getD, List.getElem?_eq_getElem hlt]; rfl
      have h1 := List.pairwise_iff_getElem.1 q.sorted n (n + m) hn hlt (by omega)
      rw [← e1, ← e2] at h1
      rw [List.drop_eq_getElem_cons hlt] at hy
      rcases List.mem_cons.1 hy with rfl | hy
      · rw [← e2]; omega
      · have := q.sorted
        rw [← List.take_append_drop (n + m) Q, List.pairwise_append] at this
        have h2 := this.2.1
        rw [List.drop_eq_getElem_cons hlt, List.pairwise_cons] at h2
        have h3 := h2.1 y hy
        rw [← e2] at h3; omega
    rw [htake, ← hG, List.mem_append] at hx
    rcases hx with hx | hx
    · refine h.cut x hx y ?_
      rw [hdrop] at hy; exact List.mem_of_mem_drop hy
    · rw [hb x hx]; exact hyb
  · have hA : ∀ x ∈ A, rankP (A ++ G') (nodeV V x) = rankP A (nodeV V x) := fun x hx => rankP_append (q.closed h hx).1 (q.closed h hx).2
    have hGr : ∀ x ∈ G', rankP (A ++ G') (nodeV V x) = rankP A (nodeV V x) := fun x hx =>
      have hg := q.group h hn (hGQ x (hG'Q x hx)) (hb x (hG'Q x hx))
      rankP_append hg.1 hg.2
    refine List.pairwise_append.2 ⟨h.up.imp_of_mem fun {a b} ha hb' hk => ?_, ?_, fun x hx y hy => ?_⟩
    · rw [hA a ha, hA b hb']; exact hk
    · refine ((List.nodup_iff_pairwise_ne.1 hnd).and hs).imp_of_mem fun {a b} ha hb' hk => ?_
      have ga := hG'Q a ha
      have gb := hG'Q b hb'
      have g1 := q.group h hn (hGQ a ga) (hb a ga)
      have g2 := q.group h hn (hGQ b gb) (hb b gb)
      rw [hGr a ha, hGr b hb']
      refine .inr ⟨by rw [hb a ga, hb b gb], ?_⟩
      cases hc : aheadB (rankP A (nodeV V a)) (rankP A (nodeV V b)) with
      | true => rfl
      | false =>
        exfalso
        have e := aheadB_tri hc hk.2
        unfold rankP at e
        have e1 := rankL_inj g1.1 g2.1 (q.up a (hGQ a ga)).1 (q.up b (hGQ b gb)).1 (congrArg Prod.fst e)
        have e2 := rankL_inj g1.2 g2.2 (q.up a (hGQ a ga)).2 (q.up b (hGQ b gb)).2 (congrArg Prod.snd e)
        exact hk.1 (q.inj a (hGQ a ga) b (hGQ b gb) (Prod.ext e1 e2))
    · exact .inl (h.cut x ((h.mem x).1 hx) y ((hGd y (hG'Q y hy))) |> fun h1 => h1)
/-- What the last round leaves. -/
theorem GInv.order (h : GInv V BV Q A Q.length) (hn : Q.Nodup) {R : List Nat} (hr : ∀ x, x ∈ Q ↔ ReachV V R x) : OrderIs V BV R A (A.map fun x => rankP A (nodeV V x)) := by
  have hp := h.perm
  rw [List.take_length] at hp
  refine ⟨(hp.nodup_iff).2 hn, fun x => (hp.mem_iff).trans (hr x), rfl, fun i j x y hij hx hy => ?_⟩
  rw [List.getElem?_map] at hx hy
  cases ha : A[i]? with
  | none => rw [ha] at hx; cases hx
  | some a =>
    cases hb : A[j]? with
    | none => rw [hb] at hy; cases hy
    | some b =>
      rw [ha] at hx; rw [hb] at hy
      cases hx; cases hy
      obtain ⟨hi, rfl⟩ := List.getElem?_eq_some_iff.1 ha
      obtain ⟨hj, rfl⟩ := List.getElem?_eq_some_iff.1 hb
      rw [List.getD_eq_getElem?_getD (l := A), ha, List.getD_eq_getElem?_getD (l := A), hb]
      exact List.pairwise_iff_getElem.1 h.up i j hi hj hij
end
end Go.Proofs.YtkbljlbfkgoalaaGreatDoor
