/- A book with three rows of places beside it, each with memory of its own. -/
import Derived.Test.YtioiljboihehcaaGreatDoorRefGood
import Derived.Test.YtioiljboihehcaaGreatDoorSumLaw
namespace Go.Proofs.YtioiljboihehcaaGreatDoor
set_option linter.unusedVariables false
set_option linter.unusedSimpArgs false
open Go.RowKit

structure BkSt (w1 W : World) (bb : Nat) (V : List PL) (BV : List Nat) (S : Nat → Prop) (v1 : Value) (A1 c1 : List Nat) (v2 : Value) (A2 c2 : List Nat) (v3 : Value) (A3 c3 : List Nat) : Prop where
  book : BookS S W bb V BV
  ok : PoolOK V BV
  sub : ∀ q, S q → w1.heap.size ≤ q ∧ q < W.heap.size
  o1 : W.ownsRow w1.heap.size 3 1 v1 A1.length (A1.map encN)
  o2 : W.ownsRow w1.heap.size 3 1 v2 A2.length (A2.map encN)
  o3 : W.ownsRow w1.heap.size 3 1 v3 A3.length (A3.map encN)
  n1 : ∀ b, v1.ownBlock = some b → ¬ S b
  n2 : ∀ b, v2.ownBlock = some b → ¬ S b
  n3 : ∀ b, v3.ownBlock = some b → ¬ S b
  s12 : ∀ b, v1.ownBlock = some b → v2.ownBlock ≠ some b
  s13 : ∀ b, v1.ownBlock = some b → v3.ownBlock ≠ some b
  s23 : ∀ b, v2.ownBlock = some b → v3.ownBlock ≠ some b
  r1 : RowC V A1 c1
  r2 : RowC V A2 c2
  r3 : RowC V A3 c3
  fr : Fr NoM w1 W
section
variable {w1 W W' Wa : World} {bb : Nat} {V : List PL} {BV : List Nat} {S S' : Nat → Prop} {v1 v2 v3 v4 : Value} {A1 c1 A2 c2 A3 c3 : List Nat} {x c : Nat}
theorem BkSt.swap12 (h : BkSt w1 W bb V BV S v1 A1 c1 v2 A2 c2 v3 A3 c3) : BkSt w1 W bb V BV S v2 A2 c2 v1 A1 c1 v3 A3 c3 :=
  ⟨h.book, h.ok, h.sub, h.o2, h.o1, h.o3, h.n2, h.n1, h.n3, fun b p q => h.s12 b q p, h.s23, h.s13, h.r2, h.r1, h.r3, h.fr⟩
theorem BkSt.swap13 (h : BkSt w1 W bb V BV S v1 A1 c1 v2 A2 c2 v3 A3 c3) : BkSt w1 W bb V BV S v3 A3 c3 v2 A2 c2 v1 A1 c1 :=
  ⟨h.book, h.ok, h.sub, h.o3, h.o2, h.o1, h.n3, h.n2, h.n1, fun b p q => h.s23 b q p, fun b p q => h.s13 b q p, fun b p q => h.s12 b q p, h.r3, h.r2, h.r1, h.fr⟩
theorem BkSt.fr0 (h : BkSt w1 W bb V BV S v1 A1 c1 v2 A2 c2 v3 A3 c3) (hf : Fr NoM W W') : BkSt w1 W' bb V BV S v1 A1 c1 v2 A2 c2 v3 A3 c3 :=
  ⟨h.book.fr0 hf, h.ok, fun q hq => ⟨(h.sub q hq).1, Nat.lt_of_lt_of_le (h.sub q hq).2 hf.size⟩, owns_fr h.o1 hf (fun _ _ q => q), owns_fr h.o2 hf (fun _ _ q => q), owns_fr h.o3 hf (fun _ _ q => q), h.n1, h.n2, h.n3, h.s12, h.s13, h.s23, h.r1, h.r2, h.r3, h.fr.trans hf (fun _ _ q => q)⟩
theorem BkSt.app (h : BkSt w1 W bb V BV S v1 A1 c1 v2 A2 c2 v3 A3 c3) (ha : Fr NoM W Wa) (ho : W'.ownsRow w1.heap.size 3 1 v4 (A1.length + 1) (A1.map encN ++ [x].map encN)) (hf : Fr (Own1 v1) Wa W') (hq : v4.ownBlock = v1.ownBlock ∨ ∃ b, v4.ownBlock = some b ∧ Wa.heap.size ≤ b) (hx : x < V.length) (hc : (codesOf V).getD x 0 = c) :
    BkSt w1 W' bb V BV S v4 (A1 ++ [x]) (c1 ++ [c]) v2 A2 c2 v3 A3 c3 := by
  have h := h.fr0 ha
  have hlt : ∀ b, v4.ownBlock = some b → v1.ownBlock = some b ∨ Wa.heap.size ≤ b := fun b hb => by
    rcases hq with h1 | ⟨b', h1, h2⟩
    · rw [h1] at hb; exact .inl hb
    · rw [h1] at hb; cases hb; exact .inr h2
  exact ⟨h.book.fr hf (fun k hk e => h.n1 k e hk), h.ok, fun q hq => ⟨(h.sub q hq).1, Nat.lt_of_lt_of_le (h.sub q hq).2 hf.size⟩, by rw [List.length_append, List.map_append]; exact ho, owns_fr h.o2 hf (fun b hb e => h.s12 b e hb), owns_fr h.o3 hf (fun b hb e => h.s13 b e hb),
    fun b hb hS => by
      rcases hlt b hb with h1 | h1
      · exact h.n1 b h1 hS
      · have := (h.sub b hS).2; omega,
    h.n2, h.n3, fun b hb hu => by
      rcases hlt b hb with h1 | h1
      · exact h.s12 b h1 hu
      · have := (h.o2.lt b hu).2; omega, fun b hb hu => by
      rcases hlt b hb with h1 | h1
      · exact h.s13 b h1 hu
      · have := (h.o3.lt b hu).2; omega, h.s23, h.r1.snoc hx hc, h.r2, h.r3,
    h.fr.trans hf (fun q hq e => by have := (h.o1.lt q e).1; omega)⟩
/-- Two empty rows are made. -/
theorem BkSt.rows (h : BkSt w1 W bb V BV S v1 A1 c1 v2 A2 c2 v3 A3 c3) (hW : W' = (W.alloc (.cells #[] 3)).alloc (.cells #[] 3)) :
    BkSt w1 W' bb V BV S v1 A1 c1 (.slice (some ⟨W.heap.size, 0, none⟩) 0 0) [] [] (.slice (some ⟨W.heap.size + 1, 0, none⟩) 0 0) [] [] := by
  have hf : Fr NoM W W' := by rw [hW]; exact ((Fr.refl NoM W).alloc _).alloc _
  have h0 := h
  have h := h.fr0 hf
  have hs : W'.heap.size = W.heap.size + 2 := by rw [hW]; simp
  have hw := h.fr.size
  have m1 : W'.ownsRow W.heap.size 3 1 (.slice (some ⟨W.heap.size, 0, none⟩) 0 0) 0 [] := by
    rw [hW]
    exact owns_fr (World.ownsRow_made W #[] 0 (Nat.le_refl _) (by decide) (by simp)) ((Fr.refl NoM _).alloc _) (fun _ _ q => q)
  have m2 : W'.ownsRow (W.heap.size + 1) 3 1 (.slice (some ⟨W.heap.size + 1, 0, none⟩) 0 0) 0 [] := by
    have h : ((W.alloc (.cells #[] 3)).alloc (.cells #[] 3)).ownsRow (W.alloc (.cells #[] 3)).heap.size 3 1 (.slice (some ⟨(W.alloc (.cells #[] 3)).heap.size, 0, none⟩) 0 0) 0 [] := World.ownsRow_made (W.alloc (.cells #[] 3)) #[] 0 (Nat.le_refl _) (by decide) (by simp)
    rw [World.size_alloc, ← hW] at h
    exact h
  exact ⟨h.book, h.ok, h.sub, h.o1, owns_base m1 h0.fr.size, owns_base m2 (by have := h0.fr.size; omega), h.n1, fun b hb hS => by
      have e : W.heap.size = b := Option.some.inj hb
      have := (h0.sub b hS).2; omega, fun b hb hS => by
      have e : W.heap.size + 1 = b := Option.some.inj hb
      have := (h0.sub b hS).2; omega, fun b hb hu => by
      have e : W.heap.size = b := Option.some.inj hu
      have := (h0.o1.lt b hb).2; omega, fun b hb hu => by
      have e : W.heap.size + 1 = b := Option.some.inj hu
      have := (h0.o1.lt b hb).2; omega, fun b hb hu => by
      have e : W.heap.size = b := Option.some.inj hb
      have e' : W.heap.size + 1 = b := Option.some.inj hu
      omega, h.r1, RowC.nil _, RowC.nil _, h.fr⟩
theorem BkSt.close (h : BkSt w1 W bb V BV S v1 A1 c1 v2 A2 c2 v3 A3 c3) : BkSt w1 W bb V BV S v1 A1 c1 (.slice none 0 0) [] [] (.slice none 0 0) [] [] :=
  ⟨h.book, h.ok, h.sub, h.o1, World.ownsRow_nil W _ _ _, World.ownsRow_nil W _ _ _, h.n1, (fun b hb => by cases hb), (fun b hb => by cases hb), (fun b _ hb => by cases hb), (fun b _ hb => by cases hb), (fun b hb => by cases hb), h.r1, RowC.nil _, RowC.nil _, h.fr⟩
/-- The book behind a call of put. -/
theorem BkSt.put {L3 R3 cs ds : List Nat} (h : BkSt w1 W bb V BV S v1 A1 c1 v2 A2 c2 v3 A3 c3) (hL : RowC V L3 cs) (hR : RowC V R3 ds) (hb : BookS (fun k => S k ∨ W.heap.size ≤ k) W' bb (putB V BV L3 R3).1 (putB V BV L3 R3).2.1) (hf : Fr (BookM W bb) W W') :
    BkSt w1 W' bb (poolPut V BV L3 R3).1 (poolPut V BV L3 R3).2.1 (fun k => (S k ∨ W.heap.size ≤ k) ∧ k < W'.heap.size) v1 A1 c1 v2 A2 c2 v3 A3 c3 ∧ (putB V BV L3 R3).2.2 < (poolPut V BV L3 R3).1.length ∧ (codesOf (poolPut V BV L3 R3).1).getD (putB V BV L3 R3).2.2 0 = mkC cs ds ∧
      V <+: (poolPut V BV L3 R3).1 ∧ (poolPut V BV L3 R3).1.length ≤ V.length + 1 := by
  obtain ⟨q1, q2, q3, q4⟩ := put_row h.ok hL hR
  obtain ⟨_, q5, _⟩ := poolPut_lt V BV L3 R3
  rw [putB_pool h.ok] at hb ⊢
  have hm := h.book.m
  have hsz := h.fr.size
  refine ⟨⟨hb.cut, q1, fun q hq => ⟨hq.1.elim (fun e => (h.sub q e).1) (fun e => by omega), hq.2⟩, owns_fr h.o1 hf (fun b e z => h.n1 b e (hm b z)), owns_fr h.o2 hf (fun b e z => h.n2 b e (hm b z)), owns_fr h.o3 hf (fun b e z => h.n3 b e (hm b z)),
    fun b e z => z.1.elim (h.n1 b e) (fun k => by have := (h.o1.lt b e).2; omega), fun b e z => z.1.elim (h.n2 b e) (fun k => by have := (h.o2.lt b e).2; omega), fun b e z => z.1.elim (h.n3 b e) (fun k => by have := (h.o3.lt b e).2; omega),
    h.s12, h.s13, h.s23, h.r1.mono q2, h.r2.mono q2, h.r3.mono q2, h.fr.trans hf (fun q hq z => by have := (h.sub q (hm q z)).1; omega)⟩, q3, q4, q2, q5⟩
theorem BkSt.nats1 (h : BkSt w1 W bb V BV S v1 A1 c1 v2 A2 c2 v3 A3 c3) : Nats W v1 A1 := SliceOf.of_owns h.o1 rfl
end
end Go.Proofs.YtioiljboihehcaaGreatDoor
