import Derived.Test.YtiidnnpanickaaaGreatDoorZbRefGood
import Derived.Test.YtiidnnpanickaaaGreatDoorZbSumLaw
/- What the claim of FnExactCompareNumberCard needs of: BkKit RefNeg RefSum RefNum. -/
namespace Go.Proofs.YtiidnnpanickaaaGreatDoor
set_option linter.unusedVariables false
set_option linter.unusedSimpArgs false
open Go.RowKit
section
variable {w1 W W' Wa : World} {bb : Nat} {V : List PL} {BV : List Nat} {S S' : Nat → Prop} {v1 v2 v3 v4 : Value} {A1 c1 A2 c2 A3 c3 : List Nat} {x c : Nat}
end
structure BkN (U : List Nat) (S : Nat → Prop) (W : World) (bb : Nat) (V : List PL) (BV : List Nat) : Prop where
  book : BookS S W bb V BV
  ok : PoolOK V BV
  lt : ∀ q, S q → q < W.heap.size
  inU : ∀ x, x < V.length → (codesOf V).getD x 0 ∈ U
def BkPost (U : List Nat) (bb : Nat) (w : World) (S : Nat → Prop) (V : List PL) (c : Nat) (e : Ending) (w' : World) : Prop :=
  ∃ (i : Nat) (V' : List PL) (BV' : List Nat) (S' : Nat → Prop), e = .returned (.int .i64 (i : Int)) ∧ BkN U S' w' bb V' BV' ∧ V <+: V' ∧ (∀ q, S' q → S q ∨ w.heap.size ≤ q) ∧ Fr S w w' ∧ i < V'.length ∧ (codesOf V').getD i 0 = c
section
variable {U : List Nat} {S : Nat → Prop} {w w' : World} {bb : Nat} {V : List PL} {BV : List Nat}
theorem BkN.fr0 (h : BkN U S w bb V BV) (hf : Fr NoM w w') : BkN U S w' bb V BV := ⟨h.book.fr0 hf, h.ok, fun q hq => Nat.lt_of_lt_of_le (h.lt q hq) hf.size, h.inU⟩
theorem BkN.len (h : BkN U S w bb V BV) : V.length ≤ U.length := pool_size h.ok h.inU
theorem BkN.start {W : World} (h : W.heap[bb]? = some (.cells #[.slice none 0 0, .slice none 0 0] 132 (0, 0))) : BkN U (fun q => q = bb) W bb [] [] :=
  ⟨BookS.made h, PoolOK.nil, fun q hq => by
    have := (Array.getElem?_eq_some_iff.1 h).1
    rw [hq]; exact this, fun x hx => by simp at hx⟩
theorem BkPost.of0 {w0 : World} {c : Nat} {e : Ending} (hf : Fr NoM w0 w) (h : BkPost U bb w S V c e w') : BkPost U bb w0 S V c e w' := by
  obtain ⟨i, V', BV', S', h1, h2, h3, h4, h5, h6⟩ := h
  exact ⟨i, V', BV', S', h1, h2, h3, fun q hq => (h4 q hq).imp_right (Nat.le_trans hf.size), hf.any.trans h5 (fun _ _ q => q), h6⟩
theorem putR_any (lv rv : Value) (L R cs ds : List Nat) (h : BkN U S w bb V BV) (hL : Nats w lv L) (hR : Nats w rv R) (rL : RowC V L cs) (rR : RowC V R ds) (hin : mkC cs ds ∈ U) (hUl : U.length < 1000000) (ll : L.length < 1000000000) (lr : R.length < 1000000000) :
    Calls Tryz.prog 139 #[.pointer (some ⟨bb, 0, none⟩), lv, rv] w fun e w' => BkPost U bb w S V (mkC cs ds) e w' := by
  have hlen := h.len
  refine (put_any bb lv rv V BV L R w h.book hL hR (fun j x hx => rL.1 x (List.mem_of_getElem? hx)) (fun j x hx => rR.1 x (List.mem_of_getElem? hx)) ll lr (by omega) (fun x hx => by have := (bookOK_v h.ok).lt V.length (Nat.le_refl _) x hx; omega)).mono ?_
  rintro e w' ⟨rfl, hb, hf⟩
  obtain ⟨q1, q2, q3, q4⟩ := put_row h.ok rL rR
  rw [putB_pool h.ok] at hb ⊢
  have hm := h.book.m
  refine ⟨(poolPut V BV L R).2.2, (poolPut V BV L R).1, (poolPut V BV L R).2.1, _, rfl, ⟨hb.cut, q1, fun q hq => hq.2, poolPut_in h.inU (by rw [q4]; exact hin)⟩, q2, fun q hq => hq.1, hf.mono (fun k _ z => hm k z), q3, q4⟩
end
end Go.Proofs.YtiidnnpanickaaaGreatDoor
