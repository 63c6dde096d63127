/- A row of forms that a call owns. -/
import Derived.Test.YtkbljlbfkgoalaaGreatDoorAppC
import Derived.Test.YtkbljlbfkgoalaaGreatDoorRefStalk
namespace Go.Proofs.YtkbljlbfkgoalaaGreatDoor
set_option linter.unusedVariables false
set_option linter.unusedSimpArgs false
open Go.RowKit

structure FRow (B : Nat) (W : World) (v : Value) (VS : List Value) (FSs : List (List PL)) (T : Nat → Prop) : Prop where
  row : W.ownsRow B 24 1 v VS.length VS
  len : VS.length = FSs.length
  nodes : ∀ (j : Nat) (nv : Value) (Fm : List PL), VS[j]? = some nv → FSs[j]? = some Fm → NodeL T encN W nv Fm
  sep : ∀ q, T q → q < W.heap.size ∧ v.ownBlock ≠ some q
theorem FRow.fr {B : Nat} {W W' : World} {v : Value} {VS : List Value} {FSs : List (List PL)} {T M : Nat → Prop} (h : FRow B W v VS FSs T) (hf : Fr M W W') (hv : ∀ q, v.ownBlock = some q → ¬ M q) (hT : ∀ q, T q → ¬ M q) : FRow B W' v VS FSs T :=
  ⟨owns_fr h.row hf hv, h.len, fun j nv Fm h1 h2 => (h.nodes j nv Fm h1 h2).fr hf hT, fun q hq => ⟨Nat.lt_of_lt_of_le (h.sep q hq).1 hf.size, (h.sep q hq).2⟩⟩
theorem FRow.fr0 {B : Nat} {W W' : World} {v : Value} {VS : List Value} {FSs : List (List PL)} {T : Nat → Prop} (h : FRow B W v VS FSs T) (hf : Fr NoM W W') : FRow B W' v VS FSs T := h.fr hf (fun _ _ q => q) (fun _ _ q => q)
theorem FRow.forms {B : Nat} {W : World} {v : Value} {VS : List Value} {FSs : List (List PL)} {T : Nat → Prop} (h : FRow B W v VS FSs T) : FormsL T W v FSs :=
  ⟨VS, SliceOf.of_owns (enc := encV) h.row (List.map_id'' (fun _ => rfl) VS).symm, h.len, h.nodes⟩
theorem FRow.made (W : World) (T : Nat → Prop) (hT : ∀ q, T q → q < W.heap.size) : FRow W.heap.size (W.alloc (.cells #[] 24)) (.slice (some ⟨W.heap.size, 0, none⟩) 0 0) [] [] T :=
  ⟨World.ownsRow_made W #[] 0 (Nat.le_refl _) (by decide) (by simp), rfl, by simp, fun q hq => ⟨by have := hT q hq; simp; omega, fun e => by have e : W.heap.size = q := Option.some.inj e; have := hT q hq; omega⟩⟩
theorem FRow.snoc {B : Nat} {W Wa W' : World} {v v' nv : Value} {VS : List Value} {FSs : List (List PL)} {T T' : Nat → Prop} {Fm : List PL} (h : FRow B W v VS FSs T) (ha : Fr NoM W Wa) (ho : W'.ownsRow B 24 1 v' (VS.length + 1) (VS ++ [nv])) (hf : Fr (Own1 v) Wa W')
    (hq : v'.ownBlock = v.ownBlock ∨ ∃ b, v'.ownBlock = some b ∧ Wa.heap.size ≤ b) (hn : NodeL T' encN Wa nv Fm) (hTT : ∀ q, T q → T' q) (hT' : ∀ q, T' q → q < Wa.heap.size ∧ v.ownBlock ≠ some q) : FRow B W' v' (VS ++ [nv]) (FSs ++ [Fm]) T' := by
  refine ⟨by rw [List.length_append]; exact ho, by simp [h.len], fun j u G h1 h2 => ?_, fun q hq' => ⟨Nat.lt_of_lt_of_le (hT' q hq').1 hf.size, fun e => ?_⟩⟩
  · by_cases hj : j < VS.length
    · rw [List.getElem?_append_left hj] at h1
      rw [List.getElem?_append_left (by rw [← h.len]; exact hj)] at h2
      exact ((h.nodes j u G h1 h2).fr (ha.any.trans hf (fun q _ e => e)) (fun q hT e => (h.sep q hT).2 e)).mono hTT
    · have hl := (List.getElem?_eq_some_iff.1 h1).1
      have hje : j = VS.length := by simp at hl; omega
      subst hje
      have e1 : u = nv := by simpa using h1.symm
      have e2 : G = Fm := by rw [h.len] at h2; simpa using h2.symm
      subst e1; subst e2
      exact hn.fr hf (fun q hT e => (hT' q hT).2 e)
  · rcases hq with h1 | ⟨b, h1, h2⟩
    · rw [h1] at e; exact (hT' q hq').2 e
    · rw [h1] at e; cases e
      have := (hT' q hq').1; omega
theorem FRow.cell {B : Nat} {W : World} {v : Value} {VS : List Value} {FSs : List (List PL)} {T : Nat → Prop} (h : FRow B W v VS FSs T) : ∃ a c, v = .slice a VS.length c ∧ ∀ (j : Nat) (nv : Value), VS[j]? = some nv → ∃ b off, a = some ⟨b, off, none⟩ ∧ W.cell? ⟨b, off + j, none⟩ = some nv := by
  obtain ⟨a, c, e, _, _, h3⟩ := SliceOf.of_owns (enc := encV) h.row (List.map_id'' (fun _ => rfl) VS).symm
  exact ⟨a, c, e, h3⟩
end Go.Proofs.YtkbljlbfkgoalaaGreatDoor
