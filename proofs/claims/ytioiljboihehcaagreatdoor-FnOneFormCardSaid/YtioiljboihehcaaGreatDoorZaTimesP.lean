import Derived.Test.YtioiljboihehcaaGreatDoorZaSumFormsP
import Derived.Test.YtioiljboihehcaaGreatDoorZaSumP
/- What the claim of FnOneFormCard needs of: SumMany ManyP TimesP. -/
namespace Go.Proofs.YtioiljboihehcaaGreatDoor

set_option linter.unusedVariables false

set_option linter.unusedSimpArgs false

open Go.RowKit

/-- A slice value that reads as a list of forms. -/
def FormsI (R : Nat → Prop) (w : World) (v : Value) (FL : List (List (List Int × List Int))) : Prop :=
  ∃ VS : List Value, SliceOf encV w v VS ∧ VS.length = FL.length ∧ ∀ (j : Nat) (nv : Value) (Fi : List (List Int × List Int)), VS[j]? = some nv → FL[j]? = some Fi → NodeL R encI w nv Fi

theorem FormsI.fr0 {R : Nat → Prop} {w w' : World} {v : Value} {FL : List (List (List Int × List Int))} (h : FormsI R w v FL) (hf : Fr NoM w w') : FormsI R w' v FL := by
  obtain ⟨VS, h1, h2, h3⟩ := h
  exact ⟨VS, h1.fr0 hf, h2, fun j nv Fi e1 e2 => (h3 j nv Fi e1 e2).fr0 hf⟩

theorem FormsI.low {R : Nat → Prop} {w : World} {v : Value} {FL : List (List (List Int × List Int))} (h : FormsI R w v FL) : FormsI (· < w.heap.size) w v FL := by
  obtain ⟨VS, h1, h2, h3⟩ := h
  exact ⟨VS, h1, h2, fun j nv Fi e1 e2 => (h3 j nv Fi e1 e2).low⟩

theorem FormsI.shape {R : Nat → Prop} {w : World} {v : Value} {FL : List (List (List Int × List Int))} (h : FormsI R w v FL) : ∃ a c, v = .slice a FL.length c ∧ FL.length ≤ 9223372036854775807 := by
  obtain ⟨VS, ⟨a, c, e, h1, h4, _⟩, h2, _⟩ := h
  exact ⟨a, c, by rw [e, h2], by omega⟩

theorem FormsI.get {R : Nat → Prop} {w : World} {a : Option Addr} {c : Nat} {FL : List (List (List Int × List Int))} (h : FormsI R w (.slice a FL.length c) FL) {k : Nat} {Fi : List (List Int × List Int)} (hk : FL[k]? = some Fi) :
    ∃ b off nv, a = some ⟨b, off, none⟩ ∧ w.cell? ⟨b, off + k, none⟩ = some nv ∧ NodeL R encI w nv Fi := by
  obtain ⟨VS, ⟨a', c', e, _, _, h4⟩, h2, h3⟩ := h
  obtain ⟨rfl, hz, rfl⟩ := Value.slice.inj e
  have hl := (List.getElem?_eq_some_iff.1 hk).1
  have ev := List.getElem?_eq_getElem (show k < VS.length by omega)
  obtain ⟨b, off, ea, ec⟩ := h4 k _ ev
  exact ⟨b, off, _, ea, ec, h3 k _ _ ev hk⟩

end Go.Proofs.YtioiljboihehcaaGreatDoor

namespace Go.Proofs.YtioiljboihehcaaGreatDoor

set_option linter.unusedVariables false

set_option linter.unusedSimpArgs false

open Go.RowKit

end Go.Proofs.YtioiljboihehcaaGreatDoor

namespace Go.Proofs.YtioiljboihehcaaGreatDoor

set_option linter.unusedVariables false

set_option linter.unusedSimpArgs false

open Go.RowKit

/-- The games that may stand in a pool in which a game is turned round. -/
def negU (C : List Nat) : List Nat := C ++ C.map negC

/-- neg, in a pool that holds nothing but a form's games. -/
theorem neg_call {M I : Nat → Prop} (pb sb : Nat) (mo mc ms : Value) (V : List PL) (BV : List Nat) (r : Nat) (W : World) (hP : PoolS M I W pb V BV mo mc ms (.map (some sb))) (hOK : PoolOK V BV) (hmap : MapF encN encN W sb (fun _ => none)) (hM : ∀ q, M q → q < W.heap.size ∧ q ≠ sb) (hI : ∀ q, I q → q < W.heap.size ∧ q ≠ sb)
    (h1 : r < V.length) (hn : V.length ≤ 240) :
    Calls Tryz.prog 95 #[.pointer (some ⟨pb, 0, none⟩), .int .i64 (r : Int)] W fun e w' => NegPost (negU (codesOf V)) pb sb mo mc ms W V M I (negC ((codesOf V).getD r 0)) e w' :=
  neg_all (U := negU (codesOf V)) (by unfold negU; rw [List.length_append, List.length_map, codesOf_length]; omega) pb sb mo mc ms _ r (Nat.lt_succ_self _) V BV M I _ W
    ⟨hP, hOK, fun x hx => List.mem_append_left _ (getD_mem (by rw [codesOf_length]; exact hx)), hmap, NegMO.none V, hM, hI⟩ h1 (fun a ha => List.mem_append_right _ (List.mem_map.2 ⟨a, sub_codes hOK h1 ha, rfl⟩))

end Go.Proofs.YtioiljboihehcaaGreatDoor
