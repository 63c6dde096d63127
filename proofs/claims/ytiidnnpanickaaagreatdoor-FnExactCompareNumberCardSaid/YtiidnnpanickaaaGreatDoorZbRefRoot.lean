import Derived.Test.YtiidnnpanickaaaGreatDoorZbRefNum
import Derived.Test.YtiidnnpanickaaaGreatDoorZbRefDropForm
/- What the claim of FnExactCompareNumberCard needs of: RefRoot. -/
namespace Go.Proofs.YtiidnnpanickaaaGreatDoor
set_option linter.unusedVariables false
set_option linter.unusedSimpArgs false
open Go.RowKit
section
variable {U : List Nat} {S : Nat → Prop} {w w' : World} {bb : Nat} {V : List PL} {BV : List Nat}
theorem rootR_any {R : Nat → Prop} (nv : Value) (Fs : List PL) (h : BkN U S w bb V BV) (hF : NodeL R encN w nv Fs) (hR : ∀ k, R k → ¬ S k) (hg : goodI (i2 Fs)) (hin : ∀ x ∈ codesOf Fs, x ∈ U) (hUl : U.length < 1000000) :
    Calls Tryz.prog 108 #[.pointer (some ⟨bb, 0, none⟩), .agg #[nv]] w fun e w' => BkPost U bb w S V (codeF Fs) e w' := by
  obtain ⟨g1, g2, g3, g4, g5, _⟩ := goodI_parts hg
  have hlen := h.len
  refine (root_any bb nv V Fs BV w h.book (bookOK_v h.ok) hF hR g4.opts (by omega) (fun y hy => by have := g3 y hy; omega) g1).mono ?_
  rintro e w' ⟨S', rfl, hb, hS, hf⟩
  obtain ⟨a1, a2, a3, a4⟩ := addB_code Fs g4.opts h.ok
  have hAl : (addB V BV Fs).2.2.length = Fs.length := by rw [a3.len, codesOf_length]
  obtain ⟨n, hn'⟩ : ∃ n, Fs.length = n + 1 := ⟨Fs.length - 1, by omega⟩
  obtain ⟨r, hr, hrl, hrc⟩ := RowC.get (P := (codesOf Fs).length) (p := n) (by rw [List.take_length]; exact a3) (by rw [codesOf_length]; omega) (List.getElem?_eq_getElem (show n < (codesOf Fs).length by rw [codesOf_length]; omega))
  have hrB : rootB V BV Fs = r := by
    unfold rootB
    rw [List.getD_eq_getElem?_getD, show Fs.length - 1 = n from by omega, hr]; rfl
  rw [hrB]
  refine ⟨r, _, _, _, rfl, ⟨hb.cut, a1, fun q hq => hq.2, fun x hx => ?_⟩, a2, fun q hq => hS q hq.1, hf, hrl, ?_⟩
  · rcases List.mem_append.1 (a4 x hx) with z | z
    · obtain ⟨j, hj, e⟩ := List.getElem_of_mem z
      rw [codesOf_length] at hj
      have := h.inU j hj
      rw [List.getD_eq_getElem?_getD, List.getElem?_eq_getElem (by rw [codesOf_length]; exact hj)] at this
      rw [← e]; exact this
    · exact hin _ z
  · rw [hrc]
    unfold codeF
    rw [show Fs.length - 1 = n from by omega, List.getD_eq_getElem?_getD, List.getElem?_eq_getElem (show n < (codesOf Fs).length by rw [codesOf_length]; omega)]
    rfl
end
end Go.Proofs.YtiidnnpanickaaaGreatDoor
