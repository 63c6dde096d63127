import Derived.Test.YtlapkmhemepcaaaGreatDoorZn14
/- Lemmas. -/
namespace Go.Proofs.YtlapkmhemepcaaaGreatDoor
set_option linter.unusedVariables false
set_option linter.unusedSimpArgs false
open Go.RowKit
theorem ydi {R S:Nat→Prop}{W W':World}{v1 v2:Value}{A B:List (List Int × List Int)}(h1:NodeL R encI W v1 A)(h2:NodeL S encI W v2 B)(hW:W'=W.alloc (.cells #[v1,v2] 26)) :
  FormsI (· < W'.heap.size) W' (.slice (some ⟨W.heap.size,0,none⟩) 2 2) [A,B]:=by
 have hb:W'.heap[W.heap.size]?=some (.cells #[v1,v2] 26 (0,0)):=by rw[hW];exact heap_alloc_new W _
 have f:Fr NoM W W':=by rw[hW];exact(Fr.refl NoM W).alloc _
 refine⟨[v1,v2],⟨some ⟨W.heap.size,0,none⟩,2,rfl,by simp,by decide,fun j u hu=>⟨W.heap.size,0,rfl,?_⟩⟩,rfl,fun j nv Fi hv hF=>?_⟩
 ·rw[Nat.zero_add,cell_of_row _ _ _ _ _ _ hb]
  match j,hu with
  | 0,hu=>cases hu;rfl
  | 1,hu=>cases hu;rfl
  | j+2,hu=>simp at hu
 ·match j,hv,hF with
  | 0,hv,hF=>cases hv;cases hF;exact(h1.fr0 f).low
  | 1,hv,hF=>cases hv;cases hF;exact(h2.fr0 f).low
  | j+2,hv,hF=>simp at hv
end Go.Proofs.YtlapkmhemepcaaaGreatDoor
