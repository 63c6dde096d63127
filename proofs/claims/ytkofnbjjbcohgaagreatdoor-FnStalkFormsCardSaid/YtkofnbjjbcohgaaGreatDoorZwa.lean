import Derived.Test.YtkofnbjjbcohgaaGreatDoorZw13
import Derived.Test.YtkofnbjjbcohgaaGreatDoorZwy
/- Lemmas. -/
namespace Go.Proofs.YtkofnbjjbcohgaaGreatDoor
set_option linter.unusedVariables false
set_option linter.unusedSimpArgs false
open Go.RowKit
theorem zy2 {n:Nat}(W:World)(L:List Int)(ha:n=W.heap.size)(hl:L.length≤1000):Ints (W.alloc (.cells (L.map fun x=>Value.int .i64 x).toArray 3)) (.slice (some ⟨n,0,none⟩) L.length L.length) L:=by
 subst ha;have hb:=heap_alloc_new W (.cells (L.map fun x=>Value.int .i64 x).toArray 3);refine⟨_,L.length,rfl,Nat.le_refl _,by omega,fun j u hu=>⟨W.heap.size,0,rfl,?_⟩⟩;rw[Nat.zero_add,cell_of_row _ _ _ _ _ _ hb];simp[hu,encI]
theorem zyr {a n c q cb:Nat}(h:(Value.slice (some ⟨a,0,none⟩) n c).ownBlock=some q)(hc:cb<a):q≠cb:=by
 have e:a=q:=Option.some.inj h;omega
end Go.Proofs.YtkofnbjjbcohgaaGreatDoor
