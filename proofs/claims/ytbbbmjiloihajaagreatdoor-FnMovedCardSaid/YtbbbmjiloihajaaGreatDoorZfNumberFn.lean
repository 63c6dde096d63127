import Derived.Test.YtbbbmjiloihajaaGreatDoorZfRefNumOf
import Derived.Test.YtbbbmjiloihajaaGreatDoorZfTopP
/- What the claim of FnMovedCard needs of: NumberFn. -/
namespace Go.Proofs.YtbbbmjiloihajaaGreatDoor
set_option linter.unusedVariables false
set_option linter.unusedSimpArgs false
open Go.RowKit
structure BoxD (W:World) (b:Nat) (T P:Int):Prop where
 top:W.cell? ⟨b,0,none⟩=some (.int .i64 T)
 pow:W.cell? ⟨b,1,none⟩=some (.int .i64 P)
theorem BoxD.fr0 {W W':World}{b:Nat}{T P:Int}(h:BoxD W b T P)(hf:Fr NoM W W'):BoxD W' b T P:=⟨hf.cell h.top (fun q=>q),hf.cell h.pow (fun q=>q)⟩
theorem BoxD.made {W W':World}{T P:Int}(hW:W'=W.alloc (.cells #[.int .i64 T,.int .i64 P] 45)):BoxD W' W.heap.size T P:=by
 have h:W'.heap[W.heap.size]?=some (.cells #[.int .i64 T,.int .i64 P] 45 (0,0)):=by rw[hW];exact heap_alloc_new W _
 exact⟨by rw[cell_of_row W' _ 0 _ _ _ h];rfl,by rw[cell_of_row W' _ 1 _ _ _ h];rfl⟩
theorem zvg (Fi:List (List Int × List Int)):∃g:Bool,(g=true↔zb2 Fi):=by
 by_cases h:zb2 Fi
 ·exact⟨true,by simp[h]⟩
 ·exact⟨false,by simp[h]⟩
end Go.Proofs.YtbbbmjiloihajaaGreatDoor
