import Derived.Test.YtbbbmjiloihajaaGreatDoorCards
import Derived.Test.YtbbbmjiloihajaaGreatDoorTie
import Derived.ProofKit
import Derived.Deep.DeepHandedRow
/- What the claim of FnMovedCard needs of: FnMovedFacts. -/
namespace Go.Proofs.YtbbbmjiloihajaaGreatDoor.fnMoved
set_option linter.unusedVariables false
set_option linter.unusedSimpArgs false
open Go.ChangeShapes Go.WideShapes Go.ChangeAt Go.RowKit
theorem band {a b:Bool}(ha:a=true)(hb:b=true):(a && b)=true:=by rw[ha,hb];rfl
set_option maxHeartbeats 20000000 in
theorem closed:joinedFacts Tryz.pinned.checked.prog 9 Tryz.f9 (OpenSpec.ofChange Rows.fnMovedSpec).bare Rows.fnMovedRow=true:=by
 unfold joinedFacts;repeat' (with_reducible refine band ?_ ?_)
 all_goals (as_aux_lemma=>kernel_rfl)
theorem named:Tryz.pinned.checked.prog.funcNamed Rows.fnMovedRow.func=some 9:=by kernel_rfl
theorem wfText:Rows.fnMovedRow.wfByText (OpenSpec.ofChange Rows.fnMovedSpec)=true:=by kernel_rfl
theorem mainIs:Tryz.pinned.checked.prog.mainIs=some (true, "b89bf407c25ffe24c693e282df546db1b5af322534e502cc7730c68122857904".toList):=by kernel_rfl
theorem looksNo:false=Tryz.pinned.checked.prog.looks []:=by kernel_rfl
theorem goesNo:false=Rows.fnMovedRow.goesBy Tryz.pinned.checked.prog:=by kernel_rfl
theorem noStand:Tryz.prog.wantsStandIn 41=false:=by kernel_rfl
theorem own:ownKnob Tryz.prog.godebug=none:=by kernel_rfl
end Go.Proofs.YtbbbmjiloihajaaGreatDoor.fnMoved
