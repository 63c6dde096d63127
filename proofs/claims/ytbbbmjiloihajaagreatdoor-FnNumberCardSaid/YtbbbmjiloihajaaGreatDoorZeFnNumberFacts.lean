import Derived.Test.YtbbbmjiloihajaaGreatDoorCards
import Derived.Test.YtbbbmjiloihajaaGreatDoorTie
import Derived.ProofKit
import Derived.Deep.DeepHandedRow
/- What the claim of FnNumberCard needs of: FnNumberFacts. -/
namespace Go.Proofs.YtbbbmjiloihajaaGreatDoor.fnNumber
set_option linter.unusedVariables false
set_option linter.unusedSimpArgs false
open Go.ChangeShapes Go.WideShapes Go.ChangeAt Go.RowKit
theorem band {a b:Bool}(ha:a=true)(hb:b=true):(a && b)=true:=by rw[ha,hb];rfl
set_option maxHeartbeats 20000000 in
theorem closed:joinedFacts Tryz.pinned.checked.prog 10 Tryz.f10 (OpenSpec.ofChange Rows.fnNumberSpec).bare Rows.fnNumberRow=true:=by
 unfold joinedFacts;repeat' (with_reducible refine band ?_ ?_)
 all_goals (as_aux_lemma=>kernel_rfl)
theorem named:Tryz.pinned.checked.prog.funcNamed Rows.fnNumberRow.func=some 10:=by kernel_rfl
theorem wfText:Rows.fnNumberRow.wfByText (OpenSpec.ofChange Rows.fnNumberSpec)=true:=by kernel_rfl
theorem mainIs:Tryz.pinned.checked.prog.mainIs=some (true, "b89bf407c25ffe24c693e282df546db1b5af322534e502cc7730c68122857904".toList):=by kernel_rfl
theorem looksNo:false=Tryz.pinned.checked.prog.looks []:=by kernel_rfl
theorem goesNo:false=Rows.fnNumberRow.goesBy Tryz.pinned.checked.prog:=by kernel_rfl
theorem noStand:Tryz.prog.wantsStandIn 41=false:=by kernel_rfl
theorem own:ownKnob Tryz.prog.godebug=none:=by kernel_rfl
end Go.Proofs.YtbbbmjiloihajaaGreatDoor.fnNumber
