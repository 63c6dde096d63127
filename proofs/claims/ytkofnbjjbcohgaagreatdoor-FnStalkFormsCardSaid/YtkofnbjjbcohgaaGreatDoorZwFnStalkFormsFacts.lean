import Derived.Test.YtkofnbjjbcohgaaGreatDoorCards
import Derived.Test.YtkofnbjjbcohgaaGreatDoorTie
import Derived.ProofKit
import Derived.Deep.DeepHandedRow
/- Lemmas. -/
namespace Go.Proofs.YtkofnbjjbcohgaaGreatDoor.fnStalkForms
set_option linter.unusedVariables false
set_option linter.unusedSimpArgs false
open Go.ChangeShapes Go.WideShapes Go.ChangeAt Go.RowKit
theorem band {a b:Bool}(ha:a=true)(hb:b=true):(a && b)=true:=by rw[ha,hb];rfl
set_option maxHeartbeats 20000000 in
theorem closed:joinedFacts Tryz.pinned.checked.prog 3 Tryz.f3 (OpenSpec.ofChange Rows.fnStalkFormsSpec).bare Rows.fnStalkFormsRow=true:=by
 unfold joinedFacts;repeat' (with_reducible refine band ?_ ?_)
 all_goals (as_aux_lemma=>kernel_rfl)
theorem named:Tryz.pinned.checked.prog.funcNamed Rows.fnStalkFormsRow.func=some 3:=by kernel_rfl
theorem wfText:Rows.fnStalkFormsRow.wfByText (OpenSpec.ofChange Rows.fnStalkFormsSpec)=true:=by kernel_rfl
theorem mainIs:Tryz.pinned.checked.prog.mainIs=some (true, "cc356b5f207eb9ed256eed54135b771ff880e75c4906d009863d27f6582ba975".toList):=by kernel_rfl
theorem looksNo:false=Tryz.pinned.checked.prog.looks []:=by kernel_rfl
theorem goesNo:false=Rows.fnStalkFormsRow.goesBy Tryz.pinned.checked.prog:=by kernel_rfl
theorem noStand:Tryz.prog.wantsStandIn 22=false:=by kernel_rfl
theorem own:ownKnob Tryz.prog.godebug=none:=by kernel_rfl
end Go.Proofs.YtkofnbjjbcohgaaGreatDoor.fnStalkForms
