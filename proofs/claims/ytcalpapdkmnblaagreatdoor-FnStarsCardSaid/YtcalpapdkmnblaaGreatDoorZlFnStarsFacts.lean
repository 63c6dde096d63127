import Derived.Test.YtcalpapdkmnblaaGreatDoorCards
import Derived.Test.YtcalpapdkmnblaaGreatDoorTie
import Derived.ProofKit
import Derived.Deep.DeepHandedRow
/- Lemmas. -/
namespace Go.Proofs.YtcalpapdkmnblaaGreatDoor.fnStars
set_option linter.unusedVariables false
set_option linter.unusedSimpArgs false
open Go.ChangeShapes Go.WideShapes Go.ChangeAt Go.RowKit
theorem band {a b:Bool}(ha:a=true)(hb:b=true):(a && b)=true:=by rw[ha,hb];rfl
set_option maxHeartbeats 20000000 in
theorem closed:joinedFacts Tryz.pinned.checked.prog 8 Tryz.f8 (OpenSpec.ofChange Rows.fnStarsSpec).bare Rows.fnStarsRow=true:=by
 unfold joinedFacts;repeat' (with_reducible refine band ?_ ?_)
 all_goals (as_aux_lemma=>kernel_rfl)
theorem named:Tryz.pinned.checked.prog.funcNamed Rows.fnStarsRow.func=some 8:=by kernel_rfl
theorem wfText:Rows.fnStarsRow.wfByText (OpenSpec.ofChange Rows.fnStarsSpec)=true:=by kernel_rfl
theorem mainIs:Tryz.pinned.checked.prog.mainIs=some (true, "a303159eda4f5750b7004a4b4f4793521ade7bbf513e165447050ca079edc328".toList):=by kernel_rfl
theorem looksNo:false=Tryz.pinned.checked.prog.looks []:=by kernel_rfl
theorem goesNo:false=Rows.fnStarsRow.goesBy Tryz.pinned.checked.prog:=by kernel_rfl
theorem noStand:Tryz.prog.wantsStandIn 22=false:=by kernel_rfl
theorem own:ownKnob Tryz.prog.godebug=none:=by kernel_rfl
end Go.Proofs.YtcalpapdkmnblaaGreatDoor.fnStars
