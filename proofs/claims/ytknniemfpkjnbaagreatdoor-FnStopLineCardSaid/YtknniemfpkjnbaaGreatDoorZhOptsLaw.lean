import Derived.Test.YtknniemfpkjnbaaGreatDoorZhNumFits
/- What the claim of FnStopLineCard needs of: OptsLaw. -/
namespace Go.Proofs.YtknniemfpkjnbaaGreatDoor
set_option linter.unusedVariables false
set_option linter.unusedSimpArgs false
open Go.RowKit
noncomputable def optF (Fs:List PL)(L:List Nat):List (List PL):=L.map fun i=>zad ((za0 Fs).getD i 0)
noncomputable def zvu (Fs:List PL):List (List PL):=optF Fs (za2 Fs (Fs.length-1)).1
noncomputable def zvt (Fs:List PL):List (List PL):=optF Fs (za2 Fs (Fs.length-1)).2
end Go.Proofs.YtknniemfpkjnbaaGreatDoor
