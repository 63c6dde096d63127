import Derived.Test.YtbbbmjiloihajaaGreatDoorZfGroupLaw
/- What the claim of FnMovedCard needs of: TinyP. -/
namespace Go.Proofs.YtbbbmjiloihajaaGreatDoor
set_option linter.unusedVariables false
set_option linter.unusedSimpArgs false
open Go.RowKit
section
variable {U:List Nat}{pb sb:Nat}{mo mc ms:Value}{w W w':World}{V V1:List PL}{BV BV1:List Nat}{M I M1 I1:Nat→Prop}{f f1:Nat→Option Nat}
end
end Go.Proofs.YtbbbmjiloihajaaGreatDoor
