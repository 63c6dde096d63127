import Derived.Test.YtghekfmfonoocaaGreatDoorZt7
import Derived.Test.YtghekfmfonoocaaGreatDoorZt12
import Derived.Test.YtghekfmfonoocaaGreatDoorZth
import Derived.Test.YtghekfmfonoocaaGreatDoorZtc
/- Lemmas. -/
namespace Go.Proofs.YtghekfmfonoocaaGreatDoor
set_option linter.unusedVariables false
set_option linter.unusedSimpArgs false
open Go.RowKit
section
variable {U:List Nat}{pb sb:Nat}{mo mc ms:Value}{w W w':World}{V V1:List PL}{BV BV1:List Nat}{M I M1 I1:Nat→Prop}{f f1:Nat→Option Nat}
theorem ydp {Z:Nat}{L:List Nat}{n c:Nat}(hn:Nats W (.slice (some ⟨Z,0,none⟩) n c) L)(nx:PNx sb W V M I w' V1 M1 I1)(hZ:¬M Z/\Z≠sb/\Z<W.heap.size) :
  Nats w' (.slice (some ⟨Z,0,none⟩) n c) L/\¬M1 Z/\Z≠sb/\Z<w'.heap.size:=by
 refine⟨hn.fr nx.fr (fun _ q hq h=>?_),fun h=>?_,hZ.2.1,Nat.lt_of_lt_of_le hZ.2.2 nx.fr.size⟩
 ·have e:Z=q:=Option.some.inj hq
  subst e;exact h.elim hZ.1 hZ.2.1
 ·rcases nx.mM Z h with z|z
  ·exact hZ.1 z
  ·omega
end
end Go.Proofs.YtghekfmfonoocaaGreatDoor
