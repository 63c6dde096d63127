import Derived.ChangeSame
import Derived.ChangeArms
import Derived.OpenShut
import Derived.Deep.SlicePairs
import Derived.ChangeSlices
import Derived.WideShapes
import Derived.Test.YtghekfmfonoocaaGreatDoorZt3
/- Lemmas. -/
namespace Go.Proofs.YtghekfmfonoocaaGreatDoor
set_option linter.unusedVariables false
set_option linter.unusedSimpArgs false
open Go.RowKit Go.ChangeShapes Go.WideShapes Go.Deep
section
variable {H:Type}{enc:TypeId × Value→H}{w:World}{base:Nat}{spare:Nat→Bool}{held:Bool}
set_option maxRecDepth 20000 in
theorem openDyadic {r:Reach}{b0:Nat}{v:Value}{d:DataW H}{ps:List MemPlace}(hval:Value.okWide Tryz.prog w r b0 23 v)(h:DataW.Trod enc Tryz.prog w base spare held 23 v d ps) :
  ∃a b:Int,v=.agg #[.int .i64 a,.int .i64 b]/\(-9223372036854775808≤a/\a≤9223372036854775807)/\(-9223372036854775808≤b/\b≤9223372036854775807):=by
 obtain⟨cs,rfl,hcs⟩:=okWide_struct Tryz.underlying23 hval;rw[show Tryz.prog.cellsOf 23=2 from by kernel_rfl]at hcs;obtain⟨x,y,rfl⟩:∃x y,cs=#[x,y]:=by
  match cs,hcs with
  | ⟨[x,y]⟩,_=>exact⟨x,y,rfl⟩
 obtain⟨fuel,hf⟩:=h;obtain⟨y0,y1,n,_,_,h1,h2⟩:=trod_struct2 Tryz.underlying23 hf;obtain⟨a,ea,_,wa⟩:=DataW.trod_int Tryz.underlying3 h1;obtain⟨b,eb,_,wb⟩:=DataW.trod_int Tryz.underlying3 h2;have ea:[x]=[Value.int .i64 a]:=ea;have eb:[y]=[Value.int .i64 b]:=eb;cases ea
 cases eb
 refine⟨a,b,rfl,?_,?_⟩
 ·simp[Lit.wf,IntKind.min,IntKind.max,IntKind.signed,IntKind.bits]at wa
  omega
 ·simp[Lit.wf,IntKind.min,IntKind.max,IntKind.signed,IntKind.bits]at wb
  omega
end
end Go.Proofs.YtghekfmfonoocaaGreatDoor
