import Derived.Deep.SlicePairs
import Derived.ChangeSlices
import Derived.Test.YtkofnbjjbcohgaaGreatDoorZw13
/- Lemmas. -/
namespace Go.Proofs.YtkofnbjjbcohgaaGreatDoor
set_option linter.unusedVariables false
set_option linter.unusedSimpArgs false
open Go.RowKit Go.ChangeShapes Go.WideShapes Go.Deep
theorem zyp {w:World}{a:Addr}{v:Value}(h:w.cell? a=some v):a=⟨a.block,a.off,none⟩:=by
 obtain⟨b,o,s⟩:=a;cases s with
 | none=>rfl
 | some k =>
  unfold World.cell? at h;simp only at h;split at h
  ·simp at h
  ·cases h
section
variable {H:Type}{enc:TypeId × Value→H}{w:World}{base:Nat}{spare:Nat→Bool}{held:Bool}
set_option maxRecDepth 20000 in
theorem openBytes {r:Reach}{b0:Nat}{v:Value}{d:DataW H}{ps:List MemPlace}(hval:Value.okWide Tryz.prog w r b0 22 v)(h:DataW.Trod enc Tryz.prog w base spare held 22 v d ps):∃L,CodeOK w v L:=by
 obtain⟨a0,len0,cap0,rfl⟩:=okWide_slice Tryz.underlying22 hval;obtain⟨fuel,hf⟩:=h;rcases open_ints Tryz.underlying22 Tryz.underlying5 (by kernel_rfl) hf with ⟨e,_⟩|⟨a,len,cap,zs,e,_,hl,hm,hz,_,hc,hw⟩
 ·cases e
  exact⟨[],⟨none,0,rfl,Nat.le_refl _,by decide,by simp⟩,by simp⟩
 ·cases e
  have hzl:len0≤zs.length:=by rw[hz];split <;> omega
  have htl:(zs.take len0).length=len0:=by rw[List.length_take];omega
  refine⟨zs.take len0,⟨some a,cap0,by rw[htl],by omega,by unfold maxLen at hm;omega,fun i y hy=>?_⟩,fun y hy=>?_⟩
  ·have hi:i<len0:=by rw[←htl];exact(List.getElem?_eq_some_iff.1 hy).1
   have h0:=hc 0 (by omega);rw[show a.add 0=a from rfl]at h0;have ha:=zyp h0;have h1:=hc i (by omega);rw[List.getElem?_take,if_pos hi]at hy;refine⟨a.block,a.off,by rw[←ha],?_⟩;rw[ha,add_plain]at h1;rw[List.getD_eq_getElem?_getD,hy]at h1;exact h1
  ·have h1:=hw y (List.mem_of_mem_take hy)
   simp[Lit.wf,IntKind.min,IntKind.max,IntKind.signed,IntKind.bits]at h1;omega
end
end Go.Proofs.YtkofnbjjbcohgaaGreatDoor
