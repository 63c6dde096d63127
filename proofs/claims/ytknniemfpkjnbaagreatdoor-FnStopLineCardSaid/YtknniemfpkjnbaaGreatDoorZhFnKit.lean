import Derived.Test.YtknniemfpkjnbaaGreatDoorZhRefStar
import Derived.Test.YtknniemfpkjnbaaGreatDoorZhOrderKit
/- What the claim of FnStopLineCard needs of: FnKit. -/
namespace Go.Proofs.YtknniemfpkjnbaaGreatDoor
set_option linter.unusedVariables false
set_option linter.unusedSimpArgs false
open Go.RowKit
theorem zuy (av bv:Value)(A B:List Int)(w:World)(hA:Ints w av A)(hB:Ints w bv B) :
  Calls Tryz.prog 19 #[av,bv] w fun e w'=>e=.returned (.bool (decide (A=B)))/\∃q,w'=w.drewN q:=by
 obtain⟨aa,ac,rfl,hac,hacm,hA⟩:=hA;obtain⟨ba,bc,rfl,hbc,hbcm,hB⟩:=hB;have HA:=Hh hA;clear hA;have HB:=Hh hB;clear hB;by_cases hn:A.length=B.length
 ·have hne:((A.length:Int) != (B.length:Int))=false:=by simp[hn]
  have hfin:A.take A.length=B.take A.length→decide (A=B)=true:=fun h=>by
   rw[List.take_length,hn,List.take_length]at h;simp[h]
  have HN:=Hh hn;clear hn;have HF:=Hh hfin;clear hfin;go_enter Tryz.func19,Tryz.ntmps19;go_wp2;go_loopw [5] (fun i wr=>∃k q:Nat,k≤A.length/\i=.int .i64 k/\A.take k=B.take k/\wr=w.drewN q) (fun i _=>A.length-(intOf i).toNat)
  case atStart=>exact⟨0,0,by omega,rfl,rfl,rfl⟩
  case round =>
   obtain⟨k,q,hk,rfl,ht,rfl⟩:=hrel;have Ht:=Hh ht;clear ht;by_cases hlt':k<A.length
   ·have hlt2:k<B.length:=by rw[←HN.out];exact hlt'
    obtain⟨b1,o1,ha1,hc1⟩:=HA.out k A[k] (by simp);obtain⟨b2,o2,ha2,hc2⟩:=HB.out k B[k] (by simp);have ix1:=za7 aa A.length ac k b1 o1 hlt' ha1;have ix2:=za7 ba B.length bc k b2 o2 hlt2 ha2;unfold encI at hc1 hc2;clear ha1 ha2;by_cases hxy:A[k]=B[k]
    ·have hxy':(A[k] != B[k])=false:=by simp[hxy]
     have Hxy:=Hh hxy;clear hxy;go_wp2;go_quiet (fail);go_wp2;go_roundw
     case rel=>exact⟨k+1,_,by omega,by go_num,by rw[List.take_succ_eq_append_getElem hlt',List.take_succ_eq_append_getElem hlt2,Ht.out,Hxy.out],rfl⟩
     case measure=>simp[intOf];omega
    ·have hxy':(A[k] != B[k])=true:=by simp[hxy]
     have hfin:decide (A=B)=false:=by
      have:A≠B:=fun e=>by subst e;exact hxy rfl
      simp[this]
     have Hxy:=Hh hxy;clear hxy;have Hfin:=Hh hfin;clear hfin;go_wp2;go_quiet (fail);go_wp2;go_ret;exact⟨by rw[Hfin.out];rfl,_,World.drewN_drewN _ _ _⟩
   ·go_wp2
    go_ret;have hk':k=A.length:=by omega
    subst hk';exact⟨by rw[HF.out Ht.out];rfl,_,rfl⟩
 ·have hne:((A.length:Int) != (B.length:Int))=true:=by rw[bne_iff_ne];omega
  have hfin:decide (A=B)=false:=by
   have:A≠B:=fun e=>hn (by rw[e])
   simp[this]
  have Hfin:=Hh hfin;clear hfin hn;go_enter Tryz.func19,Tryz.ntmps19;go_wp2;go_ret;exact⟨by rw[Hfin.out];rfl,0,rfl⟩
def CodeOK (w:World)(cv:Value)(L:List Int):Prop:=SliceOf encC w cv L/\∀x∈L,0≤x/\x≤255
theorem CodeOK.fr0 {w w':World}{cv:Value}{L:List Int}(h:CodeOK w cv L)(hf:Fr NoM w w'):CodeOK w' cv L:=⟨h.1.fr0 hf,h.2⟩
theorem zyt (cv:Value)(L:List Int)(w:World)(h:CodeOK w cv L):Calls Tryz.prog 17 #[cv] w fun e w'=>e=.returned (.bool (decide (65536<L.length)))/\w'=w:=by
 obtain⟨a,c,rfl,h1,h2,_⟩:=h.1;have hl:L.length≤9223372036854775807:=by omega
 clear h h1 h2;go_enter Tryz.func17,Tryz.ntmps17;go_wp2;go_ret;by_cases hb:65536<L.length
 ·have hc:(65536:Int)<(L.length:Int):=by omega
  simp[hb,hc]
 ·have hc:¬(65536:Int)<(L.length:Int):=by omega
  simp[hb,hc]
theorem CurS.start {w:World}{cv:Value}{L:List Int}(h:CodeOK w cv L):CurS (w.alloc (.cells #[cv,.int .i64 0,.int .u64 0] 84)) w.heap.size 0:=by
 refine⟨cv,L,0,0,heap_alloc_new w _,h.1.fr0 ((Fr.refl NoM w).alloc _),h.2,Nat.le_refl _,fun hne q hq=>?_⟩;obtain⟨b,e,hb⟩:=h.1.block hne;rw[hq]at e;cases e
 exact hb
section
variable {W W':World}{b:Nat}{R:Nat→Prop}{v:Value}{Fi:List (List Int × List Int)}
end
end Go.Proofs.YtknniemfpkjnbaaGreatDoor
