import Derived.Test.YtlapkmhemepcaaaGreatDoorZm2
import Derived.Test.YtlapkmhemepcaaaGreatDoorZmx
import Derived.Test.YtlapkmhemepcaaaGreatDoorZmc
import Derived.Test.YtlapkmhemepcaaaGreatDoorZmd
/- Lemmas. -/
namespace Go.Proofs.YtlapkmhemepcaaaGreatDoor
set_option linter.unusedVariables false
set_option linter.unusedSimpArgs false
open Go.RowKit
section
variable {U:List Nat}{pb sb:Nat}{mo mc ms:Value}{w W w':World}{V V1:List PL}{BV BV1:List Nat}{M I M1 I1:Nat→Prop}{f f1:Nat→Option Nat}
theorem zeu (hUl:U.length<1000000)(a1 a2:Option Addr)(n1 n2 c1 c2:Nat){L R cs ds:List Nat}(e1:n1=L.length)(e2:n2=R.length)(h:PSt encN NegMO U pb sb mo mc ms (.map (some sb)) W V BV M I f)(hL:Nats W (.slice a1 n1 c1) L)(hR:Nats W (.slice a2 n2 c2) R)
  (rL:RowC V L cs) (rR:RowC V R ds) (hc:mkC cs ds∈U) (ll:L.length≤1000) (lr:R.length≤1000) :
  Calls Tryz.prog 89 #[.pointer (some ⟨pb,0,none⟩),.slice a1 n1 c1,.slice a2 n2 c2] W fun e w'=>zcb U pb sb mo mc ms W V M I (mkC cs ds) e w':=by
 subst e1;subst e2;have hlen:=h.len;refine(zzk pb V BV L R mo mc ms (.map (some sb)) a1 a2 c1 c2 W h.pool hL hR rL.1 rR.1 (by omega) (by omega) (by omega) (fun q hq=>by have:=(zg2 h.ok).lt V.length (Nat.le_refl _) q hq;omega)).mono ?_
 rintro e w' ⟨rfl,M5,I5,p5,hM5,hI5,f5⟩;obtain⟨st5,nx5,hr5,hc5⟩:=h.node (fun h hp=>h.mono hp) rL rR hc p5 hM5 hI5 f5;exact⟨_,_,_,_,_,_,rfl,st5,nx5,hr5,hc5⟩
end
theorem zk6 (x y:Int)(w:World):Calls Tryz.prog 53 #[.int .i64 x,.int .i64 y] w fun e w'=>e=.returned (.int .i64 (Lib.compareInt x y))/\w'=w:=Any.cmp_Compare_int Tryz.layCmp x y w
set_option maxRecDepth 4000 in
set_option maxHeartbeats 4000000 in
theorem zk5 (av bv:Value)(A B:List Nat)(w:World)(hA:Nats w av A)(hB:Nats w bv B):Calls Tryz.prog 109 #[av,bv] w fun e w'=>e=.returned (.int .i64 (cmpL A B))/\w'=w:=by
 obtain⟨aa,ac,rfl,hac,hacm,hA⟩:=hA;obtain⟨ba,bc,rfl,hbc,hbcm,hB⟩:=hB;have HA:=Hh hA;have HB:=Hh hB;clear hA hB;go_enter Tryz.func109,Tryz.ntmps109;go_wp2;go_loopw [11] (fun i W=>∃k:Nat,i=.int .i64 k/\k≤A.length/\k≤B.length/\cmpL A B=cmpL (A.drop k) (B.drop k)/\W=w) (fun i _=>A.length-(intOf i).toNat)
 case atStart=>exact⟨0,rfl,Nat.zero_le _,Nat.zero_le _,rfl,rfl⟩
 case round =>
  obtain⟨k,rfl,hk,hkb,hc,hw⟩:=hrel;have HC:=Hh hc;have HW:=Hh hw;clear hc;by_cases hlt:k<A.length
  ·obtain⟨b1,o1,ha1,c1⟩:=HA.out k A[k] (List.getElem?_eq_getElem _)
   have ix1:=za7 aa A.length ac k b1 o1 hlt ha1;have c1:wr.cell? ⟨b1,o1+k,none⟩=some (.int .i64 (A[k]:Int)):=by rw[hw];exact c1
   by_cases hltb:k<B.length
   ·obtain⟨b2,o2,ha2,c2⟩:=HB.out k B[k] (List.getElem?_eq_getElem _)
    have ix2:=za7 ba B.length bc k b2 o2 hltb ha2;have c2:wr.cell? ⟨b2,o2+k,none⟩=some (.int .i64 (B[k]:Int)):=by rw[hw];exact c2
    have hd:cmpL A B=if A[k]=B[k]then cmpL (A.drop (k+1)) (B.drop (k+1))else if A[k]<B[k]then -1 else 1:=by
     rw[HC.out,List.drop_eq_getElem_cons hlt,List.drop_eq_getElem_cons hltb];rfl
    clear ha1 ha2 hw;by_cases he:A[k]=B[k]
    ·have hcmp:Lib.compareInt (A[k]:Int) (B[k]:Int)=0:=by unfold Lib.compareInt;rw[if_neg (by omega),if_neg (by omega)]
     rw[if_pos he]at hd;have HD:=Hh hd;have HE:=Hh he;clear hd he;have hcall:=zk6 (A[k]:Int) (B[k]:Int) wr;rw[hcmp]at hcall;go_wp2_with fail;refine hcall.mono ?_
     rintro e w' ⟨rfl,rfl⟩;clear hcall hcmp;go_wp2;go_roundw
     case rel=>exact⟨k+1,by go_num,by omega,by omega,HD.out,HW.out⟩
     case measure=>simp[intOf];omega
    ·rw[if_neg he]at hd
     have hcall:=zk6 (A[k]:Int) (B[k]:Int) wr;by_cases hl:A[k]<B[k]
     ·have hcmp:Lib.compareInt (A[k]:Int) (B[k]:Int)=-1:=by unfold Lib.compareInt;rw[if_pos (by omega)]
      rw[if_pos hl]at hd;rw[hcmp]at hcall;have HD:=Hh hd;clear hd he hl hcmp;go_wp2_with fail;refine hcall.mono ?_
      rintro e w' ⟨rfl,rfl⟩;clear hcall;go_wp2;go_ret;exact⟨by rw[HD.out];rfl,HW.out⟩
     ·have hcmp:Lib.compareInt (A[k]:Int) (B[k]:Int)=1:=by unfold Lib.compareInt;rw[if_neg (by omega),if_pos (by omega)]
      rw[if_neg hl]at hd;rw[hcmp]at hcall;have HD:=Hh hd;clear hd he hl hcmp;go_wp2_with fail;refine hcall.mono ?_
      rintro e w' ⟨rfl,rfl⟩;clear hcall;go_wp2;go_ret;exact⟨by rw[HD.out];rfl,HW.out⟩
   ·have hd:cmpL A B=1:=by
     rw[HC.out,List.drop_eq_getElem_cons hlt,show B.drop k=[]from List.drop_eq_nil_of_le (by omega)];rfl
    have HD:=Hh hd;clear hd ha1 hw;go_wp2;go_ret;exact⟨by rw[HD.out];rfl,HW.out⟩
  ·have hk':k=A.length:=by omega
   subst hk';have hd:=HC.out;rw[List.drop_length]at hd;clear hw;by_cases hltb:A.length<B.length
   ·rw[List.drop_eq_getElem_cons hltb]at hd
    have HD:=Hh hd;clear hd;go_wp2;go_ret;exact⟨by rw[HD.out];rfl,HW.out⟩
   ·rw[List.drop_eq_nil_of_le (by omega)]at hd
    have HD:=Hh hd;clear hd;go_wp2;go_ret;exact⟨by rw[HD.out];rfl,HW.out⟩
def orI (x y:Int):Int:=if x=0 then y else x
def RowB (w:World)(q:Nat):Prop:=∃cur:Array Value,w.heap[q]?=some (.cells cur 3 (0,0))
theorem RowB.fr {M:Nat→Prop}{w w':World}{q:Nat}(h:RowB w q)(hf:Fr M w w')(hm:¬M q):RowB w' q:=by
 obtain⟨cur,h⟩:=h;exact⟨cur,hf.heap h hm⟩
def zbc (NV:List (Value × Value)):List Nat:=(zay NV).filterMap Value.ownBlock
theorem zo6 (NV:List (Value × Value))(l r:Value):zbc (NV ++ [(l,r)])=zbc NV ++ [l,r].filterMap Value.ownBlock:=by simp[zbc,zay]
theorem zi3 {NV:List (Value × Value)}{j:Nat}{x:Value × Value}(h:NV[j]?=some x):(∀q,x.1.ownBlock=some q→q∈zbc NV)/\∀q,x.2.ownBlock=some q→q∈zbc NV:=by
 have hx:=List.mem_of_getElem? h;constructor
 ·intro q hq;exact List.mem_filterMap.2 ⟨x.1,List.mem_flatMap.2 ⟨x,hx,by simp⟩,hq⟩
 ·intro q hq;exact List.mem_filterMap.2 ⟨x.2,List.mem_flatMap.2 ⟨x,hx,by simp⟩,hq⟩
set_option maxHeartbeats 400000 in
theorem zey (av bv:Value)(A B:List Int)(w:World)(hA:Ints w av A)(hB:Ints w bv B) :
  Calls Tryz.prog 180 #[av,bv] w fun e w'=>e=.returned (.bool (decide (A=B)))/\∃q,w'=w.drewN q:=by
 obtain⟨aa,ac,rfl,hac,hacm,hA⟩:=hA;obtain⟨ba,bc,rfl,hbc,hbcm,hB⟩:=hB;have HA:=Hh hA;clear hA;have HB:=Hh hB;clear hB;by_cases hn:A.length=B.length
 ·have hne:((A.length:Int) != (B.length:Int))=false:=by simp[hn]
  have hfin:A.take A.length=B.take A.length→decide (A=B)=true:=fun h=>by
   rw[List.take_length,hn,List.take_length]at h;simp[h]
  have HN:=Hh hn;clear hn;have HF:=Hh hfin;clear hfin;go_enter Tryz.func180,Tryz.ntmps180;go_wp2;go_loopw [5] (fun i wr=>∃k q:Nat,k≤A.length/\i=.int .i64 k/\A.take k=B.take k/\wr=w.drewN q) (fun i _=>A.length-(intOf i).toNat)
  case atStart=>exact⟨0,0,by omega,rfl,rfl,rfl⟩
  case round =>
   obtain⟨k,q,hk,rfl,ht,rfl⟩:=hrel;have Ht:=Hh ht;clear ht;by_cases hlt':k<A.length
   ·have hlt2:k<B.length:=by rw[←HN.out];exact hlt'
    obtain⟨b1,o1,ha1,hc1⟩:=HA.out k A[k] (by simp);obtain⟨b2,o2,ha2,hc2⟩:=HB.out k B[k] (by simp);have ix1:=za7 aa A.length ac k b1 o1 hlt' ha1;have ix2:=za7 ba B.length bc k b2 o2 hlt2 ha2;unfold encI at hc1 hc2;clear ha1 ha2;by_cases hxy:A[k]=B[k]
    ·have hxy':(A[k] != B[k])=false:=by simp[hxy]
     have Hxy:=Hh hxy;clear hxy;go_wp2;go_quiet (fail);go_wp2;go_roundw
     case rel=>exact⟨k+1,_,by omega,by go_num,by rw[List.take_succ_eq_append_getElem hlt',List.take_succ_eq_append_getElem hlt2,Ht.out,Hxy.out],rfl⟩
     case measure=>simp[intOf];omega
    ·have hxy':(A[k] != B[k])=true:=by simp[hxy]
     have hfin:decide (A=B)=false:=by
      have:A≠B:=fun e=>by subst e;exact hxy rfl
      simp[this]
     have Hxy:=Hh hxy;clear hxy;have Hfin:=Hh hfin;clear hfin;go_wp2;go_quiet (fail);go_wp2;go_ret;exact⟨by rw[Hfin.out];rfl,_,World.drewN_drewN _ _ _⟩
   ·go_wp2
    go_ret;have hk':k=A.length:=by omega
    subst hk';exact⟨by rw[HF.out Ht.out];rfl,_,rfl⟩
 ·have hne:((A.length:Int) != (B.length:Int))=true:=by rw[bne_iff_ne];omega
  have hfin:decide (A=B)=false:=by
   have:A≠B:=fun e=>hn (by rw[e])
   simp[this]
  have Hfin:=Hh hfin;clear hfin hn;go_enter Tryz.func180,Tryz.ntmps180;go_wp2;go_ret;exact⟨by rw[Hfin.out];rfl,0,rfl⟩
end Go.Proofs.YtlapkmhemepcaaaGreatDoor
