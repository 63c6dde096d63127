import Derived.Test.YtbbbmjiloihajaaGreatDoorZfTinyP
import Derived.Test.YtbbbmjiloihajaaGreatDoorZfDraws
import Derived.Test.YtbbbmjiloihajaaGreatDoorZfTimesP
import Derived.Deep.SlicePairs
import Derived.ChangeSlices
/- What the claim of FnMovedCard needs of: TinyR FnKit DyDraw FnSum FnOpen TinyFits CanKit. -/
namespace Go.Proofs.YtbbbmjiloihajaaGreatDoor
set_option linter.unusedVariables false
set_option linter.unusedSimpArgs false
open Go.RowKit
theorem zf2 (av bv:Value)(A B:List Int)(w:World)(hA:Ints w av A)(hB:Ints w bv B) :
  Calls Tryz.prog 55 #[av,bv] w fun e w'=>e=.returned (.bool (decide (A=B)))/\∃q,w'=w.drewN q:=by
 obtain⟨aa,ac,rfl,hac,hacm,hA⟩:=hA;obtain⟨ba,bc,rfl,hbc,hbcm,hB⟩:=hB;have HA:=Hh hA;clear hA;have HB:=Hh hB;clear hB;by_cases hn:A.length=B.length
 ·have hne:((A.length:Int) != (B.length:Int))=false:=by simp[hn]
  have hfin:A.take A.length=B.take A.length→decide (A=B)=true:=fun h=>by
   rw[List.take_length,hn,List.take_length]at h;simp[h]
  have HN:=Hh hn;clear hn;have HF:=Hh hfin;clear hfin;go_enter Tryz.func55,Tryz.ntmps55;go_wp2;go_loopw [5] (fun i wr=>∃k q:Nat,k≤A.length/\i=.int .i64 k/\A.take k=B.take k/\wr=w.drewN q) (fun i _=>A.length-(intOf i).toNat)
  case atStart=>exact⟨0,0,by omega,rfl,rfl,rfl⟩
  case round =>
   obtain⟨k,q,hk,rfl,ht,rfl⟩:=hrel;have Ht:=Hh ht;clear ht;by_cases hlt':k<A.length
   ·have hlt2:k<B.length:=by rw[←HN.out];exact hlt'
    obtain⟨b1,o1,ha1,hc1⟩:=HA.out k A[k] (by simp);obtain⟨b2,o2,ha2,hc2⟩:=HB.out k B[k] (by simp);have ix1:=za8 aa A.length ac k b1 o1 hlt' ha1;have ix2:=za8 ba B.length bc k b2 o2 hlt2 ha2;unfold encI at hc1 hc2;clear ha1 ha2;by_cases hxy:A[k]=B[k]
    ·have hxy':(A[k] != B[k])=false:=by simp[hxy]
     have Hxy:=Hh hxy;clear hxy;go_wp2;go_quiet (fail);go_wp2;go_roundw
     case rel=>exact⟨k+1,_,by omega,by go_num,by rw[List.take_succ_eq_append_getElem hlt',List.take_succ_eq_append_getElem hlt2,Ht.out,Hxy.out],rfl⟩
     case measure=>simp[intOf];omega
    ·have hxy':(A[k] != B[k])=true:=by simp[hxy]
     have hfin:decide (A=B)=false:=by
      have:A≠B:=fun e=>by subst e;exact hxy rfl
      simp[this]
     have Hxy:=Hh hxy;clear hxy;have Hfin:=Hh hfin;clear hfin;go_wp2;go_quiet (fail);go_wp2;go_ret;exact⟨by rw[Hfin.out];rfl,_,World.drewN_drewN _ _ _⟩
   ·go_wp2
    go_ret;have hk':k=A.length:=by omega
    subst hk';exact⟨by rw[HF.out Ht.out];rfl,_,rfl⟩
 ·have hne:((A.length:Int) != (B.length:Int))=true:=by rw[bne_iff_ne];omega
  have hfin:decide (A=B)=false:=by
   have:A≠B:=fun e=>hn (by rw[e])
   simp[this]
  have Hfin:=Hh hfin;clear hfin hn;go_enter Tryz.func55,Tryz.ntmps55;go_wp2;go_ret;exact⟨by rw[Hfin.out];rfl,0,rfl⟩
set_option maxHeartbeats 2000000 in
theorem zov {R S:Nat→Prop}(av bv:Value)(A B:List (List Int × List Int))(w:World)(hA:NodeL R encI w av A)(hB:NodeL S encI w bv B) :
  Calls Tryz.prog 33 #[.agg #[av],.agg #[bv]] w fun e w'=>e=.returned (.bool (decide (A=B)))/\Fr NoM w w':=by
 obtain⟨aa,ac,rfl,hac,hacm,hA⟩:=hA;obtain⟨ba,bc,rfl,hbc,hbcm,hB⟩:=hB;have HA:=Hh hA;clear hA;have HB:=Hh hB;clear hB;by_cases hn:A.length=B.length
 ·have hne:((A.length:Int) != (B.length:Int))=false:=by simp[hn]
  have hfin:A.take A.length=B.take A.length→decide (A=B)=true:=fun h=>by
   rw[List.take_length,hn,List.take_length]at h;simp[h]
  have HN:=Hh hn;clear hn;have HF:=Hh hfin;clear hfin;go_enter Tryz.func33,Tryz.ntmps33;go_wp2;obtain⟨w0,hw0⟩:∃w0:World,w0=(w.alloc (.cells #[.slice aa A.length ac] 31)).alloc (.cells #[.slice ba B.length bc] 31):=⟨_,rfl⟩;have F0:Fr NoM w w0:=by rw[hw0];exact((Fr.refl NoM w).alloc _).alloc _
  have k1:w0.cell? ⟨w.heap.size,0,none⟩=some (.slice aa A.length ac):=by
   rw[hw0,World.cell?_alloc_past _ _ _ (by simp),World.cell?_alloc_at _ _ _ _ rfl];rfl
  have k2:w0.cell? ⟨w.heap.size+1,0,none⟩=some (.slice ba B.length bc):=by
   rw[hw0,World.cell?_alloc_at _ _ _ _ (by simp)];rfl
  rw[←hw0];have HF0:=Hh F0;clear F0 hw0;have K1:=Hh k1;have K2:=Hh k2;clear k1 k2;go_loopw [5] (fun i wr=>∃k q:Nat,k≤A.length/\i=.int .i64 k/\A.take k=B.take k/\wr=w0.drewN q) (fun i _=>A.length-(intOf i).toNat)
  case atStart=>exact⟨0,0,by omega,rfl,rfl,rfl⟩
  case round =>
   obtain⟨k,q,hk,rfl,ht,hw⟩:=hrel;have k1:wr.cell? ⟨w.heap.size,0,none⟩=some (.slice aa A.length ac):=by rw[hw];exact K1.out
   have k2:wr.cell? ⟨w.heap.size+1,0,none⟩=some (.slice ba B.length bc):=by rw[hw];exact K2.out
   have Fwr:Fr NoM w wr:=by rw[hw];exact HF0.out.trans (M':=NoM) ⟨rfl,rfl,rfl,Nat.le_refl _,fun _ _ _=>rfl⟩ (fun _ _ q=>q)
   have Ht:=Hh ht;have HW:=Hh hw;have HFw:=Hh Fwr;clear ht hw Fwr;by_cases hlt':k<A.length
   ·have hlt2:k<B.length:=by rw[←HN.out];exact hlt'
    obtain⟨b1,o1,l1,r1,ha1,_,c1,c2,s1,s2,_,_⟩:=HA.out k A[k] (by simp);obtain⟨b2,o2,l2,r2,ha2,_,d1,d2,t1,t2,_,_⟩:=HB.out k B[k] (by simp);have ix1:=zbe aa A.length ac k b1 o1 hlt' ha1;have ix2:=zbe ba B.length bc k b2 o2 hlt2 ha2;have c1':=HFw.out.cell c1 (fun q=>q);have c2':=HFw.out.cell c2 (fun q=>q);have d1':=HFw.out.cell d1 (fun q=>q);have d2':=HFw.out.cell d2 (fun q=>q);have HS1:=Hh (fun(n:Nat)=>s1.fr0 (HFw.out.trans (M':=NoM) (c:=wr.drewN n) ⟨rfl,rfl,rfl,Nat.le_refl _,fun _ _ _=>rfl⟩ (fun _ _ q=>q)));have HS2:=Hh (fun(n:Nat)=>s2.fr0 (HFw.out.trans (M':=NoM) (c:=wr.drewN n) ⟨rfl,rfl,rfl,Nat.le_refl _,fun _ _ _=>rfl⟩ (fun _ _ q=>q)));have HT1:=Hh (fun(n:Nat)=>t1.fr0 (HFw.out.trans (M':=NoM) (c:=wr.drewN n) ⟨rfl,rfl,rfl,Nat.le_refl _,fun _ _ _=>rfl⟩ (fun _ _ q=>q)));have HT2:=Hh (fun(n:Nat)=>t2.fr0 (HFw.out.trans (M':=NoM) (c:=wr.drewN n) ⟨rfl,rfl,rfl,Nat.le_refl _,fun _ _ _=>rfl⟩ (fun _ _ q=>q)));clear ha1 ha2 c1 c2 d1 d2 s1 s2 t1 t2;by_cases e1:A[k].1=B[k].1
    ·have e1':decide (A[k].1=B[k].1)=true:=decide_eq_true e1
     have E1:=Hh e1;clear e1;by_cases e2:A[k].2=B[k].2
     ·have e2':decide (A[k].2=B[k].2)=true:=decide_eq_true e2
      have hAB:A.take (k+1)=B.take (k+1):=by
       have hab:A[k]=B[k]:=Prod.ext E1.out e2;rw[List.take_succ_eq_append_getElem hlt',List.take_succ_eq_append_getElem hlt2,Ht.out,hab]
      have HAB:=Hh hAB;clear e2 hAB;go_wp2;go_quiet ((first|(go_at_call 55;with_reducible exact Calls.quiet_of (zf2 _ _ A[k].1 B[k].1 _ (HS1.out _) (HT1.out _)))|(go_at_call 55;with_reducible exact Calls.quiet_of (zf2 _ _ A[k].2 B[k].2 _ (HS2.out _) (HT2.out _)))));go_wp2;go_roundw
      case rel=>exact⟨k+1,_,by omega,by go_num,HAB.out,by rw[HW.out];exact World.drewN_drewN _ _ _⟩
      case measure=>simp[intOf];omega
     ·have e2':decide (A[k].2=B[k].2)=false:=decide_eq_false e2
      have hf:decide (A=B)=false:=by
       have:A≠B:=fun e=>by subst e;exact e2 rfl
       simp[this]
      have HFn:=Hh hf;clear e2 hf;go_wp2;go_quiet ((first|(go_at_call 55;with_reducible exact Calls.quiet_of (zf2 _ _ A[k].1 B[k].1 _ (HS1.out _) (HT1.out _)))|(go_at_call 55;with_reducible exact Calls.quiet_of (zf2 _ _ A[k].2 B[k].2 _ (HS2.out _) (HT2.out _)))));go_wp2;go_ret;refine⟨congrArg (fun b=>Ending.returned (.bool b)) HFn.out.symm,?_⟩;exact HFw.out.trans (M':=NoM) ⟨rfl,rfl,rfl,Nat.le_refl _,fun _ _ _=>rfl⟩ (fun _ _ q=>q)
    ·have e1':decide (A[k].1=B[k].1)=false:=decide_eq_false e1
     have hf:decide (A=B)=false:=by
      have:A≠B:=fun e=>by subst e;exact e1 rfl
      simp[this]
     have HFn:=Hh hf;clear e1 hf;go_wp2;go_quiet ((first|(go_at_call 55;with_reducible exact Calls.quiet_of (zf2 _ _ A[k].1 B[k].1 _ (HS1.out _) (HT1.out _)))|(go_at_call 55;with_reducible exact Calls.quiet_of (zf2 _ _ A[k].2 B[k].2 _ (HS2.out _) (HT2.out _)))));go_wp2;go_ret;refine⟨congrArg (fun b=>Ending.returned (.bool b)) HFn.out.symm,?_⟩;exact HFw.out.trans (M':=NoM) ⟨rfl,rfl,rfl,Nat.le_refl _,fun _ _ _=>rfl⟩ (fun _ _ q=>q)
   ·have hk':k=A.length:=by omega
    have hf:decide (A=B)=true:=HF.out (by rw[←hk'];exact Ht.out);have HFn:=Hh hf;have HK:=Hh hk';clear hk' hf;go_wp2;go_ret;exact⟨by rw[HFn.out];rfl,HFw.out⟩
 ·have hne:((A.length:Int) != (B.length:Int))=true:=by rw[bne_iff_ne];omega
  have hfin:decide (A=B)=false:=by
   have:A≠B:=fun e=>hn (by rw[e])
   simp[this]
  have Hfin:=Hh hfin;clear hfin hn;go_enter Tryz.func33,Tryz.ntmps33;go_wp2;go_ret;exact⟨by rw[Hfin.out];rfl,((Fr.refl _ _).alloc _).alloc _⟩
def CodeOK (w:World)(cv:Value)(L:List Int):Prop:=SliceOf encC w cv L/\∀x∈L,0≤x/\x≤255
theorem CodeOK.fr0 {w w':World}{cv:Value}{L:List Int}(h:CodeOK w cv L)(hf:Fr NoM w w'):CodeOK w' cv L:=⟨h.1.fr0 hf,h.2⟩
theorem ya9 (cv:Value)(L:List Int)(w:World)(h:CodeOK w cv L):Calls Tryz.prog 24 #[cv] w fun e w'=>e=.returned (.bool (decide (65536<L.length)))/\w'=w:=by
 obtain⟨a,c,rfl,h1,h2,_⟩:=h.1;have hl:L.length≤9223372036854775807:=by omega
 clear h h1 h2;go_enter Tryz.func24,Tryz.ntmps24;go_wp2;go_ret;by_cases hb:65536<L.length
 ·have hc:(65536:Int)<(L.length:Int):=by omega
  simp[hb,hc]
 ·have hc:¬(65536:Int)<(L.length:Int):=by omega
  simp[hb,hc]
theorem CurS.start {w:World}{cv:Value}{L:List Int}(h:CodeOK w cv L):CurS (w.alloc (.cells #[cv,.int .i64 0,.int .u64 0] 111)) w.heap.size 0:=by
 refine⟨cv,L,0,0,heap_alloc_new w _,h.1.fr0 ((Fr.refl NoM w).alloc _),h.2,Nat.le_refl _,fun hne q hq=>?_⟩;obtain⟨b,e,hb⟩:=h.1.block hne;rw[hq]at e;cases e
 exact hb
structure BoxI (W:World) (b:Nat) (R:Nat→Prop) (v:Value) (Fi:List (List Int × List Int)):Prop where
 cell:W.cell? ⟨b,0,none⟩=some v
 node:NodeL R encI W v Fi
section
variable {W W':World}{b:Nat}{R:Nat→Prop}{v:Value}{Fi:List (List Int × List Int)}
theorem BoxI.fr0 (h:BoxI W b R v Fi)(hf:Fr NoM W W'):BoxI W' b R v Fi:=⟨hf.cell h.cell (fun q=>q),h.node.fr0 hf⟩
theorem BoxI.made (h:NodeL R encI W v Fi)(hW:W'=W.alloc (.cells #[v] 31)):BoxI W' W.heap.size R v Fi:=by
 subst hW;exact⟨by rw[cell_of_row _ _ 0 _ _ _ (heap_alloc_new W _)];rfl,h.fr0 ((Fr.refl NoM W).alloc _)⟩
end
def FormPost (ok:Bool)(F:List (List Int × List Int))(w:World)(e:Ending)(w':World):Prop:=∃v',e=.returned (.tuple #[.agg #[v'],.bool ok])/\NodeL (fun b=>w.heap.size≤b) encI w' v' F/\Fr NoM w w'
theorem FormPost.ofP {ok:Bool}{FN:List PL}{F:List (List Int × List Int)}{w w':World}{e:Ending}(hF:F=i2 FN)(h:∃v',e=.returned (.tuple #[.agg #[v'],.bool ok])/\NodesS w.heap.size w' v' FN/\Fr NoM w w'):FormPost ok F w e w':=by
 obtain⟨v',e1,h1,f1⟩:=h;exact⟨v',e1,by rw[hF];exact h1.nodeL.toI,f1⟩
theorem FormPost.ofR {ok:Bool}{FN:List PL}{F:List (List Int × List Int)}{w w':World}{e:Ending}(hF:F=i2 FN)(h:∃v',e=.returned (.tuple #[.agg #[v'],.bool ok])/\NodeL (fun b=>w.heap.size≤b) encN w' v' FN/\Fr NoM w w'):FormPost ok F w e w':=by
 obtain⟨v',e1,h1,f1⟩:=h;exact⟨v',e1,by rw[hF];exact h1.toI,f1⟩
theorem zui {R S:Nat→Prop}(av bv:Value)(A B:List (List Int × List Int))(w:World)(hA:NodeL R encI w av A)(hB:NodeL S encI w bv B)(he:A=B) :
  Calls Tryz.prog 33 #[.agg #[av],.agg #[bv]] w fun e w'=>e=.returned (.bool true)/\Fr NoM w w':=by
 have h:=zov av bv A B w hA hB;rw[decide_eq_true he]at h;exact h
def ya1 (w:World)(e:Ending)(w':World):Prop:=∃(v:Value) (Fi:List (List Int × List Int)) (t:Int) (p:Nat),e=.returned (.tuple #[.agg #[v],.agg #[.int .i64 t,.int .i64 (p:Int)]])/\NodeL (fun b=>w.heap.size≤b) encI w' v Fi/\Fr NoM w w'∧Fi.length≤12/\Red t p/\(-4≤t/\t≤4)/\p≤2
set_option maxRecDepth 8000 in
set_option maxHeartbeats 8000000 in
theorem zpz (cv:Value)(L:List Int)(w:World)(h:CodeOK w cv L):Calls Tryz.prog 47 #[cv] w fun e w'=>ya1 w e w':=by
 obtain⟨w1,hw1⟩:∃w1,w1=(w.alloc (.cells #[.slice none 0 0] 31)).alloc (.cells #[.int .i64 0,.int .i64 0] 45):=⟨_,rfl⟩;have f1:Fr NoM w w1:=by rw[hw1];exact((Fr.refl NoM w).alloc _).alloc _
 have hs1:w1.heap.size=w.heap.size+2:=by rw[hw1];simp
 have e0:w1.heap[w.heap.size]?=some (.cells #[.slice none 0 0] 31 (0,0)):=by rw[hw1];exact((Fr.refl NoM _).alloc _).heap (heap_alloc_new w _) (fun q=>q)
 have e1:w1.heap[w.heap.size+1]?=some (.cells #[.int .i64 0,.int .i64 0] 45 (0,0)):=by
  have h:=heap_alloc_new (w.alloc (.cells #[.slice none 0 0] 31)) (.cells #[.int .i64 0,.int .i64 0] 45);rw[World.size_alloc]at h;rw[hw1];exact h
 obtain⟨w2,hw2⟩:∃w2,w2=w1.alloc (.cells #[cv,.int .i64 0,.int .u64 0] 111):=⟨_,rfl⟩;have f2:Fr NoM w1 w2:=by rw[hw2];exact(Fr.refl NoM w1).alloc _
 have hc2:CurS w2 w1.heap.size 0:=by rw[hw2];exact CurS.start (h.fr0 f1)
 have hs2:w2.heap.size=w.heap.size+3:=by rw[hw2];simp[hs1]
 obtain⟨cb,hcb⟩:∃cb,cb=w.heap.size+1+1:=⟨_,rfl⟩;rw[hs1,show w.heap.size+2=cb from hcb.symm]at hc2;have hcb2:cb=w.heap.size+2:=hcb;have HCb:=Hh hcb2;have HS2:=Hh hs2;have HRs:=Hh (fun(W:World) (f:Fr (fun q=>q=cb) w2 W)=>show W.cell? ⟨w.heap.size,0,none⟩=some (.slice none 0 0)/\W.frozen? ⟨w.heap.size,0,none⟩=false/\W.cell? ⟨w.heap.size+1,0,none⟩=some (.int .i64 0)/\W.cell? ⟨w.heap.size+1,1,none⟩=some (.int .i64 0)/\W.frozen? ⟨w.heap.size+1,0,none⟩=false/\W.frozen? ⟨w.heap.size+1,1,none⟩=false from by
  have h0:=f.heap (f2.heap e0 (fun q=>q)) (fun e=>by have h4:=HCb.out;have e:w.heap.size=cb:=e;omega);have h1:=f.heap (f2.heap e1 (fun q=>q)) (fun e=>by have h4:=HCb.out;have e:w.heap.size+1=cb:=e;omega);exact⟨by rw[cell_of_row W _ 0 _ _ _ h0];rfl,by simp[World.frozen?,h0],by rw[cell_of_row W _ 0 _ _ _ h1];rfl,by rw[cell_of_row W _ 1 _ _ _ h1];rfl,by simp[World.frozen?,h1],by simp[World.frozen?,h1]⟩)
 have HF:=Hh (fun(W:World) (f:Fr (fun q=>q=cb) w2 W)=>((f1.trans f2 (fun _ _ q=>q)).trans f (fun q hq e=>by have h4:=HCb.out;have e:q=cb:=e;omega):Fr NoM w W));have hany:=zsm cb 0 2 w2 hc2 (by omega) (by omega);rw[show((2:Nat):Int)=2 from rfl]at hany;have HAny:=Hh hany;obtain⟨ca,cc,rfl,zz⟩:=id h.1;clear zz h f1 hs1 e0 e1 f2 hc2 hs2 hany hcb2;go_enter Tryz.func47,Tryz.ntmps47;go_upto_region 2 with fail;rw[←hw1,←hw2,←hcb];clear hw1 hw2 hcb;go_wp2_with fail;(with_reducible refine HAny.out.mono ?_);rintro e w4 ⟨v,Fi,rfl,n4,c4,f4,hlen⟩;have HLen:=Hh hlen;obtain⟨va,vc,rfl,zz⟩:=id n4;obtain⟨bf,hbf⟩:∃bf,bf=w4.heap.size:=⟨_,rfl⟩;obtain⟨W5,hW5⟩:∃W5,W5=w4.alloc (.cells #[.slice va Fi.length vc] 31):=⟨_,rfl⟩;have g5:Fr NoM w4 W5:=by rw[hW5];exact(Fr.refl NoM w4).alloc _
 have e5:W5.heap[bf]?=some (.cells #[.slice va Fi.length vc] 31 (0,0)):=by rw[hW5,hbf];exact heap_alloc_new w4 _
 have HC5:=Hh (c4.fr0 g5);have HN5:=Hh (n4.fr0 g5);have F5:=Hh (f4.trans g5 (fun _ _ q=>q.elim));have HBf:=Hh (show w2.heap.size≤bf from by have h1:=f4.size;omega);have HS:=Hh (fun(W:World) (f:Fr (fun q=>q=cb∨q=w.heap.size∨q=w.heap.size+1) W5 W)=>show W.cell? ⟨bf,0,none⟩=some (.slice va Fi.length vc)from by
  rw[cell_of_row W _ 0 _ _ _ (f.heap e5 (fun e=>by have h1:=HBf.out;have h2:=HS2.out;have h3:=HCb.out;rcases e with e|e|e <;> omega))];rfl)
 clear zz n4 c4 f4 g5 e5 HAny hlen;go_upto_region 3 with fail;rw[←hW5,←hbf];clear hW5 hbf;have HC5d:=Hh (show CurS W5.drew cb 40 from(HC5.out.mono (by omega)).fr0 ((Fr.refl NoM W5).drew));have G0:Fr (fun q=>q=cb) W5 W5.drew:=(Fr.refl (fun q=>q=cb) W5).drew;have h0:Fr (fun q=>q=cb∨q=w.heap.size∨q=w.heap.size+1) W5 W5.drew:=G0.mono (fun _ _ e=>.inl e);go_region_held3 (fun(W:World)=>W.cell? ⟨bf,0,none⟩=some (.slice va Fi.length vc))
  (first|exact HS.out _ (by assumption)|exact HS.out _ (Fr.setCell (by assumption) _ _ (fun _=>.inr (.inl rfl)))|exact HS.out _ (Fr.setCell (Fr.setCell (by assumption) _ _ (fun _=>.inr (.inr rfl))) _ _ (fun _=>.inr (.inr rfl)))|exact HS.out _ (Fr.setCell (Fr.setCell (Fr.setCell (by assumption) _ _ (fun _=>.inr (.inl rfl))) _ _ (fun _=>.inr (.inr rfl))) _ _ (fun _=>.inr (.inr rfl)))|exact HS.out _ (Fr.setCell (Fr.setCell (Fr.setCell (by assumption) _ _ (fun _=>.inr (.inr rfl))) _ _ (fun _=>.inr (.inr rfl))) _ _ (fun _=>.inr (.inl rfl))))
  (first
   | (go_at_call 101;(with_reducible refine(zdu cb 40 9 _ HC5d.out (by omega) ⟨by omega,by omega⟩).mono ?_);rintro e w6 ⟨y,rfl,y0,y1,c6,f6⟩;have y9:y<9:=(by omega);have hwr:IntKind.i64.wrap (y-4)=y-4:=(by rw[IntKind.wrap_i64];omega);have g6:Fr (fun q=>q=cb) W5 w6:=G0.trans f6 (fun _ _ q=>q);have h6:Fr (fun q=>q=cb∨q=w.heap.size∨q=w.heap.size+1) W5 w6:=g6.mono (fun _ _ e=>.inl e))
   | (go_at_call 101;(with_reducible refine(zdu cb (40+2) 3 _ c6 (by omega) ⟨by omega,by omega⟩).mono ?_);rintro e w7 ⟨z,rfl,z0,z1,c7,f7⟩;obtain⟨p,rfl⟩:∃p:Nat,z=(p:Int):=⟨z.toNat,by omega⟩;have p3:p<3:=(by omega);have g7:Fr (fun q=>q=cb) W5 w7:=g6.trans f7 (fun _ _ q=>q);have h7:Fr (fun q=>q=cb∨q=w.heap.size∨q=w.heap.size+1) W5 w7:=g7.mono (fun _ _ e=>.inl e))
   | (go_at_call 100;(try rw[hwr]);(with_reducible refine(zir (y-4) p _ ⟨by omega,by omega⟩ (by omega)).mono ?_);unfold dyV;rintro e w8 ⟨rfl,f8⟩;have g8:Fr (fun q=>q=cb) W5 w8:=g7.trans f8 (fun _ _ q=>q.elim);have h8:Fr (fun q=>q=cb∨q=w.heap.size∨q=w.heap.size+1) W5 w8:=g8.mono (fun _ _ e=>.inl e);obtain⟨r0,r1,r2,r3,r4,r5⟩:=HRs.out w8 (F5.out.trans g8 (fun _ _ q=>q)))
   | fail)
 all_goals
  have F8:=Hh g8;clear hwr;have HRd:=Hh (show Red (redT (y-4) p).1 (redT (y-4) p).2/\(-4≤(redT (y-4) p).1/\(redT (y-4) p).1≤4)/\(redT (y-4) p).2≤2 from⟨zdb _ _,by have h1:=zt3 p (y-4);omega,by have h1:=zxg p (y-4);omega⟩);obtain⟨T1,hT1⟩:∃T1,T1=(redT (y-4) p).1:=⟨_,rfl⟩;obtain⟨P1,hP1⟩:∃P1,P1=(redT (y-4) p).2:=⟨_,rfl⟩;have hrd:=HRd.out;rw[←hT1,←hP1]at hrd ⊢;have HRd:=Hh hrd;clear hrd hT1 hP1 f6 f7 f8 c6 c7 g6 g7 g8 h6 h7 h8 h0 G0;go_wp2_with fail;refine bodyPost_ret (v:=.tuple #[.agg #[.slice va Fi.length vc],.agg #[.int .i64 T1,.int .i64 (P1:Int)]]) (by simp[results,Tryz.results47,go_sem,r0,r1,r2,r3,r4,r5]) rfl ?_
  have hn:NodeL (fun b=>w2.heap.size≤b) encI w8 (.slice va Fi.length vc) Fi:=HN5.out.fr F8.out (fun q hq e=>by have hq:w2.heap.size≤q:=hq;have e:q=cb:=e;have h1:=HS2.out;have h2:=HCb.out;omega);have fs:Fr (fun q=>q=w.heap.size∨q=w.heap.size+1) w8 (((w8.setCell ⟨w.heap.size,0,none⟩ (.slice va Fi.length vc)).setCell ⟨w.heap.size+1,0,none⟩ (.int .i64 T1)).setCell ⟨w.heap.size+1,1,none⟩ (.int .i64 (P1:Int))):=(((Fr.refl _ w8).setCell _ _ (fun _=>.inl rfl)).setCell _ _ (fun _=>.inr rfl)).setCell _ _ (fun _=>.inr rfl);refine⟨_,Fi,T1,P1,rfl,?_,(HF.out w8 (F5.out.trans F8.out (fun _ _ q=>q))).trans fs (fun q hq e=>by rcases e with e|e <;> omega),by have:=HLen.out;omega,HRd.out.1,HRd.out.2.1,HRd.out.2.2⟩;exact(hn.fr fs (fun q hq e=>by have hq:w2.heap.size≤q:=hq;have h1:=HS2.out;rcases e with e|e <;> omega)).mono (fun q hq=>by have hq:w2.heap.size≤q:=hq;have h1:=HS2.out;omega)
end Go.Proofs.YtbbbmjiloihajaaGreatDoor
namespace Go.Proofs.YtbbbmjiloihajaaGreatDoor
set_option linter.unusedVariables false
set_option linter.unusedSimpArgs false
open Go.RowKit Go.ChangeShapes Go.WideShapes Go.Deep
theorem ye8 {w:World}{a:Addr}{v:Value}(h:w.cell? a=some v):a=⟨a.block,a.off,none⟩:=by
 obtain⟨b,o,s⟩:=a;cases s with
 | none=>rfl
 | some k =>
  unfold World.cell? at h;simp only at h;split at h
  ·simp at h
  ·cases h
section
variable {H:Type}{enc:TypeId × Value→H}{w:World}{base:Nat}{spare:Nat→Bool}{held:Bool}
set_option maxRecDepth 20000 in
theorem openBytes {r:Reach}{b0:Nat}{v:Value}{d:DataW H}{ps:List MemPlace}(hval:Value.okWide Tryz.prog w r b0 41 v)(h:DataW.Trod enc Tryz.prog w base spare held 41 v d ps):∃L,CodeOK w v L:=by
 obtain⟨a0,len0,cap0,rfl⟩:=okWide_slice Tryz.underlying41 hval;obtain⟨fuel,hf⟩:=h;rcases open_ints Tryz.underlying41 Tryz.underlying5 (by kernel_rfl) hf with ⟨e,_⟩|⟨a,len,cap,zs,e,_,hl,hm,hz,_,hc,hw⟩
 ·cases e
  exact⟨[],⟨none,0,rfl,Nat.le_refl _,by decide,by simp⟩,by simp⟩
 ·cases e
  have hzl:len0≤zs.length:=by rw[hz];split <;> omega
  have htl:(zs.take len0).length=len0:=by rw[List.length_take];omega
  refine⟨zs.take len0,⟨some a,cap0,by rw[htl],by omega,by unfold maxLen at hm;omega,fun i y hy=>?_⟩,fun y hy=>?_⟩
  ·have hi:i<len0:=by rw[←htl];exact(List.getElem?_eq_some_iff.1 hy).1
   have h0:=hc 0 (by omega);rw[show a.add 0=a from rfl]at h0;have ha:=ye8 h0;have h1:=hc i (by omega);rw[List.getElem?_take,if_pos hi]at hy;refine⟨a.block,a.off,by rw[←ha],?_⟩;rw[ha,add_plain]at h1;rw[List.getD_eq_getElem?_getD,hy]at h1;exact h1
  ·have h1:=hw y (List.mem_of_mem_take hy)
   simp[Lit.wf,IntKind.min,IntKind.max,IntKind.signed,IntKind.bits]at h1;omega
end
end Go.Proofs.YtbbbmjiloihajaaGreatDoor
namespace Go.Proofs.YtbbbmjiloihajaaGreatDoor
set_option linter.unusedVariables false
set_option linter.unusedSimpArgs false
open Go.RowKit
def CanMO (V:List PL)(f:Nat→Option Nat):Prop:=∀k i,f k=some i→k<V.length/\i<V.length/\IsCan ((za0 V).getD i 0) ((za0 V).getD k 0)
theorem CanMO.mono {V V':List PL}{f:Nat→Option Nat}(h:CanMO V f)(hp:V <+: V'):CanMO V' f:=fun k i e=>by
 obtain⟨a,b,c⟩:=h k i e;have:=hp.length_le;exact⟨by omega,by omega,by rw[zan hp b,zan hp a];exact c⟩
theorem CanMO.upd {V:List PL}{f:Nat→Option Nat}{x i:Nat}(h:CanMO V f)(hx:x<V.length)(hi:i<V.length)(hc:IsCan ((za0 V).getD i 0) ((za0 V).getD x 0)):CanMO V (upd f x i):=fun k j e=>by
 unfold Go.Proofs.YtbbbmjiloihajaaGreatDoor.upd at e;split at e
 ·rename_i ek;subst ek;cases e;exact⟨hx,hi,hc⟩
 ·exact h k j e
theorem CanMO.none (V:List PL):CanMO V (fun _=>none):=fun _ _ h=>by cases h
structure CSt (U:List Nat) (pb ob sb:Nat) (ms mn:Value) (W:World) (V:List PL) (BV:List Nat) (M I:Nat→Prop) (fo:Nat × Nat→Option Bool) (fc:Nat→Option Nat):Prop where
 pool:PoolS M I W pb V BV (.map (some ob)) (.map (some sb)) ms mn
 ok:PoolOK V BV
 inU:∀x,x<V.length→(za0 V).getD x 0∈U
 ord:MapF encP encB W ob fo
 ordOK:OrdF (za0 V) fo
 can:MapF encN encN W sb fc
 canOK:CanMO V fc
 mlt:∀q,M q→q<W.heap.size/\q≠ob/\q≠sb
 ilt:∀q,I q→q<W.heap.size/\q≠ob/\q≠sb
 os:ob≠sb
structure CNx (ob sb:Nat) (W:World) (V:List PL) (M I:Nat→Prop) (W':World) (V':List PL) (M' I':Nat→Prop):Prop where
 pre:V <+: V'
 mM:∀q,M' q→M q∨W.heap.size≤q
 mI:∀q,I' q→I q∨W.heap.size≤q
 fr:Fr (fun q=>M q∨q=ob∨q=sb) W W'
section
variable {U:List Nat}{pb ob sb:Nat}{ms mn:Value}{W W' W1 W2:World}{V V' V1 V2:List PL}{BV BV':List Nat}{M I M' I' M1 I1 M2 I2 X:Nat→Prop}{fo fo':Nat × Nat→Option Bool}{fc fc':Nat→Option Nat}
theorem CSt.fr (h:CSt U pb ob sb ms mn W V BV M I fo fc)(hf:Fr X W W')(hx:∀q,X q→¬M q/\¬I q/\q≠ob/\q≠sb):CSt U pb ob sb ms mn W' V BV M I fo fc :=
 ⟨h.pool.fr hf (fun q hq hX=>(hx q hX).1 hq) (fun q hq hX=>(hx q hX).2.1 hq),h.ok,h.inU,h.ord.fr hf (fun hX=>(hx ob hX).2.2.1 rfl),h.ordOK,h.can.fr hf (fun hX=>(hx sb hX).2.2.2 rfl),h.canOK,fun q hq=>⟨Nat.lt_of_lt_of_le (h.mlt q hq).1 hf.size,(h.mlt q hq).2⟩,fun q hq=>⟨Nat.lt_of_lt_of_le (h.ilt q hq).1 hf.size,(h.ilt q hq).2⟩,h.os⟩
theorem CSt.fr0 (h:CSt U pb ob sb ms mn W V BV M I fo fc)(hf:Fr NoM W W'):CSt U pb ob sb ms mn W' V BV M I fo fc:=h.fr hf (fun _ q=>q.elim)
theorem CSt.len (h:CSt U pb ob sb ms mn W V BV M I fo fc):V.length≤U.length:=zf7 h.ok h.inU
theorem CNx.refl (ob sb:Nat)(W:World)(V:List PL)(M I:Nat→Prop):CNx ob sb W V M I W V M I:=⟨List.prefix_refl _,fun _ h=>.inl h,fun _ h=>.inl h,Fr.refl _ _⟩
theorem CNx.of0 (hf:Fr NoM W W'):CNx ob sb W V M I W' V M I:=⟨List.prefix_refl _,fun _ h=>.inl h,fun _ h=>.inl h,hf.any⟩
theorem CNx.trans (h:CNx ob sb W V M I W1 V1 M1 I1)(h':CNx ob sb W1 V1 M1 I1 W2 V2 M2 I2):CNx ob sb W V M I W2 V2 M2 I2 :=
 ⟨h.pre.trans h'.pre,fun q hq=>(h'.mM q hq).elim (h.mM q) (fun z=>.inr (Nat.le_trans h.fr.size z)),fun q hq=>(h'.mI q hq).elim (h.mI q) (fun z=>.inr (Nat.le_trans h.fr.size z)),
  h.fr.trans h'.fr (fun k hk q=>q.elim (fun q=>(h.mM k q).elim .inl (fun z=>by omega)) .inr)⟩
theorem CNx.own {Y:Nat→Prop}(h:CNx ob sb W V M I W1 V1 M1 I1)(hf:Fr Y W1 W2)(hv:∀q,Y q→W.heap.size≤q):CNx ob sb W V M I W2 V1 M1 I1 :=
 ⟨h.pre,h.mM,h.mI,h.fr.trans hf (fun k hk q=>by have:=hv k q;omega)⟩
theorem CSt.ords (h:CSt U pb ob sb ms mn W V BV M I fo fc)(hf:Fr (fun q=>q=ob) W W')(hm:MapF encP encB W' ob fo')(ho:OrdF (za0 V) fo'):CSt U pb ob sb ms mn W' V BV M I fo' fc/\CNx ob sb W V M I W' V M I :=
 ⟨⟨h.pool.fr hf (fun q hq e=>(h.mlt q hq).2.1 e) (fun q hq e=>(h.ilt q hq).2.1 e),h.ok,h.inU,hm,ho,h.can.fr hf (fun e=>h.os e.symm),h.canOK,fun q hq=>⟨Nat.lt_of_lt_of_le (h.mlt q hq).1 hf.size,(h.mlt q hq).2⟩,fun q hq=>⟨Nat.lt_of_lt_of_le (h.ilt q hq).1 hf.size,(h.ilt q hq).2⟩,h.os⟩,
  ⟨List.prefix_refl _,fun _ h=>.inl h,fun _ h=>.inl h,hf.mono (fun _ _ q=>.inr (.inl q))⟩⟩
theorem CSt.store (h:CSt U pb ob sb ms mn W V BV M I fo fc)(hf:Fr (fun q=>q=sb) W W')(hm:MapF encN encN W' sb fc')(ho:CanMO V fc'):CSt U pb ob sb ms mn W' V BV M I fo fc'∧CNx ob sb W V M I W' V M I :=
 ⟨⟨h.pool.fr hf (fun q hq e=>(h.mlt q hq).2.2 e) (fun q hq e=>(h.ilt q hq).2.2 e),h.ok,h.inU,h.ord.fr hf (fun e=>h.os e),h.ordOK,hm,ho,fun q hq=>⟨Nat.lt_of_lt_of_le (h.mlt q hq).1 hf.size,(h.mlt q hq).2⟩,fun q hq=>⟨Nat.lt_of_lt_of_le (h.ilt q hq).1 hf.size,(h.ilt q hq).2⟩,h.os⟩,
  ⟨List.prefix_refl _,fun _ h=>.inl h,fun _ h=>.inl h,hf.mono (fun _ _ q=>.inr (.inr q))⟩⟩
theorem CSt.node {L R cs ds:List Nat}(h:CSt U pb ob sb ms mn W V BV M I fo fc)(hL:RowC V L cs)(hR:RowC V R ds)(hc:mkC cs ds∈U)
  (p:PoolS M' I' W' pb (za4 V BV L R).1 (za4 V BV L R).2.1 (.map (some ob)) (.map (some sb)) ms mn) (hM:∀q,M' q→M q∨W.heap.size≤q) (hI:∀q,I' q→I q∨W.heap.size≤q) (hf:Fr M W W') :
  CSt U pb ob sb ms mn W' (za4 V BV L R).1 (za4 V BV L R).2.1 (fun q=>M' q/\q<W'.heap.size) (fun q=>I' q/\q<W'.heap.size) fo fc ∧
   CNx ob sb W V M I W' (za4 V BV L R).1 (fun q=>M' q/\q<W'.heap.size) (fun q=>I' q/\q<W'.heap.size)/\(za4 V BV L R).2.2<(za4 V BV L R).1.length/\(za0 (za4 V BV L R).1).getD (za4 V BV L R).2.2 0=mkC cs ds:=by
 obtain⟨q1,q2,q3,q4⟩:=zev h.ok hL hR;have h1:=h.ord.lt;have h2:=h.can.lt;refine⟨⟨p.low,q1,zgr h.inU (by rw[q4];exact hc),h.ord.fr hf (fun e=>(h.mlt ob e).2.1 rfl),h.ordOK.mono (zf0 q2),h.can.fr hf (fun e=>(h.mlt sb e).2.2 rfl),h.canOK.mono q2,fun q hq=>⟨hq.2,fun e=>?_,fun e=>?_⟩,fun q hq=>⟨hq.2,fun e=>?_,fun e=>?_⟩,h.os⟩,⟨q2,fun q hq=>hM q hq.1,fun q hq=>hI q hq.1,hf.mono (fun _ _ q=>.inl q)⟩,q3,q4⟩
 ·exact(hM q hq.1).elim (fun z=>(h.mlt q z).2.1 e) (fun z=>by omega)
 ·exact(hM q hq.1).elim (fun z=>(h.mlt q z).2.2 e) (fun z=>by omega)
 ·exact(hI q hq.1).elim (fun z=>(h.ilt q z).2.1 e) (fun z=>by omega)
 ·exact(hI q hq.1).elim (fun z=>(h.ilt q z).2.2 e) (fun z=>by omega)
end
structure RSt (U:List Nat) (pb ob sb mb:Nat) (ms mn:Value) (w0:World) (V0:List PL) (M0 I0:Nat→Prop) (W:World) (qv kv va:Value) (Q Kp la:List Nat) (fs:Nat→Option Bool) (V:List PL) (BV:List Nat) (M I:Nat→Prop) (fo:Nat × Nat→Option Bool) (fc:Nat→Option Nat):Prop where
 st:CSt U pb ob sb ms mn W V BV M I fo fc
 nx:CNx ob sb w0 V0 M0 I0 W V M I
 rq:W.ownsRow w0.heap.size 3 1 qv Q.length (Q.map encN)
 rk:W.ownsRow w0.heap.size 3 1 kv Kp.length (Kp.map encN)
 sq:∀q,qv.ownBlock=some q→¬M q/\¬I q/\q≠ob/\q≠sb/\q≠mb/\kv.ownBlock≠some q
 sk:∀q,kv.ownBlock=some q→¬M q/\¬I q/\q≠ob/\q≠sb/\q≠mb
 smap:MapF encN encB W mb fs
 sm:¬M mb/\¬I mb/\mb≠ob/\mb≠sb/\w0.heap.size≤mb
 src:Nats W va la
 ss:la≠[]→∀q,va.ownBlock=some q→¬M q/\q≠ob/\q≠sb/\q≠mb/\qv.ownBlock≠some q/\kv.ownBlock≠some q
section
variable {U:List Nat}{pb ob sb mb:Nat}{ms mn:Value}{w0 W W' Wa:World}{V0 V V':List PL}{BV BV' Q Kp la L:List Nat}{M0 I0 M I M' I':Nat→Prop}{fo fo':Nat × Nat→Option Bool}{fc fc':Nat→Option Nat}{fs fs':Nat→Option Bool}{qv kv va v':Value}
theorem RSt.call (h:RSt U pb ob sb mb ms mn w0 V0 M0 I0 W qv kv va Q Kp la fs V BV M I fo fc)(st:CSt U pb ob sb ms mn W' V' BV' M' I' fo' fc')(nx:CNx ob sb W V M I W' V' M' I') :
  RSt U pb ob sb mb ms mn w0 V0 M0 I0 W' qv kv va Q Kp la fs V' BV' M' I' fo' fc':=by
 have kM:∀q,q<W.heap.size→¬M q→¬M' q:=fun q hq hm e=>(nx.mM q e).elim hm (fun z=>by omega)
 have kI:∀q,q<W.heap.size→¬I q→¬I' q:=fun q hq hm e=>(nx.mI q e).elim hm (fun z=>by omega)
 have hml:=h.smap.lt;refine⟨st,h.nx.trans nx,za1 h.rq nx.fr (fun q hq e=>?_),za1 h.rk nx.fr (fun q hq e=>?_),fun q hq=>?_,fun q hq=>?_,h.smap.fr nx.fr (fun e=>?_),⟨kM mb hml h.sm.1,kI mb hml h.sm.2.1,h.sm.2.2⟩,h.src.fr nx.fr (fun hne q hq e=>?_),fun hne q hq=>?_⟩
 ·obtain⟨a,b,c,d,_⟩:=h.sq q hq
  rcases e with e|e|e
  ·exact a e
  ·exact c e
  ·exact d e
 ·obtain⟨a,b,c,d,_⟩:=h.sk q hq
  rcases e with e|e|e
  ·exact a e
  ·exact c e
  ·exact d e
 ·obtain⟨a,b,c⟩:=h.sq q hq
  have hl:=(h.rq.lt q hq).2;exact⟨kM q hl a,kI q hl b,c⟩
 ·obtain⟨a,b,c⟩:=h.sk q hq
  have hl:=(h.rk.lt q hq).2;exact⟨kM q hl a,kI q hl b,c⟩
 ·rcases e with e|e|e
  ·exact h.sm.1 e
  ·exact h.sm.2.2.1 e
  ·exact h.sm.2.2.2.1 e
 ·obtain⟨a,b,c,_⟩:=h.ss hne q hq
  rcases e with e|e|e
  ·exact a e
  ·exact b e
  ·exact c e
 ·obtain⟨b,hb,hl⟩:=h.src.block hne
  rw[hq]at hb;cases hb
  obtain⟨a,c⟩:=h.ss hne q hq;exact⟨kM q hl a,c⟩
theorem RSt.fr0 (h:RSt U pb ob sb mb ms mn w0 V0 M0 I0 W qv kv va Q Kp la fs V BV M I fo fc)(hf:Fr NoM W W'):RSt U pb ob sb mb ms mn w0 V0 M0 I0 W' qv kv va Q Kp la fs V BV M I fo fc :=
 h.call (h.st.fr0 hf) (CNx.of0 hf)
theorem RSt.pushQ (h:RSt U pb ob sb mb ms mn w0 V0 M0 I0 W qv kv va Q Kp la fs V BV M I fo fc)(ha:Fr NoM W Wa)(ho:W'.ownsRow w0.heap.size 3 1 v' (Q.length+L.length) (Q.map encN++L.map encN))(hf:Fr (Own1 qv) Wa W')
  (hq:v'.ownBlock=qv.ownBlock∨∃b,v'.ownBlock=some b/\Wa.heap.size≤b):RSt U pb ob sb mb ms mn w0 V0 M0 I0 W' v' kv va (Q++L) Kp la fs V BV M I fo fc:=by
 have h:=h.fr0 ha;have nw:∀q,v'.ownBlock=some q→qv.ownBlock=some q∨Wa.heap.size≤q:=fun q e=>by
  rcases hq with h1|⟨b,h1,h2⟩
  ·exact .inl (h1 ▸ e)
  ·rw[h1]at e;cases e;exact .inr h2
 have h1:=h.st.ord.lt;have h2:=h.st.can.lt;have h3:=h.smap.lt;refine⟨h.st.fr hf (fun q hq'=>⟨(h.sq q hq').1,(h.sq q hq').2.1,(h.sq q hq').2.2.1,(h.sq q hq').2.2.2.1⟩),h.nx.own hf (fun q hq'=>(h.rq.lt q hq').1),by rw[List.length_append,List.map_append];exact ho,za1 h.rk hf (fun q hq' e=>(h.sq q e).2.2.2.2.2 hq'),fun q e=>?_,h.sk,h.smap.fr hf (fun e=>(h.sq mb e).2.2.2.2.1 rfl),h.sm,h.src.fr hf (fun hne q hq' e=>(h.ss hne q hq').2.2.2.2.1 e),fun hne q hq'=>?_⟩
 ·rcases nw q e with e'|e'
  ·exact h.sq q e'
  ·refine⟨fun z=>?_,fun z=>?_,fun z=>by omega,fun z=>by omega,fun z=>by omega,fun z=>?_⟩
   ·have:=(h.st.mlt q z).1;omega
   ·have:=(h.st.ilt q z).1;omega
   ·have:=(h.rk.lt q z).2;omega
 ·obtain⟨a,b,c,d,e,f⟩:=h.ss hne q hq'
  refine⟨a,b,c,d,fun e'=>?_,f⟩;rcases nw q e' with e'|e'
  ·exact e e'
  ·obtain⟨b',hb,hl⟩:=h.src.block hne
   rw[hq']at hb;cases hb;omega
theorem RSt.pushK {i:Nat}(h:RSt U pb ob sb mb ms mn w0 V0 M0 I0 W qv kv va Q Kp la fs V BV M I fo fc)(ha:Fr NoM W Wa)(ho:W'.ownsRow w0.heap.size 3 1 v' (Kp.length+1) (Kp.map encN ++ [i].map encN))(hf:Fr (Own1 kv) Wa W')
  (hq:v'.ownBlock=kv.ownBlock∨∃b,v'.ownBlock=some b/\Wa.heap.size≤b):RSt U pb ob sb mb ms mn w0 V0 M0 I0 W' qv v' va Q (Kp ++ [i]) la fs V BV M I fo fc:=by
 have h:=h.fr0 ha;have nw:∀q,v'.ownBlock=some q→kv.ownBlock=some q∨Wa.heap.size≤q:=fun q e=>by
  rcases hq with h1|⟨b,h1,h2⟩
  ·exact .inl (h1 ▸ e)
  ·rw[h1]at e;cases e;exact .inr h2
 have h1:=h.st.ord.lt;have h2:=h.st.can.lt;have h3:=h.smap.lt;refine⟨h.st.fr hf (fun q hq'=>⟨(h.sk q hq').1,(h.sk q hq').2.1,(h.sk q hq').2.2.1,(h.sk q hq').2.2.2.1⟩),h.nx.own hf (fun q hq'=>(h.rk.lt q hq').1),za1 h.rq hf (fun q hq' e=>(h.sq q hq').2.2.2.2.2 e),by rw[List.length_append,List.map_append];exact ho,fun q e=>?_,fun q e=>?_,h.smap.fr hf (fun e=>(h.sk mb e).2.2.2.2 rfl),h.sm,h.src.fr hf (fun hne q hq' e=>(h.ss hne q hq').2.2.2.2.2 e),fun hne q hq'=>?_⟩
 ·obtain⟨a,b,c,d,e1,f⟩:=h.sq q e
  refine⟨a,b,c,d,e1,fun z=>?_⟩;rcases nw q z with z|z
  ·exact f z
  ·have:=(h.rq.lt q e).2;omega
 ·rcases nw q e with e'|e'
  ·exact h.sk q e'
  ·refine⟨fun z=>?_,fun z=>?_,fun z=>by omega,fun z=>by omega,fun z=>by omega⟩
   ·have:=(h.st.mlt q z).1;omega
   ·have:=(h.st.ilt q z).1;omega
 ·obtain⟨a,b,c,d,e,f⟩:=h.ss hne q hq'
  refine⟨a,b,c,d,e,fun e'=>?_⟩;rcases nw q e' with e'|e'
  ·exact f e'
  ·obtain⟨b',hb,hl⟩:=h.src.block hne
   rw[hq']at hb;cases hb;omega
theorem RSt.see (h:RSt U pb ob sb mb ms mn w0 V0 M0 I0 W qv kv va Q Kp la fs V BV M I fo fc)(hf:Fr (fun q=>q=mb) W W')(hm:MapF encN encB W' mb fs'):RSt U pb ob sb mb ms mn w0 V0 M0 I0 W' qv kv va Q Kp la fs' V BV M I fo fc :=
 ⟨h.st.fr hf (fun q e=>by subst e;exact⟨h.sm.1,h.sm.2.1,h.sm.2.2.1,h.sm.2.2.2.1⟩),h.nx.own hf (fun q e=>by rw[e];exact h.sm.2.2.2.2),za1 h.rq hf (fun q hq e=>(h.sq q hq).2.2.2.2.1 e),za1 h.rk hf (fun q hq e=>(h.sk q hq).2.2.2.2 e),h.sq,h.sk,hm,h.sm,h.src.fr hf (fun hne q hq e=>(h.ss hne q hq).2.2.2.1 e),h.ss⟩
theorem RSt.look {va':Value}{la':List Nat}(h:RSt U pb ob sb mb ms mn w0 V0 M0 I0 W qv kv va Q Kp la fs V BV M I fo fc)(hn:Nats W va' la')(hI:la'≠[]→∀q,va'.ownBlock=some q→I q):RSt U pb ob sb mb ms mn w0 V0 M0 I0 W qv kv va' Q Kp la' fs V BV M I fo fc :=
 ⟨h.st,h.nx,h.rq,h.rk,h.sq,h.sk,h.smap,h.sm,hn,fun hne q hq=>⟨fun e=>h.st.pool.sep q e (hI hne q hq),(h.st.ilt q (hI hne q hq)).2.1,(h.st.ilt q (hI hne q hq)).2.2,fun e=>h.sm.2.1 (e ▸ hI hne q hq),fun e=>(h.sq q e).2.1 (hI hne q hq),fun e=>(h.sk q e).2.1 (hI hne q hq)⟩⟩
theorem RSt.pop {i g c:Nat}(h:RSt U pb ob sb mb ms mn w0 V0 M0 I0 W (.slice (some ⟨g,0,none⟩) (Q.length+1) c) kv va (Q ++ [i]) Kp la fs V BV M I fo fc):RSt U pb ob sb mb ms mn w0 V0 M0 I0 W (.slice (some ⟨g,0,none⟩) Q.length c) kv va Q Kp la fs V BV M I fo fc:=by
 refine⟨h.st,h.nx,⟨by simp,?_⟩,h.rk,fun q e=>h.sq q e,h.sk,h.smap,h.sm,h.src,fun hne q hq=>h.ss hne q hq⟩;have hr:=h.rq.2;rw[List.length_append]at hr;rcases hr with ⟨e,_⟩|⟨g',cap,cur,e,hb,hg,hn,hc,hs,ht⟩
 ·cases e
 ·cases e
  refine .inr ⟨g,c,cur,rfl,hb,hg,by simp at hn;omega,hc,hs,?_⟩;have ht2:=congrArg (fun l=>l.take (Q.length*1)) ht;simp only[List.take_take,List.map_append]at ht2;rw[List.length_singleton,Nat.mul_one,Nat.mul_one,Nat.min_eq_left (by omega)]at ht2;rw[Nat.mul_one,ht2,List.take_left' (by simp)]
end
end Go.Proofs.YtbbbmjiloihajaaGreatDoor
