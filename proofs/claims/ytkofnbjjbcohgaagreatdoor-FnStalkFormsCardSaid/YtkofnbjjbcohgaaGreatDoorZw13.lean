import Derived.Test.YtkofnbjjbcohgaaGreatDoorZw5
import Derived.Test.YtkofnbjjbcohgaaGreatDoorZw8
/- Lemmas. -/
namespace Go.Proofs.YtkofnbjjbcohgaaGreatDoor
set_option linter.unusedVariables false
set_option linter.unusedSimpArgs false
open Go.RowKit
def CodeOK (w:World)(cv:Value)(L:List Int):Prop:=SliceOf encC w cv L/\∀x∈L,0≤x/\x≤255
theorem CodeOK.fr0 {w w':World}{cv:Value}{L:List Int}(h:CodeOK w cv L)(hf:Fr NoM w w'):CodeOK w' cv L:=⟨h.1.fr0 hf,h.2⟩
theorem CurS.start {w:World}{cv:Value}{L:List Int}(h:CodeOK w cv L):CurS (w.alloc (.cells #[cv,.int .i64 0,.int .u64 0] 39)) w.heap.size 0:=by
 refine⟨cv,L,0,0,heap_alloc_new w _,h.1.fr0 ((Fr.refl NoM w).alloc _),h.2,Nat.le_refl _,fun hne q hq=>?_⟩;obtain⟨b,e,hb⟩:=h.1.block hne;rw[hq]at e;cases e
 exact hb
structure BoxI (W:World) (b:Nat) (R:Nat→Prop) (v:Value) (Fi:List (List Int × List Int)):Prop where
 cell:W.cell? ⟨b,0,none⟩=some v
 node:NodeL R encI W v Fi
section
variable {W W':World}{b:Nat}{R:Nat→Prop}{v:Value}{Fi:List (List Int × List Int)}
theorem BoxI.fr0 (h:BoxI W b R v Fi)(hf:Fr NoM W W'):BoxI W' b R v Fi:=⟨hf.cell h.cell (fun q=>q),h.node.fr0 hf⟩
theorem BoxI.made (h:NodeL R encI W v Fi)(hW:W'=W.alloc (.cells #[v] 27)):BoxI W' W.heap.size R v Fi:=by
 subst hW;exact⟨by rw[cell_of_row _ _ 0 _ _ _ (heap_alloc_new W _)];rfl,h.fr0 ((Fr.refl NoM W).alloc _)⟩
end
def FormPost (ok:Bool)(F:List (List Int × List Int))(w:World)(e:Ending)(w':World):Prop:=∃v',e=.returned (.tuple #[.agg #[v'],.bool ok])/\NodeL (fun b=>w.heap.size≤b) encI w' v' F/\Fr NoM w w'
theorem FormPost.ofP {ok:Bool}{FN:List PL}{F:List (List Int × List Int)}{w w':World}{e:Ending}(hF:F=i2 FN)(h:∃v',e=.returned (.tuple #[.agg #[v'],.bool ok])/\NodesS w.heap.size w' v' FN/\Fr NoM w w'):FormPost ok F w e w':=by
 obtain⟨v',e1,h1,f1⟩:=h;exact⟨v',e1,by rw[hF];exact h1.nodeL.toI,f1⟩
theorem FormPost.ofR {ok:Bool}{FN:List PL}{F:List (List Int × List Int)}{w w':World}{e:Ending}(hF:F=i2 FN)(h:∃v',e=.returned (.tuple #[.agg #[v'],.bool ok])/\NodeL (fun b=>w.heap.size≤b) encN w' v' FN/\Fr NoM w w'):FormPost ok F w e w':=by
 obtain⟨v',e1,h1,f1⟩:=h;exact⟨v',e1,by rw[hF];exact h1.toI,f1⟩
theorem zdn (av bv:Value)(A B:List Int)(w:World)(hA:Ints w av A)(hB:Ints w bv B) :
  Calls Tryz.prog 21 #[av,bv] w fun e w'=>e=.returned (.bool (decide (A=B)))/\∃q,w'=w.drewN q:=by
 obtain⟨aa,ac,rfl,hac,hacm,hA⟩:=hA;obtain⟨ba,bc,rfl,hbc,hbcm,hB⟩:=hB;have HA:=Hh hA;clear hA;have HB:=Hh hB;clear hB;by_cases hn:A.length=B.length
 ·have hne:((A.length:Int) != (B.length:Int))=false:=by simp[hn]
  have hfin:A.take A.length=B.take A.length→decide (A=B)=true:=fun h=>by
   rw[List.take_length,hn,List.take_length]at h;simp[h]
  have HN:=Hh hn;clear hn;have HF:=Hh hfin;clear hfin;go_enter Tryz.func21,Tryz.ntmps21;go_wp2;go_loopw [5] (fun i wr=>∃k q:Nat,k≤A.length/\i=.int .i64 k/\A.take k=B.take k/\wr=w.drewN q) (fun i _=>A.length-(intOf i).toNat)
  case atStart=>exact⟨0,0,by omega,rfl,rfl,rfl⟩
  case round =>
   obtain⟨k,q,hk,rfl,ht,rfl⟩:=hrel;have Ht:=Hh ht;clear ht;by_cases hlt':k<A.length
   ·have hlt2:k<B.length:=by rw[←HN.out];exact hlt'
    obtain⟨b1,o1,ha1,hc1⟩:=HA.out k A[k] (by simp);obtain⟨b2,o2,ha2,hc2⟩:=HB.out k B[k] (by simp);have ix1:=zaa aa A.length ac k b1 o1 hlt' ha1;have ix2:=zaa ba B.length bc k b2 o2 hlt2 ha2;unfold encI at hc1 hc2;clear ha1 ha2;by_cases hxy:A[k]=B[k]
    ·have hxy':(A[k] != B[k])=false:=by simp[hxy]
     have Hxy:=Hh hxy;clear hxy;go_wp2;go_quiet (fail);go_wp2;go_roundw
     case rel=>exact⟨k+1,_,by omega,by go_num,by rw[List.take_succ_eq_append_getElem hlt',List.take_succ_eq_append_getElem hlt2,Ht.out,Hxy.out],rfl⟩
     case measure=>simp[intOf];omega
    ·have hxy':(A[k] != B[k])=true:=by simp[hxy]
     have hfin:decide (A=B)=false:=by
      have:A≠B:=fun e=>by subst e;exact hxy rfl
      simp[this]
     have Hxy:=Hh hxy;clear hxy;have Hfin:=Hh hfin;clear hfin;go_wp2;go_quiet (fail);go_wp2;go_ret;exact⟨by rw[Hfin.out];rfl,_,World.drewN_drewN _ _ _⟩
   ·go_wp2
    go_ret;have hk':k=A.length:=by omega
    subst hk';exact⟨by rw[HF.out Ht.out];rfl,_,rfl⟩
 ·have hne:((A.length:Int) != (B.length:Int))=true:=by rw[bne_iff_ne];omega
  have hfin:decide (A=B)=false:=by
   have:A≠B:=fun e=>hn (by rw[e])
   simp[this]
  have Hfin:=Hh hfin;clear hfin hn;go_enter Tryz.func21,Tryz.ntmps21;go_wp2;go_ret;exact⟨by rw[Hfin.out];rfl,0,rfl⟩
set_option maxHeartbeats 2000000 in
theorem zsb {R S:Nat→Prop}(av bv:Value)(A B:List (List Int × List Int))(w:World)(hA:NodeL R encI w av A)(hB:NodeL S encI w bv B) :
  Calls Tryz.prog 8 #[.agg #[av],.agg #[bv]] w fun e w'=>e=.returned (.bool (decide (A=B)))/\Fr NoM w w':=by
 obtain⟨aa,ac,rfl,hac,hacm,hA⟩:=hA;obtain⟨ba,bc,rfl,hbc,hbcm,hB⟩:=hB;have HA:=Hh hA;clear hA;have HB:=Hh hB;clear hB;by_cases hn:A.length=B.length
 ·have hne:((A.length:Int) != (B.length:Int))=false:=by simp[hn]
  have hfin:A.take A.length=B.take A.length→decide (A=B)=true:=fun h=>by
   rw[List.take_length,hn,List.take_length]at h;simp[h]
  have HN:=Hh hn;clear hn;have HF:=Hh hfin;clear hfin;go_enter Tryz.func8,Tryz.ntmps8;go_wp2;obtain⟨w0,hw0⟩:∃w0:World,w0=(w.alloc (.cells #[.slice aa A.length ac] 27)).alloc (.cells #[.slice ba B.length bc] 27):=⟨_,rfl⟩;have F0:Fr NoM w w0:=by rw[hw0];exact((Fr.refl NoM w).alloc _).alloc _
  have k1:w0.cell? ⟨w.heap.size,0,none⟩=some (.slice aa A.length ac):=by
   rw[hw0,World.cell?_alloc_past _ _ _ (by simp),World.cell?_alloc_at _ _ _ _ rfl];rfl
  have k2:w0.cell? ⟨w.heap.size+1,0,none⟩=some (.slice ba B.length bc):=by
   rw[hw0,World.cell?_alloc_at _ _ _ _ (by simp)];rfl
  rw[←hw0];have HF0:=Hh F0;clear F0 hw0;have K1:=Hh k1;have K2:=Hh k2;clear k1 k2;go_loopw [5] (fun i wr=>∃k q:Nat,k≤A.length/\i=.int .i64 k/\A.take k=B.take k/\wr=w0.drewN q) (fun i _=>A.length-(intOf i).toNat)
  case atStart=>exact⟨0,0,by omega,rfl,rfl,rfl⟩
  case round =>
   obtain⟨k,q,hk,rfl,ht,hw⟩:=hrel;have k1:wr.cell? ⟨w.heap.size,0,none⟩=some (.slice aa A.length ac):=by rw[hw];exact K1.out
   have k2:wr.cell? ⟨w.heap.size+1,0,none⟩=some (.slice ba B.length bc):=by rw[hw];exact K2.out
   have Fwr:Fr NoM w wr:=by rw[hw];exact HF0.out.trans (M':=NoM) ⟨rfl,rfl,rfl,Nat.le_refl _,fun _ _ _=>rfl⟩ (fun _ _ q=>q)
   have Ht:=Hh ht;have HW:=Hh hw;have HFw:=Hh Fwr;clear ht hw Fwr;by_cases hlt':k<A.length
   ·have hlt2:k<B.length:=by rw[←HN.out];exact hlt'
    obtain⟨b1,o1,l1,r1,ha1,_,c1,c2,s1,s2,_,_⟩:=HA.out k A[k] (by simp);obtain⟨b2,o2,l2,r2,ha2,_,d1,d2,t1,t2,_,_⟩:=HB.out k B[k] (by simp);have ix1:=zbr aa A.length ac k b1 o1 hlt' ha1;have ix2:=zbr ba B.length bc k b2 o2 hlt2 ha2;have c1':=HFw.out.cell c1 (fun q=>q);have c2':=HFw.out.cell c2 (fun q=>q);have d1':=HFw.out.cell d1 (fun q=>q);have d2':=HFw.out.cell d2 (fun q=>q);have HS1:=Hh (fun(n:Nat)=>s1.fr0 (HFw.out.trans (M':=NoM) (c:=wr.drewN n) ⟨rfl,rfl,rfl,Nat.le_refl _,fun _ _ _=>rfl⟩ (fun _ _ q=>q)));have HS2:=Hh (fun(n:Nat)=>s2.fr0 (HFw.out.trans (M':=NoM) (c:=wr.drewN n) ⟨rfl,rfl,rfl,Nat.le_refl _,fun _ _ _=>rfl⟩ (fun _ _ q=>q)));have HT1:=Hh (fun(n:Nat)=>t1.fr0 (HFw.out.trans (M':=NoM) (c:=wr.drewN n) ⟨rfl,rfl,rfl,Nat.le_refl _,fun _ _ _=>rfl⟩ (fun _ _ q=>q)));have HT2:=Hh (fun(n:Nat)=>t2.fr0 (HFw.out.trans (M':=NoM) (c:=wr.drewN n) ⟨rfl,rfl,rfl,Nat.le_refl _,fun _ _ _=>rfl⟩ (fun _ _ q=>q)));clear ha1 ha2 c1 c2 d1 d2 s1 s2 t1 t2;by_cases e1:A[k].1=B[k].1
    ·have e1':decide (A[k].1=B[k].1)=true:=decide_eq_true e1
     have E1:=Hh e1;clear e1;by_cases e2:A[k].2=B[k].2
     ·have e2':decide (A[k].2=B[k].2)=true:=decide_eq_true e2
      have hAB:A.take (k+1)=B.take (k+1):=by
       have hab:A[k]=B[k]:=Prod.ext E1.out e2;rw[List.take_succ_eq_append_getElem hlt',List.take_succ_eq_append_getElem hlt2,Ht.out,hab]
      have HAB:=Hh hAB;clear e2 hAB;go_wp2;go_quiet ((first|(go_at_call 21;with_reducible exact Calls.quiet_of (zdn _ _ A[k].1 B[k].1 _ (HS1.out _) (HT1.out _)))|(go_at_call 21;with_reducible exact Calls.quiet_of (zdn _ _ A[k].2 B[k].2 _ (HS2.out _) (HT2.out _)))));go_wp2;go_roundw
      case rel=>exact⟨k+1,_,by omega,by go_num,HAB.out,by rw[HW.out];exact World.drewN_drewN _ _ _⟩
      case measure=>simp[intOf];omega
     ·have e2':decide (A[k].2=B[k].2)=false:=decide_eq_false e2
      have hf:decide (A=B)=false:=by
       have:A≠B:=fun e=>by subst e;exact e2 rfl
       simp[this]
      have HFn:=Hh hf;clear e2 hf;go_wp2;go_quiet ((first|(go_at_call 21;with_reducible exact Calls.quiet_of (zdn _ _ A[k].1 B[k].1 _ (HS1.out _) (HT1.out _)))|(go_at_call 21;with_reducible exact Calls.quiet_of (zdn _ _ A[k].2 B[k].2 _ (HS2.out _) (HT2.out _)))));go_wp2;go_ret;refine⟨congrArg (fun b=>Ending.returned (.bool b)) HFn.out.symm,?_⟩;exact HFw.out.trans (M':=NoM) ⟨rfl,rfl,rfl,Nat.le_refl _,fun _ _ _=>rfl⟩ (fun _ _ q=>q)
    ·have e1':decide (A[k].1=B[k].1)=false:=decide_eq_false e1
     have hf:decide (A=B)=false:=by
      have:A≠B:=fun e=>by subst e;exact e1 rfl
      simp[this]
     have HFn:=Hh hf;clear e1 hf;go_wp2;go_quiet ((first|(go_at_call 21;with_reducible exact Calls.quiet_of (zdn _ _ A[k].1 B[k].1 _ (HS1.out _) (HT1.out _)))|(go_at_call 21;with_reducible exact Calls.quiet_of (zdn _ _ A[k].2 B[k].2 _ (HS2.out _) (HT2.out _)))));go_wp2;go_ret;refine⟨congrArg (fun b=>Ending.returned (.bool b)) HFn.out.symm,?_⟩;exact HFw.out.trans (M':=NoM) ⟨rfl,rfl,rfl,Nat.le_refl _,fun _ _ _=>rfl⟩ (fun _ _ q=>q)
   ·have hk':k=A.length:=by omega
    have hf:decide (A=B)=true:=HF.out (by rw[←hk'];exact Ht.out);have HFn:=Hh hf;have HK:=Hh hk';clear hk' hf;go_wp2;go_ret;exact⟨by rw[HFn.out];rfl,HFw.out⟩
 ·have hne:((A.length:Int) != (B.length:Int))=true:=by rw[bne_iff_ne];omega
  have hfin:decide (A=B)=false:=by
   have:A≠B:=fun e=>hn (by rw[e])
   simp[this]
  have Hfin:=Hh hfin;clear hfin hn;go_enter Tryz.func8,Tryz.ntmps8;go_wp2;go_ret;exact⟨by rw[Hfin.out];rfl,((Fr.refl _ _).alloc _).alloc _⟩
theorem zpy {R S:Nat→Prop}(av bv:Value)(A B:List (List Int × List Int))(w:World)(hA:NodeL R encI w av A)(hB:NodeL S encI w bv B)(he:A=B) :
  Calls Tryz.prog 8 #[.agg #[av],.agg #[bv]] w fun e w'=>e=.returned (.bool true)/\Fr NoM w w':=by
 have h:=zsb av bv A B w hA hB;rw[decide_eq_true he]at h;exact h
theorem zup (cv:Value)(L:List Int)(w:World)(h:CodeOK w cv L):Calls Tryz.prog 4 #[cv] w fun e w'=>e=.returned (.bool (decide (65536<L.length)))/\w'=w:=by
 obtain⟨a,c,rfl,h1,h2,_⟩:=h.1;have hl:L.length≤9223372036854775807:=by omega
 clear h h1 h2;go_enter Tryz.func4,Tryz.ntmps4;go_wp2;go_ret;by_cases hb:65536<L.length
 ·have hc:(65536:Int)<(L.length:Int):=by omega
  simp[hb,hc]
 ·have hc:¬(65536:Int)<(L.length:Int):=by omega
  simp[hb,hc]
end Go.Proofs.YtkofnbjjbcohgaaGreatDoor
