import Derived.Test.YtbbbmjiloihajaaGreatDoorZeTinyP
import Derived.Test.YtbbbmjiloihajaaGreatDoorZeDraws
import Derived.Test.YtbbbmjiloihajaaGreatDoorZeTimesP
/- What the claim of FnNumberCard needs of: TinyR FnKit DyDraw. -/
namespace Go.Proofs.YtbbbmjiloihajaaGreatDoor
set_option linter.unusedVariables false
set_option linter.unusedSimpArgs false
open Go.RowKit
theorem vInts_any (av bv:Value)(A B:List Int)(w:World)(hA:Ints w av A)(hB:Ints w bv B) :
  Calls Tryz.prog 55 #[av,bv] w fun e w'=>e=.returned (.bool (decide (A=B)))∧∃q,w'=w.drewN q:=by
 obtain⟨aa,ac,rfl,hac,hacm,hA⟩:=hA;obtain⟨ba,bc,rfl,hbc,hbcm,hB⟩:=hB;have HA:=Hh hA;clear hA;have HB:=Hh hB;clear hB;by_cases hn:A.length=B.length
 ·have hne:((A.length:Int) != (B.length:Int))=false:=by simp[hn]
  have hfin:A.take A.length=B.take A.length→decide (A=B)=true:=fun h=>by
   rw[List.take_length,hn,List.take_length]at h;simp[h]
  have HN:=Hh hn;clear hn;have HF:=Hh hfin;clear hfin;go_enter Tryz.func55,Tryz.ntmps55;go_wp2;go_loopw [5] (fun i wr=>∃k q:Nat,k≤A.length∧i=.int .i64 k∧A.take k=B.take k∧wr=w.drewN q) (fun i _=>A.length-(intOf i).toNat)
  case atStart=>exact⟨0,0,by omega,rfl,rfl,rfl⟩
  case round =>
   obtain⟨k,q,hk,rfl,ht,rfl⟩:=hrel;have Ht:=Hh ht;clear ht;by_cases hlt':k<A.length
   ·have hlt2:k<B.length:=by rw[←HN.out];exact hlt'
    obtain⟨b1,o1,ha1,hc1⟩:=HA.out k A[k] (by simp);obtain⟨b2,o2,ha2,hc2⟩:=HB.out k B[k] (by simp);have ix1:=ixInts aa A.length ac k b1 o1 hlt' ha1;have ix2:=ixInts ba B.length bc k b2 o2 hlt2 ha2;unfold encI at hc1 hc2;clear ha1 ha2;by_cases hxy:A[k]=B[k]
    ·have hxy':(A[k] != B[k])=false:=by simp[hxy]
     have Hxy:=Hh hxy;clear hxy;go_wp2;go_quiet (fail);go_wp2;go_roundw
     case rel=>exact⟨k+1,_,by omega,by go_num,by rw[List.take_succ_eq_append_getElem hlt',List.take_succ_eq_append_getElem hlt2,Ht.out,Hxy.out],rfl⟩
     case measure=>simp[intOf];omega
    ·have hxy':(A[k] != B[k])=true:=by simp[hxy]
     have hfin:decide (A=B)=false:=by
      have:A≠B:=fun e=>by subst e;exact hxy rfl
      simp[this]
     have Hxy:=Hh hxy;clear hxy;have Hfin:=Hh hfin;clear hfin;go_wp2;go_quiet (fail);go_wp2;go_ret;exact⟨by rw[Hfin.out];rfl,_,World.drewN_drewN _ _ _⟩
   ·go_wp2
    go_ret;have hk':k=A.length:=by omega
    subst hk';exact⟨by rw[HF.out Ht.out];rfl,_,rfl⟩
 ·have hne:((A.length:Int) != (B.length:Int))=true:=by rw[bne_iff_ne];omega
  have hfin:decide (A=B)=false:=by
   have:A≠B:=fun e=>hn (by rw[e])
   simp[this]
  have Hfin:=Hh hfin;clear hfin hn;go_enter Tryz.func55,Tryz.ntmps55;go_wp2;go_ret;exact⟨by rw[Hfin.out];rfl,0,rfl⟩
set_option maxHeartbeats 2000000 in
theorem vSame_any {R S:Nat→Prop}(av bv:Value)(A B:List (List Int × List Int))(w:World)(hA:NodeL R encI w av A)(hB:NodeL S encI w bv B) :
  Calls Tryz.prog 33 #[.agg #[av],.agg #[bv]] w fun e w'=>e=.returned (.bool (decide (A=B)))∧Fr NoM w w':=by
 obtain⟨aa,ac,rfl,hac,hacm,hA⟩:=hA;obtain⟨ba,bc,rfl,hbc,hbcm,hB⟩:=hB;have HA:=Hh hA;clear hA;have HB:=Hh hB;clear hB;by_cases hn:A.length=B.length
 ·have hne:((A.length:Int) != (B.length:Int))=false:=by simp[hn]
  have hfin:A.take A.length=B.take A.length→decide (A=B)=true:=fun h=>by
   rw[List.take_length,hn,List.take_length]at h;simp[h]
  have HN:=Hh hn;clear hn;have HF:=Hh hfin;clear hfin;go_enter Tryz.func33,Tryz.ntmps33;go_wp2;obtain⟨w0,hw0⟩:∃w0:World,w0=(w.alloc (.cells #[.slice aa A.length ac] 31)).alloc (.cells #[.slice ba B.length bc] 31):=⟨_,rfl⟩;have F0:Fr NoM w w0:=by rw[hw0];exact((Fr.refl NoM w).alloc _).alloc _
  have k1:w0.cell? ⟨w.heap.size,0,none⟩=some (.slice aa A.length ac):=by
   rw[hw0,World.cell?_alloc_past _ _ _ (by simp),World.cell?_alloc_at _ _ _ _ rfl];rfl
  have k2:w0.cell? ⟨w.heap.size+1,0,none⟩=some (.slice ba B.length bc):=by
   rw[hw0,World.cell?_alloc_at _ _ _ _ (by simp)];rfl
  rw[←hw0];have HF0:=Hh F0;clear F0 hw0;have K1:=Hh k1;have K2:=Hh k2;clear k1 k2;go_loopw [5] (fun i wr=>∃k q:Nat,k≤A.length∧i=.int .i64 k∧A.take k=B.take k∧wr=w0.drewN q) (fun i _=>A.length-(intOf i).toNat)
  case atStart=>exact⟨0,0,by omega,rfl,rfl,rfl⟩
  case round =>
   obtain⟨k,q,hk,rfl,ht,hw⟩:=hrel;have k1:wr.cell? ⟨w.heap.size,0,none⟩=some (.slice aa A.length ac):=by rw[hw];exact K1.out
   have k2:wr.cell? ⟨w.heap.size+1,0,none⟩=some (.slice ba B.length bc):=by rw[hw];exact K2.out
   have Fwr:Fr NoM w wr:=by rw[hw];exact HF0.out.trans (M':=NoM) ⟨rfl,rfl,rfl,Nat.le_refl _,fun _ _ _=>rfl⟩ (fun _ _ q=>q)
   have Ht:=Hh ht;have HW:=Hh hw;have HFw:=Hh Fwr;clear ht hw Fwr;by_cases hlt':k<A.length
   ·have hlt2:k<B.length:=by rw[←HN.out];exact hlt'
    obtain⟨b1,o1,l1,r1,ha1,_,c1,c2,s1,s2,_,_⟩:=HA.out k A[k] (by simp);obtain⟨b2,o2,l2,r2,ha2,_,d1,d2,t1,t2,_,_⟩:=HB.out k B[k] (by simp);have ix1:=ixNode aa A.length ac k b1 o1 hlt' ha1;have ix2:=ixNode ba B.length bc k b2 o2 hlt2 ha2;have c1':=HFw.out.cell c1 (fun q=>q);have c2':=HFw.out.cell c2 (fun q=>q);have d1':=HFw.out.cell d1 (fun q=>q);have d2':=HFw.out.cell d2 (fun q=>q);have HS1:=Hh (fun(n:Nat)=>s1.fr0 (HFw.out.trans (M':=NoM) (c:=wr.drewN n) ⟨rfl,rfl,rfl,Nat.le_refl _,fun _ _ _=>rfl⟩ (fun _ _ q=>q)));have HS2:=Hh (fun(n:Nat)=>s2.fr0 (HFw.out.trans (M':=NoM) (c:=wr.drewN n) ⟨rfl,rfl,rfl,Nat.le_refl _,fun _ _ _=>rfl⟩ (fun _ _ q=>q)));have HT1:=Hh (fun(n:Nat)=>t1.fr0 (HFw.out.trans (M':=NoM) (c:=wr.drewN n) ⟨rfl,rfl,rfl,Nat.le_refl _,fun _ _ _=>rfl⟩ (fun _ _ q=>q)));have HT2:=Hh (fun(n:Nat)=>t2.fr0 (HFw.out.trans (M':=NoM) (c:=wr.drewN n) ⟨rfl,rfl,rfl,Nat.le_refl _,fun _ _ _=>rfl⟩ (fun _ _ q=>q)));clear ha1 ha2 c1 c2 d1 d2 s1 s2 t1 t2;by_cases e1:A[k].1=B[k].1
    ·have e1':decide (A[k].1=B[k].1)=true:=decide_eq_true e1
     have E1:=Hh e1;clear e1;by_cases e2:A[k].2=B[k].2
     ·have e2':decide (A[k].2=B[k].2)=true:=decide_eq_true e2
      have hAB:A.take (k+1)=B.take (k+1):=by
       have hab:A[k]=B[k]:=Prod.ext E1.out e2;rw[List.take_succ_eq_append_getElem hlt',List.take_succ_eq_append_getElem hlt2,Ht.out,hab]
      have HAB:=Hh hAB;clear e2 hAB;go_wp2;go_quiet ((first|(go_at_call 55;with_reducible exact Calls.quiet_of (vInts_any _ _ A[k].1 B[k].1 _ (HS1.out _) (HT1.out _)))|(go_at_call 55;with_reducible exact Calls.quiet_of (vInts_any _ _ A[k].2 B[k].2 _ (HS2.out _) (HT2.out _)))));go_wp2;go_roundw
      case rel=>exact⟨k+1,_,by omega,by go_num,HAB.out,by rw[HW.out];exact World.drewN_drewN _ _ _⟩
      case measure=>simp[intOf];omega
     ·have e2':decide (A[k].2=B[k].2)=false:=decide_eq_false e2
      have hf:decide (A=B)=false:=by
       have:A≠B:=fun e=>by subst e;exact e2 rfl
       simp[this]
      have HFn:=Hh hf;clear e2 hf;go_wp2;go_quiet ((first|(go_at_call 55;with_reducible exact Calls.quiet_of (vInts_any _ _ A[k].1 B[k].1 _ (HS1.out _) (HT1.out _)))|(go_at_call 55;with_reducible exact Calls.quiet_of (vInts_any _ _ A[k].2 B[k].2 _ (HS2.out _) (HT2.out _)))));go_wp2;go_ret;refine⟨congrArg (fun b=>Ending.returned (.bool b)) HFn.out.symm,?_⟩;exact HFw.out.trans (M':=NoM) ⟨rfl,rfl,rfl,Nat.le_refl _,fun _ _ _=>rfl⟩ (fun _ _ q=>q)
    ·have e1':decide (A[k].1=B[k].1)=false:=decide_eq_false e1
     have hf:decide (A=B)=false:=by
      have:A≠B:=fun e=>by subst e;exact e1 rfl
      simp[this]
     have HFn:=Hh hf;clear e1 hf;go_wp2;go_quiet ((first|(go_at_call 55;with_reducible exact Calls.quiet_of (vInts_any _ _ A[k].1 B[k].1 _ (HS1.out _) (HT1.out _)))|(go_at_call 55;with_reducible exact Calls.quiet_of (vInts_any _ _ A[k].2 B[k].2 _ (HS2.out _) (HT2.out _)))));go_wp2;go_ret;refine⟨congrArg (fun b=>Ending.returned (.bool b)) HFn.out.symm,?_⟩;exact HFw.out.trans (M':=NoM) ⟨rfl,rfl,rfl,Nat.le_refl _,fun _ _ _=>rfl⟩ (fun _ _ q=>q)
   ·have hk':k=A.length:=by omega
    have hf:decide (A=B)=true:=HF.out (by rw[←hk'];exact Ht.out);have HFn:=Hh hf;have HK:=Hh hk';clear hk' hf;go_wp2;go_ret;exact⟨by rw[HFn.out];rfl,HFw.out⟩
 ·have hne:((A.length:Int) != (B.length:Int))=true:=by rw[bne_iff_ne];omega
  have hfin:decide (A=B)=false:=by
   have:A≠B:=fun e=>hn (by rw[e])
   simp[this]
  have Hfin:=Hh hfin;clear hfin hn;go_enter Tryz.func33,Tryz.ntmps33;go_wp2;go_ret;exact⟨by rw[Hfin.out];rfl,((Fr.refl _ _).alloc _).alloc _⟩
def CodeOK (w:World)(cv:Value)(L:List Int):Prop:=SliceOf encC w cv L∧∀x∈L,0≤x∧x≤255
theorem CodeOK.fr0 {w w':World}{cv:Value}{L:List Int}(h:CodeOK w cv L)(hf:Fr NoM w w'):CodeOK w' cv L:=⟨h.1.fr0 hf,h.2⟩
theorem vBig_any (cv:Value)(L:List Int)(w:World)(h:CodeOK w cv L):Calls Tryz.prog 24 #[cv] w fun e w'=>e=.returned (.bool (decide (65536<L.length)))∧w'=w:=by
 obtain⟨a,c,rfl,h1,h2,_⟩:=h.1;have hl:L.length≤9223372036854775807:=by omega
 clear h h1 h2;go_enter Tryz.func24,Tryz.ntmps24;go_wp2;go_ret;by_cases hb:65536<L.length
 ·have hc:(65536:Int)<(L.length:Int):=by omega
  simp[hb,hc]
 ·have hc:¬(65536:Int)<(L.length:Int):=by omega
  simp[hb,hc]
theorem CurS.start {w:World}{cv:Value}{L:List Int}(h:CodeOK w cv L):CurS (w.alloc (.cells #[cv,.int .i64 0,.int .u64 0] 111)) w.heap.size 0:=by
 refine⟨cv,L,0,0,heap_alloc_new w _,h.1.fr0 ((Fr.refl NoM w).alloc _),h.2,Nat.le_refl _,fun hne q hq=>?_⟩;obtain⟨b,e,hb⟩:=h.1.block hne;rw[hq]at e;cases e
 exact hb
structure BoxI (W:World) (b:Nat) (R:Nat→Prop) (v:Value) (Fi:List (List Int × List Int)):Prop where
 cell:W.cell? ⟨b,0,none⟩=some v
 node:NodeL R encI W v Fi
section
variable {W W':World}{b:Nat}{R:Nat→Prop}{v:Value}{Fi:List (List Int × List Int)}
theorem BoxI.fr0 (h:BoxI W b R v Fi)(hf:Fr NoM W W'):BoxI W' b R v Fi:=⟨hf.cell h.cell (fun q=>q),h.node.fr0 hf⟩
theorem BoxI.made (h:NodeL R encI W v Fi)(hW:W'=W.alloc (.cells #[v] 31)):BoxI W' W.heap.size R v Fi:=by
 subst hW;exact⟨by rw[cell_of_row _ _ 0 _ _ _ (heap_alloc_new W _)];rfl,h.fr0 ((Fr.refl NoM W).alloc _)⟩
end
def FormPost (ok:Bool)(F:List (List Int × List Int))(w:World)(e:Ending)(w':World):Prop:=∃v',e=.returned (.tuple #[.agg #[v'],.bool ok])∧NodeL (fun b=>w.heap.size≤b) encI w' v' F∧Fr NoM w w'
theorem FormPost.ofP {ok:Bool}{FN:List PL}{F:List (List Int × List Int)}{w w':World}{e:Ending}(hF:F=i2 FN)(h:∃v',e=.returned (.tuple #[.agg #[v'],.bool ok])∧NodesS w.heap.size w' v' FN∧Fr NoM w w'):FormPost ok F w e w':=by
 obtain⟨v',e1,h1,f1⟩:=h;exact⟨v',e1,by rw[hF];exact h1.nodeL.toI,f1⟩
theorem FormPost.ofR {ok:Bool}{FN:List PL}{F:List (List Int × List Int)}{w w':World}{e:Ending}(hF:F=i2 FN)(h:∃v',e=.returned (.tuple #[.agg #[v'],.bool ok])∧NodeL (fun b=>w.heap.size≤b) encN w' v' FN∧Fr NoM w w'):FormPost ok F w e w':=by
 obtain⟨v',e1,h1,f1⟩:=h;exact⟨v',e1,by rw[hF];exact h1.toI,f1⟩
theorem vSame_true {R S:Nat→Prop}(av bv:Value)(A B:List (List Int × List Int))(w:World)(hA:NodeL R encI w av A)(hB:NodeL S encI w bv B)(he:A=B) :
  Calls Tryz.prog 33 #[.agg #[av],.agg #[bv]] w fun e w'=>e=.returned (.bool true)∧Fr NoM w w':=by
 have h:=vSame_any av bv A B w hA hB;rw[decide_eq_true he]at h;exact h
theorem intsLit {n:Nat}(W:World)(L:List Int)(ha:n=W.heap.size)(hl:L.length≤1000):Ints (W.alloc (.cells (L.map fun x=>Value.int .i64 x).toArray 3)) (.slice (some ⟨n,0,none⟩) L.length L.length) L:=by
 subst ha;have hb:=heap_alloc_new W (.cells (L.map fun x=>Value.int .i64 x).toArray 3);refine⟨_,L.length,rfl,Nat.le_refl _,by omega,fun j u hu=>⟨W.heap.size,0,rfl,?_⟩⟩;rw[Nat.zero_add,cell_of_row _ _ _ _ _ _ hb];simp[hu,encI]
theorem ownLit {a n c q cb:Nat}(h:(Value.slice (some ⟨a,0,none⟩) n c).ownBlock=some q)(hc:cb<a):q≠cb:=by
 have e:a=q:=Option.some.inj h;omega
def DyPost (cb n k:Nat)(w:World)(e:Ending)(w':World):Prop:=∃T P:Int,e=.returned (.agg #[.int .i64 T,.int .i64 P])∧CurS w' cb (n+k)∧Fr (fun q=>q=cb) w w'
set_option maxRecDepth 8000 in
set_option maxHeartbeats 4000000 in
theorem dyadic_any (cb n:Nat)(w:World)(h:CurS w cb n)(hn:n<100000):Calls Tryz.prog 166 #[.pointer (some ⟨cb,0,none⟩)] w fun e w'=>DyPost cb n 4 w e w':=by
 obtain⟨w1,hw1⟩:∃w1,w1=w.alloc (.cells #[.int .i64 0,.int .i64 0] 45):=⟨_,rfl⟩;have f1:Fr NoM w w1:=by rw[hw1];exact(Fr.refl NoM w).alloc _
 have e1:w1.heap[w.heap.size]?=some (.cells #[.int .i64 0,.int .i64 0] 45 (0,0)):=by rw[hw1];exact heap_alloc_new w _
 have HCl:=Hh h.lt;have HPk:=Hh (pick_any cb n 41 w1 (h.fr0 f1) (by omega) ⟨by omega,by omega⟩);have HRs:=Hh (fun(W:World) (f:Fr (fun q=>q=cb) w1 W)=>show W.cell? ⟨w.heap.size,0,none⟩=some (.int .i64 0)∧W.cell? ⟨w.heap.size,1,none⟩=some (.int .i64 0)∧W.frozen? ⟨w.heap.size,0,none⟩=false∧W.frozen? ⟨w.heap.size,1,none⟩=false from by
  have h1:=f.heap e1 (fun e=>by have h4:=HCl.out;omega);exact⟨by rw[cell_of_row W _ 0 _ _ _ h1];rfl,by rw[cell_of_row W _ 1 _ _ _ h1];rfl,by simp[World.frozen?,h1],by simp[World.frozen?,h1]⟩)
 have HF:=Hh (fun(W:World) (y1 y2:Int) (f:Fr (fun q=>q=cb) w1 W)=>((((f1.any (M:=fun q=>q=cb)).trans f (fun _ _ q=>q)).setCell ⟨w.heap.size,0,none⟩ (.int .i64 y1) (fun h=>by have h:w.heap.size<w.heap.size:=h;omega)).setCell ⟨w.heap.size,1,none⟩ (.int .i64 y2) (fun h=>by have h:w.heap.size<w.heap.size:=h;omega):Fr (fun q=>q=cb) w ((W.setCell ⟨w.heap.size,0,none⟩ (.int .i64 y1)).setCell ⟨w.heap.size,1,none⟩ (.int .i64 y2))));have HCu:=Hh (fun(W:World) (y1 y2:Int) (m:Nat) (c:CurS W cb m)=>show CurS ((W.setCell ⟨w.heap.size,0,none⟩ (.int .i64 y1)).setCell ⟨w.heap.size,1,none⟩ (.int .i64 y2)) cb m from
  (c.fr (Fr.set W ⟨w.heap.size,0,none⟩ _) (fun q hq e=>by have e:q=w.heap.size:=e;have h4:=HCl.out;omega)).fr (Fr.set _ ⟨w.heap.size,1,none⟩ _) (fun q hq e=>by have e:q=w.heap.size:=e;have h4:=HCl.out;omega))
 have HS1:=Hh f1.size;clear h f1 e1;go_enter Tryz.func166,Tryz.ntmps166;go_upto_region 1 with fail;rw[←hw1];clear hw1;go_wp2_with fail;(with_reducible refine HPk.out.mono ?_);rintro e w2 ⟨y,rfl,y0,y1,c2,f2⟩;have y41:y<41:=by omega
 have HC2:=Hh c2;have F2:=Hh f2;clear c2 f2 y1;have HIn:=Hh (fun(W:World)=>(show Ints (W.alloc (.cells #[.int .i64 0,.int .i64 0,.int .i64 1,.int .i64 2,.int .i64 3,.int .i64 5] 3)) (.slice (some ⟨W.heap.size,0,none⟩) 6 6) [0,0,1,2,3,5]from intsLit W [0,0,1,2,3,5] rfl (by decide)));go_wp2_with fail;(with_reducible refine(among_any cb (n+2) _ [0,0,1,2,3,5] _ (by exact HC2.out.fr0 ((Fr.refl NoM w2).alloc _)) (by exact HIn.out w2) (fun q hq=>by exact ownLit hq (by have h1:=HCl.out;have h2:=HS1.out;have h3:=F2.out.size;omega)) (by simp) (by simp) (by omega)).mono ?_);rintro e w4 ⟨z,rfl,zm,c4,f4⟩;obtain⟨p,rfl,hp⟩:∃p:Nat,z=(p:Int)∧p≤5:=by
  simp only[List.mem_cons,List.not_mem_nil,or_false]at zm;exact⟨z.toNat,by omega,by omega⟩
 have F4:=Hh (F2.out.trans (((Fr.refl (fun q=>q=cb) w2).alloc _).trans f4 (fun _ _ q=>q)) (fun _ _ q=>q));have HC4:=Hh c4;clear zm c4 f4;obtain⟨T1,hT1⟩:∃T1,T1=(redT (y-20) p).1:=⟨_,rfl⟩;obtain⟨P1,hP1⟩:∃P1,P1=(redT (y-20) p).2:=⟨_,rfl⟩;have HMk:=Hh (l2Make_any (y-20) p w4 ⟨by omega,by omega⟩ (by omega));have hmk:=HMk.out;unfold dyV at hmk;rw[←hT1,←hP1]at hmk;have HMk:=Hh hmk;clear hmk hT1 hP1;go_wp2_with fail;(with_reducible refine HMk.out.mono ?_);rintro e w5 ⟨rfl,f5⟩;have F5:=Hh (F4.out.trans f5 (fun _ _ q=>q.elim));have HC5:=Hh (HC4.out.fr0 f5);clear f5;obtain⟨r0,r1,r2,r3⟩:=HRs.out w5 F5.out;have HM:=Hh (HF.out w5 T1 P1 F5.out);have HQ:=Hh (HCu.out w5 T1 P1 _ HC5.out);go_wp2_with fail;refine bodyPost_ret (v:=.agg #[.int .i64 T1,.int .i64 (P1:Int)]) (by simp[results,Tryz.results166,go_sem,r0,r1,r2,r3]) rfl ?_
 exact⟨T1,P1,rfl,HQ.out,HM.out⟩
set_option maxRecDepth 8000 in
set_option maxHeartbeats 8000000 in
theorem anyDyadic_any (cb n:Nat)(w:World)(h:CurS w cb n)(hn:n<100000):Calls Tryz.prog 106 #[.pointer (some ⟨cb,0,none⟩)] w fun e w'=>DyPost cb n 10 w e w':=by
 obtain⟨w1,hw1⟩:∃w1,w1=w.alloc (.cells #[.int .i64 0,.int .i64 0] 45):=⟨_,rfl⟩;have f1:Fr NoM w w1:=by rw[hw1];exact(Fr.refl NoM w).alloc _
 have e1:w1.heap[w.heap.size]?=some (.cells #[.int .i64 0,.int .i64 0] 45 (0,0)):=by rw[hw1];exact heap_alloc_new w _
 have hs1:w1.heap.size=w.heap.size+1:=by rw[hw1];simp
 have HCl:=Hh h.lt;have HD:=Hh (dyadic_any cb n w1 (h.fr0 f1) hn);have E1:=Hh e1;have F1:=Hh f1;have HS1:=Hh hs1;clear h f1 e1 hs1;go_enter Tryz.func106,Tryz.ntmps106;go_upto_region 1 with fail;rw[←hw1];clear hw1;go_wp2_with fail;(with_reducible refine HD.out.mono ?_);rintro e w2 ⟨T,P,rfl,c2,f2⟩;obtain⟨b3,hb3⟩:∃b3,b3=w2.heap.size:=⟨_,rfl⟩;obtain⟨W3,hW3⟩:∃W3,W3=w2.alloc (.cells #[.int .i64 T,.int .i64 P] 45):=⟨_,rfl⟩;have g3:Fr NoM w2 W3:=by rw[hW3];exact(Fr.refl NoM w2).alloc _
 have e3:W3.heap[b3]?=some (.cells #[.int .i64 T,.int .i64 P] 45 (0,0)):=by rw[hW3,hb3];exact heap_alloc_new w2 _
 have HLt:=Hh (show cb<w.heap.size∧w.heap.size<b3 from⟨HCl.out,by have h1:=HS1.out;have h2:=f2.size;omega⟩);have HPk:=Hh (pick_any cb (n+4) 20 W3 (c2.fr0 g3) (by omega) ⟨by omega,by omega⟩);have F3:=Hh (f2.trans g3 (fun _ _ q=>q.elim));clear c2 f2 g3;go_upto_region 2 with fail;rw[←hW3,←hb3];clear hW3 hb3;go_wp2_with fail;(with_reducible refine HPk.out.mono ?_);rintro e w4 ⟨y,rfl,y0,y1,c4,f4⟩;have E4:=Hh (f4.heap e3 (fun e=>by have h1:=HLt.out;have e:b3=cb:=e;omega));have F4:=Hh (F3.out.trans f4 (fun _ _ q=>q));have HC4:=Hh c4;have HRs:=Hh (fun(W:World) (f:Fr (fun q=>q=cb∨q=b3) w4 W)=>show W.cell? ⟨w.heap.size,0,none⟩=some (.int .i64 0)∧W.cell? ⟨w.heap.size,1,none⟩=some (.int .i64 0)∧W.frozen? ⟨w.heap.size,0,none⟩=false∧W.frozen? ⟨w.heap.size,1,none⟩=false from by
  have h1:=f.heap (F4.out.heap E1.out (fun e=>by have h4:=HLt.out;have e:w.heap.size=cb:=e;omega)) (fun e=>by have h4:=HLt.out;rcases e with e|e <;> omega);exact⟨by rw[cell_of_row W _ 0 _ _ _ h1];rfl,by rw[cell_of_row W _ 1 _ _ _ h1];rfl,by simp[World.frozen?,h1],by simp[World.frozen?,h1]⟩)
 have HF:=Hh (fun(W:World) (y1 y2:Int) (f:Fr (fun q=>q=cb∨q=b3) w4 W)=>(((((F1.out.any (M:=fun q=>q=cb)).trans F4.out (fun _ _ q=>q)).trans f (fun q hq e=>by have h4:=HLt.out;rcases e with e|e;exact e;omega)).setCell ⟨w.heap.size,0,none⟩ (.int .i64 y1) (fun h=>by have h:w.heap.size<w.heap.size:=h;omega)).setCell ⟨w.heap.size,1,none⟩ (.int .i64 y2) (fun h=>by have h:w.heap.size<w.heap.size:=h;omega):Fr (fun q=>q=cb) w ((W.setCell ⟨w.heap.size,0,none⟩ (.int .i64 y1)).setCell ⟨w.heap.size,1,none⟩ (.int .i64 y2))));have HCu:=Hh (fun(W:World) (y1 y2:Int) (m:Nat) (hm:m≤n+10) (c:CurS W cb m)=>show CurS ((W.setCell ⟨w.heap.size,0,none⟩ (.int .i64 y1)).setCell ⟨w.heap.size,1,none⟩ (.int .i64 y2)) cb (n+10)from
  CurS.mono ((c.fr (Fr.set W ⟨w.heap.size,0,none⟩ _) (fun q hq e=>by have e:q=w.heap.size:=e;have h4:=HLt.out;omega)).fr (Fr.set _ ⟨w.heap.size,1,none⟩ _) (fun q hq e=>by have e:q=w.heap.size:=e;have h4:=HLt.out;omega)) hm)
 have HCb:=Hh (fun(W:World) (i:Nat) (u:Value) (m:Nat) (c:CurS W cb m)=>show CurS (W.setCell ⟨b3,i,none⟩ u) cb m from
  c.fr (Fr.set W ⟨b3,i,none⟩ _) (fun q hq e=>by have e:q=b3:=e;have h4:=HLt.out;omega))
 have HZ4:=Hh (show b3<w4.heap.size from by
  have h1:=(Array.getElem?_eq_some_iff.1 E4.out).1;exact h1)
 clear e3 c4 f4 y1;by_cases h0:y=0
 ·subst h0
  have HIn:=Hh (fun(W:World)=>(show Ints (W.alloc (.cells #[.int .i64 1000000,.int .i64 (-1000000),.int .i64 1000001,.int .i64 (-1000001),.int .i64 999999] 3)) (.slice (some ⟨W.heap.size,0,none⟩) 5 5) [1000000,-1000000,1000001,-1000001,999999]from intsLit W [1000000,-1000000,1000001,-1000001,999999] rfl (by decide)));go_wp2_with fail;(with_reducible refine(among_any cb (n+4+2) _ [1000000,-1000000,1000001,-1000001,999999] _ (by exact HC4.out.fr0 ((Fr.refl NoM w4).alloc _)) (by exact HIn.out w4) (fun q hq=>by exact ownLit hq (by have h1:=HLt.out;have h2:=HZ4.out;omega)) (by simp) (by simp) (by omega)).mono ?_);rintro e w5 ⟨z,rfl,_,c5,f5⟩;have g5:Fr (fun q=>q=cb) w4 w5:=((Fr.refl (fun q=>q=cb) w4).alloc _).trans f5 (fun _ _ q=>q);have e5:=g5.heap E4.out (fun e=>by have h1:=HLt.out;have e:b3=cb:=e;omega);obtain⟨W6,hW6⟩:∃W6,W6=w5.setCell ⟨b3,0,none⟩ (.int .i64 z):=⟨_,rfl⟩;have EX:=Hh (show W6.heap[b3]?=some (.cells #[.int .i64 z,.int .i64 P] 45 (0,0))from by rw[hW6,heap_set e5];rfl);have FX:=Hh (show Fr (fun q=>q=cb∨q=b3) w4 W6 from by rw[hW6];exact(g5.mono (fun _ _ e=>.inl e)).setCell _ _ (fun _=>.inr rfl));have CX:=Hh (show CurS W6 cb (n+4+2+2)from by rw[hW6];exact HCb.out w5 0 _ _ c5);have u0:w5.cell? ⟨b3,0,none⟩=some (.int .i64 T):=by rw[cell_of_row w5 _ 0 _ _ _ e5];rfl
  have u1:w5.frozen? ⟨b3,0,none⟩=false:=by simp[World.frozen?,e5]
  clear c5 f5 g5 e5;go_upto_region 11 with fail;rw[←hW6];clear hW6 u0 u1;have q0:W6.cell? ⟨b3,0,none⟩=some (.int .i64 z):=by rw[cell_of_row W6 _ 0 _ _ _ EX.out];rfl
  have q1:W6.cell? ⟨b3,1,none⟩=some (.int .i64 P):=by rw[cell_of_row W6 _ 1 _ _ _ EX.out];rfl
  obtain⟨r0,r1,r2,r3⟩:=HRs.out W6 FX.out;have HM:=Hh (HF.out W6 z P FX.out);have HQ:=Hh (HCu.out W6 z P _ (by omega) CX.out);go_wp2_with fail;refine bodyPost_ret (v:=.agg #[.int .i64 z,.int .i64 P]) (by simp[results,Tryz.results106,go_sem,r0,r1,r2,r3]) rfl ?_
  exact⟨_,_,rfl,HQ.out,HM.out⟩
 by_cases h1:y=1
 ·subst h1
  have HIn:=Hh (fun(W:World)=>(show Ints (W.alloc (.cells #[.int .i64 (-1),.int .i64 16,.int .i64 17] 3)) (.slice (some ⟨W.heap.size,0,none⟩) 3 3) [-1,16,17]from intsLit W [-1,16,17] rfl (by decide)));go_wp2_with fail;(with_reducible refine(among_any cb (n+4+2) _ [-1,16,17] _ (by exact HC4.out.fr0 ((Fr.refl NoM w4).alloc _)) (by exact HIn.out w4) (fun q hq=>by exact ownLit hq (by have h1:=HLt.out;have h2:=HZ4.out;omega)) (by simp) (by simp) (by omega)).mono ?_);rintro e w5 ⟨z,rfl,_,c5,f5⟩;have g5:Fr (fun q=>q=cb) w4 w5:=((Fr.refl (fun q=>q=cb) w4).alloc _).trans f5 (fun _ _ q=>q);have e5:=g5.heap E4.out (fun e=>by have h1:=HLt.out;have e:b3=cb:=e;omega);obtain⟨W6,hW6⟩:∃W6,W6=w5.setCell ⟨b3,1,none⟩ (.int .i64 z):=⟨_,rfl⟩;have EX:=Hh (show W6.heap[b3]?=some (.cells #[.int .i64 T,.int .i64 z] 45 (0,0))from by rw[hW6,heap_set e5];rfl);have FX:=Hh (show Fr (fun q=>q=cb∨q=b3) w4 W6 from by rw[hW6];exact(g5.mono (fun _ _ e=>.inl e)).setCell _ _ (fun _=>.inr rfl));have CX:=Hh (show CurS W6 cb (n+4+2+2)from by rw[hW6];exact HCb.out w5 1 _ _ c5);have u0:w5.cell? ⟨b3,1,none⟩=some (.int .i64 P):=by rw[cell_of_row w5 _ 1 _ _ _ e5];rfl
  have u1:w5.frozen? ⟨b3,1,none⟩=false:=by simp[World.frozen?,e5]
  clear c5 f5 g5 e5;go_upto_region 11 with fail;rw[←hW6];clear hW6 u0 u1;have q0:W6.cell? ⟨b3,0,none⟩=some (.int .i64 T):=by rw[cell_of_row W6 _ 0 _ _ _ EX.out];rfl
  have q1:W6.cell? ⟨b3,1,none⟩=some (.int .i64 z):=by rw[cell_of_row W6 _ 1 _ _ _ EX.out];rfl
  obtain⟨r0,r1,r2,r3⟩:=HRs.out W6 FX.out;have HM:=Hh (HF.out W6 T z FX.out);have HQ:=Hh (HCu.out W6 T z _ (by omega) CX.out);go_wp2_with fail;refine bodyPost_ret (v:=.agg #[.int .i64 T,.int .i64 z]) (by simp[results,Tryz.results106,go_sem,r0,r1,r2,r3]) rfl ?_
  exact⟨_,_,rfl,HQ.out,HM.out⟩
 by_cases h2:y=2
 ·subst h2
  have HP1:=Hh (pick_any cb (n+4+2) 4 w4 HC4.out (by omega) ⟨by omega,by omega⟩);go_wp2_with fail;(with_reducible refine HP1.out.mono ?_);rintro e wa ⟨a,rfl,a0,a1,ca,fa⟩;have a4:a<4:=by omega
  have HP2:=Hh (pick_any cb (n+4+2+2) 3 wa ca (by omega) ⟨by omega,by omega⟩);have FA:=Hh fa;clear ca fa a1;go_wp2_with fail;(with_reducible refine HP2.out.mono ?_);rintro e w5 ⟨b,rfl,b0,b1,c5,f5⟩;have b4:b<3:=by omega
  have g5:Fr (fun q=>q=cb) w4 w5:=FA.out.trans f5 (fun _ _ q=>q);have e5:=g5.heap E4.out (fun e=>by have h1:=HLt.out;have e:b3=cb:=e;omega);obtain⟨W6,hW6⟩:∃W6,W6=(w5.setCell ⟨b3,0,none⟩ (.int .i64 (2*a))).setCell ⟨b3,1,none⟩ (.int .i64 (1+b)):=⟨_,rfl⟩;have e6:(w5.setCell ⟨b3,0,none⟩ (.int .i64 (2*a))).heap[b3]?=some (.cells #[.int .i64 (2*a),.int .i64 P] 45 (0,0)):=by rw[heap_set e5];rfl
  have EX:=Hh (show W6.heap[b3]?=some (.cells #[.int .i64 (2*a),.int .i64 (1+b)] 45 (0,0))from by rw[hW6,heap_set e6];rfl);have FX:=Hh (show Fr (fun q=>q=cb∨q=b3) w4 W6 from by rw[hW6];exact((g5.mono (fun _ _ e=>.inl e)).setCell _ _ (fun _=>.inr rfl)).setCell _ _ (fun _=>.inr rfl));have CX:=Hh (show CurS W6 cb (n+4+2+2+2)from by rw[hW6];exact HCb.out _ 1 _ _ (HCb.out w5 0 _ _ c5));have u0:w5.cell? ⟨b3,0,none⟩=some (.int .i64 T):=by rw[cell_of_row w5 _ 0 _ _ _ e5];rfl
  have u1:w5.cell? ⟨b3,1,none⟩=some (.int .i64 P):=by rw[cell_of_row w5 _ 1 _ _ _ e5];rfl
  have u2:w5.frozen? ⟨b3,0,none⟩=false:=by simp[World.frozen?,e5]
  have u3:w5.frozen? ⟨b3,1,none⟩=false:=by simp[World.frozen?,e5]
  clear c5 f5 g5 e5 e6;go_upto_region 11 with fail;rw[←hW6];clear hW6 u0 u1 u2 u3;have q0:W6.cell? ⟨b3,0,none⟩=some (.int .i64 (2*a)):=by rw[cell_of_row W6 _ 0 _ _ _ EX.out];rfl
  have q1:W6.cell? ⟨b3,1,none⟩=some (.int .i64 (1+b)):=by rw[cell_of_row W6 _ 1 _ _ _ EX.out];rfl
  obtain⟨r0,r1,r2,r3⟩:=HRs.out W6 FX.out;have HM:=Hh (HF.out W6 (2*a) (1+b) FX.out);have HQ:=Hh (HCu.out W6 (2*a) (1+b) _ (by omega) CX.out);go_wp2_with fail;refine bodyPost_ret (v:=.agg #[.int .i64 (2*a),.int .i64 (1+b)]) (by simp[results,Tryz.results106,go_sem,r0,r1,r2,r3]) rfl ?_
  exact⟨_,_,rfl,HQ.out,HM.out⟩
 by_cases h3:y=3
 ·subst h3
  have HP1:=Hh (pick_any cb (n+4+2) 400 w4 HC4.out (by omega) ⟨by omega,by omega⟩);go_wp2_with fail;(with_reducible refine HP1.out.mono ?_);rintro e wa ⟨a,rfl,a0,a1,ca,fa⟩;have a4:a<400:=by omega
  have HCa:=Hh ca;have FA:=Hh fa;clear ca fa a1;have HIn:=Hh (fun(W:World)=>(show Ints (W.alloc (.cells #[.int .i64 14,.int .i64 15,.int .i64 16] 3)) (.slice (some ⟨W.heap.size,0,none⟩) 3 3) [14,15,16]from intsLit W [14,15,16] rfl (by decide)));go_wp2_with fail;(with_reducible refine(among_any cb (n+4+2+2) _ [14,15,16] _ (by exact HCa.out.fr0 ((Fr.refl NoM wa).alloc _)) (by exact HIn.out wa) (fun q hq=>by exact ownLit hq (by have h1:=HLt.out;have h2:=HZ4.out;have h3:=FA.out.size;omega)) (by simp) (by simp) (by omega)).mono ?_);rintro e wb ⟨z,rfl,zm,cb5,fb⟩;obtain⟨p,rfl,hp⟩:∃p:Nat,z=(p:Int)∧p≤16:=by
   simp only[List.mem_cons,List.not_mem_nil,or_false]at zm;exact⟨z.toNat,by omega,by omega⟩
  have FB:=Hh (FA.out.trans (((Fr.refl (fun q=>q=cb) wa).alloc _).trans fb (fun _ _ q=>q)) (fun _ _ q=>q));have HCc:=Hh cb5;clear zm cb5 fb;obtain⟨T1,hT1⟩:∃T1,T1=(redT (a*2+1) p).1:=⟨_,rfl⟩;obtain⟨P1,hP1⟩:∃P1,P1=(redT (a*2+1) p).2:=⟨_,rfl⟩;have HMk:=Hh (l2Make_any (a*2+1) p wb ⟨by omega,by omega⟩ (by omega));have hmk:=HMk.out;unfold dyV at hmk;rw[←hT1,←hP1]at hmk;have HMk:=Hh hmk;clear hmk hT1 hP1;go_wp2_with fail;(with_reducible refine HMk.out.mono ?_);rintro e w5 ⟨rfl,f5⟩;have g5:Fr (fun q=>q=cb) w4 w5:=FB.out.trans f5 (fun _ _ q=>q.elim);have e5:=g5.heap E4.out (fun e=>by have h1:=HLt.out;have e:b3=cb:=e;omega);have c5:=HCc.out.fr0 f5;obtain⟨W6,hW6⟩:∃W6,W6=(w5.setCell ⟨b3,0,none⟩ (.int .i64 T1)).setCell ⟨b3,1,none⟩ (.int .i64 (P1:Int)):=⟨_,rfl⟩;have e6:(w5.setCell ⟨b3,0,none⟩ (.int .i64 T1)).heap[b3]?=some (.cells #[.int .i64 T1,.int .i64 P] 45 (0,0)):=by rw[heap_set e5];rfl
  have EX:=Hh (show W6.heap[b3]?=some (.cells #[.int .i64 T1,.int .i64 (P1:Int)] 45 (0,0))from by rw[hW6,heap_set e6];rfl);have FX:=Hh (show Fr (fun q=>q=cb∨q=b3) w4 W6 from by rw[hW6];exact((g5.mono (fun _ _ e=>.inl e)).setCell _ _ (fun _=>.inr rfl)).setCell _ _ (fun _=>.inr rfl));have CX:=Hh (show CurS W6 cb (n+4+2+2+2)from by rw[hW6];exact HCb.out _ 1 _ _ (HCb.out w5 0 _ _ c5));have u0:w5.cell? ⟨b3,0,none⟩=some (.int .i64 T):=by rw[cell_of_row w5 _ 0 _ _ _ e5];rfl
  have u1:w5.cell? ⟨b3,1,none⟩=some (.int .i64 P):=by rw[cell_of_row w5 _ 1 _ _ _ e5];rfl
  have u2:w5.frozen? ⟨b3,0,none⟩=false:=by simp[World.frozen?,e5]
  have u3:w5.frozen? ⟨b3,1,none⟩=false:=by simp[World.frozen?,e5]
  clear c5 f5 g5 e5 e6;go_upto_region 11 with fail;rw[←hW6];clear hW6 u0 u1 u2 u3;have q0:W6.cell? ⟨b3,0,none⟩=some (.int .i64 T1):=by rw[cell_of_row W6 _ 0 _ _ _ EX.out];rfl
  have q1:W6.cell? ⟨b3,1,none⟩=some (.int .i64 (P1:Int)):=by rw[cell_of_row W6 _ 1 _ _ _ EX.out];rfl
  obtain⟨r0,r1,r2,r3⟩:=HRs.out W6 FX.out;have HM:=Hh (HF.out W6 T1 (P1:Int) FX.out);have HQ:=Hh (HCu.out W6 T1 (P1:Int) _ (by omega) CX.out);go_wp2_with fail;refine bodyPost_ret (v:=.agg #[.int .i64 T1,.int .i64 (P1:Int)]) (by simp[results,Tryz.results106,go_sem,r0,r1,r2,r3]) rfl ?_
  exact⟨_,_,rfl,HQ.out,HM.out⟩
 ·have q0:w4.cell? ⟨b3,0,none⟩=some (.int .i64 T):=by rw[cell_of_row w4 _ 0 _ _ _ E4.out];rfl
  have q1:w4.cell? ⟨b3,1,none⟩=some (.int .i64 P):=by rw[cell_of_row w4 _ 1 _ _ _ E4.out];rfl
  obtain⟨r0,r1,r2,r3⟩:=HRs.out w4 (Fr.refl _ _);have HM:=Hh (HF.out w4 T P (Fr.refl _ _));have HQ:=Hh (HCu.out w4 T P _ (by omega) HC4.out);go_wp2_with fail;refine bodyPost_ret (v:=.agg #[.int .i64 T,.int .i64 P]) (by simp[results,Tryz.results106,go_sem,r0,r1,r2,r3]) rfl ?_
  exact⟨_,_,rfl,HQ.out,HM.out⟩
set_option maxRecDepth 8000 in
set_option maxHeartbeats 8000000 in
theorem drawNum_any (cv:Value)(L:List Int)(w:World)(h:CodeOK w cv L):Calls Tryz.prog 50 #[cv] w fun e w'=>∃T P:Int,e=.returned (.agg #[.int .i64 T,.int .i64 P])∧Fr NoM w w':=by
 obtain⟨w1,hw1⟩:∃w1,w1=w.alloc (.cells #[.int .i64 0,.int .i64 0] 45):=⟨_,rfl⟩;have f1:Fr NoM w w1:=by rw[hw1];exact(Fr.refl NoM w).alloc _
 have hs1:w1.heap.size=w.heap.size+1:=by rw[hw1];simp
 have e1:w1.heap[w.heap.size]?=some (.cells #[.int .i64 0,.int .i64 0] 45 (0,0)):=by rw[hw1];exact heap_alloc_new w _
 obtain⟨w2,hw2⟩:∃w2,w2=w1.alloc (.cells #[cv,.int .i64 0,.int .u64 0] 111):=⟨_,rfl⟩;have f2:Fr NoM w1 w2:=by rw[hw2];exact(Fr.refl NoM w1).alloc _
 have hc2:CurS w2 w1.heap.size 0:=by rw[hw2];exact CurS.start (h.fr0 f1)
 have hs2:w2.heap.size=w.heap.size+2:=by rw[hw2];simp[hs1]
 obtain⟨cb,hcb⟩:∃cb,cb=w.heap.size+1:=⟨_,rfl⟩;rw[hs1,←hcb]at hc2;have HRs:=Hh (fun(W:World) (f:Fr (fun q=>q=cb) w2 W)=>show W.cell? ⟨w.heap.size,0,none⟩=some (.int .i64 0)∧W.cell? ⟨w.heap.size,1,none⟩=some (.int .i64 0)∧W.frozen? ⟨w.heap.size,0,none⟩=false∧W.frozen? ⟨w.heap.size,1,none⟩=false from by
  have h1:=f.heap (f2.heap e1 (fun q=>q)) (fun e=>by omega);exact⟨by rw[cell_of_row W _ 0 _ _ _ h1];rfl,by rw[cell_of_row W _ 1 _ _ _ h1];rfl,by simp[World.frozen?,h1],by simp[World.frozen?,h1]⟩)
 have HF:=Hh (fun(W:World) (y1 y2:Int) (f:Fr (fun q=>q=cb) w2 W)=>((((f1.trans f2 (fun _ _ q=>q)).trans f (fun q hq e=>by have e:q=cb:=e;omega)).setCell ⟨w.heap.size,0,none⟩ (.int .i64 y1) (fun h=>by have h:w.heap.size<w.heap.size:=h;omega)).setCell ⟨w.heap.size,1,none⟩ (.int .i64 y2) (fun h=>by have h:w.heap.size<w.heap.size:=h;omega):Fr NoM w ((W.setCell ⟨w.heap.size,0,none⟩ (.int .i64 y1)).setCell ⟨w.heap.size,1,none⟩ (.int .i64 y2))));have HOne:=Hh (one_any cb 0 8 w2 hc2 (by omega) ⟨by omega,by omega⟩);have HCb:=Hh hcb;have HS2:=Hh hs2;obtain⟨ca,cc,rfl,zz⟩:=id h.1;clear zz h f1 hs1 e1 f2 hc2 hs2;go_enter Tryz.func50,Tryz.ntmps50;go_upto_region 2 with fail;rw[←hw1,←hw2,←hcb];clear hw1 hw2 hcb;go_wp2_with fail;(with_reducible refine HOne.out.mono ?_);rintro e w3 ⟨b,rfl,c3,f3⟩;have HC3:=Hh c3;have F3:=Hh f3;clear c3 f3;cases b with
 | true =>
  have HIn:=Hh (fun(W:World)=>(show Ints (W.alloc (.cells #[.int .i64 119,.int .i64 120,.int .i64 (-119),.int .i64 (-120)] 3)) (.slice (some ⟨W.heap.size,0,none⟩) 4 4) [119,120,-119,-120]from intsLit W [119,120,-119,-120] rfl (by decide)));go_wp2_with fail;(with_reducible refine(among_any cb (0+2) _ [119,120,-119,-120] _ (by exact HC3.out.fr0 ((Fr.refl NoM w3).alloc _)) (by exact HIn.out w3) (fun q hq=>by exact ownLit hq (by have h1:=HCb.out;have h2:=HS2.out;have h3:=F3.out.size;omega)) (by simp) (by simp) (by omega)).mono ?_);rintro e w4 ⟨z,rfl,_,_,f4⟩;have F4:=Hh (F3.out.trans (((Fr.refl (fun q=>q=cb) w3).alloc _).trans f4 (fun _ _ q=>q)) (fun _ _ q=>q));clear f4;obtain⟨r0,r1,r2,r3⟩:=HRs.out w4 F4.out;have HM:=Hh (HF.out w4 z 0 F4.out);go_wp2_with fail;refine bodyPost_ret (v:=.agg #[.int .i64 z,.int .i64 0]) (by simp[results,Tryz.results50,go_sem,r0,r1,r2,r3]) rfl ?_
  exact⟨_,_,rfl,HM.out⟩
 | false =>
  have HAn:=Hh (anyDyadic_any cb (0+2) w3 HC3.out (by omega));go_wp2_with fail;(with_reducible refine HAn.out.mono ?_);rintro e w4 ⟨T1,P1,rfl,_,f4⟩;have F4:=Hh (F3.out.trans f4 (fun _ _ q=>q));clear f4;obtain⟨r0,r1,r2,r3⟩:=HRs.out w4 F4.out;have HM:=Hh (HF.out w4 T1 P1 F4.out);go_wp2_with fail;refine bodyPost_ret (v:=.agg #[.int .i64 T1,.int .i64 P1]) (by simp[results,Tryz.results50,go_sem,r0,r1,r2,r3]) rfl ?_
  exact⟨_,_,rfl,HM.out⟩
def DrawPPost (w:World)(e:Ending)(w':World):Prop:=∃(v:Value) (Fi:List (List Int × List Int)) (t:Int) (p:Nat),e=.returned (.tuple #[.agg #[v],.agg #[.int .i64 t,.int .i64 (p:Int)]])∧NodeL (fun b=>w.heap.size≤b) encI w' v Fi∧Fr NoM w w'∧Fi.length≤12∧Red t p∧(-4≤t∧t≤4)∧p≤2
set_option maxRecDepth 8000 in
set_option maxHeartbeats 8000000 in
theorem drawPlus_any (cv:Value)(L:List Int)(w:World)(h:CodeOK w cv L):Calls Tryz.prog 47 #[cv] w fun e w'=>DrawPPost w e w':=by
 obtain⟨w1,hw1⟩:∃w1,w1=(w.alloc (.cells #[.slice none 0 0] 31)).alloc (.cells #[.int .i64 0,.int .i64 0] 45):=⟨_,rfl⟩;have f1:Fr NoM w w1:=by rw[hw1];exact((Fr.refl NoM w).alloc _).alloc _
 have hs1:w1.heap.size=w.heap.size+2:=by rw[hw1];simp
 have e0:w1.heap[w.heap.size]?=some (.cells #[.slice none 0 0] 31 (0,0)):=by rw[hw1];exact((Fr.refl NoM _).alloc _).heap (heap_alloc_new w _) (fun q=>q)
 have e1:w1.heap[w.heap.size+1]?=some (.cells #[.int .i64 0,.int .i64 0] 45 (0,0)):=by
  have h:=heap_alloc_new (w.alloc (.cells #[.slice none 0 0] 31)) (.cells #[.int .i64 0,.int .i64 0] 45);rw[World.size_alloc]at h;rw[hw1];exact h
 obtain⟨w2,hw2⟩:∃w2,w2=w1.alloc (.cells #[cv,.int .i64 0,.int .u64 0] 111):=⟨_,rfl⟩;have f2:Fr NoM w1 w2:=by rw[hw2];exact(Fr.refl NoM w1).alloc _
 have hc2:CurS w2 w1.heap.size 0:=by rw[hw2];exact CurS.start (h.fr0 f1)
 have hs2:w2.heap.size=w.heap.size+3:=by rw[hw2];simp[hs1]
 obtain⟨cb,hcb⟩:∃cb,cb=w.heap.size+1+1:=⟨_,rfl⟩;rw[hs1,show w.heap.size+2=cb from hcb.symm]at hc2;have hcb2:cb=w.heap.size+2:=hcb;have HCb:=Hh hcb2;have HS2:=Hh hs2;have HRs:=Hh (fun(W:World) (f:Fr (fun q=>q=cb) w2 W)=>show W.cell? ⟨w.heap.size,0,none⟩=some (.slice none 0 0)∧W.frozen? ⟨w.heap.size,0,none⟩=false∧W.cell? ⟨w.heap.size+1,0,none⟩=some (.int .i64 0)∧W.cell? ⟨w.heap.size+1,1,none⟩=some (.int .i64 0)∧W.frozen? ⟨w.heap.size+1,0,none⟩=false∧W.frozen? ⟨w.heap.size+1,1,none⟩=false from by
  have h0:=f.heap (f2.heap e0 (fun q=>q)) (fun e=>by have h4:=HCb.out;have e:w.heap.size=cb:=e;omega);have h1:=f.heap (f2.heap e1 (fun q=>q)) (fun e=>by have h4:=HCb.out;have e:w.heap.size+1=cb:=e;omega);exact⟨by rw[cell_of_row W _ 0 _ _ _ h0];rfl,by simp[World.frozen?,h0],by rw[cell_of_row W _ 0 _ _ _ h1];rfl,by rw[cell_of_row W _ 1 _ _ _ h1];rfl,by simp[World.frozen?,h1],by simp[World.frozen?,h1]⟩)
 have HF:=Hh (fun(W:World) (f:Fr (fun q=>q=cb) w2 W)=>((f1.trans f2 (fun _ _ q=>q)).trans f (fun q hq e=>by have h4:=HCb.out;have e:q=cb:=e;omega):Fr NoM w W));have hany:=anyForm_any cb 0 2 w2 hc2 (by omega) (by omega);rw[show((2:Nat):Int)=2 from rfl]at hany;have HAny:=Hh hany;obtain⟨ca,cc,rfl,zz⟩:=id h.1;clear zz h f1 hs1 e0 e1 f2 hc2 hs2 hany hcb2;go_enter Tryz.func47,Tryz.ntmps47;go_upto_region 2 with fail;rw[←hw1,←hw2,←hcb];clear hw1 hw2 hcb;go_wp2_with fail;(with_reducible refine HAny.out.mono ?_);rintro e w4 ⟨v,Fi,rfl,n4,c4,f4,hlen⟩;have HLen:=Hh hlen;obtain⟨va,vc,rfl,zz⟩:=id n4;obtain⟨bf,hbf⟩:∃bf,bf=w4.heap.size:=⟨_,rfl⟩;obtain⟨W5,hW5⟩:∃W5,W5=w4.alloc (.cells #[.slice va Fi.length vc] 31):=⟨_,rfl⟩;have g5:Fr NoM w4 W5:=by rw[hW5];exact(Fr.refl NoM w4).alloc _
 have e5:W5.heap[bf]?=some (.cells #[.slice va Fi.length vc] 31 (0,0)):=by rw[hW5,hbf];exact heap_alloc_new w4 _
 have HC5:=Hh (c4.fr0 g5);have HN5:=Hh (n4.fr0 g5);have F5:=Hh (f4.trans g5 (fun _ _ q=>q.elim));have HBf:=Hh (show w2.heap.size≤bf from by have h1:=f4.size;omega);have HS:=Hh (fun(W:World) (f:Fr (fun q=>q=cb∨q=w.heap.size∨q=w.heap.size+1) W5 W)=>show W.cell? ⟨bf,0,none⟩=some (.slice va Fi.length vc)from by
  rw[cell_of_row W _ 0 _ _ _ (f.heap e5 (fun e=>by have h1:=HBf.out;have h2:=HS2.out;have h3:=HCb.out;rcases e with e|e|e <;> omega))];rfl)
 clear zz n4 c4 f4 g5 e5 HAny hlen;go_upto_region 3 with fail;rw[←hW5,←hbf];clear hW5 hbf;have HC5d:=Hh (show CurS W5.drew cb 40 from(HC5.out.mono (by omega)).fr0 ((Fr.refl NoM W5).drew));have G0:Fr (fun q=>q=cb) W5 W5.drew:=(Fr.refl (fun q=>q=cb) W5).drew;have h0:Fr (fun q=>q=cb∨q=w.heap.size∨q=w.heap.size+1) W5 W5.drew:=G0.mono (fun _ _ e=>.inl e);go_region_held3 (fun(W:World)=>W.cell? ⟨bf,0,none⟩=some (.slice va Fi.length vc))
  (first|exact HS.out _ (by assumption)|exact HS.out _ (Fr.setCell (by assumption) _ _ (fun _=>.inr (.inl rfl)))|exact HS.out _ (Fr.setCell (Fr.setCell (by assumption) _ _ (fun _=>.inr (.inr rfl))) _ _ (fun _=>.inr (.inr rfl)))|exact HS.out _ (Fr.setCell (Fr.setCell (Fr.setCell (by assumption) _ _ (fun _=>.inr (.inl rfl))) _ _ (fun _=>.inr (.inr rfl))) _ _ (fun _=>.inr (.inr rfl)))|exact HS.out _ (Fr.setCell (Fr.setCell (Fr.setCell (by assumption) _ _ (fun _=>.inr (.inr rfl))) _ _ (fun _=>.inr (.inr rfl))) _ _ (fun _=>.inr (.inl rfl))))
  (first
   | (go_at_call 101;(with_reducible refine(pick_any cb 40 9 _ HC5d.out (by omega) ⟨by omega,by omega⟩).mono ?_);rintro e w6 ⟨y,rfl,y0,y1,c6,f6⟩;have y9:y<9:=(by omega);have hwr:IntKind.i64.wrap (y-4)=y-4:=(by rw[IntKind.wrap_i64];omega);have g6:Fr (fun q=>q=cb) W5 w6:=G0.trans f6 (fun _ _ q=>q);have h6:Fr (fun q=>q=cb∨q=w.heap.size∨q=w.heap.size+1) W5 w6:=g6.mono (fun _ _ e=>.inl e))
   | (go_at_call 101;(with_reducible refine(pick_any cb (40+2) 3 _ c6 (by omega) ⟨by omega,by omega⟩).mono ?_);rintro e w7 ⟨z,rfl,z0,z1,c7,f7⟩;obtain⟨p,rfl⟩:∃p:Nat,z=(p:Int):=⟨z.toNat,by omega⟩;have p3:p<3:=(by omega);have g7:Fr (fun q=>q=cb) W5 w7:=g6.trans f7 (fun _ _ q=>q);have h7:Fr (fun q=>q=cb∨q=w.heap.size∨q=w.heap.size+1) W5 w7:=g7.mono (fun _ _ e=>.inl e))
   | (go_at_call 100;(try rw[hwr]);(with_reducible refine(l2Make_any (y-4) p _ ⟨by omega,by omega⟩ (by omega)).mono ?_);unfold dyV;rintro e w8 ⟨rfl,f8⟩;have g8:Fr (fun q=>q=cb) W5 w8:=g7.trans f8 (fun _ _ q=>q.elim);have h8:Fr (fun q=>q=cb∨q=w.heap.size∨q=w.heap.size+1) W5 w8:=g8.mono (fun _ _ e=>.inl e);obtain⟨r0,r1,r2,r3,r4,r5⟩:=HRs.out w8 (F5.out.trans g8 (fun _ _ q=>q)))
   | fail)
 all_goals
  have F8:=Hh g8;clear hwr;have HRd:=Hh (show Red (redT (y-4) p).1 (redT (y-4) p).2∧(-4≤(redT (y-4) p).1∧(redT (y-4) p).1≤4)∧(redT (y-4) p).2≤2 from⟨redT_red _ _,by have h1:=redT_abs p (y-4);omega,by have h1:=redT_le p (y-4);omega⟩);obtain⟨T1,hT1⟩:∃T1,T1=(redT (y-4) p).1:=⟨_,rfl⟩;obtain⟨P1,hP1⟩:∃P1,P1=(redT (y-4) p).2:=⟨_,rfl⟩;have hrd:=HRd.out;rw[←hT1,←hP1]at hrd ⊢;have HRd:=Hh hrd;clear hrd hT1 hP1 f6 f7 f8 c6 c7 g6 g7 g8 h6 h7 h8 h0 G0;go_wp2_with fail;refine bodyPost_ret (v:=.tuple #[.agg #[.slice va Fi.length vc],.agg #[.int .i64 T1,.int .i64 (P1:Int)]]) (by simp[results,Tryz.results47,go_sem,r0,r1,r2,r3,r4,r5]) rfl ?_
  have hn:NodeL (fun b=>w2.heap.size≤b) encI w8 (.slice va Fi.length vc) Fi:=HN5.out.fr F8.out (fun q hq e=>by have hq:w2.heap.size≤q:=hq;have e:q=cb:=e;have h1:=HS2.out;have h2:=HCb.out;omega);have fs:Fr (fun q=>q=w.heap.size∨q=w.heap.size+1) w8 (((w8.setCell ⟨w.heap.size,0,none⟩ (.slice va Fi.length vc)).setCell ⟨w.heap.size+1,0,none⟩ (.int .i64 T1)).setCell ⟨w.heap.size+1,1,none⟩ (.int .i64 (P1:Int))):=(((Fr.refl _ w8).setCell _ _ (fun _=>.inl rfl)).setCell _ _ (fun _=>.inr rfl)).setCell _ _ (fun _=>.inr rfl);refine⟨_,Fi,T1,P1,rfl,?_,(HF.out w8 (F5.out.trans F8.out (fun _ _ q=>q))).trans fs (fun q hq e=>by rcases e with e|e <;> omega),by have:=HLen.out;omega,HRd.out.1,HRd.out.2.1,HRd.out.2.2⟩;exact(hn.fr fs (fun q hq e=>by have hq:w2.heap.size≤q:=hq;have h1:=HS2.out;rcases e with e|e <;> omega)).mono (fun q hq=>by have hq:w2.heap.size≤q:=hq;have h1:=HS2.out;omega)
end Go.Proofs.YtbbbmjiloihajaaGreatDoor
