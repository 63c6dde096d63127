import Derived.Deep.SlicePairs
import Derived.ChangeSlices
import Derived.Test.YtlapkmhemepcaaaGreatDoorZmy
/- Lemmas. -/
namespace Go.Proofs.YtlapkmhemepcaaaGreatDoor
set_option linter.unusedVariables false
set_option linter.unusedSimpArgs false
open Go.RowKit
abbrev IL:=List Int × List Int
def cntI (Fi:List IL):Nat:=(Fi.map fun y=>y.1.length+y.2.length).sum
theorem zem {Fi:List IL}{i:Nat}{y:IL}(h:Fi[i]?=some y):cntI (Fi.take (i+1))=cntI (Fi.take i)+(y.1.length+y.2.length):=by
 obtain⟨hi,rfl⟩:=List.getElem?_eq_some_iff.1 h
 unfold cntI;rw[List.take_succ_eq_append_getElem hi,List.map_append,List.sum_append,List.map_cons,List.map_nil,List.sum_cons,List.sum_nil,Nat.add_zero]
theorem zin (Fi:List IL)(i:Nat):cntI (Fi.take i)≤cntI Fi:=by
 conv=>rhs;rw[←List.take_append_drop i Fi]
 simp only[cntI,List.map_append,List.sum_append];omega
theorem yag {Fi:List IL}{i:Nat}{y:IL}(h:Fi[i]?=some y):y.1.length+y.2.length≤cntI Fi:=by
 have h1:=zem h;have h2:=zin Fi (i+1);omega
set_option maxHeartbeats 1000000 in
theorem zmq (v:Value)(L:List Int)(n:Nat)(w:World)(hL:Ints w v L)(hn:n≤1048576) :
  Calls Tryz.prog 162 #[v,.int .i64 (n:Int)] w fun e w'=>e=.returned (.int .i64 (if n<L.length then -1 else ((n-L.length:Nat):Int)))/\w'=w:=by
 obtain⟨a,c,rfl,h1,h2,_⟩:=hL;by_cases hlt:n<L.length
 ·rw[if_pos hlt]
  have hs:((n:Int)-(L.length:Int))<0:=by omega
  go_enter Tryz.func162,Tryz.ntmps162;go_wp2;go_ret;exact⟨rfl,rfl⟩
 ·rw[if_neg hlt]
  have hs:¬((n:Int)-(L.length:Int))<0:=by omega
  have he:((n-L.length:Nat):Int)=(n:Int)-(L.length:Int):=by omega
  rw[he];go_enter Tryz.func162,Tryz.ntmps162;go_wp2;go_ret;exact⟨rfl,rfl⟩
set_option maxHeartbeats 1000000 in
theorem zu3 (l r:Value)(y:IL)(n:Nat)(w:World)(h1:Ints w l y.1)(h2:Ints w r y.2)(hn:n≤1048576) :
  Calls Tryz.prog 121 #[.agg #[l,r],.int .i64 (n:Int)] w fun e w'=>e=.returned (.int .i64 (if n<y.1.length+y.2.length then -1 else ((n-(y.1.length+y.2.length):Nat):Int)))/\Fr NoM w w':=by
 obtain⟨w1,hw1⟩:∃w1,w1=w.alloc (.cells #[l,r] 143):=⟨_,rfl⟩;have f1:Fr NoM w w1:=by rw[hw1];exact(Fr.refl NoM w).alloc _
 have H1:=Hh (fun(m:Nat) (hm:m≤1048576)=>zmq l y.1 m w1 (h1.fr0 f1) hm);have H2:=Hh (fun(m:Nat) (hm:m≤1048576)=>zmq r y.2 m w1 (h2.fr0 f1) hm);obtain⟨la,lc,rfl,_,_,_⟩:=h1;obtain⟨ra,rc,rfl,_,_,_⟩:=h2;have c0:w1.cell? ⟨w.heap.size,0,none⟩=some (.slice la y.1.length lc):=by rw[hw1,cell_of_row _ _ 0 _ _ _ (heap_alloc_new w _)];rfl
 have c1:w1.cell? ⟨w.heap.size,1,none⟩=some (.slice ra y.2.length rc):=by rw[hw1,cell_of_row _ _ 1 _ _ _ (heap_alloc_new w _)];rfl
 have F1:=Hh f1;have HW:=Hh hw1;clear f1 hw1;by_cases hlt:n<y.1.length
 ·have h1:=H1.out n hn
  rw[if_pos hlt]at h1;rw[if_pos (show n<y.1.length+y.2.length by omega)];have K1:=Hh h1;clear h1 hlt;go_enter Tryz.func121,Tryz.ntmps121;go_wp2_with fail;rw[←HW.out];refine K1.out.mono ?_
  rintro e w2 ⟨rfl,rfl⟩;go_wp2_with fail;go_ret;exact⟨rfl,F1.out⟩
 ·have h1:=H1.out n hn
  rw[if_neg hlt]at h1;obtain⟨m,hm⟩:∃m,m=n-y.1.length:=⟨_,rfl⟩;rw[←hm]at h1;have h2:=H2.out m (by omega);obtain⟨res,hres⟩:∃res,res=(if m<y.2.length then (-1:Int)else ((m-y.2.length:Nat):Int)):=⟨_,rfl⟩;have he:(if n<y.1.length+y.2.length then (-1:Int)else ((n-(y.1.length+y.2.length):Nat):Int))=res:=by
   rw[hres];by_cases hq:m<y.2.length
   ·rw[if_pos hq,if_pos (by omega)]
   ·rw[if_neg hq,if_neg (by omega)];omega
  rw[←hres]at h2;rw[he];have hm0:¬(m:Int)<0:=by omega
  have K1:=Hh h1;have K2:=Hh h2;have HR:=Hh hres;clear h1 h2 hlt hm he hres;go_enter Tryz.func121,Tryz.ntmps121;go_wp2_with fail;rw[←HW.out];refine K1.out.mono ?_
  rintro e w2 ⟨rfl,rfl⟩;go_wp2_with fail;refine K2.out.mono ?_
  rintro e w3 ⟨rfl,rfl⟩;by_cases hneg:res<0
  ·have hr1:res=-1:=by
    have h:=HR.out;split at h
    ·exact h
    ·omega
   have HR1:=Hh hr1;clear hr1;go_wp2_with fail;go_ret;exact⟨by rw[HR1.out];rfl,F1.out⟩
  ·go_wp2_with fail
   go_ret;exact⟨rfl,F1.out⟩
theorem zxi (a:Option Addr)(n c k b off:Nat)(hk:k<n)(ha:a=some ⟨b,off,none⟩)(w:World) :
  (Instr.indexAt 47 (.slice a n c) (.int .i64 (k:Int))).run Tryz.prog w=.ok (.pointer (some ⟨b,off+k*2,none⟩)) w:=by
 subst ha;go_simp
set_option maxHeartbeats 2000000 in
theorem zpn {R:Nat→Prop}(v:Value)(Fi:List IL)(n:Nat)(w:World)(h:NodeL R encI w v Fi)(hn:n≤1048576) :
  Calls Tryz.prog 71 #[v,.int .i64 (n:Int)] w fun e w'=>e=.returned (.int .i64 (if n<Fi.length+cntI Fi then -1 else ((n-(Fi.length+cntI Fi):Nat):Int)))/\Fr NoM w w':=by
 obtain⟨a,c,rfl,h1,h2,h3⟩:=h;by_cases hlt:n<Fi.length
 ·rw[if_pos (show n<Fi.length+cntI Fi by omega)]
  have hs:((n:Int)-(Fi.length:Int))<0:=by omega
  clear h3;go_enter Tryz.func71,Tryz.ntmps71;go_wp2;go_ret;exact⟨rfl,Fr.refl _ _⟩
 ·obtain⟨m,hm⟩:∃m,m=n-Fi.length:=⟨_,rfl⟩
  have hme:(n:Int)-(Fi.length:Int)=(m:Int):=by omega
  have hm0:¬(m:Int)<0:=by omega
  obtain⟨res,hres⟩:∃res,res=(if n<Fi.length+cntI Fi then (-1:Int)else ((n-(Fi.length+cntI Fi):Nat):Int)):=⟨_,rfl⟩;rw[←hres];have hr2:res=if m<cntI Fi then (-1:Int)else ((m-cntI Fi:Nat):Int):=by
   rw[hres];by_cases hq:m<cntI Fi
   ·rw[if_pos hq,if_pos (by omega)]
   ·rw[if_neg hq,if_neg (by omega)];omega
  have hmb:m≤1048576:=by omega
  have H3:=Hh h3;have HR:=Hh hr2;have HMb:=Hh hmb;clear h3 hres hr2 hm hlt;go_enter Tryz.func71,Tryz.ntmps71;go_wp2_with fail;go_loopw [5,1] (fun t l W=>∃j q:Nat,t=.int .i64 j/\l=.int .i64 q/\j≤Fi.length/\q+cntI (Fi.take j)=m/\Fr NoM w W) (fun t _ _=>Fi.length-(intOf t).toNat)
  case atStart=>exact⟨0,m,rfl,by first|rfl|rw[hme],Nat.zero_le _,by simp[cntI],Fr.refl _ _⟩
  case round =>
   obtain⟨j,q,rfl,rfl,hj,hq,hfr⟩:=hrel;obtain⟨w7,rfl⟩:∃w7,w7=wr:=⟨_,rfl⟩;have HQ:=Hh hq;have HFr:=Hh hfr;clear hq hfr;by_cases hjl:j<Fi.length
   ·obtain⟨y,hy⟩:∃y,Fi[j]?=some y:=⟨_,List.getElem?_eq_getElem hjl⟩
    obtain⟨b,off,l,r,ha,_,c1,c2,s1,s2,_,_⟩:=H3.out j y hy;have ix:=zxi a Fi.length c j b off hjl ha;have d1:=HFr.out.cell c1 (fun q=>q);have d2:=HFr.out.cell c2 (fun q=>q);have hcall:=zu3 l r y q w7 (s1.fr0 HFr.out) (s2.fr0 HFr.out) (by have:=HQ.out;have:=HMb.out;omega);obtain⟨r1,hr1⟩:∃r1,r1=(if q<y.1.length+y.2.length then (-1:Int)else ((q-(y.1.length+y.2.length):Nat):Int)):=⟨_,rfl⟩;rw[←hr1]at hcall;have HC:=Hh hcall;have HR1:=Hh hr1;have HY:=Hh hy;clear hcall hr1 hy c1 c2 s1 s2 ha;go_wp2_with fail;refine HC.out.mono ?_
    rintro e w8 ⟨rfl,f8⟩;have HF8:=Hh (HFr.out.trans f8 (fun _ _ q=>q));clear f8;by_cases hneg:r1<0
    ·have hrn:res=-1:=by
      have h1:=HR1.out;have h2:=zem HY.out;have h3:=zin Fi (j+1);have h4:=HQ.out;rw[HR.out,if_pos];split at h1
      ·omega
      ·omega
     have HRn:=Hh hrn;clear hrn;go_wp2_with fail;go_ret;exact⟨by rw[HRn.out];rfl,HF8.out⟩
    ·obtain⟨q',hq'⟩:∃q':Nat,r1=(q':Int):=⟨r1.toNat,by omega⟩
     have hs:q'+(y.1.length+y.2.length)=q:=by
      have h1:=HR1.out;split at h1
      ·omega
      ·omega
     subst hq';have HS:=Hh hs;clear hs;go_wp2_with fail;go_roundw
     case rel=>exact⟨j+1,q',by go_num,rfl,by omega,by
      have h2:=zem HY.out;have h4:=HQ.out;have h5:=HS.out;omega,HF8.out⟩
     case measure=>simp[intOf];omega
   ·have hj':j=Fi.length:=by omega
    subst hj';have hqe:res=(q:Int):=by
     have h4:=HQ.out;rw[List.take_length]at h4;rw[HR.out,if_neg (by omega)];omega
    have HQe:=Hh hqe;clear hqe;go_wp2_with fail;go_ret;exact⟨by rw[HQe.out];rfl,HFr.out⟩
set_option maxHeartbeats 1000000 in
theorem zu4 {R:Nat→Prop}(v:Value)(Fi:List IL)(n:Nat)(w:World)(h:NodeL R encI w v Fi)(hn:n≤1048576) :
  Calls Tryz.prog 28 #[.agg #[v],.int .i64 (n:Int)] w fun e w'=>e=.returned (.int .i64 (if n<Fi.length+cntI Fi then -1 else ((n-(Fi.length+cntI Fi):Nat):Int)))/\Fr NoM w w':=by
 obtain⟨w1,hw1⟩:∃w1,w1=w.alloc (.cells #[v] 49):=⟨_,rfl⟩;have f1:Fr NoM w w1:=by rw[hw1];exact(Fr.refl NoM w).alloc _
 have hc:=zpn v Fi n w1 (h.fr0 f1) hn;obtain⟨a,c,rfl,_⟩:=h;have c0:w1.cell? ⟨w.heap.size,0,none⟩=some (.slice a Fi.length c):=by rw[hw1,cell_of_row _ _ 0 _ _ _ (heap_alloc_new w _)];rfl
 obtain⟨res,hres⟩:∃res,res=(if n<Fi.length+cntI Fi then (-1:Int)else ((n-(Fi.length+cntI Fi):Nat):Int)):=⟨_,rfl⟩;rw[←hres]at hc ⊢;have HC:=Hh hc;have HR:=Hh hres;have F1:=Hh f1;have HW:=Hh hw1;clear hc hres f1 hw1;go_enter Tryz.func28,Tryz.ntmps28;go_wp2_with fail;rw[←HW.out];refine HC.out.mono ?_
 rintro e w2 ⟨rfl,f2⟩;have F2:=Hh (F1.out.trans f2 (fun _ _ q=>q));clear f2;by_cases hneg:res<0
 ·have hr1:res=-1:=by
   have h:=HR.out;split at h
   ·exact h
   ·omega
  have HR1:=Hh hr1;clear hr1;go_wp2_with fail;go_ret;exact⟨by rw[HR1.out];rfl,F2.out⟩
 ·go_wp2_with fail
  go_ret;exact⟨rfl,F2.out⟩
theorem zzr (n:Nat)(W:World)(hn:n<1000000000):(Instr.makeSlice 100 (.int .i64 (n:Int)) (.int .i64 (n:Int))).run Tryz.prog W=.ok (.slice (some ⟨W.heap.size,0,none⟩) n n) (W.alloc (.cells (zca encI 0 n) 3)):=by
 have h:=zkz n W hn;rw[show zca encN 0 n=zca encI 0 n from by simp[zca,encN,encI]]at h;exact h
set_option maxHeartbeats 1000000 in
theorem zmp (v:Value)(L:List Int)(w:World)(hL:Ints w v L)(hl:L.length<1000000000) :
  Calls Tryz.prog 176 #[v] w fun e w'=>e=.returned (.slice (some ⟨w.heap.size,0,none⟩) L.length L.length)/\RowIs 3 encI w' w.heap.size L/\Fr NoM w w':=by
 obtain⟨la,lc,rfl,hlc,hlcm,hL⟩:=hL;have HL:=Hh hL;clear hL;have mk:=fun W=>zzr L.length W hl
 go_enter Tryz.func176,Tryz.ntmps176;go_wp2;clear mk;go_loopw [4] (fun i W=>∃k:Nat,i=.int .i64 k/\k≤L.length/\RowIs 3 encI W w.heap.size (L.take k++List.replicate (L.length-k) 0)/\Fr NoM w W) (fun i _=>L.length-(intOf i).toNat)
 case atStart=>exact⟨0,rfl,Nat.zero_le _,RowIs.made 3 encI w 0 L.length,(Fr.refl NoM w).alloc _⟩
 case round =>
  obtain⟨k,rfl,hk,hrow,hfr⟩:=hrel;obtain⟨w7,rfl⟩:∃w7,w7=wr:=⟨_,rfl⟩;by_cases hkl:k<L.length
  ·obtain⟨x,hx⟩:∃x,L[k]?=some x:=⟨_,List.getElem?_eq_getElem hkl⟩
   obtain⟨b1,o1,ha1,hc1⟩:=HL.out k x hx;have ix1:=za7 la L.length lc k b1 o1 hkl ha1;have ix3:=zfe w.heap.size L.length L.length k hkl;replace hc1:w7.cell? ⟨b1,o1+k,none⟩=some (.int .i64 x):=hfr.cell hc1 (fun q=>q)
   have k3:=hrow.cell k (by simp;omega);have z3:=hrow.frozen k;have hnew:=hrow.set k x;have hXl:(L.take k).length=k:=by simp;omega
   have hset:(L.take k++List.replicate (L.length-k) 0).set k x=L.take (k+1)++List.replicate (L.length-(k+1)) 0:=by
    have h:=zk3 (L.take k) (L.length-(k+1)) x 0;rw[hXl,show L.length-(k+1)+1=L.length-k from by omega]at h;obtain⟨hk',e⟩:=List.getElem?_eq_some_iff.1 hx
    rw[h,List.take_succ_eq_append_getElem hk',e]
   rw[hset]at hnew;have hfr2:=hfr.setCell ⟨w.heap.size,k,none⟩ (encI x) (fun h=>absurd h (Nat.lt_irrefl _));have HNew:=Hh hnew;have HF2:=Hh hfr2;clear hset hnew hfr2 hrow hfr ha1 hXl hx;go_wp2;go_roundw
   case rel=>exact⟨k+1,by go_num,by omega,HNew.out,HF2.out⟩
   case measure=>simp[intOf];omega
  ·have hk':k=L.length:=by omega
   subst hk';rw[List.take_length,Nat.sub_self,List.replicate_zero,List.append_nil]at hrow;have HRow:=Hh hrow;have HFr:=Hh hfr;clear hrow hfr;go_wp2;go_ret;exact⟨rfl,HRow.out,HFr.out⟩
set_option maxRecDepth 4000 in
set_option maxHeartbeats 4000000 in
theorem zu1 (l r:Value)(y:IL)(w:World)(h1:Ints w l y.1)(h2:Ints w r y.2)(hl:y.1.length<1000000000)(hr:y.2.length<1000000000) :
  Calls Tryz.prog 130 #[.agg #[l,r]] w fun e w'=>∃g1 g2:Nat,e=.returned (.agg #[.slice (some ⟨g1,0,none⟩) y.1.length y.1.length,.slice (some ⟨g2,0,none⟩) y.2.length y.2.length])/\w.heap.size≤g1/\g1<g2/\RowIs 3 encI w' g1 y.1/\RowIs 3 encI w' g2 y.2/\Fr NoM w w':=by
 obtain⟨w2,hw2⟩:∃w2,w2=((w.alloc (.cells #[l,r] 143)).alloc (.cells #[.slice none 0 0,.slice none 0 0] 102)).alloc (.cells #[.slice none 0 0,.slice none 0 0] 102):=⟨_,rfl⟩;have f2:Fr NoM w w2:=by rw[hw2];exact(((Fr.refl NoM w).alloc _).alloc _).alloc _
 have hs2:w2.heap.size=w.heap.size+3:=by rw[hw2];simp
 have e0:w2.heap[w.heap.size]?=some (.cells #[l,r] 143 (0,0)):=by rw[hw2];exact(((Fr.refl NoM _).alloc _).alloc _).heap (heap_alloc_new w _) (fun q=>q)
 have e1:w2.heap[w.heap.size+1]?=some (.cells #[.slice none 0 0,.slice none 0 0] 102 (0,0)):=by
  have h:=heap_alloc_new (w.alloc (.cells #[l,r] 143)) (.cells #[.slice none 0 0,.slice none 0 0] 102);rw[World.size_alloc]at h;rw[hw2];exact((Fr.refl NoM _).alloc _).heap h (fun q=>q)
 have e2:w2.heap[w.heap.size+2]?=some (.cells #[.slice none 0 0,.slice none 0 0] 102 (0,0)):=by
  have h:=heap_alloc_new ((w.alloc (.cells #[l,r] 143)).alloc (.cells #[.slice none 0 0,.slice none 0 0] 102)) (.cells #[.slice none 0 0,.slice none 0 0] 102);rw[World.size_alloc,World.size_alloc]at h;rw[hw2];exact h
 have B1:=Hh (zmp l y.1 w2 (h1.fr0 f2) hl);have B2:=Hh (fun(W:World) (f:Fr NoM w W)=>zmp r y.2 W (h2.fr0 f) hr);obtain⟨la,lc,rfl,_,_,_⟩:=h1;obtain⟨ra,rc,rfl,_,_,_⟩:=h2;have c0:w2.cell? ⟨w.heap.size,0,none⟩=some (.slice la y.1.length lc):=by rw[cell_of_row _ _ 0 _ _ _ e0];rfl
 have HW:=Hh hw2;have F2:=Hh f2;have HS:=Hh hs2;have E0:=Hh e0;have E1:=Hh e1;have E2:=Hh e2;clear hw2 f2 hs2 e0 e1 e2;go_enter Tryz.func130,Tryz.ntmps130;go_wp2_with fail;rw[←HW.out];refine B1.out.mono ?_
 rintro e w3 ⟨rfl,hrow3,f3⟩;obtain⟨g1,hg1⟩:∃g1,g1=w2.heap.size:=⟨_,rfl⟩;rw[←hg1]at hrow3 ⊢;have E0':=f3.heap E0.out (fun q=>q);have E1':=f3.heap E1.out (fun q=>q);have E2':=f3.heap E2.out (fun q=>q);obtain⟨k0,_,z0,_⟩:=zc3 E2';have kb:w3.cell? ⟨w.heap.size,1,none⟩=some (.slice ra y.2.length rc):=by rw[cell_of_row _ _ 1 _ _ _ E0'];rfl
 have hs3:=hrow3;have hg3:g1<w3.heap.size:=(Array.getElem?_eq_some_iff.1 hrow3).1;have hset:=heap_set (i:=0) E2' (.slice (some ⟨g1,0,none⟩) y.1.length y.1.length);obtain⟨w4,hw4⟩:∃w4,w4=w3.setCell ⟨w.heap.size+2,0,none⟩ (.slice (some ⟨g1,0,none⟩) y.1.length y.1.length):=⟨_,rfl⟩;have f4:Fr (fun q=>q=w.heap.size+2) w3 w4:=by rw[hw4];exact Fr.set w3 ⟨w.heap.size+2,0,none⟩ (.slice (some ⟨g1,0,none⟩) y.1.length y.1.length)
 rw[←hw4]at hset;have hrow4:=hrow3.fr f4 (by have:=HS.out;omega);have hs4:w4.heap.size=w3.heap.size:=by rw[hw4];simp[World.setCell]
 have F04:Fr NoM w w4:=(F2.out.trans f3 (fun _ _ q=>q)).trans f4 (fun q hq e=>by omega);have E14:=f4.heap E1' (by omega);have B2':=Hh (B2.out w4 F04);have HW4:=Hh hw4;have HSet:=Hh hset;have HRow4:=Hh hrow4;have HS4:=Hh hs4;have HF04:=Hh F04;have HE1:=Hh E14;have HG1:=Hh hg1;have HG3:=Hh hg3;clear hw4 hset hrow4 hs4 F04 E14 hg1 hg3 hrow3 hs3 E0' E1' E2' f4 f3 c0;go_wp2_with fail;rw[←HW4.out];refine B2'.out.mono ?_
 rintro e w5 ⟨rfl,hrow5,f5⟩;have hset5:=f5.heap HSet.out (fun q=>q);have e15:=f5.heap HE1.out (fun q=>q);obtain⟨k50,k51,_,z51⟩:=zc3 hset5;obtain⟨k10,k11,z10,z11⟩:=zc3 e15;obtain⟨g2,hg2⟩:∃g2,g2=w4.heap.size:=⟨_,rfl⟩;rw[←hg2]at hrow5 ⊢;have hrow45:=HRow4.out.fr f5 (fun q=>q);have F05:=HF04.out.trans f5 (fun _ _ q=>q);have HSet5:=Hh hset5;have HE15:=Hh e15;have HRow5:=Hh hrow5;have HRow45:=Hh hrow45;have HF05:=Hh F05;have HG2:=Hh hg2;clear hset5 e15 hrow5 hrow45 F05 hg2 k0 z0 kb;go_wp2_with fail;have hf6:=Fr.set w5 ⟨w.heap.size+1+1,1,none⟩ (.slice (some ⟨g2,0,none⟩) y.2.length y.2.length);obtain⟨w6,hw6⟩:∃w6,w6=w5.setCell ⟨w.heap.size+1+1,1,none⟩ (.slice (some ⟨g2,0,none⟩) y.2.length y.2.length):=⟨_,rfl⟩;rw[←hw6]at hf6 ⊢;have e16:=hf6.heap HE15.out (fun e=>by have e:w.heap.size+1=w.heap.size+1+1:=e;omega);obtain⟨p1,p2⟩:=put2 (u1:=.slice (some ⟨g1,0,none⟩) y.1.length y.1.length) (u2:=.slice (some ⟨g2,0,none⟩) y.2.length y.2.length) e16;obtain⟨w8,hw8⟩:∃w8,w8=(w6.setCell ⟨w.heap.size+1,0,none⟩ (.slice (some ⟨g1,0,none⟩) y.1.length y.1.length)).setCell ⟨w.heap.size+1,1,none⟩ (.slice (some ⟨g2,0,none⟩) y.2.length y.2.length):=⟨_,rfl⟩;rw[←hw8]at p1 p2 ⊢;obtain⟨m0,m1,_,_⟩:=zc3 p1;have hs:=HS.out;have hg1:=HG1.out;have hg2:=HG2.out;have hg3:=HG3.out;have hs4:=HS4.out;refine bodyPost_ret (v:=.agg #[.slice (some ⟨g1,0,none⟩) y.1.length y.1.length,.slice (some ⟨g2,0,none⟩) y.2.length y.2.length]) (by simp[results,Tryz.results130,go_sem,m0,m1]) rfl ?_
 have f58:Fr (fun q=>q=w.heap.size+1∨q=w.heap.size+2) w5 w8:=(hf6.mono (fun q _ e=>.inr e)).trans p2 (fun q _ e=>.inl e);exact⟨g1,g2,rfl,by omega,by omega,HRow45.out.fr f58 (fun e=>by omega),HRow5.out.fr f58 (fun e=>by omega),HF05.out.trans f58 (fun q hq e=>by omega)⟩
structure PartsI (D g:Nat) (w:World) (FI:List IL) (NV:List (Value × Value)):Prop where
 len:NV.length=FI.length
 ints:∀(j:Nat) (x:Value × Value) (y:IL),NV[j]?=some x→FI[j]?=some y→Ints w x.1 y.1/\Ints w x.2 y.2
 blk:∀q∈zbc NV,D≤q/\q<w.heap.size/\q≠g
 sep:(zbc NV).Nodup
 thaw:∀q∈zbc NV,RowB w q
theorem PartsI.fr {M:Nat→Prop}{D g:Nat}{w w':World}{FI:List IL}{NV:List (Value × Value)}(h:PartsI D g w FI NV)(hf:Fr M w w')(hM:∀q,D≤q→q<w.heap.size→q≠g→¬M q):PartsI D g w' FI NV:=by
 refine⟨h.len,fun j x y hx hy=>?_,fun q hq=>⟨(h.blk q hq).1,Nat.lt_of_lt_of_le (h.blk q hq).2.1 hf.size,(h.blk q hq).2.2⟩,h.sep,fun q hq=>(h.thaw q hq).fr hf (hM q (h.blk q hq).1 (h.blk q hq).2.1 (h.blk q hq).2.2)⟩;obtain⟨s1,s2⟩:=h.ints j x y hx hy;obtain⟨m1,m2⟩:=zi3 hx;exact⟨s1.fr hf (fun _ q hq=>hM q (h.blk q (m1 q hq)).1 (h.blk q (m1 q hq)).2.1 (h.blk q (m1 q hq)).2.2),s2.fr hf (fun _ q hq=>hM q (h.blk q (m2 q hq)).1 (h.blk q (m2 q hq)).2.1 (h.blk q (m2 q hq)).2.2)⟩
theorem PartsI.snoc {D g g1 g2:Nat}{w w':World}{FI:List IL}{y:IL}{NV:List (Value × Value)}(h:PartsI D g w FI NV)(hf:Fr NoM w w')(hDg:D≤w.heap.size)(hg:g<w.heap.size)(h1:w.heap.size≤g1)(h12:g1<g2)(r1:RowIs 3 encI w' g1 y.1)(r2:RowIs 3 encI w' g2 y.2)(l1:y.1.length≤9223372036854775807)(l2:y.2.length≤9223372036854775807) :
  PartsI D g w' (FI ++ [y]) (NV ++ [(.slice (some ⟨g1,0,none⟩) y.1.length y.1.length,.slice (some ⟨g2,0,none⟩) y.2.length y.2.length)]):=by
 have h':=h.fr hf (fun _ _ _ _ q=>q);have hlt2:g2<w'.heap.size:=(Array.getElem?_eq_some_iff.1 r2).1;have hbl:zbc (NV ++ [(Value.slice (some ⟨g1,0,none⟩) y.1.length y.1.length,Value.slice (some ⟨g2,0,none⟩) y.2.length y.2.length)])=zbc NV ++ [g1,g2]:=by
  rw[zo6];rfl
 refine⟨by simp[h.len],fun j x z hx hz=>?_,fun q hq=>?_,?_,fun q hq=>?_⟩
 ·rcases zf9 hx with ⟨hj,hx⟩|⟨rfl,rfl⟩
  ·have hz':FI[j]?=some z:=by
    rw[List.getElem?_append_left (by rw[←h.len];exact hj)]at hz;exact hz
   exact h'.ints j x z hx hz'
  ·rw[h.len]at hz
   have e:z=y:=by simpa using hz.symm
   subst e;exact⟨r1.slice l1,r2.slice l2⟩
 ·rw[hbl,List.mem_append]at hq
  rcases hq with hq|hq
  ·exact h'.blk q hq
  ·simp at hq
   rcases hq with rfl|rfl
   ·exact⟨by omega,by omega,by omega⟩
   ·exact⟨by omega,by omega,by omega⟩
 ·rw[hbl,List.nodup_append]
  refine⟨h.sep,by simp;omega,fun a ha b hb=>?_⟩;have:=(h.blk a ha).2.1;simp at hb;omega
 ·rw[hbl,List.mem_append]at hq
  rcases hq with hq|hq
  ·exact h'.thaw q hq
  ·simp at hq
   rcases hq with rfl|rfl
   ·exact⟨_,r1⟩
   ·exact⟨_,r2⟩
structure NodesI (D:Nat) (w:World) (v:Value) (FI:List IL) (NV:List (Value × Value)):Prop where
 row:w.ownsRow D 102 2 v NV.length (zay NV)
 len:NV.length=FI.length
 ints:∀(j:Nat) (x:Value × Value) (y:IL),NV[j]?=some x→FI[j]?=some y→Ints w x.1 y.1/\Ints w x.2 y.2
 blk:∀q∈zbc NV,D≤q/\q<w.heap.size/\v.ownBlock≠some q
 sep:(zbc NV).Nodup
 thaw:∀q∈zbc NV,RowB w q
theorem NodesI.fr {M:Nat→Prop}{D:Nat}{w w':World}{v:Value}{FI:List IL}{NV:List (Value × Value)}(h:NodesI D w v FI NV)(hf:Fr M w w')(hM:∀q,D≤q→q<w.heap.size→¬M q):NodesI D w' v FI NV:=by
 refine⟨za2 h.row hf (fun q hq=>hM q (h.row.lt q hq).1 (h.row.lt q hq).2),h.len,fun j x y hx hy=>?_,fun q hq=>⟨(h.blk q hq).1,Nat.lt_of_lt_of_le (h.blk q hq).2.1 hf.size,(h.blk q hq).2.2⟩,h.sep,fun q hq=>(h.thaw q hq).fr hf (hM q (h.blk q hq).1 (h.blk q hq).2.1)⟩;obtain⟨s1,s2⟩:=h.ints j x y hx hy;obtain⟨m1,m2⟩:=zi3 hx;exact⟨s1.fr hf (fun _ q hq=>hM q (h.blk q (m1 q hq)).1 (h.blk q (m1 q hq)).2.1),s2.fr hf (fun _ q hq=>hM q (h.blk q (m2 q hq)).1 (h.blk q (m2 q hq)).2.1)⟩
theorem NodesI.nodeL {D:Nat}{w:World}{v:Value}{FI:List IL}{NV:List (Value × Value)}(h:NodesI D w v FI NV):NodeL (fun q=>D≤q/\q<w.heap.size) encI w v FI:=by
 obtain⟨a,c,rfl,h1,h2,h3⟩:=Pairs.of_owns h.row;have hl:=h.len;rw[hl]at h1 ⊢;refine⟨a,c,rfl,h1,h2,fun j y hy=>?_⟩;obtain⟨x,hx⟩:∃x,NV[j]?=some x:=⟨_,List.getElem?_eq_getElem (by rw[hl];exact(List.getElem?_eq_some_iff.1 hy).1)⟩;obtain⟨b,off,ha,c1,c2⟩:=h3 j x hx;obtain⟨s1,s2⟩:=h.ints j x y hx hy;obtain⟨m1,m2⟩:=zi3 hx;have hb:=h.row.lt b (by rw[ha];rfl);exact⟨b,off,x.1,x.2,ha,hb,c1,c2,s1,s2,fun _ q hq=>⟨(h.blk q (m1 q hq)).1,(h.blk q (m1 q hq)).2.1⟩,fun _ q hq=>⟨(h.blk q (m2 q hq)).1,(h.blk q (m2 q hq)).2.1⟩⟩
theorem zzq (n:Nat)(W:World)(hn:n<1000000000):(Instr.makeSlice 24 (.int .i64 (n:Int)) (.int .i64 (n:Int))).run Tryz.prog W=.ok (.slice (some ⟨W.heap.size,0,none⟩) n n) (W.alloc (.cells (zca encV (.slice none 0 0) (2*n)) 102)):=by
 obtain⟨i0,hi,hz0,hz1,hz2⟩:=info_parts zc5;have h:=run_make (P:=Tryz.prog) W 24 102 i0 _ Tryz.underlying24 hi hz0 .i64 .i64 (n:Int) (n:Int) (by omega) (by omega) (by rw[hz2];omega) (by omega);rw[h,hz1,show((n:Int)).toNat=n from by omega];have:madeCells (Value.cells (.agg #[.slice none 0 0,.slice none 0 0])) (n*2)=(zca encV (.slice none 0 0) (2*n)):=by
  apply Array.ext'
  unfold zca;rw[List.toList_toArray,madeCells,Array.toList_map,Array.toList_range];refine(List.eq_replicate_iff.2 ⟨by simp;omega,fun b hb=>?_⟩:_=List.replicate (2*n) (Value.slice none 0 0)).trans (by simp[encV]);obtain⟨y,_,rfl⟩:=List.mem_map.1 hb;have:y%2=0∨y%2=1:=by omega
  rcases this with e|e <;> simp[Value.cells,e]
 rw[this]
set_option maxRecDepth 4000 in
set_option maxHeartbeats 4000000 in
theorem zpm {R:Nat→Prop}(v:Value)(Fi:List IL)(w:World)(h:NodeL R encI w v Fi)(hn:Fi.length<1000000000)(hlen:∀y∈Fi,y.1.length<1000000000/\y.2.length<1000000000) :
  Calls Tryz.prog 75 #[v] w fun e w'=>∃(v':Value) (NV:List (Value × Value)),e=.returned v'∧NodesI w.heap.size w' v' Fi NV/\Fr NoM w w':=by
 obtain⟨a,c,rfl,h1,h2,h3⟩:=h;have mk:=fun W=>zzq Fi.length W (by omega)
 have H3:=Hh h3;have HLen:=Hh hlen;clear h3 hlen;go_enter Tryz.func75,Tryz.ntmps75;go_wp2;clear mk;go_loopw [4] (fun t W=>∃(i:Nat) (NV:List (Value × Value)),t=.int .i64 i/\i≤Fi.length/\PartsI w.heap.size w.heap.size W (Fi.take i) NV/\RowIs 102 encV W w.heap.size (zay NV++List.replicate (2*(Fi.length-i)) (.slice none 0 0))/\Fr NoM w W) (fun t _=>Fi.length-(intOf t).toNat)
 case atStart=>exact⟨0,[],rfl,Nat.zero_le _,⟨rfl,by simp,by simp[zbc,zay],by simp[zbc,zay],by simp[zbc,zay]⟩,RowIs.made 102 encV w (.slice none 0 0) (2*Fi.length),(Fr.refl NoM w).alloc _⟩
 case round =>
  obtain⟨i,NV,rfl,hi,hp,hrow,hfr⟩:=hrel;obtain⟨w7,rfl⟩:∃w7,w7=wr:=⟨_,rfl⟩;by_cases hil:i<Fi.length
  ·obtain⟨y,hy⟩:∃y,Fi[i]?=some y:=⟨_,List.getElem?_eq_getElem hil⟩
   obtain⟨b,off,l,r,ha,_,c1,c2,s1,s2,_,_⟩:=H3.out i y hy;obtain⟨l1,l2⟩:=HLen.out y (List.mem_of_getElem? hy);have ix:=zxi a Fi.length c i b off hil ha;have ix2:=zb9 (some ⟨w.heap.size,0,none⟩) Fi.length Fi.length i w.heap.size 0 hil rfl;simp only[Nat.zero_add]at ix2;have d1:=hfr.cell c1 (fun q=>q);have d2:=hfr.cell c2 (fun q=>q);have hcall:=zu1 l r y w7 (s1.fr0 hfr) (s2.fr0 hfr) l1 l2;have hnl:NV.length=i:=by rw[hp.len];simp;omega
   have hsz:w.heap.size<w7.heap.size:=(Array.getElem?_eq_some_iff.1 hrow).1;have HC:=Hh hcall;have HY:=Hh hy;have HP:=Hh hp;have HRow:=Hh hrow;have HFr:=Hh hfr;have HNl:=Hh hnl;have HSz:=Hh hsz;have HL:=Hh (And.intro l1 l2);clear hcall hy hp hrow hfr hnl hsz c1 c2 s1 s2 ha l1 l2;go_wp2_with fail;refine HC.out.mono ?_
   rintro e w8 ⟨g1,g2,rfl,hg1,hg12,r1,r2,f8⟩;have hp8:=HP.out.snoc f8 (Nat.le_of_lt HSz.out) HSz.out hg1 hg12 r1 r2 (by have:=HL.out.1;omega) (by have:=HL.out.2;omega);have hrow8:=HRow.out.fr f8 (fun q=>q);have hfl:(zay NV).length=i*2:=by rw[zby,HNl.out]
   obtain⟨m,hm⟩:∃m,2*(Fi.length-i)=m+1+1:=⟨2*(Fi.length-i)-2,by omega⟩;have hm2:2*(Fi.length-(i+1))=m:=by omega
   rw[hm]at hrow8;obtain⟨v1,hv1⟩:∃v1,v1=Value.slice (some ⟨g1,0,none⟩) y.1.length y.1.length:=⟨_,rfl⟩;obtain⟨v2,hv2⟩:∃v2,v2=Value.slice (some ⟨g2,0,none⟩) y.2.length y.2.length:=⟨_,rfl⟩;obtain⟨u0,k0⟩:∃u0,w8.cell? ⟨w.heap.size,i*2,none⟩=some u0:=⟨_,hrow8.cell (i*2) (by simp[hfl])⟩;obtain⟨u1,k1⟩:∃u1,w8.cell? ⟨w.heap.size,i*2+1,none⟩=some u1:=⟨_,hrow8.cell (i*2+1) (by simp[hfl])⟩;have z0:=hrow8.frozen (i*2);have z1:=hrow8.frozen (i*2+1);have hset1:=hrow8.set (i*2) v1;have e1:=zk3 (zay NV) (m+1) v1 (.slice none 0 0);rw[hfl]at e1;rw[e1]at hset1;have hset2:=hset1.set (i*2+1) v2;have e2:=zk3 (zay NV ++ [v1]) m v2 (.slice none 0 0);rw[List.length_append,hfl]at e2;rw[show i*2 + [v1].length=i*2+1 from rfl]at e2;rw[e2]at hset2;have hfin:zay NV ++ [v1] ++ [v2]=zay (NV ++ [(v1,v2)]):=by simp[zay]
   rw[hfin,←hm2]at hset2;have htk:Fi.take i ++ [y]=Fi.take (i+1):=by
    obtain⟨hi',e⟩:=List.getElem?_eq_some_iff.1 HY.out
    rw[List.take_succ_eq_append_getElem hi',e]
   rw[htk,←hv1,←hv2]at hp8;have f9:Fr (fun q=>q=w.heap.size) w8 ((w8.setCell ⟨w.heap.size,i*2,none⟩ v1).setCell ⟨w.heap.size,i*2+1,none⟩ v2):=((Fr.refl (fun q=>q=w.heap.size) w8).setCell ⟨w.heap.size,i*2,none⟩ v1 (fun _=>rfl)).setCell ⟨w.heap.size,i*2+1,none⟩ v2 (fun _=>rfl);have hp9:=hp8.fr f9 (fun q _ _ hne e=>hne e);have hfr9:=(HFr.out.trans f8 (fun _ _ q=>q)).trans f9 (fun q hq e=>by omega);rw[hv1,hv2]at hset2 hp9 hfr9;have HSet:=Hh hset2;have HP9:=Hh hp9;have HFr9:=Hh hfr9;clear hset1 hset2 hp8 hp9 hfr9 f9 f8 r1 r2 hg1 hg12 hrow8 e1 e2 hfin htk hv1 hv2 hm hm2 hfl;go_wp2_with fail;go_roundw
   case rel=>exact⟨i+1,_,by go_num,by omega,HP9.out,HSet.out,HFr9.out⟩
   case measure=>simp[intOf];omega
  ·have hi':i=Fi.length:=by omega
   subst hi';rw[Nat.sub_self,Nat.mul_zero,List.replicate_zero,List.append_nil]at hrow;rw[List.take_length]at hp;have hN:NodesI w.heap.size w7 (.slice (some ⟨w.heap.size,0,none⟩) Fi.length Fi.length) Fi NV:=by
    have hl:=hp.len;refine⟨⟨by rw[zby],.inr ⟨w.heap.size,Fi.length,_,by rw[hl],Nat.le_refl _,hrow,by omega,by unfold maxLen;omega,by simp[zby,hl],by
     rw[List.toList_toArray,show(zay NV).map encV=zay NV from List.map_id _];exact List.take_of_length_le (by rw[zby];omega)⟩⟩,hl,hp.ints,fun q hq=>⟨(hp.blk q hq).1,(hp.blk q hq).2.1,fun e=>(hp.blk q hq).2.2 (Option.some.inj e).symm⟩,hp.sep,hp.thaw⟩
   have HN:=Hh hN;have HFr:=Hh hfr;clear hN hrow hp hfr;go_wp2_with fail;go_ret;exact⟨_,NV,rfl,HN.out,HFr.out⟩
set_option maxHeartbeats 2000000 in
theorem zrp (l1 r1 l2 r2:Value)(x y:IL)(w:World)(h1:Ints w l1 x.1)(h2:Ints w r1 x.2)(h3:Ints w l2 y.1)(h4:Ints w r2 y.2) :
  Calls Tryz.prog 133 #[.agg #[l1,r1],.agg #[l2,r2]] w fun e w'=>e=.returned (.bool (decide (x=y)))/\Fr NoM w w':=by
 have B1:=Hh (fun(W:World) (f:Fr NoM w W)=>h1.fr0 f);have B2:=Hh (fun(W:World) (f:Fr NoM w W)=>h2.fr0 f);have B3:=Hh (fun(W:World) (f:Fr NoM w W)=>h3.fr0 f);have B4:=Hh (fun(W:World) (f:Fr NoM w W)=>h4.fr0 f);have O1:l1.oneCell'=true:=by obtain⟨_,_,rfl,_⟩:=h1;rfl
 have O2:r1.oneCell'=true:=by obtain⟨_,_,rfl,_⟩:=h2;rfl
 have O3:l2.oneCell'=true:=by obtain⟨_,_,rfl,_⟩:=h3;rfl
 have O4:r2.oneCell'=true:=by obtain⟨_,_,rfl,_⟩:=h4;rfl
 clear h1 h2 h3 h4;have F2:∀n,Fr NoM w ((((w.alloc (.cells #[l1,r1] 102)).alloc (.cells #[l2,r2] 102))).drewN n):=fun n=>(((Fr.refl NoM w).alloc _).alloc _).trans (M':=NoM) ⟨rfl,rfl,rfl,Nat.le_refl _,fun _ _ _=>rfl⟩ (fun _ _ q=>q)
 have HF2:=Hh F2;clear F2;by_cases e1:x.1=y.1
 ·have hc1:decide (x.1=y.1)=true:=decide_eq_true e1
  have E1:=Hh e1;clear e1;by_cases e2:x.2=y.2
  ·have hc2:decide (x.2=y.2)=true:=decide_eq_true e2
   have hr:decide (x=y)=true:=decide_eq_true (Prod.ext E1.out e2);have HR:=Hh hr;clear hr e2;go_enter Tryz.func133,Tryz.ntmps133;go_wp2_with fail;refine(zey l1 l2 x.1 y.1 _ (B1.out _ (HF2.out 0)) (B3.out _ (HF2.out 0))).mono ?_
   rintro e w' ⟨rfl,q,rfl⟩;go_wp2_with fail;refine(zey r1 r2 x.2 y.2 _ (B2.out _ (HF2.out q)) (B4.out _ (HF2.out q))).mono ?_
   rintro e w' ⟨rfl,q2,rfl⟩;go_wp2;go_ret;exact⟨by rw[HR.out];rfl,HF2.out (q+q2)⟩
  ·have hc2:decide (x.2=y.2)=false:=decide_eq_false e2
   have hr:decide (x=y)=false:=decide_eq_false (fun e=>e2 (by rw[e]));have HR:=Hh hr;clear hr e2;go_enter Tryz.func133,Tryz.ntmps133;go_wp2_with fail;refine(zey l1 l2 x.1 y.1 _ (B1.out _ (HF2.out 0)) (B3.out _ (HF2.out 0))).mono ?_
   rintro e w' ⟨rfl,q,rfl⟩;go_wp2_with fail;refine(zey r1 r2 x.2 y.2 _ (B2.out _ (HF2.out q)) (B4.out _ (HF2.out q))).mono ?_
   rintro e w' ⟨rfl,q2,rfl⟩;go_wp2;go_ret;exact⟨by rw[HR.out];rfl,HF2.out (q+q2)⟩
 ·have hc1:decide (x.1=y.1)=false:=decide_eq_false e1
  have hr:decide (x=y)=false:=decide_eq_false (fun e=>e1 (by rw[e]));have HR:=Hh hr;clear hr e1;go_enter Tryz.func133,Tryz.ntmps133;go_wp2_with fail;refine(zey l1 l2 x.1 y.1 _ (B1.out _ (HF2.out 0)) (B3.out _ (HF2.out 0))).mono ?_
  rintro e w' ⟨rfl,q,rfl⟩;go_wp2;go_ret;exact⟨by rw[HR.out];rfl,HF2.out q⟩
set_option maxRecDepth 4000 in
set_option maxHeartbeats 2000000 in
theorem zp6 {R S:Nat→Prop}(av bv:Value)(A B:List IL)(w:World)(hA:NodeL R encI w av A)(hB:NodeL S encI w bv B) :
  Calls Tryz.prog 79 #[av,bv] w fun e w'=>e=.returned (.bool (decide (A=B)))/\Fr NoM w w':=by
 obtain⟨aa,ac,rfl,hac,hacm,hA⟩:=hA;obtain⟨ba,bc,rfl,hbc,hbcm,hB⟩:=hB;have HA:=Hh hA;clear hA;have HB:=Hh hB;clear hB;by_cases hn:A.length=B.length
 ·have hne:((A.length:Int) != (B.length:Int))=false:=by simp[hn]
  have hfin:A.take A.length=B.take A.length→decide (A=B)=true:=fun h=>by
   rw[List.take_length,hn,List.take_length]at h;simp[h]
  have HN:=Hh hn;clear hn;have HF:=Hh hfin;clear hfin;go_enter Tryz.func79,Tryz.ntmps79;go_wp2;go_loopw [5] (fun i wr=>∃k:Nat,k≤A.length/\i=.int .i64 k/\A.take k=B.take k/\Fr NoM w wr) (fun i _=>A.length-(intOf i).toNat)
  case atStart=>exact⟨0,by omega,rfl,rfl,Fr.refl _ _⟩
  case round =>
   obtain⟨k,hk,rfl,ht,hfr⟩:=hrel;obtain⟨w7,rfl⟩:∃w7,w7=wr:=⟨_,rfl⟩;have Ht:=Hh ht;have HFr:=Hh hfr;clear ht hfr;by_cases hlt':k<A.length
   ·have hlt2:k<B.length:=by rw[←HN.out];exact hlt'
    obtain⟨b1,o1,l1,r1,ha1,_,c1,c2,s1,s2,_,_⟩:=HA.out k A[k] (by simp);obtain⟨b2,o2,l2,r2,ha2,_,d1,d2,t1,t2,_,_⟩:=HB.out k B[k] (by simp);have ix1:=zb9 aa A.length ac k b1 o1 hlt' ha1;have ix2:=zb9 ba B.length bc k b2 o2 hlt2 ha2;have HC:=Hh (fun(W:World) (f:Fr NoM w7 W)=>show W.cell? ⟨b1,o1+k*2,none⟩=some l1/\W.cell? ⟨b1,o1+k*2+1,none⟩=some r1/\W.cell? ⟨b2,o2+k*2,none⟩=some l2/\W.cell? ⟨b2,o2+k*2+1,none⟩=some r2 from
     have f0:=HFr.out.trans f (fun _ _ q=>q)
     ⟨f0.cell c1 (fun q=>q),f0.cell c2 (fun q=>q),f0.cell d1 (fun q=>q),f0.cell d2 (fun q=>q)⟩)
    have HE:=Hh (fun(W:World) (f:Fr NoM w7 W) =>
     have f0:=HFr.out.trans f (fun _ _ q=>q);zrp l1 r1 l2 r2 A[k] B[k] W (s1.fr0 f0) (s2.fr0 f0) (t1.fr0 f0) (t2.fr0 f0))
    obtain⟨eb,heb⟩:∃eb,eb=decide (A[k]=B[k]):=⟨_,rfl⟩;rw[←heb]at HE;have HEb:=Hh heb;clear ha1 ha2 c1 c2 d1 d2 s1 s2 t1 t2 heb;go_upto_region 6 with fail;have F0:Fr NoM w7 w7.drew:=(Fr.refl NoM w7).drew;cases eb with
    | true =>
     go_region_held3 (fun(W:World)=>W.cell? ⟨b1,o1+k*2,none⟩=some l1/\W.cell? ⟨b1,o1+k*2+1,none⟩=some r1/\W.cell? ⟨b2,o2+k*2,none⟩=some l2/\W.cell? ⟨b2,o2+k*2+1,none⟩=some r2)
      (exact HC.out _ (by assumption))
      (first
       | (go_at_call 133;(with_reducible refine(HE.out _ (by assumption)).mono ?_);rintro e w8 ⟨rfl,f8⟩;have F8:Fr NoM w7 w8:=Fr.trans (by assumption) f8 (fun _ _ q=>q))
       | fail)
     all_goals
      have G8:=Hh F8;clear f8 F8 F0;go_wp2;go_roundw
      case rel=>exact⟨k+1,by omega,by go_num,by rw[List.take_succ_eq_append_getElem hlt',List.take_succ_eq_append_getElem hlt2,Ht.out,of_decide_eq_true HEb.out.symm],HFr.out.trans G8.out (fun _ _ q=>q)⟩
      case measure=>simp[intOf];omega
    | false =>
     have hf:decide (A=B)=false:=by
      have h1:A[k]≠B[k]:=of_decide_eq_false HEb.out.symm;have:A≠B:=fun e=>by subst e;exact h1 rfl
      simp[this]
     have HFn:=Hh hf;clear hf;go_region_held3 (fun(W:World)=>W.cell? ⟨b1,o1+k*2,none⟩=some l1/\W.cell? ⟨b1,o1+k*2+1,none⟩=some r1/\W.cell? ⟨b2,o2+k*2,none⟩=some l2/\W.cell? ⟨b2,o2+k*2+1,none⟩=some r2)
      (exact HC.out _ (by assumption))
      (first
       | (go_at_call 133;(with_reducible refine(HE.out _ (by assumption)).mono ?_);rintro e w8 ⟨rfl,f8⟩;have F8:Fr NoM w7 w8:=Fr.trans (by assumption) f8 (fun _ _ q=>q))
       | fail)
     all_goals
      have G8:=Hh F8;clear f8 F8 F0;go_wp2;go_ret;exact⟨by rw[HFn.out];rfl,HFr.out.trans G8.out (fun _ _ q=>q)⟩
   ·have hk':k=A.length:=by omega
    have hf:decide (A=B)=true:=HF.out (by rw[←hk'];exact Ht.out);have HFn:=Hh hf;have HK:=Hh hk';clear hk' hf;go_wp2;go_ret;exact⟨by rw[HFn.out];rfl,HFr.out⟩
 ·have hne:((A.length:Int) != (B.length:Int))=true:=by rw[bne_iff_ne];omega
  have hfin:decide (A=B)=false:=by
   have:A≠B:=fun e=>hn (by rw[e])
   simp[this]
  have Hfin:=Hh hfin;clear hfin hn;go_enter Tryz.func79,Tryz.ntmps79;go_wp2;go_ret;exact⟨by rw[Hfin.out];rfl,Fr.refl _ _⟩
set_option maxHeartbeats 1000000 in
theorem zrq {R S:Nat→Prop} (av bv:Value) (A B:List IL) (w:World) (hA:NodeL R encI w av A) (hB:NodeL S encI w bv B) :
    Calls Tryz.prog 32 #[.agg #[av],.agg #[bv]] w fun e w'=>e=.returned (.bool (decide (A=B)))∧Fr NoM w w':=by
  have O1:av.oneCell'=true:=by obtain ⟨_,_,rfl,_⟩:=hA;rfl
  have O2:bv.oneCell'=true:=by obtain ⟨_,_,rfl,_⟩:=hB;rfl
  have F2:Fr NoM w ((w.alloc (.cells #[av] 26)).alloc (.cells #[bv] 26)):=((Fr.refl NoM w).alloc _).alloc _;have HE:=Hh (zp6 av bv A B _ (hA.fr0 F2) (hB.fr0 F2));have HF2:=Hh F2;clear hA hB F2;obtain ⟨eb,heb⟩:∃ eb,eb=decide (A=B):=⟨_,rfl⟩;rw [← heb] at HE ⊢;clear heb;go_enter Tryz.func32,Tryz.ntmps32;go_wp2_with fail;refine HE.out.mono ?_
  rintro e w' ⟨rfl,f⟩;have F3:=Hh (HF2.out.trans f (fun _ _ q=>q));clear f;cases eb <;>
    (go_wp2
     go_ret;exact ⟨rfl,F3.out⟩)
theorem zon {w:World}{b:Nat}{v1:Value}{e:TypeId}(h:w.heap[b]?=some (.cells #[v1] e (0,0))):w.cell? ⟨b,0,none⟩=some v1/\w.frozen? ⟨b,0,none⟩=false :=
 ⟨by rw[cell_of_row w b 0 _ _ _ h];rfl,by simp[World.frozen?,h]⟩
set_option maxHeartbeats 2000000 in
theorem zu2 {R:Nat→Prop}(v:Value)(Fi:List IL)(w:World)(h:NodeL R encI w v Fi)(hn:Fi.length<1000000000)(hlen:∀y∈Fi,y.1.length<1000000000/\y.2.length<1000000000) :
  Calls Tryz.prog 30 #[.agg #[v]] w fun e w'=>∃(v':Value) (NV:List (Value × Value)),e=.returned (.agg #[v'])/\NodesI w.heap.size w' v' Fi NV/\Fr NoM w w':=by
 obtain⟨w3,hw3⟩:∃w3,w3=((w.alloc (.cells #[v] 49)).alloc (.cells #[.slice none 0 0] 26)).alloc (.cells #[.slice none 0 0] 26):=⟨_,rfl⟩;have f3:Fr NoM w w3:=by rw[hw3];exact(((Fr.refl NoM w).alloc _).alloc _).alloc _
 have hs3:w3.heap.size=w.heap.size+3:=by rw[hw3];simp
 have e0:w3.heap[w.heap.size]?=some (.cells #[v] 49 (0,0)):=by rw[hw3];exact(((Fr.refl NoM _).alloc _).alloc _).heap (heap_alloc_new w _) (fun q=>q)
 have e1:w3.heap[w.heap.size+1]?=some (.cells #[.slice none 0 0] 26 (0,0)):=by
  have h:=heap_alloc_new (w.alloc (.cells #[v] 49)) (.cells #[.slice none 0 0] 26);rw[World.size_alloc]at h;rw[hw3];exact((Fr.refl NoM _).alloc _).heap h (fun q=>q)
 have e2:w3.heap[w.heap.size+1+1]?=some (.cells #[.slice none 0 0] 26 (0,0)):=by
  have h:=heap_alloc_new ((w.alloc (.cells #[v] 49)).alloc (.cells #[.slice none 0 0] 26)) (.cells #[.slice none 0 0] 26);rw[World.size_alloc,World.size_alloc]at h;rw[hw3];exact h
 have B1:=Hh (zpm v Fi w3 (h.fr0 f3) hn hlen);obtain⟨a,c,rfl,_⟩:=h;have c0:w3.cell? ⟨w.heap.size,0,none⟩=some (.slice a Fi.length c):=by rw[cell_of_row _ _ 0 _ _ _ e0];rfl
 have HW:=Hh hw3;have F3:=Hh f3;have HS:=Hh hs3;have E1:=Hh e1;have E2:=Hh e2;clear hw3 f3 hs3 e0 e1 e2;go_enter Tryz.func30,Tryz.ntmps30;go_wp2_with fail;rw[←HW.out];refine B1.out.mono ?_
 rintro e w4 ⟨v',NV,rfl,hn4,f4⟩;obtain⟨k2,z2⟩:=zon (f4.heap E2.out (fun q=>q));have E14:=f4.heap E1.out (fun q=>q);obtain⟨k1,z1⟩:=zon E14;obtain⟨va,vc,rfl,z⟩:=id hn4.nodeL;have HN4:=Hh hn4;have F4:=Hh f4;have HE14:=Hh E14;clear z hn4 f4 E14 c0;go_wp2_with fail;have hf5:=Fr.set w4 ⟨w.heap.size+1+1,0,none⟩ (.slice va Fi.length vc);obtain⟨w5,hw5⟩:∃w5,w5=w4.setCell ⟨w.heap.size+1+1,0,none⟩ (.slice va Fi.length vc):=⟨_,rfl⟩;rw[←hw5]at hf5 ⊢;have e15:=hf5.heap HE14.out (fun e=>by have e:w.heap.size+1=w.heap.size+1+1:=e;omega);have e16:=heap_set (i:=0) e15 (.slice va Fi.length vc);have hf6:=Fr.set w5 ⟨w.heap.size+1,0,none⟩ (.slice va Fi.length vc);obtain⟨w6,hw6⟩:∃w6,w6=w5.setCell ⟨w.heap.size+1,0,none⟩ (.slice va Fi.length vc):=⟨_,rfl⟩;rw[←hw6]at hf6 e16 ⊢;have m0:w6.cell? ⟨w.heap.size+1,0,none⟩=some (.slice va Fi.length vc):=by rw[cell_of_row _ _ 0 _ _ _ e16];rfl
 have hs:=HS.out;refine bodyPost_ret (v:=.agg #[.slice va Fi.length vc]) (by simp[results,Tryz.results30,go_sem,m0]) rfl ?_
 have f46:Fr (fun q=>q=w.heap.size+1∨q=w.heap.size+2) w4 w6:=(hf5.mono (fun q _ e=>.inr e)).trans hf6 (fun q _ e=>.inl e);refine⟨_,NV,rfl,?_,(F3.out.trans F4.out (fun _ _ q=>q)).trans f46 (fun q hq e=>by omega)⟩;have h:=HN4.out.fr f46 (fun q hq _ e=>by omega);exact⟨zbm h.row (by omega),h.len,h.ints,fun q hq=>⟨by have:=(h.blk q hq).1;omega,(h.blk q hq).2⟩,h.sep,h.thaw⟩
end Go.Proofs.YtlapkmhemepcaaaGreatDoor
namespace Go.Proofs.YtlapkmhemepcaaaGreatDoor
set_option linter.unusedVariables false
set_option linter.unusedSimpArgs false
open Go.RowKit Go.ChangeShapes Go.WideShapes Go.Deep
theorem yb3 {w:World}{a:Addr}{v:Value}(h:w.cell? a=some v):a=⟨a.block,a.off,none⟩:=by
 obtain⟨b,o,s⟩:=a;cases s with
 | none=>rfl
 | some k =>
  unfold World.cell? at h;simp only at h;split at h
  ·simp at h
  ·cases h
section
variable {H:Type}{enc:TypeId × Value→H}{w:World}{base:Nat}{spare:Nat→Bool}{held:Bool}
theorem zsf {fuel:Nat}{v:Value}{x:DataW H × List MemPlace}(h:DataW.trod enc Tryz.prog w base spare held fuel 100 [v]=some x):∃L,Ints w v L:=by
 rcases open_ints Tryz.underlying100 Tryz.underlying3 (by kernel_rfl) h with ⟨e,_⟩|⟨a,len,cap,zs,e,_,hl,hm,hz,_,hc,_⟩
 ·cases e
  exact⟨[],none,0,rfl,Nat.le_refl _,by decide,by simp⟩
 ·cases e
  have hzl:len≤zs.length:=by rw[hz];split <;> omega
  have htl:(zs.take len).length=len:=by rw[List.length_take];omega
  refine⟨zs.take len,some a,cap,by rw[htl],by omega,by unfold maxLen at hm;omega,fun i y hy=>?_⟩;have hi:i<len:=by rw[←htl];exact(List.getElem?_eq_some_iff.1 hy).1
  have h0:=hc 0 (by omega);rw[show a.add 0=a from rfl]at h0;have ha:=yb3 h0;have h1:=hc i (by omega);rw[List.getElem?_take,if_pos hi]at hy;refine⟨a.block,a.off,by rw[←ha],?_⟩;rw[ha,add_plain]at h1;rw[h1,List.getD_eq_getElem?_getD,hy];rfl
theorem zx0 {fuel:Nat}{v:Value}{x:DataW H × List MemPlace}(h:DataW.trod enc Tryz.prog w base spare held fuel 47 [v]=some x):∃Fi,NodeL AnyB encI w v Fi:=by
 rcases open_slice_pairs Tryz.underlying47 Tryz.underlying143 (by kernel_rfl) rfl rfl (by kernel_rfl) (by kernel_rfl) h with ⟨e,_⟩|⟨a,len,cap,m,n,V0,V1,D0,D1,P0,P1,e,_,hl,hm,hmm,_,hc⟩
 ·cases e
  exact⟨[],none,0,rfl,Nat.le_refl _,by decide,by simp⟩
 ·cases e
  have hlm:len≤m:=by rw[hmm];split <;> omega
  have hall:∀i,i<len→∃y:IL,Ints w (V0 i) y.1/\Ints w (V1 i) y.2:=fun i hi=>by
   obtain⟨_,_,t0,t1⟩:=hc i (by omega);obtain⟨L,hL⟩:=zsf t0;obtain⟨R,hR⟩:=zsf t1;exact⟨(L,R),hL,hR⟩
  obtain⟨Y,hY⟩:=choose_lt hall;have hlen:((List.range len).map Y).length=len:=by simp
  refine⟨(List.range len).map Y,some a,cap,by rw[hlen],by omega,by unfold maxLen at hm;omega,fun i y hy=>?_⟩;have hi:i<len:=by rw[←hlen];exact(List.getElem?_eq_some_iff.1 hy).1
  rw[List.getElem?_map,List.getElem?_range hi]at hy;obtain rfl:Y i=y:=Option.some.inj hy;have h0:=(hc 0 (by omega)).1;rw[show a.add (0*2)=a from rfl]at h0;have ha:=yb3 h0;obtain⟨c0,c1,_,_⟩:=hc i (by omega);rw[ha,add_plain]at c0 c1;exact⟨a.block,a.off,V0 i,V1 i,by rw[←ha],trivial,c0,by rw[Nat.add_assoc];exact c1,(hY i hi).1,(hY i hi).2,fun _ _ _=>trivial,fun _ _ _=>trivial⟩
set_option maxRecDepth 20000 in
theorem openForm {r:Reach}{b0:Nat}{v:Value}{d:DataW H}{ps:List MemPlace}(hval:Value.okWide Tryz.prog w r b0 49 v)(h:DataW.Trod enc Tryz.prog w base spare held 49 v d ps):∃nv Fi,v=.agg #[nv]/\NodeL AnyB encI w nv Fi:=by
 obtain⟨cs,rfl,hcs⟩:=okWide_struct Tryz.underlying49 hval;rw[show Tryz.prog.cellsOf 49=1 from by kernel_rfl]at hcs;obtain⟨nv,rfl⟩:∃nv,cs=#[nv]:=by
  match cs,hcs with
  | ⟨[x]⟩,_=>exact⟨x,rfl⟩
 obtain⟨fuel,hf⟩:=h;obtain⟨y0,n,_,_,h1⟩:=trod_struct1 Tryz.underlying49 hf;obtain⟨Fi,hF⟩:=zx0 (v:=nv) (fuel:=n) (x:=y0) h1;exact⟨nv,Fi,rfl,hF⟩
end
end Go.Proofs.YtlapkmhemepcaaaGreatDoor
