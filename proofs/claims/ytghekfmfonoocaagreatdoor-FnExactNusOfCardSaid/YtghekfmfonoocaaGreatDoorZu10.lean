import Derived.Test.YtghekfmfonoocaaGreatDoorZuu
import Derived.Test.YtghekfmfonoocaaGreatDoorZuo
import Derived.Test.YtghekfmfonoocaaGreatDoorZut
/- Lemmas. -/
set_option linter.all false
set_option maxHeartbeats 8000000
set_option maxRecDepth 4000
namespace Go.Proofs.YtghekfmfonoocaaGreatDoor
open Go.RowKit
noncomputable def csC (a:List (List Int × List Int)):List PL:=canN (natF a)
noncomputable def csS (Fs:List PL)(a:List (List Int × List Int)):List PL:=sumN Fs (csC a)
open Classical in
noncomputable def zgr (chk:Bool)(s:Option (List PL))(a:List (List Int × List Int)):Option (List PL) :=
 s.bind λb=>if zbh a/\ze1 (i2 b) (i2 (csC a))=true/\(chk=true->zah (canN (csS b a))=true)then some (canN (csS b a))else none
noncomputable def csF (chk:Bool)(l:List (List (List Int × List Int))):Option (List PL):=l.foldl (zgr chk) (some [([],[])])
noncomputable def csR (chk:Bool)(l:List (List (List Int × List Int))):Option (List PL):=if l.length<=12 then csF chk l else none
theorem yo1 (chk:Bool)(l:List (List (List Int × List Int))):l.foldl (zgr chk) none=none:=by induction l with| nil=>rfl| cons b l a=>rw[List.foldl_cons];exact a
theorem yfp {chk:Bool}{l:List (List (List Int × List Int))}{k:Nat}(a:k<l.length):csF chk (l.take (k+1))=zgr chk (csF chk (l.take k)) l[k]:=by unfold csF;rw[yQ a,List.foldl_append];rfl
theorem zxn {chk:Bool}{l:List (List (List Int × List Int))}{k:Nat}(a:csF chk (l.take k)=none):csF chk l=none:=by unfold csF at a ⊢;rw[<-List.take_append_drop k l,List.foldl_append,a,yo1]
theorem zhd {chk:Bool}{Fs:List PL}{a:List (List Int × List Int)}(b:zbh a)(c:ze1 (i2 Fs) (i2 (csC a))=true)(d:chk=true->zah (canN (csS Fs a))=true):zgr chk (some Fs) a=some (canN (csS Fs a)):=if_pos ⟨b,c,d⟩
theorem ziz {chk:Bool}{Fs:List PL}{a:List (List Int × List Int)}(b:¬(zbh a/\ze1 (i2 Fs) (i2 (csC a))=true/\(chk=true->zah (canN (csS Fs a))=true))):zgr chk (some Fs) a=none:=if_neg b
theorem yp9 {chk:Bool}{l:List (List (List Int × List Int))}{k:Nat}{a:List (List Int × List Int)}{Fs:List PL}(d:l[k]?=some a)(c:csF chk (l.take k)=some Fs):csF chk (l.take (k+1))=zgr chk (some Fs) a:=by obtain⟨e,b⟩:=xV.1 d;rw[yfp e,c,b]
theorem zxt {R:Nat->Prop}(v:Value)(FL:List (List (List Int × List Int)))(w:World)(a:FormsI R w v FL)(u:Option (List PL))(aG:u=csR true FL) :
  Calls Tryz.prog 27 #[v] w λd n=>∃h,d=.returned (.tuple #[.agg #[h],.bool u.isSome])/\NodesS w.heap.size n h (u.getD [])/\Fr NoM w n:=by
 obtain⟨o,C⟩:=eX (w.alloc (.cells #[.slice none 0 0] 26));have f1:Fr NoM w o:=by rw[C];exact(nW w).alloc _
 have aH:o.heap.size=w.heap.size+1:=by rw[C];simp
 have e0:o.heap[w.heap.size]?=some (.cells #[.slice none 0 0] 26 (0,0)):=by rw[C];exact xJ w _
 have J:=Hh (λb (g:Fr NoM o b)=>show b.cell? ⟨w.heap.size,0,none⟩=some (.slice none 0 0)/\b.frozen? ⟨w.heap.size,0,none⟩=false from by
  have K:=g.heap e0 id;exact⟨qR K rfl,fZ K⟩)
 have aT:=Hh (λ(b:World) (c:Nat) (ap:Value) (b8:c≠w.heap.size) (g:Fr NoM o b)=>show(b.setCell ⟨c,0,none⟩ ap).cell? ⟨w.heap.size,0,none⟩=some (.slice none 0 0)/\(b.setCell ⟨c,0,none⟩ ap).frozen? ⟨w.heap.size,0,none⟩=false from by
  have K:=(Fr.set b ⟨c,0,none⟩ ap).heap (g.heap e0 id) (λa=>b8 a.symm);exact⟨qR K rfl,fZ K⟩)
 have HN:=Hh (λb (g:Fr NoM o b)=>((a.low.fr0 f1).fr0 g:FormsI (· < w.heap.size) b v FL));obtain⟨bc,b6,rfl,bd⟩:=a.shape;obtain⟨HM,U,a0⟩:=Hhp3 aG f1 aH;clear a aG f1 aH e0;obtain⟨t,O⟩:=J.o o (Fr.refl _ _);by_cases aj:FL.length<=12
 ·have aF:u=csF true FL:=by rw[HM.o];unfold csR;rw[if_pos aj]
  have Y:=Hh aF;have aq:=Hh (λb (g:Fr NoM o b)=>(U.o.trans g kP).setCell ⟨w.heap.size,0,none⟩ (.slice none 0 0) (λa=>by have a:w.heap.size<w.heap.size:=a;omega));have aE:¬(12<FL.length):=by omega
  clear aF;go_enter Tryz.func27,Tryz.ntmps27;go_wp2_with fail;rw[<-C];clear C t O;refine(zt9 o).mono ?_
  rintro d D ⟨v0,rfl,n0,f3⟩;obtain⟨w4,a3⟩:=eX (D.alloc (.cells #[v0] 26));obtain⟨c,a1⟩:=eX D.heap.size;have f4:Fr NoM D w4:=by rw[a3];exact(nW D).alloc _
  have e4:w4.heap[c]?=some (.cells #[v0] 26 (0,0)):=by rw[a3,a1];exact xJ D _
  have aB:o.heap.size<=c:=by have:=f3.size;omega
  obtain⟨aP,aJ,aU,W,bb⟩:=Hhp5 (f3.trans f4 kP) e4 (n0.fr0 f4) aB a1;obtain⟨az,cz,rfl,q⟩:=id n0.nodeL;clear q n0 f3 f4 e4 aB aE;go_upto_region 4 with fail;have aI:w4=D.alloc (.cells #[.slice az 1 cz] 26):=a3;rw[<-a1,<-aI];clear a3 aI a1;go_wp2_with fail;go_loopw [17] (λao b=>∃(l:Nat) (e:List PL) (ov:Value),ao=.int .i64 l/\l<=FL.length/\csF true (FL.take l)=some e/\b.heap[c]?=some (.cells #[ov] 26 (0,0))/\NodesS o.heap.size b ov e/\Fr (λf=>f=c) w4 b) (λao _=>FL.length-(intOf ao).toNat)
  case atStart=>exact⟨0,[([],[])],_,rfl,yK _,rfl,aJ.o,aU.o,Fr.refl _ _⟩
  case round =>
   obtain⟨l,e,ov,rfl,hk,hm,hh,M,ah⟩:=hrel;obtain⟨p,rfl⟩:=eX wr;have ba:c<p.heap.size:=(yZ.1 hh).1;obtain⟨s,ar,aR,ax,X,au⟩:=Hhp6 (aP.o.trans ah (λf hq d=>by have h1:=W.o;omega)) hm ah ba hh M;obtain⟨y,z,rfl,q⟩:=id M.nodeL;clear q ah hm M hh;by_cases ai:l<FL.length
   ·obtain⟨i,ad⟩:∃i,FL[l]?=some i:=⟨_,xQ ai⟩
    obtain⟨b1,o1,nv,rfl,c1,n1⟩:=(HN.o p s.o).get ad;have ix:=zxd (some ⟨b1,o1,none⟩) FL.length b6 l b1 o1 ai rfl;obtain⟨ab,L⟩:=zin i;obtain⟨a6,al⟩:=eX ((ab && zah (canN (natF i))));obtain⟨r,ac⟩:=eX (if a6=true then canN (natF i)else [])
    have aL:=Hh (λb (g:Fr NoM p b)=>(by
     have a:=znd nv i b (n1.fr0 g) ab L a6 al;rw[<-ac]at a;exact a:Calls Tryz.prog 63 #[.agg #[nv]] b λd n=>∃h,d=.returned (.tuple #[.agg #[h],.bool a6])/\NodesS b.heap.size n h r/\Fr NoM b n))
    obtain⟨Z,HG,a9,aK⟩:=Hhp4 (yp9 ad ar.o) L al ac;obtain⟨na,nc,rfl,q⟩:=id n1;have hc:p.cell? ⟨c,0,none⟩=some (.slice y e.length z):=by rw[xX _ _ 0 _ _ _ X.o];rfl
    clear q n1 L al ac ad hc;go_wp2_with fail;refine(aL.o _ ((nW p).alloc _)).mono ?_
    rintro d E ⟨h,rfl,j,fc⟩;obtain⟨P,Q,rfl,q⟩:=id j.nodeL;have j:=j.base (D':=p.heap.size+1) (by simp);have fc:=((nW p).alloc (.cells #[.slice na i.length nc] 26)).trans fc kP;obtain⟨A,a4⟩:=eX (E.alloc (.cells #[.slice P r.length Q] 26));have f9:Fr NoM E A:=by rw[a4];exact(nW E).alloc _
    obtain⟨H,b2,aN⟩:=Hhp3 (fc.trans f9 kP) (j.fr0 f9) (show A.heap[E.heap.size]?=some (.cells #[.slice P r.length Q] 26 (0,0))from by rw[a4];exact xJ E _);clear q j fc f9 c1 ix;go_upto_region 8 with fail;rw[<-a4];clear a4;cases a6 with
    | false =>
     have N:u=none:=by
      rw[Y.o];refine zxn (k:=l+1) ?_
      rw[Z.o];refine ziz λf=>?_
      have L:=HG.o.2 f.1;have hC:=(zbv.1 f.2.1).2.1.1;rw[zhc]at hC;have a:=a9.o;rw[L,show zah (canN (natF i))=true from hC]at a;cases a
     subst N;obtain⟨t,O⟩:=J.o A (s.o.trans H.o kP);go_wp2_with fail;refine yJ (v:=.tuple #[.agg #[.slice none 0 0],.bool false]) (by simp[results,Tryz.results27,go_sem,t]) rfl ?_
     exact⟨_,rfl,NodesS.nil _ _,aq.o _ (s.o.trans H.o kP)⟩
    | true =>
     have aD:ab=true/\zah (canN (natF i))=true:=by
      have a:=a9.o;simp at a;exact a
     have aA:r=csC i:=by rw[aK.o];rfl
     have aS:=Hh (HG.o.1 aD.1);have a8:=Hh aA;obtain⟨ok,ak⟩:=eX (ze1 (i2 e) (i2 r));obtain⟨m,ae⟩:=eX (if ok=true then sumN (natF (i2 e)) (natF (i2 r))else [])
     have aZ:=Hh (λb (g:Fr NoM A b)=>(by
      have a:=zs9 (.slice y e.length z) (.slice P r.length Q) (i2 e) (i2 r) b (((au.o.nodeL.fr0 H.o).fr0 g).toI) ((b2.o.nodeL.fr0 g).toI) ok ak;rw[<-ae]at a;exact a:Calls Tryz.prog 64 #[.agg #[.slice y e.length z],.agg #[.slice P r.length Q]] b λd n=>∃h,d=.returned (.tuple #[.agg #[h],.bool ok])/\NodesS b.heap.size n h m/\Fr NoM b n))
     have av:=Hh ak;have aX:=Hh ae;have q1:A.cell? ⟨c,0,none⟩=some (.slice y e.length z):=by rw[xX _ _ 0 _ _ _ (H.o.heap X.o id)];rfl
     have q2:A.cell? ⟨E.heap.size,0,none⟩=some (.slice P r.length Q):=by rw[xX _ _ 0 _ _ _ aN.o];rfl
     clear aD aA ak ae a9;go_wp2_with fail;refine(aZ.o A (Fr.refl _ _)).mono ?_
     rintro d G ⟨h,rfl,j,fy⟩;obtain⟨S,T,rfl,q⟩:=id j.nodeL;obtain⟨B,a5⟩:=eX (G.alloc (.cells #[.slice S m.length T] 26));have fz:Fr NoM G B:=by rw[a5];exact(nW G).alloc _
     obtain⟨V,b4,aO⟩:=Hhp3 (H.o.trans (fy.trans fz kP) kP) (j.fr0 fz) (show B.heap[G.heap.size]?=some (.cells #[.slice S m.length T] 26 (0,0))from by rw[a5];exact xJ G _);clear q j fy fz q1 q2;go_upto_region 11 with fail;rw[<-a5];clear a5;cases ok with
     | false =>
      have N:u=none:=by
       rw[Y.o];refine zxn (k:=l+1) ?_
       rw[Z.o];refine ziz λf=>?_
       have a:=av.o;rw[a8.o,f.2.1]at a;cases a
      subst N;obtain⟨t,O⟩:=J.o B (s.o.trans V.o kP);go_wp2_with fail;refine yJ (v:=.tuple #[.agg #[.slice none 0 0],.bool false]) (by simp[results,Tryz.results27,go_sem,t]) rfl ?_
      exact⟨_,rfl,NodesS.nil _ _,aq.o _ (s.o.trans V.o kP)⟩
     | true =>
      have an:ze1 (i2 e) (i2 (csC i))=true:=by rw[<-a8.o];exact av.o.symm
      have af:m=csS e i:=by rw[aX.o,if_pos rfl,zbe,zbe,a8.o];rfl
      have aC:zbh (i2 m):=by
       have a:=yax an;rw[zbe,zbe]at a;rw[af];exact a
      obtain⟨a7,am⟩:=eX ((true && zah (canN (natF (i2 m)))));obtain⟨x,ag⟩:=eX (if a7=true then canN (natF (i2 m))else [])
      have aM:=Hh (λb (g:Fr NoM B b)=>(by
       have a:=znd (.slice S m.length T) (i2 m) b ((b4.o.nodeL.fr0 g).toI) true (by simp[aC]) a7 am;rw[<-ag]at a;exact a:Calls Tryz.prog 63 #[.agg #[.slice S m.length T]] b λd n=>∃h,d=.returned (.tuple #[.agg #[h],.bool a7])/\NodesS b.heap.size n h x/\Fr NoM b n))
      obtain⟨b0,aa,aw,b5⟩:=Hhp4 an af am ag;have q2:B.cell? ⟨G.heap.size,0,none⟩=some (.slice S m.length T):=by rw[xX _ _ 0 _ _ _ aO.o];rfl
      clear an af aC am ag;go_wp2_with fail;refine(aM.o B (Fr.refl _ _)).mono ?_
      rintro d F ⟨h,rfl,j,fu⟩;obtain⟨za,zc,rfl,q⟩:=id j.nodeL;have I:=Hh (V.o.trans fu kP);have b3:=Hh j;have a2:=I.o.heap X.o id;have be:F.cell? ⟨c,0,none⟩=some (.slice y e.length z):=by rw[xX _ _ 0 _ _ _ a2];rfl
      have bf:F.frozen? ⟨c,0,none⟩=false:=by simp[World.frozen?,a2]
      have aW:=Hh a2;have ay:=Hh (show p.heap.size<=B.heap.size from V.o.size);clear q j fu q2 a2;cases a7 with
      | false =>
       have N:u=none:=by
        rw[Y.o];refine zxn (k:=l+1) ?_
        rw[Z.o];refine ziz λf=>?_
        have a:=aw.o;rw[zbe,aa.o,f.2.2 rfl]at a;cases a
       subst N;have b9:c≠w.heap.size:=by have:=W.o;have:=a0.o;omega
       have aQ:=Hh (((U.o.trans (s.o.trans I.o kP) kP).setCell ⟨c,0,none⟩ (.slice za x.length zc) (λa=>by have a:c<w.heap.size:=a;have:=W.o;have:=a0.o;omega)).setCell ⟨w.heap.size,0,none⟩ (.slice none 0 0) (λa=>by have a:w.heap.size<w.heap.size:=a;omega));obtain⟨t,O⟩:=aT.o F c (.slice za x.length zc) b9 (s.o.trans I.o kP);obtain⟨k2,k3⟩:=J.o F (s.o.trans I.o kP);go_wp2_with fail;refine yJ (v:=.tuple #[.agg #[.slice none 0 0],.bool false]) (by simp[results,Tryz.results27,go_sem,t]) rfl ?_
       exact⟨_,rfl,NodesS.nil _ _,aQ.o⟩
      | true =>
       have aV:=Hh (show csF true (FL.take (l+1))=some x from by
        have hf:zah (canN (csS e i))=true:=by
         have a:=aw.o;rw[zbe,aa.o]at a;simp at a;exact a
        rw[Z.o,zhd aS.o b0.o (λ_=>hf),b5.o,if_pos rfl,zbe,aa.o])
       have aY:=Hh (show(F.setCell ⟨c,0,none⟩ (.slice za x.length zc)).heap[c]?=some (.cells #[.slice za x.length zc] 26 (0,0))from heap_set aW.o _);go_wp2_with fail;go_roundw
       case rel =>
        refine⟨l+1,x,_,by go_num,by omega,aV.o,aY.o,?_,?_⟩
        ·exact(b3.o.fr (Fr.set F ⟨c,0,none⟩ _) (λf hq _ d=>by have d:f=c:=d;have:=ax.o;have:=ay.o;omega)).base (by have h1:=ax.o;have h2:=W.o;have:=ay.o;omega)
        ·exact(aR.o.trans I.o (λ_ _ f=>f.elim)).setCell _ _ (λ_=>rfl)
       case measure=>simp[intOf];omega
   ·obtain rfl:l=FL.length:=by omega
    have b7:u=some e:=by
     have a:=ar.o;rw[y7]at a;rw[Y.o];exact a
    subst b7;obtain⟨t,O⟩:=J.o p s.o;have hc:p.cell? ⟨c,0,none⟩=some (.slice y e.length z):=by rw[xX _ _ 0 _ _ _ X.o];rfl
    clear hk ai;go_wp2_with fail;refine yJ (v:=.tuple #[.agg #[.slice y e.length z],.bool true]) (by simp[results,Tryz.results27,go_sem,t]) rfl ?_
    refine⟨_,rfl,?_,(U.o.trans s.o kP).setCell _ _ (λa=>by have a:w.heap.size<w.heap.size:=a;omega)⟩;exact(au.o.fr (Fr.set p ⟨w.heap.size,0,none⟩ _) (λf hq _ d=>by have d:f=w.heap.size:=d;have:=a0.o;omega)).base (by have:=a0.o;omega)
 ·have M:u=none:=by rw[HM.o];unfold csR;rw[if_neg aj]
  subst M;have aE:12<FL.length:=by omega
  clear aj;go_enter Tryz.func27,Tryz.ntmps27;go_wp2_with fail;rw[<-C];refine yJ (v:=.tuple #[.agg #[.slice none 0 0],.bool false]) (by simp[results,Tryz.results27,go_sem,t]) rfl ?_
  exact⟨_,rfl,NodesS.nil _ _,U.o⟩
