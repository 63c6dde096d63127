import Derived.Test.YtlapkmhemepcaaaGreatDoorZsz
/- Lemmas. -/
set_option linter.all false
set_option maxHeartbeats 8000000
set_option maxRecDepth 8000
namespace Go.Proofs.YtlapkmhemepcaaaGreatDoor
open Go.RowKit
theorem znu {c d:Nat}(hc:CanC c)(hl:(za5 c).length<=120)(hd:SubC c d) : BookC (za5 d) (za0 (za5 d))/\0<(za5 d).length/\(za5 d).length<=120/\(∀x,x<(za5 d).length->CanC ((za0 (za5 d)).getD x 0))/\(za0 (za5 d)).getD ((za5 d).length-1) 0=d:=by obtain⟨hp,ho,hu,hk,_,hcode⟩:=zd1 (zaq d);have hB:=(zed ho hu (zdy ho hk)).book;obtain⟨Pc,hAc⟩:=zaq c;have hU:DF Pc (za5 d):=⟨d,rfl,λx hx=>(hAc.sub x).2 (hd.trans hx)⟩;have hlen:=hU.props.2.1;rw[hAc.book.len]at hlen;refine⟨hB,hp,by omega,λx hx=>?_,hcode⟩;obtain⟨Q,hA⟩:=zaq d;have hQl:=hA.book.len;rw[<-zik hA.book x hx];have hs:=(hA.sub _).1 (zc1 (C:=Q) (i:=x) (by omega));exact λy hy=>hc y ((hd.trans hs).trans hy)
theorem zmt {R:Nat->Prop}(c:Nat)(nv:Value)(w:World)(h:NodeL R encN w nv (za5 c))(hcan:CanC c)(b3:(za5 c).length<=120) :
  Calls Tryz.prog 94 #[.agg #[nv]] w λe w'=>ycz c NoM w e w':=by
 obtain⟨B,b2,_,b4,b5⟩:=znu hcan b3 (.root);obtain⟨w1,hw1⟩:=eX (((w.alloc (.cells #[nv] 26)).alloc (.cells #[.int .i64 0,.int .i64 0] 29)).alloc (.cells #[.int .i64 0,.int .i64 0] 29));have f1:Fr NoM w w1:=by rw[hw1];exact(((nW w).alloc _).alloc _).alloc _
 have hs1:w1.heap.size=w.heap.size+3:=by rw[hw1];simp
 have e0:w1.heap[w.heap.size]?=some (.cells #[nv] 26 (0,0)):=by rw[hw1];exact(((nW _).alloc _).alloc _).heap (xJ w _) id
 have e1:w1.heap[w.heap.size+1]?=some (.cells #[.int .i64 0,.int .i64 0] 29 (0,0)):=by
  have h:=xJ (w.alloc (.cells #[nv] 26)) (.cells #[.int .i64 0,.int .i64 0] 29);rw[xZ]at h;rw[hw1];exact((nW _).alloc _).heap h id
 have e2:w1.heap[w.heap.size+1+1]?=some (.cells #[.int .i64 0,.int .i64 0] 29 (0,0)):=by
  have h:=xJ ((w.alloc (.cells #[nv] 26)).alloc (.cells #[.int .i64 0,.int .i64 0] 29)) (.cells #[.int .i64 0,.int .i64 0] 29);rw[xZ,xZ]at h;rw[hw1];exact h
 have k0:w1.cell? ⟨w.heap.size,0,none⟩=some nv:=by rw[xX w1 _ 0 _ _ _ e0];rfl
 have HR:=Hh (λW (f:Fr NoM w1 W)=>show(W.cell? ⟨w.heap.size+1,0,none⟩=some (.int .i64 0)/\W.cell? ⟨w.heap.size+1,1,none⟩=some (.int .i64 0)/\W.cell? ⟨w.heap.size+1+1,0,none⟩=some (.int .i64 0)/\W.cell? ⟨w.heap.size+1+1,1,none⟩=some (.int .i64 0)) ∧
   W.frozen? ⟨w.heap.size+1,0,none⟩=false/\W.frozen? ⟨w.heap.size+1,1,none⟩=false/\W.frozen? ⟨w.heap.size+1+1,0,none⟩=false/\W.frozen? ⟨w.heap.size+1+1,1,none⟩=false from by
  have h:=f.heap e1 id;have h':=f.heap e2 id;exact⟨⟨by rw[xX W _ 0 _ _ _ h];rfl,by rw[xX W _ 1 _ _ _ h];rfl,by rw[xX W _ 0 _ _ _ h'];rfl,by rw[xX W _ 1 _ _ _ h'];rfl⟩,by simp[World.frozen?,h],by simp[World.frozen?,h],by simp[World.frozen?,h'],by simp[World.frozen?,h']⟩)
 have HFin:=Hh (λ(W:World) (y0 y1 y2 y3:Value) (f:Fr NoM w1 W)=>(((((f1.trans f (λ_ _ q=>q)).setCell ⟨w.heap.size+1,0,none⟩ y0 (λh=>by have h:w.heap.size+1<w.heap.size:=h;omega)).setCell ⟨w.heap.size+1,1,none⟩ y1 (λh=>by have h:w.heap.size+1<w.heap.size:=h;omega)).setCell ⟨w.heap.size+1+1,0,none⟩ y2 (λh=>by have h:w.heap.size+1+1<w.heap.size:=h;omega)).setCell ⟨w.heap.size+1+1,1,none⟩ y3 (λh=>by have h:w.heap.size+1+1<w.heap.size:=h;omega):Fr NoM w ((((W.setCell ⟨w.heap.size+1,0,none⟩ y0).setCell ⟨w.heap.size+1,1,none⟩ y1).setCell ⟨w.heap.size+1+1,0,none⟩ y2).setCell ⟨w.heap.size+1+1,1,none⟩ y3)));have HOp:=Hh (zs5 nv (za5 c) w1 (h.fr0 f1) (zz9 b3));have hk:(za5 c).length-1<(za5 c).length:=by omega
 obtain⟨oL,oR⟩:=zas B hk;obtain⟨o1,o2⟩:=B.opts _ _ (za7 hk);obtain⟨u1,u2⟩:=B.up _ _ (za7 hk);have hcl:=za6 (za5 c);rw[b5]at oL oR;obtain⟨L,hLe⟩:=eX ((za2 (za5 c) ((za5 c).length-1)).1);obtain⟨Q,hQe⟩:=eX ((za2 (za5 c) ((za5 c).length-1)).2);rw[<-hLe]at oL u1 o1;rw[<-hQe]at oR u2 o2;have HNoL:=Hh (show L.length≠1->∀l r,¬IsSw c l r from λh l r q=>by
  obtain⟨i,ei,_⟩:=zib B.nodup u1 (λz hz=>by have:=o1 z hz;omega) (λz=>(oL z).symm.trans (q.1 z));exact h (by rw[ei];rfl))
 have HNoR:=Hh (show Q.length≠1->∀l r,¬IsSw c l r from λh l r q=>by
  obtain⟨i,ei,_⟩:=zib B.nodup u2 (λz hz=>by have:=o2 z hz;omega) (λz=>(oR z).symm.trans (q.2.1 z));exact h (by rw[ei];rfl))
 have HIs:=Hh (show ∀p q,L=[p]->Q=[q]->(∀z,hasL c z↔z=(za0 (za5 c)).getD p 0)/\∀z,hasR c z↔z=(za0 (za5 c)).getD q 0 from λp q e1 e2=>by
  refine⟨λz=>?_,λz=>?_⟩
  ·rw[oL,e1]
   exact⟨λ⟨y,hy,e⟩=>by rw[x4.1 hy]at e;exact e.symm,λe=>⟨p,by simp,e.symm⟩⟩
  ·rw[oR,e2]
   exact⟨λ⟨y,hy,e⟩=>by rw[x4.1 hy]at e;exact e.symm,λe=>⟨q,by simp,e.symm⟩⟩)
 have HOf:=Hh (λ(y:Nat) (hy:y∈L\/y∈Q) (S:Nat->Prop) (W:World) (v:Value) (hN:NodeL S encN W v (za5 ((za0 (za5 c)).getD y 0))) (T P:Int) (g:Bool) (hT:T=(valD ((za0 (za5 c)).getD y 0)).1) (hP:P=((valD ((za0 (za5 c)).getD y 0)).2:Int)) (hg:g=valB ((za0 (za5 c)).getD y 0))=>(by
  have hs:SubC c ((za0 (za5 c)).getD y 0):=by
   rcases hy with h|h
   ·exact .step .root (.inl ((oL _).2 ⟨y,h,rfl⟩))
   ·exact .step .root (.inr ((oR _).2 ⟨y,h,rfl⟩))
  obtain⟨d1,d2,d3,d4,d5⟩:=znu hcan b3 hs;exact ybg d1 v W hN d2 (by omega) d4 T P g (by rw[d5];exact hT) (by rw[d5];exact hP) (by rw[d5];exact hg):Calls Tryz.prog 143 #[.agg #[v]] W λe w'=>e=.returned (.tuple #[.agg #[.int .i64 T,.int .i64 P],.bool g])/\Fr NoM W w'))
 have HEl:=Hh (show yb3 (za5 c)=L.map (λy=>za5 ((za0 (za5 c)).getD y 0))from by rw[hLe];rfl);have HEr:=Hh (show yb2 (za5 c)=Q.map (λy=>za5 ((za0 (za5 c)).getD y 0))from by rw[hQe];rfl);have HS1:=Hh hs1;obtain⟨na,nc,rfl,zz⟩:=id h;clear zz h f1 hs1 e0 e1 e2 B b2 b3 b4 b5 hk oL oR o1 o2 u1 u2 hcl hLe hQe hcan;go_enter Tryz.func94,Tryz.ntmps94;go_upto_region 1 with fail;rw[<-hw1];clear hw1;go_wp2_with fail;(with_reducible refine HOp.out.mono ?_);rintro e w2 ⟨lv,rv,VL,VR,TL,TR,rfl,hgl,hgr,f2⟩;have F2:=Hh f2;rw[HEl.out]at hgl;rw[HEr.out]at hgr;obtain⟨n,hn⟩:=eX L.length;obtain⟨m,hm⟩:=eX Q.length;obtain⟨ua,uc,rfl,hFl⟩:=hgl.slice (n:=n) (by rw[uV,hn]);obtain⟨va,vc,rfl,hFr⟩:=hgr.slice (n:=m) (by rw[uV,hm]);have HFl:=Hh hFl;have HFr:=Hh hFr;rw[<-hn]at HNoL;rw[<-hm]at HNoR;have Hn:=Hh hn;have Hm:=Hh hm;obtain⟨⟨z0,z1,z2,z3⟩,q0,q1,q2,q3⟩:=HR.out w2 f2;clear hgl hgr hFl hFr f2 hn hm k0 HOp HEl HEr;by_cases h1:n=1
 rotate_left
 ·have a1:((n:Int) != 1)=true:=by rw[bne_iff_ne];omega
  have HE:=Hh (show ∀l r,¬IsSw c l r from HNoL.out h1);clear h1;go_wp2_with fail;refine yJ (v:=.tuple #[dyA (0,0),dyA (0,0),.bool false]) (by simp[results,Tryz.results94,go_sem,z0,z1,z2,z3,q0,q1,q2,q3,dyA]) rfl ?_
  exact⟨(0,0),(0,0),false,rfl,.inr ⟨rfl,rfl,rfl,HE.out⟩,HFin.out _ _ _ _ _ F2.out⟩
 by_cases h2:m=1
 rotate_left
 ·have a1:((n:Int) != 1)=false:=by simp;omega
  have a2:((m:Int) != 1)=true:=by rw[bne_iff_ne];omega
  have HE:=Hh (show ∀l r,¬IsSw c l r from HNoR.out h2);clear h1 h2;go_wp2_with fail;refine yJ (v:=.tuple #[dyA (0,0),dyA (0,0),.bool false]) (by simp[results,Tryz.results94,go_sem,z0,z1,z2,z3,q0,q1,q2,q3,dyA]) rfl ?_
  exact⟨(0,0),(0,0),false,rfl,.inr ⟨rfl,rfl,rfl,HE.out⟩,HFin.out _ _ _ _ _ F2.out⟩
 have a1:((n:Int) != 1)=false:=by simp;omega
 have a2:((m:Int) != 1)=false:=by simp;omega
 obtain⟨p,hp⟩:=zk7 (Hn.out.symm.trans h1);obtain⟨r,hr⟩:=zk7 (Hm.out.symm.trans h2);subst hp hr;have HIs2:=Hh (HIs.out p r rfl rfl);have hn0:0<n:=by omega
 have hm0:0<m:=by omega
 obtain⟨nv1,Fm1,bp,op,ef,hap,cp,hN1⟩:=HFl.out.at hn0;cases ef
 have HCr:=Hh (HFr.out.at hm0);rw[Nat.add_zero]at cp;have ixp:=zh6 ua n uc 0 bp op hn0 hap;rw[Nat.add_zero,show((0:Nat):Int)=0 from rfl]at ixp;obtain⟨T1,hT1⟩:=eX ((valD ((za0 (za5 c)).getD p 0)).1);obtain⟨P1,hP1⟩:=eX ((valD ((za0 (za5 c)).getD p 0)).2);obtain⟨g1,hg1⟩:=eX (valB ((za0 (za5 c)).getD p 0));obtain⟨T2,hT2⟩:=eX ((valD ((za0 (za5 c)).getD r 0)).1);obtain⟨P2,hP2⟩:=eX ((valD ((za0 (za5 c)).getD r 0)).2);obtain⟨g2,hg2⟩:=eX (valB ((za0 (za5 c)).getD r 0));have HVp:=Hh (HOf.out p (.inl (by simp)) _ w2 nv1 hN1 T1 (P1:Int) g1 hT1 (by rw[hP1]) hg1);have HVr:=Hh (λ(S:Nat->Prop) (W:World) (v:Value) (hN:NodeL S encN W v (za5 ((za0 (za5 c)).getD r 0)))=>HOf.out r (.inr (by simp)) S W v hN T2 (P2:Int) g2 hT2 (by rw[hP2]) hg2);have hd1:=zk6 ((za0 (za5 c)).getD p 0);have hd2:=zk6 ((za0 (za5 c)).getD r 0);rw[<-hT1,<-hP1]at hd1;rw[<-hT2,<-hP2]at hd2;obtain⟨lt,hlt⟩:=eX (decide (T1*2^(24-P1)<T2*2^(24-P2)));have HLs:=Hh (λ(W:World)=>zd4 T1 T2 P1 P2 W (by have:=hd1.2.1.2;omega) (by have:=hd2.2.1.2;omega) (by have:=hd1.1;omega) (by have:=hd2.1;omega) lt hlt);have HG1:=Hh (λ(W:World)=>zgg T1 (P1:Int) W true (by simp[hd1]));have HG2:=Hh (λ(W:World)=>zgg T2 (P2:Int) W true (by simp[hd2]));have HRes:=Hh (show lt=true↔swGe (T1,P1) (T2,P2)=false from by
  rw[hlt];unfold swGe;rw[decide_eq_true_iff,decide_eq_false_iff_not];show _↔¬T2*2^(24-P2)<=T1*2^(24-P1)
  omega)
 have HV1:=Hh (And.intro hT1 (And.intro hP1 hg1));have HV2:=Hh (And.intro hT2 (And.intro hP2 hg2));have HN0:=Hh hm0;obtain⟨na1,nc1,rfl,zz⟩:=id hN1;obtain⟨kl1,hkl1⟩:=eX ((za5 ((za0 (za5 c)).getD p 0)).length);rw[<-hkl1]at HVp cp;clear hkl1 zz hN1 h1 h2 hap hn0 hm0 hT1 hP1 hg1 hT2 hP2 hg2 hd1 hd2 hlt z0 z1 z2 z3 q0 q1 q2 q3 Hn Hm HIs HOf HNoL HNoR HFl HFr;go_wp2_with fail;(with_reducible refine HVp.out.mono ?_);rintro e w3 ⟨rfl,f3⟩;have F3:=Hh (F2.out.trans f3 (λ_ _ q=>q));obtain⟨W4,hW4⟩:=eX (w3.alloc (.cells #[.int .i64 T1,.int .i64 (P1:Int)] 29));obtain⟨b4,hb4⟩:=eX w3.heap.size;have g4:Fr NoM w3 W4:=by rw[hW4];exact(nW w3).alloc _
 have e4:W4.heap[b4]?=some (.cells #[.int .i64 T1,.int .i64 (P1:Int)] 29 (0,0)):=by rw[hW4,hb4];exact xJ w3 _
 have F4:=Hh (F3.out.trans g4 (λ_ _ q=>q));have HB4:=Hh (show w1.heap.size<=b4 from by have h1:=F3.out.size;omega);have HD4:=Hh (λW (fr:Fr NoM W4 W)=>show W.cell? ⟨b4,0,none⟩=some (.int .i64 T1)/\W.cell? ⟨b4,1,none⟩=some (.int .i64 (P1:Int))from by
  have h1:=fr.heap e4 id;exact⟨by rw[xX W _ 0 _ _ _ h1];rfl,by rw[xX W _ 1 _ _ _ h1];rfl⟩)
 obtain⟨nv2,Fm2,br,or,ef,har,cr,hN2⟩:=HCr.out;cases ef
 rw[Nat.add_zero]at cr;have f24:Fr NoM w2 W4:=f3.trans g4 (λ_ _ q=>q);have cr:=f24.cell cr id;have ixr:=zh6 va m vc 0 br or HN0.out har;rw[Nat.add_zero,show((0:Nat):Int)=0 from rfl]at ixr;have HVr4:=Hh (HVr.out _ W4 nv2 (hN2.fr0 f24));obtain⟨na2,nc2,rfl,zz⟩:=id hN2;obtain⟨kl2,hkl2⟩:=eX ((za5 ((za0 (za5 c)).getD r 0)).length);rw[<-hkl2]at HVr4 cr;clear hkl2 zz hN2 f24 f3 g4 e4 har cp ixp HVp HVr HCr;go_upto_region 5 with fail;rw[<-hW4,<-hb4];clear hW4 hb4;go_wp2_with fail;(with_reducible refine HVr4.out.mono ?_);rintro e w5 ⟨rfl,f5⟩;obtain⟨W6,hW6⟩:=eX (w5.alloc (.cells #[.int .i64 T2,.int .i64 (P2:Int)] 29));obtain⟨b6,hb6⟩:=eX w5.heap.size;have g6:Fr NoM w5 W6:=by rw[hW6];exact(nW w5).alloc _
 have e6:W6.heap[b6]?=some (.cells #[.int .i64 T2,.int .i64 (P2:Int)] 29 (0,0)):=by rw[hW6,hb6];exact xJ w5 _
 have F46:=Hh (f5.trans g6 (λ_ _ q=>q));have F6:=Hh (F4.out.trans F46.out (λ_ _ q=>q));have HB6:=Hh (show w1.heap.size<=b6 from by have h1:=(F4.out.trans f5 (λ_ _ q=>q)).size;omega);have HD6:=Hh (λW (fr:Fr NoM W6 W)=>show W.cell? ⟨b6,0,none⟩=some (.int .i64 T2)/\W.cell? ⟨b6,1,none⟩=some (.int .i64 (P2:Int))from by
  have h1:=fr.heap e6 id;exact⟨by rw[xX W _ 0 _ _ _ h1];rfl,by rw[xX W _ 1 _ _ _ h1];rfl⟩)
 clear f5 g6 e6 cr ixr HVr4;go_upto_region 6 with fail;rw[<-hW6,<-hb6];clear hW6 hb6;obtain⟨d0,d1⟩:=HD4.out W6 F46.out;obtain⟨d2,d3⟩:=HD6.out W6 (Fr.refl _ _);cases g1 with
 | false =>
  obtain⟨⟨z0,z1,z2,z3⟩,q0,q1,q2,q3⟩:=HR.out W6 F6.out;have HE:=Hh (show ∀l r,¬IsSw c l r from λl r q=>by have e:=(q.1 l).2 rfl;rw[(HIs2.out.1 l).1 e]at q;have h:=q.2.2.1;rw[<-HV1.out.2.2]at h;cases h);go_wp2_with fail;refine yJ (v:=.tuple #[dyA (0,0),dyA (0,0),.bool false]) (by simp[results,Tryz.results94,go_sem,z0,z1,z2,z3,q0,q1,q2,q3,dyA]) rfl ?_
  exact⟨(0,0),(0,0),false,rfl,.inr ⟨rfl,rfl,rfl,HE.out⟩,HFin.out _ _ _ _ _ F6.out⟩
 | true =>
 cases g2 with
 | false =>
  obtain⟨⟨z0,z1,z2,z3⟩,q0,q1,q2,q3⟩:=HR.out W6 F6.out;have HE:=Hh (show ∀l r,¬IsSw c l r from λl r q=>by have e:=(q.2.1 r).2 rfl;rw[(HIs2.out.2 r).1 e]at q;have h:=q.2.2.2.1;rw[<-HV2.out.2.2]at h;cases h);go_wp2_with fail;refine yJ (v:=.tuple #[dyA (0,0),dyA (0,0),.bool false]) (by simp[results,Tryz.results94,go_sem,z0,z1,z2,z3,q0,q1,q2,q3,dyA]) rfl ?_
  exact⟨(0,0),(0,0),false,rfl,.inr ⟨rfl,rfl,rfl,HE.out⟩,HFin.out _ _ _ _ _ F6.out⟩
 | true =>
 go_wp2_with fail;(with_reducible refine(HLs.out W6).mono ?_);rintro e w7 ⟨rfl,f7⟩;have F67:=Hh f7;have F7:=Hh (F6.out.trans f7 (λ_ _ q=>q));clear f7 d0 d1 d2 d3 HLs;cases lt with
 | true =>
  have HSg:=Hh (HRes.out.1 (by simp));obtain⟨⟨z0,z1,z2,z3⟩,q0,q1,q2,q3⟩:=HR.out w7 F7.out;have HE:=Hh (show ∀l r,¬IsSw c l r from λl r q=>by have e:=(q.1 l).2 rfl;have e2:=(q.2.1 r).2 rfl;rw[(HIs2.out.1 l).1 e,(HIs2.out.2 r).1 e2]at q;have h:=q.2.2.2.2;have h2:=HSg.out;rw[HV1.out.1,HV1.out.2.1,HV2.out.1,HV2.out.2.1]at h2;rw[h2]at h;cases h);go_wp2_with fail;refine yJ (v:=.tuple #[dyA (0,0),dyA (0,0),.bool false]) (by simp[results,Tryz.results94,go_sem,z0,z1,z2,z3,q0,q1,q2,q3,dyA]) rfl ?_
  exact⟨(0,0),(0,0),false,rfl,.inr ⟨rfl,rfl,rfl,HE.out⟩,HFin.out _ _ _ _ _ F7.out⟩
 | false =>
 have HSw:=Hh (show SwT c (T1,P1) (T2,P2) true from .inl ⟨rfl,_,_,⟨HIs2.out.1,HIs2.out.2,HV1.out.2.2.symm,HV2.out.2.2.symm,by
  refine eq_true_of_ne_false λe=>?_
  have h:=HRes.out.2 (by rw[HV1.out.1,HV1.out.2.1,HV2.out.1,HV2.out.2.1];exact e);cases h⟩,by rw[HV1.out.1,HV1.out.2.1],by rw[HV2.out.1,HV2.out.2.1]⟩)
 obtain⟨d0,d1⟩:=HD4.out w7 (F46.out.trans F67.out (λ_ _ q=>q));go_wp2_with fail;(with_reducible refine(HG1.out w7).mono ?_);rintro e w8 ⟨rfl,f8⟩;have F68:=Hh (F67.out.trans f8 (λ_ _ q=>q));have F8:=Hh (F7.out.trans f8 (λ_ _ q=>q));clear f8 d0 d1 HG1;obtain⟨d2,d3⟩:=HD6.out w8 F68.out;go_wp2_with fail;(with_reducible refine(HG2.out w8).mono ?_);rintro e w9 ⟨rfl,f9⟩;have F69:=Hh (F68.out.trans f9 (λ_ _ q=>q));have F9:=Hh (F8.out.trans f9 (λ_ _ q=>q));clear f9 d2 d3 HG2;obtain⟨⟨z0,z1,z2,z3⟩,q0,q1,q2,q3⟩:=HR.out w9 F9.out;go_wp2_with fail;have HS:=Hh (λW (fr:Fr (λq=>q=w.heap.size+1\/q=w.heap.size+1+1) w9 W)=>show W.cell? ⟨b4,0,none⟩=some (.int .i64 T1)/\W.cell? ⟨b4,1,none⟩=some (.int .i64 (P1:Int))/\W.cell? ⟨b6,0,none⟩=some (.int .i64 T2)/\W.cell? ⟨b6,1,none⟩=some (.int .i64 (P2:Int))from by
  obtain⟨d0,d1⟩:=HD4.out w9 (F46.out.trans F69.out (λ_ _ q=>q));obtain⟨d2,d3⟩:=HD6.out w9 F69.out;have h4:=HB4.out;have h6:=HB6.out;have hs:=HS1.out;exact⟨fr.cell d0 (λe=>by have e:b4=w.heap.size+1\/b4=w.heap.size+1+1:=e;omega),fr.cell d1 (λe=>by have e:b4=w.heap.size+1\/b4=w.heap.size+1+1:=e;omega),fr.cell d2 (λe=>by have e:b6=w.heap.size+1\/b6=w.heap.size+1+1:=e;omega),fr.cell d3 (λe=>by have e:b6=w.heap.size+1\/b6=w.heap.size+1+1:=e;omega)⟩)
 have k0:Fr (λq=>q=w.heap.size+1\/q=w.heap.size+1+1) w9 w9.drew:=(Fr.refl _ w9).drew;have HA:=Hh (λW (fr:Fr (λq=>q=w.heap.size+1\/q=w.heap.size+1+1) w9 W)=>((fr.setCell ⟨w.heap.size+1,0,none⟩ (.int .i64 T1) (λ_=>.inl rfl)).setCell ⟨w.heap.size+1,1,none⟩ (.int .i64 (P1:Int)) (λ_=>.inl rfl):Fr (λq=>q=w.heap.size+1\/q=w.heap.size+1+1) w9 ((W.setCell ⟨w.heap.size+1,0,none⟩ (.int .i64 T1)).setCell ⟨w.heap.size+1,1,none⟩ (.int .i64 (P1:Int)))));have HBq:=Hh (λW (fr:Fr (λq=>q=w.heap.size+1\/q=w.heap.size+1+1) w9 W)=>((fr.setCell ⟨w.heap.size+1+1,0,none⟩ (.int .i64 T2) (λ_=>.inr rfl)).setCell ⟨w.heap.size+1+1,1,none⟩ (.int .i64 (P2:Int)) (λ_=>.inr rfl):Fr (λq=>q=w.heap.size+1\/q=w.heap.size+1+1) w9 ((W.setCell ⟨w.heap.size+1+1,0,none⟩ (.int .i64 T2)).setCell ⟨w.heap.size+1+1,1,none⟩ (.int .i64 (P2:Int)))));have k1:=HA.out w9 (Fr.refl _ _);have k2:=HA.out w9.drew k0;have k3:=k1.drew;have k4:=HBq.out w9 (Fr.refl _ _);have k5:=HBq.out w9.drew k0;have k6:=k4.drew;have k7:=HBq.out _ k1;have k8:=HBq.out _ k2;have k9:=HBq.out _ k3;have k10:=k7.drew;have k11:=HA.out _ k4;have k12:=HA.out _ k5;have k13:=HA.out _ k6;have k14:=k11.drew;go_region_held3 (λ(W:World)=>W.cell? ⟨b4,0,none⟩=some (.int .i64 T1)/\W.cell? ⟨b4,1,none⟩=some (.int .i64 (P1:Int))/\W.cell? ⟨b6,0,none⟩=some (.int .i64 T2)/\W.cell? ⟨b6,1,none⟩=some (.int .i64 (P2:Int)))
  (exact HS.out _ (by assumption))
  (first|fail)
 all_goals
  go_wp2_with fail;refine yJ (v:=.tuple #[dyA (T1,P1),dyA (T2,P2),.bool true]) (by simp[results,Tryz.results94,go_sem,z0,z1,z2,z3,q0,q1,q2,q3,dyA]) rfl ?_
  exact⟨(T1,P1),(T2,P2),true,rfl,HSw.out,by first|exact HFin.out _ _ _ _ _ F9.out|exact(HFin.out _ _ _ _ _ F9.out).drew|exact HFin.out _ _ _ _ _ F9.out.drew⟩
 end Go.Proofs.YtlapkmhemepcaaaGreatDoor
