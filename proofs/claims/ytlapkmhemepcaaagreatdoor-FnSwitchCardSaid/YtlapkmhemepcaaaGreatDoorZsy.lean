import Derived.Test.YtlapkmhemepcaaaGreatDoorZs11
/- Lemmas. -/
set_option linter.all false
set_option maxHeartbeats 8000000
set_option maxRecDepth 8000
namespace Go.Proofs.YtlapkmhemepcaaaGreatDoor
open Go.RowKit
def dyA (x:Int × Nat):Value:=.agg #[.int .i64 x.1,.int .i64 (x.2:Int)]
def ycz (d:Nat)(M:Nat->Prop)(w:World)(e:Ending)(w':World):Prop:=∃(x y:Int × Nat) (ok:Bool),e=.returned (.tuple #[dyA x,dyA y,.bool ok])/\SwT d x y ok/\Fr M w w'
theorem zk6 (c:Nat):GoodD (valD c).1 (valD c).2:=by cases h:valB c with| true=>exact(zby h).2| false=>rw[zcz h];exact GoodD.of (.inl rfl) (by decide) (by decide)
theorem zzf {x y:Int × Nat}(hx:x.2<=16)(hy:y.2<=16):(cmpD x y<0)↔swGe x y=false:=by have h1:=yev (P:=24) (by decide) hx hy;have e:atP 24 x=x.1*2^(24-x.2):=rfl;have e':atP 24 y=y.1*2^(24-y.2):=rfl;have e2:atP 16 x=x.1*2^(16-x.2):=rfl;have e2':atP 16 y=y.1*2^(16-y.2):=rfl;rw[e,e',e2,e2']at h1;unfold cmpD swGe Lib.compareInt;rw[decide_eq_false_iff_not];by_cases h:x.1*2^(16-x.2)<y.1*2^(16-y.2);{have:=h1.2 h;simp only[h,if_true];omega};{have:¬x.1*2^(24-x.2)<y.1*2^(24-y.2):=λq=>h (h1.1 q);simp only[h,if_false];split <;> omega}
theorem zk7 {L:List Nat}(h:L.length=1):∃p,L=[p]:=by match L,h with| [p],_=>exact⟨p,rfl⟩
theorem zot {M I:Nat->Prop}(pb ob:Nat)(mc ms mn:Value)(V:List PL)(BV:List Nat)(B:BookC V (za0 V))(hMo:¬M ob)(hIo:¬I ob)(x:Nat)(hx:x<V.length)(hc:CanC ((za0 V).getD x 0))(hV:V.length<=1000000)
  (f:Nat × Nat->Option Bool) (w:World) (hP:PoolS M I w pb V BV (.map (some ob)) mc ms mn) (hF:MapF encP encB w ob f) (hO:OrdF (za0 V) f) (hMI:∀q,M q\/I q->q<w.heap.size) :
  Calls Tryz.prog 93 #[.pointer (some ⟨pb,0,none⟩),.int .i64 (x:Int)] w λe w'=>ycz ((za0 V).getD x 0) (λq=>q=ob) w e w':=by
 obtain⟨oL,oR⟩:=zas B hx;obtain⟨o1,o2⟩:=B.opts x _ (za7 hx);obtain⟨u1,u2⟩:=B.up x _ (za7 hx);have hcl:=za6 V;obtain⟨c,hcx⟩:=eX ((za0 V).getD x 0);obtain⟨L,hLe⟩:=eX ((za2 V x).1);obtain⟨R,hRe⟩:=eX ((za2 V x).2);rw[<-hcx,<-hLe]at oL;rw[<-hcx,<-hRe]at oR;rw[<-hLe]at u1 o1;rw[<-hRe]at u2 o2;rw[<-hcx]at hc ⊢;have HNoL:=Hh (show L.length≠1->∀l r,¬IsSw c l r from λh l r q=>by
  obtain⟨i,ei,_⟩:=zib B.nodup u1 (λz hz=>by have:=o1 z hz;omega) (λz=>(oL z).symm.trans (q.1 z));exact h (by rw[ei];rfl))
 have HNoR:=Hh (show R.length≠1->∀l r,¬IsSw c l r from λh l r q=>by
  obtain⟨i,ei,_⟩:=zib B.nodup u2 (λz hz=>by have:=o2 z hz;omega) (λz=>(oR z).symm.trans (q.2.1 z));exact h (by rw[ei];rfl))
 have HIs:=Hh (show ∀p q,L=[p]->R=[q]->(∀z,hasL c z↔z=(za0 V).getD p 0)/\∀z,hasR c z↔z=(za0 V).getD q 0 from λp q e1 e2=>by
  refine⟨λz=>?_,λz=>?_⟩
  ·rw[oL,e1]
   exact⟨λ⟨y,hy,e⟩=>by rw[x4.1 hy]at e;exact e.symm,λe=>⟨p,by simp,e.symm⟩⟩
  ·rw[oR,e2]
   exact⟨λ⟨y,hy,e⟩=>by rw[x4.1 hy]at e;exact e.symm,λe=>⟨q,by simp,e.symm⟩⟩)
 have HOp:=Hh (show ∀y,(y∈L\/y∈R)->y<V.length/\CanC ((za0 V).getD y 0)from λy hy=>by
  rcases hy with h|h
  ·exact⟨by have:=o1 y h;omega,hc.opt (.inl ((oL _).2 ⟨y,h,rfl⟩))⟩
  ·exact⟨by have:=o2 y h;omega,hc.opt (.inr ((oR _).2 ⟨y,h,rfl⟩))⟩)
 obtain⟨w1,hw1⟩:=eX ((w.alloc (.cells #[.int .i64 0,.int .i64 0] 29)).alloc (.cells #[.int .i64 0,.int .i64 0] 29));have f1:Fr NoM w w1:=by rw[hw1];exact((nW w).alloc _).alloc _
 have hs1:w1.heap.size=w.heap.size+2:=by rw[hw1];simp
 have e1:w1.heap[w.heap.size]?=some (.cells #[.int .i64 0,.int .i64 0] 29 (0,0)):=by rw[hw1];exact((nW _).alloc _).heap (xJ w _) id
 have e2:w1.heap[w.heap.size+1]?=some (.cells #[.int .i64 0,.int .i64 0] 29 (0,0)):=by
  have h:=xJ (w.alloc (.cells #[.int .i64 0,.int .i64 0] 29)) (.cells #[.int .i64 0,.int .i64 0] 29);rw[xZ]at h;rw[hw1];exact h
 have hol:=hF.lt;have HR:=Hh (λW (f:Fr (λq=>q=ob) w1 W)=>show(W.cell? ⟨w.heap.size,0,none⟩=some (.int .i64 0)/\W.cell? ⟨w.heap.size,1,none⟩=some (.int .i64 0)/\W.cell? ⟨w.heap.size+1,0,none⟩=some (.int .i64 0)/\W.cell? ⟨w.heap.size+1,1,none⟩=some (.int .i64 0)) ∧
   W.frozen? ⟨w.heap.size,0,none⟩=false/\W.frozen? ⟨w.heap.size,1,none⟩=false/\W.frozen? ⟨w.heap.size+1,0,none⟩=false/\W.frozen? ⟨w.heap.size+1,1,none⟩=false from by
  have h:=f.heap e1 (λq=>by omega);have h':=f.heap e2 (λq=>by omega);exact⟨⟨by rw[xX W _ 0 _ _ _ h];rfl,by rw[xX W _ 1 _ _ _ h];rfl,by rw[xX W _ 0 _ _ _ h'];rfl,by rw[xX W _ 1 _ _ _ h'];rfl⟩,by simp[World.frozen?,h],by simp[World.frozen?,h],by simp[World.frozen?,h'],by simp[World.frozen?,h']⟩)
 have HFin:=Hh (λ(W:World) (y0 y1 y2 y3:Value) (f:Fr (λq=>q=ob) w1 W)=>(((((f1.any.trans f (λ_ _ q=>q)).setCell ⟨w.heap.size,0,none⟩ y0 (λh=>by have h:w.heap.size<w.heap.size:=h;omega)).setCell ⟨w.heap.size,1,none⟩ y1 (λh=>by have h:w.heap.size<w.heap.size:=h;omega)).setCell ⟨w.heap.size+1,0,none⟩ y2 (λh=>by have h:w.heap.size+1<w.heap.size:=h;omega)).setCell ⟨w.heap.size+1,1,none⟩ y3 (λh=>by have h:w.heap.size+1<w.heap.size:=h;omega):Fr (λq=>q=ob) w ((((W.setCell ⟨w.heap.size,0,none⟩ y0).setCell ⟨w.heap.size,1,none⟩ y1).setCell ⟨w.heap.size+1,0,none⟩ y2).setCell ⟨w.heap.size+1,1,none⟩ y3)));have HPl:=Hh (λW (fr:Fr (λq=>q=ob) w1 W)=>(hP.fr0 f1).fr fr (λq hq e=>hMo (e ▸ hq)) (λq hq e=>hIo (e ▸ hq)));have HV:=Hh (λ(y:Nat) (hy:y<V.length) (hcy:CanC ((za0 V).getD y 0)) (f':Nat × Nat->Option Bool) (W:World) (fr:Fr (λq=>q=ob) w1 W) (hm:MapF encP encB W ob f') (ho:OrdF (za0 V) f')=>zoi (BV:=BV) B pb ob mc ms mn hMo hIo _ y (kZ _) hy hcy f' W ((hP.fr0 f1).fr fr (λq hq e=>hMo (e ▸ hq)) (λq hq e=>hIo (e ▸ hq))) hm ho);have HF1:=Hh (hF.fr f1 id);have HO:=Hh hO;obtain⟨la,lc,ra,rc,p0,p1,_,_,_,_,hL,hR⟩:=(hP.fr0 f1).rd;obtain⟨lb,lo,lv,rfl,r1,s1,i1⟩:=hL x hx;obtain⟨rb,ro,rv,rfl,r2,s2,i2⟩:=hR x hx;rw[<-hLe]at s1 i1;rw[<-hRe]at s2 i2;have HUL:=Hh (λW (f:Fr (λq=>q=ob) w1 W)=>show Nats W lv L from s1.fr f (λhne q hq e=>hIo (by rw[<-e];exact i1 hne q hq)));have HUR:=Hh (λW (f:Fr (λq=>q=ob) w1 W)=>show Nats W rv R from s2.fr f (λhne q hq e=>hIo (by rw[<-e];exact i2 hne q hq)));have ix1:=zbb (some ⟨lb,lo,none⟩) V.length lc x lb lo hx rfl;have ix2:=zbb (some ⟨rb,ro,none⟩) V.length rc x rb ro hx rfl;obtain⟨ua,uc,rfl,z⟩:=id s1;clear z;obtain⟨va,vc,rfl,z⟩:=id s2;have HS1:=Hh hs1;have HOl:=Hh hol;clear z hL hR s1 s2 i1 i2 oL oR o1 o2 u1 u2 hcl hc hP hF hO hMI hMo hIo f1 e1 e2 hol hs1 hx hV B;obtain⟨n,hn⟩:=eX L.length;obtain⟨m,hm⟩:=eX R.length;rw[<-hn]at HNoL HUL r1;rw[<-hm]at HNoR HUR r2;have Hn:=Hh hn;have Hm:=Hh hm;clear hn hm hLe hRe hcx;go_enter Tryz.func93,Tryz.ntmps93;go_upto_region 1 with fail;rw[<-hw1];clear hw1;go_wp2_with fail;go_quiet (fail);generalize hw2:World.drewN w1 _=w2
 have f2:Fr (λq=>q=ob) w1 w2:=by rw[<-hw2];exact(zc7 _ _).any
 have HM2:=Hh (show MapF encP encB w2 ob f from by rw[<-hw2];exact HF1.out.fr (zc7 _ _) id);have F2:=Hh f2;clear hw2 f2 p0 p1 r1 r2 ix1 ix2 HF1;obtain⟨⟨z0,z1,z2,z3⟩,q0,q1,q2,q3⟩:=HR.out w2 F2.out;by_cases h1:n=1
 rotate_left
 ·have a1:((n:Int) != 1)=true:=by rw[bne_iff_ne];omega
  have HE:=Hh (show ∀l r,¬IsSw c l r from HNoL.out h1);clear h1;go_wp2_with fail;refine yJ (v:=.tuple #[dyA (0,0),dyA (0,0),.bool false]) (by simp[results,Tryz.results93,go_sem,z0,z1,z2,z3,q0,q1,q2,q3,dyA]) rfl ?_
  exact⟨(0,0),(0,0),false,rfl,.inr ⟨rfl,rfl,rfl,HE.out⟩,HFin.out _ _ _ _ _ F2.out⟩
 by_cases h2:m=1
 rotate_left
 ·have a1:((n:Int) != 1)=false:=by simp;omega
  have a2:((m:Int) != 1)=true:=by rw[bne_iff_ne];omega
  have HE:=Hh (show ∀l r,¬IsSw c l r from HNoR.out h2);clear h1 h2;go_wp2_with fail;refine yJ (v:=.tuple #[dyA (0,0),dyA (0,0),.bool false]) (by simp[results,Tryz.results93,go_sem,z0,z1,z2,z3,q0,q1,q2,q3,dyA]) rfl ?_
  exact⟨(0,0),(0,0),false,rfl,.inr ⟨rfl,rfl,rfl,HE.out⟩,HFin.out _ _ _ _ _ F2.out⟩
 have a1:((n:Int) != 1)=false:=by simp;omega
 have a2:((m:Int) != 1)=false:=by simp;omega
 obtain⟨p,hp⟩:=zk7 (Hn.out.symm.trans h1);obtain⟨r,hr⟩:=zk7 (Hm.out.symm.trans h2);subst hp hr;have HIs2:=Hh (HIs.out p r rfl rfl);obtain⟨hpV,hpc⟩:=HOp.out p (.inl (by simp));obtain⟨hrV,hrc⟩:=HOp.out r (.inr (by simp));have HVp:=Hh (HV.out p hpV hpc f w2 F2.out HM2.out HO.out);have HVr:=Hh (HV.out r hrV hrc);have hn0:0<n:=by omega
 have hm0:0<m:=by omega
 obtain⟨a',c',ea,_,_,hcp⟩:=HUL.out w2 F2.out;obtain⟨bp,op,hap,cp⟩:=hcp 0 p rfl;obtain⟨ea1,ea2,ea3⟩:=Value.slice.inj ea;rw[<-ea1]at hap;clear ea1 ea2 ea3 ea;have HCr:=Hh (λW (fr:Fr (λq=>q=ob) w1 W)=>show ∃b o,va=some ⟨b,o,none⟩/\W.cell? ⟨b,o,none⟩=some (.int .i64 (r:Int))from by
  obtain⟨a',c',ea,_,_,hcp⟩:=HUR.out W fr;obtain⟨bp,op,hap,cp⟩:=hcp 0 r rfl;obtain⟨ea1,ea2,ea3⟩:=Value.slice.inj ea;exact⟨bp,op,by rw[ea1];exact hap,by rw[Nat.add_zero]at cp;exact cp⟩)
 rw[Nat.add_zero]at cp;unfold encN at cp;have ixp:=za8 ua n uc 0 bp op hn0 hap;rw[Nat.add_zero,show((0:Nat):Int)=0 from rfl]at ixp;obtain⟨T1,hT1⟩:=eX ((valD ((za0 V).getD p 0)).1);obtain⟨P1,hP1⟩:=eX ((valD ((za0 V).getD p 0)).2);obtain⟨g1,hg1⟩:=eX (valB ((za0 V).getD p 0));obtain⟨T2,hT2⟩:=eX ((valD ((za0 V).getD r 0)).1);obtain⟨P2,hP2⟩:=eX ((valD ((za0 V).getD r 0)).2);obtain⟨g2,hg2⟩:=eX (valB ((za0 V).getD r 0));have hd1:=zk6 ((za0 V).getD p 0);have hd2:=zk6 ((za0 V).getD r 0);rw[<-hT1,<-hP1]at hd1;rw[<-hT2,<-hP2]at hd2;rw[<-hT1,<-hP1,<-hg1]at HVp;rw[<-hT2,<-hP2,<-hg2]at HVr;obtain⟨res,hres⟩:=eX (cmpD (T1,P1) (T2,P2));have HCm:=Hh (λ(W:World)=>zgz T1 T2 P1 P2 W hd1 hd2 res hres);have HRes:=Hh (show res<0↔swGe (T1,P1) (T2,P2)=false from by rw[hres];exact zzf (by have:=hd1.2.1.2;show P1<=16;omega) (by have:=hd2.2.1.2;show P2<=16;omega));have HV1:=Hh (And.intro hT1 (And.intro hP1 hg1));have HV2:=Hh (And.intro hT2 (And.intro hP2 hg2));have HN0:=Hh hm0;clear h1 h2 hpV hpc hrV hrc hcp hap hn0 hm0 hT1 hP1 hg1 hT2 hP2 hg2 hd1 hd2 hres z0 z1 z2 z3 q0 q1 q2 q3 Hn Hm HIs HOp HV HNoL HNoR HUL HUR;go_wp2_with fail;(with_reducible refine HVp.out.mono ?_);rintro e w3 ⟨rfl,f3',hm3,ho3,hf3⟩;have F3:=Hh (F2.out.trans hf3 (λ_ _ q=>q));obtain⟨W4,hW4⟩:=eX (w3.alloc (.cells #[.int .i64 T1,.int .i64 (P1:Int)] 29));obtain⟨b4,hb4⟩:=eX w3.heap.size;have g4:Fr NoM w3 W4:=by rw[hW4];exact(nW w3).alloc _
 have e4:W4.heap[b4]?=some (.cells #[.int .i64 T1,.int .i64 (P1:Int)] 29 (0,0)):=by rw[hW4,hb4];exact xJ w3 _
 have F4:=Hh (F3.out.trans g4 (λ_ _ q=>q.elim));have HVr4:=Hh (HVr.out f3' W4 F4.out (hm3.fr g4 id) ho3);have HB4:=Hh (show w1.heap.size<=b4/\ob<b4 from by have h1:=F3.out.size;have h2:=HOl.out;have h3:=HS1.out;omega);have HD4:=Hh (λW (fr:Fr (λq=>q=ob) W4 W)=>show W.cell? ⟨b4,0,none⟩=some (.int .i64 T1)/\W.cell? ⟨b4,1,none⟩=some (.int .i64 (P1:Int))from by
  have h1:=fr.heap e4 (λe=>by have:=HB4.out.2;omega);exact⟨by rw[xX W _ 0 _ _ _ h1];rfl,by rw[xX W _ 1 _ _ _ h1];rfl⟩)
 obtain⟨br,or,har,cr⟩:=HCr.out W4 F4.out;have ixr:=za8 va m vc 0 br or HN0.out har;rw[Nat.add_zero,show((0:Nat):Int)=0 from rfl]at ixr;clear hm3 ho3 hf3 g4 e4 har cp ixp HVp HVr HCr;go_upto_region 5 with fail;rw[<-hW4,<-hb4];clear hW4 hb4;go_wp2_with fail;(with_reducible refine HVr4.out.mono ?_);rintro e w5 ⟨rfl,f5',hm5,ho5,hf5⟩;obtain⟨W6,hW6⟩:=eX (w5.alloc (.cells #[.int .i64 T2,.int .i64 (P2:Int)] 29));obtain⟨b6,hb6⟩:=eX w5.heap.size;have g6:Fr NoM w5 W6:=by rw[hW6];exact(nW w5).alloc _
 have e6:W6.heap[b6]?=some (.cells #[.int .i64 T2,.int .i64 (P2:Int)] 29 (0,0)):=by rw[hW6,hb6];exact xJ w5 _
 have F46:=Hh (hf5.trans g6 (λ_ _ q=>q.elim));have F6:=Hh ((F4.out.trans hf5 (λ_ _ q=>q)).trans g6 (λ_ _ q=>q.elim));have HB6:=Hh (show w1.heap.size<=b6/\ob<b6 from by have h1:=(F4.out.trans hf5 (λ_ _ q=>q)).size;have h2:=HOl.out;have h3:=HS1.out;omega);have HD6:=Hh (λW (fr:Fr (λq=>q=ob) W6 W)=>show W.cell? ⟨b6,0,none⟩=some (.int .i64 T2)/\W.cell? ⟨b6,1,none⟩=some (.int .i64 (P2:Int))from by
  have h1:=fr.heap e6 (λe=>by have:=HB6.out.2;omega);exact⟨by rw[xX W _ 0 _ _ _ h1];rfl,by rw[xX W _ 1 _ _ _ h1];rfl⟩)
 clear hm5 ho5 hf5 g6 e6 cr ixr HVr4;go_upto_region 6 with fail;rw[<-hW6,<-hb6];clear hW6 hb6;obtain⟨d0,d1⟩:=HD4.out W6 F46.out;obtain⟨d2,d3⟩:=HD6.out W6 (Fr.refl _ _);go_wp2_with fail;(with_reducible refine(HCm.out W6).mono ?_);rintro e w7 ⟨rfl,f7⟩;have F67:=Hh (f7.any (M:=λq=>q=ob));have F7:=Hh (F6.out.trans F67.out (λ_ _ q=>q));clear f7 d0 d1 d2 d3 HCm;obtain⟨⟨z0,z1,z2,z3⟩,q0,q1,q2,q3⟩:=HR.out w7 F7.out;cases g1 with
 | false =>
  have HE:=Hh (show ∀l r,¬IsSw c l r from λl r q=>by have e:=(q.1 l).2 rfl;rw[(HIs2.out.1 l).1 e]at q;have h:=q.2.2.1;rw[<-HV1.out.2.2]at h;cases h);go_wp2_with fail;refine yJ (v:=.tuple #[dyA (0,0),dyA (0,0),.bool false]) (by simp[results,Tryz.results93,go_sem,z0,z1,z2,z3,q0,q1,q2,q3,dyA]) rfl ?_
  exact⟨(0,0),(0,0),false,rfl,.inr ⟨rfl,rfl,rfl,HE.out⟩,HFin.out _ _ _ _ _ F7.out⟩
 | true =>
 cases g2 with
 | false =>
  have HE:=Hh (show ∀l r,¬IsSw c l r from λl r q=>by have e:=(q.2.1 r).2 rfl;rw[(HIs2.out.2 r).1 e]at q;have h:=q.2.2.2.1;rw[<-HV2.out.2.2]at h;cases h);go_wp2_with fail;refine yJ (v:=.tuple #[dyA (0,0),dyA (0,0),.bool false]) (by simp[results,Tryz.results93,go_sem,z0,z1,z2,z3,q0,q1,q2,q3,dyA]) rfl ?_
  exact⟨(0,0),(0,0),false,rfl,.inr ⟨rfl,rfl,rfl,HE.out⟩,HFin.out _ _ _ _ _ F7.out⟩
 | true =>
 by_cases hr0:res<0
 ·have HSg:=Hh (HRes.out.1 hr0)
  have HE:=Hh (show ∀l r,¬IsSw c l r from λl r q=>by have e:=(q.1 l).2 rfl;have e2:=(q.2.1 r).2 rfl;rw[(HIs2.out.1 l).1 e,(HIs2.out.2 r).1 e2]at q;have h:=q.2.2.2.2;have h2:=HSg.out;rw[HV1.out.1,HV1.out.2.1,HV2.out.1,HV2.out.2.1]at h2;rw[h2]at h;cases h);go_wp2_with fail;refine yJ (v:=.tuple #[dyA (0,0),dyA (0,0),.bool false]) (by simp[results,Tryz.results93,go_sem,z0,z1,z2,z3,q0,q1,q2,q3,dyA]) rfl ?_
  exact⟨(0,0),(0,0),false,rfl,.inr ⟨rfl,rfl,rfl,HE.out⟩,HFin.out _ _ _ _ _ F7.out⟩
 have HSw:=Hh (show SwT c (T1,P1) (T2,P2) true from .inl ⟨rfl,_,_,⟨HIs2.out.1,HIs2.out.2,HV1.out.2.2.symm,HV2.out.2.2.symm,by
  refine eq_true_of_ne_false λe=>hr0 (HRes.out.2 ?_)
  rw[HV1.out.1,HV1.out.2.1,HV2.out.1,HV2.out.2.1];exact e⟩,by rw[HV1.out.1,HV1.out.2.1],by rw[HV2.out.1,HV2.out.2.1]⟩)
 go_wp2_with fail;have HS:=Hh (λW (fr:Fr (λq=>q=w.heap.size\/q=w.heap.size+1) w7 W)=>show W.cell? ⟨b4,0,none⟩=some (.int .i64 T1)/\W.cell? ⟨b4,1,none⟩=some (.int .i64 (P1:Int))/\W.cell? ⟨b6,0,none⟩=some (.int .i64 T2)/\W.cell? ⟨b6,1,none⟩=some (.int .i64 (P2:Int))from by
  obtain⟨d0,d1⟩:=HD4.out w7 (F46.out.trans F67.out (λ_ _ q=>q));obtain⟨d2,d3⟩:=HD6.out w7 F67.out;have h4:=HB4.out.1;have h6:=HB6.out.1;have hs:=HS1.out;exact⟨fr.cell d0 (λe=>by have e:b4=w.heap.size\/b4=w.heap.size+1:=e;omega),fr.cell d1 (λe=>by have e:b4=w.heap.size\/b4=w.heap.size+1:=e;omega),fr.cell d2 (λe=>by have e:b6=w.heap.size\/b6=w.heap.size+1:=e;omega),fr.cell d3 (λe=>by have e:b6=w.heap.size\/b6=w.heap.size+1:=e;omega)⟩)
 have k0:Fr (λq=>q=w.heap.size\/q=w.heap.size+1) w7 w7.drew:=(Fr.refl _ w7).drew;have HA:=Hh (λW (fr:Fr (λq=>q=w.heap.size\/q=w.heap.size+1) w7 W)=>((fr.setCell ⟨w.heap.size,0,none⟩ (.int .i64 T1) (λ_=>.inl rfl)).setCell ⟨w.heap.size,1,none⟩ (.int .i64 (P1:Int)) (λ_=>.inl rfl):Fr (λq=>q=w.heap.size\/q=w.heap.size+1) w7 ((W.setCell ⟨w.heap.size,0,none⟩ (.int .i64 T1)).setCell ⟨w.heap.size,1,none⟩ (.int .i64 (P1:Int)))));have HBq:=Hh (λW (fr:Fr (λq=>q=w.heap.size\/q=w.heap.size+1) w7 W)=>((fr.setCell ⟨w.heap.size+1,0,none⟩ (.int .i64 T2) (λ_=>.inr rfl)).setCell ⟨w.heap.size+1,1,none⟩ (.int .i64 (P2:Int)) (λ_=>.inr rfl):Fr (λq=>q=w.heap.size\/q=w.heap.size+1) w7 ((W.setCell ⟨w.heap.size+1,0,none⟩ (.int .i64 T2)).setCell ⟨w.heap.size+1,1,none⟩ (.int .i64 (P2:Int)))));have k1:=HA.out w7 (Fr.refl _ _);have k2:=HA.out w7.drew k0;have k3:=k1.drew;have k4:=HBq.out w7 (Fr.refl _ _);have k5:=HBq.out w7.drew k0;have k6:=k4.drew;have k7:=HBq.out _ k1;have k8:=HBq.out _ k2;have k9:=HBq.out _ k3;have k10:=k7.drew;have k11:=HA.out _ k4;have k12:=HA.out _ k5;have k13:=HA.out _ k6;have k14:=k11.drew;clear hr0;go_region_held3 (λ(W:World)=>W.cell? ⟨b4,0,none⟩=some (.int .i64 T1)/\W.cell? ⟨b4,1,none⟩=some (.int .i64 (P1:Int))/\W.cell? ⟨b6,0,none⟩=some (.int .i64 T2)/\W.cell? ⟨b6,1,none⟩=some (.int .i64 (P2:Int)))
  (exact HS.out _ (by assumption))
  (first|fail)
 all_goals
  go_wp2_with fail;refine yJ (v:=.tuple #[dyA (T1,P1),dyA (T2,P2),.bool true]) (by simp[results,Tryz.results93,go_sem,z0,z1,z2,z3,q0,q1,q2,q3,dyA]) rfl ?_
  exact⟨(T1,P1),(T2,P2),true,rfl,HSw.out,by first|exact HFin.out _ _ _ _ _ F7.out|exact(HFin.out _ _ _ _ _ F7.out).drew|exact HFin.out _ _ _ _ _ F7.out.drew⟩
 end Go.Proofs.YtlapkmhemepcaaaGreatDoor
namespace Go.Proofs.YtlapkmhemepcaaaGreatDoor
open Go.RowKit
def SwF (g:Bool)(Fi:List (List Int × List Int))(x y:Int × Nat)(ok:Bool):Prop:=(g=true/\SwT (canC (zb7 (natF Fi))) x y ok)\/(g=false/\ok=false/\x=(0,0)/\y=(0,0))
theorem SwF.one {g ok ok':Bool}{Fi:List (List Int × List Int)}{x y x' y':Int × Nat}(h:SwF g Fi x y ok)(h':SwF g Fi x' y' ok'):x=x'/\y=y'/\ok=ok':=by rcases h with ⟨e,h⟩|⟨e,e1,e2,e3⟩;{rcases h' with ⟨_,h'⟩|⟨f,_⟩;{exact h.one h'};{rw[e]at f;cases f}};{rcases h' with ⟨f,_⟩|⟨_,f1,f2,f3⟩;{rw[e]at f;cases f};{exact⟨e2.trans f2.symm,e3.trans f3.symm,e1.trans f1.symm⟩}}
def zzz (g:Bool)(Fi:List (List Int × List Int))(w:World)(e:Ending)(w':World):Prop:=∃(x y:Int × Nat) (ok:Bool),e=.returned (.tuple #[dyA x,dyA y,.bool ok])/\SwF g Fi x y ok/\Fr NoM w w'
theorem zha {R:Nat->Prop}(nv:Value)(Fi:List (List Int × List Int))(w:World)(h:NodeL R encI w nv Fi)(g:Bool)(hg:g=true↔zd6 Fi) :
  Calls Tryz.prog 44 #[.agg #[nv]] w λe w'=>zzz g Fi w e w':=by
 obtain⟨w1,hw1⟩:=eX (((w.alloc (.cells #[nv] 26)).alloc (.cells #[.int .i64 0,.int .i64 0] 29)).alloc (.cells #[.int .i64 0,.int .i64 0] 29));have f1:Fr NoM w w1:=by rw[hw1];exact(((nW w).alloc _).alloc _).alloc _
 have hs1:w1.heap.size=w.heap.size+3:=by rw[hw1];simp
 have e0:w1.heap[w.heap.size]?=some (.cells #[nv] 26 (0,0)):=by rw[hw1];exact(((nW _).alloc _).alloc _).heap (xJ w _) id
 have e1:w1.heap[w.heap.size+1]?=some (.cells #[.int .i64 0,.int .i64 0] 29 (0,0)):=by
  have h:=xJ (w.alloc (.cells #[nv] 26)) (.cells #[.int .i64 0,.int .i64 0] 29);rw[xZ]at h;rw[hw1];exact((nW _).alloc _).heap h id
 have e2:w1.heap[w.heap.size+1+1]?=some (.cells #[.int .i64 0,.int .i64 0] 29 (0,0)):=by
  have h:=xJ ((w.alloc (.cells #[nv] 26)).alloc (.cells #[.int .i64 0,.int .i64 0] 29)) (.cells #[.int .i64 0,.int .i64 0] 29);rw[xZ,xZ]at h;rw[hw1];exact h
 have HK:=Hh (λW (f:Fr NoM w1 W)=>show W.cell? ⟨w.heap.size,0,none⟩=some nv from by
  have h0:=f.heap e0 id;rw[xX W _ 0 _ _ _ h0];rfl)
 have HR:=Hh (λW (f:Fr NoM w1 W)=>show(W.cell? ⟨w.heap.size+1,0,none⟩=some (.int .i64 0)/\W.cell? ⟨w.heap.size+1,1,none⟩=some (.int .i64 0)/\W.cell? ⟨w.heap.size+1+1,0,none⟩=some (.int .i64 0)/\W.cell? ⟨w.heap.size+1+1,1,none⟩=some (.int .i64 0)) ∧
   W.frozen? ⟨w.heap.size+1,0,none⟩=false/\W.frozen? ⟨w.heap.size+1,1,none⟩=false/\W.frozen? ⟨w.heap.size+1+1,0,none⟩=false/\W.frozen? ⟨w.heap.size+1+1,1,none⟩=false from by
  have h:=f.heap e1 id;have h':=f.heap e2 id;exact⟨⟨by rw[xX W _ 0 _ _ _ h];rfl,by rw[xX W _ 1 _ _ _ h];rfl,by rw[xX W _ 0 _ _ _ h'];rfl,by rw[xX W _ 1 _ _ _ h'];rfl⟩,by simp[World.frozen?,h],by simp[World.frozen?,h],by simp[World.frozen?,h'],by simp[World.frozen?,h']⟩)
 have HFin:=Hh (λ(W:World) (y0 y1 y2 y3:Value) (f:Fr NoM w1 W)=>(((((f1.trans f (λ_ _ q=>q)).setCell ⟨w.heap.size+1,0,none⟩ y0 (λh=>by have h:w.heap.size+1<w.heap.size:=h;omega)).setCell ⟨w.heap.size+1,1,none⟩ y1 (λh=>by have h:w.heap.size+1<w.heap.size:=h;omega)).setCell ⟨w.heap.size+1+1,0,none⟩ y2 (λh=>by have h:w.heap.size+1+1<w.heap.size:=h;omega)).setCell ⟨w.heap.size+1+1,1,none⟩ y3 (λh=>by have h:w.heap.size+1+1<w.heap.size:=h;omega):Fr NoM w ((((W.setCell ⟨w.heap.size+1,0,none⟩ y0).setCell ⟨w.heap.size+1,1,none⟩ y1).setCell ⟨w.heap.size+1+1,0,none⟩ y2).setCell ⟨w.heap.size+1+1,1,none⟩ y3)));have HS1:=Hh hs1;have HG:=Hh hg;have HN:=Hh (h.low.fr0 f1);have HSig:=Hh (zhv nv Fi w1 (h.fr0 f1) g hg);obtain⟨na,nc,rfl,z⟩:=id h;clear z h f1 hs1 e0 e1 e2 hg;have k0:=HK.out w1 (Fr.refl _ _);go_enter Tryz.func44,Tryz.ntmps44;go_wp2_with fail;rw[<-hw1];clear hw1;(with_reducible refine HSig.out.mono ?_);rintro e w2 ⟨rfl,f2⟩;have HF2:=Hh f2;clear f2 k0;cases g with
 | false =>
  obtain⟨⟨z0,z1,z2,z3⟩,q0,q1,q2,q3⟩:=HR.out w2 HF2.out;go_wp2;refine yJ (v:=.tuple #[dyA (0,0),dyA (0,0),.bool false]) (by simp[results,Tryz.results44,go_sem,z0,z1,z2,z3,q0,q1,q2,q3,dyA]) rfl ?_
  exact⟨(0,0),(0,0),false,rfl,.inr ⟨rfl,rfl,rfl,rfl⟩,HFin.out _ _ _ _ _ HF2.out⟩
 | true =>
  obtain⟨Fs,rfl⟩:=zht (HG.out.1 rfl);have hgd:=HG.out.1 rfl;have k0:=HK.out w2 HF2.out;go_wp2_with fail;refine(zh3 w2).mono ?_
  rintro e w3 ⟨rfl,hp3,hmaps,f3⟩;obtain⟨pb,hpb⟩:=eX (w2.heap.size+5);obtain⟨ob,hob⟩:=eX (w2.heap.size+1);obtain⟨sb,hsb⟩:=eX (w2.heap.size+2);have hmap:=hmaps 2 (by omega);have hmapo:=hmaps 1 (by omega);rw[<-hob]at hmapo hp3;rw[<-hsb]at hmap hp3;rw[<-hpb]at hp3 ⊢;obtain⟨ms,hms⟩:=eX (Value.map (some (w2.heap.size+3)));obtain⟨mn,hmn⟩:=eX (Value.map (some (w2.heap.size+4)));rw[<-hms,<-hmn]at hp3;clear hmaps hms hmn;have hw12:w.heap.size+3<=w2.heap.size:=by have:=HF2.out.size;have:=HS1.out;omega
  have hf13:=HF2.out.trans f3 (λ_ _ q=>q);have hp0:=hp3.low;have HMge:=Hh (show ∀q,(λq=>(q=w2.heap.size\/q=pb)/\q<w3.heap.size) q->w2.heap.size<=q/\q≠sb/\q≠ob from λq hq=>by
   rcases hq.1 with e|e <;> omega)
  have HCn:=Hh (zpz pb ob sb ms mn (.slice na (i2 Fs).length nc) Fs w3 hp0 (λq hq=>⟨hq.2,(HMge.out q hq).2.1,(HMge.out q hq).2.2⟩) (λq hq=>hq.1) ⟨#[],0,hmapo,by simp,by simp,by simp⟩ ⟨#[],0,hmap,by simp,by simp,by simp⟩ (by omega) (HN.out.fr0 hf13).ofI (λk hk hm=>by have:=(HMge.out k hm).1;have hk:k<w.heap.size:=hk;omega) hgd);have HIn:=Hh (λW (f:Fr (λq=>((q=w2.heap.size\/q=pb)/\q<w3.heap.size)\/q=ob\/q=sb) w3 W)=>(hf13.trans f (λq hq h=>by
   have h2:=HF2.out.size;rcases h with h|h
   ·have:=(HMge.out q h).1;omega
   ·omega):Fr NoM w1 W))
  have HF3:=Hh hf13;have HOb:=Hh (show w1.heap.size<=ob from by have:=HF2.out.size;omega);clear hp3 hp0 hmap hmapo hpb hob hsb hw12 hf13 f3 k0 hgd;have k0:=HK.out w3 HF3.out;go_wp2_with fail;(with_reducible refine HCn.out.mono ?_);rintro e wc ⟨i,V,B,M,I,fo,rfl,st,ok,mo',od,hm,hi',hl,hi,hc,kc⟩;have HSw:=Hh (zot pb ob (.map (some sb)) ms mn V B ok.book (λh=>(hm ob h).1.2.1 rfl) (λh=>(hi' ob h).1.2.1 rfl) i hi (by rw[hc];exact(zi0 _).1) (by omega) fo wc st mo' od (λq h=>h.elim (λh=>(hm q h).1.1) (λh=>(hi' q h).1.1)));have HEn:=Hh (HIn.out wc kc);have HC:=Hh hc;clear st ok mo' od hm hi' hl hi hc kc k0;go_wp2_with fail;(with_reducible refine HSw.out.mono ?_);rintro e w5 ⟨x,y,okx,rfl,hs,f5⟩;have F5:=Hh (HEn.out.trans f5 (λq hq e=>by have e:q=ob:=e;have:=HOb.out;omega));have HT:=Hh (show SwF true (i2 Fs) x y okx from .inl ⟨rfl,by rw[zfv,<-HC.out];exact hs⟩);obtain⟨⟨z0,z1,z2,z3⟩,q0,q1,q2,q3⟩:=HR.out w5 F5.out;obtain⟨x1,x2⟩:=x;obtain⟨y1,y2⟩:=y;unfold dyA;clear f5 hs;go_wp2;refine yJ (v:=.tuple #[dyA (x1,x2),dyA (y1,y2),.bool okx]) (by simp[results,Tryz.results44,go_sem,z0,z1,z2,z3,q0,q1,q2,q3,dyA]) rfl ?_
  exact⟨(x1,x2),(y1,y2),okx,rfl,HT.out,HFin.out _ _ _ _ _ F5.out⟩
