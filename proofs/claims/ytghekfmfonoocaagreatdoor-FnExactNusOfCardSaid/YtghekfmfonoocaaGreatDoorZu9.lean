import Derived.Test.YtghekfmfonoocaaGreatDoorZup
/- Lemmas. -/
set_option linter.all false
set_option maxHeartbeats 16000000
set_option maxRecDepth 8000
namespace Go.Proofs.YtghekfmfonoocaaGreatDoor
open Go.RowKit
section
variable {U:List Nat}{pb sb:Nat}{mo mc ms:Value}{w W w':World}{V V1:List PL}{BV BV1:List Nat}{M I M1 I1:Nat->Prop}{f f1:Nat->Option Nat}
theorem NegPost.step {c:Nat}{e:Ending}(o:PNx sb w V M I W V1 M1 I1)(h:NegPost U pb sb mo mc ms W V1 M1 I1 c e w'):NegPost U pb sb mo mc ms w V M I c e w':=by obtain⟨n,f,a,d,b,g,i,j,k,l,m⟩:=h;exact⟨n,f,a,d,b,g,i,j,o.trans k,l,m⟩
theorem NegPost.of0 {c:Nat}{e:Ending}(b:Fr NoM w W)(a:NegPost U pb sb mo mc ms W V M I c e w'):NegPost U pb sb mo mc ms w V M I c e w':=a.step (PNx.of0 b)
theorem zd2 (G:U.length<1000000)(b c:Option Addr)(i j d e:Nat){L R g h:List Nat}(o:i=L.length)(p:j=R.length)(a:PSt encN NegMO U pb sb mo mc ms (.map (some sb)) W V BV M I f)(s:Nats W (.slice b i d) L)(u:Nats W (.slice c j e) R) (l:RowC V L g) (m:RowC V R h) (v:mkC g h∈U) (J:L.length<=1000) (K:R.length<=1000) : Calls Tryz.prog 108 #[.pointer (some ⟨pb,0,none⟩),.slice b i d,.slice c j e] W λk n=>NegPost U pb sb mo mc ms W V M I (mkC g h) k n:=by subst o;subst p;have H:=a.len;refine(zz4 pb V BV L R mo mc ms (.map (some sb)) b c d e W a.pool s u l.1 m.1 (by omega) (by omega) (by omega) (λC y=>by have:=(zgu a.ok).lt V.length (xW _) C y;omega)).mono ?_;rintro k n ⟨rfl,F,E,B,t,r,q⟩;obtain⟨D,A,z,w⟩:=a.node (λa x=>a.mono x) l m v B t r q;exact⟨_,_,_,_,_,_,rfl,D,A,z,w⟩
end
def ypc (U:List Nat)(pb sb:Nat)(f e g:Value)(t:Int)(p:Nat):Prop:=∀(d:List PL) (h:List Nat) (c b:Nat->Prop) (j:Nat->Option Nat) (a:World),PSt encN NegMO U pb sb f e g (.map (some sb)) a d h c b j ->
  Calls Tryz.prog 105 #[.pointer (some ⟨pb,0,none⟩),.agg #[.int .i64 t,.int .i64 (p:Int)]] a λi k=>NegPost U pb sb f e g a d c b (numC t p) i k
theorem ybe {U:List Nat}(ay:U.length<1000000)(pb sb:Nat)(k j l:Value):∀(af:Nat) (c:Int) (e:Nat),e<af->Red c e->c.natAbs<=1000000->e<=16->(∀a7,SubC (numC c e) a7->a7∈U)->ypc U pb sb k j l c e:=by
 intro af;induction af with
 | zero=>intro c e a;omega
 | succ af ih =>
  intro c e hn hr ht hp hU r BV m w a8 E ai;obtain⟨i,X⟩:=eX (E.alloc (.cells #[.int .i64 c,.int .i64 (e:Int)] 29));have F:Fr NoM E i:=by rw[X];exact(nW E).alloc _
  have e1:i.heap[E.heap.size]?=some (.cells #[.int .i64 c,.int .i64 (e:Int)] 29 (0,0)):=by rw[X];exact xJ E _
  have az:=ai.fr0 F;have aF:∀d,m d\/d=sb->d<E.heap.size:=λd hq=>by
   rcases hq with a|a
   ·exact(ai.mlt d a).1
   ·rw[a];exact ai.map.lt
  have HK:=Hh (λb (a8:Fr (λd=>(m d\/d=sb)\/i.heap.size<=d) i b)=>(by
   have t:=(yZ.1 e1).1;have h0:=a8.heap e1 (λa=>by
    rcases a with a|a
    ·have:=aF _ a;omega
    ·omega)
   exact⟨qR h0 rfl,qR h0 rfl⟩:b.cell? ⟨E.heap.size,0,none⟩=some (.int .i64 c)/\b.cell? ⟨E.heap.size,1,none⟩=some (.int .i64 (e:Int))))
  obtain⟨ar,F1,aC,au,HR,HT,HP,HU,Hn⟩:=Hhp9 az F ih ay hr ht hp hU hn;have aW:-1000000<=c/\c<=1000000:=by omega
  have aE:=λ(b:World) (f':Fr NoM i b) (hz:zar∈U)=>zd2 (L:=[]) (R:=[]) ay none none 0 0 0 0 rfl rfl (az.fr0 f') (SliceOf.nil _ _) (SliceOf.nil _ _) (RowC.nil r) (RowC.nil r) (show mkC [] []∈U from hz) (by simp) (by simp)
  have an:=Hh aE;clear ai az aF F e1 ih ay hr ht hp hU hn aE;obtain⟨k0,k1⟩:=HK.o i (Fr.refl _ _);by_cases a1:e=0
  ·have aU:((e:Int) == 0)=true:=by simp[a1]
   have hC:numC c e=intC c:=by rw[a1];rfl
   have ax:=HU.o;rw[hC]at ax ⊢;have ad:=Hh ax;clear hC ax;by_cases a9:c=0
   ·have aV:(c == 0)=true:=by simp[a9]
    have aw:intC c=zar:=by rw[a9];rfl
    have ac:=Hh (an.o i (Fr.refl _ _) (by rw[<-aw];exact ad.o _ .root));rw[aw];clear a1 a9 aw;go_enter Tryz.func105,Tryz.ntmps105;go_wp2_with fail;rw[<-X];clear X;(with_reducible refine ac.o.mono ?_);rintro f v ⟨a2,V',ab,M',I',f',rfl,h2,G,h4,Q⟩;have HE:=Hh (NegPost.of0 F1.o ⟨a2,V',ab,M',I',f',rfl,h2,G,h4,Q⟩:NegPost U pb sb k j l E r m w zar (.returned (.int .i64 (a2:Int))) v);clear h2 G h4 Q;go_wp2_with fail;go_ret;exact HE.o
   ·have aV:(c == 0)=false:=by simp[a9]
    by_cases aX:0<c
    ·obtain⟨u,rfl⟩:∃u:Nat,c=(u:Int):=⟨c.toNat,by omega⟩
     rw[zky];have a5:=ad.o;rw[zky]at a5;have ae:=Hh (λg (hk:g<=u)=>a5 _ (ym8 hk));have ac:=Hh (an.o i (Fr.refl _ _) (ae.o 0 (yK _)));clear a1 a9 a5 ad;go_enter Tryz.func105,Tryz.ntmps105;go_wp2_with fail;rw[<-X];clear X;(with_reducible refine ac.o.mono ?_);rintro f v ⟨a2,V',ab,M',I',f',rfl,h2,G,h4,Q⟩;have F2:=Hh (G.fr.mono (λ_ _ d=>.inl d):Fr (λd=>(m d\/d=sb)\/i.heap.size<=d) i v);have HE:=Hh (⟨a2,V',ab,M',I',f',rfl,h2,G,h4,Q⟩:NegPost U pb sb k j l i r m w (posC 0) (.returned (.int .i64 (a2:Int))) v);clear h2 G h4 Q k0 k1;obtain⟨k0,k1⟩:=HK.o v F2.o;go_wp2_with fail;clear k0 k1;go_loopw [5,35] (λv5 t' b=>∃(g:Nat),t'=.int .i64 g/\g<=u/\NegPost U pb sb k j l i r m w (posC g) (.returned v5) b) (λ_ c _=>u-(intOf c).toNat)
     case atStart=>exact⟨0,rfl,yK _,HE.o⟩
     case round =>
      obtain⟨g,rfl,hk,K,I,B1,W,V,F,he,M,B,t,C⟩:=hrel;obtain⟨S,rfl⟩:=eX wr;have he:=Ending.returned.inj he;subst he;by_cases aT:g<u
      ·have a4:=Hh (zd2 (R:=[]) au.o (some ⟨S.heap.size,0,none⟩) none 1 0 1 0 rfl rfl (M.fr0 ((nW S).alloc (.cells #[.int .i64 (K:Int)] 3))) (SliceOf.one encN S K 3) (SliceOf.nil _ _) ((RowC.nil I).snoc t C) (RowC.nil _) (ae.o (g+1) (by omega)) (by simp) (by simp))
       have ao:=Hh (B.trans (PNx.of0 ((nW S).alloc (.cells #[.int .i64 (K:Int)] 3))));clear M B t C;go_wp2_with fail;(with_reducible refine a4.o.mono ?_);rintro f w8 ⟨i2,n,T,y,x,z,rfl,N,o,A,D⟩;have a3:=Hh (NegPost.step ao.o ⟨i2,n,T,y,x,z,rfl,N,o,A,D⟩:NegPost U pb sb k j l i r m w (posC (g+1)) (.returned (.int .i64 (i2:Int))) w8);clear N o A D;go_wp2;go_roundw
       case rel=>exact⟨g+1,by go_num,by omega,a3.o⟩
       case measure=>simp[intOf];omega
      ·obtain rfl:g=u:=by omega
       have a3:=Hh (NegPost.of0 F1.o ⟨K,I,B1,W,V,F,rfl,M,B,t,C⟩:NegPost U pb sb k j l E r m w (posC g) (.returned (.int .i64 (K:Int))) S);clear M B t C;go_wp2;go_ret;exact a3.o
    ·obtain⟨u,rfl⟩:∃u:Nat,c=-(u:Int):=⟨(-c).toNat,by omega⟩
     rw[zhx];have a5:=ad.o;rw[zhx]at a5;have ae:=Hh (λg (hk:g<=u)=>a5 _ (yge hk));have ac:=Hh (an.o i (Fr.refl _ _) (ae.o 0 (yK _)));clear a1 a9 a5 ad;go_enter Tryz.func105,Tryz.ntmps105;go_wp2_with fail;rw[<-X];clear X;(with_reducible refine ac.o.mono ?_);rintro f v ⟨a2,V',ab,M',I',f',rfl,h2,G,h4,Q⟩;have F2:=Hh (G.fr.mono (λ_ _ d=>.inl d):Fr (λd=>(m d\/d=sb)\/i.heap.size<=d) i v);have HE:=Hh (⟨a2,V',ab,M',I',f',rfl,h2,G,h4,Q⟩:NegPost U pb sb k j l i r m w (zhs 0) (.returned (.int .i64 (a2:Int))) v);clear h2 G h4 Q k0 k1;obtain⟨k0,k1⟩:=HK.o v F2.o;go_wp2_with fail;clear k0 k1;go_loopw [6,52] (λv5 t' b=>∃(g:Nat),t'=.int .i64 g/\g<=u/\NegPost U pb sb k j l i r m w (zhs g) (.returned v5) b) (λ_ c _=>u-(intOf c).toNat)
     case atStart=>exact⟨0,rfl,yK _,HE.o⟩
     case round =>
      obtain⟨g,rfl,hk,K,I,B1,W,V,F,he,M,B,t,C⟩:=hrel;obtain⟨S,rfl⟩:=eX wr;have he:=Ending.returned.inj he;subst he;by_cases aT:g<u
      ·have a4:=Hh (zd2 (L:=[]) au.o none (some ⟨S.heap.size,0,none⟩) 0 1 0 1 rfl rfl (M.fr0 ((nW S).alloc (.cells #[.int .i64 (K:Int)] 3))) (SliceOf.nil _ _) (SliceOf.one encN S K 3) (RowC.nil _) ((RowC.nil I).snoc t C) (ae.o (g+1) (by omega)) (by simp) (by simp))
       have ao:=Hh (B.trans (PNx.of0 ((nW S).alloc (.cells #[.int .i64 (K:Int)] 3))));clear M B t C;go_wp2_with fail;(with_reducible refine a4.o.mono ?_);rintro f w8 ⟨i2,n,T,y,x,z,rfl,N,o,A,D⟩;have a3:=Hh (NegPost.step ao.o ⟨i2,n,T,y,x,z,rfl,N,o,A,D⟩:NegPost U pb sb k j l i r m w (zhs (g+1)) (.returned (.int .i64 (i2:Int))) w8);clear N o A D;go_wp2;go_roundw
       case rel=>exact⟨g+1,by go_num,by omega,a3.o⟩
       case measure=>simp[intOf];omega
      ·obtain rfl:g=u:=by omega
       have a3:=Hh (NegPost.of0 F1.o ⟨K,I,B1,W,V,F,rfl,M,B,t,C⟩:NegPost U pb sb k j l E r m w (zhs g) (.returned (.int .i64 (K:Int))) S);clear M B t C;go_wp2;go_ret;exact a3.o
  ·have ah:0<e:=by have:¬e=0:=a1;omega
   have aU:((e:Int) == 0)=false:=by simp[a1]
   obtain⟨⟨Y,H⟩,al⟩:∃aA,aA=redT (c-1) e:=⟨_,rfl⟩;obtain⟨⟨Z,O⟩,am⟩:∃aA,aA=redT (c+1) e:=⟨_,rfl⟩;have a6:=zz1 HR.o ah;rw[<-al,<-am]at a6;have a6:numC c e=mkC [numC Y H] [numC Z O]:=a6;have J:=zgp HR.o HT.o ah HP.o (c-1) (.inl rfl);have P:=zgp HR.o HT.o ah HP.o (c+1) (.inr rfl);have aO:=Hh (λ(b:World)=>show Calls Tryz.prog 146 #[.int .i64 (c-1),.int .i64 (e:Int)] b λf q=>f=.returned (.tuple #[.agg #[.int .i64 Y,.int .i64 (H:Int)],.bool true])/\Fr NoM b q from by
    have a:=zik (c-1) e b (by omega) (by have:=HP.o;omega) true (by simp[J.1]);unfold lowT at a;rw[<-al]at a;exact a)
   have aP:=Hh (λ(b:World)=>show Calls Tryz.prog 146 #[.int .i64 (c+1),.int .i64 (e:Int)] b λf q=>f=.returned (.tuple #[.agg #[.int .i64 Z,.int .i64 (O:Int)],.bool true])/\Fr NoM b q from by
    have a:=zik (c+1) e b (by omega) (by have:=HP.o;omega) true (by simp[P.1]);unfold lowT at a;rw[<-am]at a;exact a)
   rw[<-al]at J;rw[<-am]at P;have o1:optC (numC c e) (numC Y H):=by rw[a6];exact .inl ((zab _ _ _).2 (by simp))
   have o2:optC (numC c e) (numC Z O):=by rw[a6];exact .inr ((zac _ _ _).2 (by simp))
   obtain⟨aL,aM,aD,aN⟩:=Hhp4 (aC.o Y H (by have:=J.2.1;have:=Hn.o;show H<af;have a:H<e:=J.2.1;omega) J.2.2.1 J.2.2.2 (by have a:H<e:=J.2.1;have:=HP.o;omega) (λa7 ha=>HU.o a7 ((SubC.root.step o1).trans ha))) (aC.o Z O (by have:=Hn.o;have a:O<e:=P.2.1;omega) P.2.2.1 P.2.2.2 (by have a:O<e:=P.2.1;have:=HP.o;omega) (λa7 ha=>HU.o a7 ((SubC.root.step o2).trans ha))) a6 (HU.o _ .root);clear a1 ah al am a6 J P o1 o2;go_enter Tryz.func105,Tryz.ntmps105;go_wp2_with fail;rw[<-X];clear X;(with_reducible refine(aO.o i).mono ?_);rintro f v ⟨rfl,z⟩;have F2:=Hh z;obtain⟨w3,aj⟩:=eX (v.alloc (.cells #[.int .i64 Y,.int .i64 (H:Int)] 29));have f3:Fr NoM i w3:=by rw[aj];exact z.alloc _
   have e3:w3.heap[v.heap.size]?=some (.cells #[.int .i64 Y,.int .i64 (H:Int)] 29 (0,0)):=by rw[aj];exact xJ v _
   have F3:=Hh f3;have E3:=Hh e3;clear z f3 e3 k0 k1;go_upto_region 18 with fail;rw[<-aj];clear aj;obtain⟨k0,k1⟩:=HK.o w3 F3.o.any;go_wp2_with fail;(with_reducible refine(aP.o w3).mono ?_);rintro f w4 ⟨rfl,f4⟩;obtain⟨w5,ak⟩:=eX (w4.alloc (.cells #[.int .i64 Z,.int .i64 (O:Int)] 29));have f5:Fr NoM w3 w5:=by rw[ak];exact f4.alloc _
   have e5:w5.heap[w4.heap.size]?=some (.cells #[.int .i64 Z,.int .i64 (O:Int)] 29 (0,0)):=by rw[ak];exact xJ w4 _
   have av:=f5.heap E3.o id;have HW:=Hh (λb (a8:Fr (λd=>(m d\/d=sb)\/w5.heap.size<=d) w5 b)=>(by
    have l3:=(yZ.1 av).1;have l5:=(yZ.1 e5).1;have z2:=F2.o.size;have z4:=f4.size;have z3:=F3.o.size;have hb:∀d,m d\/d=sb->d<i.heap.size:=λd hq=>by
     rcases hq with a|a
     ·exact(ar.o.mlt d a).1
     ·rw[a];exact ar.o.map.lt
    have G:=a8.heap av (λa=>by
     rcases a with a|a
     ·have:=hb _ a;omega
     ·omega)
    have Q:=a8.heap e5 (λa=>by
     rcases a with a|a
     ·have:=hb _ a;omega
     ·omega)
    exact⟨qR G rfl,qR G rfl,qR Q rfl,qR Q rfl⟩:b.cell? ⟨v.heap.size,0,none⟩=some (.int .i64 Y)/\b.cell? ⟨v.heap.size,1,none⟩=some (.int .i64 (H:Int))/\b.cell? ⟨w4.heap.size,0,none⟩=some (.int .i64 Z)/\b.cell? ⟨w4.heap.size,1,none⟩=some (.int .i64 (O:Int))))
   have F5:=Hh (F3.o.trans f5 kP);clear f4 f5 e5 av k0 k1;go_upto_region 19 with fail;rw[<-ak];clear ak;have K0:Fr NoM w5 w5.drew:=(nW w5).drew;obtain⟨i0,K,i2,i3⟩:=HW.o w5.drew K0.any;have aG:=Hh (λb (ff:Fr NoM w5 b)=>show Calls Tryz.prog 105 #[.pointer (some ⟨pb,0,none⟩),.agg #[.int .i64 Y,.int .i64 (H:Int)]] b λf q=>NegPost U pb sb k j l b r m w (numC Y H) f q from aL.o r BV m w a8 b (ar.o.fr0 (F5.o.trans ff kP)));have aB:=Hh (λ(b:World) (I:List PL) (B1:List Nat) (W V:Nat->Prop) (F:Nat->Option Nat) (a:PSt encN NegMO U pb sb k j l (.map (some sb)) b I B1 W V F)=>show Calls Tryz.prog 105 #[.pointer (some ⟨pb,0,none⟩),.agg #[.int .i64 Z,.int .i64 (O:Int)]] b λf q=>NegPost U pb sb k j l b I W V (numC Z O) f q from aM.o I B1 W V F b a);have a4:=Hh (λ(b:World) (n:List PL) (T:List Nat) (y x:Nat->Prop) (z:Nat->Option Nat) (J P s p:Nat) (a:PSt encN NegMO U pb sb k j l (.map (some sb)) b n T y x z) (n1:Nats b (.slice (some ⟨J,0,none⟩) 1 1) [s]) (n2:Nats b (.slice (some ⟨P,0,none⟩) 1 1) [p]) (t:s<n.length) (C:(za0 n).getD s 0=numC Y H) (A:p<n.length) (D:(za0 n).getD p 0=numC Z O) =>
    show Calls Tryz.prog 108 #[.pointer (some ⟨pb,0,none⟩),.slice (some ⟨J,0,none⟩) 1 1,.slice (some ⟨P,0,none⟩) 1 1] b λf q=>NegPost U pb sb k j l b n y x (numC c e) f q from by
     rw[aD.o];exact zd2 au.o (some ⟨J,0,none⟩) (some ⟨P,0,none⟩) 1 1 1 1 rfl rfl a n1 n2 ((RowC.nil n).snoc t C) ((RowC.nil n).snoc A D) (by rw[<-aD.o];exact aN.o) (by simp) (by simp))
   have aK:=Hh (F1.o.trans (F5.o.trans K0 kP) kP);go_region_law (first
    | (go_simp;first
     | (go_at_call 105;(with_reducible refine(aG.o _ K0).mono ?_);rintro f wa ⟨s,I,B1,W,V,F,rfl,M,B,t,C⟩;obtain⟨j0,j1,j2,j3⟩:=HW.o wa (K0.any.trans (B.fr.mono (λ_ _ d=>.inl d)) kP);have jj:=(λaa=>HW.o (wa.alloc aa) ((K0.any.trans (B.fr.mono (λ_ _ d=>.inl d)) kP).alloc aa));have j4:=(λaa=>(jj aa).2.2.1);have j5:=(λaa=>(jj aa).2.2.2);clear jj;obtain⟨ap,ag,a0⟩:=Hhp3 ((PNx.of0 aK.o).trans B) M (And.intro t C);clear M B t C)
     | (go_at_call 105;(with_reducible refine(aB.o (wa.alloc (.cells #[.int .i64 (s:Int)] 3)) I B1 W V F (ag.o.fr0 ((nW wa).alloc _))).mono ?_);rintro f h ⟨p,n,T,y,x,z,rfl,N,o,A,D⟩;have aQ:=Hh (a4.o (h.alloc (.cells #[.int .i64 (p:Int)] 3)) n T y x z wa.heap.size h.heap.size s p (N.fr0 ((nW h).alloc _)) (((SliceOf.one encN wa s 3).fr o.fr (λ_ d hq a=>by { have hq:wa.heap.size=d:=yY hq;have:=ag.o.map.lt;rcases a with a|a;{ have:=(ag.o.mlt d a).1;omega };{ omega } })).fr0 ((nW h).alloc _)) (SliceOf.one encN h p 3) (by have:=o.pre.length_le;have:=a0.o.1;omega) (by rw[zai o.pre a0.o.1];exact a0.o.2) A D);have aH:=Hh (λ(f:Ending) (q:World) (a:NegPost U pb sb k j l (h.alloc (.cells #[.int .i64 (p:Int)] 3)) n y x (numC c e) f q)=>(NegPost.step (((ap.o.trans (PNx.of0 ((nW wa).alloc _))).trans o).trans (PNx.of0 ((nW h).alloc _))) a:NegPost U pb sb k j l E r m w (numC c e) f q));clear N o A D)
     | (go_at_call 105;(with_reducible refine(aB.o wa I B1 W V F ag.o).mono ?_);rintro f h ⟨p,n,T,y,x,z,rfl,N,o,A,D⟩;obtain⟨aR,aI,aS,aJ⟩:=Hhp4 (a4.o ((h.alloc (.cells #[.int .i64 (s:Int)] 3)).alloc (.cells #[.int .i64 (p:Int)] 3)) n T y x z h.heap.size (h.heap.size+1) s p (N.fr0 (((nW h).alloc _).alloc _)) ((SliceOf.one encN h s 3).fr0 ((nW _).alloc _)) (by have a:=SliceOf.one encN (h.alloc (.cells #[.int .i64 (s:Int)] 3)) p 3;rw[xZ]at a;exact a) (by have:=o.pre.length_le;have:=a0.o.1;omega) (by rw[zai o.pre a0.o.1];exact a0.o.2) A D) (λ(f:Ending) (q:World) (a:NegPost U pb sb k j l ((h.alloc (.cells #[.int .i64 (s:Int)] 3)).alloc (.cells #[.int .i64 (p:Int)] 3)) n y x (numC c e) f q)=>(NegPost.step ((ap.o.trans o).trans (PNx.of0 (((nW h).alloc _).alloc _))) a:NegPost U pb sb k j l E r m w (numC c e) f q)) (a4.o ((h.alloc (.cells #[.int .i64 (p:Int)] 3)).alloc (.cells #[.int .i64 (s:Int)] 3)) n T y x z (h.heap.size+1) h.heap.size s p (N.fr0 (((nW h).alloc _).alloc _)) (by have a:=SliceOf.one encN (h.alloc (.cells #[.int .i64 (p:Int)] 3)) s 3;rw[xZ]at a;exact a) ((SliceOf.one encN h p 3).fr0 ((nW _).alloc _)) (by have:=o.pre.length_le;have:=a0.o.1;omega) (by rw[zai o.pre a0.o.1];exact a0.o.2) A D) (λ(f:Ending) (q:World) (a:NegPost U pb sb k j l ((h.alloc (.cells #[.int .i64 (p:Int)] 3)).alloc (.cells #[.int .i64 (s:Int)] 3)) n y x (numC c e) f q)=>(NegPost.step ((ap.o.trans o).trans (PNx.of0 (((nW h).alloc _).alloc _))) a:NegPost U pb sb k j l E r m w (numC c e) f q));clear N o A D)
     | (go_at_call 108;(with_reducible refine aQ.o.mono ?_);rintro f wc hP;have aq:=Hh (aH.o f wc hP);obtain⟨p3,V3,B3,M3,I3,f3,rfl,zz⟩:=hP;clear zz)
     | (go_at_call 108;(with_reducible refine aR.o.mono ?_);rintro f wc hP;have aq:=Hh (aI.o f wc hP);obtain⟨p3,V3,B3,M3,I3,f3,rfl,zz⟩:=hP;clear zz)
     | (go_at_call 108;(with_reducible refine aS.o.mono ?_);rintro f wc hP;have aq:=Hh (aJ.o f wc hP);obtain⟨p3,V3,B3,M3,I3,f3,rfl,zz⟩:=hP;clear zz)
     | fail)
    | fail)
   all_goals
    go_wp2;go_ret;exact aq.o
