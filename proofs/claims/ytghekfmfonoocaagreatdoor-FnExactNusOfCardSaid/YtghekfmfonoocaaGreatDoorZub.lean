import Derived.Test.YtghekfmfonoocaaGreatDoorZua
/- Lemmas. -/
set_option linter.all false
set_option maxHeartbeats 8000000
set_option maxRecDepth 4000
namespace Go.Proofs.YtghekfmfonoocaaGreatDoor
open Go.RowKit
theorem zkp {Fi:List (List Int × List Int)}(h:zah Fi=false):¬zbh Fi:=λq=>by rw[q.1]at h;cases h
theorem zu7 {b:List (List Int × List Int)}{i:Nat}{y:List Int × List Int}(c:b[i]?=some y)(a:zaq 0 ((i:Int)-1) none y.1=false\/zaq 0 ((i:Int)-1) none y.2=false):¬zbh b:=λf=>by obtain⟨d,e⟩:=f.2.1 i y (xV.1 c).1 c;rcases a with a|a;{rw[d]at a;cases a};{rw[e]at a;cases a}
def optB (i:Nat)(L:List Int):Bool:=decide (L.length<=24) && zaq 0 ((i:Int)-1) none L
theorem zn7 {Fi:List (List Int × List Int)}{i:Nat}{y:List Int × List Int}(hy:Fi[i]?=some y)(h:optB i y.1=false\/optB i y.2=false):¬zbh Fi:=λq=>by have hf:=q.1;unfold zah at hf;rw[kV]at hf;obtain⟨l1,l2⟩:=hf.2.2 y (xK hy);unfold optB at h;rw[vJ l1,vJ l2,Bool.true_and,Bool.true_and]at h;exact zu7 hy h q
theorem yh8 {a:List (List Int × List Int)}(l:1<=a.length)(j:a.length<=120)(h:∀(f:Nat) (d:List Int × List Int),f<a.length->a[f]?=some d->optB f d.1=true/\optB f d.2=true) : ∃e:List PL,a=i2 e/\zah e=true/\OptsOK e/\BookUp e:=by have m:risI a a.length:=λf d i g=>by{obtain⟨b,c⟩:=h f d i g;unfold optB at b c;rw[Bool.and_eq_true]at b c;exact⟨b.2,c.2⟩};obtain⟨e,rfl,k,n⟩:=znp m;refine⟨e,rfl,?_,k,n⟩;rw[<-zhc];refine yff j l λo d g=>?_;obtain⟨b,c⟩:=h o d (xV.1 g).1 g;unfold optB at b c;rw[Bool.and_eq_true,kV]at b c;exact⟨b.1,c.1⟩
theorem yak {Fs:List PL}(hp:0<Fs.length):zs6 Fs Fs.length (Fs.length-1)=zam Fs (Fs.length-1):=by unfold zs6 zam;rw[show Fs.length-1+1=Fs.length from by omega]
theorem yg9 {Fs:List PL}(h:0<Fs.length):(false∈zs6 Fs Fs.length (Fs.length-1))↔¬ze9 Fs:=by rw[yak h];have k:=zkg Fs (Fs.length-1);constructor;{intro a j;obtain⟨i,f,e⟩:=uY a;have:=j i (by omega);rw[xY,xQ f,e]at this;cases this};{intro a;refine Classical.byContradiction λg=>a λd l=>?_;(have c:d<(zam Fs (Fs.length-1)).length:=by omega);cases b:(zam Fs (Fs.length-1))[d]with| true=>rw[xY,xQ c,b];rfl| false=>exact absurd (b ▸ y9 c) g}
theorem yfn (a:World)(b c d f:Value)(e:TypeId):∃g h:Nat,Value.pointer (some ⟨a.heap.size,0,none⟩)=.pointer (some ⟨g,0,none⟩)/\Value.pointer (some ⟨a.heap.size+1,0,none⟩)=.pointer (some ⟨h,0,none⟩) ∧ (((a.alloc (.cells #[b,c] e)).alloc (.cells #[d,f] e)).drew).heap[g]?=some (.cells #[b,c] e (0,0))/\(((a.alloc (.cells #[b,c] e)).alloc (.cells #[d,f] e)).drew).heap[h]?=some (.cells #[d,f] e (0,0)) ∧ Fr NoM a (((a.alloc (.cells #[b,c] e)).alloc (.cells #[d,f] e)).drew):=by refine⟨_,_,rfl,rfl,?_,?_,(((nW a).alloc _).alloc _).drew⟩;{exact((nW (a.alloc (.cells #[b,c] e))).alloc _).heap (xJ a _) id};{have i:=xJ (a.alloc (.cells #[b,c] e)) (.cells #[d,f] e);rw[xZ]at i;exact i}
theorem cut_two' (a:World)(b d c f:Value)(e:TypeId):∃g h:Nat,Value.pointer (some ⟨a.heap.size+1,0,none⟩)=.pointer (some ⟨g,0,none⟩)/\Value.pointer (some ⟨a.heap.size,0,none⟩)=.pointer (some ⟨h,0,none⟩) ∧ (((a.alloc (.cells #[c,f] e)).alloc (.cells #[b,d] e)).drew).heap[g]?=some (.cells #[b,d] e (0,0))/\(((a.alloc (.cells #[c,f] e)).alloc (.cells #[b,d] e)).drew).heap[h]?=some (.cells #[c,f] e (0,0)) ∧ Fr NoM a (((a.alloc (.cells #[c,f] e)).alloc (.cells #[b,d] e)).drew):=by obtain⟨g,h,i,j,k,l,m⟩:=yfn a c f b d e;exact⟨h,g,j,i,l,k,m⟩
theorem zf7 (w:World)(a b c:Value)(e:TypeId):(w.alloc (.cells #[a,b,c] e)).cell? ⟨w.heap.size,0,none⟩=some a/\(w.alloc (.cells #[a,b,c] e)).cell? ⟨w.heap.size,1,none⟩=some b/\(w.alloc (.cells #[a,b,c] e)).cell? ⟨w.heap.size,2,none⟩=some c:=by have d:=xJ w (.cells #[a,b,c] e);exact⟨qR d rfl,qR d rfl,qR d rfl⟩
theorem zf5 {R:Nat->Prop}(nv:Value)(I:List (List Int × List Int))(w:World)(F:NodeL R encI w nv I)(g:Bool)(hg:g=true↔zbh I) :
  Calls Tryz.prog 37 #[.agg #[nv]] w λf o=>f=.returned (.bool g)/\Fr NoM w o:=by
 have hN:=F.low;obtain⟨q,t,rfl,M,N,h3⟩:=id F;clear F M N;have W:¬zbh I->g=false:=λn=>by
  cases a3:g with
  | false=>rfl
  | true=>exact absurd (hg.1 a3) n
 by_cases hp:I.length<1
 ·have s:=W (zkp (vV λn=>by have:=n.2.1;omega))
  have HF:=Hh s;clear s W hg hN h3;go_enter Tryz.func37,Tryz.ntmps37;go_wp2_with fail;go_ret;exact⟨by rw[HF.o];rfl,(nW w).alloc _⟩
 ·by_cases bq:120<I.length
  ·have s:=W (zkp (vV λn=>by have:=n.1;omega))
   have HF:=Hh s;clear s W hg hN h3;go_enter Tryz.func37,Tryz.ntmps37;go_wp2_with fail;go_ret;exact⟨by rw[HF.o];rfl,(nW w).alloc _⟩
  ·obtain⟨J,ai⟩:=eX I.length
   rw[<-ai]at hN hp bq ⊢;obtain⟨HG,ac,HN,H3,ae⟩:=Hhp5 hg W hN h3 ai;clear hg W hN h3 ai;go_enter Tryz.func37,Tryz.ntmps37;go_wp2_with fail;obtain⟨w1,ab⟩:=eX (w.alloc (.cells #[.slice q J t] 26));have aV:Fr NoM w w1:=by rw[ab];exact(nW w).alloc _
   have aS:w1.heap[w.heap.size]?=some (.cells #[.slice q J t] 26 (0,0)):=by rw[ab];exact xJ w _
   rw[<-ab];have HK:=Hh (λa (h:Fr NoM w1 a)=>show a.cell? ⟨w.heap.size,0,none⟩=some (.slice q J t)from by rw[xX a _ 0 _ _ _ (h.heap aS id)];rfl);have U:=Hh aV;clear aV aS ab;go_loopw [22] (λS a=>∃j:Nat,S=.int .i64 j/\j<=J/\(∀(i:Nat) (b:List Int × List Int),i<j->I[i]?=some b->optB i b.1=true/\optB i b.2=true)/\Fr NoM w1 a) (λS _=>J-(intOf S).toNat)
   case atStart=>exact⟨0,rfl,yK _,by intros;omega,Fr.refl _ _⟩
   case round =>
    obtain⟨j,rfl,hi,a2,X⟩:=hrel;obtain⟨l,rfl⟩:=eX wr;have T:=Hh a2;have a1:=Hh X;clear a2 X;by_cases Y:j<J
    ·obtain⟨b,r⟩:∃b,I[j]?=some b:=⟨_,xQ (by rw[<-ae.o];exact Y)⟩
     obtain⟨ag,bw,lv,rv,ha,_,c1,c2,P,Q,_,_⟩:=H3.o j b r;have ix:=zbn q J t j ag bw Y ha;have a6:Fr NoM w l:=U.o.trans a1.o kP;have d1:=a6.cell c1 id;have d2:=a6.cell c2 id;obtain⟨x,y,rfl,p⟩:=id P;clear p;obtain⟨z,A,rfl,p⟩:=id Q;clear p;obtain⟨H,a5⟩:=eX (l.alloc (.cells #[.slice x b.1.length y,.slice z b.2.length A] 85));have ak:Fr NoM l H:=by rw[a5];exact(nW l).alloc _
     have e1:H.cell? ⟨l.heap.size,0,none⟩=some (.slice x b.1.length y):=by rw[a5,xX _ _ 0 _ _ _ (xJ l _)];rfl
     have e2:H.cell? ⟨l.heap.size,1,none⟩=some (.slice z b.2.length A):=by rw[a5,xX _ _ 1 _ _ _ (xJ l _)];rfl
     have a7:=a6.trans ak kP;have a9:=zhg _ b.1 j H (P.fr0 a7);have aa:=zhg _ b.2 j H (Q.fr0 a7);obtain⟨K,an⟩:=eX (optB j b.1);obtain⟨L,ao⟩:=eX (optB j b.2);have a9:Calls Tryz.prog 82 #[.slice x b.1.length y,.int .i64 (j:Int)] H λf o=>f=.returned (.bool K)/\o=H:=by rw[an];exact a9
     have aa:Calls Tryz.prog 82 #[.slice z b.2.length A,.int .i64 (j:Int)] H λf o=>f=.returned (.bool L)/\o=H:=by rw[ao];exact aa
     obtain⟨bd,be,aB,aC,V,bg,aw,bp⟩:=Hhp8 a9 aa an ao r (a1.o.trans ak kP) a7 a5;clear a9 aa an ao r ak a7 a6 ha c1 c2 P Q a5;go_wp2_with fail;rw[<-bp.o];refine bd.o.mono ?_
     rintro f w9 ⟨rfl,rfl⟩;cases K with
     | false =>
      have s:=ac.o (zn7 V.o (.inl aB.o.symm));have ad:=Hh s;clear s;go_wp2_with fail;go_ret;exact⟨by rw[ad.o];rfl,aw.o⟩
     | true =>
      go_wp2_with fail;refine be.o.mono ?_
      rintro f bE ⟨rfl,rfl⟩;cases L with
      | false =>
       have s:=ac.o (zn7 V.o (.inr aC.o.symm));have ad:=Hh s;clear s;go_wp2_with fail;go_ret;exact⟨by rw[ad.o];rfl,aw.o⟩
      | true =>
       go_wp2_with fail;go_roundw
       case rel=>exact⟨j+1,by go_num,by omega,λi p hj hz=>by
        by_cases f:i=j
        ·subst f
         have f:=V.o.symm.trans hz;cases f
         exact⟨aB.o.symm,aC.o.symm⟩
        ·exact T.o i p (by omega) hz,bg.o⟩
       case measure=>simp[intOf];omega
    ·have bs:j=J:=by omega
     subst bs;have Z:=ae.o;obtain⟨c,a8,aW,ho,hu⟩:=yh8 (by omega) (by omega) (λi b hj r=>T.o i b (by omega) r);have hl:j=c.length:=by rw[Z,a8,zck]
     subst hl;have aX:g=true↔ziy c/\ze9 c:=by
      rw[HG.o,a8,zm3];exact⟨λn=>n.2.2.2,λn=>⟨aW,ho,hu,n⟩⟩
     have aP:NodeL (· < w.heap.size) encN w (.slice q c.length t) c:=by
      have F:=HN.o;rw[a8]at F;exact F.ofI
     obtain⟨az,af,HO,bi⟩:=Hhp4 aX aP ho (U.o.trans a1.o kP);have hk:=HK.o l a1.o;clear aX aP hu aW T HG ac H3 HN Z ae a8;go_wp2_with fail;refine(yc8 _ c l (af.o.fr0 bi.o) HO.o (by omega)).mono ?_
     rintro f w9 ⟨rfl,a4,f9⟩;have bn:=Hh a4;have F9:=Hh (a1.o.trans f9 kP);clear a4 f9 hk;go_wp2_with fail;go_loopw [6] (λS a=>∃d:Nat,S=.int .i64 ((d:Int)+1)/\d+1<=c.length/\(∀(i:Nat) (e b:PL),i<d->c[i]?=some e->c[i+1]?=some b->klt ((zbf c).getD i 0) e ((zbf c).getD (i+1) 0) b)/\Fr NoM w9 a) (λS _=>c.length-(intOf S).toNat)
     case atStart=>exact⟨0,rfl,by omega,by intros;omega,Fr.refl _ _⟩
     case round =>
      obtain⟨d,rfl,hk,a2,X⟩:=hrel;obtain⟨G,rfl⟩:=eX wr;obtain⟨T,a0,bh⟩:=Hhp3 a2 (F9.o.trans X kP) X;clear a2 X;have b0:=HK.o G a0.o;by_cases Y:d+1<c.length
      ·obtain⟨e,hx⟩:∃e,c[d]?=some e:=⟨_,xQ (by omega)⟩
       obtain⟨b,r⟩:∃b,c[d+1]?=some b:=⟨_,xQ Y⟩;obtain⟨a',c',ee,_,_,Z⟩:=af.o;cases ee
       obtain⟨b1,K,l1,r1,aQ,_,c1,c2,P,Q,_,_⟩:=Z d e hx;obtain⟨b2,L,l2,r2,aR,_,d1,d2,t1,t2,_,_⟩:=Z (d+1) b r;have bv:=zbn q c.length t d b1 K (by omega) aQ;have b8:=zbn q c.length t (d+1) b2 L Y aR;rw[show((d+1:Nat):Int)=(d:Int)+1 from by omega]at b8;have E:Fr NoM w G:=U.o.trans a0.o kP;have aK:=E.cell c1 id;have aL:=E.cell c2 id;have aM:=E.cell d1 id;have aN:=E.cell d2 id;obtain⟨S1,S2,T1,T2⟩:=Hhp4 (P.fr0 E) (Q.fr0 E) (t1.fr0 E) (t2.fr0 E);obtain⟨x,y,rfl,p⟩:=id P;clear p;obtain⟨z,A,rfl,p⟩:=id Q;clear p;obtain⟨ma,mc,rfl,p⟩:=id t1;clear p;obtain⟨na,nc,rfl,p⟩:=id t2;have HX:=Hh hx;have V:=Hh r;clear p hx r Z c1 c2 d1 d2 P Q t1 t2 aQ aR E;have bB:decide ((d:Int)+1<(c.length:Int))=true:=by simp;omega
       have bC:IntKind.i64.wrap (d:Int)=(d:Int):=by rw[IntKind.wrap_i64];omega
       go_upto_region 13 with fail;go_cut [7,8]from 50 to 60 (λbx n a=>∃C D:Nat,bx=.pointer (some ⟨C,0,none⟩)/\n=.pointer (some ⟨D,0,none⟩)/\a.heap[C]?=some (.cells #[.slice x e.1.length y,.slice z e.2.length A] 85 (0,0))/\a.heap[D]?=some (.cells #[.slice ma b.1.length mc,.slice na b.2.length nc] 85 (0,0))/\Fr NoM G a)
       case first =>
        have m:=Hh (λa (h:Fr NoM G a)=>show a.cell? ⟨w.heap.size,0,none⟩=some (.slice q c.length t)/\a.cell? ⟨b1,K+d*2,none⟩=some (.slice x e.1.length y)/\a.cell? ⟨b1,K+d*2+1,none⟩=some (.slice z e.2.length A)/\a.cell? ⟨b2,L+(d+1)*2,none⟩=some (.slice ma b.1.length mc)/\a.cell? ⟨b2,L+(d+1)*2+1,none⟩=some (.slice na b.2.length nc)from
         ⟨h.cell b0 id,h.cell aK id,h.cell aL id,h.cell aM id,h.cell aN id⟩)
        have B:=nW G;have hs:=m.o G B;go_region_held3 (λ(a:World)=>a.cell? ⟨w.heap.size,0,none⟩=some (.slice q c.length t)/\a.cell? ⟨b1,K+d*2,none⟩=some (.slice x e.1.length y)/\a.cell? ⟨b1,K+d*2+1,none⟩=some (.slice z e.2.length A)/\a.cell? ⟨b2,L+(d+1)*2,none⟩=some (.slice ma b.1.length mc)/\a.cell? ⟨b2,L+(d+1)*2+1,none⟩=some (.slice na b.2.length nc))
         (first|exact m.o _ (‹_›)|exact m.o _ B.drew|exact m.o _ (B.alloc _)|exact m.o _ (B.alloc _).drew|exact m.o _ ((B.alloc _).alloc _)|exact m.o _ ((B.alloc _).alloc _).drew)
         (first|fail)
        all_goals
         go_wp2_with fail;go_meet
         case rel=>first|exact yfn G _ _ _ _ _|exact cut_two' G _ _ _ _ _
       case rest =>
        obtain⟨C,D,rfl,rfl,aT,aU,O⟩:=hcut;obtain⟨k,rfl⟩:=eX wc;have ah:=bh.o.trans O kP;have br:=zdv c;obtain⟨u,al⟩:∃u,(zbf c)[d]?=some u:=⟨_,xQ (by omega)⟩;obtain⟨v,am⟩:∃v,(zbf c)[d+1]?=some v:=⟨_,xQ (by omega)⟩;have bD:=zet l.heap.size c.length c.length d (by omega);have bu:=zet l.heap.size c.length c.length (d+1) Y;rw[show((d+1:Nat):Int)=(d:Int)+1 from by omega]at bu;have aj:=bn.o.fr ah id;have m:=Hh (λa (h:Fr NoM k a)=>show a.cell? ⟨l.heap.size,d,none⟩=some (.int .i64 (u:Int))/\a.cell? ⟨l.heap.size,d+1,none⟩=some (.int .i64 (v:Int))/\a.cell? ⟨C,0,none⟩=some (.slice x e.1.length y)/\a.cell? ⟨C,1,none⟩=some (.slice z e.2.length A)/\a.cell? ⟨D,0,none⟩=some (.slice ma b.1.length mc)/\a.cell? ⟨D,1,none⟩=some (.slice na b.2.length nc)from
         have M:=h.heap aT id;have N:=h.heap aU id
         ⟨h.cell (aj.at al) id,h.cell (aj.at am) id,qR M rfl,qR M rfl,qR N rfl,qR N rfl⟩)
        obtain⟨aG,aH,aI,aJ⟩:=Hhp4 (λa (h:Fr NoM k a)=>S1.o.fr0 (O.trans h kP)) (λa (h:Fr NoM k a)=>S2.o.fr0 (O.trans h kP)) (λa (h:Fr NoM k a)=>T1.o.fr0 (O.trans h kP)) (λa (h:Fr NoM k a)=>T2.o.fr0 (O.trans h kP));obtain⟨q0,ap⟩:=eX (Lib.compareInt (u:Int) (v:Int));obtain⟨q1,aq⟩:=eX (cmpL e.1 b.1);obtain⟨q2,ar⟩:=eX (cmpL e.2 b.2);obtain⟨b9,hv⟩:=eX (orI q0 (orI q1 q2));have b4:b9<0↔klt u e v b:=by rw[hv,ap,aq,ar];exact yos u v e b
        obtain⟨aD,aE,aF,HV,aA,ax,ay,bc,bj⟩:=Hhp9 ap aq ar hv b4 al am ah (a0.o.trans O kP);have B:Fr NoM k k.drew:=(nW k).drew;have hs:=m.o k (nW k);clear ap aq ar hv b4 al am ah aj aT aU O br b0 aK aL aM aN bv b8;by_cases b5:b9<0
        ·go_upto_region 14 with fail
         go_region_held3 (λ(a:World)=>a.cell? ⟨l.heap.size,d,none⟩=some (.int .i64 (u:Int))/\a.cell? ⟨l.heap.size,d+1,none⟩=some (.int .i64 (v:Int))/\a.cell? ⟨C,0,none⟩=some (.slice x e.1.length y)/\a.cell? ⟨C,1,none⟩=some (.slice z e.2.length A)/\a.cell? ⟨D,0,none⟩=some (.slice ma b.1.length mc)/\a.cell? ⟨D,1,none⟩=some (.slice na b.2.length nc))
          (first|exact m.o _ (‹_›)|exact m.o _ (Fr.alloc (‹_›) _))
          (first
           | (go_at_call 85;(with_reducible refine(zm7 (u:Int) (v:Int) _).mono ?_);rw[<-aD.o];rintro f o ⟨rfl,rfl⟩)
           | (go_at_call 86;(with_reducible refine(zis _ _ e.1 b.1 _ (aG.o _ (‹_›)) (aI.o _ (‹_›))).mono ?_);rw[<-aE.o];rintro f o ⟨rfl,rfl⟩)
           | (go_at_call 86;(with_reducible refine(zis _ _ e.2 b.2 _ (aH.o _ (‹_›)) (aJ.o _ (‹_›))).mono ?_);rw[<-aF.o];rintro f o ⟨rfl,rfl⟩)
           | (go_at_call 84;(refine(ydy q0 q1 q2 k.heap.size _ (zf7 k.drew _ _ _ _).1 (zf7 k.drew _ _ _ _).2.1 (zf7 k.drew _ _ _ _).2.2).mono ?_);rw[<-HV.o];rintro f o ⟨rfl,rfl⟩)
           | fail)
         all_goals
          have bm:=Hh b5;go_wp2_with fail;go_roundw
          case rel=>exact⟨d+1,by go_num,by omega,λi q ag hj ha hb=>by
           by_cases f:i=d
           ·subst f
            have e1:=HX.o.symm.trans ha;have e2:=V.o.symm.trans hb;cases e1;cases e2
            rw[xY,xY,ax.o,ay.o];exact aA.o.1 bm.o
           ·exact T.o i q ag (by omega) ha hb,bc.o.trans ((B.alloc _)) kP⟩
          case measure=>simp[intOf];omega
        ·have aY:g=false:=by
          cases a3:g with
          | false=>rfl
          | true =>
           exfalso
           have F:=(az.o.1 a3).1 d e b HX.o V.o;rw[xY,xY,ax.o,ay.o]at F;exact b5 (aA.o.2 F)
         have bk:=Hh aY;clear aY;go_upto_region 14 with fail;go_region_held3 (λ(a:World)=>a.cell? ⟨l.heap.size,d,none⟩=some (.int .i64 (u:Int))/\a.cell? ⟨l.heap.size,d+1,none⟩=some (.int .i64 (v:Int))/\a.cell? ⟨C,0,none⟩=some (.slice x e.1.length y)/\a.cell? ⟨C,1,none⟩=some (.slice z e.2.length A)/\a.cell? ⟨D,0,none⟩=some (.slice ma b.1.length mc)/\a.cell? ⟨D,1,none⟩=some (.slice na b.2.length nc))
          (first|exact m.o _ (‹_›)|exact m.o _ (Fr.alloc (‹_›) _))
          (first
           | (go_at_call 85;(with_reducible refine(zm7 (u:Int) (v:Int) _).mono ?_);rw[<-aD.o];rintro f o ⟨rfl,rfl⟩)
           | (go_at_call 86;(with_reducible refine(zis _ _ e.1 b.1 _ (aG.o _ (‹_›)) (aI.o _ (‹_›))).mono ?_);rw[<-aE.o];rintro f o ⟨rfl,rfl⟩)
           | (go_at_call 86;(with_reducible refine(zis _ _ e.2 b.2 _ (aH.o _ (‹_›)) (aJ.o _ (‹_›))).mono ?_);rw[<-aF.o];rintro f o ⟨rfl,rfl⟩)
           | (go_at_call 84;(refine(ydy q0 q1 q2 k.heap.size _ (zf7 k.drew _ _ _ _).1 (zf7 k.drew _ _ _ _).2.1 (zf7 k.drew _ _ _ _).2.2).mono ?_);rw[<-HV.o];rintro f o ⟨rfl,rfl⟩)
           | fail)
         all_goals
          go_wp2_with fail;go_ret;exact⟨by rw[bk.o];rfl,(U.o.trans bj.o kP).trans (B.alloc _) kP⟩
      ·have bt:d+1=c.length:=by omega
       have b6:ziy c:=λi e b hx r=>T.o i e b (by have:=(xV.1 r).1;omega) hx r
       have aZ:g=!decide (false∈zs6 c c.length (c.length-1)):=by
        have M:=yg9 (Fs:=c) (by omega);have N:=az.o;by_cases hm:false∈zs6 c c.length (c.length-1)
        ·rw[vJ hm]
         cases a3:g with
         | false=>rfl
         | true=>exact absurd (N.1 a3).2 (M.1 hm)
        ·rw[vV hm]
         exact N.2 ⟨b6,Classical.byContradiction λn=>hm (M.2 n)⟩
       have av:=yg8 (.slice q c.length t) (c.length-1) c G (af.o.fr0 (U.o.trans a0.o kP)) (by omega) HO.o (by omega);rw[show((c.length-1:Nat):Int)=(c.length:Int)-1 from by omega]at av;have bo:=Hh av;have bl:=Hh aZ;have b3:(c.length:Int)=(d:Int)+1:=by omega
       clear av aZ b6 bt;have bA:=Hh b3;clear b3;go_wp2_with fail;refine bo.o.mono ?_
       rintro f bz ⟨rfl,a4,aO⟩;have b7:(zs6 c c.length (c.length-1)).length=c.length:=by unfold zs6;rw[zhf];simp
       have au:=a4.slice (by omega);rw[b7]at au;have HC:=Hh (zn0 _ _ bz au);have bf:=Hh ((U.o.trans a0.o kP).trans aO kP);clear a4 aO b7 au;go_wp2_with fail;refine HC.o.mono ?_
       rintro f bF ⟨rfl,rfl⟩;go_wp2_with fail;go_ret;exact⟨by rw[bl.o];rfl,bf.o⟩
