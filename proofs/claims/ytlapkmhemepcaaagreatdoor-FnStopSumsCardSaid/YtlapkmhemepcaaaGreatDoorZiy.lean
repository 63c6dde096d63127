import Derived.Test.YtlapkmhemepcaaaGreatDoorZix
/- Lemmas. -/
set_option linter.all false
set_option maxHeartbeats 8000000
set_option maxRecDepth 4000
namespace Go.Proofs.YtlapkmhemepcaaaGreatDoor
open Go.RowKit
theorem zk7 {a:List (List Int × List Int)}(b:zax a=false):¬zar a:=λc=>by rw[c.1]at b;cases b
theorem zt2 {b:List (List Int × List Int)}{i:Nat}{y:List Int × List Int}(c:b[i]?=some y)(a:zau 0 ((i:Int)-1) none y.1=false\/zau 0 ((i:Int)-1) none y.2=false):¬zar b:=λf=>by obtain⟨d,e⟩:=f.2.1 i y (xV.1 c).1 c;rcases a with a|a;{rw[d]at a;cases a};{rw[e]at a;cases a}
def optB (i:Nat)(L:List Int):Bool:=decide (L.length<=24) && zau 0 ((i:Int)-1) none L
theorem zmp {c:List (List Int × List Int)}{i:Nat}{y:List Int × List Int}(d:c[i]?=some y)(a:optB i y.1=false\/optB i y.2=false):¬zar c:=λe=>by have b:=e.1;unfold zax at b;rw[kJ]at b;obtain⟨f,g⟩:=b.2.2 y (xK d);unfold optB at a;rw[vX f,vX g,Bool.true_and,Bool.true_and]at a;exact zt2 d a e
theorem yf5 {a:List (List Int × List Int)}(l:1<=a.length)(j:a.length<=120)(h:∀(f:Nat) (d:List Int × List Int),f<a.length->a[f]?=some d->optB f d.1=true/\optB f d.2=true) : ∃e:List PL,a=i2 e/\zax e=true/\OptsOK e/\BookUp e:=by have m:risI a a.length:=λf d i g=>by{obtain⟨b,c⟩:=h f d i g;unfold optB at b c;rw[Bool.and_eq_true]at b c;exact⟨b.2,c.2⟩};obtain⟨e,rfl,k,n⟩:=zmz m;refine⟨e,rfl,?_,k,n⟩;rw[<-zmb];refine yd7 j l λo d g=>?_;obtain⟨b,c⟩:=h o d (xV.1 g).1 g;unfold optB at b c;rw[Bool.and_eq_true,kJ]at b c;exact⟨b.1,c.1⟩
theorem zyu {Fs:List PL}(a:0<Fs.length):zpx Fs Fs.length (Fs.length-1)=zas Fs (Fs.length-1):=by unfold zpx zas;rw[show Fs.length-1+1=Fs.length from by omega]
theorem yed {Fs:List PL}(h:0<Fs.length):(false∈zpx Fs Fs.length (Fs.length-1))↔¬ze5 Fs:=by rw[zyu h];have k:=zk1 Fs (Fs.length-1);constructor;{intro a j;obtain⟨i,f,e⟩:=uZ a;have:=j i (by omega);rw[xY,xQ f,e]at this;cases this};{intro a;refine Classical.byContradiction λg=>a λd l=>?_;(have c:d<(zas Fs (Fs.length-1)).length:=by omega);cases b:(zas Fs (Fs.length-1))[d]with| true=>rw[xY,xQ c,b];rfl| false=>exact absurd (b ▸ y7 c) g}
theorem ydd (a:World)(b c d f:Value)(e:TypeId):∃g h:Nat,Value.pointer (some ⟨a.heap.size,0,none⟩)=.pointer (some ⟨g,0,none⟩)/\Value.pointer (some ⟨a.heap.size+1,0,none⟩)=.pointer (some ⟨h,0,none⟩) ∧ (((a.alloc (.cells #[b,c] e)).alloc (.cells #[d,f] e)).drew).heap[g]?=some (.cells #[b,c] e (0,0))/\(((a.alloc (.cells #[b,c] e)).alloc (.cells #[d,f] e)).drew).heap[h]?=some (.cells #[d,f] e (0,0)) ∧ Fr NoM a (((a.alloc (.cells #[b,c] e)).alloc (.cells #[d,f] e)).drew):=by refine⟨_,_,rfl,rfl,?_,?_,(((nW a).alloc _).alloc _).drew⟩;{exact((nW (a.alloc (.cells #[b,c] e))).alloc _).heap (xJ a _) id};{have i:=xJ (a.alloc (.cells #[b,c] e)) (.cells #[d,f] e);rw[xZ]at i;exact i}
theorem cut_two' (a:World)(b d c f:Value)(e:TypeId):∃g h:Nat,Value.pointer (some ⟨a.heap.size+1,0,none⟩)=.pointer (some ⟨g,0,none⟩)/\Value.pointer (some ⟨a.heap.size,0,none⟩)=.pointer (some ⟨h,0,none⟩) ∧ (((a.alloc (.cells #[c,f] e)).alloc (.cells #[b,d] e)).drew).heap[g]?=some (.cells #[b,d] e (0,0))/\(((a.alloc (.cells #[c,f] e)).alloc (.cells #[b,d] e)).drew).heap[h]?=some (.cells #[c,f] e (0,0)) ∧ Fr NoM a (((a.alloc (.cells #[c,f] e)).alloc (.cells #[b,d] e)).drew):=by obtain⟨g,h,i,j,k,l,m⟩:=ydd a c f b d e;exact⟨h,g,j,i,l,k,m⟩
theorem zf0 (w:World)(a b c:Value)(e:TypeId):(w.alloc (.cells #[a,b,c] e)).cell? ⟨w.heap.size,0,none⟩=some a/\(w.alloc (.cells #[a,b,c] e)).cell? ⟨w.heap.size,1,none⟩=some b/\(w.alloc (.cells #[a,b,c] e)).cell? ⟨w.heap.size,2,none⟩=some c:=by have d:=xJ w (.cells #[a,b,c] e);exact⟨by rw[xX _ _ 0 _ _ _ d];rfl,by rw[xX _ _ 1 _ _ _ d];rfl,by rw[xX _ _ 2 _ _ _ d];rfl⟩
theorem zc5 {R:Nat->Prop}(nv:Value)(I:List (List Int × List Int))(w:World)(F:NodeL R encI w nv I)(g:Bool)(hg:g=true↔zar I) :
  Calls Tryz.prog 55 #[.agg #[nv]] w λf o=>f=.returned (.bool g)/\Fr NoM w o:=by
 have hN:=F.low;obtain⟨q,t,rfl,M,N,h3⟩:=id F;clear F M N;have W:¬zar I->g=false:=λn=>by
  cases a3:g with
  | false=>rfl
  | true=>exact absurd (hg.1 a3) n
 by_cases hp:I.length<1
 ·have s:=W (zk7 (vY λn=>by have:=n.2.1;omega))
  have HF:=Hh s;clear s W hg hN h3;go_enter Tryz.func55,Tryz.ntmps55;go_wp2_with fail;go_ret;exact⟨by rw[HF.out];rfl,(nW w).alloc _⟩
 ·by_cases bq:120<I.length
  ·have s:=W (zk7 (vY λn=>by have:=n.1;omega))
   have HF:=Hh s;clear s W hg hN h3;go_enter Tryz.func55,Tryz.ntmps55;go_wp2_with fail;go_ret;exact⟨by rw[HF.out];rfl,(nW w).alloc _⟩
  ·obtain⟨J,ai⟩:=eX I.length
   rw[<-ai]at hN hp bq ⊢;have HG:=Hh hg;have ac:=Hh W;have HN:=Hh hN;have H3:=Hh h3;have ae:=Hh ai;clear hg W hN h3 ai;go_enter Tryz.func55,Tryz.ntmps55;go_wp2_with fail;obtain⟨w1,ab⟩:=eX (w.alloc (.cells #[.slice q J t] 26));have aV:Fr NoM w w1:=by rw[ab];exact(nW w).alloc _
   have aS:w1.heap[w.heap.size]?=some (.cells #[.slice q J t] 26 (0,0)):=by rw[ab];exact xJ w _
   rw[<-ab];have HK:=Hh (λa (h:Fr NoM w1 a)=>show a.cell? ⟨w.heap.size,0,none⟩=some (.slice q J t)from by rw[xX a _ 0 _ _ _ (h.heap aS id)];rfl);have U:=Hh aV;clear aV aS ab;go_loopw [22] (λS a=>∃j:Nat,S=.int .i64 j/\j<=J/\(∀(i:Nat) (b:List Int × List Int),i<j->I[i]?=some b->optB i b.1=true/\optB i b.2=true)/\Fr NoM w1 a) (λS _=>J-(intOf S).toNat)
   case atStart=>exact⟨0,rfl,yV _,by intros;omega,Fr.refl _ _⟩
   case round =>
    obtain⟨j,rfl,hi,a2,X⟩:=hrel;obtain⟨l,rfl⟩:=eX wr;have T:=Hh a2;have a1:=Hh X;clear a2 X;by_cases Y:j<J
    ·obtain⟨b,r⟩:∃b,I[j]?=some b:=⟨_,xQ (by rw[<-ae.out];exact Y)⟩
     obtain⟨ag,bw,lv,rv,ha,_,c1,c2,P,Q,_,_⟩:=H3.out j b r;have ix:=zbi q J t j ag bw Y ha;have a6:Fr NoM w l:=U.out.trans a1.out kP;have d1:=a6.cell c1 id;have d2:=a6.cell c2 id;obtain⟨x,y,rfl,p⟩:=id P;clear p;obtain⟨z,A,rfl,p⟩:=id Q;clear p;obtain⟨H,a5⟩:=eX (l.alloc (.cells #[.slice x b.1.length y,.slice z b.2.length A] 102));have ak:Fr NoM l H:=by rw[a5];exact(nW l).alloc _
     have e1:H.cell? ⟨l.heap.size,0,none⟩=some (.slice x b.1.length y):=by rw[a5,xX _ _ 0 _ _ _ (xJ l _)];rfl
     have e2:H.cell? ⟨l.heap.size,1,none⟩=some (.slice z b.2.length A):=by rw[a5,xX _ _ 1 _ _ _ (xJ l _)];rfl
     have a7:=a6.trans ak kP;have a9:=zgz _ b.1 j H (P.fr0 a7);have aa:=zgz _ b.2 j H (Q.fr0 a7);obtain⟨K,an⟩:=eX (optB j b.1);obtain⟨L,ao⟩:=eX (optB j b.2);have a9:Calls Tryz.prog 106 #[.slice x b.1.length y,.int .i64 (j:Int)] H λf o=>f=.returned (.bool K)/\o=H:=by rw[an];exact a9
     have aa:Calls Tryz.prog 106 #[.slice z b.2.length A,.int .i64 (j:Int)] H λf o=>f=.returned (.bool L)/\o=H:=by rw[ao];exact aa
     have bd:=Hh a9;have be:=Hh aa;have aB:=Hh an;have aC:=Hh ao;have V:=Hh r;have bg:=Hh (a1.out.trans ak kP);have aw:=Hh a7;have bp:=Hh a5;clear a9 aa an ao r ak a7 a6 ha c1 c2 P Q a5;go_wp2_with fail;rw[<-bp.out];refine bd.out.mono ?_
     rintro f w9 ⟨rfl,rfl⟩;cases K with
     | false =>
      have s:=ac.out (zmp V.out (.inl aB.out.symm));have ad:=Hh s;clear s;go_wp2_with fail;go_ret;exact⟨by rw[ad.out];rfl,aw.out⟩
     | true =>
      go_wp2_with fail;refine be.out.mono ?_
      rintro f bE ⟨rfl,rfl⟩;cases L with
      | false =>
       have s:=ac.out (zmp V.out (.inr aC.out.symm));have ad:=Hh s;clear s;go_wp2_with fail;go_ret;exact⟨by rw[ad.out];rfl,aw.out⟩
      | true =>
       go_wp2_with fail;go_roundw
       case rel=>exact⟨j+1,by go_num,by omega,λi p hj hz=>by
        by_cases f:i=j
        ·subst f
         have f:=V.out.symm.trans hz;cases f
         exact⟨aB.out.symm,aC.out.symm⟩
        ·exact T.out i p (by omega) hz,bg.out⟩
       case measure=>simp[intOf];omega
    ·have bs:j=J:=by omega
     subst bs;have Z:=ae.out;obtain⟨c,a8,aW,ho,hu⟩:=yf5 (by omega) (by omega) (λi b hj r=>T.out i b (by omega) r);have hl:j=c.length:=by rw[Z,a8,zb9]
     subst hl;have aX:g=true↔zid c/\ze5 c:=by
      rw[HG.out,a8,zki];exact⟨λn=>n.2.2.2,λn=>⟨aW,ho,hu,n⟩⟩
     have aP:NodeL (· < w.heap.size) encN w (.slice q c.length t) c:=by
      have F:=HN.out;rw[a8]at F;exact F.ofI
     have az:=Hh aX;have af:=Hh aP;have HO:=Hh ho;have bi:=Hh (U.out.trans a1.out kP);have hk:=HK.out l a1.out;clear aX aP hu aW T HG ac H3 HN Z ae a8;go_wp2_with fail;refine(yab _ c l (af.out.fr0 bi.out) HO.out (by omega)).mono ?_
     rintro f w9 ⟨rfl,a4,f9⟩;have bn:=Hh a4;have F9:=Hh (a1.out.trans f9 kP);clear a4 f9 hk;go_wp2_with fail;go_loopw [6] (λS a=>∃d:Nat,S=.int .i64 ((d:Int)+1)/\d+1<=c.length/\(∀(i:Nat) (e b:PL),i<d->c[i]?=some e->c[i+1]?=some b->klt ((zbd c).getD i 0) e ((zbd c).getD (i+1) 0) b)/\Fr NoM w9 a) (λS _=>c.length-(intOf S).toNat)
     case atStart=>exact⟨0,rfl,by omega,by intros;omega,Fr.refl _ _⟩
     case round =>
      obtain⟨d,rfl,hk,a2,X⟩:=hrel;obtain⟨G,rfl⟩:=eX wr;have T:=Hh a2;have a0:=Hh (F9.out.trans X kP);have bh:=Hh X;clear a2 X;have b0:=HK.out G a0.out;by_cases Y:d+1<c.length
      ·obtain⟨e,hx⟩:∃e,c[d]?=some e:=⟨_,xQ (by omega)⟩
       obtain⟨b,r⟩:∃b,c[d+1]?=some b:=⟨_,xQ Y⟩;obtain⟨a',c',ee,_,_,Z⟩:=af.out;cases ee
       obtain⟨b1,K,l1,r1,aQ,_,c1,c2,P,Q,_,_⟩:=Z d e hx;obtain⟨b2,L,l2,r2,aR,_,d1,d2,t1,t2,_,_⟩:=Z (d+1) b r;have bv:=zbi q c.length t d b1 K (by omega) aQ;have b8:=zbi q c.length t (d+1) b2 L Y aR;rw[show((d+1:Nat):Int)=(d:Int)+1 from by omega]at b8;have E:Fr NoM w G:=U.out.trans a0.out kP;have aK:=E.cell c1 id;have aL:=E.cell c2 id;have aM:=E.cell d1 id;have aN:=E.cell d2 id;have S1:=Hh (P.fr0 E);have S2:=Hh (Q.fr0 E);have T1:=Hh (t1.fr0 E);have T2:=Hh (t2.fr0 E);obtain⟨x,y,rfl,p⟩:=id P;clear p;obtain⟨z,A,rfl,p⟩:=id Q;clear p;obtain⟨ma,mc,rfl,p⟩:=id t1;clear p;obtain⟨na,nc,rfl,p⟩:=id t2;have HX:=Hh hx;have V:=Hh r;clear p hx r Z c1 c2 d1 d2 P Q t1 t2 aQ aR E;have bB:decide ((d:Int)+1<(c.length:Int))=true:=by simp;omega
       have bC:IntKind.i64.wrap (d:Int)=(d:Int):=by rw[IntKind.wrap_i64];omega
       go_upto_region 13 with fail;go_cut [7,8]from 50 to 60 (λbx n a=>∃C D:Nat,bx=.pointer (some ⟨C,0,none⟩)/\n=.pointer (some ⟨D,0,none⟩)/\a.heap[C]?=some (.cells #[.slice x e.1.length y,.slice z e.2.length A] 102 (0,0))/\a.heap[D]?=some (.cells #[.slice ma b.1.length mc,.slice na b.2.length nc] 102 (0,0))/\Fr NoM G a)
       case first =>
        have m:=Hh (λa (h:Fr NoM G a)=>show a.cell? ⟨w.heap.size,0,none⟩=some (.slice q c.length t)/\a.cell? ⟨b1,K+d*2,none⟩=some (.slice x e.1.length y)/\a.cell? ⟨b1,K+d*2+1,none⟩=some (.slice z e.2.length A)/\a.cell? ⟨b2,L+(d+1)*2,none⟩=some (.slice ma b.1.length mc)/\a.cell? ⟨b2,L+(d+1)*2+1,none⟩=some (.slice na b.2.length nc)from
         ⟨h.cell b0 id,h.cell aK id,h.cell aL id,h.cell aM id,h.cell aN id⟩)
        have B:=nW G;have hs:=m.out G B;go_region_held3 (λ(a:World)=>a.cell? ⟨w.heap.size,0,none⟩=some (.slice q c.length t)/\a.cell? ⟨b1,K+d*2,none⟩=some (.slice x e.1.length y)/\a.cell? ⟨b1,K+d*2+1,none⟩=some (.slice z e.2.length A)/\a.cell? ⟨b2,L+(d+1)*2,none⟩=some (.slice ma b.1.length mc)/\a.cell? ⟨b2,L+(d+1)*2+1,none⟩=some (.slice na b.2.length nc))
         (first|exact m.out _ (by assumption)|exact m.out _ B.drew|exact m.out _ (B.alloc _)|exact m.out _ (B.alloc _).drew|exact m.out _ ((B.alloc _).alloc _)|exact m.out _ ((B.alloc _).alloc _).drew)
         (first|fail)
        all_goals
         go_wp2_with fail;go_meet
         case rel=>first|exact ydd G _ _ _ _ _|exact cut_two' G _ _ _ _ _
       case rest =>
        obtain⟨C,D,rfl,rfl,aT,aU,O⟩:=hcut;obtain⟨k,rfl⟩:=eX wc;have ah:=bh.out.trans O kP;have br:=zdr c;obtain⟨u,al⟩:∃u,(zbd c)[d]?=some u:=⟨_,xQ (by omega)⟩;obtain⟨v,am⟩:∃v,(zbd c)[d+1]?=some v:=⟨_,xQ (by omega)⟩;have bD:=zdu l.heap.size c.length c.length d (by omega);have bu:=zdu l.heap.size c.length c.length (d+1) Y;rw[show((d+1:Nat):Int)=(d:Int)+1 from by omega]at bu;have aj:=bn.out.fr ah id;have m:=Hh (λa (h:Fr NoM k a)=>show a.cell? ⟨l.heap.size,d,none⟩=some (.int .i64 (u:Int))/\a.cell? ⟨l.heap.size,d+1,none⟩=some (.int .i64 (v:Int))/\a.cell? ⟨C,0,none⟩=some (.slice x e.1.length y)/\a.cell? ⟨C,1,none⟩=some (.slice z e.2.length A)/\a.cell? ⟨D,0,none⟩=some (.slice ma b.1.length mc)/\a.cell? ⟨D,1,none⟩=some (.slice na b.2.length nc)from
         have M:=h.heap aT id;have N:=h.heap aU id
         ⟨h.cell (aj.at al) id,h.cell (aj.at am) id,by rw[xX a _ 0 _ _ _ M];rfl,by rw[xX a _ 1 _ _ _ M];rfl,by rw[xX a _ 0 _ _ _ N];rfl,by rw[xX a _ 1 _ _ _ N];rfl⟩)
        have aG:=Hh (λa (h:Fr NoM k a)=>S1.out.fr0 (O.trans h kP));have aH:=Hh (λa (h:Fr NoM k a)=>S2.out.fr0 (O.trans h kP));have aI:=Hh (λa (h:Fr NoM k a)=>T1.out.fr0 (O.trans h kP));have aJ:=Hh (λa (h:Fr NoM k a)=>T2.out.fr0 (O.trans h kP));obtain⟨q0,ap⟩:=eX (Lib.compareInt (u:Int) (v:Int));obtain⟨q1,aq⟩:=eX (cmpL e.1 b.1);obtain⟨q2,ar⟩:=eX (cmpL e.2 b.2);obtain⟨b9,hv⟩:=eX (orI q0 (orI q1 q2));have b4:b9<0↔klt u e v b:=by rw[hv,ap,aq,ar];exact ykd u v e b
        have aD:=Hh ap;have aE:=Hh aq;have aF:=Hh ar;have HV:=Hh hv;have aA:=Hh b4;have ax:=Hh al;have ay:=Hh am;have bc:=Hh ah;have bj:=Hh (a0.out.trans O kP);have B:Fr NoM k k.drew:=(nW k).drew;have hs:=m.out k (nW k);clear ap aq ar hv b4 al am ah aj aT aU O br b0 aK aL aM aN bv b8;by_cases b5:b9<0
        ·go_upto_region 14 with fail
         go_region_held3 (λ(a:World)=>a.cell? ⟨l.heap.size,d,none⟩=some (.int .i64 (u:Int))/\a.cell? ⟨l.heap.size,d+1,none⟩=some (.int .i64 (v:Int))/\a.cell? ⟨C,0,none⟩=some (.slice x e.1.length y)/\a.cell? ⟨C,1,none⟩=some (.slice z e.2.length A)/\a.cell? ⟨D,0,none⟩=some (.slice ma b.1.length mc)/\a.cell? ⟨D,1,none⟩=some (.slice na b.2.length nc))
          (first|exact m.out _ (by assumption)|exact m.out _ (Fr.alloc (by assumption) _))
          (first
           | (go_at_call 53;(with_reducible refine(zi6 (u:Int) (v:Int) _).mono ?_);rw[<-aD.out];rintro f o ⟨rfl,rfl⟩)
           | (go_at_call 109;(with_reducible refine(zi5 _ _ e.1 b.1 _ (aG.out _ (by assumption)) (aI.out _ (by assumption))).mono ?_);rw[<-aE.out];rintro f o ⟨rfl,rfl⟩)
           | (go_at_call 109;(with_reducible refine(zi5 _ _ e.2 b.2 _ (aH.out _ (by assumption)) (aJ.out _ (by assumption))).mono ?_);rw[<-aF.out];rintro f o ⟨rfl,rfl⟩)
           | (go_at_call 108;(refine(yc0 q0 q1 q2 k.heap.size _ (zf0 k.drew _ _ _ _).1 (zf0 k.drew _ _ _ _).2.1 (zf0 k.drew _ _ _ _).2.2).mono ?_);rw[<-HV.out];rintro f o ⟨rfl,rfl⟩)
           | fail)
         all_goals
          have bm:=Hh b5;go_wp2_with fail;go_roundw
          case rel=>exact⟨d+1,by go_num,by omega,λi q ag hj ha hb=>by
           by_cases f:i=d
           ·subst f
            have e1:=HX.out.symm.trans ha;have e2:=V.out.symm.trans hb;cases e1;cases e2
            rw[xY,xY,ax.out,ay.out];exact aA.out.1 bm.out
           ·exact T.out i q ag (by omega) ha hb,bc.out.trans ((B.alloc _)) kP⟩
          case measure=>simp[intOf];omega
        ·have aY:g=false:=by
          cases a3:g with
          | false=>rfl
          | true =>
           exfalso
           have F:=(az.out.1 a3).1 d e b HX.out V.out;rw[xY,xY,ax.out,ay.out]at F;exact b5 (aA.out.2 F)
         have bk:=Hh aY;clear aY;go_upto_region 14 with fail;go_region_held3 (λ(a:World)=>a.cell? ⟨l.heap.size,d,none⟩=some (.int .i64 (u:Int))/\a.cell? ⟨l.heap.size,d+1,none⟩=some (.int .i64 (v:Int))/\a.cell? ⟨C,0,none⟩=some (.slice x e.1.length y)/\a.cell? ⟨C,1,none⟩=some (.slice z e.2.length A)/\a.cell? ⟨D,0,none⟩=some (.slice ma b.1.length mc)/\a.cell? ⟨D,1,none⟩=some (.slice na b.2.length nc))
          (first|exact m.out _ (by assumption)|exact m.out _ (Fr.alloc (by assumption) _))
          (first
           | (go_at_call 53;(with_reducible refine(zi6 (u:Int) (v:Int) _).mono ?_);rw[<-aD.out];rintro f o ⟨rfl,rfl⟩)
           | (go_at_call 109;(with_reducible refine(zi5 _ _ e.1 b.1 _ (aG.out _ (by assumption)) (aI.out _ (by assumption))).mono ?_);rw[<-aE.out];rintro f o ⟨rfl,rfl⟩)
           | (go_at_call 109;(with_reducible refine(zi5 _ _ e.2 b.2 _ (aH.out _ (by assumption)) (aJ.out _ (by assumption))).mono ?_);rw[<-aF.out];rintro f o ⟨rfl,rfl⟩)
           | (go_at_call 108;(refine(yc0 q0 q1 q2 k.heap.size _ (zf0 k.drew _ _ _ _).1 (zf0 k.drew _ _ _ _).2.1 (zf0 k.drew _ _ _ _).2.2).mono ?_);rw[<-HV.out];rintro f o ⟨rfl,rfl⟩)
           | fail)
         all_goals
          go_wp2_with fail;go_ret;exact⟨by rw[bk.out];rfl,(U.out.trans bj.out kP).trans (B.alloc _) kP⟩
      ·have bt:d+1=c.length:=by omega
       have b6:zid c:=λi e b hx r=>T.out i e b (by have:=(xV.1 r).1;omega) hx r
       have aZ:g=!decide (false∈zpx c c.length (c.length-1)):=by
        have M:=yed (Fs:=c) (by omega);have N:=az.out;by_cases hm:false∈zpx c c.length (c.length-1)
        ·rw[vX hm]
         cases a3:g with
         | false=>rfl
         | true=>exact absurd (N.1 a3).2 (M.1 hm)
        ·rw[vY hm]
         exact N.2 ⟨b6,Classical.byContradiction λn=>hm (M.2 n)⟩
       have av:=yec (.slice q c.length t) (c.length-1) c G (af.out.fr0 (U.out.trans a0.out kP)) (by omega) HO.out (by omega);rw[show((c.length-1:Nat):Int)=(c.length:Int)-1 from by omega]at av;have bo:=Hh av;have bl:=Hh aZ;have b3:(c.length:Int)=(d:Int)+1:=by omega
       clear av aZ b6 bt;have bA:=Hh b3;clear b3;go_wp2_with fail;refine bo.out.mono ?_
       rintro f bz ⟨rfl,a4,aO⟩;have b7:(zpx c c.length (c.length-1)).length=c.length:=by unfold zpx;rw[zgy];simp
       have au:=a4.slice (by omega);rw[b7]at au;have HC:=Hh (zmg _ _ bz au);have bf:=Hh ((U.out.trans a0.out kP).trans aO kP);clear a4 aO b7 au;go_wp2_with fail;refine HC.out.mono ?_
       rintro f bF ⟨rfl,rfl⟩;go_wp2_with fail;go_ret;exact⟨by rw[bl.out];rfl,bf.out⟩
