import Derived.Test.YtghekfmfonoocaaGreatDoorZu15
/- Lemmas. -/
set_option linter.all false
set_option maxHeartbeats 8000000
set_option maxRecDepth 8000
namespace Go.Proofs.YtghekfmfonoocaaGreatDoor
open Go.RowKit
theorem yd8 {B n size:Nat}{d:World}{e:TypeId}{v f c:Value}{xs:List Value}(h:d.ownsRow B e size v n xs)(i:∀a,v.ownBlock=some a->f.ownBlock≠some a)(s:c.ownBlock=f.ownBlock\/∃b,c.ownBlock=some b/\d.heap.size<=b):∀a,v.ownBlock=some a->c.ownBlock≠some a:=λa g e=>by rcases s with s|⟨b,s,j⟩;{exact i a g (by rw[<-s];exact e)};{rw[e]at s;cases s;have:=(h.lt a g).2;omega}
theorem yd7 {B n size:Nat}{f:World}{e:TypeId}{v d c:Value}{xs:List Value}(h:f.ownsRow B e size c n xs)(i:∀a,v.ownBlock=some a->c.ownBlock≠some a)(s:d.ownBlock=v.ownBlock\/∃b,d.ownBlock=some b/\f.heap.size<=b):∀a,d.ownBlock=some a->c.ownBlock≠some a:=λa g e=>by rcases s with s|⟨b,s,j⟩;{exact i a (by rw[<-s];exact g) e};{rw[g]at s;cases s;have:=(h.lt a e).2;omega}
structure R8 (B:Nat) (W:World) (dv bv ov:Value) (C:List Nat) (j k:Nat):Prop where
 r:R7 B W dv bv C j
 o:W.ownsRow B 62 5 ov k (ze8 (allX C k))
 sd:∀q,ov.ownBlock=some q->dv.ownBlock≠some q
 sb:∀q,ov.ownBlock=some q->bv.ownBlock≠some q
section
variable {B j k:Nat}{W W':World}{dv bv ov dv' bv' ov':Value}{C:List Nat}
theorem R8.fr0 (a:R8 B W dv bv ov C j k)(b:Fr NoM W W'):R8 B W' dv bv ov C j k:=⟨a.r.fr0 b,za3 a.o b kP,a.sd,a.sb⟩
theorem R8.fives (a:R8 B W dv bv ov C j k):Fives W ov (allX C k):=Fives.of_owns a.o
theorem R8.push (a:R8 B W dv bv ov C (k+1) k){c:World}(j:Fr NoM W c)(f:Fr (Own1 ov) c W')(l:W'.ownsRow B 62 5 ov' (k+1) (ze8 (allX C k)++zgs (nusX (C.getD k 0))))(s:ov'.ownBlock=ov.ownBlock\/∃i,ov'.ownBlock=some i/\c.heap.size<=i):R8 B W' dv bv ov' C (k+1) (k+1):=by have b:=a.fr0 j;refine⟨⟨za3 b.r.d f (λh g e=>a.sd h e g),za3 b.r.b f (λh g e=>a.sb h e g),a.r.sep⟩,?_,yd7 b.r.d a.sd s,yd7 b.r.b a.sb s⟩;rw[yg0,zmz];exact l
theorem R8.start (w:World)(C:List Nat):R8 w.heap.size (((w.alloc (.cells #[] 62)).alloc (.cells #[] 29)).alloc (.cells #[] 4)) (.slice (some ⟨w.heap.size+1,0,none⟩) 0 0) (.slice (some ⟨w.heap.size+2,0,none⟩) 0 0) (.slice (some ⟨w.heap.size,0,none⟩) 0 0) C 0 0:=by refine⟨⟨?_,?_,λa d b=>?_⟩,?_,λa d b=>?_,λa d b=>?_⟩;{have c:=yW (base:=w.heap.size) (e:=29) (size:=2) (w.alloc (.cells #[] 62)) #[] 0 (by simp) (by decide) (by simp);simp only[xZ]at c;exact c.alloc _};{have c:=yW (base:=w.heap.size) (e:=4) (size:=1) ((w.alloc (.cells #[] 62)).alloc (.cells #[] 29)) #[] 0 (by simp;omega) (by decide) (by simp);simp only[xZ]at c;exact c};{have f:w.heap.size+1=a:=yY d;have g:w.heap.size+2=a:=yY b;omega};{exact((yW w #[] 0 (xW _) (by decide) (by simp)).alloc _).alloc _};{have f:w.heap.size=a:=yY d;have g:w.heap.size+1=a:=yY b;omega};{have f:w.heap.size=a:=yY d;have g:w.heap.size+2=a:=yY b;omega}
end
theorem zra {V:List PL}{C:List Nat}(B:BookC V C){j:Nat}(c:j<V.length)(d:V.length<=1000):zgd (nusX (C.getD j 0)):=by have a:=ye2 B j c;have b:=yom (C.getD j 0);exact⟨b.1,by have:=a.1;omega,by have:=a.2;omega⟩
theorem zoh {x:NX}(a:zgd x):zgd (zke x):=⟨by show(-x.2.1.1).natAbs<=_;have:=a.1;omega,by show(-x.2.2.1).natAbs<=_;have:=a.2.1;omega,a.2.2⟩
theorem zoi {V:List PL}{C:List Nat}(B:BookC V C){k:Nat}(i:k<=V.length)(d:V.length<=1000){I:List Nat}(b:∀a∈I,a<k):∀a∈zhi (allX C k) I,zgd a:=λa c=>by rw[zps C k I b]at c;obtain⟨h,e,rfl⟩:=y8.1 c;obtain⟨g,f,rfl⟩:=mem_atAll.1 e;exact zra B (by have:=b g f;omega) d
theorem zti {L:List NX}(b:∀a∈L,zgd a):∀a∈zcr L,zgd a:=λa c=>by have:=zoh (b _ (zua.1 c));rwa [zgx]at this
theorem yh9 {V:List PL}{C:List Nat}(B:BookC V C){k:Nat}(e:k<V.length):((∀c∈(za5 V k).1,c<k)/\(za5 V k).1.length<=k)/\(∀c∈(za5 V k).2,c<k)/\(za5 V k).2.length<=k:=by obtain⟨u1,u2⟩:=B.up k _ (za7 e);obtain⟨f,g⟩:=B.opts k _ (za7 e);have d:∀a:List Nat,a.Pairwise (· < ·)->(∀b∈a,b<k)->a.length<=k:=λa n m=>by{have j:a.Nodup:=n.imp (λh=>Nat.ne_of_lt h);have i:=List.Nodup.length_le_of_subset (l₂:=List.range k) j (λb l=>kZ.2 (m b l));rwa [uV]at i};exact⟨⟨f,d _ u1 f⟩,g,d _ u2 g⟩
theorem yfe (b:World)(y:NX):Fives (b.alloc (.cells #[.bool y.1,.int .i64 y.2.1.1,.int .i64 (y.2.1.2:Int),.int .i64 y.2.2.1,.int .i64 (y.2.2.2:Int)] 62)) (.slice (some ⟨b.heap.size,0,none⟩) 1 1) [y]:=by have a:=xJ b (.cells #[.bool y.1,.int .i64 y.2.1.1,.int .i64 (y.2.1.2:Int),.int .i64 y.2.2.1,.int .i64 (y.2.2.2:Int)] 62);refine⟨_,1,rfl,xW _,by decide,λd e c=>?_⟩;match d,c with| 0,c =>{cases c;exact⟨_,0,rfl,by rw[xX _ _ _ _ _ _ a];rfl,by rw[xX _ _ _ _ _ _ a];rfl,by rw[xX _ _ _ _ _ _ a];rfl,by rw[xX _ _ _ _ _ _ a];rfl,by rw[xX _ _ _ _ _ _ a];rfl⟩}
theorem box5 {d a:World}{b:Nat}{y:NX}(e:d.heap[b]?=some (.cells #[.bool y.1,.int .i64 y.2.1.1,.int .i64 (y.2.1.2:Int),.int .i64 y.2.2.1,.int .i64 (y.2.2.2:Int)] 62 (0,0)))(f:Fr NoM d a) : (a.cell? ⟨b,0,none⟩=some (.bool y.1)/\a.cell? ⟨b,1,none⟩=some (.int .i64 y.2.1.1)/\a.cell? ⟨b,2,none⟩=some (.int .i64 (y.2.1.2:Int))/\a.cell? ⟨b,3,none⟩=some (.int .i64 y.2.2.1)/\a.cell? ⟨b,4,none⟩=some (.int .i64 (y.2.2.2:Int))) ∧ a.frozen? ⟨b,0,none⟩=false/\a.frozen? ⟨b,1,none⟩=false/\a.frozen? ⟨b,2,none⟩=false/\a.frozen? ⟨b,3,none⟩=false/\a.frozen? ⟨b,4,none⟩=false:=by have c:=f.heap e id;exact⟨⟨qR c rfl,qR c rfl,qR c rfl,qR c rfl,qR c rfl⟩,fZ c,fZ c,fZ c,fZ c,fZ c⟩
theorem yeq {R:Nat->Prop}{C:List Nat}{V:List PL}(B:BookC V C)(nv:Value)(w:World)(f:NodeL R encN w nv V)(h9:V.length<=1000)(hc:∀F,F<V.length->CanC (C.getD F 0)) :
  Calls Tryz.prog 33 #[.agg #[nv]] w λe N=>yc9 w (allX C V.length) e N:=by
 obtain⟨i,ac⟩:=eX (w.alloc (.cells #[nv] 26));have f1:Fr NoM w i:=by rw[ac];exact(nW w).alloc _
 have e0:i.heap[w.heap.size]?=some (.cells #[nv] 26 (0,0)):=by rw[ac];exact xJ w _
 obtain⟨w2,aq⟩:=eX (((i.alloc (.cells #[] 62)).alloc (.cells #[] 29)).alloc (.cells #[] 4));have f2:Fr NoM i w2:=by rw[aq];exact(((nW i).alloc _).alloc _).alloc _
 obtain⟨HR,F2,F1⟩:=Hhp3 (show R8 i.heap.size w2 (.slice (some ⟨i.heap.size+1,0,none⟩) 0 0) (.slice (some ⟨i.heap.size+2,0,none⟩) 0 0) (.slice (some ⟨i.heap.size,0,none⟩) 0 0) C 0 0 from by rw[aq];exact R8.start i C) f2 f1;have HK:=Hh (λc (x:Fr NoM i c)=>show c.cell? ⟨w.heap.size,0,none⟩=some nv from by
  rw[xX c _ 0 _ _ _ (x.heap e0 id)];rfl)
 obtain⟨na,nc,rfl,_,_,aW⟩:=id f;have HN:=Hh (λ(a:Nat) (hk:a<V.length)=>show ∃a8 ad Q S,na=some ⟨a8,ad,none⟩/\∀c,Fr NoM i c->c.cell? ⟨a8,ad+a*2,none⟩=some Q/\c.cell? ⟨a8,ad+a*2+1,none⟩=some S/\Nats c Q (za5 V a).1/\Nats c S (za5 V a).2 from by
  obtain⟨a8,ad,Q,S,ha,_,c1,c2,s1,s2,_,_⟩:=aW a _ (za7 hk);refine⟨a8,ad,Q,S,ha,λc x=>?_⟩;have f':=f1.trans x kP;exact⟨f'.cell c1 id,f'.cell c2 id,SliceOf.fr0 s1 f',SliceOf.fr0 s2 f'⟩)
 obtain⟨HB,HC,T⟩:=Hhp3 B hc h9;clear f aW f1 e0 f2 B hc;obtain⟨U,hn⟩:=eX V.length;rw[<-hn]at ac HK HN HC T h9 ⊢;have Hn:=Hh hn;clear hn;go_enter Tryz.func33,Tryz.ntmps33;go_upto_region 1 with fail;rw[<-ac];clear ac;go_upto_region 3 with fail;rw[<-aq];clear aq;go_wp2_with fail;go_loopw [3,4,5,6] (λv3 v4 v5 v6 wr=>∃(H dv bv:Value) (a:Nat),H=v3/\dv=v4/\bv=v5/\v6=.int .i64 (a:Int)/\a<=U/\R8 i.heap.size wr dv bv H C a a/\Fr NoM i wr) (λ_ _ _ v6 _=>U-(intOf v6).toNat)
 case atStart=>exact⟨_,_,_,0,rfl,rfl,rfl,rfl,yK _,HR.o,F2.o⟩
 case round =>
  obtain⟨H,dv,bv,a,rfl,rfl,rfl,rfl,hk,hr,hf⟩:=hrel;have k0:=HK.o wr hf;by_cases E:a<U
  ·obtain⟨b1,o1,Q,S,aT,aC⟩:=HN.o a E
   obtain⟨c1,c2,n1,n2⟩:=aC wr hf;have ix:=zbn na U nc a b1 o1 E aT;obtain⟨G,aA⟩:=eX ((valD (C.getD a 0)).1);obtain⟨K,az⟩:=eX (((valD (C.getD a 0)).2:Int));obtain⟨g1,aD⟩:=eX (valB (C.getD a 0));have b9:=Hh (ybm HB.o a a (by have:=Hn.o;omega) (xW _) (by have:=T.o;omega) (HC.o a E) Q S dv bv wr n1 n2 hr.r.pairs hr.r.bools G K g1 aA az aD);have av:=Hh (And.intro aA (And.intro az aD));have aL:(a:Int)<(U:Int):=by omega
   have bp:U<=1000:=T.o;obtain⟨ai,a4,aj,z⟩:=Hhp4 aC hr hf E;clear hr hf E aA az aD aC n1 n2 hk aT;go_wp2_with fail;(with_reducible refine b9.o.mono ?_);rintro e w5 ⟨rfl,f5⟩;obtain⟨t,ao⟩:=eX (w5.alloc (.cells #[.int .i64 G,.int .i64 K] 29));have f6:Fr NoM wr t:=f5.trans (show Fr NoM w5 t by rw[ao];exact(nW w5).alloc _) kP;have e6:t.heap[w5.heap.size]?=some (.cells #[.int .i64 G,.int .i64 K] 29 (0,0)):=by rw[ao];exact xJ w5 _
   obtain⟨db,ap⟩:=eX w5.heap.size;have aX:wr.heap.size<=db:=by rw[ap];exact f5.size
   rw[<-ap]at e6;have q0:t.cell? ⟨db,0,none⟩=some (.int .i64 G):=by rw[xX t _ 0 _ _ _ e6];rfl
   have q1:t.cell? ⟨db,1,none⟩=some (.int .i64 K):=by rw[xX t _ 1 _ _ _ e6];rfl
   obtain⟨F6,E6,b7⟩:=Hhp3 f6 e6 aX;clear f5 f6 e6 k0 c1 c2 aX;go_upto_region 7 with fail;rw[<-ao,<-ap];clear ao ap;obtain⟨R6,aM,b5,ag,ah⟩:=Hhp5 (a4.o.fr0 F6.o) (show i.heap.size<=t.heap.size from by have u:=F6.o.size;have v:=aj.o.size;omega) (show(a+1)*16<=140737488355328 by have u:=z.o;have v:=T.o;omega) (show(a+1)*1<=140737488355328 by have u:=z.o;have v:=T.o;omega) (show(a+1)*40<=140737488355328 by have u:=z.o;have v:=T.o;omega);go_wp2_with (at_builtin;refine zca rfl _ _ 110 rfl i.heap.size 29 _ 2 16 Tryz.underlying110 yot rfl (by decide) dv a (zau (zk0 C a)) rfl (by exact za3 R6.o.r.d ((nW t).alloc _) kP) t.heap.size rfl [.int .i64 G,.int .i64 K] 29 (xJ t _) rfl (by intro af s;simp at s;rcases s with rfl|rfl <;> rfl) b5.o (by decide) (by have:=aM.o;simp;omega) ?_);intro aa P h7 f7 s7;obtain⟨H7,F7,S7,aN,ar⟩:=Hhp5 h7 f7 s7 (show i.heap.size<=P.heap.size from by have u:=f7.size;have v:=aM.o;simp at u;omega) (show P.ownsRow i.heap.size 4 1 bv a ((arsL C a).map encB)from za3 (za3 R6.o.r.b ((nW t).alloc _) kP) f7 (λae hq e=>R6.o.r.sep ae e hq));clear h7 f7 s7 q0 q1;go_wp2_with (at_builtin;refine zca rfl _ _ 111 rfl i.heap.size 4 _ 1 1 Tryz.underlying111 znv rfl (by decide) bv a ((arsL C a).map encB) rfl (by exact za3 ar.o ((nW P).alloc _) kP) P.heap.size rfl [.bool g1] 4 (xJ P _) rfl (by intro af s;simp at s;subst s;rfl) ag.o (by decide) (by have:=aN.o;simp;omega) ?_);intro a9 h ay f9 s9;have p:=Hh (show R8 i.heap.size h aa a9 H C (a+1) a/\Fr NoM i h/\h.heap[db]?=some (.cells #[.int .i64 G,.int .i64 K] 29 (0,0))from by
    obtain⟨t1,t2,t3⟩:=av.o;have h7:=H7.o;have h0:=a4.o;have hd:=b7.o;rw[t1,t2]at h7;rw[t3]at ay;have hn:=a4.o.r.next (F6.o.trans ((nW t).alloc _) kP) F7.o h7 (by rw[xZ];exact S7.o) ((nW P).alloc _) f9 ay (by rw[xZ];exact s9)
    have g7:Fr NoM i P:=Fr.own (e:=29) (size:=2) (n:=a) (xs:=zau (zk0 C a)) (aj.o.trans (F6.o.trans ((nW t).alloc _) kP) kP) (za3 R6.o.r.d ((nW t).alloc _) kP) F7.o;have g9:Fr NoM i h:=Fr.own (e:=4) (size:=1) (n:=a) (xs:=(arsL C a).map encB) (g7.trans ((nW P).alloc _) kP) (za3 ar.o ((nW P).alloc _) kP) f9;have o6:=za3 R6.o.o ((nW t).alloc (.cells #[.int .i64 G,.int .i64 K] 29)) kP;have o7:=za3 o6 F7.o (λae hq e=>h0.sd ae hq e);have o8:=za3 o7 ((nW P).alloc (.cells #[.bool g1] 4)) kP;have o9:=za3 o8 f9 (λae hq e=>h0.sb ae hq e);refine⟨⟨hn,o9,yd8 o6 h0.sd (by rw[xZ];exact S7.o),yd8 o8 h0.sb (by rw[xZ];exact s9)⟩,g9,?_⟩;have x6:=((nW t).alloc (.cells #[.int .i64 G,.int .i64 K] 29)).heap E6.o id;have x7:=F7.o.heap x6 (λe=>by have:=(h0.r.d.lt db e).2;omega);have x8:=((nW P).alloc (.cells #[.bool g1] 4)).heap x7 id;exact f9.heap x8 (λe=>by have:=(h0.r.b.lt db e).2;omega))
   clear ay f9 s9 H7 F7 S7 aN ar R6 E6;have b6:=Hh (λc (x:Fr NoM h c)=>show c.cell? ⟨db,0,none⟩=some (.int .i64 G)/\c.cell? ⟨db,1,none⟩=some (.int .i64 K)from by
    have u:=x.heap p.o.2.2 id;exact⟨qR u rfl,qR u rfl⟩)
   have ak:=Hh (show i.heap.size<=h.heap.size from p.o.2.1.size);obtain⟨q0,q1⟩:=b6.o h (Fr.refl _ _);cases g1 with
   | true =>
    have a0:=Hh (show zgs (nusX (C.getD a 0))=[.bool true,.int .i64 G,.int .i64 K,.int .i64 0,.int .i64 0]from by
     obtain⟨t1,t2,t3⟩:=av.o;rw[zdq (IsNus.self t3.symm),t1,t2];rfl)
    go_wp2_with (at_builtin;refine zca rfl _ _ 58 rfl i.heap.size 62 _ 5 40 Tryz.underlying58 zru rfl (by decide) H a (ze8 (allX C a)) rfl (by exact za3 p.o.1.o ((nW h).alloc _) kP) h.heap.size rfl [.bool true,.int .i64 G,.int .i64 K,.int .i64 0,.int .i64 0] 62 (xJ h _) rfl (by intro af s;simp at s;rcases s with rfl|rfl|rfl|rfl|rfl <;> rfl) ah.o (by decide) (by have:=ak.o;simp;omega) ?_);intro a1 wx g L M;obtain⟨Hx,J,Sx⟩:=Hhp3 g L M;clear g L M q0 q1;go_wp2;go_roundw
    case rel =>
     have E:=z.o;have g:=Hx.o;rw[<-a0.o]at g;exact⟨a1,aa,a9,a+1,rfl,rfl,rfl,by go_num,by omega,p.o.1.push ((nW h).alloc _) J.o g (by rw[xZ];exact Sx.o),Fr.own (e:=62) (size:=5) (n:=a) (xs:=ze8 (allX C a)) (p.o.2.1.trans ((nW h).alloc _) kP) (za3 p.o.1.o ((nW h).alloc _) kP) J.o⟩
    case measure=>have E:=z.o;simp[intOf];omega
   | false =>
    obtain⟨A,hL⟩:=eX (zhi (allX C a) (za5 V a).1);obtain⟨D,hM⟩:=eX (zhi (allX C a) (za5 V a).2);have ab:a<V.length:=by have u:=z.o;have v:=Hn.o;omega
    obtain⟨⟨aH,l1⟩,aI,l2⟩:=yh9 HB.o ab;have bk:a<=1000:=by have u:=z.o;have v:=T.o;omega
    have aB:V.length<=1000:=by have u:=T.o;have v:=Hn.o;omega
    have a5:=Hh (show(∀F∈A,zgd F)/\A.length<=1000000 from⟨by rw[hL];exact zoi HB.o (by omega) aB aH,by rw[hL];unfold zhi;rw[uK];omega⟩);have a6:=Hh (show(∀F∈D,zgd F)/\D.length<=1000000 from⟨by rw[hM];exact zoi HB.o (by omega) aB aI,by rw[hM];unfold zhi;rw[uK];omega⟩);have bb:=Hh (λc (x:Fr NoM h c)=>show Calls Tryz.prog 75 #[H,Q] c λe N=>yc9 c A e N from by
     rw[hL];exact zrn H Q (allX C a) (za5 V a).1 c (p.o.1.fives.fr0 x) (ai.o c (p.o.2.1.trans x kP)).2.2.1 (λbm F g=>by rw[zt7];exact aH F (xK g)) (by omega))
    have bc:=Hh (λc (x:Fr NoM h c)=>show Calls Tryz.prog 75 #[H,S] c λe N=>yc9 c D e N from by
     rw[hM];exact zrn H S (allX C a) (za5 V a).2 c (p.o.1.fives.fr0 x) (ai.o c (p.o.2.1.trans x kP)).2.2.2 (λbm F g=>by rw[zt7];exact aI F (xK g)) (by omega))
    have aK:=Hh (show yb1 false (G,0) A D=nusX (C.getD a 0)from by
     have f:=ym9 HB.o ab;rw[<-hL,<-hM,<-av.o.2.2]at f;exact f)
    clear hL hM ab aH aI l1 l2 bk aB;have HS:=Hh (λc (x:Fr NoM h c)=>show c.cell? ⟨w.heap.size,0,none⟩=some (.slice na U nc)/\c.cell? ⟨b1,o1+a*2,none⟩=some Q/\c.cell? ⟨b1,o1+a*2+1,none⟩=some S from by
     have f':=p.o.2.1.trans x kP;exact⟨HK.o c f',(ai.o c f').1,(ai.o c f').2.1⟩)
    clear q0 q1;go_upto_region 11 with fail;have K0:Fr NoM h h:=Fr.refl _ _;have K1:Fr NoM h h.drew:=(Fr.refl _ _).drew;go_region_held3 (λ(c:World)=>c.cell? ⟨w.heap.size,0,none⟩=some (.slice na U nc)/\c.cell? ⟨b1,o1+a*2,none⟩=some Q/\c.cell? ⟨b1,o1+a*2+1,none⟩=some S)
     (exact HS.o _ (‹_›))
     (first
      | (go_simp;first
       | (go_at_call 75;(with_reducible refine(bb.o _ (‹_›)).mono ?_);(rintro e wa ⟨va,rfl,ha,fa⟩);(have ka:Fr NoM h wa:=Fr.trans (‹_›) fa kP))
       | (go_at_call 75;(with_reducible refine(bc.o _ (‹_›)).mono ?_);(rintro e wb ⟨vb,rfl,hb,fb⟩);(have kb:Fr NoM h wb:=Fr.trans (‹_›) fb kP))
       | fail)
      | fail)
    all_goals
    have hA:Fives wb va A:=ha.fr0 fb;have FB:=Hh kb;obtain⟨xa,xc,rfl,_,_,zz⟩:=id hA;clear zz;obtain⟨ya,yc,rfl,_,_,zz⟩:=id hb;clear zz;obtain⟨⟨xg,⟨X,W⟩,Y,Z⟩,g⟩:∃F,F=zci A D:=⟨_,rfl⟩;obtain⟨⟨yg,⟨k,j⟩,l,m⟩,hy⟩:∃y,y=zci (zcr D) (zcr A):=⟨_,rfl⟩;have au:=Hh (show Calls Tryz.prog 76 #[.slice xa A.length xc,.slice ya D.length yc] wb λe N=>e=.returned (.agg #[.bool xg,.int .i64 X,.int .i64 (W:Int),.int .i64 Y,.int .i64 (Z:Int)])/\Fr NoM wb N from by
     have f:=zrp (.slice xa A.length xc) (.slice ya D.length yc) A D wb hA hb a5.o.2 a6.o.2 a6.o.1;rw[<-g]at f;exact f)
    obtain⟨HA,ag,HX,HY⟩:=Hhp4 hA hb g hy;clear ha fa ka fb kb hA hb g hy K0 K1;obtain⟨lL,aY⟩:=eX A.length;obtain⟨lM,aZ⟩:=eX D.length;rw[<-aY]at HA au ⊢;rw[<-aZ]at ag au ⊢;clear aY aZ;go_wp2_with fail;(with_reducible refine au.o.mono ?_);rintro e wn ⟨rfl,fn⟩;obtain⟨a7,am⟩:=eX (wn.alloc (.cells #[.bool xg,.int .i64 X,.int .i64 (W:Int),.int .i64 Y,.int .i64 (Z:Int)] 62));obtain⟨b,aF⟩:=eX wn.heap.size;have aw:Fr NoM wb a7:=fn.trans (by rw[am];exact(nW wn).alloc _) kP;have aP:a7.heap[b]?=some (.cells #[.bool xg,.int .i64 X,.int .i64 (W:Int),.int .i64 Y,.int .i64 (Z:Int)] 62 (0,0)):=by rw[am,aF];exact xJ wn _
    obtain⟨bg,aO,bd,aJ⟩:=Hhp4 (show h.heap.size<=b from by have u:=FB.o.size;have v:=fn.size;omega) (λc (x:Fr NoM a7 c)=>box5 (y:=(xg,(X,W),Y,Z)) aP x) (zhu _ D a7 (ag.o.fr0 aw) a6.o.1 a6.o.2) aw;clear fn aw aP;go_upto_region 13 with fail;rw[<-am,<-aF];clear am aF;go_wp2_with fail;(with_reducible refine bd.o.mono ?_);rintro e wt ⟨tv,rfl,ht,ft⟩;obtain⟨be,FT,HT⟩:=Hhp3 (zhu _ A wt (HA.o.fr0 (aJ.o.trans ft kP)) a5.o.1 a5.o.2) ft ht;obtain⟨ta,tc,rfl,_,_,zz⟩:=id ht;clear zz ht ft;rw[zc8]at *;go_wp2_with fail;(with_reducible refine be.o.mono ?_);rintro e wu ⟨uv,rfl,s,fu⟩;obtain⟨ua,uc,rfl,_,_,zz⟩:=id s;clear zz;have b8:=Hh (show Calls Tryz.prog 76 #[.slice ta D.length tc,.slice ua (zcr A).length uc] wu λe N=>e=.returned (.agg #[.bool yg,.int .i64 k,.int .i64 (j:Int),.int .i64 l,.int .i64 (m:Int)])/\Fr NoM wu N from by
     have f:=zrp _ _ (zcr D) (zcr A) wu (HT.o.fr0 fu) s (by rw[zc8];exact a6.o.2) (by rw[zc8];exact a5.o.2) (zti a5.o.1);rw[<-HY.o]at f;exact f)
    have FU:=Hh (FT.o.trans fu kP);clear s fu;go_wp2_with fail;(with_reducible refine b8.o.mono ?_);rintro e wv ⟨rfl,fv⟩;obtain⟨q,an⟩:=eX (wv.alloc (.cells #[.bool yg,.int .i64 k,.int .i64 (j:Int),.int .i64 l,.int .i64 (m:Int)] 62));obtain⟨yb,aG⟩:=eX wv.heap.size;have al:Fr NoM a7 q:=(FU.o.trans fv kP).trans (by rw[an];exact(nW wv).alloc _) kP;have aQ:q.heap[yb]?=some (.cells #[.bool yg,.int .i64 k,.int .i64 (j:Int),.int .i64 l,.int .i64 (m:Int)] 62 (0,0)):=by rw[an,aG];exact xJ wv _
    have I:=Hh ((FB.o.trans aJ.o kP).trans al kP);have b3:=Hh al;obtain⟨⟨x0,x1,x2,x3,x4⟩,_⟩:=aO.o q al;obtain⟨⟨y0,y1,y2,y3,y4⟩,_⟩:=box5 (y:=(yg,(k,j),l,m)) aQ (Fr.refl _ _);simp only at x0 x1 x2 x3 x4 y0 y1 y2 y3 y4;clear fv al aQ;go_upto_region 14 with fail;rw[<-an,<-aG];clear an aG;have a2:=Hh (λ(f:¬(xg=false/\yg=true))=>(by
     rw[<-aK.o];unfold yb1;rw[if_neg (by decide),<-HX.o,<-HY.o,if_neg f]:nusX (C.getD a 0)=(xg,(X,W),Y,Z)))
    cases xg with
    | true =>
     have a0:=Hh (show zgs (nusX (C.getD a 0))=[.bool true,.int .i64 X,.int .i64 (W:Int),.int .i64 Y,.int .i64 (Z:Int)]from by rw[a2.o (by rintro⟨f,_⟩;cases f)];rfl);go_wp2_with (at_builtin;refine zca rfl _ _ 58 rfl i.heap.size 62 _ 5 40 Tryz.underlying58 zru rfl (by decide) H a (ze8 (allX C a)) rfl (by exact za3 p.o.1.o (I.o.trans ((nW q).alloc _) kP) kP) q.heap.size rfl [.bool true,.int .i64 X,.int .i64 (W:Int),.int .i64 Y,.int .i64 (Z:Int)] 62 (xJ q _) rfl (by intro af s;simp at s;rcases s with rfl|rfl|rfl|rfl|rfl <;> rfl) ah.o (by decide) (by have u:=ak.o;have v:=I.o.size;simp at v ⊢;omega) ?_);intro a1 wx g L M;obtain⟨Hx,J,Sx⟩:=Hhp3 g L M;clear g L M;go_wp2;go_roundw
     case rel =>
      have E:=z.o;have g:=Hx.o;rw[<-a0.o]at g;exact⟨a1,aa,a9,a+1,rfl,rfl,rfl,by go_num,by omega,p.o.1.push (I.o.trans ((nW q).alloc _) kP) J.o g (by rw[xZ];exact Sx.o),Fr.own (e:=62) (size:=5) (n:=a) (xs:=ze8 (allX C a)) (p.o.2.1.trans (I.o.trans ((nW q).alloc _) kP) kP) (za3 p.o.1.o (I.o.trans ((nW q).alloc _) kP) kP) J.o⟩
     case measure=>have E:=z.o;simp[intOf];omega
    | false =>
    cases yg with
    | false =>
     have a0:=Hh (show zgs (nusX (C.getD a 0))=[.bool false,.int .i64 X,.int .i64 (W:Int),.int .i64 Y,.int .i64 (Z:Int)]from by rw[a2.o (by rintro⟨_,f⟩;cases f)];rfl);go_wp2_with (at_builtin;refine zca rfl _ _ 58 rfl i.heap.size 62 _ 5 40 Tryz.underlying58 zru rfl (by decide) H a (ze8 (allX C a)) rfl (by exact za3 p.o.1.o (I.o.trans ((nW q).alloc _) kP) kP) q.heap.size rfl [.bool false,.int .i64 X,.int .i64 (W:Int),.int .i64 Y,.int .i64 (Z:Int)] 62 (xJ q _) rfl (by intro af s;simp at s;rcases s with rfl|rfl|rfl|rfl|rfl <;> rfl) ah.o (by decide) (by have u:=ak.o;have v:=I.o.size;simp at v ⊢;omega) ?_);intro a1 wx g L M;obtain⟨Hx,J,Sx⟩:=Hhp3 g L M;clear g L M;go_wp2;go_roundw
     case rel =>
      have E:=z.o;have g:=Hx.o;rw[<-a0.o]at g;exact⟨a1,aa,a9,a+1,rfl,rfl,rfl,by go_num,by omega,p.o.1.push (I.o.trans ((nW q).alloc _) kP) J.o g (by rw[xZ];exact Sx.o),Fr.own (e:=62) (size:=5) (n:=a) (xs:=ze8 (allX C a)) (p.o.2.1.trans (I.o.trans ((nW q).alloc _) kP) kP) (za3 p.o.1.o (I.o.trans ((nW q).alloc _) kP) kP) J.o⟩
     case measure=>have E:=z.o;simp[intOf];omega
    | true =>
     clear a2;have a2:=Hh (show nusX (C.getD a 0)=(true,(-k,j),-l,m)from by
      rw[<-aK.o];unfold yb1;rw[if_neg (by decide),<-HX.o,<-HY.o,if_pos ⟨rfl,rfl⟩];rfl)
     have a0:=Hh (show zgs (nusX (C.getD a 0))=[.bool true,.int .i64 (-k),.int .i64 (j:Int),.int .i64 (-l),.int .i64 (m:Int)]from by rw[a2.o];rfl);have b0:zgd (true,(k,j),l,m):=by
      have ab:a<V.length:=by have u:=z.o;have v:=Hn.o;omega
      have f:=zoh (zra HB.o ab (by have u:=T.o;have v:=Hn.o;omega));rw[a2.o]at f;simpa [zke] using f
     have bf:=Hh (show Calls Tryz.prog 77 #[.slice (some ⟨q.heap.size,0,none⟩) 1 1] (q.alloc (.cells #[.bool true,.int .i64 k,.int .i64 (j:Int),.int .i64 l,.int .i64 (m:Int)] 62)) λe N=>yc9 (q.alloc (.cells #[.bool true,.int .i64 k,.int .i64 (j:Int),.int .i64 l,.int .i64 (m:Int)] 62)) [(true,(-k,j),-l,m)] e N from
      zhu _ [(true,(k,j),l,m)] _ (yfe q (true,(k,j),l,m)) (λF g=>by rw[x9.1 g];exact b0) (by simp))
     clear b0;go_wp2_with fail;(with_reducible refine bf.o.mono ?_);rintro e O ⟨br,rfl,aS,aR⟩;obtain⟨bh,bj,rfl,_,_,aV⟩:=id aS;obtain⟨bi,bo,aU,z0,z1,z2,z3,z4⟩:=aV 0 _ rfl;rw[Nat.zero_mul,Nat.add_zero]at z0 z1 z2 z3 z4;simp only at z0 z1 z2 z3 z4;obtain⟨bn,aE⟩:=eX (List.length [((true,(-k,j),-l,m):NX)]);have bq:=ixN0 bh bn bj bi bo (by rw[aE];simp) aU;rw[<-aE];have ax:Fr NoM q O:=((nW q).alloc _).trans aR kP;have b4:=Hh (I.o.trans ax kP);have a3:=Hh (show Fr NoM h (((((O.setCell ⟨b,0,none⟩ (.bool true)).setCell ⟨b,1,none⟩ (.int .i64 (-k))).setCell ⟨b,2,none⟩ (.int .i64 (j:Int))).setCell ⟨b,3,none⟩ (.int .i64 (-l))).setCell ⟨b,4,none⟩ (.int .i64 (m:Int)))from by
      have hl:=bg.o;exact((((b4.o.setCell ⟨b,0,none⟩ _ (λf=>by have f:b<h.heap.size:=f;omega)).setCell ⟨b,1,none⟩ _ (λf=>by have f:b<h.heap.size:=f;omega)).setCell ⟨b,2,none⟩ _ (λf=>by have f:b<h.heap.size:=f;omega)).setCell ⟨b,3,none⟩ _ (λf=>by have f:b<h.heap.size:=f;omega)).setCell ⟨b,4,none⟩ _ (λf=>by have f:b<h.heap.size:=f;omega))
     clear x0 x1 x2 x3 x4 y0 y1 y2 y3 y4 aV aU aE aS aR;obtain⟨⟨x0,x1,x2,x3,x4⟩,p0,p1,p2,p3,p4⟩:=aO.o O (b3.o.trans ax kP)
     (try simp only at x0 x1 x2 x3 x4)
     clear ax;have ba:=Hh ((by have f:=xJ (((((O.setCell ⟨b,0,none⟩ (.bool true)).setCell ⟨b,1,none⟩ (.int .i64 (-k))).setCell ⟨b,2,none⟩ (.int .i64 (j:Int))).setCell ⟨b,3,none⟩ (.int .i64 (-l))).setCell ⟨b,4,none⟩ (.int .i64 (m:Int))) (.cells #[.bool true,.int .i64 (-k),.int .i64 (j:Int),.int .i64 (-l),.int .i64 (m:Int)] 62);simp only[World.size_setCell]at f;exact f:((((((O.setCell ⟨b,0,none⟩ (.bool true)).setCell ⟨b,1,none⟩ (.int .i64 (-k))).setCell ⟨b,2,none⟩ (.int .i64 (j:Int))).setCell ⟨b,3,none⟩ (.int .i64 (-l))).setCell ⟨b,4,none⟩ (.int .i64 (m:Int))).alloc (.cells #[.bool true,.int .i64 (-k),.int .i64 (j:Int),.int .i64 (-l),.int .i64 (m:Int)] 62)).heap[O.heap.size]?=some (.cells #[.bool true,.int .i64 (-k),.int .i64 (j:Int),.int .i64 (-l),.int .i64 (m:Int)] 62 (0,0))));go_wp2_with (at_builtin;refine zca rfl _ _ 58 rfl i.heap.size 62 _ 5 40 Tryz.underlying58 zru rfl (by decide) H a (ze8 (allX C a)) rfl (by exact za3 p.o.1.o (a3.o.trans ((nW (((((O.setCell ⟨b,0,none⟩ (.bool true)).setCell ⟨b,1,none⟩ (.int .i64 (-k))).setCell ⟨b,2,none⟩ (.int .i64 (j:Int))).setCell ⟨b,3,none⟩ (.int .i64 (-l))).setCell ⟨b,4,none⟩ (.int .i64 (m:Int)))).alloc _) kP) kP) O.heap.size rfl [.bool true,.int .i64 (-k),.int .i64 (j:Int),.int .i64 (-l),.int .i64 (m:Int)] 62 ba.o rfl (by intro af s;simp at s;rcases s with rfl|rfl|rfl|rfl|rfl <;> rfl) ah.o (by decide) (by have u:=ak.o;have v:=a3.o.size;simp at v ⊢;omega) ?_);intro a1 wx g L M;obtain⟨Hx,J,Sx⟩:=Hhp3 g L M;clear g L M;go_wp2;go_roundw
     case rel =>
      have E:=z.o;have g:=Hx.o;rw[<-a0.o]at g;exact⟨a1,aa,a9,a+1,rfl,rfl,rfl,by go_num,by omega,p.o.1.push (a3.o.trans ((nW (((((O.setCell ⟨b,0,none⟩ (.bool true)).setCell ⟨b,1,none⟩ (.int .i64 (-k))).setCell ⟨b,2,none⟩ (.int .i64 (j:Int))).setCell ⟨b,3,none⟩ (.int .i64 (-l))).setCell ⟨b,4,none⟩ (.int .i64 (m:Int)))).alloc _) kP) J.o g (by have b2:=Sx.o;simp only[xZ,World.size_setCell]at b2 ⊢;exact b2),Fr.own (e:=62) (size:=5) (n:=a) (xs:=ze8 (allX C a)) (p.o.2.1.trans (a3.o.trans ((nW (((((O.setCell ⟨b,0,none⟩ (.bool true)).setCell ⟨b,1,none⟩ (.int .i64 (-k))).setCell ⟨b,2,none⟩ (.int .i64 (j:Int))).setCell ⟨b,3,none⟩ (.int .i64 (-l))).setCell ⟨b,4,none⟩ (.int .i64 (m:Int)))).alloc _) kP) kP) (za3 p.o.1.o (a3.o.trans ((nW (((((O.setCell ⟨b,0,none⟩ (.bool true)).setCell ⟨b,1,none⟩ (.int .i64 (-k))).setCell ⟨b,2,none⟩ (.int .i64 (j:Int))).setCell ⟨b,3,none⟩ (.int .i64 (-l))).setCell ⟨b,4,none⟩ (.int .i64 (m:Int)))).alloc _) kP) kP) J.o⟩
     case measure=>have E:=z.o;simp[intOf];omega
  ·have bl:a=U:=by omega
   subst bl;have aL:¬(a:Int)<(a:Int):=by omega
   have a4:=Hh hr;have aj:=Hh hf;clear hr hf;go_wp2;go_ret;exact⟨_,rfl,a4.o.fives,F1.o.trans aj.o kP⟩
def zpt (C:List Nat)(b:Nat)(T P:Int)(g:Bool)(w:World)(e:Ending)(c:World):Prop:=e=.returned (.tuple #[.agg #[.int .i64 T,.int .i64 P],.bool g])/\∃a,MapF encP encB c b a/\OrdF C a/\Fr (λd=>d=b) w c
theorem ycc {M I:Nat->Prop}{C:List Nat}{V:List PL}{BV:List Nat}(B:BookC V C)(pb e:Nat)(mc ms mn:Value)(bx:¬M e)(af:¬I e):∀bb f,f<bb->f<V.length->CanC (C.getD f 0)->∀(d:Nat × Nat->Option Bool) (g:World),PoolS M I g pb V BV (.map (some e)) mc ms mn->MapF encP encB g e d->OrdF C d ->
  Calls Tryz.prog 134 #[.pointer (some ⟨pb,0,none⟩),.int .i64 (f:Int)] g λc Y=>zpt C e (valD (C.getD f 0)).1 ((valD (C.getD f 0)).2:Int) (valB (C.getD f 0)) g c Y:=by
 intro bb;induction bb with
 | zero=>intro f s;omega
 | succ bb ih =>
  intro f hn u hc d g hP hF hO;obtain⟨b7,bG⟩:=eX (C.getD f 0);have b9:=zt1 B u hc;have bm:=ynk (BV:=BV) B pb e mc ms mn bx af _ f (vW _) u hc;obtain⟨D,E⟩:=zb7 B u;have L:∀(F:Nat),(F∈(za5 V f).1\/F∈(za5 V f).2)->F<f/\CanC (C.getD F 0):=λF hy=>by
   obtain⟨o1,o2⟩:=B.opts f _ (za7 u);rcases hy with s|s
   ·exact⟨o1 F s,hc.opt (.inl ((D _).2 ⟨F,s,rfl⟩))⟩
   ·exact⟨o2 F s,hc.opt (.inr ((E _).2 ⟨F,s,rfl⟩))⟩
  rw[<-bG]at b9 bm D E hc ⊢;obtain⟨w1,a6⟩:=eX (g.alloc (.cells #[.int .i64 0,.int .i64 0] 29));have f1:Fr NoM g w1:=by rw[a6];exact(nW g).alloc _
  have aw:w1.heap.size=g.heap.size+1:=by rw[a6];simp
  have e1:w1.heap[g.heap.size]?=some (.cells #[.int .i64 0,.int .i64 0] 29 (0,0)):=by rw[a6];exact xJ g _
  have bo:=hF.lt;have HR:=Hh (λa (d:Fr (λb=>b=e) w1 a)=>show a.cell? ⟨g.heap.size,0,none⟩=some (.int .i64 0)/\a.cell? ⟨g.heap.size,1,none⟩=some (.int .i64 0)/\a.frozen? ⟨g.heap.size,0,none⟩=false/\a.frozen? ⟨g.heap.size,1,none⟩=false from by
   have K:=d.heap e1 (λb=>by omega);exact⟨qR K rfl,qR K rfl,fZ K,fZ K⟩)
  have aS:=Hh (λa (d:Fr (λb=>b=e) w1 a)=>show PoolS M I a pb V BV (.map (some e)) mc ms mn from(hP.fr0 f1).fr d (λb z c=>bx (by rw[<-c];exact z)) (λb z c=>af (by rw[<-c];exact z)));have bw:=bm d w1 (hP.fr0 f1) (hF.fr f1 id) hO;have ao:=Hh (λ(a:World) (a5:Nat × Nat->Option Bool) (x w:Int) (hm:MapF encP encB a e a5) (ho:OrdF C a5) (hf:Fr (λb=>b=e) w1 a)=>(by
   have h1:=(f1.any.trans hf kP).setCell ⟨g.heap.size,0,none⟩ (.int .i64 x) (λs=>by have s:g.heap.size<g.heap.size:=s;omega);have h2:=h1.setCell ⟨g.heap.size,1,none⟩ (.int .i64 w) (λs=>by have s:g.heap.size<g.heap.size:=s;omega);refine⟨a5,(hm.fr (Fr.set a ⟨g.heap.size,0,none⟩ (.int .i64 x)) (λs=>by have s:e=g.heap.size:=s;omega)).fr (Fr.set _ ⟨g.heap.size,1,none⟩ (.int .i64 w)) (λs=>by have s:e=g.heap.size:=s;omega),ho,h2⟩:∃f',MapF encP encB ((a.setCell ⟨g.heap.size,0,none⟩ (.int .i64 x)).setCell ⟨g.heap.size,1,none⟩ (.int .i64 w)) e f'/\OrdF C f'/\Fr (λb=>b=e) g ((a.setCell ⟨g.heap.size,0,none⟩ (.int .i64 x)).setCell ⟨g.heap.size,1,none⟩ (.int .i64 w))))
  obtain⟨ay,bK,bJ⟩:=Hhp3 bw aw bo;obtain⟨x,hT⟩:=eX ((valD b7).1);obtain⟨w,bk⟩:=eX (((valD b7).2:Int));obtain⟨a5,hg⟩:=eX (valB b7);rw[<-hT,<-bk,<-hg];have q:=Hh (And.intro hT (And.intro bk hg));clear hT bk hg bm bw;cases a7:isNB b7 with
  | false =>
   have t:x=0/\w=0/\a5=false:=by
    obtain⟨j,k,ah⟩:=q.o;have h1:=zmc a7;have h2:=zeq h1;rw[h2]at j k;exact⟨j,k,ah.trans h1⟩
   obtain⟨rfl,rfl,rfl⟩:=t;rw[a7]at ay;clear hP hF hO b9 D E L ih hc a7 q f1 aw e1 bo;go_enter Tryz.func134,Tryz.ntmps134;go_wp2_with fail;rw[<-a6];clear a6;(with_reducible refine ay.o.mono ?_);rintro c h ⟨rfl,f2,a3,a4,y⟩;have G:=Hh (ao.o h f2 0 0 a3 a4 y);obtain⟨O,n,o,P⟩:=HR.o h y;clear a3 a4 y;go_wp2_with fail;refine yJ (v:=.tuple #[.agg #[.int .i64 0,.int .i64 0],.bool false]) (by simp[results,Tryz.results134,go_sem,O,n,o,P]) rfl ?_
   exact⟨rfl,G.o⟩
  | true =>
   rw[a7]at ay;obtain⟨a8,aa,_,_,_⟩:=b9.1 a7;obtain⟨bE,a0⟩:=eX ((za5 V f).1);obtain⟨bF,a1⟩:=eX ((za5 V f).2);rw[<-a0]at a8 D L;rw[<-a1]at aa E L;have b6:=Hh (λ(F:Nat) (hy:F<f) (bH:CanC (C.getD F 0)) (d:Nat × Nat->Option Bool) (a:World) (hf:Fr (λb=>b=e) w1 a) (hm:MapF encP encB a e d) (ho:OrdF C d)=>ih F (by omega) (by omega) bH d a (aS.o a hf) hm ho);clear hP hF hO b9 ih hc f1 aw e1 bo;match bE,bF,a8,aa,a0,a1,D,E,L with
   | [],[],a8,aa,a0,a1,D,E,L =>
    have t:x=0/\w=0/\a5=true:=by
     obtain⟨j,k,ah⟩:=q.o;obtain⟨h1,h2⟩:=zy2 a7 (λbr hl=>by obtain⟨F,hy,_⟩:=(D br).1 hl;simp at hy) (λbr hl=>by obtain⟨F,hy,_⟩:=(E br).1 hl;simp at hy);rw[h2]at j k;exact⟨j,k,ah.trans h1⟩
    obtain⟨rfl,rfl,rfl⟩:=t;have az:=Hh a0;have aG:=Hh a1;clear a0 a1 D E L a8 aa;go_enter Tryz.func134,Tryz.ntmps134;go_wp2_with fail;rw[<-a6];clear a6;(with_reducible refine ay.o.mono ?_);rintro c h ⟨rfl,f2,a3,a4,y⟩;obtain⟨aA,aD,F2⟩:=Hhp3 a3 a4 y;obtain⟨la,lc,ra,rc,p0,p1,_,_,_,_,hL,hR⟩:=(aS.o h y).rd;obtain⟨lb,lo,lv,rfl,n,l,N⟩:=hL f u;obtain⟨rb,ro,rv,rfl,o,m,i2⟩:=hR f u;have aK:=zb9 (some ⟨lb,lo,none⟩) V.length lc f lb lo u rfl;have aL:=zb9 (some ⟨rb,ro,none⟩) V.length rc f rb ro u rfl;rw[<-az.o]at l N;rw[<-aG.o]at m i2;have aT:=Hh (λa (d:Fr (λb=>b=e) h a)=>l.fr d (λU b z c=>af (by rw[<-c];exact N U b z)));have aU:=Hh (λa (d:Fr (λb=>b=e) h a)=>m.fr d (λU b z c=>af (by rw[<-c];exact i2 U b z)));obtain⟨ua,uc,T,Z⟩:=id l;have T:lv=.slice ua 0 uc:=T;subst T;clear Z;obtain⟨va,vc,W,Z⟩:=id m;have W:rv=.slice va 0 vc:=W;subst W;clear Z hL hR l m N i2 a3 a4 y;go_wp2_with fail;go_quiet (fail);obtain⟨A,X⟩:=eX (h.drewN nq);have S:Fr NoM h A:=by rw[X];exact zfv h nq
    rw[<-X];have ab:=Hh (S.any (M:=λb=>b=e));have F3:=Hh (F2.o.trans ab.o kP);have aB:=Hh (aA.o.fr S id);have aE:=aD;clear S X p0 p1 n o aK aL;have G:=Hh (ao.o A f2 0 0 aB.o aE.o F3.o);obtain⟨O,n,o,P⟩:=HR.o A F3.o;go_wp2_with fail;refine yJ (v:=.tuple #[.agg #[.int .i64 0,.int .i64 0],.bool true]) (by simp[results,Tryz.results134,go_sem,O,n,o,P]) rfl ?_
    exact⟨rfl,G.o⟩
   | [j],[],a8,aa,a0,a1,D,E,L =>
    have t:=zy4 a7 ((D _).2 ⟨j,by simp,rfl⟩) (λbs hr=>by obtain⟨F,hy,_⟩:=(E bs).1 hr;simp at hy);obtain⟨Q,ak⟩:=eX ((valD (C.getD j 0)).1);obtain⟨H,ai⟩:=eX ((valD (C.getD j 0)).2);obtain⟨ga,am⟩:=eX (valB (C.getD j 0));have aZ:ga=true->GoodD Q H:=λc=>by rw[ak,ai];exact(zcp (by rw[<-am];exact c)).2
    obtain⟨b3,aX⟩:=L j (by simp);have bd:=Hh (λ(d:Nat × Nat->Option Bool) (a:World) (hf:Fr (λb=>b=e) w1 a) (hm:MapF encP encB a e d) (ho:OrdF C d)=>show Calls Tryz.prog 134 #[.pointer (some ⟨pb,0,none⟩),.int .i64 (j:Int)] a λc Y=>zpt C e Q (H:Int) ga a c Y from by rw[ak,ai,am];exact b6.o j b3 aX d a hf hm ho);rw[<-ak,<-ai,<-am,<-q.o.2.2]at t;have ap:=Hh t;have bf:=Hh aZ;clear ak ai am aZ b3 aX t;have az:=Hh a0;have aG:=Hh a1;clear a0 a1 D E L a8 aa;go_enter Tryz.func134,Tryz.ntmps134;go_wp2_with fail;rw[<-a6];clear a6;(with_reducible refine ay.o.mono ?_);rintro c h ⟨rfl,f2,a3,a4,y⟩;obtain⟨aA,aD,F2⟩:=Hhp3 a3 a4 y;obtain⟨la,lc,ra,rc,p0,p1,_,_,_,_,hL,hR⟩:=(aS.o h y).rd;obtain⟨lb,lo,lv,rfl,n,l,N⟩:=hL f u;obtain⟨rb,ro,rv,rfl,o,m,i2⟩:=hR f u;have aK:=zb9 (some ⟨lb,lo,none⟩) V.length lc f lb lo u rfl;have aL:=zb9 (some ⟨rb,ro,none⟩) V.length rc f rb ro u rfl;rw[<-az.o]at l N;rw[<-aG.o]at m i2;have aT:=Hh (λa (d:Fr (λb=>b=e) h a)=>l.fr d (λU b z c=>af (by rw[<-c];exact N U b z)));have aU:=Hh (λa (d:Fr (λb=>b=e) h a)=>m.fr d (λU b z c=>af (by rw[<-c];exact i2 U b z)));obtain⟨ua,uc,T,Z⟩:=id l;have T:lv=.slice ua 1 uc:=T;subst T;clear Z;obtain⟨va,vc,W,Z⟩:=id m;have W:rv=.slice va 0 vc:=W;subst W;clear Z hL hR l m N i2 a3 a4 y;go_wp2_with fail;go_quiet (fail);obtain⟨A,X⟩:=eX (h.drewN nq);have S:Fr NoM h A:=by rw[X];exact zfv h nq
    rw[<-X];have ab:=Hh (S.any (M:=λb=>b=e));have F3:=Hh (F2.o.trans ab.o kP);have aB:=Hh (aA.o.fr S id);have aE:=aD;clear S X p0 p1 n o aK aL;obtain⟨_,_,ee,_,_,ad⟩:=aT.o A ab.o;cases ee
    obtain⟨aH,aM,aV,ca⟩:=ad 0 j rfl;have bh:A.cell? ⟨aH,aM,none⟩=some (.int .i64 (j:Int)):=ca;have bp:∀a,(Instr.indexAt 82 (.slice ua 1 uc) (.int .i64 0)).run Tryz.prog a=.ok (.pointer (some ⟨aH,aM,none⟩)) a:=za9 ua 1 uc 0 aH aM (by omega) aV;have aQ:=Hh (bd.o _ A F3.o aB.o aE.o);clear ad ca aV;go_wp2_with fail;(with_reducible refine aQ.o.mono ?_);rintro c i ⟨rfl,f4,ae,av,ar⟩;obtain⟨r,a2⟩:=eX (i.alloc (.cells #[.int .i64 Q,.int .i64 (H:Int)] 29));have ac:Fr NoM i r:=by rw[a2];exact(nW i).alloc _
    have aq:r.heap[i.heap.size]?=some (.cells #[.int .i64 Q,.int .i64 (H:Int)] 29 (0,0)):=by rw[a2];exact xJ i _
    have b5:e<i.heap.size:=ae.lt;have ag:=Hh (λa (d:Fr (λb=>b=e) r a)=>show a.cell? ⟨i.heap.size,0,none⟩=some (.int .i64 Q)/\a.cell? ⟨i.heap.size,1,none⟩=some (.int .i64 (H:Int))from by
     have K:=d.heap aq (λb=>by omega);exact⟨qR K rfl,qR K rfl⟩)
    have aO:=Hh (ar.trans ac (λ_ _ b=>b.elim));obtain⟨F4,aC,aF⟩:=Hhp3 (F3.o.trans aO.o kP) (ae.fr ac id) av;clear ae av ar ac aq b5 bh bp aQ;go_upto_region 8 with fail;rw[<-a2];clear a2;cases ga with
    | false =>
     have au:=ap.o.1 rfl;have t:x=0/\w=0:=by
      obtain⟨ax,v,ah⟩:=q.o;rw[zeq (ah.symm.trans au)]at ax v;exact⟨ax,v⟩
     subst au;obtain⟨rfl,rfl⟩:=t;have G:=Hh (ao.o r f4 0 0 aC.o aF.o F4.o);obtain⟨O,n,o,P⟩:=HR.o r F4.o;go_wp2_with fail;refine yJ (v:=.tuple #[.agg #[.int .i64 0,.int .i64 0],.bool false]) (by simp[results,Tryz.results134,go_sem,O,n,o,P]) rfl ?_
     exact⟨rfl,G.o⟩
    | true =>
     have a9:=zx8 a7 (ap.o.2 rfl);have aJ:=zma Q 1 H 0 r (bf.o rfl) ⟨by decide,by decide,.inl rfl⟩ a5 x w (by rw[q.o.2.2];exact a9.1) (by rw[q.o.2.2,a9.2,q.o.1,q.o.2.1];rfl);rw[show((0:Nat):Int)=0 from rfl]at aJ;have bc:=Hh aJ;clear a9 aJ;obtain⟨k0,k1⟩:=ag.o r (Fr.refl _ _);go_wp2_with fail;(with_reducible refine bc.o.mono ?_);rintro c w5 ⟨rfl,f5⟩;have F5:=Hh (F4.o.trans f5 (λ_ _ b=>b.elim));have aP:=Hh (aC.o.fr f5 id);clear f5 k0 k1;have G:=Hh (ao.o w5 f4 x w aP.o aF.o F5.o);obtain⟨O,n,o,P⟩:=HR.o w5 F5.o;go_wp2_with fail;refine yJ (v:=.tuple #[.agg #[.int .i64 x,.int .i64 w],.bool a5]) (by simp[results,Tryz.results134,go_sem,O,n,o,P]) rfl ?_
     exact⟨rfl,G.o⟩
   | [],[k],a8,aa,a0,a1,D,E,L =>
    have t:=zy3 a7 ((E _).2 ⟨k,by simp,rfl⟩) (λbs hr=>by obtain⟨F,hy,_⟩:=(D bs).1 hr;simp at hy);obtain⟨R,al⟩:=eX ((valD (C.getD k 0)).1);obtain⟨J,aj⟩:=eX ((valD (C.getD k 0)).2);obtain⟨gb,an⟩:=eX (valB (C.getD k 0));have b0:gb=true->GoodD R J:=λc=>by rw[al,aj];exact(zcp (by rw[<-an];exact c)).2
    obtain⟨b4,aY⟩:=L k (by simp);have be:=Hh (λ(d:Nat × Nat->Option Bool) (a:World) (hf:Fr (λb=>b=e) w1 a) (hm:MapF encP encB a e d) (ho:OrdF C d)=>show Calls Tryz.prog 134 #[.pointer (some ⟨pb,0,none⟩),.int .i64 (k:Int)] a λc Y=>zpt C e R (J:Int) gb a c Y from by rw[al,aj,an];exact b6.o k b4 aY d a hf hm ho);rw[<-al,<-aj,<-an,<-q.o.2.2]at t;have ap:=Hh t;have bf:=Hh b0;clear al aj an b0 b4 aY t;have az:=Hh a0;have aG:=Hh a1;clear a0 a1 D E L a8 aa;go_enter Tryz.func134,Tryz.ntmps134;go_wp2_with fail;rw[<-a6];clear a6;(with_reducible refine ay.o.mono ?_);rintro c h ⟨rfl,f2,a3,a4,y⟩;obtain⟨aA,aD,F2⟩:=Hhp3 a3 a4 y;obtain⟨la,lc,ra,rc,p0,p1,_,_,_,_,hL,hR⟩:=(aS.o h y).rd;obtain⟨lb,lo,lv,rfl,n,l,N⟩:=hL f u;obtain⟨rb,ro,rv,rfl,o,m,i2⟩:=hR f u;have aK:=zb9 (some ⟨lb,lo,none⟩) V.length lc f lb lo u rfl;have aL:=zb9 (some ⟨rb,ro,none⟩) V.length rc f rb ro u rfl;rw[<-az.o]at l N;rw[<-aG.o]at m i2;have aT:=Hh (λa (d:Fr (λb=>b=e) h a)=>l.fr d (λU b z c=>af (by rw[<-c];exact N U b z)));have aU:=Hh (λa (d:Fr (λb=>b=e) h a)=>m.fr d (λU b z c=>af (by rw[<-c];exact i2 U b z)));obtain⟨ua,uc,T,Z⟩:=id l;have T:lv=.slice ua 0 uc:=T;subst T;clear Z;obtain⟨va,vc,W,Z⟩:=id m;have W:rv=.slice va 1 vc:=W;subst W;clear Z hL hR l m N i2 a3 a4 y;go_wp2_with fail;go_quiet (fail);obtain⟨A,X⟩:=eX (h.drewN nq);have S:Fr NoM h A:=by rw[X];exact zfv h nq
    rw[<-X];have ab:=Hh (S.any (M:=λb=>b=e));have F3:=Hh (F2.o.trans ab.o kP);have aB:=Hh (aA.o.fr S id);have aE:=aD;clear S X p0 p1 n o aK aL;obtain⟨_,_,ee,_,_,ad⟩:=aU.o A ab.o;cases ee
    obtain⟨aI,aN,aW,cb⟩:=ad 0 k rfl;have bi:A.cell? ⟨aI,aN,none⟩=some (.int .i64 (k:Int)):=cb;have bq:∀a,(Instr.indexAt 82 (.slice va 1 vc) (.int .i64 0)).run Tryz.prog a=.ok (.pointer (some ⟨aI,aN,none⟩)) a:=za9 va 1 vc 0 aI aN (by omega) aW;have aR:=Hh (be.o _ A F3.o aB.o aE.o);clear ad cb aW;go_wp2_with fail;(with_reducible refine aR.o.mono ?_);rintro c i ⟨rfl,f4,ae,av,ar⟩;obtain⟨r,a2⟩:=eX (i.alloc (.cells #[.int .i64 R,.int .i64 (J:Int)] 29));have ac:Fr NoM i r:=by rw[a2];exact(nW i).alloc _
    have aq:r.heap[i.heap.size]?=some (.cells #[.int .i64 R,.int .i64 (J:Int)] 29 (0,0)):=by rw[a2];exact xJ i _
    have b5:e<i.heap.size:=ae.lt;have ag:=Hh (λa (d:Fr (λb=>b=e) r a)=>show a.cell? ⟨i.heap.size,0,none⟩=some (.int .i64 R)/\a.cell? ⟨i.heap.size,1,none⟩=some (.int .i64 (J:Int))from by
     have K:=d.heap aq (λb=>by omega);exact⟨qR K rfl,qR K rfl⟩)
    have aO:=Hh (ar.trans ac (λ_ _ b=>b.elim));obtain⟨F4,aC,aF⟩:=Hhp3 (F3.o.trans aO.o kP) (ae.fr ac id) av;clear ae av ar ac aq b5 bi bq aR;go_upto_region 13 with fail;rw[<-a2];clear a2;cases gb with
    | false =>
     have au:=ap.o.1 rfl;have t:x=0/\w=0:=by
      obtain⟨ax,v,ah⟩:=q.o;rw[zeq (ah.symm.trans au)]at ax v;exact⟨ax,v⟩
     subst au;obtain⟨rfl,rfl⟩:=t;have G:=Hh (ao.o r f4 0 0 aC.o aF.o F4.o);obtain⟨O,n,o,P⟩:=HR.o r F4.o;go_wp2_with fail;refine yJ (v:=.tuple #[.agg #[.int .i64 0,.int .i64 0],.bool false]) (by simp[results,Tryz.results134,go_sem,O,n,o,P]) rfl ?_
     exact⟨rfl,G.o⟩
    | true =>
     have a9:=zx8 a7 (ap.o.2 rfl);have aJ:=zma R (-1) J 0 r (bf.o rfl) ⟨by decide,by decide,.inl rfl⟩ a5 x w (by rw[q.o.2.2];exact a9.1) (by rw[q.o.2.2,a9.2,q.o.1,q.o.2.1];rfl);rw[show((0:Nat):Int)=0 from rfl]at aJ;have bc:=Hh aJ;clear a9 aJ;obtain⟨k0,k1⟩:=ag.o r (Fr.refl _ _);go_wp2_with fail;(with_reducible refine bc.o.mono ?_);rintro c w5 ⟨rfl,f5⟩;have F5:=Hh (F4.o.trans f5 (λ_ _ b=>b.elim));have aP:=Hh (aC.o.fr f5 id);clear f5 k0 k1;have G:=Hh (ao.o w5 f4 x w aP.o aF.o F5.o);obtain⟨O,n,o,P⟩:=HR.o w5 F5.o;go_wp2_with fail;refine yJ (v:=.tuple #[.agg #[.int .i64 x,.int .i64 w],.bool a5]) (by simp[results,Tryz.results134,go_sem,O,n,o,P]) rfl ?_
     exact⟨rfl,G.o⟩
   | [j],[k],a8,aa,a0,a1,D,E,L =>
    have t:=zo6 a7 ((D _).2 ⟨j,by simp,rfl⟩) ((E _).2 ⟨k,by simp,rfl⟩);obtain⟨Q,ak⟩:=eX ((valD (C.getD j 0)).1);obtain⟨H,ai⟩:=eX ((valD (C.getD j 0)).2);obtain⟨ga,am⟩:=eX (valB (C.getD j 0));have aZ:ga=true->GoodD Q H:=λc=>by rw[ak,ai];exact(zcp (by rw[<-am];exact c)).2
    obtain⟨b3,aX⟩:=L j (by simp);have bd:=Hh (λ(d:Nat × Nat->Option Bool) (a:World) (hf:Fr (λb=>b=e) w1 a) (hm:MapF encP encB a e d) (ho:OrdF C d)=>show Calls Tryz.prog 134 #[.pointer (some ⟨pb,0,none⟩),.int .i64 (j:Int)] a λc Y=>zpt C e Q (H:Int) ga a c Y from by rw[ak,ai,am];exact b6.o j b3 aX d a hf hm ho);obtain⟨R,al⟩:=eX ((valD (C.getD k 0)).1);obtain⟨J,aj⟩:=eX ((valD (C.getD k 0)).2);obtain⟨gb,an⟩:=eX (valB (C.getD k 0));have b0:gb=true->GoodD R J:=λc=>by rw[al,aj];exact(zcp (by rw[<-an];exact c)).2
    obtain⟨b4,aY⟩:=L k (by simp);have be:=Hh (λ(d:Nat × Nat->Option Bool) (a:World) (hf:Fr (λb=>b=e) w1 a) (hm:MapF encP encB a e d) (ho:OrdF C d)=>show Calls Tryz.prog 134 #[.pointer (some ⟨pb,0,none⟩),.int .i64 (k:Int)] a λc Y=>zpt C e R (J:Int) gb a c Y from by rw[al,aj,an];exact b6.o k b4 aY d a hf hm ho);rw[<-ak,<-ai,<-am,<-al,<-aj,<-an,<-q.o.2.2]at t;obtain⟨ap,bC,bD⟩:=Hhp3 t aZ b0;clear ak ai am aZ b3 aX al aj an b0 b4 aY t;have az:=Hh a0;have aG:=Hh a1;clear a0 a1 D E L a8 aa;go_enter Tryz.func134,Tryz.ntmps134;go_wp2_with fail;rw[<-a6];clear a6;(with_reducible refine ay.o.mono ?_);rintro c h ⟨rfl,f2,a3,a4,y⟩;obtain⟨aA,aD,F2⟩:=Hhp3 a3 a4 y;obtain⟨la,lc,ra,rc,p0,p1,_,_,_,_,hL,hR⟩:=(aS.o h y).rd;obtain⟨lb,lo,lv,rfl,n,l,N⟩:=hL f u;obtain⟨rb,ro,rv,rfl,o,m,i2⟩:=hR f u;have aK:=zb9 (some ⟨lb,lo,none⟩) V.length lc f lb lo u rfl;have aL:=zb9 (some ⟨rb,ro,none⟩) V.length rc f rb ro u rfl;rw[<-az.o]at l N;rw[<-aG.o]at m i2;have aT:=Hh (λa (d:Fr (λb=>b=e) h a)=>l.fr d (λU b z c=>af (by rw[<-c];exact N U b z)));have aU:=Hh (λa (d:Fr (λb=>b=e) h a)=>m.fr d (λU b z c=>af (by rw[<-c];exact i2 U b z)));obtain⟨ua,uc,T,Z⟩:=id l;have T:lv=.slice ua 1 uc:=T;subst T;clear Z;obtain⟨va,vc,W,Z⟩:=id m;have W:rv=.slice va 1 vc:=W;subst W;clear Z hL hR l m N i2 a3 a4 y;go_wp2_with fail;go_quiet (fail);obtain⟨A,X⟩:=eX (h.drewN nq);have S:Fr NoM h A:=by rw[X];exact zfv h nq
    rw[<-X];have ab:=Hh (S.any (M:=λb=>b=e));have F3:=Hh (F2.o.trans ab.o kP);have aB:=Hh (aA.o.fr S id);have aE:=aD;clear S X p0 p1 n o aK aL;obtain⟨_,_,ee,_,_,ad⟩:=aT.o A ab.o;cases ee
    obtain⟨aH,aM,aV,ca⟩:=ad 0 j rfl;have bh:A.cell? ⟨aH,aM,none⟩=some (.int .i64 (j:Int)):=ca;have bp:∀a,(Instr.indexAt 82 (.slice ua 1 uc) (.int .i64 0)).run Tryz.prog a=.ok (.pointer (some ⟨aH,aM,none⟩)) a:=za9 ua 1 uc 0 aH aM (by omega) aV;have aQ:=Hh (bd.o _ A F3.o aB.o aE.o);clear ad ca aV;go_wp2_with fail;(with_reducible refine aQ.o.mono ?_);rintro c i ⟨rfl,f4,ae,av,ar⟩;obtain⟨r,a2⟩:=eX (i.alloc (.cells #[.int .i64 Q,.int .i64 (H:Int)] 29));have ac:Fr NoM i r:=by rw[a2];exact(nW i).alloc _
    have aq:r.heap[i.heap.size]?=some (.cells #[.int .i64 Q,.int .i64 (H:Int)] 29 (0,0)):=by rw[a2];exact xJ i _
    have b5:e<i.heap.size:=ae.lt;have ag:=Hh (λa (d:Fr (λb=>b=e) r a)=>show a.cell? ⟨i.heap.size,0,none⟩=some (.int .i64 Q)/\a.cell? ⟨i.heap.size,1,none⟩=some (.int .i64 (H:Int))from by
     have K:=d.heap aq (λb=>by omega);exact⟨qR K rfl,qR K rfl⟩)
    have aO:=Hh (ar.trans ac (λ_ _ b=>b.elim));obtain⟨F4,aC,aF⟩:=Hhp3 (F3.o.trans aO.o kP) (ae.fr ac id) av;clear ae av ar ac aq b5 bh bp aQ;go_upto_region 17 with fail;rw[<-a2];clear a2;have bB:=Hh (ab.o.trans aO.o kP);obtain⟨_,_,ee,_,_,ad⟩:=aU.o r bB.o;cases ee
    obtain⟨aI,aN,aW,cb⟩:=ad 0 k rfl;have bi:r.cell? ⟨aI,aN,none⟩=some (.int .i64 (k:Int)):=cb;have bq:∀a,(Instr.indexAt 82 (.slice va 1 vc) (.int .i64 0)).run Tryz.prog a=.ok (.pointer (some ⟨aI,aN,none⟩)) a:=za9 va 1 vc 0 aI aN (by omega) aW;have aR:=Hh (be.o _ r F4.o aC.o aF.o);clear ad cb aW;go_wp2_with fail;(with_reducible refine aR.o.mono ?_);rintro c w5 ⟨rfl,f5,bn,bA,bz⟩;obtain⟨W5,b8⟩:=eX (w5.alloc (.cells #[.int .i64 R,.int .i64 (J:Int)] 29));have bj:Fr NoM w5 W5:=by rw[b8];exact(nW w5).alloc _
    have bv:W5.heap[w5.heap.size]?=some (.cells #[.int .i64 R,.int .i64 (J:Int)] 29 (0,0)):=by rw[b8];exact xJ w5 _
    have bI:e<w5.heap.size:=bn.lt;have bg:=Hh (λa (d:Fr (λb=>b=e) W5 a)=>show a.cell? ⟨w5.heap.size,0,none⟩=some (.int .i64 R)/\a.cell? ⟨w5.heap.size,1,none⟩=some (.int .i64 (J:Int))from by
     have K:=d.heap bv (λb=>by omega);exact⟨qR K rfl,qR K rfl⟩)
    have bt:=Hh (bz.trans bj (λ_ _ b=>b.elim));obtain⟨F5,aP,bu⟩:=Hhp3 (F4.o.trans bt.o kP) (bn.fr bj id) bA;clear bn bA bz bj bv bI bi bq aR;go_upto_region 18 with fail;rw[<-b8];clear b8;have ag:=Hh (λa (d:Fr (λb=>b=e) W5 a)=>ag.o a (bt.o.trans d kP));by_cases bl:ga=true/\gb=true
    ·obtain⟨rfl,rfl⟩:=bl
     have a9:=zx8 a7 (ap.o.2 rfl rfl);have ga:=bC.o rfl;have gb:=bD.o rfl;have b1:=zge (p:=H) ga.1;have b2:=zge (p:=J) gb.1;obtain⟨l,aw⟩:=eX (Q*2^(16-H));obtain⟨m,ba⟩:=eX (R*2^(16-J));rw[<-aw,<-ba]at a9;rw[<-aw]at b1;rw[<-ba]at b2;have H1:=Hh (λ(a:World)=>show Calls Tryz.prog 163 #[.agg #[.int .i64 Q,.int .i64 (H:Int)]] a λc Y=>c=.returned (.int .i64 l)/\Fr NoM a Y from by rw[aw];exact zgz Q H a (by have:=ga.2.1;omega) ga.1);have H2:=Hh (λ(a:World)=>show Calls Tryz.prog 163 #[.agg #[.int .i64 R,.int .i64 (J:Int)]] a λc Y=>c=.returned (.int .i64 m)/\Fr NoM a Y from by rw[ba];exact zgz R J a (by have:=gb.2.1;omega) gb.1);have H3:=Hh (λ(a:World)=>show Calls Tryz.prog 146 #[.int .i64 (l+m),.int .i64 17] a λc Y=>c=.returned (.tuple #[.agg #[.int .i64 x,.int .i64 w],.bool a5])/\Fr NoM a Y from by
      have s:=zik (l+m) 17 a (by omega) (by decide) a5 (by rw[q.o.2.2];exact a9.1);rw[q.o.2.2,a9.2,<-q.o.2.2]at s;rw[q.o.1,q.o.2.1];exact s)
     have HW:=Hh (show IntKind.i64.wrap (l+m)=l+m from by rw[IntKind.wrap_i64];omega);clear a9 ga gb b1 b2 aw ba;go_upto_region 20 with fail;obtain⟨k0,k1⟩:=ag.o W5 (Fr.refl _ _);obtain⟨k2,k3⟩:=bg.o W5 (Fr.refl _ _);have K0:Fr NoM W5 W5.drew:=(nW W5).drew;go_region_law (first
      | (go_simp;first
       | (go_at_call 163;(with_reducible refine(H1.o _).mono ?_);rintro c wc ⟨rfl,fc⟩;have kc:Fr NoM W5 wc:=Fr.trans (‹_›) fc kP;obtain⟨i0,N⟩:=ag.o wc kc.any;obtain⟨i2,i3⟩:=bg.o wc kc.any)
       | (go_at_call 163;(with_reducible refine(H2.o _).mono ?_);rintro c wd ⟨rfl,fd⟩;have kd:Fr NoM W5 wd:=Fr.trans (‹_›) fd kP;obtain⟨j0,j1⟩:=ag.o wd kd.any;obtain⟨j2,j3⟩:=bg.o wd kd.any)
       | (go_at_call 146;rw[HW.o];(with_reducible refine(H3.o _).mono ?_);rintro c we ⟨rfl,fe⟩;have ke:Fr NoM W5 we:=Fr.trans (‹_›) fe kP;obtain⟨O,n,o,P⟩:=HR.o we (F5.o.trans ke (λ_ _ b=>b.elim)))
       | fail)
      | fail)
     all_goals
      have G:=Hh (ao.o we f5 x w (aP.o.fr ke id) bu.o (F5.o.trans ke (λ_ _ b=>b.elim)));go_wp2_with fail;refine yJ (v:=.tuple #[.agg #[.int .i64 x,.int .i64 w],.bool a5]) (by simp[results,Tryz.results134,go_sem,O,n,o,P]) rfl ?_
      exact⟨rfl,G.o⟩
    ·have au:=ap.o.1 (by cases ga <;> cases gb <;> simp at bl ⊢)
     have t:x=0/\w=0:=by
      obtain⟨ax,v,ah⟩:=q.o;rw[zeq (ah.symm.trans au)]at ax v;exact⟨ax,v⟩
     subst au;obtain⟨rfl,rfl⟩:=t;have G:=Hh (ao.o W5 f5 0 0 aP.o bu.o F5.o);obtain⟨O,n,o,P⟩:=HR.o W5 F5.o;cases ga with
     | false =>
      go_wp2_with fail;refine yJ (v:=.tuple #[.agg #[.int .i64 0,.int .i64 0],.bool false]) (by simp[results,Tryz.results134,go_sem,O,n,o,P]) rfl ?_
      exact⟨rfl,G.o⟩
     | true =>
      cases gb with
      | true=>exact absurd ⟨rfl,rfl⟩ bl
      | false =>
       go_wp2_with fail;refine yJ (v:=.tuple #[.agg #[.int .i64 0,.int .i64 0],.bool false]) (by simp[results,Tryz.results134,go_sem,O,n,o,P]) rfl ?_
       exact⟨rfl,G.o⟩
   | _::_::_,_,a8,_,_,_,_,_,_=>simp at a8
   | _,_::_::_,_,aa,_,_,_,_,_=>simp at aa
def zdz (x:(Int × Nat) × Int × Nat):Value:=.agg #[.int .i64 x.1.1,.int .i64 (x.1.2:Int),.int .i64 x.2.1,.int .i64 (x.2.2:Int)]
structure USt (pb ob kb:Nat) (mc ms mn:Value) (M I:Nat->Prop) (V:List PL) (BV:List Nat) (W:World) (f:Nat × Nat->Option Bool) (g:Nat->Option ((Int × Nat) × Int × Nat)):Prop where
 pool:PoolS M I W pb V BV (.map (some ob)) mc ms mn
 ord:MapF encP encB W ob f
 ordOK:OrdF (za0 V) f
 kn:MapF encN zdz W kb g
 knOK:∀k x,g k=some x->k<V.length/\NusAt ((za0 V).getD k 0) x/\SmallU k x
 lt:∀q,M q\/I q->q<W.heap.size
structure UOut (ob kb:Nat) (M I:Nat->Prop):Prop where
 m:¬M ob/\¬M kb
 i:¬I ob/\¬I kb
 ne:ob≠kb
section
variable {pb ob kb:Nat}{mc ms mn:Value}{M I X:Nat->Prop}{V:List PL}{BV:List Nat}{W W':World}{f f':Nat × Nat->Option Bool}{g g':Nat->Option ((Int × Nat) × Int × Nat)}
theorem USt.fr0 (a:USt pb ob kb mc ms mn M I V BV W f g)(b:Fr NoM W W'):USt pb ob kb mc ms mn M I V BV W' f g :=
 ⟨a.pool.fr0 b,a.ord.fr b id,a.ordOK,a.kn.fr b id,a.knOK,λd c=>vK (a.lt d c) b.size⟩
theorem USt.ords (d:USt pb ob kb mc ms mn M I V BV W f g)(h:UOut ob kb M I)(e:Fr (λc=>c=ob) W W')(j:MapF encP encB W' ob f')(k:OrdF (za0 V) f'):USt pb ob kb mc ms mn M I V BV W' f' g :=
 ⟨d.pool.fr e (λc b a=>h.m.1 (by rw[<-a];exact b)) (λc b a=>h.i.1 (by rw[<-a];exact b)),j,k,d.kn.fr e (λa=>h.ne a.symm),d.knOK,λc b=>vK (d.lt c b) e.size⟩
theorem USt.store (b:USt pb ob kb mc ms mn M I V BV W f g)(h:UOut ob kb M I)(e:Fr (λd=>d=kb) W W'){k:Nat}{x:(Int × Nat) × Int × Nat}(n:MapF encN zdz W' kb (upd g k x))(l:k<V.length)(o:NusAt ((za0 V).getD k 0) x/\SmallU k x):USt pb ob kb mc ms mn M I V BV W' f (upd g k x) :=
 ⟨b.pool.fr e (λd c a=>h.m.2 (by rw[<-a];exact c)) (λd c a=>h.i.2 (by rw[<-a];exact c)),b.ord.fr e (λa=>h.ne a),b.ordOK,n,λp q a=>by
  unfold upd at a;split at a
  ·rename_i j;subst j;cases a;exact⟨l,o⟩
  ·exact b.knOK p q a,λd c=>vK (b.lt d c) e.size⟩
theorem USt.set (c:USt pb ob kb mc ms mn M I V BV W f g)(h:Fr X W W')(e:∀a,X a->¬M a/\¬I a/\a≠ob/\a≠kb):USt pb ob kb mc ms mn M I V BV W' f g :=
 ⟨c.pool.fr h (λa d b=>(e a b).1 d) (λa d b=>(e a b).2.1 d),c.ord.fr h (λb=>(e ob b).2.2.1 rfl),c.ordOK,c.kn.fr h (λb=>(e kb b).2.2.2 rfl),c.knOK,λa d=>vK (c.lt a d) h.size⟩
end
def zit (pb b a:Nat)(j m l:Value)(M I:Nat->Prop)(V:List PL)(BV:List Nat)(k c:Nat)(w:World)(e:Ending)(f:World):Prop :=
 ∃(g:(Int × Nat) × Int × Nat) (ok:Bool) (h:Nat × Nat->Option Bool) (i:Nat->Option ((Int × Nat) × Int × Nat)),e=.returned (.tuple #[zdz g,.bool ok])/\Told k c g ok/\USt pb b a j m l M I V BV f h i/\Fr (λd=>d=b\/d=a) w f
def zs2 (pb f a:Nat) (c e d:Value) (M I:Nat->Prop) (V:List PL) (BV:List Nat) (x:Nat):Prop :=
  ∀ h i b, USt pb f a c e d M I V BV b h i->x < V.length->CanC ((za0 V).getD x 0) ->
    Calls Tryz.prog 40 #[.pointer (some ⟨pb,0,none⟩),.int .i64 (x:Int),.map (some a)] b λg j=>zit pb f a c e d M I V BV x ((za0 V).getD x 0) b g j
theorem yg1 (pv l m:Value)(A B:List Nat)(w:World)(d:Nats w l A)(e:Nats w m B)(h:A.length=B.length) : Calls Tryz.prog 135 #[pv,l,m] w λf P=>f=.returned (.bool (decide (A=B)))/\Fr NoM w P:=by obtain⟨E,F,rfl,Q,R,d⟩:=d;obtain⟨I,J,rfl,S,T,e⟩:=e;have u:=Hh d;clear d;have v:=Hh e;clear e;have c:A.take A.length=B.take A.length->decide (A=B)=true:=λn=>by{rw[y7,h,y7]at n;simp[n]};have z:=Hh h;clear h;have y:=Hh c;clear c;go_enter Tryz.func135,Tryz.ntmps135;go_wp2;go_loopw [10] (λi wr=>∃a t:Nat,a<=A.length/\i=.int .i64 a/\A.take a=B.take a/\wr=w.drewN t) (λi _=>A.length-(intOf i).toNat);(case atStart=>exact⟨0,0,by omega,rfl,rfl,rfl⟩);case round =>(obtain⟨a,t,U,rfl,s,rfl⟩:=hrel;have j:=Hh s;clear s;by_cases g:a<A.length;{(have r:a<B.length:=by rw[<-z.o];exact g);(obtain⟨G,N,o,K⟩:=u.o a A[a] (by simp);obtain⟨H,O,p,L⟩:=v.o a B[a] (by simp);have V:=za9 E A.length F a G N g o;have W:=za9 I B.length J a H O r p;have D:(a:Int)<(A.length:Int):=by omega);unfold encN at K L;clear o p;by_cases b:A[a]=B[a];{(have M:((A[a]:Int) != (B[a]:Int))=false:=by simp[b]);have k:=Hh b;clear b;go_wp2;go_quiet (fail);go_wp2;go_roundw;(case rel=>exact⟨a+1,_,by omega,by go_num,by rw[yQ g,yQ r,j.o,k.o],rfl⟩);case measure=>simp[intOf];omega};{(have M:((A[a]:Int) != (B[a]:Int))=true:=by simp;omega);have c:decide (A=B)=false:=by{(have:A≠B:=λf=>by subst f;exact b rfl);simp[this]};have k:=Hh b;clear b;have C:=Hh c;clear c;go_wp2;go_quiet (fail);go_wp2;go_ret;exact⟨by rw[C.o];rfl,⟨rfl,rfl,rfl,xW _,λ_ _ _=>rfl⟩⟩}};{(have D:¬(a:Int)<(A.length:Int):=by omega);(have q:a=A.length:=by omega);have x:=Hh (show decide (A=B)=true from y.o (by rw[<-q];exact j.o));clear q;go_wp2;go_ret;exact⟨by rw[x.o];rfl,⟨rfl,rfl,rfl,xW _,λ_ _ _=>rfl⟩⟩})
def IsPair (b c d a:Nat):Prop:=valB a=true/\d=a/\((b=a/\c=nusC a 0 1)\/(b=nusC a 0 1/\c=a))
theorem yh3 {j k e:Nat}{x y z:(Int × Nat) × Int × Nat}(A:NusAt j x)(B:NusAt k y)(C:NusAt e z)(r:x.1=z.1)(s:y.1=z.1)(t:z.2.1=0)(u:z.2.2=0)(v:x.2.1=0)(w:y.2.1=0)(F:x.2.2+y.2.2=1):∃d,IsPair j k e d/\valD d=z.1:=by(obtain⟨d,l,n⟩:=A;obtain⟨E,m,o⟩:=B;obtain⟨i,c,f⟩:=C;have p:=zd4 l.1 c.1 (by rw[n,f,r]);have q:=zd4 m.1 c.1 (by rw[o,f,s]);have D:e=i:=by rw[c.2,t,u];rfl);have a:=l.2;have b:=m.2;rw[v,p]at a;rw[w,q]at b;refine⟨i,⟨c.1,D,?_⟩,f⟩;rcases (show(x.2.2=0/\y.2.2=1)\/(x.2.2=1/\y.2.2=0)by omega)with ⟨g,h⟩|⟨g,h⟩;{rw[g]at a;rw[h]at b;exact .inl ⟨a,b⟩};{rw[g]at a;rw[h]at b;exact .inr ⟨a,b⟩}
theorem IsPair.reads {e f g a:Nat}(k:IsPair e f g a):∃i j,i+j=1/\IsNus e a 0 i/\IsNus f a 0 j/\IsNus g a 0 0:=by obtain⟨b,h,⟨c,d⟩|⟨c,d⟩⟩:=k;{exact⟨0,1,rfl,⟨b,c⟩,⟨b,d⟩,⟨b,h⟩⟩};{exact⟨1,0,rfl,⟨b,c⟩,⟨b,d⟩,⟨b,h⟩⟩}
def zdf (x:(Int × Nat) × Int × Nat):Array Value:=#[.int .i64 x.1.1,.int .i64 (x.1.2:Int),.int .i64 x.2.1,.int .i64 (x.2.2:Int)]
def UBox (a:World)(b:Nat)(x:(Int × Nat) × Int × Nat):Prop:=a.heap[b]?=some (.cells (zdf x) 69 (0,0))
theorem UBox.cells {a:World}{b:Nat}{x:(Int × Nat) × Int × Nat}(c:UBox a b x):a.cell? ⟨b,0,none⟩=some (.int .i64 x.1.1)/\a.cell? ⟨b,1,none⟩=some (.int .i64 (x.1.2:Int))/\a.cell? ⟨b,2,none⟩=some (.int .i64 x.2.1)/\a.cell? ⟨b,3,none⟩=some (.int .i64 (x.2.2:Int)) :=
 ⟨qR c rfl,qR c rfl,qR c rfl,qR c rfl⟩
theorem UBox.fr {b c:World}{a:Nat}{x:(Int × Nat) × Int × Nat}{M:Nat->Prop}(d:UBox b a x)(f:Fr M b c)(e:¬M a):UBox c a x:=f.heap d e
theorem UBox.made {w a:World}{x:(Int × Nat) × Int × Nat}(b:a=w.alloc (.cells (zdf x) 69)):UBox a w.heap.size x:=by rw[b];exact xJ w _
def PairPost (pb i h:Nat) (n p o:Value) (M I:Nat->Prop) (V:List PL) (BV:List Nat) (d f g:Nat) (w:World) (e:Ending) (k:World):Prop :=
  ∃ (c : Int) (b : Nat) (ok : Bool) (l : Nat × Nat->Option Bool) (m : Nat->Option ((Int × Nat) × Int × Nat)), e = .returned (.tuple #[.agg #[.int .i64 c, .int .i64 (b : Int)], .bool ok]) ∧
    (ok=true->∃ a,IsPair d f g a/\c=(valD a).1/\b=(valD a).2)/\(ok=false->∀ a,¬ IsPair d f g a)/\USt pb i h n p o M I V BV k l m/\Fr (λj=>j=i\/j=h) w k
theorem PairPost.drew {pb j f:Nat}{g i h:Value}{M I:Nat->Prop}{V:List PL}{BV:List Nat}{b c d:Nat}{w a:World}{e:Ending}(p:PairPost pb j f g i h M I V BV b c d w e a):PairPost pb j f g i h M I V BV b c d w e a.drew:=by obtain⟨l,k,ok,m,o,q,r,s,t,n⟩:=p;exact⟨l,k,ok,m,o,q,r,s,t.fr0 ((nW a).drew),n.drew⟩
theorem zyv {M I:Nat->Prop} (pb m j:Nat) (Q S R:Value) (V:List PL) (BV:List Nat) (bb:UOut m j M I) (h i k:Nat) (pv:Value) (w:World) (f:Nat × Nat->Option Bool) (g:Nat->Option ((Int × Nat) × Int × Nat))
    (hs:USt pb m j Q S R M I V BV w f g) (hp:Nats w pv [h,i]) (hq:∀ a,pv.ownBlock=some a->a≠m/\a≠j) (L:zs2 pb m j Q S R M I V BV h) (s:zs2 pb m j Q S R M I V BV i) (r:zs2 pb m j Q S R M I V BV k)
    (hV:V.length<=1000000) (l0:h < V.length/\i < V.length/\k < V.length) (cn:CanC ((za0 V).getD h 0)/\CanC ((za0 V).getD i 0)/\CanC ((za0 V).getD k 0)) :
    Calls Tryz.prog 137 #[.pointer (some ⟨pb,0,none⟩),pv,.int .i64 (k:Int),.map (some j)] w λc w'=>PairPost pb m j Q S R M I V BV ((za0 V).getD h 0) ((za0 V).getD i 0) ((za0 V).getD k 0) w c w':=by
  obtain ⟨n,a9⟩:∃ n,n=w.alloc (.cells #[.int .i64 0,.int .i64 0] 29):=⟨_,rfl⟩;have f1:Fr NoM w n:=by rw [a9];exact (nW w).alloc _
  have aR:n.heap.size=w.heap.size + 1:=by rw [a9];simp
  have H:n.heap[w.heap.size]?=some (.cells #[.int .i64 0,.int .i64 0] 29 (0,0)):=by rw [a9];exact xJ w _
  have aN:=hs.ord.lt;have aM:=hs.kn.lt;have ax:=hs.lt;have aX:=Hh (λ(b:World) (f':Nat × Nat->Option Bool) (g':Nat->Option ((Int × Nat) × Int × Nat)) (st:USt pb m j Q S R M I V BV b f' g') (fr:Fr (λa=>a=m\/a=j) n b) (F:Int) (D:Nat) (ok:Bool)
      (s:ok=true->∃ d,IsPair ((za0 V).getD h 0) ((za0 V).getD i 0) ((za0 V).getD k 0) d/\F=(valD d).1/\D=(valD d).2) (r:ok=false->∀ d,¬ IsPair ((za0 V).getD h 0) ((za0 V).getD i 0) ((za0 V).getD k 0) d)=>(by
    have A:=Fr.setCell (M:=λa=>a=w.heap.size) (Fr.refl _ b) ⟨w.heap.size,0,none⟩ (.int .i64 F) (λ_=>rfl);have B:=A.setCell ⟨w.heap.size,1,none⟩ (.int .i64 (D:Int)) (λ_=>rfl);refine ⟨F,D,ok,f',g',rfl,s,r,st.set B (λa c=>?_),((f1.any.trans fr kP).setCell ⟨w.heap.size,0,none⟩ (.int .i64 F) (λp=>by have p:w.heap.size < w.heap.size:=p;omega)).setCell ⟨w.heap.size,1,none⟩ (.int .i64 (D:Int)) (λp=>by have p:w.heap.size < w.heap.size:=p;omega)⟩;subst c;exact ⟨λc=>by have:=ax w.heap.size (.inl c);omega,λc=>by have:=ax w.heap.size (.inr c);omega,by omega,by omega⟩ :
    PairPost pb m j Q S R M I V BV ((za0 V).getD h 0) ((za0 V).getD i 0) ((za0 V).getD k 0) w (.returned (.tuple #[.agg #[.int .i64 F,.int .i64 (D:Int)],.bool ok])) ((b.setCell ⟨w.heap.size,0,none⟩ (.int .i64 F)).setCell ⟨w.heap.size,1,none⟩ (.int .i64 (D:Int)))))
  have HR:=Hh (λb (f:Fr (λa=>a=m\/a=j) n b)=>show b.cell? ⟨w.heap.size,0,none⟩=some (.int .i64 0)/\b.cell? ⟨w.heap.size,1,none⟩=some (.int .i64 0)/\b.frozen? ⟨w.heap.size,0,none⟩=false/\b.frozen? ⟨w.heap.size,1,none⟩=false from by
    have L:=f.heap H (λa=>by omega);exact ⟨by rw [xX b _ 0 _ _ _ L];rfl,by rw [xX b _ 1 _ _ _ L];rfl,by simp [World.frozen?,L],by simp [World.frozen?,L]⟩)
  have aO:=hp.fr0 f1;obtain ⟨pa,pc,rfl,_,_,ay⟩:=id aO;obtain ⟨pk,po,N,aK⟩:=ay 0 h rfl;obtain ⟨T,U,av,aL⟩:=ay 1 i rfl;have a8:pk≠m/\pk≠j:=hq pk (by rw [N];rfl);obtain ⟨rfl,rfl⟩:T=pk/\U=po:=by
    rw [N] at av;have:=yY av;exact ⟨(congrArg Addr.block this).symm,by injection this with _ p _;exact p.symm⟩
  have HC:=Hh (λb (f:Fr (λa=>a=m\/a=j) n b)=>show b.cell? ⟨T,U,none⟩=some (.int .i64 (h:Int))/\b.cell? ⟨T,U + 1,none⟩=some (.int .i64 (i:Int)) from
    ⟨f.cell aK (λc=>c.elim a8.1 a8.2),f.cell aL (λc=>c.elim a8.1 a8.2)⟩)
  have Y:∀ b,(Instr.indexAt 82 (.slice pa 2 pc) (.int .i64 0)).run Tryz.prog b=.ok (.pointer (some ⟨T,U,none⟩)) b:=λb=>za9 pa 2 pc 0 T U (by omega) N b
  have P:∀ b,(Instr.indexAt 82 (.slice pa 2 pc) (.int .i64 1)).run Tryz.prog b=.ok (.pointer (some ⟨T,U + 1,none⟩)) b:=λb=>za9 pa 2 pc 1 T U (by omega) N b
  obtain⟨HX,H0,H1,H2,HL,HV,aj,ac,F1,ak,J⟩:=Hhp11 (And.intro Y P) L s r l0 hV cn aR f1 (And.intro aN aM) (hs.fr0 f1);clear hs hp hq L s r l0 hV cn aO ay N av aK aL a8 aR f1 H aN aM ax Y P;have b9:=Hh (Fr.refl (λa=>a=m\/a=j) n);obtain ⟨k0,k1⟩:=HC.o n (Fr.refl _ _);obtain ⟨Y,P⟩:=HX.o;have aY:=Hh Y;have aZ:=Hh P;have Y:=aY.o n;clear P;have aF:=Hh (H0.o f g n J.o HL.o.1 aj.o.1);go_enter Tryz.func137,Tryz.ntmps137;go_upto_region 1 with fail;rw [<-a9];clear a9;go_wp2_with fail;(with_reducible refine aF.o.mono ?_);rintro c w2 ⟨aa,o1,f2,g2,rfl,hx,aS,x⟩;unfold zdz;obtain ⟨o,a7⟩:∃ o,o=w2.heap.size:=⟨_,rfl⟩;obtain ⟨K,a4⟩:∃ K,K=w2.alloc (.cells (zdf aa) 69):=⟨_,rfl⟩;have aq:Fr NoM w2 K:=by rw [a4];exact (nW w2).alloc _
  have q2:UBox K o aa:=by rw [a7];exact UBox.made a4
  obtain⟨al,J,t,a0,ao⟩:=Hhp5 hx (aS.fr0 aq) (x.trans aq (λ_ _ a=>a.elim)) q2 (show n.heap.size<=o from by rw [a7];exact x.size);unfold zdf at a4;clear hx aS x aq q2 k0 k1 Y aF;go_upto_region 2 with fail;rw [<-a4,<-a7];clear a4 a7;obtain ⟨k0,k1⟩:=HC.o K t.o;have P:=aZ.o K;have aG:=Hh (H1.o f2 g2 K J.o HL.o.2.1 aj.o.2.1);go_wp2_with fail;(with_reducible refine aG.o.mono ?_);rintro c w3 ⟨ab,o2,f3,g3,rfl,hy,aT,y⟩;unfold zdz;obtain ⟨q,ae⟩:∃ q,q=w3.heap.size:=⟨_,rfl⟩;obtain ⟨W3,a5⟩:∃ W3,W3=w3.alloc (.cells (zdf ab) 69):=⟨_,rfl⟩;have ar:Fr NoM w3 W3:=by rw [a5];exact (nW w3).alloc _
  have q3:UBox W3 q ab:=by rw [ae];exact UBox.made a5
  have az:=y.trans ar (λ_ _ a=>a.elim);have X:¬ (o=m\/o=j):=λc=>by have s:=ao.o;have r:=ak.o;have h3:=ac.o;omega
  obtain⟨aI,am,J,a0,t,ah⟩:=Hhp6 (show n.heap.size<=q from by rw [ae];exact kQ t.o.size y.size) hy (aT.fr0 ar) (a0.o.fr az X) (t.o.trans az kP) q3;unfold zdf at a5;clear hy aT y az ar q3 k0 k1 P aG X;go_upto_region 3 with fail;rw [<-a5,<-ae];clear a5 ae;have aH:=Hh (H2.o f3 g3 W3 J.o HL.o.2.2 aj.o.2.2);go_wp2_with fail;(with_reducible refine aH.o.mono ?_);rintro c w4 ⟨e,o3,f4,g4,rfl,hz,aU,r4⟩;unfold zdz;obtain ⟨u,af⟩:∃ u,u=w4.heap.size:=⟨_,rfl⟩;obtain ⟨l,a6⟩:∃ l,l=w4.alloc (.cells (zdf e) 69):=⟨_,rfl⟩;have au:Fr NoM w4 l:=by rw [a6];exact (nW w4).alloc _
  have q4:UBox l u e:=by rw [af];exact UBox.made a6
  have ag:=r4.trans au (λ_ _ a=>a.elim);have X:¬ (o=m\/o=j)/\¬ (q=m\/q=j):=⟨λc=>by have s:=ao.o;have r:=ak.o;have h3:=ac.o;omega,λc=>by have s:=aI.o;have r:=ak.o;have h3:=ac.o;omega⟩;obtain⟨b6,ap,J,a0,ah,t,aV⟩:=Hhp7 (show n.heap.size<=u from by rw [af];exact kQ t.o.size r4.size) hz (aU.fr0 au) (a0.o.fr ag X.1) (ah.o.fr ag X.2) (t.o.trans ag kP) q4;unfold zdf at a6;clear hz aU r4 ag au q4 aH X;go_upto_region 4 with fail;rw [<-a6,<-af];clear a6 af;obtain ⟨x0,x1,x2,x3⟩:=a0.o.cells;obtain ⟨y0,y1,y2,y3⟩:=ah.o.cells;obtain ⟨z0,z1,z2,z3⟩:=aV.o.cells;obtain ⟨Z,r1,x,y⟩:=HR.o l t.o;have aC:=Hh (λ(p:o1=false)=>show ∀ d,¬ IsPair ((za0 V).getD h 0) ((za0 V).getD i 0) ((za0 V).getD k 0) d from λ(d:Nat) (a:IsPair ((za0 V).getD h 0) ((za0 V).getD i 0) ((za0 V).getD k 0) d)=>(by
    obtain ⟨z,C,_,O,_,_⟩:=a.reads;exact al.o.2 p _ _ _ O:False))
  have aD:=Hh (λ(p:o2=false)=>show ∀ d,¬ IsPair ((za0 V).getD h 0) ((za0 V).getD i 0) ((za0 V).getD k 0) d from λ(d:Nat) (a:IsPair ((za0 V).getD h 0) ((za0 V).getD i 0) ((za0 V).getD k 0) d)=>(by
    obtain ⟨z,C,_,_,O,_⟩:=a.reads;exact am.o.2 p _ _ _ O:False))
  have aE:=Hh (λ(p:o3=false)=>show ∀ d,¬ IsPair ((za0 V).getD h 0) ((za0 V).getD i 0) ((za0 V).getD k 0) d from λ(d:Nat) (a:IsPair ((za0 V).getD h 0) ((za0 V).getD i 0) ((za0 V).getD k 0) d)=>(by
    obtain ⟨z,C,_,_,_,O⟩:=a.reads;exact ap.o.2 p _ _ _ O:False))
  have aB:=Hh (λb (f:Fr NoM l b) (F:Int) (D:Nat) (ok:Bool) s r=>aX.o b f4 g4 (J.o.fr0 f) (t.o.trans f (λ_ _ a=>a.elim)) F D ok s r);have HE:=Hh (aB.o l (Fr.refl _ _));cases o1 with
  | false =>
    have HN:=Hh (aC.o rfl);go_wp2;refine yJ (v:=.tuple #[.agg #[.int .i64 0,.int .i64 0],.bool false]) (by simp [results,Tryz.results137,go_sem,Z,r1,x,y]) rfl ?_
    exact HE.o 0 0 false (λc=>by cases c) (λ_=>HN.o)
  | true =>
    cases o2 with
    | false =>
      have HN:=Hh (aD.o rfl);go_wp2;refine yJ (v:=.tuple #[.agg #[.int .i64 0,.int .i64 0],.bool false]) (by simp [results,Tryz.results137,go_sem,Z,r1,x,y]) rfl ?_
      exact HE.o 0 0 false (λc=>by cases c) (λ_=>HN.o)
    | true =>
      cases o3 with
      | false =>
        have HN:=Hh (aE.o rfl);go_wp2;refine yJ (v:=.tuple #[.agg #[.int .i64 0,.int .i64 0],.bool false]) (by simp [results,Tryz.results137,go_sem,Z,r1,x,y]) rfl ?_
        exact HE.o 0 0 false (λc=>by cases c) (λ_=>HN.o)
      | true =>
        obtain ⟨nx,_,bx⟩:=al.o.1 rfl;obtain ⟨ny,_,b7⟩:=am.o.1 rfl;obtain ⟨nz,_⟩:=ap.o.1 rfl;have aA:=Hh (show aa.2.2<=1000000/\ab.2.2<=1000000 from by have:=HL.o;have:=HV.o;omega);clear bx b7
        have an:=Hh (λs r h3 h4 h5 h6 h7=>yh3 nx ny nz s r h3 h4 h5 h6 h7);have ad:=Hh (λ(d:Nat) (a:IsPair ((za0 V).getD h 0) ((za0 V).getD i 0) ((za0 V).getD k 0) d)=>(by
          obtain ⟨z,C,st,O,i2,i3⟩:=a.reads;exact ⟨z,C,st,nx.of O,ny.of i2,nz.of i3⟩:∃ z C,z + C=1/\aa=(valD d,0,z)/\ab=(valD d,0,C)/\e=(valD d,0,0)))
        clear nx ny nz al am ap aC aD aE;obtain ⟨⟨T1,P1⟩,n1,A⟩:=aa;obtain ⟨⟨G,E⟩,n2,B⟩:=ab;obtain ⟨⟨T3,P3⟩,n3,s3⟩:=e;simp only at x0 x1 x2 x3 y0 y1 y2 y3 z0 z1 z2 z3;by_cases hQ:T1=T3/\P1=P3/\G=T3/\E=P3/\n3=0/\s3=0/\n1=0/\n2=0
        · obtain ⟨rfl, rfl, rfl, rfl, rfl, rfl, rfl, rfl⟩ := hQ
          obtain ⟨W,aJ⟩:∃ W,W=decide ((A:Int) + (B:Int)=1):=⟨_,rfl⟩;have ai:=Hh aJ;have aQ:W=true->∃ d,IsPair ((za0 V).getD h 0) ((za0 V).getD i 0) ((za0 V).getD k 0) d/\G=(valD d).1/\E=(valD d).2:=λc=>by
            have h7:=of_decide_eq_true (ai.o.symm.trans c);obtain ⟨d,N,hd⟩:=an.o rfl rfl rfl rfl rfl rfl (by simp only;omega);exact ⟨d,N,by rw [hd],by rw [hd]⟩
          have aP:W=false->∀ d,¬ IsPair ((za0 V).getD h 0) ((za0 V).getD i 0) ((za0 V).getD k 0) d:=λc d a=>by
            have h7:=of_decide_eq_false (ai.o.symm.trans c);obtain ⟨z,C,st,H,e2,e3⟩:=ad.o d a;have q1:=congrArg (λe=>e.2.2) H;have q2:=congrArg (λe=>e.2.2) e2;simp only at q1 q2;omega
          have aW:=Hh (λb (f:Fr NoM l b)=>aB.o b f G E W aQ aP);have b5:=Hh (λb (f:Fr (λa=>a=w.heap.size) l b)=>show b.cell? ⟨u,0,none⟩=some (.int .i64 G)/\b.cell? ⟨u,1,none⟩=some (.int .i64 (E:Int))/\b.cell? ⟨o,3,none⟩=some (.int .i64 (A:Int))/\b.cell? ⟨q,3,none⟩=some (.int .i64 (B:Int)) from by
            have r:=ao.o;have h3:=aI.o;have h4:=b6.o;have h5:=ac.o;exact ⟨f.cell z0 (λc=>by have c:u=w.heap.size:=c;omega),f.cell z1 (λc=>by have c:u=w.heap.size:=c;omega),f.cell x3 (λc=>by have c:o=w.heap.size:=c;omega),f.cell y3 (λc=>by have c:q=w.heap.size:=c;omega)⟩)
          clear aQ aP aJ an ad;have ba:A<=1000000:=aA.o.1;have a7:B<=1000000:=aA.o.2;go_upto_region 6 with fail;have F0:Fr (λa=>a=w.heap.size) l l:=Fr.refl _ _;have F1:Fr (λa=>a=w.heap.size) l l.drew:=F0.drew;have F2:Fr (λa=>a=w.heap.size) l ((l.setCell ⟨w.heap.size,0,none⟩ (.int .i64 G)).setCell ⟨w.heap.size,1,none⟩ (.int .i64 (E:Int))):=(F0.setCell ⟨w.heap.size,0,none⟩ _ (λ_=>rfl)).setCell ⟨w.heap.size,1,none⟩ _ (λ_=>rfl);have F3:Fr (λa=>a=w.heap.size) l ((l.drew.setCell ⟨w.heap.size,0,none⟩ (.int .i64 G)).setCell ⟨w.heap.size,1,none⟩ (.int .i64 (E:Int))):=(F1.setCell ⟨w.heap.size,0,none⟩ _ (λ_=>rfl)).setCell ⟨w.heap.size,1,none⟩ _ (λ_=>rfl);go_region_held3 (λ(b:World)=>b.cell? ⟨u,0,none⟩=some (.int .i64 G)/\b.cell? ⟨u,1,none⟩=some (.int .i64 (E:Int))/\b.cell? ⟨o,3,none⟩=some (.int .i64 (A:Int))/\b.cell? ⟨q,3,none⟩=some (.int .i64 (B:Int)))
            (exact b5.o _ (‹_›))
            (first | fail)
          all_goals
            rw [show IntKind.i64.wrap ((A:Int) + (B:Int))=(A:Int) + (B:Int) from by rw [IntKind.wrap_i64];omega];obtain ⟨bS,aw⟩:∃ bS,bS=((A:Int) + (B:Int) == 1):=⟨_,rfl⟩;have b8:bS=W:=by rw [aw,ai.o];rfl
            rw [<-aw];subst b8;clear aw;obtain ⟨Z,r1,x,y⟩:=HR.o _ t.o;go_wp2;refine yJ (v:=.tuple #[.agg #[.int .i64 G,.int .i64 (E:Int)],.bool bS]) (by simp [results,Tryz.results137,go_sem,Z,r1,x,y]) rfl ?_
            exact (aW.o _ (Fr.refl _ _)).drew
        · have HQ := Hh hQ
          have b0:=Hh (show ∀ d,¬ IsPair ((za0 V).getD h 0) ((za0 V).getD i 0) ((za0 V).getD k 0) d from λd a=>by
            obtain ⟨z,C,st,H,e2,e3⟩:=ad.o d a;have a1:=congrArg (λe=>e.1.1) H;have a2:=congrArg (λe=>e.1.2) H;have a3:=congrArg (λe=>e.2.1) H;have b1:=congrArg (λe=>e.1.1) e2;have o:=congrArg (λe=>e.1.2) e2;have q:=congrArg (λe=>e.2.1) e2;have c1:=congrArg (λe=>e.1.1) e3;have c2:=congrArg (λe=>e.1.2) e3;have c3:=congrArg (λe=>e.2.1) e3;have c4:=congrArg (λe=>e.2.2) e3;simp only at a1 a2 a3 b1 o q c1 c2 c3 c4;exact hQ ⟨a1.trans c1.symm,a2.trans c2.symm,b1.trans c1.symm,o.trans c2.symm,c3,c4,a3,q⟩)
          clear hQ an ad;go_wp2;all_goals first
            | (refine yJ (v:=.tuple #[.agg #[.int .i64 0,.int .i64 0],.bool false]) (by simp [results,Tryz.results137,go_sem,Z,r1,x,y]) rfl ?_
               exact HE.o 0 0 false (λc=>by cases c) (λ_=>b0.o))
            | (exfalso;exact HQ.o ⟨by omega,by omega,by omega,by omega,by omega,by omega,by omega,by simp_all⟩)
