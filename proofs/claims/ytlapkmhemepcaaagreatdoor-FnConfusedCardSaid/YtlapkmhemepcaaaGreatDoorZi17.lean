import Derived.Test.YtlapkmhemepcaaaGreatDoorZi0
import Derived.Test.YtlapkmhemepcaaaGreatDoorZis
/- Lemmas. -/
set_option linter.all false
set_option maxHeartbeats 8000000
set_option maxRecDepth 4000
namespace Go.Proofs.YtlapkmhemepcaaaGreatDoor
open Go.RowKit
def outM (b a:Bool):Int:=if b=true then (if a=true then 4 else 1)else if a=true then 2 else 3
def ye2 (C:List Nat)(a x y:Nat)(w:World)(e:Ending)(c:World):Prop:=e=.returned (.int .i64 (outM (geV C x y) (geV C y x)))/\Fr (λb=>b=a) w c
theorem zst {M I:Nat->Prop}{C:List Nat}{V:List PL}{BV:List Nat}(B:BookC V C)(pb a:Nat)(t v u:Value)(o:¬M a)(n:¬I a)(x y:Nat)(D:x<V.length)(E:y<V.length)(f:Nat × Nat->Option Bool)(w:World)(p:PoolS M I w pb V BV (.map (some a)) t v u)(g:MapF encP encB w a f)(e:OrdF C f) : Calls Tryz.prog 116 #[.pointer (some ⟨pb,0,none⟩),.int .i64 (x:Int),.int .i64 (y:Int)] w λb O=>ye2 C a x y w b O:=by have h:=Hh (zte B pb a t v u o n _ x y (vK _) D E f w p g e);have c:=Hh (λ(i:World) (j:Nat × Nat->Option Bool) (L:Fr (λz=>z=a) w i) (g:MapF encP encB i a j) (e:OrdF C j)=>zte B pb a t v u o n _ y x (vK _) E D j i (p.fr L (λz s b=>o (b ▸ s)) (λz s b=>n (b ▸ s))) g e);obtain⟨N,r⟩:=eX (geV C x y);obtain⟨F,q⟩:=eX (geV C y x);have l:=h.out;rw[<-r]at l;have m:=c.out;rw[<-q]at m;have h:=Hh l;have c:=Hh m;unfold ye2;rw[<-r,<-q];clear p g e r q l m;go_enter Tryz.func116,Tryz.ntmps116;go_wp2_with fail;(with_reducible refine h.out.mono ?_);rintro b P ⟨rfl,K,G,H,k⟩;have c:=Hh (c.out P K k G H);have J:=Hh k;clear G H k;go_wp2_with fail;(with_reducible refine c.out.mono ?_);rintro b R ⟨rfl,Q,_,_,A⟩;have d:=Hh (J.out.trans A kP);clear A;cases N with| true =>{cases F with| true =>{go_wp2;go_ret;exact⟨rfl,d.out⟩}| false =>{go_wp2;go_ret;exact⟨rfl,d.out⟩}}| false =>{cases F with| true =>{go_wp2;go_ret;exact⟨rfl,d.out⟩}| false =>{go_wp2;go_ret;exact⟨rfl,d.out⟩}}
theorem ztp {R aC:Nat->Prop}(n o:Value)(Fs g:List PL)(w:World)(l:NodeL R encI w n (i2 Fs))(q:NodeL aC encI w o (i2 g))(r:zar (i2 Fs))(s:zar (i2 g)) :
  Calls Tryz.prog 65 #[.agg #[n],.agg #[o]] w λf w'=>f=.returned (.tuple #[.int .i64 (outM (geC (zaf Fs) (zaf g)) (geC (zaf g) (zaf Fs))),.bool true])/\Fr NoM w w':=by
 obtain⟨aI,a3⟩:=eX (outM (geC (zaf Fs) (zaf g)) (geC (zaf g) (zaf Fs)));rw[<-a3];have ay:=Hh a3;clear a3;obtain⟨k,x⟩:=eX ((w.alloc (.cells #[n] 26)).alloc (.cells #[o] 26));have v:Fr NoM w k:=by rw[x];exact((nW w).alloc _).alloc _
 have ak:k.heap.size=w.heap.size+2:=by rw[x];simp
 have e0:k.heap[w.heap.size]?=some (.cells #[n] 26 (0,0)):=by rw[x];exact((nW _).alloc _).heap (xJ w _) id
 have e1:k.heap[w.heap.size+1]?=some (.cells #[o] 26 (0,0)):=by
  have b:=xJ (w.alloc (.cells #[n] 26)) (.cells #[o] 26);rw[xZ]at b;rw[x];exact b
 have B:=Hh (λc (h:Fr NoM k c)=>show c.cell? ⟨w.heap.size,0,none⟩=some n/\c.cell? ⟨w.heap.size+1,0,none⟩=some o from by
  have h0:=h.heap e0 id;have l:=h.heap e1 id;exact⟨by rw[xX c _ 0 _ _ _ h0];rfl,by rw[xX c _ 0 _ _ _ l];rfl⟩)
 have ap:=Hh (zc5 n (i2 Fs) k (l.fr0 v) true (by simp[r]));have aq:=Hh (λc (h:Fr NoM k c)=>zc5 o (i2 g) c ((q.fr0 v).fr0 h) true (by simp[s]));have aw:=Hh (λc (h:Fr NoM k c)=>((l.low.fr0 v).fr0 h:NodeL (· < w.heap.size) encI c n (i2 Fs)));have ax:=Hh (λc (h:Fr NoM k c)=>((q.low.fr0 v).fr0 h:NodeL (· < w.heap.size) encI c o (i2 g)));have F1:=Hh v;have aB:=Hh ak;obtain⟨a1,c1,rfl,U⟩:=id l;clear U;obtain⟨a2,c2,rfl,U⟩:=id q;clear U l q v ak e0 e1;obtain⟨t,u⟩:=B.out k (Fr.refl _ _);have an:=Hh r;have ao:=Hh s;clear r s;go_enter Tryz.func65,Tryz.ntmps65;go_wp2_with fail;rw[<-x];clear x;(with_reducible refine ap.out.mono ?_);rintro f wx ⟨rfl,fx⟩;have W:=Hh fx;clear t u fx;obtain⟨t,u⟩:=B.out wx W.out;go_wp2_with fail;(with_reducible refine(aq.out wx W.out).mono ?_);rintro f j ⟨rfl,f2⟩;have H:=Hh (W.out.trans f2 kP);clear f2 t u;obtain⟨t,u⟩:=B.out j H.out;have r:=an.out;have s:=ao.out;go_wp2_with fail;refine(zdz j).mono ?_
 rintro f d ⟨rfl,F,ac,L⟩;obtain⟨A,aj⟩:=eX (j.heap.size+5);obtain⟨e,ag⟩:=eX (j.heap.size+1);have M:=ac 1 (by omega);rw[<-ag]at M F;rw[<-aj]at F ⊢;obtain⟨O,ad⟩:=eX (Value.map (some (j.heap.size+2)));obtain⟨Q,af⟩:=eX (Value.map (some (j.heap.size+3)));obtain⟨P,ae⟩:=eX (Value.map (some (j.heap.size+4)));rw[<-ad,<-af,<-ae]at F;clear ac ad af ae;have ah:e<d.heap.size:=(yJ.1 M).1;have al:w.heap.size+2<=j.heap.size:=by have:=H.out.size;have:=aB.out;omega
 have D:=H.out.trans L kP;have av:=Hh (show MapF encP encB d e (λ_=>none)from⟨#[],0,M,by simp,by simp,by simp⟩);have ai:=F.low;have p:=Hh (show ∀a,(λa=>(a=j.heap.size\/a=A)/\a<d.heap.size) a->j.heap.size<=a/\a≠e from λa i=>by
  rcases i.1 with f|f <;> omega)
 have C:Fr NoM d d.drew:=(nW d).drew;have a0:=zg6 A (.slice a1 (i2 Fs).length c1) [] Fs [] (.map (some e)) O Q P d.drew (ai.fr0 C) (λa i=>by rw[World.size_drew];exact i.2) (λa i=>by rw[World.size_drew];exact i.2) PoolOK.nil (aw.out d.drew (D.trans C kP)).ofI (λy E hm=>by have:=(p.out y hm).1;have E:y<w.heap.size:=E;omega) r (by simp);obtain⟨m,Z⟩:∃m:Nat->Prop,m=λa=>(a=j.heap.size\/a=A)/\a<d.heap.size:=⟨_,rfl⟩
 obtain⟨I,Y⟩:∃I:Nat->Prop,I=λa=>NoM a/\a<d.heap.size:=⟨_,rfl⟩
 have p:=Hh (show ∀a,m a->j.heap.size<=a/\a≠e from by rw[Z];exact p.out);have au:=Hh (show ∀a,¬I a from by rw[Y];exact λa b=>b.1);rw[<-Z,<-Y]at a0;have az:=Hh a0;have X:=Hh (λc (h:Fr (λa=>m a\/a=e) d c)=>(D.trans h (λa i b=>by
  have q:=H.out.size;rcases b with b|b
  ·have:=(p.out a b).1;omega
  ·omega):Fr NoM k c))
 have ab:=λ(c:World) (J:List PL) (V:List Nat) (a8 a7:Nat->Prop) (h:Fr m d c) (hP:PoolS a8 a7 c A J V (.map (some e)) O Q P) (aG:PoolOK J V) (hM:∀a,a8 a->(m a\/d.heap.size<=a)/\a<c.heap.size) (hI:∀a,a7 a->(I a\/d.heap.size<=a)/\a<c.heap.size) (hn:J.length<1000000) =>
  zg6 A (.slice a2 (i2 g).length c2) J g V (.map (some e)) O Q P c hP (λa i=>(hM a i).2) (λa i=>(hI a i).2) aG (ax.out c (X.out c (h.mono (λ_ _ a=>.inl a)))).ofI (λy E hm=>by
   have E:y<w.heap.size:=E;have h3:=L.size;rcases (hM y hm).1 with b|b
   ·have:=(p.out y b).1;omega
   ·omega) s hn
 have aA:=Hh ab;have a9:Fs.length<=120:=by have b:=r.1;unfold zax at b;rw[kJ,zb9]at b;exact b.1
 have aa:g.length<=120:=by have b:=s.1;unfold zax at b;rw[kJ,zb9]at b;exact b.1
 have a5:=Hh (And.intro a9 aa);have a6:=Hh ah;have aL:=Hh al;have aJ:=Hh D;have aK:=Hh L;clear t u;obtain⟨t,u⟩:=B.out d D;have C0:d.drew.cell? ⟨w.heap.size,0,none⟩=some (.slice a1 (i2 Fs).length c1):=C.cell t id;have C1:d.drew.cell? ⟨w.heap.size+1,0,none⟩=some (.slice a2 (i2 g).length c2):=C.cell u id;clear F M aj ag ah al D ai a0 Z Y ab a9 aa L r s;go_upto_region 4 with fail;go_region_law (first
  | (go_simp;first
   | (go_at_call 59;(with_reducible refine az.out.mono ?_);rintro f T ⟨S,V1,B1,M1,I1,rfl,pa,oa,va,ra,ca,ua,G,N,fa⟩;have z:Fr m d T:=C.any.trans fa kP;obtain⟨j0,j1⟩:=B.out T (X.out T (z.mono (λ_ _ a=>.inl a)));(try simp only[World.size_drew]at G N);have aM:V1.length<=120:=by { have l:=zde oa ua;have q:=a5.out;simp[za2,za0]at l;have h3:=za2 Fs;unfold za0 at h3;omega })
   | (go_at_call 59;(with_reducible refine(aA.out T V1 B1 M1 I1 z pa oa G N (by omega)).mono ?_);rintro f wb ⟨r2,K,B2,M2,I2,rfl,am,a4,vb,rb,cb,ub,mb,ib,fb⟩;have kb:Fr m d wb:=z.trans fb (λa i b=>(G a b).1.elim id (λU=>by omega));have aD:(za0 K).getD S 0=zaf Fs:=by { rw[zap vb ra];exact ca };have la:=vb.length_le;have aN:K.length<=240:=by { have l:=zde a4 ub;have q:=a5.out;rw[yZ,za2,za2]at l;omega };have aF:¬M2 e:=(λf=>by { have hs:=a6.out;have hz:=z.size;rcases (mb e f).1 with b|b;{ rcases (G e b).1 with b|b;{ exact(p.out e b).2 rfl };{ omega } };{ omega } });have aE:¬I2 e:=(λf=>by { have hs:=a6.out;have hz:=z.size;rcases (ib e f).1 with b|b;{ rcases (N e b).1 with b|b;{ exact au.out e b };{ omega } };{ omega } });have ar:=Hh (zst a4.book A e O Q P aF aE S r2 (by omega) rb (λ_=>none) wb am (av.out.fr kb (λb=>(p.out _ b).2 rfl)) (OrdF.none _));have aH:outM (geV (za0 K) S r2) (geV (za0 K) r2 S)=aI:=by { unfold geV;rw[aD,cb,ay.out] })
   | (go_at_call 116;(with_reducible refine ar.out.mono ?_);rintro f wc ⟨rfl,fc⟩;have kc:Fr (λa=>m a\/a=e) d wc:=(kb.mono (λ_ _ a=>.inl a)).trans fc (λa i b=>.inr b);rw[aH])
   | fail)
  | fail)
 all_goals
  have KC:=Hh (F1.out.trans (X.out wc kc) kP);clear pa oa va ra ca ua G N fa am a4 vb rb cb ub mb ib fb fc kc kb z;go_wp2;go_ret2;exact⟨rfl,KC.out⟩
