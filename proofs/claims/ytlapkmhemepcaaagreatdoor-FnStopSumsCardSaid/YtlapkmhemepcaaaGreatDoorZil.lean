import Derived.Test.YtlapkmhemepcaaaGreatDoorZir
/- Lemmas. -/
set_option linter.all false
namespace Go.Proofs.YtlapkmhemepcaaaGreatDoor
open Go.RowKit
theorem zcs (a:Nat):geC a a=true:=by induction a using Nat.strongRecOn with| _ a h =>{rw[zdm];constructor;{intro d g;cases e:geC a d with| false=>rfl| true =>{have b:=((zdm a d).1 e).1 d g;rw[h d (za7 (.inr g))]at b;cases b}};{intro c f;cases e:geC c a with| false=>rfl| true =>{have b:=((zdm c a).1 e).2 c f;rw[h c (za7 (.inl f))]at b;cases b}}}
theorem zdk {a b r:Nat}(c:geC a b=true)(d:hasR a r):geC b r=false:=((zdm a b).1 c).1 r d
theorem zfc {a b l:Nat}(c:geC a b=true)(d:hasL b l):geC l a=false:=((zdm a b).1 c).2 l d
theorem zct {a b:Nat}(e:∀d,hasR a d->geC b d=false)(f:∀c,hasL b c->geC c a=false):geC a b=true:=(zdm a b).2 ⟨e,f⟩
theorem zhd {a b:Nat}(g:geC a b=false):(∃d,hasR a d/\geC b d=true)\/∃c,hasL b c/\geC c a=true:=by
 refine Classical.byContradiction λf=>?_
 have:geC a b=true:=zct (λd i=>by
  cases e:geC b d with
  | false=>rfl
  | true=>exact absurd (.inl ⟨d,i,e⟩) f) (λc h=>by
  cases e:geC c a with
  | false=>rfl
  | true=>exact absurd (.inr ⟨c,h,e⟩) f)
 rw[g]at this;cases this
theorem ge_trans' (n:Nat):∀a b c,a+b+c<n->geC a b=true->geC b c=true->geC a c=true:=by induction n with| zero=>{intro a b c o;omega}| succ n j =>{intro a b c p f g;refine zct (λl i=>?_) λk h=>?_;{cases e:geC c l with| false=>rfl| true =>{have m:=za7 (.inr i);have d:=j b c l (by omega) g e;rw[zdk f i]at d;cases d}};{cases e:geC k a with| false=>rfl| true =>{have m:=za7 (.inl h);have d:=j k a b (by omega) e f;rw[zfc g h]at d;cases d}}}
theorem zae {a b c:Nat}(d:geC a b=true)(e:geC b c=true):geC a c=true:=ge_trans' _ a b c (vK _) d e
theorem zb3 {a b c:Nat}(f:geC a b=true)(d:geC a c=false):geC b c=false:=by cases e:geC b c with| false=>rfl| true=>rw[zae f e]at d;cases d
theorem zb5 {a b c:Nat}(f:geC c b=true)(d:geC a b=false):geC a c=false:=by cases e:geC a c with| false=>rfl| true=>rw[zae e f]at d;cases d
theorem zci {a l:Nat}(b:hasL a l):geC l a=false:=zfc (zcs a) b
theorem zbt {a r:Nat}(b:hasR a r):geC a r=false:=zdk (zcs a) b
structure CanC1 (a:Nat):Prop where
 domL:∀l l',hasL a l->hasL a l'->geC l' l=true->l'=l
 domR:∀r r',hasR a r->hasR a r'->geC r r'=true->r'=r
 revL:∀l r,hasL a l->hasR l r->geC a r=false
 revR:∀r l,hasR a r->hasL r l->geC l a=false
def CanC (a:Nat):Prop:=∀b,SubC a b->CanC1 b
theorem CanC.opt {a x:Nat}(b:CanC a)(c:optC a x):CanC x:=λe d=>b e ((SubC.root.step c).trans d)
theorem CanC.mk {a:Nat}(g:CanC1 a)(h:∀b,optC a b->CanC b):CanC a:=by intro b i;have k:b=a\/∃c,optC a c/\SubC c b:=by{induction i with| root=>exact .inl rfl| step _ f j =>{rcases j with rfl|⟨c,e,d⟩;{exact .inr ⟨_,f,.root⟩};{exact .inr ⟨c,e,d.step f⟩}}};rcases k with rfl|⟨c,e,d⟩;{exact g};{exact h c e b d}
theorem zye (a b:Nat)(r:∀k l,k+l<a+b->CanC k->CanC l->geC k l=true->geC l k=true->k=l)(p:CanC a)(q:CanC b)(m:geC a b=true)(n:geC b a=true) : (∀g,hasL a g->hasL b g)/\∀h,hasR a h->hasR b h:=by have o:=p a .root;have s:=q b .root;constructor;{intro g e;rcases zhd (zfc n e)with ⟨h,f,c⟩|⟨t,i,c⟩;{have:=zae m c;rw[o.revL g h e f]at this;cases this};{rcases zhd (zfc m i)with ⟨h,f,d⟩|⟨u,z,d⟩;{have:=zae n d;rw[s.revL t h i f]at this;cases this};{obtain rfl:=o.domL g u e z (zae d c);have x:=za7 (.inl e);have y:=za7 (.inl i);rw[r u t (by omega) (p.opt (.inl e)) (q.opt (.inl i)) d c];exact i}}};{intro h f;rcases zhd (zdk m f)with ⟨v,j,c⟩|⟨g,e,c⟩;{rcases zhd (zdk n j)with ⟨w,A,d⟩|⟨g,e,d⟩;{obtain rfl:=o.domR h w f A (zae c d);have x:=za7 (.inr f);have y:=za7 (.inr j);rw[r w v (by omega) (p.opt (.inr f)) (q.opt (.inr j)) c d];exact j};{have:=zae d m;rw[s.revR v g j e]at this;cases this}};{have:=zae c n;rw[o.revR h g f e]at this;cases this}}
theorem can_one' (n:Nat):∀a b,a+b<n->CanC a->CanC b->geC a b=true->geC b a=true->a=b:=by induction n with| zero=>{intro a b h;omega}| succ n k =>{intro a b q f g i j;obtain⟨l,m⟩:=zye a b (λd e h=>k d e (by omega)) f g i j;obtain⟨o,p⟩:=zye b a (λd e h=>k d e (by omega)) g f j i;exact zgu (λc=>⟨l c,o c⟩) λc=>⟨m c,p c⟩}
theorem zvg {a b:Nat}(c:CanC a)(d:CanC b)(e:geC a b=true)(f:geC b a=true):a=b:=can_one' _ a b (vK _) c d e f
open Classical in
noncomputable def canC (f:Nat):Nat:=if b:∃a,CanC a/\geC a f=true/\geC f a=true then Classical.choose b else 0
theorem zvh {f c:Nat}(a:CanC c)(b:geC c f=true)(d:geC f c=true):c=canC f:=by have e:∃c,CanC c/\geC c f=true/\geC f c=true:=⟨c,a,b,d⟩;unfold canC;rw[dif_pos e];obtain⟨g,h,i⟩:=Classical.choose_spec e;exact zvg a g (zae b i) (zae h d)
theorem zsm {f:Nat}{d e SL SR:List Nat}(s:∀a∈d,geC a f=false)(t:∀a∈e,geC f a=false) (sL:∀a∈SL,(∃m∈d,geC m a=true)\/∃h,hasR a h/\geC f h=true/\∀b,hasL h b->b∈SL) (sR:∀a∈SR,(∃m∈e,geC a m=true)\/∃h,hasL a h/\geC h f=true/\∀c,hasR h c->c∈SR) (z:∀b,hasL f b->∃a∈SL,geC a b=true) (A:∀c,hasR f c->∃a∈SR,geC c a=true) : geC (mkC d e) f=true/\geC f (mkC d e)=true:=by have u:∀i a,a<i->a∈SL->geC a (mkC d e)=false:=by{intro i;induction i with| zero=>{intro a w;omega}| succ i r =>{intro a y l;rcases sL a l with ⟨m,p,g⟩|⟨h,n,g,q⟩;{exact zb3 g (zci ((zam d e m).2 p))};{have x:=za7 (.inr n);have o:geC (mkC d e) h=true:=zct (λc k=>zb3 g (t c ((zak d e c).1 k))) λb j=>r b (by have:=za7 (.inl j);omega) (q b j);exact zb5 o (zbt n)}}};have v:∀i a,a<i->a∈SR->geC (mkC d e) a=false:=by{intro i;induction i with| zero=>{intro a w;omega}| succ i r =>{intro a y l;rcases sR a l with ⟨m,p,g⟩|⟨h,n,g,q⟩;{exact zb5 g (zbt ((zak d e m).2 p))};{have x:=za7 (.inl n);have o:geC h (mkC d e)=true:=zct (λc k=>r c (by have:=za7 (.inr k);omega) (q c k)) λb j=>zb5 g (s b ((zam d e b).1 j));exact zb3 o (zci n)}}};constructor;{refine zct (λc k=>t c ((zak d e c).1 k)) λb j=>?_;obtain⟨a,l,g⟩:=z b j;exact zb3 g (u _ a (vK _) l)};{refine zct (λc k=>?_) λb j=>s b ((zam d e b).1 j);obtain⟨a,l,g⟩:=A c k;exact zb5 g (v _ a (vK _) l)}
theorem zz0 {f:Nat}{a b:List Nat}(q:geC (mkC a b) f=true)(r:geC f (mkC a b)=true)(m:∀c∈a,CanC c)(n:∀c∈b,CanC c) (o:∀c∈a,∀i∈a,geC i c=true->i=c) (p:∀c∈b,∀i∈b,geC c i=true->i=c) (s:∀c∈a,∀g,hasR c g->geC f g=false) (t:∀c∈b,∀e,hasL c e->geC e f=false):CanC (mkC a b):=by refine CanC.mk ⟨λe k d h=>o e ((zam a b e).1 d) k ((zam a b k).1 h),λg l d h=>p g ((zak a b g).1 d) l ((zak a b l).1 h),λe g d h=>zb3 r (s e ((zam a b e).1 d) g h),λg e d h=>zb5 q (t g ((zak a b g).1 d) e h)⟩ ?_;rintro j (d|d);{exact m j ((zam a b j).1 d)};{exact n j ((zak a b j).1 d)}
theorem zim {L P:List Nat}{x:Nat}:x∈zan L P↔∃a,L[a]?=some x/\a ∉ P:=by unfold zan;rw[y6];constructor;{rintro⟨⟨d,a⟩,b,rfl⟩;rw[List.mem_filter]at b;exact⟨a,List.mem_zipIdx_iff_getElem?.1 b.1,by simpa using b.2⟩};{rintro⟨a,b,c⟩;exact⟨(x,a),List.mem_filter.2 ⟨List.mem_zipIdx_iff_getElem?.2 b,by simpa using c⟩,rfl⟩}
theorem zut {g:Nat->Nat->Bool}{L:List Nat}{k:Nat}:k∈domB g L↔k<L.length/\∃a,a<L.length/\domP g L k a=true:=by unfold domB;rw[List.mem_filter,vW,List.any_eq_true];simp only[vW]
theorem zks {g:Nat->Nat->Bool}{L:List Nat}{k j:Nat}:domP g L k j=true↔j≠k/\g (L.getD k 0) (L.getD j 0)=true/\(g (L.getD j 0) (L.getD k 0)=false\/j<k):=by unfold domP;rw[Bool.and_eq_true,Bool.and_eq_true,Bool.or_eq_true,kJ,kJ,Bool.not_eq_true']
theorem ya2 {g:Nat->Nat->Bool}(f:∀h l m,g h l=true->g l m=true->g h m=true){L:List Nat}{k j i:Nat}(p:domP g L k j=true)(q:domP g L j i=true):domP g L k i=true:=by rw[zks]at p q ⊢;obtain⟨v,d,r⟩:=p;obtain⟨w,e,s⟩:=q;have t:=f _ _ _ d e;have u:g (L.getD i 0) (L.getD k 0)=false\/i<k:=by{cases c:g (L.getD i 0) (L.getD k 0)with| false=>exact .inl rfl| true =>{have n:=f _ _ _ e c;have o:=f _ _ _ c d;rcases r with a|a;{rw[a]at n;cases n};{rcases s with b|b;{rw[b]at o;cases o};{exact .inr (by omega)}}}};refine⟨λc=>?_,t,u⟩;subst c;rcases r with a|a;{rw[a]at e;cases e};{rcases s with b|b;{rw[b]at d;cases d};{omega}}
theorem yda {g:Nat->Nat->Bool}(m:∀e f i,g e f=true->g f i=true->g e i=true)(L:List Nat):∀c a,a<L.length->((List.range L.length).filter (domP g L a)).length<c -> ∃b,b<L.length/\b ∉ domB g L/\(b=a\/g (L.getD a 0) (L.getD b 0)=true):=by intro c;induction c with| zero=>{intro a _ h;omega}| succ c u =>{intro a q w;by_cases k:a∈domB g L;{obtain⟨_,b,l,d⟩:=zut.1 k;have v:((List.range L.length).filter (domP g L b)).length+1<=((List.range L.length).filter (domP g L a)).length:=by{have r:(b::(List.range L.length).filter (domP g L b)).Nodup:=by{refine List.nodup_cons.2 ⟨λh=>?_,List.nodup_range.filter _⟩;exact(zks.1 (List.mem_filter.1 h).2).1 rfl};have:=r.length_le_of_subset (l₂:=(List.range L.length).filter (domP g L a)) (λx hx=>by{rcases kK.1 hx with rfl|hx;{exact List.mem_filter.2 ⟨vW.2 l,d⟩};{obtain⟨n,o⟩:=List.mem_filter.1 hx;exact List.mem_filter.2 ⟨n,ya2 m d o⟩}});simpa using this};obtain⟨t,p,s,h⟩:=u b l (by omega);refine⟨t,p,s,.inr ?_⟩;have j:=(zks.1 d).2.1;rcases h with rfl|h;{exact j};{exact m _ _ _ j h}};{exact⟨a,q,k,.inl rfl⟩}}
theorem zhc {L:List Nat}{i x:Nat}(a:L[i]?=some x):L.getD i 0=x:=by rw[xY,a];rfl
theorem zeq {g:Nat->Nat->Bool}(m:∀b c d,g b c=true->g c d=true->g b d=true){L:List Nat}{x:Nat}(n:x∈L):∃i∈zan L (domB g L),i=x\/g x i=true:=by obtain⟨o,f,rfl⟩:=uZ n;obtain⟨h,e,l,a⟩:=yda m L _ o f (vK _);have j:=zhc (xQ e);have k:=zhc (xQ f);refine⟨L[h],zim.2 ⟨h,xQ e,l⟩,?_⟩;rcases a with rfl|a;{exact .inl rfl};{rw[j,k]at a;exact .inr a}
theorem zff {g:Nat->Nat->Bool}{L:List Nat}{x y:Nat}(l:x∈zan L (domB g L))(m:y∈zan L (domB g L))(j:g x y=true):x=y:=by obtain⟨e,b,o⟩:=zim.1 l;obtain⟨d,a,n⟩:=zim.1 m;have h:=(xV.1 b).1;have f:=(xV.1 a).1;by_cases c:d=e;{subst c;rw[b]at a;exact yK a};{refine absurd (zut.2 ⟨h,d,f,?_⟩) o;rw[zks,zhc b,zhc a];refine⟨c,j,?_⟩;cases k:g y x with| false=>exact .inl rfl| true =>{refine .inr (Classical.byContradiction λp=>n (zut.2 ⟨f,e,h,?_⟩));rw[zks,zhc b,zhc a];exact⟨λi=>c i.symm,k,.inr (by omega)⟩}}
def zfy:Nat:=mkC [] []
theorem yhe (i:Nat):¬hasL zfy i:=λa=>by have:=(zam [] [] i).1 a;simp at this
theorem yhd (i:Nat):¬hasR zfy i:=λa=>by have:=(zak [] [] i).1 a;simp at this
theorem zft (c:Nat):zaf (zad c)=c:=(zen (zbb c)).2.2.2.2.2
def posC:Nat->Nat
 | 0=>zfy
 | n+1=>mkC [posC n] []
def zh0:Nat->Nat
 | 0=>zfy
 | n+1=>mkC [] [zh0 n]
def intC (t:Int):Nat:=if 0<=t then posC t.toNat else zh0 (-t).toNat
theorem zt9:intC 0=zfy:=rfl
theorem zke {t:Int}(c:0<t):intC t=mkC [intC (t-1)] []:=by unfold intC;rw[if_pos (by omega),if_pos (by omega)];obtain⟨a,b⟩:∃a:Nat,t.toNat=a+1:=⟨t.toNat-1,by omega⟩;rw[b,show(t-1).toNat=a from by omega];rfl
theorem zkf {t:Int}(d:t<0):intC t=mkC [] [intC (t+1)]:=by unfold intC;rw[if_neg (by omega)];obtain⟨a,c⟩:∃a:Nat,(-t).toNat=a+1:=⟨(-t).toNat-1,by omega⟩;rw[c];by_cases b:t=-1;{subst b;(have:a=0:=by omega);subst this;rfl};{rw[if_neg (by omega),show(-(t+1)).toNat=a from by omega];rfl}
def numF:Nat->Int->Nat->Nat
 | 0,a,_=>intC a
 | k+1,a,b=>if b=0 then intC a else mkC [numF k (redT (a-1) b).1 (redT (a-1) b).2] [numF k (redT (a+1) b).1 (redT (a+1) b).2]
def numC (t:Int)(p:Nat):Nat:=numF p t p
def nr (t:Int)(p:Nat):Nat:=numC (redT t p).1 (redT t p).2
theorem yc8:∀(b a:Nat) (t:Int) (p:Nat),a<b->Red t p->p<=a->numF a t p=numF p t p:=by intro b;induction b with| zero=>{intro a t p g;omega}| succ b d =>{intro a t p j f l;cases a with| zero =>{(have:p=0:=by omega);subst this;rfl}| succ a =>{cases p with| zero=>rfl| succ c =>{have k:t%2≠0:=f.resolve_left (by omega);have h:=znt (t:=t-1) (p:=c+1) (by omega) (by omega);have i:=znt (t:=t+1) (p:=c+1) (by omega) (by omega);rw[numF,if_neg (by omega),numF,if_neg (by omega)];rw[d a _ _ (by omega) (zdc _ _) (by omega),d a _ _ (by omega) (zdc _ _) (by omega)];by_cases e:c<b;{rw[d c _ _ e (zdc _ _) (by omega),d c _ _ e (zdc _ _) (by omega)]};{omega}}}}
theorem zfm (t:Int):numC t 0=intC t:=rfl
theorem zt0 {t:Int}{p:Nat}(e:0<p)(b:t%2≠0):numC t p=mkC [nr (t-1) p] [nr (t+1) p]:=by obtain⟨a,rfl⟩:∃a,p=a+1:=⟨p-1,by omega⟩;have c:=znt (t:=t-1) (p:=a+1) (by omega) (by omega);have d:=znt (t:=t+1) (p:=a+1) (by omega) (by omega);unfold numC nr numC;rw[numF,if_neg (by omega),yc8 (a+1) a _ _ (by omega) (zdc _ _) (by omega),yc8 (a+1) a _ _ (by omega) (zdc _ _) (by omega)]
theorem zox {t:Int}{p:Nat}(a:Red t p):nr t p=numC t p:=by unfold nr;rw[zd6 a]
theorem zby (t:Int):nr t 0=intC t:=rfl
theorem zcc {x:Int}{q:Nat}(a:x%2=0):nr x (q+1)=nr (x/2) q:=by unfold nr;rw[zbs a]
theorem zh7 {x:Int}{q:Nat}(a:x%2≠0):nr x (q+1)=mkC [nr ((x-1)/2) q] [nr ((x+1)/2) q]:=by rw[zox (.inr a),zt0 (by omega) a,zcc (by omega),zcc (by omega)]
theorem zk3 {L R:List Nat}{i:Nat}(a:optC (mkC L R) i):i∈L\/i∈R:=a.imp (zam L R i).1 (zak L R i).1
def yh1 (t:Int)(p:Nat)(K:Int)(c:Nat):Prop:=(∃b:Int,-K<=b/\b<=K/\c=intC b)\/∃a,a<=p/\(c=nr (t/2^(p-a)) a\/c=nr (t/2^(p-a)+1) a)
theorem zv5 {k K:Int}{i:Nat}(d:-K<=k)(e:k<=K)(a:optC (intC k) i):∃k:Int,-K<=k/\k<=K/\i=intC k:=by by_cases b:k=0;{subst b;rw[zt9]at a;rcases a with a|a;{exact absurd a (yhe i)};{exact absurd a (yhd i)}};{by_cases c:0<k;{rw[zke c]at a;rcases zk3 a with a|a;{exact⟨k-1,by omega,by omega,yQ.1 a⟩};{simp at a}};{rw[zkf (by omega)]at a;rcases zk3 a with a|a;{simp at a};{exact⟨k+1,by omega,by omega,yQ.1 a⟩}}}
theorem ycy {t:Int}{p q:Nat}(a:q+1<=p):t/2^(p-q)=t/2^(p-(q+1))/2:=by rw[Int.ediv_ediv_of_nonneg (by exact Int.pow_nonneg (by decide)),<-Int.pow_succ,show(p-(q+1)).succ=p-q from by omega]
theorem yc1 {t:Int}{p:Nat}{K:Int}(r:-K<=t/2^p/\t/2^p+1<=K):∀(a:Nat),a<=p->∀(d:Int),(d=t/2^(p-a)\/d=t/2^(p-a)+1)->∀f,optC (nr d a) f->yh1 t p K f:=by intro a;induction a with| zero =>{intro _ d b f c;rw[zby]at c;rw[Nat.sub_zero]at b;exact .inl (zv5 (by omega) (by omega) c)}| succ a q =>{intro o d b f c;have g:=ycy o (t:=t);obtain⟨j,n⟩:=eX (t/2^(p-(a+1)));rw[<-n]at b g;have l:∀e,e=j/2->yh1 t p K (nr e a):=λe i=>.inr ⟨a,by omega,.inl (by rw[i,g])⟩;have m:∀e,e=j/2+1->yh1 t p K (nr e a):=λe i=>.inr ⟨a,by omega,.inr (by rw[i,g])⟩;by_cases k:d%2=0;{rw[zcc k]at c;refine q (by omega) (d/2) ?_ f c;rw[g];omega};{rw[zh7 k]at c;rcases zk3 c with h|h;{rw[yQ.1 h];rcases b with b|b;{exact l _ (by omega)};{exact l _ (by omega)}};{rw[yQ.1 h];rcases b with b|b;{exact m _ (by omega)};{exact m _ (by omega)}}}}
theorem yhx {t:Int}{p:Nat}{K:Int}(i:Red t p)(d:-K<=t/2^p/\t/2^p+1<=K){c:Nat}(a:SubC (numC t p) c):yh1 t p K c:=by induction a with| root=>exact .inr ⟨p,xW _,.inl (by rw[Nat.sub_self,Int.pow_zero,Int.ediv_one,zox i])⟩| step _ b j =>{rcases j with ⟨k,g,h,rfl⟩|⟨f,e,a|a⟩;{exact .inl (zv5 g h b)};{rw[a]at b;exact yc1 d f e _ (.inl rfl) _ b};{rw[a]at b;exact yc1 d f e _ (.inr rfl) _ b}}
def numU (t:Int)(p:Nat)(K:Nat):List Nat:=((List.range (2*K+1)).map λ(b:Nat)=>intC ((b:Int)-K))++(List.range (p+1)).flatMap λa=>[nr (t/2^(p-a)) a,nr (t/2^(p-a)+1) a]
theorem zxg (t:Int)(p K:Nat):(numU t p K).length=2*K+1+2*(p+1):=by unfold numU;rw[yZ,uJ,uY];congr 1;have:∀a:List Nat,(a.flatMap λb=>[nr (t/2^(p-b)) b,nr (t/2^(p-b)+1) b]).length=2*a.length:=by{intro a;induction a with| nil=>rfl| cons d e c=>rw[List.flatMap_cons,yZ,c,List.length_cons];simp;omega};rw[this,uY]
theorem yk6 {t:Int}{p K:Nat}(e:Red t p)(d:-(K:Int)<=t/2^p/\t/2^p+1<=K){c:Nat}(a:SubC (numC t p) c):c∈numU t p K:=by unfold numU;rcases yhx e d a with ⟨b,g,h,rfl⟩|⟨f,i,a⟩;{refine y8 _ (y6.2 ⟨(b+K).toNat,vW.2 (by omega),?_⟩);rw[show(((b+K).toNat:Nat):Int)-(K:Int)=b from by omega]};{refine List.mem_append_right _ (List.mem_flatMap.2 ⟨f,vW.2 (by omega),?_⟩);rcases a with a|a;{rw[a];simp};{rw[a];simp}}
def numB (t:Int)(p:Nat):Nat:=if p=0 then t.natAbs else t.natAbs/2^p+p+1
noncomputable def numN (t:Int)(p:Nat):List PL:=zad (numC t p)
theorem zkg (n:Nat):intC (n:Int)=posC n:=by unfold intC;rw[if_pos (by omega)];rfl
theorem zhb (n:Nat):intC (-(n:Int))=zh0 n:=by unfold intC;by_cases a:n=0;{subst a;rfl};{rw[if_neg (by omega),show(- -(n:Int)).toNat=n from by omega]}
theorem zxf {t:Int}{p:Nat}(b:Red t p)(a:0<p):numC t p=mkC [numC (redT (t-1) p).1 (redT (t-1) p).2] [numC (redT (t+1) p).1 (redT (t+1) p).2]:=zt0 a (b.resolve_left (by omega))
theorem yc5 {t:Int}{p:Nat}(g:Red t p)(d:t.natAbs/2^p<120):∀a,SubC (numC t p) a->a∈numU t p 121:=λa f=>yk6 g (by
 have e:0<2^p:=Nat.pow_pos (by decide);have h:t.natAbs<120*2^p:=(Nat.div_lt_iff_lt_mul e).1 d;have b:((2^p:Nat):Int)=(2:Int)^p:=by simp
 have c:(0:Int)<2^p:=by rw[<-b];omega
 constructor
 ·have:-121<=t/2^p:=by
   apply(Int.le_ediv_iff_mul_le c).2
   rw[<-b];omega
  simpa using this
 ·have:t/2^p<121:=by
   apply(Int.ediv_lt_iff_lt_mul c).2
   rw[<-b];omega
  have:t/2^p+1<=121:=by omega
  simpa using this) f
def IsCan (c a:Nat):Prop:=CanC c/\geC c a=true/\geC a c=true
theorem IsCan.eq {c a:Nat}(b:IsCan c a):c=canC a:=zvh b.1 b.2.1 b.2.2
theorem IsCan.self {c a:Nat}(b:IsCan c a):IsCan c c:=⟨b.1,zcs c,zcs c⟩
theorem IsCan.step {c a b:Nat}(d:IsCan c a)(e:geC a b=true)(f:geC b a=true):IsCan c b:=⟨d.1,zae d.2.1 e,zae f d.2.2⟩
structure RedL (f:Nat) (KL:List Nat):Prop where
 a:∀i∈KL,geC i f=false
 s:∃SL:List Nat,(∀i∈SL,(∃j∈KL,geC j i=true)\/∃k,hasR i k/\geC f k=true/\∀l,hasL k l->l∈SL)/\∀l,hasL f l->∃i∈SL,geC i l=true
 c:∀i∈KL,CanC i
 d:∀i∈KL,∀j∈KL,geC j i=true->j=i
 r:∀i∈KL,∀r,hasR i r->geC f r=false
structure RedR (f:Nat) (KR:List Nat):Prop where
 a:∀i∈KR,geC f i=false
 s:∃SR:List Nat,(∀i∈SR,(∃j∈KR,geC i j=true)\/∃k,hasL i k/\geC k f=true/\∀l,hasR k l->l∈SR)/\∀l,hasR f l->∃i∈SR,geC l i=true
 c:∀i∈KR,CanC i
 d:∀i∈KR,∀j∈KR,geC i j=true->j=i
 r:∀i∈KR,∀r,hasL i r->geC r f=false
theorem ybk {f:Nat}{g h:List Nat}(b:RedL f g)(e:RedR f h):IsCan (mkC g h) f:=by obtain⟨o,k,l⟩:=b.s;obtain⟨p,m,n⟩:=e.s;obtain⟨i,j⟩:=zsm b.a e.a k m l n;exact⟨zz0 i j b.c e.c b.d e.d b.r e.r,i,j⟩
structure QL (V:List PL) (C:List Nat) (cf:Nat) (S:Nat->Bool) (Q Kp:List Nat):Prop where
 snd:∀i,(S i=true\/i∈Q)->i<V.length/\CanC (C.getD i 0)/\geC (C.getD i 0) cf=false
 kp:∀i∈Kp,S i=true/\∀r∈(za4 V i).2,geC cf (C.getD r 0)=false
 seen:∀i,S i=true->i∈Kp\/∃k∈(za4 V i).2,geC cf (C.getD k 0)=true/\∀l∈(za4 V k).1,S l=true\/l∈Q
 opt:∀l,hasL cf l->∃i,(S i=true\/i∈Q)/\geC (C.getD i 0) l=true
 nodup:Kp.Nodup
structure QR (V:List PL) (C:List Nat) (cf:Nat) (S:Nat->Bool) (Q Kp:List Nat):Prop where
 snd:∀i,(S i=true\/i∈Q)->i<V.length/\CanC (C.getD i 0)/\geC cf (C.getD i 0)=false
 kp:∀i∈Kp,S i=true/\∀r∈(za4 V i).1,geC (C.getD r 0) cf=false
 seen:∀i,S i=true->i∈Kp\/∃k∈(za4 V i).1,geC (C.getD k 0) cf=true/\∀l∈(za4 V k).2,S l=true\/l∈Q
 opt:∀l,hasR cf l->∃i,(S i=true\/i∈Q)/\geC l (C.getD i 0)=true
 nodup:Kp.Nodup
def addS (b:Nat->Bool)(i:Nat):Nat->Bool:=λa=>b a || decide (a=i)
theorem zb0 {a:Nat->Bool}{i k:Nat}:addS a i k=true↔a k=true\/k=i:=by unfold addS;rw[Bool.or_eq_true,kJ]
theorem zb2 {V:List PL}{C:List Nat}(B:BookC V C){i:Nat}(d:i<V.length):(∀a,hasL (C.getD i 0) a↔∃b∈(za4 V i).1,C.getD b 0=a)/\∀a,hasR (C.getD i 0) a↔∃b∈(za4 V i).2,C.getD b 0=a:=by have c:=B.code i _ (za6 d);exact⟨λa=>by rw[c,zam,zaa],λa=>by rw[c,zak,zaa]⟩
section
variable {V:List PL}{C:List Nat}{f:Nat}{S:Nat->Bool}{Q Kp:List Nat}{i k:Nat}
theorem QL.skip {f:Nat}(c:QL V C f S (Q ++ [i]) Kp)(m:S i=true):QL V C f S Q Kp:=by have g:∀b,S b=true\/b∈Q ++ [i]->S b=true\/b∈Q:=λb a=>a.elim .inl (λa=>by{rcases y4.1 a with a|a;{exact .inr a};{rw[yQ.1 a];exact .inl m}});refine⟨λb a=>c.snd b (a.imp_right (y8 _)),c.kp,λb a=>(c.seen b a).imp_right (λ⟨n,j,k,l⟩=>⟨n,j,k,λd e=>g d (l d e)⟩),λd e=>?_,c.nodup⟩;obtain⟨b,a,h⟩:=c.opt d e;exact⟨b,g b a,h⟩
theorem QL.keep {f:Nat}(c:QL V C f S (Q ++ [i]) Kp)(p:¬S i=true)(q:∀s∈(za4 V i).2,geC f (C.getD s 0)=false):QL V C f (addS S i) Q (Kp ++ [i]):=by have h:∀b,S b=true\/b∈Q ++ [i]->addS S i b=true\/b∈Q:=λb a=>a.elim (λa=>.inl (zb0.2 (.inl a))) (λa=>by{rcases y4.1 a with a|a;{exact .inr a};{exact .inl (zb0.2 (.inr (yQ.1 a)))}});refine⟨λb a=>c.snd b ?_,λb a=>?_,λb a=>?_,λe g=>?_,?_⟩;{rcases a with a|a;{rcases zb0.1 a with a|rfl;{exact .inl a};{exact .inr (by simp)}};{exact .inr (y8 _ a)}};{rcases y4.1 a with a|a;{exact⟨zb0.2 (.inl (c.kp b a).1),(c.kp b a).2⟩};{rw[yQ.1 a];exact⟨zb0.2 (.inr rfl),q⟩}};{rcases zb0.1 a with a|rfl;{rcases c.seen b a with a|⟨r,k,l,m⟩;{exact .inl (y8 _ a)};{exact .inr ⟨r,k,l,λe g=>h e (m e g)⟩}};{exact .inl (by simp)}};{obtain⟨b,a,d⟩:=c.opt e g;exact⟨b,h b a,d⟩};{refine List.nodup_append.2 ⟨c.nodup,by simp,λj n t o d=>?_⟩;rw[yQ.1 o]at d;subst d;exact p (c.kp j n).1}
theorem QL.push (B:BookC V C){f:Nat}(c:QL V C f S (Q ++ [i]) Kp)(g:k∈(za4 V i).2)(l:geC f (C.getD k 0)=true):QL V C f (addS S i) (Q++(za4 V k).1) Kp:=by(obtain⟨m,t,_⟩:=c.snd i (.inr (by simp));have w:=(B.opts i _ (za6 m)).2 k g;have n:k<V.length:=by omega);have u:CanC (C.getD k 0):=t.opt (.inr (((zb2 B m).2 _).2 ⟨k,g,rfl⟩));have o:∀b,S b=true\/b∈Q ++ [i]->addS S i b=true\/b∈Q++(za4 V k).1:=λb a=>a.elim (λa=>.inl (zb0.2 (.inl a))) (λa=>by{rcases y4.1 a with a|a;{exact .inr (y8 _ a)};{exact .inl (zb0.2 (.inr (yQ.1 a)))}});refine⟨λb a=>?_,λb a=>⟨zb0.2 (.inl (c.kp b a).1),(c.kp b a).2⟩,λb a=>?_,λe d=>?_,c.nodup⟩;{have h:∀b,S b=true\/b∈Q ++ [i]->b<V.length/\CanC (C.getD b 0)/\geC (C.getD b 0) f=false:=c.snd;rcases a with a|a;{rcases zb0.1 a with a|rfl;{exact h b (.inl a)};{exact h b (.inr (by simp))}};{rcases y4.1 a with a|a;{exact h b (.inr (y8 _ a))};{have x:=(B.opts k _ (za6 n)).1 b a;have j:hasL (C.getD k 0) (C.getD b 0):=((zb2 B n).1 _).2 ⟨b,a,rfl⟩;exact⟨by omega,u.opt (.inl j),zb5 l (zci j)⟩}}};{rcases zb0.1 a with a|rfl;{exact(c.seen b a).imp_right (λ⟨v,q,r,s⟩=>⟨v,q,r,λe d=>o e (s e d)⟩)};{exact .inr ⟨k,g,l,λe d=>.inr (List.mem_append_right _ d)⟩}};{obtain⟨b,a,p⟩:=c.opt e d;exact⟨b,o b a,p⟩}
theorem QL.done (B:BookC V C){m:Nat}(e:QL V C m S [] Kp):RedL m (za3 C (zan Kp (domB (gL C) Kp))):=by have E:∀k l d,gL C k l=true->gL C l d=true->gL C k d=true:=λk l d h n=>zae n h;have i:∀a∈zan Kp (domB (gL C) Kp),a∈Kp:=λa b=>zce b;have p:∀a∈Kp,a<V.length/\CanC (C.getD a 0)/\geC (C.getD a 0) m=false:=λa b=>e.snd a (.inl (e.kp a b).1);refine⟨λd c=>?_,⟨((List.range V.length).filter S).map (λa=>C.getD a 0),λd c=>?_,λs o=>?_⟩,λd c=>?_,λd c H z f=>?_,λd c G D=>?_⟩;{obtain⟨a,b,rfl⟩:=zaa.1 c;exact(p a (i a b)).2.2};{obtain⟨a,b,rfl⟩:=y6.1 c;have u:=(List.mem_filter.1 b).2;rcases e.seen a u with A|⟨j,h,n,y⟩;{obtain⟨t,q,F⟩:=zeq E A;refine .inl ⟨C.getD t 0,zaa.2 ⟨t,q,rfl⟩,?_⟩;rcases F with rfl|f;{exact zcs _};{exact f}};{have w:=(e.snd a (.inl u)).1;have I:=(B.opts a _ (za6 w)).2 j h;refine .inr ⟨C.getD j 0,((zb2 B w).2 _).2 ⟨j,h,rfl⟩,n,λs o=>?_⟩;obtain⟨g,r,rfl⟩:=((zb2 B (show j<V.length by omega)).1 s).1 o;have x:=(y g r).resolve_right (by simp);exact y6.2 ⟨g,List.mem_filter.2 ⟨vW.2 (e.snd g (.inl x)).1,x⟩,rfl⟩}};{obtain⟨a,b,f⟩:=e.opt s o;have v:=b.resolve_right (by simp);exact⟨_,y6.2 ⟨a,List.mem_filter.2 ⟨vW.2 (e.snd a (.inl v)).1,v⟩,rfl⟩,f⟩};{obtain⟨a,b,rfl⟩:=zaa.1 c;exact(p a (i a b)).2.1};{obtain⟨a,b,rfl⟩:=zaa.1 c;obtain⟨t,q,rfl⟩:=zaa.1 z;rw[zff b q f]};{obtain⟨a,b,rfl⟩:=zaa.1 c;obtain⟨g,r,rfl⟩:=((zb2 B (p a (i a b)).1).2 G).1 D;exact(e.kp a (i a b)).2 g r}
theorem QR.skip {f:Nat}(c:QR V C f S (Q ++ [i]) Kp)(m:S i=true):QR V C f S Q Kp:=by have g:∀b,S b=true\/b∈Q ++ [i]->S b=true\/b∈Q:=λb a=>a.elim .inl (λa=>by{rcases y4.1 a with a|a;{exact .inr a};{rw[yQ.1 a];exact .inl m}});refine⟨λb a=>c.snd b (a.imp_right (y8 _)),c.kp,λb a=>(c.seen b a).imp_right (λ⟨n,j,k,l⟩=>⟨n,j,k,λd e=>g d (l d e)⟩),λd e=>?_,c.nodup⟩;obtain⟨b,a,h⟩:=c.opt d e;exact⟨b,g b a,h⟩
theorem QR.keep {f:Nat}(c:QR V C f S (Q ++ [i]) Kp)(p:¬S i=true)(q:∀s∈(za4 V i).1,geC (C.getD s 0) f=false):QR V C f (addS S i) Q (Kp ++ [i]):=by have h:∀b,S b=true\/b∈Q ++ [i]->addS S i b=true\/b∈Q:=λb a=>a.elim (λa=>.inl (zb0.2 (.inl a))) (λa=>by{rcases y4.1 a with a|a;{exact .inr a};{exact .inl (zb0.2 (.inr (yQ.1 a)))}});refine⟨λb a=>c.snd b ?_,λb a=>?_,λb a=>?_,λe g=>?_,?_⟩;{rcases a with a|a;{rcases zb0.1 a with a|rfl;{exact .inl a};{exact .inr (by simp)}};{exact .inr (y8 _ a)}};{rcases y4.1 a with a|a;{exact⟨zb0.2 (.inl (c.kp b a).1),(c.kp b a).2⟩};{rw[yQ.1 a];exact⟨zb0.2 (.inr rfl),q⟩}};{rcases zb0.1 a with a|rfl;{rcases c.seen b a with a|⟨r,k,l,m⟩;{exact .inl (y8 _ a)};{exact .inr ⟨r,k,l,λe g=>h e (m e g)⟩}};{exact .inl (by simp)}};{obtain⟨b,a,d⟩:=c.opt e g;exact⟨b,h b a,d⟩};{refine List.nodup_append.2 ⟨c.nodup,by simp,λj n t o d=>?_⟩;rw[yQ.1 o]at d;subst d;exact p (c.kp j n).1}
theorem QR.push (B:BookC V C){f:Nat}(c:QR V C f S (Q ++ [i]) Kp)(g:k∈(za4 V i).1)(l:geC (C.getD k 0) f=true):QR V C f (addS S i) (Q++(za4 V k).2) Kp:=by(obtain⟨m,t,_⟩:=c.snd i (.inr (by simp));have w:=(B.opts i _ (za6 m)).1 k g;have n:k<V.length:=by omega);have u:CanC (C.getD k 0):=t.opt (.inl (((zb2 B m).1 _).2 ⟨k,g,rfl⟩));have o:∀b,S b=true\/b∈Q ++ [i]->addS S i b=true\/b∈Q++(za4 V k).2:=λb a=>a.elim (λa=>.inl (zb0.2 (.inl a))) (λa=>by{rcases y4.1 a with a|a;{exact .inr (y8 _ a)};{exact .inl (zb0.2 (.inr (yQ.1 a)))}});refine⟨λb a=>?_,λb a=>⟨zb0.2 (.inl (c.kp b a).1),(c.kp b a).2⟩,λb a=>?_,λe d=>?_,c.nodup⟩;{have h:∀b,S b=true\/b∈Q ++ [i]->b<V.length/\CanC (C.getD b 0)/\geC f (C.getD b 0)=false:=c.snd;rcases a with a|a;{rcases zb0.1 a with a|rfl;{exact h b (.inl a)};{exact h b (.inr (by simp))}};{rcases y4.1 a with a|a;{exact h b (.inr (y8 _ a))};{have x:=(B.opts k _ (za6 n)).2 b a;have j:hasR (C.getD k 0) (C.getD b 0):=((zb2 B n).2 _).2 ⟨b,a,rfl⟩;exact⟨by omega,u.opt (.inr j),zb3 l (zbt j)⟩}}};{rcases zb0.1 a with a|rfl;{exact(c.seen b a).imp_right (λ⟨v,q,r,s⟩=>⟨v,q,r,λe d=>o e (s e d)⟩)};{exact .inr ⟨k,g,l,λe d=>.inr (List.mem_append_right _ d)⟩}};{obtain⟨b,a,p⟩:=c.opt e d;exact⟨b,o b a,p⟩}
theorem QR.done (B:BookC V C){m:Nat}(e:QR V C m S [] Kp):RedR m (za3 C (zan Kp (domB (gR C) Kp))):=by have E:∀k l d,gR C k l=true->gR C l d=true->gR C k d=true:=λk l d h n=>zae h n;have i:∀a∈zan Kp (domB (gR C) Kp),a∈Kp:=λa b=>zce b;have p:∀a∈Kp,a<V.length/\CanC (C.getD a 0)/\geC m (C.getD a 0)=false:=λa b=>e.snd a (.inl (e.kp a b).1);refine⟨λd c=>?_,⟨((List.range V.length).filter S).map (λa=>C.getD a 0),λd c=>?_,λs o=>?_⟩,λd c=>?_,λd c H z f=>?_,λd c G D=>?_⟩;{obtain⟨a,b,rfl⟩:=zaa.1 c;exact(p a (i a b)).2.2};{obtain⟨a,b,rfl⟩:=y6.1 c;have u:=(List.mem_filter.1 b).2;rcases e.seen a u with A|⟨j,h,n,y⟩;{obtain⟨t,q,F⟩:=zeq E A;refine .inl ⟨C.getD t 0,zaa.2 ⟨t,q,rfl⟩,?_⟩;rcases F with rfl|f;{exact zcs _};{exact f}};{have w:=(e.snd a (.inl u)).1;have I:=(B.opts a _ (za6 w)).1 j h;refine .inr ⟨C.getD j 0,((zb2 B w).1 _).2 ⟨j,h,rfl⟩,n,λs o=>?_⟩;obtain⟨g,r,rfl⟩:=((zb2 B (show j<V.length by omega)).2 s).1 o;have x:=(y g r).resolve_right (by simp);exact y6.2 ⟨g,List.mem_filter.2 ⟨vW.2 (e.snd g (.inl x)).1,x⟩,rfl⟩}};{obtain⟨a,b,f⟩:=e.opt s o;have v:=b.resolve_right (by simp);exact⟨_,y6.2 ⟨a,List.mem_filter.2 ⟨vW.2 (e.snd a (.inl v)).1,v⟩,rfl⟩,f⟩};{obtain⟨a,b,rfl⟩:=zaa.1 c;exact(p a (i a b)).2.1};{obtain⟨a,b,rfl⟩:=zaa.1 c;obtain⟨t,q,rfl⟩:=zaa.1 z;rw[zff b q f]};{obtain⟨a,b,rfl⟩:=zaa.1 c;obtain⟨g,r,rfl⟩:=((zb2 B (p a (i a b)).1).1 G).1 D;exact(e.kp a (i a b)).2 g r}
end
theorem can_left' {c x l:Nat}(p:CanC c)(j:hasL c l):∀a,SubC x a->geC c a=true->geC l a=false->∃h,SubC x h/\geC h l=true/\geC l h=true:=by intro a;induction a using Nat.strongRecOn with| _ a s =>{intro r i o;have m:=p c .root;rcases zhd o with ⟨g,e,b⟩|⟨u,f,b⟩;{have:=zae i b;rw[m.revL l g j e]at this;cases this};{have k:=r.step (.inl f);rcases zhd (zfc i f)with ⟨g,e,d⟩|⟨t,q,d⟩;{have v:=za7 (.inl f);have w:=za7 (.inr e);exact s g (by omega) (k.step (.inr e)) d (zdk b e)};{have n:=m.domL l t j q (zae d b);rw[n]at d;exact⟨u,k,b,d⟩}}}
theorem can_right' {c x l:Nat}(p:CanC c)(j:hasR c l):∀a,SubC x a->geC a c=true->geC a l=false->∃h,SubC x h/\geC h l=true/\geC l h=true:=by intro a;induction a using Nat.strongRecOn with| _ a s =>{intro r i o;have m:=p c .root;rcases zhd o with ⟨u,f,b⟩|⟨g,e,b⟩;{have k:=r.step (.inr f);rcases zhd (zdk i f)with ⟨t,q,d⟩|⟨g,e,d⟩;{have n:=m.domR l t j q (zae b d);rw[n]at d;exact⟨u,k,d,b⟩};{have v:=za7 (.inr f);have w:=za7 (.inl e);exact s g (by omega) (k.step (.inl e)) d (zfc b e)}};{have:=zae b i;rw[m.revR l g j e]at this;cases this}}
theorem zi7 {c x s:Nat}(p:CanC c)(n:geC x c=true)(o:geC c x=true)(d:SubC c s):∃a,SubC x a/\geC a s=true/\geC s a=true:=by induction d with| root=>exact⟨x,.root,n,o⟩| step d q t =>{obtain⟨l,k,i,j⟩:=t;rename_i m v;have h:CanC m:=λu r=>p u (d.trans r);rcases q with b|b;{obtain⟨a,e,f,g⟩:=can_left' h b l .root j (zb5 i (zci b));exact⟨a,k.trans e,f,g⟩};{obtain⟨a,e,f,g⟩:=can_right' h b l .root i (zb3 j (zbt b));exact⟨a,k.trans e,f,g⟩}}
theorem zoh {c x:Nat}(j:CanC c)(y:geC x c=true)(z:geC c x=true){Fs:List PL}(hF:FormC x Fs):(zad c).length<=Fs.length:=by obtain⟨t,b⟩:=zbb c;obtain⟨u,q⟩:=hF;have E:=b.book.len;have F:=q.book.len;have s:∀a,∃e,SubC c a->SubC x e/\geC e a=true/\geC a e=true:=λa=>by{by_cases p:SubC c a;{obtain⟨e,i⟩:=zi7 j y z p;exact⟨e,λ_=>i⟩};{exact⟨0,λD=>absurd D p⟩}};let f:Nat->Nat:=λa=>Classical.choose (s a);have k:∀a,SubC c a->SubC x (f a)/\geC (f a) a=true/\geC a (f a)=true:=λa=>Classical.choose_spec (s a);have B:(t.map f).Nodup:=by{refine List.pairwise_map.2 (b.book.nodup.imp_of_mem ?_);intro d h g r A i;obtain⟨_,n,o⟩:=k d ((b.sub d).1 g);obtain⟨_,v,w⟩:=k h ((b.sub h).1 r);rw[i]at n o;exact A (zvg (λm l=>j m (((b.sub d).1 g).trans l)) (λm l=>j m (((b.sub h).1 r).trans l)) (zae o v) (zae w n))};have:=B.length_le_of_subset (l₂:=u) (λa C=>by{obtain⟨d,g,rfl⟩:=y6.1 C;exact(q.sub _).2 (k d ((b.sub d).1 g)).1});rw[uJ]at this;omega
theorem ztu:∀a:List Nat,∃b,∀d∈a,d<b:=by intro a;induction a with| nil=>exact⟨0,by simp⟩| cons e h g =>{obtain⟨b,f⟩:=g;refine⟨b+e+1,λd c=>?_⟩;rcases kK.1 c with rfl|c;{omega};{have:=f d c;omega}}
inductive CandL (f:Nat):Nat->Prop
 | opt {l:Nat}:hasL f l->CandL f (canC l)
 | thr {i k l:Nat}:CandL f i->hasR i k->geC f k=true->hasL k l->CandL f l
inductive CandR (f:Nat):Nat->Prop
 | opt {r:Nat}:hasR f r->CandR f (canC r)
 | thr {i k r:Nat}:CandR f i->hasL i k->geC k f=true->hasR k r->CandR f r
theorem CandL.props {f:Nat}(h:∀i,i<f->IsCan (canC i) i){i:Nat}(c:CandL f i):CanC i/\geC i f=false:=by induction c with| opt a =>{have b:=h _ (za7 (.inl a));exact⟨b.1,zb3 b.2.2 (zci a)⟩}| thr _ e d a g=>exact⟨(g.1.opt (.inr e)).opt (.inl a),zb5 d (zci a)⟩
theorem CandR.props {f:Nat}(h:∀i,i<f->IsCan (canC i) i){i:Nat}(c:CandR f i):CanC i/\geC f i=false:=by induction c with| opt a =>{have b:=h _ (za7 (.inr a));exact⟨b.1,zb5 b.2.1 (zbt a)⟩}| thr _ e d a g=>exact⟨(g.1.opt (.inl e)).opt (.inr a),zb3 d (zbt a)⟩
theorem CandL.lt {f N:Nat}(d:∀b,hasL f b->canC b<N){i:Nat}(c:CandL f i):i<N:=by induction c with| opt a=>exact d _ a| thr _ e _ a j =>{have g:=za7 (.inr e);have h:=za7 (.inl a);omega}
theorem CandR.lt {f N:Nat}(d:∀b,hasR f b->canC b<N){i:Nat}(c:CandR f i):i<N:=by induction c with| opt a=>exact d _ a| thr _ e _ a j =>{have g:=za7 (.inl e);have h:=za7 (.inr a);omega}
open Classical in
theorem zue {f:Nat}(q:∀a,a<f->IsCan (canC a) a):∃x,RedL f x:=by obtain⟨s,A⟩:=ztu ((zrp f).map canC);have B:∀e,hasL f e->canC e<s:=λe j=>A _ (y6.2 ⟨e,zbu.2 j,rfl⟩);obtain⟨k,n⟩:∃k:List Nat,∀a,a∈k↔CandL f a:=⟨(List.range s).filter λa=>decide (CandL f a),λa=>by{rw[List.mem_filter,vW,kJ];exact⟨λl=>l.2,λl=>⟨l.lt B,l⟩⟩}⟩;obtain⟨h,m⟩:∃h:List Nat,∀a,a∈h↔CandL f a/\∀g,hasR a g->geC f g=false:=⟨k.filter λa=>decide (∀g,hasR a g->geC f g=false),λa=>by{rw[List.mem_filter,n,kJ]}⟩;have F:∀b c o,(λb c=>geC c b) b c=true->(λb c=>geC c b) c o=true->(λb c=>geC c b) b o=true:=λb c o y z=>zae z y;have p:∀a,a∈zan h (domB (λb c=>geC c b) h)->a∈h:=λa d=>zce d;refine⟨zan h (domB (λb c=>geC c b) h),λa d=>(((m a).1 (p a d)).1.props q).2,⟨k,λa d=>?_,λe j=>?_⟩,λa d=>(((m a).1 (p a d)).1.props q).1,λa d I C i=>(zff d C i).symm,λa d=>((m a).1 (p a d)).2⟩;{have t:=(n a).1 d;by_cases w:∀g,hasR a g->geC f g=false;{obtain⟨H,G,i⟩:=zeq F ((m a).2 ⟨t,w⟩);refine .inl ⟨H,G,?_⟩;rcases i with rfl|i;{exact zcs _};{exact i}};{obtain⟨r,D⟩:=Classical.not_forall.1 w;obtain⟨u,E⟩:=Classical.not_imp.1 D;have v:geC f r=true:=by{cases i:geC f r with| true=>rfl| false=>exact absurd i E};exact .inr ⟨r,u,v,λe j=>(n e).2 (.thr t u v j)⟩}};{exact⟨canC e,(n _).2 (.opt j),(q e (za7 (.inl j))).2.1⟩}
open Classical in
theorem zud {f:Nat}(q:∀a,a<f->IsCan (canC a) a):∃x,RedR f x:=by obtain⟨s,A⟩:=ztu ((zk0 f).map canC);have B:∀c,hasR f c->canC c<s:=λc h=>A _ (y6.2 ⟨c,zbh.2 h,rfl⟩);obtain⟨i,l⟩:∃i:List Nat,∀a,a∈i↔CandR f a:=⟨(List.range s).filter λa=>decide (CandR f a),λa=>by{rw[List.mem_filter,vW,kJ];exact⟨λj=>j.2,λj=>⟨j.lt B,j⟩⟩}⟩;obtain⟨e,k⟩:∃e:List Nat,∀a,a∈e↔CandR f a/\∀d,hasL a d->geC d f=false:=⟨i.filter λa=>decide (∀d,hasL a d->geC d f=false),λa=>by{rw[List.mem_filter,l,kJ]}⟩;have F:∀m n o,geC m n=true->geC n o=true->geC m o=true:=λm n o y z=>zae y z;have p:∀a,a∈zan e (domB geC e)->a∈e:=λa b=>zce b;refine⟨zan e (domB geC e),λa b=>(((k a).1 (p a b)).1.props q).2,⟨i,λa b=>?_,λc h=>?_⟩,λa b=>(((k a).1 (p a b)).1.props q).1,λa b I C g=>(zff b C g).symm,λa b=>((k a).1 (p a b)).2⟩;{have t:=(l a).1 b;by_cases w:∀d,hasL a d->geC d f=false;{obtain⟨H,G,g⟩:=zeq F ((k a).2 ⟨t,w⟩);refine .inl ⟨H,G,?_⟩;rcases g with rfl|g;{exact zcs _};{exact g}};{obtain⟨r,D⟩:=Classical.not_forall.1 w;obtain⟨u,E⟩:=Classical.not_imp.1 D;have v:geC r f=true:=by{cases g:geC r f with| true=>rfl| false=>exact absurd g E};exact .inr ⟨r,u,v,λc h=>(l c).2 (.thr t u v h)⟩}};{exact⟨canC c,(l _).2 (.opt h),(q c (za7 (.inr h))).2.2⟩}
theorem zdq (f:Nat):IsCan (canC f) f:=by induction f using Nat.strongRecOn with| _ f b =>{obtain⟨e,c⟩:=zue b;obtain⟨g,d⟩:=zud b;have a:=ybk c d;rw[a.eq]at a;exact a}
theorem yd0 {a b:Nat}(e:geC a b=true)(f:geC b a=true)(c:Nat):geC c a=geC c b/\geC a c=geC b c:=by constructor;{cases d:geC c b with| true=>exact zae d f| false=>exact zb5 e d};{cases d:geC b c with| true=>exact zae e d| false=>exact zb3 f d}
theorem zk5 (s:Int)(P:Nat):nr (2*s) (P+1)=nr s P:=by rw[zcc (by omega),show 2*s/2=s from by omega]
theorem zeu (s:Int)(P k:Nat):nr (s*2^k) (P+k)=nr s P:=by unfold nr;rw[zbz]
theorem zev {s:Int}{l:Nat}(a:hasL (intC s) l):0<s/\l=intC (s-1):=by by_cases c:s=0;{subst c;exact absurd a (yhe l)};{by_cases b:0<s;{rw[zke b,zam]at a;exact⟨b,yQ.1 a⟩};{rw[zkf (by omega),zam]at a;simp at a}}
theorem zdi {s:Int}{r:Nat}(a:hasR (intC s) r):s<0/\r=intC (s+1):=by by_cases b:s=0;{subst b;exact absurd a (yhd r)};{by_cases c:0<s;{rw[zke c,zak]at a;simp at a};{rw[zkf (by omega),zak]at a;exact⟨by omega,yQ.1 a⟩}}
theorem zn6 {s:Int}(a:0<s):hasL (intC s) (intC (s-1)):=by rw[zke a,zam];simp
theorem zn5 {s:Int}(a:s<0):hasR (intC s) (intC (s+1)):=by rw[zkf a,zak];simp
theorem zdy:∀(c:Nat) (b:Int) (d:Nat),hasL (nr b c) d->∃e,e<b/\d=nr e c:=by intro c;induction c with| zero =>{intro b d a;rw[zby]at a;obtain⟨_,f⟩:=zev a;exact⟨b-1,by omega,by rw[zby];exact f⟩}| succ c h =>{intro b d a;by_cases g:b%2=0;{rw[zcc g]at a;obtain⟨e,i,f⟩:=h _ _ a;exact⟨2*e,by omega,by rw[zk5];exact f⟩};{rw[zh7 g,zam]at a;exact⟨b-1,by omega,by rw[zcc (by omega)];exact yQ.1 a⟩}}
theorem zcz:∀(c:Nat) (b:Int) (g:Nat),hasR (nr b c) g->∃d,b<d/\g=nr d c:=by intro c;induction c with| zero =>{intro b i a;rw[zby]at a;obtain⟨_,e⟩:=zdi a;exact⟨b+1,by omega,by rw[zby];exact e⟩}| succ c h =>{intro b i a;by_cases f:b%2=0;{rw[zcc f]at a;obtain⟨d,j,e⟩:=h _ _ a;exact⟨2*d,by omega,by rw[zk5];exact e⟩};{rw[zh7 f,zak]at a;exact⟨b+1,by omega,by rw[zcc (by omega)];exact yQ.1 a⟩}}
theorem zm4 {s:Int}{P:Nat}(a:s%2≠0):hasL (nr s (P+1)) (nr (s-1) (P+1)):=by rw[zh7 a,zam,zcc (by omega)];simp
theorem zo0 {s:Int}{P:Nat}(a:s%2≠0):hasR (nr s (P+1)) (nr (s+1) (P+1)):=by rw[zh7 a,zak,zcc (by omega)];simp
theorem zzc:∀(d:Nat) (c a:Int),c<a->(∃b,c<=b/\b<a/\hasL (nr a d) (nr b d))\/∃b,c<b/\b<=a/\hasR (nr c d) (nr b d):=by intro d;induction d with| zero =>{intro c a h;by_cases e:0<a;{exact .inl ⟨a-1,by omega,by omega,by rw[zby,zby];exact zn6 e⟩};{exact .inr ⟨c+1,by omega,by omega,by rw[zby,zby];exact zn5 (by omega)⟩}}| succ d k =>{intro c a h;by_cases e:a%2=0;{by_cases g:c%2=0;{rw[zcc e,zcc g];rcases k (c/2) (a/2) (by omega)with ⟨b,i,j,f⟩|⟨b,i,j,f⟩;{exact .inl ⟨2*b,by omega,by omega,by rw[zk5];exact f⟩};{exact .inr ⟨2*b,by omega,by omega,by rw[zk5];exact f⟩}};{exact .inr ⟨c+1,by omega,by omega,zo0 g⟩}};{exact .inl ⟨a-1,by omega,by omega,zm4 e⟩}}
theorem nr_ge' (P n:Nat):∀a b:Int,nr a P+nr b P<n->(b<=a->geC (nr a P) (nr b P)=true)/\(a<b->geC (nr a P) (nr b P)=false):=by induction n with| zero=>{intro a b f;omega}| succ n e =>{intro a b o;refine⟨λf=>zct (λq l=>?_) λp k=>?_,λf=>?_⟩;{have g:=za7 (.inr l);obtain⟨c,m,rfl⟩:=zcz _ _ _ l;exact(e b c (by omega)).2 (by omega)};{have g:=za7 (.inl k);obtain⟨c,m,rfl⟩:=zdy _ _ _ k;exact(e c a (by omega)).2 (by omega)};{cases h:geC (nr a P) (nr b P)with| false=>rfl| true =>{rcases zzc P a b f with ⟨c,i,j,d⟩|⟨c,i,j,d⟩;{have g:=za7 (.inl d);have:=(e c a (by omega)).1 i;rw[zfc h d]at this;cases this};{have g:=za7 (.inr d);have:=(e b c (by omega)).1 j;rw[zdk h d]at this;cases this}}}}
theorem zh8 {s t:Int}{P:Nat}(a:t<=s):geC (nr s P) (nr t P)=true:=(nr_ge' P _ s t (vK _)).1 a
theorem zik {s t:Int}{P:Nat}(a:s<t):geC (nr s P) (nr t P)=false:=(nr_ge' P _ s t (vK _)).2 a
theorem zk6 {s t:Int}{P:Nat}(a:geC (nr s P) (nr t P)=true):t<=s:=by refine Int.not_lt.1 λb=>?_;rw[zik b]at a;cases a
def EqC (a b:Nat):Prop:=geC a b=true/\geC b a=true
theorem EqC.symm {a b:Nat}(c:EqC a b):EqC b a:=⟨c.2,c.1⟩
theorem EqC.trans {a b c:Nat}(d:EqC a b)(e:EqC b c):EqC a c:=⟨zae d.1 e.1,zae e.2 d.2⟩
theorem zvb (a:Nat):EqC (canC a) a:=⟨(zdq a).2.1,(zdq a).2.2⟩
theorem EqC.r {a b:Nat}(d:EqC a b)(c:Nat):geC c a=geC c b:=(yd0 d.1 d.2 c).1
theorem EqC.l {a b:Nat}(d:EqC a b)(c:Nat):geC a c=geC b c:=(yd0 d.1 d.2 c).2
theorem ydf (s:Int)(P:Nat):CanC1 (nr s P):=by have j:∀(P:Nat) (s:Int),(∀c d,hasL (nr s P) c->hasL (nr s P) d->c=d)/\∀c d,hasR (nr s P) c->hasR (nr s P) d->c=d:=by{intro P;induction P with| zero =>{intro s;rw[zby];exact⟨λc d a b=>by rw[(zev a).2,(zev b).2],λc d a b=>by rw[(zdi a).2,(zdi b).2]⟩}| succ P g =>{intro s;by_cases f:s%2=0;{rw[zcc f];exact g _};{rw[zh7 f];refine⟨λc d a b=>?_,λc d a b=>?_⟩;{rw[zam]at a b;rw[yQ.1 a,yQ.1 b]};{rw[zak]at a b;rw[yQ.1 a,yQ.1 b]}}}};have i:∀(P:Nat) (s:Int),(∀c e,hasL (nr s P) c->hasR c e->geC (nr s P) e=false)/\∀e c,hasR (nr s P) e->hasL e c->geC c (nr s P)=false:=by{intro P;induction P with| zero =>{intro s;rw[zby];refine⟨λc e a b=>?_,λc e a b=>?_⟩;{obtain⟨k,rfl⟩:=zev a;have:=(zdi b).1;omega};{obtain⟨k,rfl⟩:=zdi a;have:=(zev b).1;omega}}| succ P g =>{intro s;by_cases f:s%2=0;{rw[zcc f];exact g _};{refine⟨λc e a b=>?_,λc e a b=>?_⟩;{rw[zh7 f,zam]at a;rw[yQ.1 a]at b;obtain⟨h,l,rfl⟩:=zcz _ _ _ b;rw[<-zk5 h P];exact zik (by omega)};{rw[zh7 f,zak]at a;rw[yQ.1 a]at b;obtain⟨h,l,rfl⟩:=zdy _ _ _ b;rw[<-zk5 h P];exact zik (by omega)}}}};exact⟨λc d a b _=>(j P s).1 _ _ b a,λc d a b _=>(j P s).2 _ _ b a,(i P s).1,(i P s).2⟩
theorem zxh (s:Int)(P:Nat):(∀c d,hasL (nr s P) c->hasL (nr s P) d->c=d)/\∀c d,hasR (nr s P) c->hasR (nr s P) d->c=d:=by have e:=ydf s P;refine⟨λc d a b=>?_,λc d a b=>?_⟩;{obtain⟨g,_,rfl⟩:=zdy _ _ _ a;obtain⟨h,_,rfl⟩:=zdy _ _ _ b;by_cases f:h<=g;{exact e.domL _ _ b a (zh8 f)};{exact(e.domL _ _ a b (zh8 (by omega))).symm}};{obtain⟨g,_,rfl⟩:=zcz _ _ _ a;obtain⟨h,_,rfl⟩:=zcz _ _ _ b;by_cases f:g<=h;{exact e.domR _ _ b a (zh8 f)};{exact(e.domR _ _ a b (zh8 (by omega))).symm}}
theorem yk7 {s:Int}{P x:Nat}(a:SubC (nr s P) x):∃d,x=nr d P:=by induction a with| root=>exact⟨s,rfl⟩| step _ e f =>{obtain⟨d,rfl⟩:=f;rcases e with a|a;{obtain⟨c,_,b⟩:=zdy _ _ _ a;exact⟨c,b⟩};{obtain⟨c,_,b⟩:=zcz _ _ _ a;exact⟨c,b⟩}}
theorem yh8 (s:Int)(P:Nat):CanC (nr s P):=λc a=>by obtain⟨b,rfl⟩:=yk7 a;exact ydf b P
def IsNum (G:Nat):Prop:=∃(a:Nat) (b:Int),EqC G (nr b a)
theorem IsNum.of {a b:Nat}(d:IsNum a)(e:EqC a b):IsNum b:=by obtain⟨c,g,f⟩:=d;exact⟨c,g,e.symm.trans f⟩
theorem IsNum.can {c:Nat}(e:IsNum c)(f:CanC c):∃(a:Nat) (b:Int),c=nr b a:=by obtain⟨a,b,d⟩:=e;exact⟨a,b,zvg f (yh8 b a) d.1 d.2⟩
theorem zuq (P:Nat){G:Nat}:∀(h:Nat) (s:Int),nr s P<h->(∀b,hasL G b->geC b (nr s P)=false)->(∀c,hasR G c->geC (nr s P) c=false)->IsNum G:=by intro h;induction h with| zero=>{intro s a;omega}| succ h m =>{intro s p k l;cases i:geC (nr s P) G with| false =>{rcases zhd i with ⟨c,a,d⟩|⟨b,a,d⟩;{have n:=za7 (.inr a);obtain⟨e,o,rfl⟩:=zcz _ _ _ a;refine m e (by omega) (λb f=>?_) λc f=>?_;{cases g:geC b (nr e P)with| false=>rfl| true =>{have:=zae g (zh8 (s:=e) (t:=s) (P:=P) (by omega));rw[k b f]at this;cases this}};{cases g:geC (nr e P) c with| false=>rfl| true =>{have:=zae d g;rw[zbt f]at this;cases this}}};{rw[k b a]at d;cases d}}| true =>{cases j:geC G (nr s P)with| true=>exact⟨P,s,j,i⟩| false =>{rcases zhd j with ⟨c,a,d⟩|⟨b,a,d⟩;{rw[l c a]at d;cases d};{have n:=za7 (.inl a);obtain⟨e,o,rfl⟩:=zdy _ _ _ a;refine m e (by omega) (λb f=>?_) λc f=>?_;{cases g:geC b (nr e P)with| false=>rfl| true =>{have:=zae g d;rw[zci f]at this;cases this}};{cases g:geC (nr e P) c with| false=>rfl| true =>{have:=zae (zh8 (s:=s) (t:=e) (P:=P) (by omega)) g;rw[l c f]at this;cases this}}}}}}
theorem zrg {G:Nat}(e:¬IsNum G)(P:Nat)(s:Int):(∃a,hasL G a/\geC a (nr s P)=true)\/geC (nr s P) G=true:=by
 by_cases d:∃a,hasL G a/\geC a (nr s P)=true
 ·exact .inl d
 ·have b:∀a,hasL G a->geC a (nr s P)=false:=λa b=>by
   cases c:geC a (nr s P)with
   | false=>rfl
   | true=>exact absurd ⟨a,b,c⟩ d
  refine .inr (zct (λk g=>?_) b);cases c:geC G k with
  | false=>rfl
  | true =>
   obtain⟨j,l,rfl⟩:=zcz _ _ _ g;refine absurd (zuq P _ s (vK _) b λi f=>?_) e;cases h:geC (nr s P) i with
   | false=>rfl
   | true =>
    have:=zae (zae c (zh8 (s:=j) (t:=s) (P:=P) (by omega))) h;rw[zbt f]at this;cases this
theorem zrf {G:Nat}(g:¬IsNum G)(P:Nat)(s:Int):(∃a,hasR G a/\geC (nr s P) a=true)\/geC G (nr s P)=true:=by
 by_cases e:∃a,hasR G a/\geC (nr s P) a=true
 ·exact .inl e
 ·have f:∀a,hasR G a->geC (nr s P) a=false:=λb c=>by
   cases d:geC (nr s P) b with
   | false=>rfl
   | true=>exact absurd ⟨b,c,d⟩ e
  refine .inr (zct f (λk h=>?_));cases d:geC k G with
  | false=>rfl
  | true =>
   obtain⟨j,l,rfl⟩:=zdy _ _ _ h;refine absurd (zuq P _ s (vK _) (λb c=>?_) f) g;cases i:geC b (nr s P)with
   | false=>rfl
   | true =>
    have:=zae i (zae (zh8 (s:=s) (t:=j) (P:=P) (by omega)) d);rw[zci c]at this;cases this
theorem zsz (G:Nat):∀b:Nat,G<=b->geC (posC b) G=true:=by induction G using Nat.strongRecOn with| _ G f =>{intro b h;refine zct (λi c=>?_) λg d=>?_;{rw[<-zkg]at c;have:=(zdi c).1;omega};{have e:=za7 (.inl d);obtain⟨a,rfl⟩:∃a,b=a+1:=⟨b-1,by omega⟩;exact zb3 (f g e a (by omega)) (zci (show hasL (mkC [posC a] []) (posC a)from by rw[zam];simp))}}
theorem zsy (G:Nat):∀b:Nat,G<=b->geC G (zh0 b)=true:=by induction G using Nat.strongRecOn with| _ G f =>{intro b h;refine zct (λg e=>?_) λi c=>?_;{have d:=za7 (.inr e);obtain⟨a,rfl⟩:∃a,b=a+1:=⟨b-1,by omega⟩;exact zb5 (f g d a (by omega)) (zbt (show hasR (mkC [] [zh0 a]) (zh0 a)from by rw[zak];simp))};{rw[<-zhb]at c;have:=(zev c).1;omega}}
theorem zk4 (m:Int)(P:Nat):nr (m*2^P) P=intC m:=by have a:=zeu m 0 P;rw[Nat.zero_add]at a;rw[a,zby]
section
variable {s:Int}{P:Nat}(hs:0<s)
include hs
end
theorem yc3 {G:Nat}(i:¬IsNum G)(P:Nat):∃(a:Int) (b:Nat),hasL G b/\geC b (nr a P)=true/\geC (nr (a+1) P) G=true:=by have m:∀(e:Nat) (a:Int),(G:Int)*2^P<=a+e->(∃b,hasL G b/\geC b (nr a P)=true)->∃(a:Int) (b:Nat),hasL G b/\geC b (nr a P)=true/\geC (nr (a+1) P) G=true:=by{intro e;induction e with| zero =>{rintro a k ⟨b,g,f⟩;have d:geC (nr a P) (nr ((G:Int)*2^P) P)=true:=zh8 (by omega);rw[zk4,zkg]at d;have:=zae (zae f d) (zsz G G (xW _));rw[zci g]at this;cases this}| succ e l =>{rintro a k ⟨b,g,f⟩;rcases zrg i P (a+1)with c|c;{exact l (a+1) (by omega) c};{exact⟨a,b,g,f,c⟩}}};obtain⟨j,n⟩:=eX ((G:Int)*2^P:Int);obtain⟨h,o⟩:=eX (-(G:Int)*2^P-1:Int);refine m (j-h).toNat h (by omega) ((zrg i P h).resolve_right λc=>?_);have d:=zae c (zsy G G (xW _));rw[<-zhb,<-zk4 (-(G:Int)) P]at d;have:=zk6 d;omega
theorem yc2 {G:Nat}(i:¬IsNum G)(P:Nat):∃(a:Int) (b:Nat),hasR G b/\geC (nr a P) b=true/\geC G (nr (a-1) P)=true:=by have m:∀(e:Nat) (a:Int),a-e<=-(G:Int)*2^P->(∃b,hasR G b/\geC (nr a P) b=true)->∃(a:Int) (b:Nat),hasR G b/\geC (nr a P) b=true/\geC G (nr (a-1) P)=true:=by{intro e;induction e with| zero =>{rintro a k ⟨j,h,f⟩;have d:geC (nr (-(G:Int)*2^P) P) (nr a P)=true:=zh8 (by omega);rw[zk4,zhb]at d;have:=zae (zsy G G (xW _)) (zae d f);rw[zbt h]at this;cases this}| succ e l =>{rintro a k ⟨j,h,f⟩;rcases zrf i P (a-1)with c|c;{exact l (a-1) (by omega) c};{exact⟨a,j,h,f,c⟩}}};obtain⟨g,o⟩:=eX ((G:Int)*2^P+1:Int);obtain⟨n,p⟩:=eX (-(G:Int)*2^P:Int);refine m (g-n).toNat g (by omega) ((zrf i P g).resolve_right λc=>?_);have d:=zae (zsz G G (xW _)) c;rw[<-zkg,<-zk4 (G:Int) P]at d;have:=zk6 d;omega
def IsVal (c:Nat)(t:Int)(p:Nat):Prop:=Red t p/\c=numC t p
theorem IsVal.toNr {c:Nat}{t:Int}{p:Nat}(a:IsVal c t p):c=nr t p:=by rw[zox a.1];exact a.2
theorem yca (s:Int)(P:Nat):IsVal (nr s P) (redT s P).1 (redT s P).2:=⟨zdc _ _,rfl⟩
theorem yk8 {s t:Int}{P:Nat}(a:nr s P=nr t P):s=t:=by have b:=zk6 (show geC (nr s P) (nr t P)=true by rw[a];exact zcs _);have c:=zk6 (show geC (nr t P) (nr s P)=true by rw[a];exact zcs _);omega
theorem IsVal.one {c:Nat}{t s:Int}{p q:Nat}(b:IsVal c t p)(k:IsVal c s q):t=s/\p=q:=by
 have g:nr (t*2^q) (p+q)=c:=by rw[zeu];exact b.toNr.symm
 have h:nr (s*2^p) (p+q)=c:=by rw[Nat.add_comm,zeu];exact k.toNr.symm
 have f:=yk8 (g.trans h.symm);have a:=zbz q p t;rw[f,Nat.add_comm,zbz,zd6 k.1,zd6 b.1]at a;have d:=congrArg Prod.fst a;have e:=congrArg Prod.snd a;exact⟨d.symm,e.symm⟩
open Classical in
noncomputable def isNB (c:Nat):Bool:=decide (∃b a,IsVal c b a)
open Classical in
noncomputable def valT (c:Nat):Int × Nat:=if b:∃a:Int × Nat,IsVal c a.1 a.2 then Classical.choose b else (0,0)
open Classical in
theorem zdg {c:Nat}:isNB c=true↔∃b a,IsVal c b a:=by unfold isNB;rw[decide_eq_true_iff]
theorem IsVal.is {c:Nat}{t:Int}{p:Nat}(a:IsVal c t p):isNB c=true:=zdg.2 ⟨t,p,a⟩
theorem IsVal.val {c:Nat}{t:Int}{p:Nat}(b:IsVal c t p):valT c=(t,p):=by have d:∃a:Int × Nat,IsVal c a.1 a.2:=⟨(t,p),b⟩;unfold valT;rw[dif_pos d];obtain⟨e,f⟩:=(Classical.choose_spec d).one b;exact Prod.ext e f
theorem zrt {c:Nat}(b:isNB c=true):IsVal c (valT c).1 (valT c).2:=by obtain⟨e,d,a⟩:=zdg.1 b;rw[a.val];exact a
theorem zt8 (s:Int)(P:Nat):isNB (nr s P)=true:=(yca s P).is
open Classical in
noncomputable def valB (c:Nat):Bool:=isNB c && decide (GoodD (valT c).1 (valT c).2)
noncomputable def valD (c:Nat):Int × Nat:=if valB c=true then valT c else (0,0)
open Classical in
theorem IsVal.good {c:Nat}{t:Int}{p:Nat}(a:IsVal c t p):valB c=true↔GoodD t p:=by unfold valB;rw[a.is,a.val,Bool.true_and,decide_eq_true_iff]
theorem zhn {c:Nat}(a:valB c=true):isNB c=true:=by unfold valB at a;exact(Bool.and_eq_true_iff.1 a).1
theorem zcy {c:Nat}(a:valB c=true):IsVal c (valD c).1 (valD c).2/\GoodD (valD c).1 (valD c).2:=by have b:=zrt (zhn a);unfold valD;rw[if_pos a];exact⟨b,b.good.1 a⟩
theorem IsVal.goodD {c:Nat}{t:Int}{p:Nat}(a:IsVal c t p)(d:GoodD t p):valB c=true/\valD c=(t,p):=by have b:=a.good.2 d;refine⟨b,?_⟩;unfold valD;rw[if_pos b,a.val]
theorem zek {c:Nat}(a:valB c=false):valD c=(0,0):=by unfold valD;rw[a];rfl
theorem yf9 {c l d:Nat}(e:isNB c=true)(a:hasL c l)(b:hasL c d):l=d:=by obtain⟨h,g,f⟩:=zdg.1 e;rw[f.toNr]at a b;exact(zxh _ _).1 _ _ a b
theorem yf8 {c l d:Nat}(e:isNB c=true)(a:hasR c l)(b:hasR c d):l=d:=by obtain⟨h,g,f⟩:=zdg.1 e;rw[f.toNr]at a b;exact(zxh _ _).2 _ _ a b
theorem yf7 {c l:Nat}(b:isNB c=true)(a:hasL c l):isNB l=true:=by obtain⟨f,e,d⟩:=zdg.1 b;rw[d.toNr]at a;obtain⟨g,_,rfl⟩:=zdy _ _ _ a;exact zt8 _ _
theorem yf6 {c l:Nat}(b:isNB c=true)(a:hasR c l):isNB l=true:=by obtain⟨f,e,d⟩:=zdg.1 b;rw[d.toNr]at a;obtain⟨g,_,rfl⟩:=zcz _ _ _ a;exact zt8 _ _
theorem yc4 {c l r:Nat}(d:isNB c=true)(a:hasL c l)(b:hasR c r):geC l r=false:=by obtain⟨i,h,e⟩:=zdg.1 d;rw[e.toNr]at a b;obtain⟨k,g,rfl⟩:=zdy _ _ _ a;obtain⟨j,f,rfl⟩:=zcz _ _ _ b;exact zik (by omega)
theorem yfb {c:Nat}(D:CanC c)(u:∀b g,hasL c b->hasL c g->b=g)(v:∀a h,hasR c a->hasR c h->a=h)(B:∀b,hasL c b->isNB b=true)(w:∀a,hasR c a->isNB a=true) (C:∀b a,hasL c b->hasR c a->geC b a=false):isNB c=true:=by have n:∀(f:Int) (d:Nat),(∀b,hasL c b->geC b (nr f d)=false)->(∀a,hasR c a->geC (nr f d) a=false)->isNB c=true:=λf d y z=>by{obtain⟨e,G,A⟩:=(zuq d _ f (vK _) y z).can D;rw[A];exact zt8 _ _};by_cases p:∃b,hasL c b;{obtain⟨b,o⟩:=p;obtain⟨f,d,x⟩:=zdg.1 (B b o);by_cases l:∃a,hasR c a;{obtain⟨a,k⟩:=l;(obtain⟨m,e,r⟩:=zdg.1 (w a k);have s:b=nr (2*(f*2^e)) (d+e+1):=by rw[zk5,zeu];exact x.toNr);(have t:a=nr (2*(m*2^d)) (d+e+1):=by rw[zk5,Nat.add_comm,zeu];exact r.toNr);have E:f*2^e<m*2^d:=by{have q:=C b a o k;rw[s,t]at q;refine Int.not_le.1 λF=>?_;rw[zh8 (show 2*(m*2^d)<=2*(f*2^e)by omega)]at q;cases q};refine n (2*(f*2^e)+1) (d+e+1) (λg i=>?_) (λh j=>?_);{rw[u _ _ i o,s];exact zik (by omega)};{rw[v _ _ j k,t];exact zik (by omega)}};{refine n (f+1) d (λg i=>?_) (λh j=>absurd ⟨h,j⟩ l);rw[u _ _ i o,x.toNr];exact zik (by omega)}};{by_cases l:∃a,hasR c a;{obtain⟨a,k⟩:=l;obtain⟨m,e,r⟩:=zdg.1 (w a k);refine n (m-1) e (λg i=>absurd ⟨g,i⟩ p) (λh j=>?_);rw[v _ _ j k,r.toNr];exact zik (by omega)};{exact n 0 0 (λg i=>absurd ⟨g,i⟩ p) (λh j=>absurd ⟨h,j⟩ l)}}
theorem ye9 {c:Nat}(g:isNB c=true)(e:∀n,¬hasL c n)(i:∀o,¬hasR c o):IsVal c 0 0:=by obtain⟨d,f,b⟩:=zdg.1 g;have j:=b;obtain⟨m,a⟩:=j;cases f with| zero =>{rw[zfm]at a;by_cases h:d=0;{subst h;exact b};{by_cases l:0<d;{exact absurd (by rw[a];exact zn6 l) (e _)};{exact absurd (by rw[a];exact zn5 (by omega)) (i _)}}}| succ f =>{have k:d%2≠0:=m.resolve_left (by omega);exact absurd (by rw[b.toNr];exact zm4 k) (e _)}
theorem zvv {c l:Nat}(g:isNB c=true)(d:hasL c l)(j:∀o,¬hasR c o):∃a:Int,0<a/\IsVal c a 0/\IsVal l (a-1) 0:=by obtain⟨f,e,a⟩:=zdg.1 g;have k:=a;obtain⟨n,b⟩:=k;cases e with| zero =>{rw[zfm]at b;rw[b]at d;obtain⟨h,i⟩:=zev d;exact⟨f,h,a,.inl rfl,i⟩}| succ e =>{have m:f%2≠0:=n.resolve_left (by omega);exact absurd (by rw[a.toNr];exact zo0 m) (j _)}
theorem zs8 {c r:Nat}(g:isNB c=true)(d:hasR c r)(j:∀n,¬hasL c n):∃a:Int,a<0/\IsVal c a 0/\IsVal r (a+1) 0:=by obtain⟨f,e,a⟩:=zdg.1 g;have l:=a;obtain⟨k,b⟩:=l;cases e with| zero =>{rw[zfm]at b;rw[b]at d;obtain⟨h,i⟩:=zdi d;exact⟨f,h,a,.inl rfl,i⟩}| succ e =>{have m:f%2≠0:=k.resolve_left (by omega);exact absurd (by rw[a.toNr];exact zm4 m) (j _)}
theorem zvx {c l r:Nat}(i:isNB c=true)(d:hasL c l)(e:hasR c r):∃(b:Int) (a:Nat),IsVal c b a/\0<a/\b%2≠0/\IsVal l (redT (b-1) a).1 (redT (b-1) a).2/\IsVal r (redT (b+1) a).1 (redT (b+1) a).2:=by obtain⟨b,a,f⟩:=zdg.1 i;have k:=f;obtain⟨j,h⟩:=k;cases a with| zero =>{rw[zfm]at h;rw[h]at d e;have m:=zev d;have n:=zdi e;omega}| succ a =>{have g:b%2≠0:=j.resolve_left (by omega);refine⟨b,a+1,f,by omega,g,?_,?_⟩;{rw[f.toNr]at d;rw[(zxh _ _).1 _ _ d (zm4 g)];exact yca _ _};{rw[f.toNr]at e;rw[(zxh _ _).2 _ _ e (zo0 g)];exact yca _ _}}
theorem zf6 {N:Nat}:∀(a:Nat) (b:Int),a<=N->(redT b a).1*2^(N-(redT b a).2)=b*2^(N-a):=by intro a;induction a with| zero=>{intro b _;rfl}| succ a f =>{intro b g;by_cases d:b%2=0;{rw[zbs d,f _ (by omega)];obtain⟨c,e⟩:∃c,N-a=c+1:=⟨N-(a+1),by omega⟩;rw[e,show N-(a+1)=c from by omega,Int.pow_succ,Int.mul_comm (2^c) 2,<-Int.mul_assoc];congr 1;omega};{rw[redT,if_neg d]}}
theorem yes {x:Int}{N p:Nat}(a:p<=N):redT (x*2^(N-p)) N=redT x p:=by have:=zbz (N-p) p x;rw[show p+(N-p)=N from by omega]at this;exact this
theorem yag {t:Int}{p:Nat}(i:0<p)(h:t%2≠0)(b:GoodD (redT (t-1) p).1 (redT (t-1) p).2)(c:GoodD (redT (t+1) p).1 (redT (t+1) p).2) : p<=17/\redT ((redT (t-1) p).1*2^(16-(redT (t-1) p).2)+(redT (t+1) p).1*2^(16-(redT (t+1) p).2)) 17=(t,p):=by obtain⟨a,rfl⟩:∃a,p=a+1:=⟨p-1,by omega⟩;rw[zbs (show(t-1)%2=0 by omega)]at b ⊢;rw[zbs (show(t+1)%2=0 by omega)]at c ⊢;by_cases f:a<=16;{refine⟨by omega,?_⟩;rw[zf6 a _ f,zf6 a _ f,<-Int.add_mul,show(t-1)/2+(t+1)/2=t from by omega];have:=yes (x:=t) (N:=17) (p:=a+1) (by omega);rw[show 17-(a+1)=16-a from by omega]at this;rw[this,zd6 (.inr h)]};{have d:=b.2.1;have e:=c.2.1;exfalso;by_cases g:(t-1)/2%2=0;{rw[zd6 (t:=(t+1)/2) (.inr (by omega))]at e;have:((a:Nat):Int)<=16:=e.2;omega};{rw[zd6 (t:=(t-1)/2) (.inr g)]at d;have:((a:Nat):Int)<=16:=d.2;omega}}
theorem yaf {t:Int}{p:Nat}(b:0<p)(a:t%2≠0)(c:GoodD t p):GoodD (redT (t-1) p).1 (redT (t-1) p).2/\GoodD (redT (t+1) p).1 (redT (t+1) p).2:=by obtain⟨d,e,f⟩:=c;exact⟨(zgd (.inr a) (by omega) b (by omega) _ (.inl rfl)).1,(zgd (.inr a) (by omega) b (by omega) _ (.inr rfl)).1⟩
