import Derived.Test.YtlapkmhemepcaaaGreatDoorZi3
/- Lemmas. -/
set_option linter.all false
namespace Go.Proofs.YtlapkmhemepcaaaGreatDoor
open Go.RowKit
theorem yez (L:List Nat)(n:Nat)(c:∀a∈L,a<n):posN L n=L.length :=
 zuk L n L.length (xW _) (λd a _ b=>c a (xK b)) (λa b=>by simp at b)
theorem zxb (L:List Nat)(n:Nat)(a:∀b∈L,b<n):putN L n=L ++ [n]:=by unfold putN;rw[yez L n a,if_neg (by simp)];simp
theorem zhs (L:List Nat)(b:L.Pairwise (· < ·)):zag L=L:=by(suffices e:∀(L a:List Nat),(a++L).Pairwise (· < ·)->L.foldl putN a=a++L by simpa [zag] using e L [] (by simpa using b));intro L;induction L with| nil=>{intro a _;simp}| cons c i h =>{intro a b;have f:∀d∈a,d<c:=λd g=>(List.pairwise_append.1 b).2.2 d g c kW;rw[List.foldl_cons,zxb a c f,h _ (by simpa using b)];simp}
theorem zkt (A L:List Nat)(b:∀a∈L,A.getD a 0=a):za3 A L=L:=by unfold za3;exact(kV b).trans (List.map_id' L)
theorem rget (n k:Nat):(List.range n)[k]?=if k<n then some k else none:=by split;{exact List.getElem?_range (by assumption)};{exact List.getElem?_eq_none (by simp;omega)}
theorem zc0 (n k a:Nat):(List.range n).getD k a=if k<n then k else a:=by rw[xY,rget];split <;> rfl
theorem znc (BL:List Nat)(m:Nat)(L:List Nat):m<=zai BL m L/\∀b∈L,BL.getD b 0+1<=zai BL m L:=by unfold zai;induction L generalizing m with| nil=>exact⟨xW _,by simp⟩| cons e g d =>{rw[List.foldl_cons];obtain⟨f,c⟩:=d (max m (BL.getD e 0+1));refine⟨by omega,λb a=>?_⟩;rcases kK.1 a with rfl|a;{omega};{exact c b a}}
def zbq (s:List PL × List Nat × List Nat)(f:List PL):List PL × List Nat × List Nat:=((addB s.1 s.2.1 f).1,(addB s.1 s.2.1 f).2.1,s.2.2 ++ [zfz s.1 s.2.1 f])
def zc9 (NL:List PL)(BL:List Nat)(FL:List (List PL)):List PL × List Nat × List Nat:=FL.foldl zbq (NL,BL,[])
theorem zub (NL:List PL)(BL:List Nat)(FL:List (List PL))(f:List PL):zc9 NL BL (FL ++ [f])=zbq (zc9 NL BL FL) f:=by simp[zc9]
def zm6 (FL FR:List (List PL)):List PL :=
 let a:=zc9 [] [] FL
 let c:=zc9 a.1 a.2.1 FR
 let b:=putB c.1 c.2.1 a.2.2 c.2.2
 zdp b.1 b.2.1 b.2.2
def i2 (Fs:List PL):List (List Int × List Int):=Fs.map λa=>(ints a.1,ints a.2)
theorem zb9 (Fs:List PL):(i2 Fs).length=Fs.length:=by simp[i2]
theorem ycv {Fs:List PL}{k:Nat}{y:List Int × List Int}(a:(i2 Fs)[k]?=some y):∃b,Fs[k]?=some b/\y=(ints b.1,ints b.2):=by unfold i2 at a;rw[vZ]at a;cases c:Fs[k]? with| none=>rw[c]at a;cases a| some b=>rw[c]at a;cases a;exact⟨b,rfl,rfl⟩
theorem zta {Fs G:List PL}(b:i2 Fs=i2 G):Fs=G:=by(have h:Fs.length=G.length:=by have:=congrArg List.length b;simpa [i2] using this);refine List.ext_getElem h λc f g=>?_;(have a:(i2 Fs)[c]?=(i2 G)[c]?:=by rw[b]);unfold i2 at a;rw[vZ,vZ,xQ f,xQ g]at a;have a:=yK a;have d:=zru (congrArg Prod.fst a);have e:=zru (congrArg Prod.snd a);exact Prod.ext d e
theorem zx9 (c:Nat)(L:List Nat):∀(d:Option Int),L.Pairwise (· < ·)->(∀a∈L,a<c)->(∀b,d=some b->∀a∈L,b<(a:Int))->zau 0 ((c:Int)-1) d (ints L)=true:=by induction L with| nil=>{intro d _ _ _;cases d <;> rfl}| cons a i p =>{(intro d g h m;have q:=h a kW;have e:betw (Int.ofNat a) 0 ((c:Int)-1)=true:=by unfold betw;simp;omega);have f:=p (some (Int.ofNat a)) (List.pairwise_cons.1 g).2 (λb n=>h b (uX _ n)) (λb k j o=>by{cases k;have:=(List.pairwise_cons.1 g).1 j o;show((a:Nat):Int)<(j:Int);omega});cases d with| none =>{show(betw (Int.ofNat a) 0 ((c:Int)-1) && zau 0 ((c:Int)-1) (some (Int.ofNat a)) (ints i))=true;rw[e,f];rfl}| some b =>{have l:=m b rfl a kW;show(betw (Int.ofNat a) 0 ((c:Int)-1) && (decide (b<Int.ofNat a) && zau 0 ((c:Int)-1) (some (Int.ofNat a)) (ints i)))=true;rw[e,f,vX (show b<Int.ofNat a from l)];rfl}}
theorem zxa (c:Nat)(L:List Int):∀(g:Option Int),zau 0 ((c:Int)-1) g L=true->∃f:List Nat,L=ints f/\f.Pairwise (· < ·)/\(∀a∈f,a<c)/\∀e,g=some e->∀a∈f,e<(a:Int):=by induction L with| nil=>{intro g _;exact⟨[],rfl,List.Pairwise.nil,by simp,by simp⟩}| cons a k r =>{intro g b;have n:betw a 0 ((c:Int)-1)=true/\(∀e,g=some e->e<a)/\zau 0 ((c:Int)-1) (some a) k=true:=by{cases g with| none =>{have b:(betw a 0 ((c:Int)-1) && zau 0 ((c:Int)-1) (some a) k)=true:=b;rw[Bool.and_eq_true]at b;exact⟨b.1,by simp,b.2⟩}| some e =>{have b:(betw a 0 ((c:Int)-1) && (decide (e<a) && zau 0 ((c:Int)-1) (some a) k))=true:=b;rw[Bool.and_eq_true,Bool.and_eq_true]at b;exact⟨b.1,λh i=>by cases i;exact of_decide_eq_true b.2.1,b.2.2⟩}};obtain⟨j,o,p⟩:=n;obtain⟨f,i,s,m,l⟩:=r (some a) p;have j:0<=a/\a<=(c:Int)-1:=of_decide_eq_true j;refine⟨a.toNat::f,?_,List.pairwise_cons.2 ⟨λh d=>?_,s⟩,λh d=>?_,λe q h d=>?_⟩;{rw[i];show a::ints f=Int.ofNat a.toNat::ints f;rw[show Int.ofNat a.toNat=a from Int.toNat_of_nonneg j.1]};{have:=l a rfl h d;omega};{rcases kK.1 d with rfl|d;{omega};{exact m h d}};{have t:=o e q;rcases kK.1 d with rfl|d;{omega};{have:=l a rfl h d;omega}}}
def risI (Fs:List (List Int × List Int))(k:Nat):Prop:=∀(a:Nat) (b:List Int × List Int),a<k->Fs[a]?=some b->zau 0 ((a:Int)-1) none b.1=true/\zau 0 ((a:Int)-1) none b.2=true
def zar (Fs:List (List Int × List Int)):Prop:=zax Fs=true/\risI Fs Fs.length/\∀a:List PL,Fs=i2 a->zdp (addB [] [] a).1 (addB [] [] a).2.1 (zfz [] [] a)=a
theorem zmz {Fs:List (List Int × List Int)}(i:risI Fs Fs.length):∃k:List PL,Fs=i2 k/\(∀(a:Nat) (b:PL),k[a]?=some b->(∀e∈b.1,e<a)/\∀e∈b.2,e<a)/\∀(a:Nat) (b:PL),k[a]?=some b->b.1.Pairwise (· < ·)/\b.2.Pairwise (· < ·):=by have o:∀(a:Nat) (b:List Int × List Int),Fs[a]?=some b->∃d:PL,b=(ints d.1,ints d.2)/\((∀e∈d.1,e<a)/\∀e∈d.2,e<a)/\d.1.Pairwise (· < ·)/\d.2.Pairwise (· < ·):=λa b c=>by{obtain⟨v,w⟩:=i a b (xV.1 c).1 c;obtain⟨p,t,u1,r,_⟩:=zxa a b.1 none v;obtain⟨q,u,u2,s,_⟩:=zxa a b.2 none w;exact⟨(p,q),Prod.ext t u,⟨r,s⟩,u1,u2⟩};let h:List Int × List Int->PL:=λb=>(b.1.map Int.toNat,b.2.map Int.toNat);have m:∀d:PL,h (ints d.1,ints d.2)=d:=λd=>by{(have f:∀j:List Nat,(ints j).map Int.toNat=j:=λj=>by unfold ints;rw[List.map_map];exact(kV λA _=>rfl).trans (List.map_id' j));exact Prod.ext (f _) (f _)};have n:∀(a:Nat) (b:PL),(Fs.map h)[a]?=some b->∃g,Fs[a]?=some g/\g=(ints b.1,ints b.2)/\((∀e∈b.1,e<a)/\∀e∈b.2,e<a)/\b.1.Pairwise (· < ·)/\b.2.Pairwise (· < ·):=λa b c=>by{rw[vZ]at c;cases l:Fs[a]? with| none=>rw[l]at c;cases c| some g =>{rw[l]at c;obtain⟨d,f,y⟩:=o a g l;have c:=yK c;rw[f,m]at c;subst c;exact⟨g,rfl,f,y⟩}};refine⟨Fs.map h,?_,λa b c=>?_,λa b c=>?_⟩;{unfold i2;rw[List.map_map];refine((kV λg z=>?_).trans (List.map_id' Fs)).symm;obtain⟨a,x,rfl⟩:=uZ z;obtain⟨d,f,_⟩:=o a _ (xQ x);show(ints (h Fs[a]).1,ints (h Fs[a]).2)=Fs[a];rw[f,m]};{obtain⟨_,_,_,i,_⟩:=n a b c;exact i};{obtain⟨_,_,_,_,i⟩:=n a b c;exact i}
theorem zmb (Fs:List PL):zax (i2 Fs)=zax Fs:=by unfold zax i2;rw[uJ];congr 1;refine propext ⟨λ⟨a,b,c⟩=>⟨a,b,λe d=>?_⟩,λ⟨a,b,c⟩=>⟨a,b,λe d=>?_⟩⟩;{have:=c _ (y6.2 ⟨e,d,rfl⟩);simpa [ints] using this};{obtain⟨g,f,rfl⟩:=y6.1 d;simpa [ints] using c g f}
theorem zsa {L:List Nat}{n:Nat}(d:L.Pairwise (· < ·))(b:∀a∈L,a<n):L.length<=n:=by(have c:L.Nodup:=d.imp λg f=>by omega);have:=c.length_le_of_subset (l₂:=List.range n) (λa e=>vW.2 (b a e));simpa using this
def BookUp (NL:List PL):Prop:=∀(b:Nat) (a:PL),NL[b]?=some a->a.1.Pairwise (· < ·)/\a.2.Pairwise (· < ·)
theorem BookUp.nil:BookUp []:=by intro b c a;simp at a
theorem BookUp.lens {NL:List PL}{BL:List Nat}(d:BookUp NL)(e:BookOK NL BL):∀a∈NL,a.1.length<=NL.length/\a.2.length<=NL.length:=by intro a g;obtain⟨c,f,rfl⟩:=uZ g;have b:=xQ f;obtain⟨h,i⟩:=e.opts c _ b;obtain⟨u1,u2⟩:=d c _ b;have:=zsa u1 h;have:=zsa u2 i;omega
theorem ybt {NL:List PL}{BL:List Nat}(c:BookUp NL)(L R:List Nat):BookUp (putB NL BL L R).1:=by unfold putB;simp only;split;{exact c};{intro b f a;by_cases e:b<NL.length;{rw[yW e]at a;exact c b f a};{rw[kZ (by omega)]at a;cases d:b-NL.length with| zero=>rw[d]at a;simp at a;subst a;exact⟨ze7 L,ze7 R⟩| succ g=>rw[d]at a;simp at a}}
theorem ydx {NL:List PL}{BL:List Nat}(b:BookUp NL)(FL:List PL):BookUp (addB NL BL FL).1:=by suffices c:∀a,a<=FL.length->BookUp (addB NL BL (FL.take a)).1 by{have:=c FL.length (xW _);rwa [y5]at this};intro a;induction a with| zero=>{intro _;exact b}| succ a d =>{intro e;rw[yX (by omega),zei];exact ybt (d (by omega)) _ _}
theorem BookOK.nil:BookOK [] []:=⟨rfl,by simp,by simp⟩
structure GoodF (Fm:List PL):Prop where
 pos:0<Fm.length
 le:Fm.length<=120
 opts:∀(j:Nat) (y:PL),Fm[j]?=some y->(∀x∈y.1,x<j)/\∀x∈y.2,x<j
 lens:∀y∈Fm,y.1.length<1000/\y.2.length<1000
structure RootsOK (n:Nat) (s:List PL × List Nat × List Nat):Prop where
 ok:BookOK s.1 s.2.1
 up:BookUp s.1
 len:s.1.length<=n
 lt:∀x∈s.2.2,x<s.1.length
theorem RootsOK.step {n:Nat}{s:List PL × List Nat × List Nat}(b:RootsOK n s){Fm:List PL}(hF:GoodF Fm):RootsOK (n+120) (zbq s Fm):=by obtain⟨c,i,d,j,e⟩:=zhm b.ok Fm hF.opts;have h:=hF.pos;have g:=hF.le;refine⟨c,ydx b.up Fm,?_,λf a=>?_⟩;{have:=b.len;show(addB s.1 s.2.1 Fm).1.length<=n+120;omega};{rcases y4.1 a with a|a;{exact vJ (b.lt f a) e.length_le};{rw[yQ]at a;subst a;unfold zfz;rw[xY,xQ (by omega)];exact d _ (y7 _)}}
theorem zfi {FL:List (List PL)}:∀ {a:Nat}{b:List PL × List Nat × List Nat},RootsOK a b->(∀e∈FL,GoodF e)->RootsOK (a+120*FL.length) (FL.foldl zbq b):=by induction FL with| nil=>{intro a b c _;simpa using c}| cons f d i =>{intro a b c hF;have:=i (c.step (hF f kW)) (λg h=>hF g (uX _ h));rw[List.foldl_cons,List.length_cons];rwa [show a+120+120*d.length=a+120*(d.length+1)from by omega]at this}
theorem zht (FL:List (List PL)):∀(a:List PL × List Nat × List Nat),(FL.foldl zbq a).2.2.length=a.2.2.length+FL.length:=by induction FL with| nil=>{intro a;simp}| cons c d b=>{intro a;rw[List.foldl_cons,b];simp[zbq];omega}
structure PoolOK (V:List PL) (BV:List Nat):Prop where
 len:BV.length=V.length
 opts:∀(j:Nat) (y:PL),V[j]?=some y->(∀i∈y.1,i<j)/\∀i∈y.2,i<j
 up:∀(j:Nat) (y:PL),V[j]?=some y->y.1.Pairwise (· < ·)/\y.2.Pairwise (· < ·)
 nodup:V.Nodup
 born:∀(j:Nat) (y:PL),V[j]?=some y->BV.getD j 0=zai BV (zai BV 0 y.1) y.2
theorem PoolOK.nil:PoolOK [] []:=⟨rfl,by simp,by simp,by simp,by simp⟩
theorem zcg (BV t:List Nat)(m:Nat)(L:List Nat)(b:∀a∈L,a<BV.length):zai (BV++t) m L=zai BV m L:=by unfold zai;induction L generalizing m with| nil=>rfl| cons a h f =>{(have d:=b a kW;have c:(BV++t).getD a 0=BV.getD a 0:=by rw[xY,xY,yW d]);rw[List.foldl_cons,List.foldl_cons,c,f _ (λg e=>b g (uX _ e))]}
theorem zi2 {c:Type}{V:List c}{x y:c}{j:Nat}(a:(V ++ [x])[j]?=some y):(j<V.length/\V[j]?=some y)\/(j=V.length/\y=x):=by by_cases b:j<V.length;{rw[yW b]at a;exact .inl ⟨b,a⟩};{have e:=(xV.1 a).1;(have d:j=V.length:=by simp at e;omega);subst d;exact .inr ⟨rfl,by simpa using a.symm⟩}
theorem zm3 {V:List PL}{BV:List Nat}(b:PoolOK V BV){L R:List Nat}(l:∀a∈L,a<V.length)(m:∀a∈R,a<V.length) : PoolOK (za5 V BV L R).1 (za5 V BV L R).2.1/\(za5 V BV L R).1[(za5 V BV L R).2.2]?=some (zag L,zag R):=by unfold za5;split;{rename_i g;refine⟨b,?_⟩;have o:=List.idxOf_lt_length_of_mem g;show V[V.idxOf (zag L,zag R)]?=_;rw[xQ o,List.getElem_idxOf]};{rename_i g;have h:∀a∈zag L,a<V.length:=λa d=>l a ((zba L a).1 d);have i:∀a∈zag R,a<V.length:=λa d=>m a ((zba R a).1 d);refine⟨⟨by simp[b.len],λe f c=>?_,λe f c=>?_,?_,λe f c=>?_⟩,by simp⟩;{rcases zi2 c with ⟨_,c⟩|⟨rfl,rfl⟩;{exact b.opts e f c};{exact⟨h,i⟩}};{rcases zi2 c with ⟨_,c⟩|⟨rfl,rfl⟩;{exact b.up e f c};{exact⟨ze7 L,ze7 R⟩}};{rw[List.nodup_append];refine⟨b.nodup,by simp,λs n t j k=>?_⟩;rw[yQ]at j;subst k;subst j;exact g n};{rcases zi2 c with ⟨p,c⟩|⟨rfl,rfl⟩;{obtain⟨q,r⟩:=b.opts e f c;rw[zcg _ _ _ _ (λa d=>by have:=r a d;rw[b.len];omega),zcg _ _ _ _ (λa d=>by have:=q a d;rw[b.len];omega),<-b.born e f c,xY,xY,yW (by rw[b.len];exact p)]};{rw[zcg _ _ _ _ (λa d=>by rw[b.len];exact i a d),zcg _ _ _ _ (λa d=>by rw[b.len];exact h a d),<-b.len];simp[xY]}}}
theorem za6 {V:List PL}{x:Nat}(a:x<V.length):V[x]?=some (za4 V x):=by unfold za4;rw[xY,xQ a];rfl
theorem PoolOK.reach {V:List PL}{BV R:List Nat}(d:PoolOK V BV)(e:∀h∈R,h<V.length){x:Nat}(g:ReachV V R x):x<V.length:=by induction g with| root f=>exact e _ f| @left x c _ a b=>have:=(d.opts x _ (za6 b)).1 c a;omega| @right x c _ a b=>have:=(d.opts x _ (za6 b)).2 c a;omega
theorem PoolOK.lower {V:List PL}{BV:List Nat}(e:PoolOK V BV){x:Nat}(f:x<V.length):(∀a∈(za4 V x).1,BV.getD a 0<BV.getD x 0)/\∀a∈(za4 V x).2,BV.getD a 0<BV.getD x 0:=by rw[e.born x _ (za6 f)];obtain⟨g,c⟩:=znc BV 0 (za4 V x).1;obtain⟨h,d⟩:=znc BV (zai BV 0 (za4 V x).1) (za4 V x).2;exact⟨λa b=>by have:=c a b;omega,λa b=>by have:=d a b;omega⟩
theorem PoolOK.qok {V:List PL}{BV R f:List Nat}(g:PoolOK V BV)(n:∀q∈R,q<V.length)(o:f.Nodup)(h:∀a,a∈f↔ReachV V R a)(p:f.Pairwise λj k=>BV.getD j 0<=BV.getD k 0):QOk V BV f:=by have e:∀a∈f,a<V.length:=λa b=>g.reach n ((h a).1 b);refine⟨o,p,λa b d c=>⟨(h d).2 (.left ((h a).1 b) c),(g.lower (e a b)).1 d c⟩,λa b d c=>⟨(h d).2 (.right ((h a).1 b) c),(g.lower (e a b)).2 d c⟩,λa b=>g.up a _ (za6 (e a b)),λa b d c l=>?_⟩;have i:=za6 (e a b);have m:=za6 (e d c);rw[l]at i;exact(List.getElem?_inj (e a b) g.nodup).1 (i.trans m.symm)
theorem PoolOK.lens {V:List PL}{BV:List Nat}(c:PoolOK V BV){n:Nat}(i:V.length<n):∀a∈V,a.1.length<n/\a.2.length<n:=by intro a f;obtain⟨d,e,rfl⟩:=uZ f;have b:=xQ e;obtain⟨g,h⟩:=c.opts d _ b;obtain⟨u1,u2⟩:=c.up d _ b;have:=zsa u1 g;have:=zsa u2 h;omega
theorem PoolOK.opts' {V:List PL}{BV:List Nat}(d:PoolOK V BV)(j:Nat)(y:PL)(c:V[j]?=some y):(∀a∈y.1,a<V.length)/\∀a∈y.2,a<V.length:=by have g:=(xV.1 c).1;obtain⟨e,f⟩:=d.opts j y c;exact⟨λa b=>by have:=e a b;omega,λa b=>by have:=f a b;omega⟩
theorem zx5 (m:List Bool)(y x:Nat):(m.set y true).getD x false=true↔m.getD x false=true\/x=y/\x<m.length:=by rw[xY,xY,List.getElem?_set];by_cases b:y=x;{subst b;by_cases a:y<m.length;{simp[a]};{simp[a]}};{rw[if_neg b];constructor;{exact .inl};{rintro(a|⟨a,_⟩);{exact a};{exact absurd a.symm b}}}
theorem zxq (m:List Bool)(L:List Nat)(x:Nat):(zbv m L).getD x false=true↔m.getD x false=true\/x∈L/\x<m.length:=by unfold zbv;induction L generalizing m with| nil=>simp| cons e d c =>{rw[List.foldl_cons,c,zx5,List.length_set,kK];constructor;{rintro((a|a)|a);{exact .inl a};{exact .inr ⟨.inl a.1,a.2⟩};{exact .inr ⟨.inr a.1,a.2⟩}};{rintro(a|⟨a|a,b⟩);{exact .inl (.inl a)};{exact .inl (.inr ⟨a,b⟩)};{exact .inr ⟨a,b⟩}}}
theorem zes (V:List PL)(m:List Bool)(k x:Nat):(zcq V m k).getD x false=true↔m.getD x false=true\/m.getD k false=true/\(x∈(za4 V k).1\/x∈(za4 V k).2)/\x<m.length:=by unfold zcq za4;split;{rename_i b;rw[zxq,zxq,zb6];constructor;{rintro((a|a)|a);{exact .inl a};{exact .inr ⟨b,.inl a.1,a.2⟩};{exact .inr ⟨b,.inr a.1,a.2⟩}};{rintro(a|⟨_,a|a,c⟩);{exact .inl (.inl a)};{exact .inl (.inr ⟨a,c⟩)};{exact .inr ⟨a,c⟩}}};{rename_i b;constructor;{exact .inl};{rintro(a|a);{exact a};{exact absurd a.1 b}}}
theorem zsn {V:List PL}{BV:List Nat}(t:PoolOK V BV){r:Nat}(z:r<V.length)(n:Nat):∀(e:List Bool),n<=r+1->e.length=r+1->(∀d,e.getD d false=true->ReachV V [r] d)->e.getD r false=true ->
  (∀d,n<=d->e.getD d false=true->∀b,b∈(za4 V d).1\/b∈(za4 V d).2->e.getD b false=true)->∀d,(zc2 V n e).getD d false=true↔ReachV V [r] d:=by
 induction n with
 | zero =>
  intro e _ _ f l i d;refine⟨f d,λk=>?_⟩;induction k with
  | root k=>rw[yQ]at k;subst k;exact l
  | left _ a h=>exact i _ (yV _) h _ (.inl a)
  | right _ a h=>exact i _ (yV _) h _ (.inr a)
 | succ n h =>
  intro e y u f l i d;unfold zc2;have o:∀(c b:Nat),c<V.length->(b∈(za4 V c).1\/b∈(za4 V c).2)->b<c:=λc b m a=>by
   obtain⟨v,w⟩:=t.opts c _ (za6 m);rcases a with a|a
   ·exact v b a
   ·exact w b a
  refine h _ (by omega) (by rw[zgx];exact u) (λb a=>?_) ((zes V e n r).2 (.inl l)) (λc m g b a=>?_) d
  ·rcases (zes V e n b).1 a with a|⟨p,a,_⟩
   ·exact f b a
   ·rcases a with a|a
    ·exact .left (f n p) a
    ·exact .right (f n p) a
  ·have j:e.getD c false=true:=by
    rcases (zes V e n c).1 g with g|⟨_,g,_⟩
    ·exact g
    ·have:=o n c (by omega) g;omega
   have x:c<r+1:=by
    rcases Nat.lt_or_ge c (r+1)with q|q
    ·exact q
    ·rw[xY,List.getElem?_eq_none (by omega)]at j;cases j
   rw[zes];by_cases s:c=n
   ·subst s
    exact .inr ⟨j,a,by have:=o c b (by omega) a;omega⟩
   ·exact .inl (i c (by omega) j b a)
theorem znu {V:List PL}{BV:List Nat}(d:PoolOK V BV){r:Nat}(f:r<V.length)(x:Nat):(zas V r).getD x false=true↔ReachV V [r] x:=by have c:∀b,((List.replicate (r+1) false).set r true).getD b false=true↔b=r:=λb=>by{rw[zx5];constructor;{rintro(a|a);{rw[xY,List.getElem?_replicate]at a;split at a <;> cases a};{exact a.1}};{rintro rfl;exact .inr ⟨rfl,by simp⟩}};refine zsn d f (r+1) _ (xW _) (by simp) (λb g=>?_) ((c r).2 rfl) (λh i e=>?_) x;{rw[(c b).1 g];exact .root (by simp)};{have:=(c h).1 e;omega}
def grp (BV:List Nat)(c:List Bool)(n b:Nat):List Nat:=(List.range n).filter λa=>decide (c.getD a false=true/\BV.getD a 0=b)
theorem yg0 (BV:List Nat)(a:List Bool)(n b:Nat):grp BV a (n+1) b=if a.getD n false=true/\BV.getD n 0=b then grp BV a n b ++ [n]else grp BV a n b:=by unfold grp;rw[List.range_succ,List.filter_append];split <;> simp_all
theorem zf8 {BV:List Nat}{a:List Bool}{n b x:Nat}:x∈grp BV a n b↔x<n/\a.getD x false=true/\BV.getD x 0=b:=by unfold grp;rw[List.mem_filter,vW,kJ]
theorem ztc (BV:List Nat)(a:List Bool)(n b:Nat):(grp BV a n b).Nodup:=List.nodup_range.filter _
theorem yic (a:Nat->PL)(K:List Nat)(k:Nat):insF (K.map a,K) (a k) k=((K.takeWhile (λb=>zaq (a b) (a k))++k::K.dropWhile (λb=>zaq (a b) (a k))).map a,K.takeWhile (λb=>zaq (a b) (a k))++k::K.dropWhile (λb=>zaq (a b) (a k))):=by have c:posA (K.map a) (a k)=(K.takeWhile (λb=>zaq (a b) (a k))).length:=by{unfold posA;rw[List.takeWhile_map,uJ];rfl};have e:K.take (posA (K.map a) (a k))=K.takeWhile (λb=>zaq (a b) (a k)):=by{rw[c];exact(List.prefix_iff_eq_take.1 (List.takeWhile_prefix _)).symm};have d:K.drop (posA (K.map a) (a k))=K.dropWhile (λb=>zaq (a b) (a k)):=by{rw[c];exact(congrArg (List.drop _) (List.takeWhile_append_dropWhile (p:=λb=>zaq (a b) (a k)) (l:=K)).symm).trans List.drop_left};unfold insF;simp only[<-List.map_take,<-List.map_drop,e,d,vQ,List.map_cons]
theorem ya0 (a:Nat->PL)(K:List Nat)(k:Nat)(q:K.Pairwise λc b=>zaq (a b) (a c)=false) : (K.takeWhile (λb=>zaq (a b) (a k))++k::K.dropWhile (λb=>zaq (a b) (a k))).Pairwise λc b=>zaq (a b) (a c)=false:=by have n:=q;rw[<-List.takeWhile_append_dropWhile (p:=λb=>zaq (a b) (a k)) (l:=K),List.pairwise_append]at n;obtain⟨s,g,t⟩:=n;have r:∀b∈K.dropWhile (λb=>zaq (a b) (a k)),zaq (a b) (a k)=false:=by{intro b hb;cases f:K.dropWhile (λb=>zaq (a b) (a k))with| nil=>rw[f]at hb;cases hb| cons h u =>{have e:=List.head_dropWhile_not (λb=>zaq (a b) (a k)) (l:=K) (by rw[f];simp);simp only[f,List.head_cons]at e;rw[f]at hb g;rcases kK.1 hb with rfl|hb;{simpa using e};{have d:=(List.pairwise_cons.1 g).1 b hb;cases j:zaq (a b) (a k)with| false=>rfl| true =>{exfalso;(have e:zaq (a h) (a k)=false:=by simpa using e);cases m:zaq (a k) (a h)with| true=>rw[zfx j m]at d;cases d| false =>{have o:=zmi e m;rw[o]at d;rw[j]at d;cases d}}}}};refine List.pairwise_append.2 ⟨s,List.pairwise_cons.2 ⟨r,g⟩,λc i b hb=>?_⟩;have d:zaq (a c) (a k)=true:=by{exact List.all_eq_true.1 (List.all_takeWhile (p:=λb=>zaq (a b) (a k)) (l:=K)) c i};rcases kK.1 hb with rfl|hb;{exact zeh d};{exact t c i b hb}
theorem yf1 (V:List PL)(BV:List Nat)(f:List Bool)(A:List Nat)(b n:Nat):∃a:List Nat,zed V BV f A b n=(a.map (λc=>keyF A (za4 V c)),a)/\a.Perm (grp BV f n b)/\a.Pairwise λi j=>zaq (keyF A (za4 V j)) (keyF A (za4 V i))=false:=by induction n with| zero=>exact⟨[],rfl,by simp[grp],by simp⟩| succ n h =>{obtain⟨a,g,d,e⟩:=h;rw[zf1,g,yg0];unfold zfk;split;{refine⟨_,yic (λc=>keyF A (za4 V c)) a n,?_,ya0 (λc=>keyF A (za4 V c)) a n e⟩;refine List.perm_middle.trans ?_;rw[List.takeWhile_append_dropWhile];exact(List.Perm.cons n d).trans (List.perm_append_singleton n _).symm};{exact⟨a,rfl,d,e⟩}}
theorem yi5 (K:List Nat):∀(c:List PL) (b:List Nat × List PL),c.length=K.length->K.Nodup->(∀a∈K,a<b.1.length) -> ((c.zip K).foldl layF b).2=b.2++c/\(∀a,a ∉ K->((c.zip K).foldl layF b).1.getD a 0=b.1.getD a 0)/\∀a∈K,((c.zip K).foldl layF b).1.getD a 0=b.2.length+K.idxOf a:=by induction K with| nil =>{intro c b g _ _;cases c with| nil=>exact⟨by simp,λ_ _=>rfl,by simp⟩| cons j m=>simp at g}| cons d K r =>{intro c b g h l;cases c with| nil=>simp at g| cons j m =>{rw[List.nodup_cons]at h;rw[List.zip_cons_cons,List.foldl_cons];obtain⟨p,i2,q⟩:=r m (layF b (j,d)) (by simpa using g) h.2 (λa f=>by{unfold layF;rw[List.length_set];exact l a (uX _ f)});have n:=l d kW;have k:∀a,(layF b (j,d)).1.getD a 0=if a=d then b.2.length else b.1.getD a 0:=λa=>by{unfold layF;rw[xY,List.getElem?_set];by_cases e:d=a;{subst e;simp[n]};{rw[if_neg e,if_neg (λi=>e i.symm),xY]}};refine⟨by rw[p];unfold layF;simp,λa f=>?_,λa f=>?_⟩;{rw[kK,not_or]at f;rw[i2 a f.2,k,if_neg f.1]};{by_cases e:a=d;{subst e;rw[i2 a h.1,k,if_pos rfl];simp};{have o:=(kK.1 f).resolve_left e;rw[q a o,List.idxOf_cons,show(d == a)=false from by simpa using λi:d=a=>e i.symm];unfold layF;simp only[yZ,List.length_cons,List.length_nil,Bool.cond_false];omega}}}}
def grps (BV:List Nat)(b:List Bool)(r n:Nat):List Nat:=(List.range n).flatMap λa=>grp BV b (r+1) a
theorem zkh (BV:List Nat)(a:List Bool)(r n:Nat):grps BV a r (n+1)=grps BV a r n++grp BV a (r+1) n:=by simp[grps,List.range_succ]
theorem zn2 {BV:List Nat}{d:List Bool}{r n x:Nat}:x∈grps BV d r n↔x<r+1/\d.getD x false=true/\BV.getD x 0<n:=by unfold grps;rw[List.mem_flatMap];constructor;{rintro⟨g,e,f⟩;obtain⟨a,b,c⟩:=zf8.1 f;exact⟨a,b,by rw[c];exact vW.1 e⟩};{rintro⟨a,b,c⟩;exact⟨_,vW.2 c,zf8.2 ⟨a,b,rfl⟩⟩}
theorem zv7 (BV:List Nat)(f:List Bool)(r n:Nat):(grps BV f r n).Nodup/\(grps BV f r n).Pairwise λc d=>BV.getD c 0<=BV.getD d 0:=by induction n with| zero=>simp[grps]| succ n e =>{rw[zkh];constructor;{rw[List.nodup_append];refine⟨e.1,ztc _ _ _ _,λc a d b g=>?_⟩;subst g;have:=(zn2.1 a).2.2;have:=(zf8.1 b).2.2;omega};{refine List.pairwise_append.2 ⟨e.2,List.pairwise_of_forall_mem_list λc a d b=>?_,λc a d b=>?_⟩;{rw[(zf8.1 a).2.2,(zf8.1 b).2.2];exact xW _};{have:=(zn2.1 a).2.2;have:=(zf8.1 b).2.2;omega}}}
theorem zv8 (BV:List Nat) (a:List Bool) (r:Nat) {n N:Nat} (d:n<=N):grps BV a r n <+: grps BV a r N:=by
  induction N with
  | zero => have : n = 0 := by omega
            subst this;exact List.prefix_refl _
  | succ N c =>
    rcases Nat.lt_or_ge N n with b | b
    · have : n = N + 1 := by omega
      subst this;exact List.prefix_refl _
    · rw [zkh];exact (c b).trans (List.prefix_append _ _)
theorem zoa {V:List PL}{BV:List Nat}(s:PoolOK V BV){r:Nat}(O:r<V.length):∃e,OrderIs V BV [r] e (zdp V BV r):=by
 obtain⟨c,Z⟩:=eX (zas V r);have J:∀a,c.getD a false=true↔ReachV V [r] a:=λa=>by rw[Z];exact znu s O a
 have M:∀a,ReachV V [r] a->a<r+1/\BV.getD a 0<=BV.getD r 0/\a<V.length:=by
  intro a d;induction d with
  | root d=>rw[yQ]at d;subst d;exact⟨vK _,xW _,O⟩
  | @left a k _ p q =>
   have C:=(s.lower q.2.2).1 k p;have I:=(s.opts a _ (za6 q.2.2)).1 k p;omega
  | @right a k _ p q =>
   have C:=(s.lower q.2.2).2 k p;have I:=(s.opts a _ (za6 q.2.2)).2 k p;omega
 obtain⟨u,a9⟩:=eX (BV.getD r 0+1);obtain⟨e,D⟩:=eX (grps BV c r u);have w:=zv7 BV c r u;rw[<-D]at w;have E:∀a,a∈e↔ReachV V [r] a:=λa=>by
  rw[D,zn2,J];exact⟨λh=>h.2.1,λh=>⟨(M a h).1,h,by have:=(M a h).2.1;omega⟩⟩
 have h:QOk V BV e:=s.qok (R:=[r]) (by simpa using O) w.1 E w.2;have ag:∀b,b<=u->∃f,GInv V BV e f (grps BV c r b).length/\(zaz V BV c r b).2=f.map (λa=>zca f (za4 V a))/\∀a∈f,(zaz V BV c r b).1.getD a 0=f.idxOf a:=by
  intro b;induction b with
  | zero=>intro _;exact⟨[],GInv.start V BV e,rfl,by simp⟩
  | succ b q =>
   intro hn;obtain⟨f,j,hF,K⟩:=q (by omega);have a0:=zv8 BV c r (n:=b+1) (N:=u) hn;rw[<-D,zkh]at a0;obtain⟨A,g⟩:=a0;have aa:e.drop (grps BV c r b).length=grp BV c (r+1) b++A:=by rw[<-g,List.append_assoc,List.drop_left]
   obtain⟨i,hK,l,a8⟩:=yf1 V BV c (zaz V BV c r b).1 b (r+1);have ac:=(zdn V BV c r b).1;have a6:∀a∈i,a<(zaz V BV c r b).1.length:=λa d=>by
    rw[ac];exact(zf8.1 ((l.mem_iff).1 d)).1
   have a7:i.Nodup:=(l.nodup_iff).2 (ztc _ _ _ _);obtain⟨l1,l2,l3⟩:=yi5 i (i.map λS=>keyF (zaz V BV c r b).1 (za4 V S)) (zaz V BV c r b) (by simp) a7 a6;have ad:zaz V BV c r (b+1)=((i.map λS=>keyF (zaz V BV c r b).1 (za4 V S)).zip i).foldl layF (zaz V BV c r b):=by
    rw[zgt];unfold yaa;rw[hK]
   have ab:(zaz V BV c r b).2.length=f.length:=by rw[hF];simp
   rw[zkh,ad];by_cases t:grp BV c (r+1) b=[]
   ·have a5:i=[]:=by rw[t]at l;exact l.eq_nil
    subst a5;rw[t,List.append_nil];exact⟨f,j,hF,K⟩
   ·have X:(grps BV c r b).length<e.length:=by
     rw[<-g];have:0<(grp BV c (r+1) b).length:=List.length_pos_iff.2 t;simp only[yZ];omega
    have T:BV.getD (e.getD (grps BV c r b).length 0) 0=b:=by
     have o:e.getD (grps BV c r b).length 0∈grp BV c (r+1) b:=by
      have H:e[(grps BV c r b).length]?=(grp BV c (r+1) b)[0]?:=by
       rw[<-g,List.append_assoc,kZ (xW _),Nat.sub_self,yW (List.length_pos_iff.2 t)]
      rw[xY,H,xQ (List.length_pos_iff.2 t)];exact y7 _
     exact(zf8.1 o).2.2
    have x:∀a∈grp BV c (r+1) b,a∈e/\BV.getD a 0=BV.getD (e.getD (grps BV c r b).length 0) 0:=λa d=>by
     obtain⟨B,v,g3⟩:=zf8.1 d;exact⟨(E a).2 ((J a).1 v),by rw[T,g3]⟩
    have L:∀a∈grp BV c (r+1) b,keyF (zaz V BV c r b).1 (za4 V a)=zca f (za4 V a):=λa d=>by
     obtain⟨B,v⟩:=h.group j X (x a d).1 (x a d).2;have o:∀F:List Nat,(∀k∈F,k∈f)->zag (za3 (zaz V BV c r b).1 F)=zg7 f F:=λF y=>by
      unfold zg7 za3;rw[kV λk p=>K k (y k p)]
     unfold keyF zca;rw[o _ B,o _ v]
    have ae:=GInv.step h j (m:=(grp BV c (r+1) b).length) (G:=grp BV c (r+1) b) (G':=i) (List.length_pos_iff.2 t) (by rw[<-g];simp only[yZ];omega)
     (by rw[aa,List.take_left]) (λa d=>(x a d).2) (by
      rcases Nat.lt_or_ge ((grps BV c r b).length+(grp BV c (r+1) b).length) e.length with q1|q1
      ·refine .inr ?_
       rw[T];intro o;have U:e.getD ((grps BV c r b).length+(grp BV c (r+1) b).length) 0∈A:=by
        have H:e[(grps BV c r b).length+(grp BV c (r+1) b).length]?=A[0]?:=by
         rw[<-g,kZ (by simp),yZ,Nat.sub_self]
        rw[xY,H];have y:(grps BV c r b++grp BV c (r+1) b++A).length=e.length:=by rw[g]
        simp only[yZ]at y;rw[xQ (by omega)];exact y7 _
       have Y:=w.1;rw[<-g,List.nodup_append]at Y;have af:e.getD ((grps BV c r b).length+(grp BV c (r+1) b).length) 0∈e:=by rw[<-g];exact List.mem_append_right _ (by rw[g];exact U)
       have a1:=(E _).1 af;refine Y.2.2 _ (List.mem_append_right _ (zf8.2 ⟨(M _ a1).1,(J _).2 a1,o⟩)) _ U rfl
      ·exact .inl (by
        have y:(grps BV c r b++grp BV c (r+1) b++A).length=e.length:=by rw[g]
        simp only[yZ]at y;omega)) l (a8.imp_of_mem λ{a2 a3} ha hb W=>by
      rw[L a2 ((l.mem_iff).1 ha),L a3 ((l.mem_iff).1 hb)]at W;exact W)
    have a4:∀a∈f,a ∉ i:=λa d P=>by
     have C:=(j.mem a).1 d;have I:=(l.mem_iff).1 P;rw[<-g,List.append_assoc,List.take_left]at C;have:=(zn2.1 C).2.2;have:=(zf8.1 I).2.2;omega
    refine⟨f++i,by rw[yZ];exact ae,?_,λa d=>?_⟩
    ·rw[l1,hF,vQ]
     congr 1
     ·refine kV λa d=>?_
      exact(zd9 (h.closed j d).1 (h.closed j d).2).symm
     ·refine kV λa d=>?_
      have Q:=(l.mem_iff).1 d;obtain⟨B,v⟩:=h.group j X (x a Q).1 (x a Q).2;rw[L a Q,zd9 B v]
    ·rw[List.idxOf_append]
     by_cases z:a∈f
     ·rw[if_pos z,l2 a (a4 a z),K a z]
     ·have P:=(y4.1 d).resolve_left z
      rw[if_neg z,l3 a P,ab];omega
 obtain⟨f,j,hF,_⟩:=ag u (xW _);rw[<-D]at j;refine⟨f,?_⟩;have o:zdp V BV r=f.map λa=>zca f (za4 V a):=by
  unfold zdp;rw[<-Z,<-a9,hF]
 rw[o];exact j.order w.1 E
theorem ze8 {α:Type}{P:List α->Prop}(h0:P [])(h1:∀l a,P l->P (l ++ [a])):∀l,P l:=λl=>by have h:∀m:List α,P m.reverse:=λm=>by{induction m with| nil=>exact h0| cons a m ih=>rw[List.reverse_cons];exact h1 _ _ ih};have:=h l.reverse;rwa [List.reverse_reverse]at this
def za0 (V:List PL):List Nat:=V.foldl (λa b=>a ++ [mkC (za3 a b.1) (za3 a b.2)]) []
theorem zfs (V:List PL)(y:PL):za0 (V ++ [y])=za0 V ++ [mkC (za3 (za0 V) y.1) (za3 (za0 V) y.2)]:=by simp[za0]
theorem za2 (V:List PL):(za0 V).length=V.length:=by induction V using ze8 with| h0=>rfl| h1 c b a=>rw[zfs,yZ,yZ,a];rfl
theorem zda (C t L:List Nat)(b:∀a∈L,a<C.length):za3 (C++t) L=za3 C L:=by unfold za3;refine kV λa c=>?_;rw[xY,xY,yW (b a c)]
theorem zfb {C t:List Nat}{j:Nat}(a:j<C.length):(C++t).getD j 0=C.getD j 0:=by rw[xY,xY,yW a]
theorem zg2 {V a:List PL}(b:V <+: a):za0 V <+: za0 a:=by obtain⟨d,rfl⟩:=b;induction d using ze8 with| h0=>rw[List.append_nil];exact List.prefix_refl _| h1 f e c=>rw[<-List.append_assoc,zfs];exact c.trans (List.prefix_append _ _)
def OptsOK (V:List PL):Prop:=∀(b:Nat) (c:PL),V[b]?=some c->(∀a∈c.1,a<b)/\∀a∈c.2,a<b
theorem zcf (V:List PL):OptsOK V->∀(a:Nat) (d:PL),V[a]?=some d->(za0 V).getD a 0=mkC (za3 (za0 V) d.1) (za3 (za0 V) d.2):=by induction V using ze8 with| h0=>{intro _ a d k;simp at k}| h1 h p n =>{intro f a d e;have m:OptsOK h:=λa o g=>f a o (by rw[yW (xV.1 g).1];exact g);have l:=za2 h;obtain⟨i,j⟩:=f a d e;rw[zfs];rcases zi2 e with ⟨q,e⟩|⟨rfl,rfl⟩;{rw[zfb (by omega),zda _ _ _ (λc b=>by have:=i c b;omega),zda _ _ _ (λc b=>by have:=j c b;omega)];exact n m a d e};{rw[zda _ _ _ (λc b=>by have:=i c b;omega),zda _ _ _ (λc b=>by have:=j c b;omega)];rw[xY,<-l];simp}}
theorem zon (BL:List Nat)(m:Nat)(L:List Nat):m<=zai BL m L/\(∀a∈L,BL.getD a 0+1<=zai BL m L)/\(zai BL m L=m\/∃a∈L,zai BL m L=BL.getD a 0+1):=zob (λb=>BL.getD b 0+1) L m
theorem PoolOK.book {V:List PL}{BV:List Nat}(e:PoolOK V BV):BookC V (za0 V):=by have q:=zcf V e.opts;have E:=za2 V;refine⟨E,e.opts,e.up,q,?_⟩;have J:∀i a b,a+b<i->a<V.length->b<V.length->(za0 V).getD a 0=(za0 V).getD b 0->a=b:=by{intro i;induction i with| zero=>{intro a b e;omega}| succ i I =>{intro a b r f g h;have o:=xQ f;have p:=xQ g;obtain⟨u,v⟩:=e.opts a _ o;obtain⟨w,x⟩:=e.opts b _ p;obtain⟨u1,u2⟩:=e.up a _ o;obtain⟨K,L⟩:=e.up b _ p;rw[q a _ o,q b _ p]at h;have n:∀(j k:Nat) (l m:List Nat),j+k<i+1->j<V.length->k<V.length->(∀d∈l,d<j)->(∀d∈m,d<k)->(∀c,c∈za3 (za0 V) l->c∈za3 (za0 V) m)->∀d∈l,d∈m:=by{intro j k l m P O Q F G H d s;obtain⟨A,t,D⟩:=zaa.1 (H _ (zaa.2 ⟨d,s,rfl⟩));have M:=F d s;have N:=G A t;rw[I d A (by omega) (by omega) (by omega) D.symm];exact t};(have y:∀c,c∈za3 (za0 V) V[a].1↔c∈za3 (za0 V) V[b].1:=λc=>by rw[<-zam _ (za3 (za0 V) V[a].2),h,zam]);(have z:∀c,c∈za3 (za0 V) V[a].2↔c∈za3 (za0 V) V[b].2:=λc=>by rw[<-zak (za3 (za0 V) V[a].1),h,zak]);have B:V[a].1=V[b].1:=zh1 u1 K λd=>⟨n a b _ _ r f g u w (λc=>(y c).1) d,n b a _ _ (by omega) g f w u (λc=>(y c).2) d⟩;have C:V[a].2=V[b].2:=zh1 u2 L λd=>⟨n a b _ _ r f g v x (λc=>(z c).1) d,n b a _ _ (by omega) g f x v (λc=>(z c).2) d⟩;exact(List.getElem_inj e.nodup).1 (Prod.ext B C)}};refine List.nodup_iff_pairwise_ne.2 (List.pairwise_iff_getElem.2 λa b f g R h=>?_);have:=J (a+b+1) a b (by omega) (by omega) (by omega) (by rw[xY,xY,xQ f,xQ g,h]);omega
theorem PoolOK.births {V:List PL}{BV:List Nat}(k:PoolOK V BV):∀b,b<V.length->BV.getD b 0=bornC ((za0 V).getD b 0):=by intro b;induction b using Nat.strongRecOn with| _ b e =>{intro p;have j:=xQ p;obtain⟨f,g⟩:=k.opts b _ j;rw[k.born b _ j,zcf V k.opts b _ j];obtain⟨q,m,h⟩:=zon BV 0 V[b].1;obtain⟨r,n,i⟩:=zon BV (zai BV 0 V[b].1) V[b].2;have l:∀d,optC (mkC (za3 (za0 V) V[b].1) (za3 (za0 V) V[b].2)) d↔(∃a∈V[b].1,(za0 V).getD a 0=d)\/∃a∈V[b].2,(za0 V).getD a 0=d:=λd=>by{unfold optC;rw[zam,zak,zaa,zaa]};refine(ygv (λd o=>?_) ?_).symm;{rcases (l d).1 o with ⟨a,c,rfl⟩|⟨a,c,rfl⟩;{rw[<-e a (f a c) (by have:=f a c;omega)];have:=m a c;omega};{rw[<-e a (g a c) (by have:=g a c;omega)];have:=n a c;omega}};{rcases i with i|⟨a,c,i⟩;{rcases h with h|⟨a,c,h⟩;{exact .inl (by omega)};{refine .inr ⟨_,(l _).2 (.inl ⟨a,c,rfl⟩),?_⟩;rw[<-e a (f a c) (by have:=f a c;omega)];omega}};{refine .inr ⟨_,(l _).2 (.inr ⟨a,c,rfl⟩),?_⟩;rw[<-e a (g a c) (by have:=g a c;omega)];omega}}}
theorem PoolOK.form {V:List PL}{BV:List Nat}(a:PoolOK V BV){r:Nat}(b:r<V.length):FormC ((za0 V).getD r 0) (zdp V BV r):=by obtain⟨d,c⟩:=zoa a b;exact⟨_,zpa a.book a.births b c⟩
theorem zeg (BL:List Nat)(m K:Nat)(L:List Nat):zai BL m L<=K↔m<=K/\∀a∈L,BL.getD a 0+1<=K:=by obtain⟨f,d,b⟩:=zon BL m L;constructor;{exact λg=>⟨by omega,λa c=>by have:=d a c;omega⟩};{rintro⟨h,e⟩;rcases b with b|⟨a,c,b⟩;{omega};{have:=e a c;omega}}
theorem ydp (BL:List Nat){L g R R':List Nat}(h:∀a,a∈L↔a∈g)(i:∀a,a∈R↔a∈R'):zai BL (zai BL 0 L) R=zai BL (zai BL 0 g) R':=by have j:∀ {d b e c:List Nat},(∀a,a∈d↔a∈b)->(∀a,a∈e↔a∈c)->zai BL (zai BL 0 d) e<=zai BL (zai BL 0 b) c:=by{intro d b e c k l;obtain⟨m,i2⟩:=(zeg BL (zai BL 0 b) _ c).1 (xW _);obtain⟨n,o⟩:=(zeg BL 0 _ b).1 m;exact(zeg _ _ _ _).2 ⟨(zeg _ _ _ _).2 ⟨n,λa f=>o a ((k a).1 f)⟩,λa f=>i2 a ((l a).1 f)⟩};exact Nat.le_antisymm (j h i) (j (λa=>(h a).symm) λa=>(i a).symm)
theorem zd2 {V:List PL}{BV:List Nat}(a:PoolOK V BV)(L R:List Nat):putB V BV L R=za5 V BV L R:=by have j:(zg9 BV L R).1=zai BV (zai BV 0 (zag L)) (zag R):=ydp BV (λc=>(zba L c).symm) λc=>(zba R c).symm;have n:(zg9 BV L R).2=(zag L,zag R):=rfl;unfold putB za5;simp only[n];by_cases e:(zag L,zag R)∈V;{rw[if_pos e];(have d:=List.idxOf_lt_length_of_mem e;have i:V[V.idxOf (zag L,zag R)]?=some (zag L,zag R):=by rw[xQ d,List.getElem_idxOf]);have g:zui V BV (zg9 BV L R).1 (zag L,zag R)=V.idxOf (zag L,zag R):=by{refine zrc V BV _ _ _ d a.len (λf c r o b q h=>?_) ?_ i;{have p:=(xV.1 b).1;rw[h.2]at b;obtain⟨_,m⟩:=xV.1 b;have:V.idxOf V[f]=f:=List.Nodup.idxOf_getElem a.nodup f p;rw[m]at this;omega};{have k:=a.born _ _ i;(have l:V.idxOf (zag L,zag R)<BV.length:=by rw[a.len];exact d);rw[xY,xQ l]at k;rw[xQ l,j,<-k];rfl}};rw[g,if_pos d]};{rw[if_neg e];have g:=zm2 V BV (zg9 BV L R).1 (zag L,zag R) a.len (λf c r o b q h=>e (by rw[<-h.2];exact xK b));rw[if_neg g,j]}
theorem zsq {V:List PL}{BV:List Nat}(g:PoolOK V BV){L R:List Nat}(d:∀a∈L,a<V.length)(e:∀a∈R,a<V.length) : (za0 (za5 V BV L R).1).getD (za5 V BV L R).2.2 0=mkC (za3 (za0 V) L) (za3 (za0 V) R):=by obtain⟨h,i⟩:=zm3 g d e;obtain⟨_,_,j⟩:=zdx V BV L R;have f:=za2 V;rw[zcf _ h.opts _ _ i];obtain⟨m,k⟩:=zg2 j;rw[<-k];refine ycg (λl=>?_) λl=>?_;{rw[zda _ _ _ (λa b=>by rw[f];exact d a ((zba L a).1 b)),zaa,zaa];exact⟨λ⟨a,b,c⟩=>⟨a,(zba L a).1 b,c⟩,λ⟨a,b,c⟩=>⟨a,(zba L a).2 b,c⟩⟩};{rw[zda _ _ _ (λa b=>by rw[f];exact e a ((zba R a).1 b)),zaa,zaa];exact⟨λ⟨a,b,c⟩=>⟨a,(zba R a).1 b,c⟩,λ⟨a,b,c⟩=>⟨a,(zba R a).2 b,c⟩⟩}
theorem ycn {c d e:Nat}{f g h:PL}(b:klt c f d g)(a:klt d g e h):klt c f e h:=by rcases b with b|⟨j,b⟩;{rcases a with a|⟨i,_⟩;{exact .inl (by omega)};{exact .inl (by omega)}};{rcases a with a|⟨i,a⟩;{exact .inl (by omega)};{exact .inr ⟨by omega,zfx b a⟩}}
theorem yi6 (b:Nat)(x:PL):¬klt b x b x:=λa=>zt7 a a
def zbd (Fs:List PL):List Nat:=Fs.foldl (λa b=>a ++ [zai a (zai a 0 b.1) b.2]) []
theorem zfe (Fs:List PL)(y:PL):zbd (Fs ++ [y])=zbd Fs ++ [zai (zbd Fs) (zai (zbd Fs) 0 y.1) y.2]:=by simp[zbd]
theorem zdr (Fs:List PL):(zbd Fs).length=Fs.length:=by induction Fs using ze8 with| h0=>rfl| h1 c b a=>rw[zfe,yZ,yZ,a];rfl
theorem OptsOK.cut {l:List PL}{a:PL}(c:OptsOK (l ++ [a])):OptsOK l:=λd e b=>c d e (by rw[yW (xV.1 b).1];exact b)
theorem BookUp.cut {l:List PL}{a:PL}(c:BookUp (l ++ [a])):BookUp l:=λd e b=>c d e (by rw[yW (xV.1 b).1];exact b)
theorem zoi (Fs:List PL):OptsOK Fs->∀(d:Nat) (c:PL),Fs[d]?=some c->(zbd Fs).getD d 0=zai (zbd Fs) (zai (zbd Fs) 0 c.1) c.2:=by induction Fs using ze8 with| h0=>{intro _ d c i;simp at i}| h1 l m k =>{intro f d c e;have j:=zdr l;obtain⟨g,h⟩:=f d c e;rw[zfe];rcases zi2 e with ⟨n,e⟩|⟨rfl,rfl⟩;{rw[zcg _ _ _ _ (λb a=>by have:=h b a;omega),zcg _ _ _ _ (λb a=>by have:=g b a;omega),zfb (by omega)];exact k f.cut d c e};{rw[zcg _ _ _ _ (λb a=>by have:=h b a;omega),zcg _ _ _ _ (λb a=>by have:=g b a;omega),xY,<-j];simp}}
theorem zgn {Fs:List PL}(a:OptsOK Fs)(c:BookUp Fs)(b:Fs.Nodup):PoolOK Fs (zbd Fs):=⟨zdr Fs,a,c,b,zoi Fs a⟩
theorem zor (Fs:List PL):OptsOK Fs->BookUp Fs->Fs.Nodup->addB [] [] Fs=(Fs,zbd Fs,List.range Fs.length):=by induction Fs using ze8 with| h0=>{intro _ _ _;rfl}| h1 a b p =>{intro d e h;have i:a.Nodup:=(List.nodup_append.1 h).1;have m:b ∉ a:=λk=>(List.nodup_append.1 h).2.2 b k b (by simp) rfl;(have j:(a ++ [b])[a.length]?=some b:=by simp);(obtain⟨q,r⟩:=d _ b j;obtain⟨u1,u2⟩:=e _ b j;have g:∀c:List Nat,(∀f∈c,f<a.length)->za3 (List.range a.length) c=c:=λc l=>zkt _ _ λf o=>by rw[zc0,if_pos (l f o)]);have n:za5 a (zbd a) b.1 b.2=(a ++ [b],zbd (a ++ [b]),a.length):=by{unfold za5;rw[zhs _ u1,zhs _ u2,if_neg m,zfe]};rw[zei,p d.cut e.cut i];unfold zit;simp only[g _ q,g _ r,zd2 (zgn d.cut e.cut i),n];simp[List.range_succ]}
theorem ztz (Fs:List PL):OptsOK Fs->∀ {b:List PL}{a:List Nat},PoolOK b a->BookOK b a->PoolOK (addB b a Fs).1 (addB b a Fs).2.1:=by induction Fs using ze8 with| h0=>{intro _ b a c _;exact c}| h1 f h n =>{(intro d b a c i;obtain⟨q,k,l,r,s⟩:=zhm i f d.cut;have j:=n d.cut c i;have m:(f ++ [h])[f.length]?=some h:=by simp);obtain⟨o,p⟩:=d _ h m;rw[zei];show PoolOK (putB _ _ _ _).1 (putB _ _ _ _).2.1;rw[zd2 j];exact(zm3 j (zfv l (λg e=>by rw[k];exact o g e)) (zfv l (λg e=>by rw[k];exact p g e))).1}
theorem ybm {V:List PL}{C:List Nat}(B:BookC V C){r:Nat}(d:r<V.length){x:Nat}(a:ReachV V [r] x):SubC (C.getD r 0) (C.getD x 0):=by induction a with| root a=>simp at a;subst a;exact .root| left a b c=>exact .step c (.inl (B.left (zgm B (by simpa using d) a) b).2)| right a b c=>exact .step c (.inr (B.right (zgm B (by simpa using d) a) b).2)
theorem znm {V:List PL}{C:List Nat}(B:BookC V C){r:Nat}(b:r<V.length){c:Nat}(h:SubC (C.getD r 0) c):∃e,ReachV V [r] e/\e<V.length/\C.getD e 0=c:=by induction h with| root=>exact⟨r,.root (by simp),b,rfl⟩| step _ ho j =>{obtain⟨k,g,i,rfl⟩:=j;rw[B.code k _ (B.getD i)]at ho;rcases ho with ho|ho;{rw[zam]at ho;obtain⟨f,d,rfl⟩:=zaa.1 ho;have a:=ReachV.left g d;exact⟨f,a,zgm B (by simpa using b) a,rfl⟩};{rw[zak]at ho;obtain⟨f,d,rfl⟩:=zaa.1 ho;have a:=ReachV.right g d;exact⟨f,a,zgm B (by simpa using b) a,rfl⟩}}
def zid (Fs:List PL):Prop:=∀(a:Nat) (b c:PL),Fs[a]?=some b->Fs[a+1]?=some c->klt ((zbd Fs).getD a 0) b ((zbd Fs).getD (a+1) 0) c
def ze5 (Fs:List PL):Prop:=∀a,a<Fs.length->(zas Fs (Fs.length-1)).getD a false=true
theorem yff {Fs:List PL}(f:zid Fs):∀(a i:Nat) (b c:PL),Fs[i]?=some b->Fs[i+a+1]?=some c->klt ((zbd Fs).getD i 0) b ((zbd Fs).getD (i+a+1) 0) c:=by intro a;induction a with| zero=>{intro i b c e d;exact f i b c e d}| succ a h =>{intro i b c e d;have j:=(xV.1 d).1;have g:=xQ (l:=Fs) (i:=i+a+1) (by omega);exact ycn (h i b _ e g) (f (i+a+1) _ c g d)}
theorem ycd {Fs:List PL}(b:zid Fs){i j:Nat}{x y:PL}(e:i<j)(c:Fs[i]?=some x)(d:Fs[j]?=some y):klt ((zbd Fs).getD i 0) x ((zbd Fs).getD j 0) y:=by obtain⟨a,rfl⟩:∃a,j=i+a+1:=⟨j-i-1,by omega⟩;exact yff b a i x y c d
theorem zf2 {Fs:List PL}(d:OptsOK Fs)(f:zid Fs):Fs.Nodup:=by refine List.nodup_iff_pairwise_ne.2 (List.pairwise_iff_getElem.2 λj k g i h e=>?_);have a:=xQ g;have b:=xQ i;have c:=ycd f h a b;rw[zoi Fs d j _ a,zoi Fs d k _ b,e]at c;exact yi6 _ _ c
def zaf (Fs:List PL):Nat:=(za0 Fs).getD (Fs.length-1) 0
theorem zen {Fs:List PL}{c:Nat}(p:FormC c Fs):0<Fs.length/\OptsOK Fs/\BookUp Fs/\zid Fs/\ze5 Fs/\zaf Fs=c:=by obtain⟨m,e⟩:=p;have f:OptsOK Fs:=e.book.opts;have E:BookUp Fs:=e.book.up;have N:=e.book.len;have r:∀a,a<Fs.length->m.getD a 0=(za0 Fs).getD a 0:=by{intro a;induction a using Nat.strongRecOn with| _ a v =>{intro s;have o:=xQ s;obtain⟨L,M⟩:=f a _ o;have x:∀l:List Nat,(∀b∈l,b<a)->za3 m l=za3 (za0 Fs) l:=λl z=>kV λb d=>v b (z b d) (by have:=z b d;omega);rw[e.book.code a _ o,zcf Fs f a _ o,x _ L,x _ M]}};have K:Fs.Nodup:=by{refine List.nodup_iff_pairwise_ne.2 (List.pairwise_iff_getElem.2 λh a A s O n=>?_);have w:=e.book.code h _ (xQ A);have H:=e.book.code a _ (xQ s);rw[n]at w;have:=zbm e.book.nodup (by omega) (by omega) (w.trans H.symm);omega};(have q:=zgn f E K;obtain⟨j,t,y⟩:=zfn ((e.sub c).2 .root);have u:j<Fs.length:=by omega);have B:∀h,h<Fs.length->ReachV Fs [j] h:=λh A=>by{have D:=(e.sub _).1 (zbk (C:=m) (i:=h) (by omega));rw[<-y]at D;obtain⟨b,d,P,n⟩:=znm e.book u D;rw[zbm e.book.nodup (by omega) (by omega) n]at d;exact d};have J:∀b,ReachV Fs [j] b->b<=j:=λb d=>by{induction d with| root p=>simp at p;omega| @left b k d g v=>have:=(f b _ (za6 (by omega))).1 k g;omega| @right b k d g v=>have:=(f b _ (za6 (by omega))).2 k g;omega};(have I:j=Fs.length-1:=by have:=J _ (B (Fs.length-1) (by omega));omega);subst I;refine⟨by omega,f,E,λa b k d g=>?_,λb d=>(znu q u b).2 (B b d),by unfold zaf;rw[<-r _ u,y]⟩;have t:=e.up a (a+1) b k (vK _) d g;have F:=(xV.1 d).1;have G:=(xV.1 g).1;rw[r a F,r (a+1) G,<-q.births a F,<-q.births (a+1) G]at t;exact t
theorem yhu {Fs:List PL}(b:OptsOK Fs)(i:0<Fs.length)(c:zdp (addB [] [] Fs).1 (addB [] [] Fs).2.1 (zfz [] [] Fs)=Fs):zid Fs/\ze5 Fs:=by have f:=ztz Fs b PoolOK.nil BookOK.nil;have g:zfz [] [] Fs<(addB [] [] Fs).1.length:=by{obtain⟨j,k,h,l,m⟩:=zhm BookOK.nil Fs b;unfold zfz;rw[xY,xQ (by omega)];exact h _ (y7 _)};have a:=f.form g;rw[c]at a;obtain⟨_,_,_,d,e,_⟩:=zen a;exact⟨d,e⟩
theorem yd2 {Fs:List PL}(r:0<Fs.length)(h:OptsOK Fs)(l:BookUp Fs)(g:zid Fs)(k:ze5 Fs):FormC (zaf Fs) Fs:=by(have j:=zf2 h g;have a:=zgn h l j;have d:Fs.length-1<Fs.length:=by omega);have p:=za2 Fs;refine⟨za0 Fs,a.book,λn=>⟨λb=>?_,λb=>?_⟩,λc m n o i b e=>?_⟩;{obtain⟨c,q,rfl⟩:=zfn b;exact ybm a.book d ((znu a d c).1 (k c (by omega)))};{obtain⟨o,_,e,rfl⟩:=znm a.book d b;exact zbk (by omega)};{have f:=ycd g i b e;rw[a.births c (xV.1 b).1,a.births m (xV.1 e).1]at f;exact f}
theorem yig {Fs:List PL}(g:0<Fs.length)(a:OptsOK Fs)(b:BookUp Fs)(c:zid Fs)(h:ze5 Fs):zdp (addB [] [] Fs).1 (addB [] [] Fs).2.1 (zfz [] [] Fs)=Fs:=by(have e:=zf2 a c;have f:=zgn a b e;have d:Fs.length-1<Fs.length:=by omega);unfold zfz;rw[zor Fs a b e];show zdp Fs (zbd Fs) ((List.range Fs.length).getD (Fs.length-1) 0)=Fs;rw[zc0,if_pos d];exact(f.form d).one (yd2 g a b c h)
theorem zki (Fs:List PL):zar (i2 Fs)↔zax Fs=true/\OptsOK Fs/\BookUp Fs/\zid Fs/\ze5 Fs:=by constructor;{rintro⟨a,l,m⟩;(rw[zmb]at a;obtain⟨k,f,b,c⟩:=zmz l;obtain rfl:=zta f;have g:0<Fs.length:=by unfold zax at a;rw[kJ]at a;omega);obtain⟨h,i⟩:=yhu b g (m Fs rfl);exact⟨a,b,c,h,i⟩};{rintro⟨a,b,c,h,i⟩;(have g:0<Fs.length:=by unfold zax at a;rw[kJ]at a;omega);refine⟨by rw[zmb];exact a,λd r q n=>?_,λk f=>?_⟩;{obtain⟨e,j,rfl⟩:=ycv n;obtain⟨o,p⟩:=b d e j;obtain⟨u1,u2⟩:=c d e j;exact⟨zx9 d e.1 none u1 o (by simp),zx9 d e.2 none u2 p (by simp)⟩};{obtain rfl:=zta f;exact yig g b c h i}}
theorem zee {Fs:List PL}(b:zar (i2 Fs)):FormC (zaf Fs) Fs:=by(obtain⟨a,c,e,f,g⟩:=(zki Fs).1 b;have d:0<Fs.length:=by unfold zax at a;rw[kJ]at a;omega);exact yd2 d c e f g
theorem zkm {Fs:List PL}{c:Nat}(a:FormC c Fs)(b:zax Fs=true):zar (i2 Fs)/\zaf Fs=c:=by obtain⟨_,d,e,f,g,h⟩:=zen a;exact⟨(zki Fs).2 ⟨b,d,e,f,g⟩,h⟩
def geC (a b:Nat):Bool:=((zk0 a).attach.all λd=>!geC b d.1) && ((zrp b).attach.all λc=>!geC c.1 a)
 termination_by a+b
 decreasing_by
  ·have:=za7 (.inr (zbh.1 d.2));omega
  ·have:=za7 (.inl (zbu.1 c.2));omega
theorem zdm (a b:Nat):geC a b=true↔(∀d,hasR a d->geC b d=false)/\∀c,hasL b c->geC c a=false:=by rw[geC,Bool.and_eq_true,List.all_eq_true,List.all_eq_true];constructor;{rintro⟨e,f⟩;exact⟨λd h=>by simpa using e ⟨d,zbh.2 h⟩ (List.mem_attach _ _),λc g=>by simpa using f ⟨c,zbu.2 g⟩ (List.mem_attach _ _)⟩};{rintro⟨e,f⟩;exact⟨λd _=>by simpa using e d.1 (zbh.1 d.2),λc _=>by simpa using f c.1 (zbu.1 c.2)⟩}
def geV (C:List Nat)(x y:Nat):Bool:=geC (C.getD x 0) (C.getD y 0)
theorem yd1 {V:List PL}{C:List Nat}(B:BookC V C){x y:Nat}(k:x<V.length)(l:y<V.length) : geV C x y=true↔(∀d∈(za4 V x).2,geV C y d=false)/\∀c∈(za4 V y).1,geV C c x=false:=by unfold geV;rw[zdm];have i:=B.code x _ (za6 k);have j:=B.code y _ (za6 l);constructor;{rintro⟨e,f⟩;exact⟨λd b=>e _ (by rw[i,zak];exact zaa.2 ⟨d,b,rfl⟩),λc a=>f _ (by rw[j,zam];exact zaa.2 ⟨c,a,rfl⟩)⟩};{rintro⟨e,f⟩;refine⟨λd b=>?_,λc a=>?_⟩;{rw[i,zak]at b;obtain⟨h,g,rfl⟩:=zaa.1 b;exact e h g};{rw[j,zam]at a;obtain⟨h,g,rfl⟩:=zaa.1 a;exact f h g}}
def domP (g:Nat->Nat->Bool)(L:List Nat)(k j:Nat):Bool:=decide (j≠k) && (g (L.getD k 0) (L.getD j 0) && (!g (L.getD j 0) (L.getD k 0) || decide (j<k)))
def domB (g:Nat->Nat->Bool)(L:List Nat):List Nat:=(List.range L.length).filter λa=>(List.range L.length).any (domP g L a)
def zan (L P:List Nat):List Nat:=(L.zipIdx.filter λa=>!P.contains a.2).map (·.1)
def gL (C:List Nat)(a b:Nat):Bool:=geV C b a
def gR (C:List Nat)(a b:Nat):Bool:=geV C a b
theorem zmk (L P:List Nat):(zan L P).Sublist L:=by unfold zan;have a:(L.zipIdx.filter λc=>!P.contains c.2).Sublist L.zipIdx:=List.filter_sublist;have b:=a.map (·.1);rwa [List.zipIdx_map_fst]at b
theorem zce {L P:List Nat}{x:Nat}(a:x∈zan L P):x∈L:=(zmk L P).subset a
theorem zd8 (L P:List Nat):(zan L P).length<=L.length:=(zmk L P).length_le
theorem ziv (L P:List Nat)(k:Nat)(b:k<L.length):zan (L.take (k+1)) P=if k∈P then zan (L.take k) P else zan (L.take k) P ++ [L[k]]:=by(unfold zan;rw[yX b,List.zipIdx_append,List.filter_append,vQ];have c:(L.take k).length=k:=by simp;omega);simp only[List.zipIdx_cons,List.zipIdx_nil,c,Nat.zero_add,List.filter_cons,List.filter_nil];by_cases a:k∈P;{simp[a]};{simp[a]}
def FormRes (V:List PL)(BV:List Nat)(r:Nat)(ok:Bool)(FN:List PL):Prop :=
 (ok=false/\FN=[]/\∃a:List Nat,a.Nodup/\(∀c,c∈a↔ReachV V [r] c)/\120<a.length)\/∃a b,OrderIs V BV [r] a b/\a.length<=120/\ok=zax b/\FN=if ok then b else []
theorem yd7 {c:Type}{a:List (List c × List c)}(e:a.length<=120)(f:1<=a.length)(g:∀(d:Nat) (b:List c × List c),a[d]?=some b->b.1.length<=24/\b.2.length<=24):zax a=true :=
 vX ⟨e,f,λb i=>by
  obtain⟨d,h,rfl⟩:=uZ i;exact g d _ (xQ h)⟩
theorem yg9 {a:Type}{b:List (List a × List a)}{k:Nat}{y:List a × List a}(c:b[k]?=some y)(e:24<y.1.length\/24<y.2.length):zax b=false := vY λd=>by have:=d.2.2 y (xK c);omega
theorem zap {V a:List PL}(b:V <+: a){x:Nat}(d:x<V.length):(za0 a).getD x 0=(za0 V).getD x 0:=by obtain⟨e,c⟩:=zg2 b;rw[<-c];exact zfb (by rw[za2];exact d)
theorem zdf {V a:List PL}(b:V <+: a){x:Nat}(c:x<V.length):za4 a x=za4 V x:=by obtain⟨d,rfl⟩:=b;unfold za4;rw[xY,xY,yW c]
def RowC (V:List PL)(L a:List Nat):Prop:=(∀b∈L,b<V.length)/\za3 (za0 V) L=a
theorem RowC.nil (V:List PL):RowC V [] []:=⟨by simp,rfl⟩
theorem RowC.mono {V d:List PL}{L e:List Nat}(a:RowC V L e)(f:V <+: d):RowC d L e:=by refine⟨λc b=>vJ (a.1 c b) f.length_le,?_⟩;rw[<-a.2];exact kV λc b=>zap f (a.1 c b)
theorem RowC.snoc {V:List PL}{L b:List Nat}{x c:Nat}(d:RowC V L b)(f:x<V.length)(e:(za0 V).getD x 0=c):RowC V (L ++ [x]) (b ++ [c]):=by refine⟨λg a=>?_,?_⟩;{rcases y4.1 a with a|a;{exact d.1 g a};{rw[yQ.1 a];exact f}};{rw[<-d.2,<-e];simp[za3]}
theorem RowC.len {V:List PL}{L a:List Nat}(b:RowC V L a):L.length=a.length:=by rw[<-b.2];simp[za3]
theorem zg0 {V:List PL}{BV:List Nat}(e:PoolOK V BV){L R c d:List Nat}(a:RowC V L c)(b:RowC V R d) : PoolOK (za5 V BV L R).1 (za5 V BV L R).2.1/\V <+: (za5 V BV L R).1/\(za5 V BV L R).2.2<(za5 V BV L R).1.length/\(za0 (za5 V BV L R).1).getD (za5 V BV L R).2.2 0=mkC c d:=by obtain⟨f,_,g⟩:=zdx V BV L R;exact⟨(zm3 e a.1 b.1).1,g,f,by rw[zsq e a.1 b.1,a.2,b.2]⟩
theorem zde {V:List PL}{BV:List Nat}(b:PoolOK V BV){U:List Nat}(c:∀a,a<V.length->(za0 V).getD a 0∈U):V.length<=U.length:=by rw[<-za2 V];refine b.book.nodup.length_le_of_subset λg d=>?_;obtain⟨f,e,rfl⟩:=zfn d;exact c f (by rw[<-za2 V];exact e)
theorem zhv {V:List PL}{BV:List Nat}{L R U:List Nat}(f:∀a,a<V.length->(za0 V).getD a 0∈U)(g:(za0 (za5 V BV L R).1).getD (za5 V BV L R).2.2 0∈U) :
  ∀a,a<(za5 V BV L R).1.length->(za0 (za5 V BV L R).1).getD a 0∈U:=by
 intro a b;obtain⟨h,j,i⟩:=zdx V BV L R;by_cases c:a<V.length
 ·rw[zap i c];exact f a c
 ·have e:a=(za5 V BV L R).2.2:=by
   unfold za5 at b h ⊢;split
   ·rename_i d;rw[if_pos d]at b;exact absurd b c
   ·rename_i d
    rw[if_neg d]at b;simp at b ⊢;omega
  rw[e];exact g
theorem ztq:∀(d:Nat) (a:List PL) (b:List Nat),PoolOK a b->∃c m j,PoolOK c m/\a <+: c/\j<c.length/\(za0 c).getD j 0=d:=by intro d;induction d using Nat.strongRecOn with| _ d y =>{have u:∀(h:List Nat),(∀i∈h,i<d)->∀(a:List PL) (b:List Nat),PoolOK a b->∃c m k,PoolOK c m/\a <+: c/\RowC c k h:=by{intro h;induction h using ze8 with| h0=>{intro _ a b f;exact⟨a,b,[],f,List.prefix_refl _,RowC.nil a⟩}| h1 i t z =>{intro e a b f;obtain⟨n,l,k,h1,p,q⟩:=z (λF x=>e F (y8 _ x)) a b f;obtain⟨s,r,j,o,g,w,v⟩:=y t (e t (by simp)) n l h1;exact⟨s,r,k ++ [j],o,p.trans g,(q.mono g).snoc w v⟩}};intro a b f;obtain⟨n,l,G,h1,p,q⟩:=u (zrp d) (λi e=>za7 (.inl (zbu.1 e))) a b f;obtain⟨s,r,H,o,g,E⟩:=u (zk0 d) (λi e=>za7 (.inr (zbh.1 e))) n l h1;obtain⟨A,B,C,D⟩:=zg0 o (q.mono g) E;exact⟨_,_,_,A,(p.trans g).trans B,C,by rw[D,yfm]⟩}
theorem yd3 (c:Nat):∃a,FormC c a:=by obtain⟨g,f,h,b,_,e,d⟩:=ztq c [] [] PoolOK.nil;have:=b.form e;rw[d]at this;exact⟨_,this⟩
noncomputable def zad (c:Nat):List PL:=Classical.choose (yd3 c)
theorem zbb (c:Nat):FormC c (zad c):=Classical.choose_spec (yd3 c)
theorem FormC.of {c:Nat}{FN:List PL}(a:FormC c FN):FN=zad c:=a.one (zbb c)
theorem zea {V:List PL}{BV:List Nat}(a:PoolOK V BV){r c:Nat}(d:r<V.length)(b:(za0 V).getD r 0=c):zdp V BV r=zad c:=by have:=a.form d;rw[b]at this;exact this.of
theorem SubC.trans {a b c:Nat}(d:SubC a b)(e:SubC b c):SubC a c:=by induction e with| root=>exact d| step _ f g=>exact g.step f
theorem zvm {C A L:List Nat}(b:∀a∈L,a<A.length):za3 C (za3 A L)=za3 (za3 C A) L:=by unfold za3;rw[List.map_map];refine kV λa c=>?_;have d:=b a c;simp[xY,vZ,xQ d]
theorem RowC.at {V:List PL}{A b L:List Nat}(c:RowC V A b)(d:∀a∈L,a<A.length):RowC V (za3 A L) (za3 b L):=by refine⟨λg f=>?_,?_⟩;{obtain⟨a,e,rfl⟩:=zaa.1 f;exact c.1 _ (zbk (d a e))};{rw[zvm d,c.2]}
theorem OptsOK.last {l:List PL}{a:PL}(c:OptsOK (l ++ [a])):(∀b∈a.1,b<l.length)/\∀b∈a.2,b<l.length:=c l.length a (by simp)
theorem zu0 (Fs:List PL):OptsOK Fs->∀ {a:List PL}{b:List Nat},PoolOK a b->PoolOK (addB a b Fs).1 (addB a b Fs).2.1/\a <+: (addB a b Fs).1/\RowC (addB a b Fs).1 (addB a b Fs).2.2 (za0 Fs) ∧
  ∀e,e<(addB a b Fs).1.length->(za0 (addB a b Fs).1).getD e 0∈za0 a++za0 Fs:=by
 induction Fs using ze8 with
 | h0 =>
  intro _ a b h;exact⟨h,List.prefix_refl _,RowC.nil a,λe i=>y8 _ (zbk (by rw[za2];exact i))⟩
 | h1 c d r =>
  intro l a b h;obtain⟨m,i2,f,q⟩:=r l.cut h;obtain⟨s,t⟩:=l.last;have k:(addB a b c).2.2.length=c.length:=by rw[f.len,za2]
  have w:=f.at (L:=d.1) (λj g=>by rw[k];exact s j g);have x:=f.at (L:=d.2) (λj g=>by rw[k];exact t j g);obtain⟨u,n,v,o⟩:=zg0 m w x;have p:addB a b (c ++ [d])=((za5 (addB a b c).1 (addB a b c).2.1 (za3 (addB a b c).2.2 d.1) (za3 (addB a b c).2.2 d.2)).1,(za5 (addB a b c).1 (addB a b c).2.1 (za3 (addB a b c).2.2 d.1) (za3 (addB a b c).2.2 d.2)).2.1,
    (addB a b c).2.2 ++ [(za5 (addB a b c).1 (addB a b c).2.1 (za3 (addB a b c).2.2 d.1) (za3 (addB a b c).2.2 d.2)).2.2]):=by
   rw[zei,<-zd2 m];rfl
  rw[p,zfs];refine⟨u,i2.trans n,(f.mono n).snoc v o,?_⟩;refine zhv (λe i=>?_) ?_
  ·rcases y4.1 (q e i)with h|h
   ·exact y8 _ h
   ·exact List.mem_append_right _ (y8 _ h)
  ·rw[o]
   exact List.mem_append_right _ (List.mem_append_right _ (yQ.2 rfl))
theorem zh3 {V:List PL}{BV:List Nat}(c:PoolOK V BV){r:Nat}(d:r<V.length){a:Nat}(e:SubC ((za0 V).getD r 0) a):a∈za0 V:=by obtain⟨g,_,f,b⟩:=znm c.book d e;rw[<-b];exact zbk (by rw[za2];exact f)
theorem zex {V:List PL}{BV:List Nat}(d:PoolOK V BV):BookOK V BV:=by have h:∀a,a<V.length->BV.getD a 0<=a:=by{intro a;induction a using Nat.strongRecOn with| _ a g =>{intro e;have f:=za6 e;obtain⟨i,j⟩:=d.opts a _ f;rw[d.born a _ f,zeg,zeg];exact⟨⟨yV _,λc b=>by have:=i c b;have:=g c this (by omega);omega⟩,λc b=>by have:=j c b;have:=g c this (by omega);omega⟩}};exact⟨d.len,d.opts,λa c b=>by{have e:=(xV.1 b).1;have:=h a (by rw[<-d.len];exact e);rw[xY,b]at this;exact this}⟩
theorem RowC.get {V:List PL}{A d:List Nat}{P p c:Nat}(f:RowC V A (d.take P))(h:p<P)(g:d[p]?=some c):∃b,A[p]?=some b/\b<V.length/\(za0 V).getD b 0=c:=by(have a:(d.take P)[p]?=some c:=by rw[List.getElem?_take,if_pos h];exact g);rw[<-f.2]at a;unfold za3 at a;rw[vZ]at a;cases e:A[p]? with| none=>rw[e]at a;cases a| some b =>{rw[e]at a;exact⟨b,rfl,f.1 b (xK e),yK a⟩}
theorem zhp {a:List Nat}{p c:Nat}(d:a[p]?=some c):a.take p ++ [c]=a.take (p+1):=by obtain⟨e,b⟩:=xV.1 d;rw[yX e,b]
theorem FormRes.is {V:List PL}{BV:List Nat}{r:Nat}{ok:Bool}{FN:List PL}(c:PoolOK V BV)(e:r<V.length)(n:FormRes V BV r ok FN):ok=zax (zdp V BV r)/\FN=if ok then zdp V BV r else []:=by rcases n with ⟨b,d,f,m,l,q⟩|⟨f,i,a,_,b,d⟩;{obtain⟨g,a⟩:=zoa c e;(have t:(zdp V BV r).length=g.length:=by rw[a.nodes];simp);have s:f.length<=g.length:=m.length_le_of_subset λh o=>(a.mem h).2 ((l h).1 o);(have k:zax (zdp V BV r)=false:=vY λp=>by have:=p.1;omega);rw[k];exact⟨b,by rw[d,b];rfl⟩};{have j:i=zdp V BV r:=FormC.one ⟨_,zpa c.book c.births e a⟩ (c.form e);rw[<-j];exact⟨b,d⟩}
theorem zay {Fs:List PL}(g:zar (i2 Fs)):0<Fs.length/\Fs.length<=120/\(∀f∈Fs,f.1.length<=24/\f.2.length<=24)/\PoolOK Fs (zbd Fs)/\addB [] [] Fs=(Fs,zbd Fs,List.range Fs.length)/\zfz [] [] Fs=Fs.length-1:=by obtain⟨h,b,e,i,j⟩:=(zki Fs).1 g;have d:=zf2 b i;have a:=h;unfold zax at a;rw[kJ]at a;have c:=zor Fs b e d;refine⟨by omega,a.1,a.2.2,zgn b e d,c,?_⟩;unfold zfz;rw[c];show(List.range Fs.length).getD (Fs.length-1) 0=_;rw[zc0,if_pos (by omega)]
theorem zc4 {b:List (List Int × List Int)}(d:zar b):∃a,b=i2 a:=by obtain⟨a,c,_⟩:=zmz d.2.1;exact⟨a,c⟩
def thrI:Option Nat->Int
 | some a=>(a:Int)
 | none=>-1
