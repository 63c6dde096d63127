import Derived.Test.YtghekfmfonoocaaGreatDoorZu8
/- Lemmas. -/
set_option linter.all false
namespace Go.Proofs.YtghekfmfonoocaaGreatDoor
open Go.RowKit
def stN (s:List Bool)(k:Nat):PL:=((List.range k).filter λa=>s.getD a false,(List.range k).filter λa=>!s.getD a false)
def stF (s:List Bool)(n:Nat):List PL:=(List.range n).map (stN s)
theorem yh0 (L:List Nat)(n:Nat)(c:∀a∈L,a<n):posN L n=L.length :=
 zvv L n L.length (xW _) (λd a _ b=>c a (xK b)) (λa b=>by simp at b)
theorem zys (L:List Nat)(n:Nat)(a:∀b∈L,b<n):putN L n=L ++ [n]:=by unfold putN;rw[yh0 L n a,if_neg (by simp)];simp
theorem zi9 (L:List Nat)(b:L.Pairwise (· < ·)):zaf L=L:=by(suffices e:∀(L a:List Nat),(a++L).Pairwise (· < ·)->L.foldl putN a=a++L by simpa [zaf] using e L [] (by simpa using b));intro L;induction L with| nil=>{intro a _;simp}| cons c i h =>{intro a b;have f:∀d∈a,d<c:=λd g=>(List.pairwise_append.1 b).2.2 d g c uX;rw[List.foldl_cons,zys a c f,h _ (by simpa using b)];simp}
theorem zm8 (A L:List Nat)(b:∀a∈L,A.getD a 0=a):za2 A L=L:=by unfold za2;exact(uQ b).trans (List.map_id' L)
theorem rget (n k:Nat):(List.range n)[k]?=if k<n then some k else none:=by split;{exact List.getElem?_range (‹_›)};{exact List.getElem?_eq_none (by simp;omega)}
theorem zbu (n k d:Nat):(List.range n).getD k d=if k<n then k else d:=by rw[xY,rget];split <;> rfl
theorem zyg (s:List Bool)(n k:Nat)(a:k<n):(stF s n).getD k ([],[])=stN s k:=by rw[xY,stF,vY,rget,if_pos a];rfl
theorem ze3 (s:List Bool)(n:Nat):(stF s n).length=n:=by simp[stF]
theorem zsa (s:List Bool)(n:Nat):stF s (n+1)=stF s n ++ [stN s n]:=by simp[stF,List.range_succ]
theorem ymc (s:List Bool)(n k:Nat)(y:PL)(a:(stF s n)[k]?=some y):k<n/\y=stN s k:=by rw[stF,vY,rget]at a;split at a;{cases a;exact⟨by assumption,rfl⟩};{cases a}
theorem zyf (s:List Bool)(k:Nat):(∀a∈(stN s k).1,a<k)/\∀a∈(stN s k).2,a<k:=by constructor <;> intro a b <;> exact kZ.1 (List.mem_filter.1 b).1
theorem yd2 (s:List Bool)(k:Nat):(stN s k).1.Pairwise (· < ·)/\(stN s k).2.Pairwise (· < ·) :=
 ⟨List.pairwise_lt_range.filter _,List.pairwise_lt_range.filter _⟩
theorem yd3 (s:List Bool)(k i:Nat)(a:i<k):i∈(stN s k).1\/i∈(stN s k).2:=by cases b:s.getD i false with| true=>exact .inl (List.mem_filter.2 ⟨kZ.2 a,b⟩)| false=>exact .inr (List.mem_filter.2 ⟨kZ.2 a,by rw[b];rfl⟩)
theorem zo0 (BL:List Nat)(m:Nat)(L:List Nat):m<=zak BL m L/\∀b∈L,BL.getD b 0+1<=zak BL m L:=by unfold zak;induction L generalizing m with| nil=>exact⟨xW _,by simp⟩| cons e g d =>{rw[List.foldl_cons];obtain⟨f,c⟩:=d (max m (BL.getD e 0+1));refine⟨by omega,λb a=>?_⟩;rcases kW.1 a with rfl|a;{omega};{exact c b a}}
theorem ya8 (BL:List Nat)(m:Nat)(L:List Nat)(N:Nat)(hm:m<=N)(h:∀x∈L,BL.getD x 0+1<=N):zak BL m L<=N:=by unfold zak;induction L generalizing m with| nil=>exact hm| cons y l ih =>{rw[List.foldl_cons];exact ih _ (by have:=h y uX;omega) (λx hx=>h x (uJ _ hx))}
theorem ydp (s:List Bool)(m k:Nat)(l:k<=m):zgi (List.range m) (stN s k).1 (stN s k).2=(k,stN s k):=by unfold zgi;obtain⟨u1,u2⟩:=yd2 s k;obtain⟨g,h⟩:=zyf s k;rw[zi9 _ u1,zi9 _ u2];have f:zak (List.range m) (zak (List.range m) 0 (stN s k).1) (stN s k).2=k:=by{refine Nat.le_antisymm (ya8 _ _ _ _ (ya8 _ _ _ _ (yK _) λc b=>?_) λc b=>?_) ?_;{have:=g c b;rw[zbu,if_pos (by omega)];omega};{have:=h c b;rw[zbu,if_pos (by omega)];omega};{obtain⟨i,d⟩:=zo0 (List.range m) 0 (stN s k).1;obtain⟨j,e⟩:=zo0 (List.range m) (zak (List.range m) 0 (stN s k).1) (stN s k).2;cases k with| zero=>omega| succ k =>{rcases yd3 s (k+1) k (by omega)with a|a;{have:=d k a;rw[zbu,if_pos (by omega)]at this;omega};{have:=e k a;rw[zbu,if_pos (by omega)]at this;omega}}}};rw[f]
theorem ymh (s:List Bool)(m k:Nat)(e:k<=m):putB (stF s m) (List.range m) (stN s k).1 (stN s k).2=(stF s (max m (k+1)),List.range (max m (k+1)),k):=by
 unfold putB;simp only[ydp s m k e];have d:(List.range m).length=(stF s m).length:=by simp[stF]
 by_cases b:k<m
 ·have c:=zsi (stF s m) (List.range m) k (stN s k) k (by rw[ze3];exact b) d (λh i j f _ a=>by
   rw[rget]at a;split at a
   ·cases a;rintro⟨c,_⟩;omega
   ·cases a) (by rw[rget,if_pos b]) (by rw[stF,vY,rget,if_pos b];rfl)
  rw[c,ze3,if_pos b,Nat.max_eq_left (by omega)]
 ·have g:k=m:=by omega
  subst g;rw[if_neg (zmi (stF s k) (List.range k) k (stN s k) d (λh i j f _ a=>by
   rw[rget]at a;split at a
   ·cases a;rintro⟨c,_⟩;omega
   ·cases a))]
  rw[Nat.max_eq_right (by omega),zsa,List.range_succ,ze3]
theorem yg3 (s:List Bool)(m k:Nat):addB (stF s m) (List.range m) (stF s k)=(stF s (max m k),List.range (max m k),List.range k):=by induction k with| zero=>simp[stF,addB]| succ k c =>{rw[zsa,zep,c];unfold zka;obtain⟨d,e⟩:=zyf s k;simp only;rw[zm8 _ _ (λb a=>by have:=d b a;rw[zbu,if_pos (by omega)]),zm8 _ _ (λb a=>by have:=e b a;rw[zbu,if_pos (by omega)]),ymh s (max m k) k (by omega)];rw[show max (max m k) (k+1)=max m (k+1)from by omega,List.range_succ]}
theorem ygp (s:List Bool)(m k:Nat):zg5 (stF s m) (List.range m) (stF s (k+1))=k:=by unfold zg5;rw[yg3,ze3,zbu,if_pos (by omega)];rfl
theorem zuc (m:List Bool)(L:List Nat)(j:Nat)(c:j<m.length):(zbt m L).getD j false=(m.getD j false || decide (j∈L)):=by unfold zbt;induction L generalizing m with| nil=>simp| cons b g f =>{rw[List.foldl_cons,f (m.set b true) (by simpa using c)];simp only[xY,List.getElem?_set,kW];by_cases a:b=j;{subst a;simp[c]};{have d:¬j=b:=λe=>a e.symm;simp[a,d]}}
theorem zri (n:Nat)(L:List Nat):zbt (List.replicate n true) L=List.replicate n true:=by unfold zbt;induction L with| nil=>rfl| cons c b a=>rw[List.foldl_cons,List.set_replicate_self,a]
theorem zpv (NL:List PL)(k n:Nat):zbz NL k (List.replicate n true)=List.replicate n true:=by induction k with| zero=>rfl| succ k a =>{unfold zbz zcg;rw[zri,zri,ite_self,a]}
theorem ydi (s:List Bool)(n:Nat):zam (stF s (n+1)) n=List.replicate (n+1) true:=by unfold zam zbz;have b:zcg (stF s (n+1)) ((List.replicate (n+1) false).set n true) n=List.replicate (n+1) true:=by{unfold zcg;rw[if_pos (by simp[xY]),zyg s (n+1) n (by omega)];apply List.ext_getElem;{simp[zb1]};{intro a e f;(have d:a<n+1:=by simpa using f);have c:=zuc (zbt ((List.replicate (n+1) false).set n true) (stN s n).1) (stN s n).2 a (by simpa [zb1] using d);rw[zuc ((List.replicate (n+1) false).set n true) _ a (by simpa using d),xY,xQ e,Option.getD_some]at c;rw[c,List.getElem_replicate];by_cases b:a=n;{subst b;simp[xY]};{rcases yd3 s n a (by omega)with hk|hk <;> simp[hk]}}};rw[b,zpv]
def stA (n b:Nat):List Nat:=(List.range (n+1)).map λa=>if a<b then a else 0
theorem zyh (n a k:Nat)(b:k<a)(c:a<=n+1):(stA n a).getD k 0=k:=by unfold stA;rw[xY,vY,rget,if_pos (by omega)];simp[b]
theorem ygk (n a:Nat)(d:a<=n):(stA n a).set a a=stA n (a+1):=by unfold stA;apply List.ext_getElem;{simp};{intro c e f;rw[List.getElem_set];simp only[List.getElem_map,List.getElem_range];split;{subst_vars;simp};{rename_i g;by_cases b:c<a;{rw[if_pos b,if_pos (by omega)]};{rw[if_neg b,if_neg (by omega)]}}}
theorem ynf (s:List Bool)(n a:Nat)(d:a<=n+1):keyF (stA n a) (stN s a)=stN s a:=by unfold keyF;obtain⟨e,f⟩:=zyf s a;obtain⟨u1,u2⟩:=yd2 s a;rw[zm8 _ _ (λb c=>zyh n a b (e b c) d),zm8 _ _ (λb c=>zyh n a b (f b c) d),zi9 _ u1,zi9 _ u2]
theorem yh1 (s:List Bool)(n a j:Nat)(g:a<=n)(h:j<=n+1) : zei (stF s (n+1)) (List.range (n+1)) (List.replicate (n+1) true) (stA n a) a j=if a<j then ([stN s a],[a])else ([],[]):=by induction j with| zero=>simp[zei]| succ j f =>{(rw[zf8,f (by omega)];unfold zfx;have e:(List.replicate (n+1) true).getD j false=true:=by rw[xY,List.getElem?_replicate,if_pos (by omega)];rfl);rw[e,zbu,if_pos (show j<n+1 by omega),zyg s (n+1) j (by omega)];by_cases b:j=a;{subst b;rw[if_pos ⟨rfl,rfl⟩,if_neg (Nat.lt_irrefl _),if_pos (vW _),ynf s n j (by omega)];rfl};{rw[if_neg (λd=>b d.2)];by_cases c:a<j;{rw[if_pos c,if_pos (by omega)]};{rw[if_neg c,if_neg (by omega)]}}}
theorem yfb (s:List Bool)(n a:Nat)(e:a<=n+1):zay (stF s (n+1)) (List.range (n+1)) (List.replicate (n+1) true) n a=(stA n a,stF s a):=by induction a with| zero =>{have:stA n 0=List.replicate (n+1) 0:=by{unfold stA;apply List.ext_getElem;{simp};{intro f c d;simp}};rw[this];rfl}| succ a b =>{rw[zhb,b (by omega)];unfold yc6;rw[yh1 s n a (n+1) (by omega) (by omega),if_pos (by omega)];simp only[List.zip_cons_cons,List.zip_nil_right,List.foldl_cons,List.foldl_nil,layF];rw[ze3,ygk n a (by omega),zsa s a]}
theorem yig (s:List Bool)(n:Nat):zdh (stF s (n+1)) (List.range (n+1)) n=stF s (n+1):=by unfold zdh;rw[ydi,zbu,if_pos (by omega),yfb s n (n+1) (by omega)]
def zbm (s:List PL × List Nat × List Nat)(f:List PL):List PL × List Nat × List Nat:=((addB s.1 s.2.1 f).1,(addB s.1 s.2.1 f).2.1,s.2.2 ++ [zg5 s.1 s.2.1 f])
def zc1 (NL:List PL)(BL:List Nat)(FL:List (List PL)):List PL × List Nat × List Nat:=FL.foldl zbm (NL,BL,[])
theorem zvm (NL:List PL)(BL:List Nat)(FL:List (List PL))(f:List PL):zc1 NL BL (FL ++ [f])=zbm (zc1 NL BL FL) f:=by simp[zc1]
def zht (FL FR:List (List PL)):List PL :=
 let a:=zc1 [] [] FL
 let c:=zc1 a.1 a.2.1 FR
 let b:=putB c.1 c.2.1 a.2.2 c.2.2
 zdh b.1 b.2.1 b.2.2
def i2 (Fs:List PL):List (List Int × List Int):=Fs.map λa=>(ints a.1,ints a.2)
theorem zck (Fs:List PL):(i2 Fs).length=Fs.length:=by simp[i2]
theorem yf2 {Fs:List PL}{k:Nat}{y:List Int × List Int}(a:(i2 Fs)[k]?=some y):∃b,Fs[k]?=some b/\y=(ints b.1,ints b.2):=by unfold i2 at a;rw[vY]at a;cases c:Fs[k]? with| none=>rw[c]at a;cases a| some b=>rw[c]at a;cases a;exact⟨b,rfl,rfl⟩
theorem zug {Fs G:List PL}(b:i2 Fs=i2 G):Fs=G:=by(have h:Fs.length=G.length:=by have:=congrArg List.length b;simpa [i2] using this);refine List.ext_getElem h λc f g=>?_;(have a:(i2 Fs)[c]?=(i2 G)[c]?:=by rw[b]);unfold i2 at a;rw[vY,vY,xQ f,xQ g]at a;have a:=yY a;have d:=zt2 (congrArg Prod.fst a);have e:=zt2 (congrArg Prod.snd a);exact Prod.ext d e
theorem zyq (c:Nat)(L:List Nat):∀(d:Option Int),L.Pairwise (· < ·)->(∀a∈L,a<c)->(∀b,d=some b->∀a∈L,b<(a:Int))->zaq 0 ((c:Int)-1) d (ints L)=true:=by induction L with| nil=>{intro d _ _ _;cases d <;> rfl}| cons a i p =>{(intro d g h m;have q:=h a uX;have e:betw (Int.ofNat a) 0 ((c:Int)-1)=true:=by unfold betw;simp;omega);have f:=p (some (Int.ofNat a)) (List.pairwise_cons.1 g).2 (λb n=>h b (uJ _ n)) (λb k j o=>by{cases k;have:=(List.pairwise_cons.1 g).1 j o;show((a:Nat):Int)<(j:Int);omega});cases d with| none =>{show(betw (Int.ofNat a) 0 ((c:Int)-1) && zaq 0 ((c:Int)-1) (some (Int.ofNat a)) (ints i))=true;rw[e,f];rfl}| some b =>{have l:=m b rfl a uX;show(betw (Int.ofNat a) 0 ((c:Int)-1) && (decide (b<Int.ofNat a) && zaq 0 ((c:Int)-1) (some (Int.ofNat a)) (ints i)))=true;rw[e,f,vJ (show b<Int.ofNat a from l)];rfl}}
theorem zyr (c:Nat)(L:List Int):∀(g:Option Int),zaq 0 ((c:Int)-1) g L=true->∃f:List Nat,L=ints f/\f.Pairwise (· < ·)/\(∀a∈f,a<c)/\∀e,g=some e->∀a∈f,e<(a:Int):=by induction L with| nil=>{intro g _;exact⟨[],rfl,List.Pairwise.nil,by simp,by simp⟩}| cons a k r =>{intro g b;have n:betw a 0 ((c:Int)-1)=true/\(∀e,g=some e->e<a)/\zaq 0 ((c:Int)-1) (some a) k=true:=by{cases g with| none =>{have b:(betw a 0 ((c:Int)-1) && zaq 0 ((c:Int)-1) (some a) k)=true:=b;rw[Bool.and_eq_true]at b;exact⟨b.1,by simp,b.2⟩}| some e =>{have b:(betw a 0 ((c:Int)-1) && (decide (e<a) && zaq 0 ((c:Int)-1) (some a) k))=true:=b;rw[Bool.and_eq_true,Bool.and_eq_true]at b;exact⟨b.1,λh i=>by cases i;exact of_decide_eq_true b.2.1,b.2.2⟩}};obtain⟨j,o,p⟩:=n;obtain⟨f,i,s,m,l⟩:=r (some a) p;have j:0<=a/\a<=(c:Int)-1:=of_decide_eq_true j;refine⟨a.toNat::f,?_,List.pairwise_cons.2 ⟨λh d=>?_,s⟩,λh d=>?_,λe q h d=>?_⟩;{rw[i];show a::ints f=Int.ofNat a.toNat::ints f;rw[show Int.ofNat a.toNat=a from Int.toNat_of_nonneg j.1]};{have:=l a rfl h d;omega};{rcases kW.1 d with rfl|d;{omega};{exact m h d}};{have t:=o e q;rcases kW.1 d with rfl|d;{omega};{have:=l a rfl h d;omega}}}
def risI (Fs:List (List Int × List Int))(k:Nat):Prop:=∀(a:Nat) (b:List Int × List Int),a<k->Fs[a]?=some b->zaq 0 ((a:Int)-1) none b.1=true/\zaq 0 ((a:Int)-1) none b.2=true
def zbh (Fs:List (List Int × List Int)):Prop:=zah Fs=true/\risI Fs Fs.length/\∀a:List PL,Fs=i2 a->zdh (addB [] [] a).1 (addB [] [] a).2.1 (zg5 [] [] a)=a
theorem znp {Fs:List (List Int × List Int)}(i:risI Fs Fs.length):∃k:List PL,Fs=i2 k/\(∀(a:Nat) (b:PL),k[a]?=some b->(∀e∈b.1,e<a)/\∀e∈b.2,e<a)/\∀(a:Nat) (b:PL),k[a]?=some b->b.1.Pairwise (· < ·)/\b.2.Pairwise (· < ·):=by have o:∀(a:Nat) (b:List Int × List Int),Fs[a]?=some b->∃d:PL,b=(ints d.1,ints d.2)/\((∀e∈d.1,e<a)/\∀e∈d.2,e<a)/\d.1.Pairwise (· < ·)/\d.2.Pairwise (· < ·):=λa b c=>by{obtain⟨v,w⟩:=i a b (xV.1 c).1 c;obtain⟨p,t,u1,r,_⟩:=zyr a b.1 none v;obtain⟨q,u,u2,s,_⟩:=zyr a b.2 none w;exact⟨(p,q),Prod.ext t u,⟨r,s⟩,u1,u2⟩};let h:List Int × List Int->PL:=λb=>(b.1.map Int.toNat,b.2.map Int.toNat);have m:∀d:PL,h (ints d.1,ints d.2)=d:=λd=>by{(have f:∀j:List Nat,(ints j).map Int.toNat=j:=λj=>by unfold ints;rw[List.map_map];exact(uQ λA _=>rfl).trans (List.map_id' j));exact Prod.ext (f _) (f _)};have n:∀(a:Nat) (b:PL),(Fs.map h)[a]?=some b->∃g,Fs[a]?=some g/\g=(ints b.1,ints b.2)/\((∀e∈b.1,e<a)/\∀e∈b.2,e<a)/\b.1.Pairwise (· < ·)/\b.2.Pairwise (· < ·):=λa b c=>by{rw[vY]at c;cases l:Fs[a]? with| none=>rw[l]at c;cases c| some g =>{rw[l]at c;obtain⟨d,f,y⟩:=o a g l;have c:=yY c;rw[f,m]at c;subst c;exact⟨g,rfl,f,y⟩}};refine⟨Fs.map h,?_,λa b c=>?_,λa b c=>?_⟩;{unfold i2;rw[List.map_map];refine((uQ λg z=>?_).trans (List.map_id' Fs)).symm;obtain⟨a,x,rfl⟩:=uY z;obtain⟨d,f,_⟩:=o a _ (xQ x);show(ints (h Fs[a]).1,ints (h Fs[a]).2)=Fs[a];rw[f,m]};{obtain⟨_,_,_,i,_⟩:=n a b c;exact i};{obtain⟨_,_,_,_,i⟩:=n a b c;exact i}
theorem zhc (Fs:List PL):zah (i2 Fs)=zah Fs:=by unfold zah i2;rw[uK];congr 1;refine propext ⟨λ⟨a,b,c⟩=>⟨a,b,λe d=>?_⟩,λ⟨a,b,c⟩=>⟨a,b,λe d=>?_⟩⟩;{have:=c _ (y8.2 ⟨e,d,rfl⟩);simpa [ints] using this};{obtain⟨g,f,rfl⟩:=y8.1 d;simpa [ints] using c g f}
theorem yns (s:List Bool)(n:Nat)(g:n<=24):zah (stF s (n+1))=true:=by refine vJ ⟨by rw[ze3];omega,by rw[ze3];omega,λh f=>?_⟩;obtain⟨e,d,rfl⟩:=y8.1 f;have d:=kZ.1 d;have b:=(List.filter_sublist (p:=λa=>s.getD a false) (l:=List.range e)).length_le;have c:=(List.filter_sublist (p:=λa=>!s.getD a false) (l:=List.range e)).length_le;simp only[uV]at b c;exact⟨kQ b (by omega),kQ c (by omega)⟩
theorem ynn (s:List Bool)(n:Nat)(f:n<=24):zbh (i2 (stF s (n+1))):=by refine⟨by rw[zhc,yns s n f],λa m _ h=>?_,λl d=>?_⟩;{obtain⟨k,g,rfl⟩:=yf2 h;obtain⟨_,rfl⟩:=ymc s _ a k g;obtain⟨i,j⟩:=zyf s a;obtain⟨u1,u2⟩:=yd2 s a;exact⟨zyq a _ none u1 i (by simp),zyq a _ none u2 j (by simp)⟩};{rw[<-zug d];have b:=yg3 s 0 (n+1);have c:=ygp s 0 n;have e:stF s 0=[]:=rfl;rw[e,List.range_zero]at b c;rw[b,c];simp only[Nat.zero_max];exact yig s n}
theorem zo8 {L:List Nat}{n:Nat}(d:L.Pairwise (· < ·))(b:∀a∈L,a<n):L.length<=n:=by(have c:L.Nodup:=d.imp λg f=>by omega);have:=c.length_le_of_subset (l₂:=List.range n) (λa e=>kZ.2 (b a e));simpa using this
def BookUp (NL:List PL):Prop:=∀(b:Nat) (a:PL),NL[b]?=some a->a.1.Pairwise (· < ·)/\a.2.Pairwise (· < ·)
theorem BookUp.nil:BookUp []:=by intro b c a;simp at a
theorem BookUp.lens {NL:List PL}{BL:List Nat}(d:BookUp NL)(e:BookOK NL BL):∀a∈NL,a.1.length<=NL.length/\a.2.length<=NL.length:=by intro a g;obtain⟨c,f,rfl⟩:=uY g;have b:=xQ f;obtain⟨h,i⟩:=e.opts c _ b;obtain⟨u1,u2⟩:=d c _ b;have:=zo8 u1 h;have:=zo8 u2 i;omega
theorem ydq {NL:List PL}{BL:List Nat}(c:BookUp NL)(L R:List Nat):BookUp (putB NL BL L R).1:=by unfold putB;simp only;split;{exact c};{intro b f a;by_cases e:b<NL.length;{rw[yV e]at a;exact c b f a};{rw[kK (by omega)]at a;cases d:b-NL.length with| zero=>rw[d]at a;simp at a;subst a;exact⟨zeb L,zeb R⟩| succ g=>rw[d]at a;simp at a}}
theorem yg2 {NL:List PL}{BL:List Nat}(b:BookUp NL)(FL:List PL):BookUp (addB NL BL FL).1:=by suffices c:∀a,a<=FL.length->BookUp (addB NL BL (FL.take a)).1 by{have:=c FL.length (xW _);rwa [y7]at this};intro a;induction a with| zero=>{intro _;exact b}| succ a d =>{intro e;rw[yQ (by omega),zep];exact ydq (d (by omega)) _ _}
theorem BookOK.nil:BookOK [] []:=⟨rfl,by simp,by simp⟩
structure GoodF (Fm:List PL):Prop where
 pos:0<Fm.length
 le:Fm.length<=120
 opts:∀(j:Nat) (y:PL),Fm[j]?=some y->(∀x∈y.1,x<j)/\∀x∈y.2,x<j
 lens:∀y∈Fm,y.1.length<1000/\y.2.length<1000
structure RootsOK (n:Nat) (s:List PL × List Nat × List Nat):Prop where
 ok:BookOK s.1 s.2.1
 up:BookUp s.1
 len:s.1.length<=n
 lt:∀x∈s.2.2,x<s.1.length
theorem RootsOK.step {n:Nat}{s:List PL × List Nat × List Nat}(c:RootsOK n s){b:List PL}(hF:GoodF b):RootsOK (n+120) (zbm s b):=by obtain⟨d,j,e,k,f⟩:=zi5 c.ok b hF.opts;have i:=hF.pos;have h:=hF.le;refine⟨d,yg2 c.up b,?_,λg a=>?_⟩;{have:=c.len;show(addB s.1 s.2.1 b).1.length<=n+120;omega};{rcases y6.1 a with a|a;{exact vK (c.lt g a) f.length_le};{rw[x9]at a;subst a;unfold zg5;rw[xY,xQ (by omega)];exact e _ (y9 _)}}
theorem zfu {FL:List (List PL)}:∀ {a:Nat}{b:List PL × List Nat × List Nat},RootsOK a b->(∀e∈FL,GoodF e)->RootsOK (a+120*FL.length) (FL.foldl zbm b):=by induction FL with| nil=>{intro a b c _;simpa using c}| cons f d i =>{intro a b c hF;have:=i (c.step (hF f uX)) (λg h=>hF g (uJ _ h));rw[List.foldl_cons,List.length_cons];rwa [show a+120+120*d.length=a+120*(d.length+1)from by omega]at this}
theorem zia (FL:List (List PL)):∀(a:List PL × List Nat × List Nat),(FL.foldl zbm a).2.2.length=a.2.2.length+FL.length:=by induction FL with| nil=>{intro a;simp}| cons c d b=>{intro a;rw[List.foldl_cons,b];simp[zbm];omega}
structure PoolOK (V:List PL) (BV:List Nat):Prop where
 len:BV.length=V.length
 opts:∀(j:Nat) (y:PL),V[j]?=some y->(∀i∈y.1,i<j)/\∀i∈y.2,i<j
 up:∀(j:Nat) (y:PL),V[j]?=some y->y.1.Pairwise (· < ·)/\y.2.Pairwise (· < ·)
 nodup:V.Nodup
 born:∀(j:Nat) (y:PL),V[j]?=some y->BV.getD j 0=zak BV (zak BV 0 y.1) y.2
theorem PoolOK.nil:PoolOK [] []:=⟨rfl,by simp,by simp,by simp,by simp⟩
theorem zc9 (BV t:List Nat)(m:Nat)(L:List Nat)(b:∀a∈L,a<BV.length):zak (BV++t) m L=zak BV m L:=by unfold zak;induction L generalizing m with| nil=>rfl| cons a h f =>{(have d:=b a uX;have c:(BV++t).getD a 0=BV.getD a 0:=by rw[xY,xY,yV d]);rw[List.foldl_cons,List.foldl_cons,c,f _ (λg e=>b g (uJ _ e))]}
theorem zh9 {c:Type}{V:List c}{x y:c}{j:Nat}(a:(V ++ [x])[j]?=some y):(j<V.length/\V[j]?=some y)\/(j=V.length/\y=x):=by by_cases b:j<V.length;{rw[yV b]at a;exact .inl ⟨b,a⟩};{have e:=(xV.1 a).1;(have d:j=V.length:=by simp at e;omega);subst d;exact .inr ⟨rfl,by simpa using a.symm⟩}
theorem zmk {V:List PL}{BV:List Nat}(b:PoolOK V BV){L R:List Nat}(l:∀a∈L,a<V.length)(m:∀a∈R,a<V.length) : PoolOK (za4 V BV L R).1 (za4 V BV L R).2.1/\(za4 V BV L R).1[(za4 V BV L R).2.2]?=some (zaf L,zaf R):=by unfold za4;split;{rename_i g;refine⟨b,?_⟩;have o:=List.idxOf_lt_length_of_mem g;show V[V.idxOf (zaf L,zaf R)]?=_;rw[xQ o,List.getElem_idxOf]};{rename_i g;have h:∀a∈zaf L,a<V.length:=λa d=>l a ((zba L a).1 d);have i:∀a∈zaf R,a<V.length:=λa d=>m a ((zba R a).1 d);refine⟨⟨by simp[b.len],λe f c=>?_,λe f c=>?_,?_,λe f c=>?_⟩,by simp⟩;{rcases zh9 c with ⟨_,c⟩|⟨rfl,rfl⟩;{exact b.opts e f c};{exact⟨h,i⟩}};{rcases zh9 c with ⟨_,c⟩|⟨rfl,rfl⟩;{exact b.up e f c};{exact⟨zeb L,zeb R⟩}};{rw[List.nodup_append];refine⟨b.nodup,by simp,λs n t j k=>?_⟩;rw[x9]at j;subst k;subst j;exact g n};{rcases zh9 c with ⟨p,c⟩|⟨rfl,rfl⟩;{obtain⟨q,r⟩:=b.opts e f c;rw[zc9 _ _ _ _ (λa d=>by have:=r a d;rw[b.len];omega),zc9 _ _ _ _ (λa d=>by have:=q a d;rw[b.len];omega),<-b.born e f c,xY,xY,yV (by rw[b.len];exact p)]};{rw[zc9 _ _ _ _ (λa d=>by rw[b.len];exact i a d),zc9 _ _ _ _ (λa d=>by rw[b.len];exact h a d),<-b.len];simp[xY]}}}
theorem za7 {V:List PL}{x:Nat}(a:x<V.length):V[x]?=some (za5 V x):=by unfold za5;rw[xY,xQ a];rfl
theorem PoolOK.reach {V:List PL}{BV R:List Nat}(d:PoolOK V BV)(e:∀h∈R,h<V.length){x:Nat}(g:ReachV V R x):x<V.length:=by induction g with| root f=>exact e _ f| @left x c _ a b=>have:=(d.opts x _ (za7 b)).1 c a;omega| @right x c _ a b=>have:=(d.opts x _ (za7 b)).2 c a;omega
theorem PoolOK.lower {V:List PL}{BV:List Nat}(e:PoolOK V BV){x:Nat}(f:x<V.length):(∀a∈(za5 V x).1,BV.getD a 0<BV.getD x 0)/\∀a∈(za5 V x).2,BV.getD a 0<BV.getD x 0:=by rw[e.born x _ (za7 f)];obtain⟨g,c⟩:=zo0 BV 0 (za5 V x).1;obtain⟨h,d⟩:=zo0 BV (zak BV 0 (za5 V x).1) (za5 V x).2;exact⟨λa b=>by have:=c a b;omega,λa b=>by have:=d a b;omega⟩
theorem PoolOK.qok {V:List PL}{BV R f:List Nat}(g:PoolOK V BV)(n:∀q∈R,q<V.length)(o:f.Nodup)(h:∀a,a∈f↔ReachV V R a)(p:f.Pairwise λj k=>BV.getD j 0<=BV.getD k 0):QOk V BV f:=by have e:∀a∈f,a<V.length:=λa b=>g.reach n ((h a).1 b);refine⟨o,p,λa b d c=>⟨(h d).2 (.left ((h a).1 b) c),(g.lower (e a b)).1 d c⟩,λa b d c=>⟨(h d).2 (.right ((h a).1 b) c),(g.lower (e a b)).2 d c⟩,λa b=>g.up a _ (za7 (e a b)),λa b d c l=>?_⟩;have i:=za7 (e a b);have m:=za7 (e d c);rw[l]at i;exact(List.getElem?_inj (e a b) g.nodup).1 (i.trans m.symm)
theorem PoolOK.lens {V:List PL}{BV:List Nat}(c:PoolOK V BV){n:Nat}(i:V.length<n):∀a∈V,a.1.length<n/\a.2.length<n:=by intro a f;obtain⟨d,e,rfl⟩:=uY f;have b:=xQ e;obtain⟨g,h⟩:=c.opts d _ b;obtain⟨u1,u2⟩:=c.up d _ b;have:=zo8 u1 g;have:=zo8 u2 h;omega
theorem PoolOK.opts' {V:List PL}{BV:List Nat}(d:PoolOK V BV)(j:Nat)(y:PL)(c:V[j]?=some y):(∀a∈y.1,a<V.length)/\∀a∈y.2,a<V.length:=by have g:=(xV.1 c).1;obtain⟨e,f⟩:=d.opts j y c;exact⟨λa b=>by have:=e a b;omega,λa b=>by have:=f a b;omega⟩
theorem zyk (m:List Bool)(y x:Nat):(m.set y true).getD x false=true↔m.getD x false=true\/x=y/\x<m.length:=by rw[xY,xY,List.getElem?_set];by_cases b:y=x;{subst b;by_cases a:y<m.length;{simp[a]};{simp[a]}};{rw[if_neg b];constructor;{exact .inl};{rintro(a|⟨a,_⟩);{exact a};{exact absurd a.symm b}}}
theorem zze (m:List Bool)(L:List Nat)(x:Nat):(zbt m L).getD x false=true↔m.getD x false=true\/x∈L/\x<m.length:=by unfold zbt;induction L generalizing m with| nil=>simp| cons y l ih =>{rw[List.foldl_cons,ih,zyk,List.length_set,kW];constructor;{rintro((h|h)|h);{exact .inl h};{exact .inr ⟨.inl h.1,h.2⟩};{exact .inr ⟨.inr h.1,h.2⟩}};{rintro(h|⟨h|h,h2⟩);{exact .inl (.inl h)};{exact .inl (.inr ⟨h,h2⟩)};{exact .inr ⟨h,h2⟩}}}
theorem zf1 (V:List PL)(m:List Bool)(k x:Nat):(zcg V m k).getD x false=true↔m.getD x false=true\/m.getD k false=true/\(x∈(za5 V k).1\/x∈(za5 V k).2)/\x<m.length:=by unfold zcg za5;split;{rename_i b;rw[zze,zze,zb1];constructor;{rintro((a|a)|a);{exact .inl a};{exact .inr ⟨b,.inl a.1,a.2⟩};{exact .inr ⟨b,.inr a.1,a.2⟩}};{rintro(a|⟨_,a|a,c⟩);{exact .inl (.inl a)};{exact .inl (.inr ⟨a,c⟩)};{exact .inr ⟨a,c⟩}}};{rename_i b;constructor;{exact .inl};{rintro(a|a);{exact a};{exact absurd a.1 b}}}
theorem zts {V:List PL}{BV:List Nat}(h:PoolOK V BV){r:Nat}(hr:r<V.length)(n:Nat):∀(m:List Bool),n<=r+1->m.length=r+1->(∀x,m.getD x false=true->ReachV V [r] x)->m.getD r false=true ->
  (∀x,n<=x->m.getD x false=true->∀y,y∈(za5 V x).1\/y∈(za5 V x).2->m.getD y false=true)->∀x,(zbz V n m).getD x false=true↔ReachV V [r] x:=by
 induction n with
 | zero =>
  intro m _ _ h1 h2 h3 x;refine⟨h1 x,λhx=>?_⟩;induction hx with
  | root hx=>rw[x9]at hx;subst hx;exact h2
  | left _ hy ih=>exact h3 _ (yK _) ih _ (.inl hy)
  | right _ hy ih=>exact h3 _ (yK _) ih _ (.inr hy)
 | succ n ih =>
  intro m hn hl h1 h2 h3 x;unfold zbz;have hlow:∀(k y:Nat),k<V.length->(y∈(za5 V k).1\/y∈(za5 V k).2)->y<k:=λk y hk hy=>by
   obtain⟨o1,o2⟩:=h.opts k _ (za7 hk);rcases hy with hy|hy
   ·exact o1 y hy
   ·exact o2 y hy
  refine ih _ (by omega) (by rw[zhe];exact hl) (λy hy=>?_) ((zf1 V m n r).2 (.inl h2)) (λk hk hm y hy=>?_) x
  ·rcases (zf1 V m n y).1 hy with hy|⟨hn1,hy,_⟩
   ·exact h1 y hy
   ·rcases hy with hy|hy
    ·exact .left (h1 n hn1) hy
    ·exact .right (h1 n hn1) hy
  ·have hmk:m.getD k false=true:=by
    rcases (zf1 V m n k).1 hm with hm|⟨_,hm,_⟩
    ·exact hm
    ·have:=hlow n k (by omega) hm;omega
   have hkl:k<r+1:=by
    rcases Nat.lt_or_ge k (r+1)with q|q
    ·exact q
    ·rw[xY,List.getElem?_eq_none (by omega)]at hmk;cases hmk
   rw[zf1];by_cases e:k=n
   ·subst e
    exact .inr ⟨hmk,hy,by have:=hlow k y (by omega) hy;omega⟩
   ·exact .inl (h3 k (by omega) hmk y hy)
theorem zop {V:List PL}{BV:List Nat}(d:PoolOK V BV){r:Nat}(f:r<V.length)(x:Nat):(zam V r).getD x false=true↔ReachV V [r] x:=by have c:∀b,((List.replicate (r+1) false).set r true).getD b false=true↔b=r:=λb=>by{rw[zyk];constructor;{rintro(a|a);{rw[xY,List.getElem?_replicate]at a;split at a <;> cases a};{exact a.1}};{rintro rfl;exact .inr ⟨rfl,by simp⟩}};refine zts d f (r+1) _ (xW _) (by simp) (λb g=>?_) ((c r).2 rfl) (λh i e=>?_) x;{rw[(c b).1 g];exact .root (by simp)};{have:=(c h).1 e;omega}
def grp (BV:List Nat)(c:List Bool)(n b:Nat):List Nat:=(List.range n).filter λa=>decide (c.getD a false=true/\BV.getD a 0=b)
theorem yia (BV:List Nat)(b:List Bool)(n a:Nat):grp BV b (n+1) a=if b.getD n false=true/\BV.getD n 0=a then grp BV b n a ++ [n]else grp BV b n a:=by unfold grp;rw[List.range_succ,List.filter_append];split <;> simp_all
theorem zfg {BV:List Nat}{b:List Bool}{n a x:Nat}:x∈grp BV b n a↔x<n/\b.getD x false=true/\BV.getD x 0=a:=by unfold grp;rw[List.mem_filter,kZ,kV]
theorem zuh (BV:List Nat)(b:List Bool)(n a:Nat):(grp BV b n a).Nodup:=List.nodup_range.filter _
theorem ynm (a:Nat->PL)(K:List Nat)(k:Nat):insF (K.map a,K) (a k) k=((K.takeWhile (λb=>zap (a b) (a k))++k::K.dropWhile (λb=>zap (a b) (a k))).map a,K.takeWhile (λb=>zap (a b) (a k))++k::K.dropWhile (λb=>zap (a b) (a k))):=by have c:posA (K.map a) (a k)=(K.takeWhile (λb=>zap (a b) (a k))).length:=by{unfold posA;rw[List.takeWhile_map,uK];rfl};have e:K.take (posA (K.map a) (a k))=K.takeWhile (λb=>zap (a b) (a k)):=by{rw[c];exact(List.prefix_iff_eq_take.1 (List.takeWhile_prefix _)).symm};have d:K.drop (posA (K.map a) (a k))=K.dropWhile (λb=>zap (a b) (a k)):=by{rw[c];exact(congrArg (List.drop _) (List.takeWhile_append_dropWhile (p:=λb=>zap (a b) (a k)) (l:=K)).symm).trans List.drop_left};unfold insF;simp only[<-List.map_take,<-List.map_drop,e,d,vZ,List.map_cons]
theorem yby (a:Nat->PL)(K:List Nat)(k:Nat)(q:K.Pairwise λc b=>zap (a b) (a c)=false) : (K.takeWhile (λb=>zap (a b) (a k))++k::K.dropWhile (λb=>zap (a b) (a k))).Pairwise λc b=>zap (a b) (a c)=false:=by have n:=q;rw[<-List.takeWhile_append_dropWhile (p:=λb=>zap (a b) (a k)) (l:=K),List.pairwise_append]at n;obtain⟨s,g,t⟩:=n;have r:∀b∈K.dropWhile (λb=>zap (a b) (a k)),zap (a b) (a k)=false:=by{intro b hb;cases f:K.dropWhile (λb=>zap (a b) (a k))with| nil=>rw[f]at hb;cases hb| cons h u =>{have e:=List.head_dropWhile_not (λb=>zap (a b) (a k)) (l:=K) (by rw[f];simp);simp only[f,List.head_cons]at e;rw[f]at hb g;rcases kW.1 hb with rfl|hb;{simpa using e};{have d:=(List.pairwise_cons.1 g).1 b hb;cases j:zap (a b) (a k)with| false=>rfl| true =>{exfalso;(have e:zap (a h) (a k)=false:=by simpa using e);cases m:zap (a k) (a h)with| true=>rw[zg3 j m]at d;cases d| false =>{have o:=zn2 e m;rw[o]at d;rw[j]at d;cases d}}}}};refine List.pairwise_append.2 ⟨s,List.pairwise_cons.2 ⟨r,g⟩,λc i b hb=>?_⟩;have d:zap (a c) (a k)=true:=by{exact List.all_eq_true.1 (List.all_takeWhile (p:=λb=>zap (a b) (a k)) (l:=K)) c i};rcases kW.1 hb with rfl|hb;{exact zg4 d};{exact t c i b hb}
theorem yh2 (V:List PL)(BV:List Nat)(f:List Bool)(A:List Nat)(c n:Nat):∃a:List Nat,zei V BV f A c n=(a.map (λb=>keyF A (za5 V b)),a)/\a.Perm (grp BV f n c)/\a.Pairwise λi j=>zap (keyF A (za5 V j)) (keyF A (za5 V i))=false:=by induction n with| zero=>exact⟨[],rfl,by simp[grp],by simp⟩| succ n h =>{obtain⟨a,g,d,e⟩:=h;rw[zf8,g,yia];unfold zfx;split;{refine⟨_,ynm (λb=>keyF A (za5 V b)) a n,?_,yby (λb=>keyF A (za5 V b)) a n e⟩;refine List.perm_middle.trans ?_;rw[List.takeWhile_append_dropWhile];exact(List.Perm.cons n d).trans (List.perm_append_singleton n _).symm};{exact⟨a,rfl,d,e⟩}}
theorem ync (K:List Nat):∀(c:List PL) (b:List Nat × List PL),c.length=K.length->K.Nodup->(∀a∈K,a<b.1.length) -> ((c.zip K).foldl layF b).2=b.2++c/\(∀a,a ∉ K->((c.zip K).foldl layF b).1.getD a 0=b.1.getD a 0)/\∀a∈K,((c.zip K).foldl layF b).1.getD a 0=b.2.length+K.idxOf a:=by induction K with| nil =>{intro c b g _ _;cases c with| nil=>exact⟨by simp,λ_ _=>rfl,by simp⟩| cons j m=>simp at g}| cons d K r =>{intro c b g h l;cases c with| nil=>simp at g| cons j m =>{rw[List.nodup_cons]at h;rw[List.zip_cons_cons,List.foldl_cons];obtain⟨p,i2,q⟩:=r m (layF b (j,d)) (by simpa using g) h.2 (λa f=>by{unfold layF;rw[List.length_set];exact l a (uJ _ f)});have n:=l d uX;have k:∀a,(layF b (j,d)).1.getD a 0=if a=d then b.2.length else b.1.getD a 0:=λa=>by{unfold layF;rw[xY,List.getElem?_set];by_cases e:d=a;{subst e;simp[n]};{rw[if_neg e,if_neg (λi=>e i.symm),xY]}};refine⟨by rw[p];unfold layF;simp,λa f=>?_,λa f=>?_⟩;{rw[kW,not_or]at f;rw[i2 a f.2,k,if_neg f.1]};{by_cases e:a=d;{subst e;rw[i2 a h.1,k,if_pos rfl];simp};{have o:=(kW.1 f).resolve_left e;rw[q a o,List.idxOf_cons,show(d == a)=false from by simpa using λi:d=a=>e i.symm];unfold layF;simp only[yX,List.length_cons,List.length_nil,Bool.cond_false];omega}}}}
def grps (BV:List Nat)(b:List Bool)(r n:Nat):List Nat:=(List.range n).flatMap λa=>grp BV b (r+1) a
theorem zm2 (BV:List Nat)(a:List Bool)(r n:Nat):grps BV a r (n+1)=grps BV a r n++grp BV a (r+1) n:=by simp[grps,List.range_succ]
theorem zns {BV:List Nat}{d:List Bool}{r n x:Nat}:x∈grps BV d r n↔x<r+1/\d.getD x false=true/\BV.getD x 0<n:=by unfold grps;rw[List.mem_flatMap];constructor;{rintro⟨g,e,f⟩;obtain⟨a,b,c⟩:=zfg.1 f;exact⟨a,b,by rw[c];exact kZ.1 e⟩};{rintro⟨a,b,c⟩;exact⟨_,kZ.2 c,zfg.2 ⟨a,b,rfl⟩⟩}
theorem zxg (BV:List Nat)(f:List Bool)(r n:Nat):(grps BV f r n).Nodup/\(grps BV f r n).Pairwise λc d=>BV.getD c 0<=BV.getD d 0:=by induction n with| zero=>simp[grps]| succ n e =>{rw[zm2];constructor;{rw[List.nodup_append];refine⟨e.1,zuh _ _ _ _,λc a d b g=>?_⟩;subst g;have:=(zns.1 a).2.2;have:=(zfg.1 b).2.2;omega};{refine List.pairwise_append.2 ⟨e.2,List.pairwise_of_forall_mem_list λc a d b=>?_,λc a d b=>?_⟩;{rw[(zfg.1 a).2.2,(zfg.1 b).2.2];exact xW _};{have:=(zns.1 a).2.2;have:=(zfg.1 b).2.2;omega}}}
theorem zxh (BV:List Nat) (a:List Bool) (r:Nat) {n N:Nat} (d:n<=N):grps BV a r n <+: grps BV a r N:=by
  induction N with
  | zero => have : n = 0 := by omega
            subst this;exact List.prefix_refl _
  | succ N c =>
    rcases Nat.lt_or_ge N n with b | b
    · have : n = N + 1 := by omega
      subst this;exact List.prefix_refl _
    · rw [zm2];exact (c b).trans (List.prefix_append _ _)
theorem zpd {V:List PL}{BV:List Nat}(s:PoolOK V BV){r:Nat}(O:r<V.length):∃e,OrderIs V BV [r] e (zdh V BV r):=by
 obtain⟨c,Z⟩:=eX (zam V r);have J:∀a,c.getD a false=true↔ReachV V [r] a:=λa=>by rw[Z];exact zop s O a
 have M:∀a,ReachV V [r] a->a<r+1/\BV.getD a 0<=BV.getD r 0/\a<V.length:=by
  intro a d;induction d with
  | root d=>rw[x9]at d;subst d;exact⟨vW _,xW _,O⟩
  | @left a k _ p q =>
   have C:=(s.lower q.2.2).1 k p;have I:=(s.opts a _ (za7 q.2.2)).1 k p;omega
  | @right a k _ p q =>
   have C:=(s.lower q.2.2).2 k p;have I:=(s.opts a _ (za7 q.2.2)).2 k p;omega
 obtain⟨u,a9⟩:=eX (BV.getD r 0+1);obtain⟨e,D⟩:=eX (grps BV c r u);have w:=zxg BV c r u;rw[<-D]at w;have E:∀a,a∈e↔ReachV V [r] a:=λa=>by
  rw[D,zns,J];exact⟨λh=>h.2.1,λh=>⟨(M a h).1,h,by have:=(M a h).2.1;omega⟩⟩
 have h:QOk V BV e:=s.qok (R:=[r]) (by simpa using O) w.1 E w.2;have ag:∀b,b<=u->∃f,GInv V BV e f (grps BV c r b).length/\(zay V BV c r b).2=f.map (λa=>zc2 f (za5 V a))/\∀a∈f,(zay V BV c r b).1.getD a 0=f.idxOf a:=by
  intro b;induction b with
  | zero=>intro _;exact⟨[],GInv.start V BV e,rfl,by simp⟩
  | succ b q =>
   intro hn;obtain⟨f,j,hF,K⟩:=q (by omega);have a0:=zxh BV c r (n:=b+1) (N:=u) hn;rw[<-D,zm2]at a0;obtain⟨A,g⟩:=a0;have aa:e.drop (grps BV c r b).length=grp BV c (r+1) b++A:=by rw[<-g,List.append_assoc,List.drop_left]
   obtain⟨i,hK,l,a8⟩:=yh2 V BV c (zay V BV c r b).1 b (r+1);have ac:=(zdu V BV c r b).1;have a6:∀a∈i,a<(zay V BV c r b).1.length:=λa d=>by
    rw[ac];exact(zfg.1 ((l.mem_iff).1 d)).1
   have a7:i.Nodup:=(l.nodup_iff).2 (zuh _ _ _ _);obtain⟨l1,l2,l3⟩:=ync i (i.map λS=>keyF (zay V BV c r b).1 (za5 V S)) (zay V BV c r b) (by simp) a7 a6;have ad:zay V BV c r (b+1)=((i.map λS=>keyF (zay V BV c r b).1 (za5 V S)).zip i).foldl layF (zay V BV c r b):=by
    rw[zhb];unfold yc6;rw[hK]
   have ab:(zay V BV c r b).2.length=f.length:=by rw[hF];simp
   rw[zm2,ad];by_cases t:grp BV c (r+1) b=[]
   ·have a5:i=[]:=by rw[t]at l;exact l.eq_nil
    subst a5;rw[t,List.append_nil];exact⟨f,j,hF,K⟩
   ·have X:(grps BV c r b).length<e.length:=by
     rw[<-g];have:0<(grp BV c (r+1) b).length:=List.length_pos_iff.2 t;simp only[yX];omega
    have T:BV.getD (e.getD (grps BV c r b).length 0) 0=b:=by
     have o:e.getD (grps BV c r b).length 0∈grp BV c (r+1) b:=by
      have H:e[(grps BV c r b).length]?=(grp BV c (r+1) b)[0]?:=by
       rw[<-g,List.append_assoc,kK (xW _),Nat.sub_self,yV (List.length_pos_iff.2 t)]
      rw[xY,H,xQ (List.length_pos_iff.2 t)];exact y9 _
     exact(zfg.1 o).2.2
    have x:∀a∈grp BV c (r+1) b,a∈e/\BV.getD a 0=BV.getD (e.getD (grps BV c r b).length 0) 0:=λa d=>by
     obtain⟨B,v,g3⟩:=zfg.1 d;exact⟨(E a).2 ((J a).1 v),by rw[T,g3]⟩
    have L:∀a∈grp BV c (r+1) b,keyF (zay V BV c r b).1 (za5 V a)=zc2 f (za5 V a):=λa d=>by
     obtain⟨B,v⟩:=h.group j X (x a d).1 (x a d).2;have o:∀F:List Nat,(∀k∈F,k∈f)->zaf (za2 (zay V BV c r b).1 F)=zgh f F:=λF y=>by
      unfold zgh za2;rw[uQ λk p=>K k (y k p)]
     unfold keyF zc2;rw[o _ B,o _ v]
    have ae:=GInv.step h j (m:=(grp BV c (r+1) b).length) (G:=grp BV c (r+1) b) (G':=i) (List.length_pos_iff.2 t) (by rw[<-g];simp only[yX];omega)
     (by rw[aa,List.take_left]) (λa d=>(x a d).2) (by
      rcases Nat.lt_or_ge ((grps BV c r b).length+(grp BV c (r+1) b).length) e.length with q1|q1
      ·refine .inr ?_
       rw[T];intro o;have U:e.getD ((grps BV c r b).length+(grp BV c (r+1) b).length) 0∈A:=by
        have H:e[(grps BV c r b).length+(grp BV c (r+1) b).length]?=A[0]?:=by
         rw[<-g,kK (by simp),yX,Nat.sub_self]
        rw[xY,H];have y:(grps BV c r b++grp BV c (r+1) b++A).length=e.length:=by rw[g]
        simp only[yX]at y;rw[xQ (by omega)];exact y9 _
       have Y:=w.1;rw[<-g,List.nodup_append]at Y;have af:e.getD ((grps BV c r b).length+(grp BV c (r+1) b).length) 0∈e:=by rw[<-g];exact List.mem_append_right _ (by rw[g];exact U)
       have a1:=(E _).1 af;refine Y.2.2 _ (List.mem_append_right _ (zfg.2 ⟨(M _ a1).1,(J _).2 a1,o⟩)) _ U rfl
      ·exact .inl (by
        have y:(grps BV c r b++grp BV c (r+1) b++A).length=e.length:=by rw[g]
        simp only[yX]at y;omega)) l (a8.imp_of_mem λ{a2 a3} ha hb W=>by
      rw[L a2 ((l.mem_iff).1 ha),L a3 ((l.mem_iff).1 hb)]at W;exact W)
    have a4:∀a∈f,a ∉ i:=λa d P=>by
     have C:=(j.mem a).1 d;have I:=(l.mem_iff).1 P;rw[<-g,List.append_assoc,List.take_left]at C;have:=(zns.1 C).2.2;have:=(zfg.1 I).2.2;omega
    refine⟨f++i,by rw[yX];exact ae,?_,λa d=>?_⟩
    ·rw[l1,hF,vZ]
     congr 1
     ·refine uQ λa d=>?_
      exact(zdd (h.closed j d).1 (h.closed j d).2).symm
     ·refine uQ λa d=>?_
      have Q:=(l.mem_iff).1 d;obtain⟨B,v⟩:=h.group j X (x a Q).1 (x a Q).2;rw[L a Q,zdd B v]
    ·rw[List.idxOf_append]
     by_cases z:a∈f
     ·rw[if_pos z,l2 a (a4 a z),K a z]
     ·have P:=(y6.1 d).resolve_left z
      rw[if_neg z,l3 a P,ab];omega
 obtain⟨f,j,hF,_⟩:=ag u (xW _);rw[<-D]at j;refine⟨f,?_⟩;have o:zdh V BV r=f.map λa=>zc2 f (za5 V a):=by
  unfold zdh;rw[<-Z,<-a9,hF]
 rw[o];exact j.order w.1 E
theorem zec {α:Type}{P:List α->Prop}(h0:P [])(h1:∀l a,P l->P (l ++ [a])):∀l,P l:=λl=>by have h:∀m:List α,P m.reverse:=λm=>by{induction m with| nil=>exact h0| cons a m ih=>rw[List.reverse_cons];exact h1 _ _ ih};have:=h l.reverse;rwa [List.reverse_reverse]at this
def za0 (V:List PL):List Nat:=V.foldl (λa b=>a ++ [mkC (za2 a b.1) (za2 a b.2)]) []
theorem zem (V:List PL)(y:PL):za0 (V ++ [y])=za0 V ++ [mkC (za2 (za0 V) y.1) (za2 (za0 V) y.2)]:=by simp[za0]
theorem za1 (V:List PL):(za0 V).length=V.length:=by induction V using zec with| h0=>rfl| h1 c b a=>rw[zem,yX,yX,a];rfl
theorem zdg (C t L:List Nat)(b:∀a∈L,a<C.length):za2 (C++t) L=za2 C L:=by unfold za2;refine uQ λa c=>?_;rw[xY,xY,yV (b a c)]
theorem zfm {C t:List Nat}{j:Nat}(a:j<C.length):(C++t).getD j 0=C.getD j 0:=by rw[xY,xY,yV a]
theorem zg9 {V a:List PL}(b:V <+: a):za0 V <+: za0 a:=by obtain⟨d,rfl⟩:=b;induction d using zec with| h0=>rw[List.append_nil];exact List.prefix_refl _| h1 f e c=>rw[<-List.append_assoc,zem];exact c.trans (List.prefix_append _ _)
def OptsOK (V:List PL):Prop:=∀(b:Nat) (c:PL),V[b]?=some c->(∀a∈c.1,a<b)/\∀a∈c.2,a<b
theorem zc0 (V:List PL):OptsOK V->∀(a:Nat) (d:PL),V[a]?=some d->(za0 V).getD a 0=mkC (za2 (za0 V) d.1) (za2 (za0 V) d.2):=by induction V using zec with| h0=>{intro _ a d k;simp at k}| h1 h p n =>{intro f a d e;have m:OptsOK h:=λa o g=>f a o (by rw[yV (xV.1 g).1];exact g);have l:=za1 h;obtain⟨i,j⟩:=f a d e;rw[zem];rcases zh9 e with ⟨q,e⟩|⟨rfl,rfl⟩;{rw[zfm (by omega),zdg _ _ _ (λc b=>by have:=i c b;omega),zdg _ _ _ (λc b=>by have:=j c b;omega)];exact n m a d e};{rw[zdg _ _ _ (λc b=>by have:=i c b;omega),zdg _ _ _ (λc b=>by have:=j c b;omega)];rw[xY,<-l];simp}}
theorem zpq (BL:List Nat)(m:Nat)(L:List Nat):m<=zak BL m L/\(∀x∈L,BL.getD x 0+1<=zak BL m L)/\(zak BL m L=m\/∃x∈L,zak BL m L=BL.getD x 0+1):=zpe (λi=>BL.getD i 0+1) L m
theorem PoolOK.book {V:List PL}{BV:List Nat}(e:PoolOK V BV):BookC V (za0 V):=by have q:=zc0 V e.opts;have E:=za1 V;refine⟨E,e.opts,e.up,q,?_⟩;have J:∀i a b,a+b<i->a<V.length->b<V.length->(za0 V).getD a 0=(za0 V).getD b 0->a=b:=by{intro i;induction i with| zero=>{intro a b e;omega}| succ i I =>{intro a b r f g h;have o:=xQ f;have p:=xQ g;obtain⟨u,v⟩:=e.opts a _ o;obtain⟨w,x⟩:=e.opts b _ p;obtain⟨u1,u2⟩:=e.up a _ o;obtain⟨K,L⟩:=e.up b _ p;rw[q a _ o,q b _ p]at h;have n:∀(j k:Nat) (l m:List Nat),j+k<i+1->j<V.length->k<V.length->(∀d∈l,d<j)->(∀d∈m,d<k)->(∀c,c∈za2 (za0 V) l->c∈za2 (za0 V) m)->∀d∈l,d∈m:=by{intro j k l m P O Q F G H d s;obtain⟨A,t,D⟩:=mem_atAll.1 (H _ (mem_atAll.2 ⟨d,s,rfl⟩));have M:=F d s;have N:=G A t;rw[I d A (by omega) (by omega) (by omega) D.symm];exact t};(have y:∀c,c∈za2 (za0 V) V[a].1↔c∈za2 (za0 V) V[b].1:=λc=>by rw[<-zab _ (za2 (za0 V) V[a].2),h,zab]);(have z:∀c,c∈za2 (za0 V) V[a].2↔c∈za2 (za0 V) V[b].2:=λc=>by rw[<-zac (za2 (za0 V) V[a].1),h,zac]);have B:V[a].1=V[b].1:=zhh u1 K λd=>⟨n a b _ _ r f g u w (λc=>(y c).1) d,n b a _ _ (by omega) g f w u (λc=>(y c).2) d⟩;have C:V[a].2=V[b].2:=zhh u2 L λd=>⟨n a b _ _ r f g v x (λc=>(z c).1) d,n b a _ _ (by omega) g f x v (λc=>(z c).2) d⟩;exact(List.getElem_inj e.nodup).1 (Prod.ext B C)}};refine List.nodup_iff_pairwise_ne.2 (List.pairwise_iff_getElem.2 λa b f g R h=>?_);have:=J (a+b+1) a b (by omega) (by omega) (by omega) (by rw[xY,xY,xQ f,xQ g,h]);omega
theorem PoolOK.births {V:List PL}{BV:List Nat}(k:PoolOK V BV):∀b,b<V.length->BV.getD b 0=bornC ((za0 V).getD b 0):=by intro b;induction b using Nat.strongRecOn with| _ b e =>{intro p;have j:=xQ p;obtain⟨f,g⟩:=k.opts b _ j;rw[k.born b _ j,zc0 V k.opts b _ j];obtain⟨q,m,h⟩:=zpq BV 0 V[b].1;obtain⟨r,n,i⟩:=zpq BV (zak BV 0 V[b].1) V[b].2;have l:∀d,optC (mkC (za2 (za0 V) V[b].1) (za2 (za0 V) V[b].2)) d↔(∃a∈V[b].1,(za0 V).getD a 0=d)\/∃a∈V[b].2,(za0 V).getD a 0=d:=λd=>by{unfold optC;rw[zab,zac,mem_atAll,mem_atAll]};refine(yk7 (λd o=>?_) ?_).symm;{rcases (l d).1 o with ⟨a,c,rfl⟩|⟨a,c,rfl⟩;{rw[<-e a (f a c) (by have:=f a c;omega)];have:=m a c;omega};{rw[<-e a (g a c) (by have:=g a c;omega)];have:=n a c;omega}};{rcases i with i|⟨a,c,i⟩;{rcases h with h|⟨a,c,h⟩;{exact .inl (by omega)};{refine .inr ⟨_,(l _).2 (.inl ⟨a,c,rfl⟩),?_⟩;rw[<-e a (f a c) (by have:=f a c;omega)];omega}};{refine .inr ⟨_,(l _).2 (.inr ⟨a,c,rfl⟩),?_⟩;rw[<-e a (g a c) (by have:=g a c;omega)];omega}}}
theorem PoolOK.form {V:List PL}{BV:List Nat}(a:PoolOK V BV){r:Nat}(b:r<V.length):FormC ((za0 V).getD r 0) (zdh V BV r):=by obtain⟨d,c⟩:=zpd a b;exact⟨_,zrf a.book a.births b c⟩
theorem zen (BL:List Nat)(m K:Nat)(L:List Nat):zak BL m L<=K↔m<=K/\∀a∈L,BL.getD a 0+1<=K:=by obtain⟨f,d,b⟩:=zpq BL m L;constructor;{exact λg=>⟨by omega,λa c=>by have:=d a c;omega⟩};{rintro⟨h,e⟩;rcases b with b|⟨a,c,b⟩;{omega};{have:=e a c;omega}}
theorem yfv (BL:List Nat){L g R R':List Nat}(h:∀a,a∈L↔a∈g)(i:∀a,a∈R↔a∈R'):zak BL (zak BL 0 L) R=zak BL (zak BL 0 g) R':=by have j:∀ {d b e c:List Nat},(∀a,a∈d↔a∈b)->(∀a,a∈e↔a∈c)->zak BL (zak BL 0 d) e<=zak BL (zak BL 0 b) c:=by{intro d b e c k l;obtain⟨m,i2⟩:=(zen BL (zak BL 0 b) _ c).1 (xW _);obtain⟨n,o⟩:=(zen BL 0 _ b).1 m;exact(zen _ _ _ _).2 ⟨(zen _ _ _ _).2 ⟨n,λa f=>o a ((k a).1 f)⟩,λa f=>i2 a ((l a).1 f)⟩};exact Nat.le_antisymm (j h i) (j (λa=>(h a).symm) λa=>(i a).symm)
theorem zd0 {V:List PL}{BV:List Nat}(a:PoolOK V BV)(L R:List Nat):putB V BV L R=za4 V BV L R:=by have j:(zgi BV L R).1=zak BV (zak BV 0 (zaf L)) (zaf R):=yfv BV (λc=>(zba L c).symm) λc=>(zba R c).symm;have n:(zgi BV L R).2=(zaf L,zaf R):=rfl;unfold putB za4;simp only[n];by_cases e:(zaf L,zaf R)∈V;{rw[if_pos e];(have d:=List.idxOf_lt_length_of_mem e;have i:V[V.idxOf (zaf L,zaf R)]?=some (zaf L,zaf R):=by rw[xQ d,List.getElem_idxOf]);have g:zvu V BV (zgi BV L R).1 (zaf L,zaf R)=V.idxOf (zaf L,zaf R):=by{refine zsi V BV _ _ _ d a.len (λf c r o b q h=>?_) ?_ i;{have p:=(xV.1 b).1;rw[h.2]at b;obtain⟨_,m⟩:=xV.1 b;have:V.idxOf V[f]=f:=List.Nodup.idxOf_getElem a.nodup f p;rw[m]at this;omega};{have k:=a.born _ _ i;(have l:V.idxOf (zaf L,zaf R)<BV.length:=by rw[a.len];exact d);rw[xY,xQ l]at k;rw[xQ l,j,<-k];rfl}};rw[g,if_pos d]};{rw[if_neg e];have g:=zmi V BV (zgi BV L R).1 (zaf L,zaf R) a.len (λf c r o b q h=>e (by rw[<-h.2];exact xK b));rw[if_neg g,j]}
theorem ztu {V:List PL}{BV:List Nat}(g:PoolOK V BV){L R:List Nat}(d:∀a∈L,a<V.length)(e:∀a∈R,a<V.length) : (za0 (za4 V BV L R).1).getD (za4 V BV L R).2.2 0=mkC (za2 (za0 V) L) (za2 (za0 V) R):=by obtain⟨h,i⟩:=zmk g d e;obtain⟨_,_,j⟩:=ze5 V BV L R;have f:=za1 V;rw[zc0 _ h.opts _ _ i];obtain⟨m,k⟩:=zg9 j;rw[<-k];refine yen (λl=>?_) λl=>?_;{rw[zdg _ _ _ (λa b=>by rw[f];exact d a ((zba L a).1 b)),mem_atAll,mem_atAll];exact⟨λ⟨a,b,c⟩=>⟨a,(zba L a).1 b,c⟩,λ⟨a,b,c⟩=>⟨a,(zba L a).2 b,c⟩⟩};{rw[zdg _ _ _ (λa b=>by rw[f];exact e a ((zba R a).1 b)),mem_atAll,mem_atAll];exact⟨λ⟨a,b,c⟩=>⟨a,(zba R a).1 b,c⟩,λ⟨a,b,c⟩=>⟨a,(zba R a).2 b,c⟩⟩}
theorem yeu {c d e:Nat}{f g h:PL}(b:klt c f d g)(a:klt d g e h):klt c f e h:=by rcases b with b|⟨j,b⟩;{rcases a with a|⟨i,_⟩;{exact .inl (by omega)};{exact .inl (by omega)}};{rcases a with a|⟨i,a⟩;{exact .inl (by omega)};{exact .inr ⟨by omega,zg3 b a⟩}}
theorem ynd (a:Nat)(x:PL):¬klt a x a x:=λb=>zud b b
def zbf (Fs:List PL):List Nat:=Fs.foldl (λa b=>a ++ [zak a (zak a 0 b.1) b.2]) []
theorem zfq (Fs:List PL)(y:PL):zbf (Fs ++ [y])=zbf Fs ++ [zak (zbf Fs) (zak (zbf Fs) 0 y.1) y.2]:=by simp[zbf]
theorem zdv (Fs:List PL):(zbf Fs).length=Fs.length:=by induction Fs using zec with| h0=>rfl| h1 c b a=>rw[zfq,yX,yX,a];rfl
theorem OptsOK.cut {l:List PL}{a:PL}(c:OptsOK (l ++ [a])):OptsOK l:=λd e b=>c d e (by rw[yV (xV.1 b).1];exact b)
theorem BookUp.cut {l:List PL}{a:PL}(c:BookUp (l ++ [a])):BookUp l:=λd e b=>c d e (by rw[yV (xV.1 b).1];exact b)
theorem zpp (Fs:List PL):OptsOK Fs->∀(d:Nat) (c:PL),Fs[d]?=some c->(zbf Fs).getD d 0=zak (zbf Fs) (zak (zbf Fs) 0 c.1) c.2:=by induction Fs using zec with| h0=>{intro _ d c i;simp at i}| h1 l m k =>{intro f d c e;have j:=zdv l;obtain⟨g,h⟩:=f d c e;rw[zfq];rcases zh9 e with ⟨n,e⟩|⟨rfl,rfl⟩;{rw[zc9 _ _ _ _ (λb a=>by have:=h b a;omega),zc9 _ _ _ _ (λb a=>by have:=g b a;omega),zfm (by omega)];exact k f.cut d c e};{rw[zc9 _ _ _ _ (λb a=>by have:=h b a;omega),zc9 _ _ _ _ (λb a=>by have:=g b a;omega),xY,<-j];simp}}
theorem zid {Fs:List PL}(a:OptsOK Fs)(c:BookUp Fs)(b:Fs.Nodup):PoolOK Fs (zbf Fs):=⟨zdv Fs,a,c,b,zpp Fs a⟩
theorem zv4 (Fs:List PL):OptsOK Fs->BookUp Fs->Fs.Nodup->addB [] [] Fs=(Fs,zbf Fs,List.range Fs.length):=by induction Fs using zec with| h0=>{intro _ _ _;rfl}| h1 l y ih =>{intro ho hu hn;have hnl:l.Nodup:=(List.nodup_append.1 hn).1;have hnot:y ∉ l:=λh=>(List.nodup_append.1 hn).2.2 y h y (by simp) rfl;(have hy:(l ++ [y])[l.length]?=some y:=by simp);(obtain⟨o1,o2⟩:=ho _ y hy;obtain⟨u1,u2⟩:=hu _ y hy;have hat:∀L:List Nat,(∀x∈L,x<l.length)->za2 (List.range l.length) L=L:=λL hL=>zm8 _ _ λx hx=>by rw[zbu,if_pos (hL x hx)]);have hput:za4 l (zbf l) y.1 y.2=(l ++ [y],zbf (l ++ [y]),l.length):=by{unfold za4;rw[zi9 _ u1,zi9 _ u2,if_neg hnot,zfq]};rw[zep,ih ho.cut hu.cut hnl];unfold zka;simp only[hat _ o1,hat _ o2,zd0 (zid ho.cut hu.cut hnl),hput];simp[List.range_succ]}
theorem zv5 (Fs:List PL):OptsOK Fs->∀ {b:List PL}{a:List Nat},PoolOK b a->BookOK b a->PoolOK (addB b a Fs).1 (addB b a Fs).2.1:=by induction Fs using zec with| h0=>{intro _ b a c _;exact c}| h1 f h n =>{(intro d b a c i;obtain⟨q,k,l,r,s⟩:=zi5 i f d.cut;have j:=n d.cut c i;have m:(f ++ [h])[f.length]?=some h:=by simp);obtain⟨o,p⟩:=d _ h m;rw[zep];show PoolOK (putB _ _ _ _).1 (putB _ _ _ _).2.1;rw[zd0 j];exact(zmk j (zg2 l (λg e=>by rw[k];exact o g e)) (zg2 l (λg e=>by rw[k];exact p g e))).1}
theorem ydh {V:List PL}{C:List Nat}(B:BookC V C){r:Nat}(d:r<V.length){x:Nat}(a:ReachV V [r] x):SubC (C.getD r 0) (C.getD x 0):=by induction a with| root a=>simp at a;subst a;exact .root| left a b c=>exact .step c (.inl (B.left (zh0 B (by simpa using d) a) b).2)| right a b c=>exact .step c (.inr (B.right (zh0 B (by simpa using d) a) b).2)
theorem zod {V:List PL}{C:List Nat}(B:BookC V C){r:Nat}(b:r<V.length){c:Nat}(h:SubC (C.getD r 0) c):∃e,ReachV V [r] e/\e<V.length/\C.getD e 0=c:=by induction h with| root=>exact⟨r,.root (by simp),b,rfl⟩| step _ ho j =>{obtain⟨k,g,i,rfl⟩:=j;rw[B.code k _ (B.getD i)]at ho;rcases ho with ho|ho;{rw[zab]at ho;obtain⟨f,d,rfl⟩:=mem_atAll.1 ho;have a:=ReachV.left g d;exact⟨f,a,zh0 B (by simpa using b) a,rfl⟩};{rw[zac]at ho;obtain⟨f,d,rfl⟩:=mem_atAll.1 ho;have a:=ReachV.right g d;exact⟨f,a,zh0 B (by simpa using b) a,rfl⟩}}
def ziy (Fs:List PL):Prop:=∀(j:Nat) (x y:PL),Fs[j]?=some x->Fs[j+1]?=some y->klt ((zbf Fs).getD j 0) x ((zbf Fs).getD (j+1) 0) y
def ze9 (Fs:List PL):Prop:=∀a,a<Fs.length->(zam Fs (Fs.length-1)).getD a false=true
theorem yhu {Fs:List PL}(f:ziy Fs):∀(a i:Nat) (b c:PL),Fs[i]?=some b->Fs[i+a+1]?=some c->klt ((zbf Fs).getD i 0) b ((zbf Fs).getD (i+a+1) 0) c:=by intro a;induction a with| zero=>{intro i b c e d;exact f i b c e d}| succ a h =>{intro i b c e d;have j:=(xV.1 d).1;have g:=xQ (l:=Fs) (i:=i+a+1) (by omega);exact yeu (h i b _ e g) (f (i+a+1) _ c g d)}
theorem yef {Fs:List PL}(b:ziy Fs){i j:Nat}{x y:PL}(e:i<j)(c:Fs[i]?=some x)(d:Fs[j]?=some y):klt ((zbf Fs).getD i 0) x ((zbf Fs).getD j 0) y:=by obtain⟨a,rfl⟩:∃a,j=i+a+1:=⟨j-i-1,by omega⟩;exact yhu b a i x y c d
theorem zig {Fs:List PL}(d:OptsOK Fs)(f:ziy Fs):Fs.Nodup:=by refine List.nodup_iff_pairwise_ne.2 (List.pairwise_iff_getElem.2 λj k g i h e=>?_);have a:=xQ g;have b:=xQ i;have c:=yef f h a b;rw[zpp Fs d j _ a,zpp Fs d k _ b,e]at c;exact ynd _ _ c
def zas (Fs:List PL):Nat:=(za0 Fs).getD (Fs.length-1) 0
theorem zh2 {Fs:List PL}{c:Nat}(p:FormC c Fs):0<Fs.length/\OptsOK Fs/\BookUp Fs/\ziy Fs/\ze9 Fs/\zas Fs=c:=by obtain⟨m,e⟩:=p;have f:OptsOK Fs:=e.book.opts;have E:BookUp Fs:=e.book.up;have N:=e.book.len;have r:∀a,a<Fs.length->m.getD a 0=(za0 Fs).getD a 0:=by{intro a;induction a using Nat.strongRecOn with| _ a v =>{intro s;have o:=xQ s;obtain⟨L,M⟩:=f a _ o;have x:∀l:List Nat,(∀b∈l,b<a)->za2 m l=za2 (za0 Fs) l:=λl z=>uQ λb d=>v b (z b d) (by have:=z b d;omega);rw[e.book.code a _ o,zc0 Fs f a _ o,x _ L,x _ M]}};have K:Fs.Nodup:=by{refine List.nodup_iff_pairwise_ne.2 (List.pairwise_iff_getElem.2 λh a A s O n=>?_);have w:=e.book.code h _ (xQ A);have H:=e.book.code a _ (xQ s);rw[n]at w;have:=zbq e.book.nodup (by omega) (by omega) (w.trans H.symm);omega};(have q:=zid f E K;obtain⟨j,t,y⟩:=zkr ((e.sub c).2 .root);have u:j<Fs.length:=by omega);have B:∀h,h<Fs.length->ReachV Fs [j] h:=λh A=>by{have D:=(e.sub _).1 (zd8 (C:=m) (i:=h) (by omega));rw[<-y]at D;obtain⟨b,d,P,n⟩:=zod e.book u D;rw[zbq e.book.nodup (by omega) (by omega) n]at d;exact d};have J:∀b,ReachV Fs [j] b->b<=j:=λb d=>by{induction d with| root p=>simp at p;omega| @left b k d g v=>have:=(f b _ (za7 (by omega))).1 k g;omega| @right b k d g v=>have:=(f b _ (za7 (by omega))).2 k g;omega};(have I:j=Fs.length-1:=by have:=J _ (B (Fs.length-1) (by omega));omega);subst I;refine⟨by omega,f,E,λa b k d g=>?_,λb d=>(zop q u b).2 (B b d),by unfold zas;rw[<-r _ u,y]⟩;have t:=e.up a (a+1) b k (vW _) d g;have F:=(xV.1 d).1;have G:=(xV.1 g).1;rw[r a F,r (a+1) G,<-q.births a F,<-q.births (a+1) G]at t;exact t
theorem ymr {Fs:List PL}(b:OptsOK Fs)(i:0<Fs.length)(c:zdh (addB [] [] Fs).1 (addB [] [] Fs).2.1 (zg5 [] [] Fs)=Fs):ziy Fs/\ze9 Fs:=by have f:=zv5 Fs b PoolOK.nil BookOK.nil;have g:zg5 [] [] Fs<(addB [] [] Fs).1.length:=by{obtain⟨j,k,h,l,m⟩:=zi5 BookOK.nil Fs b;unfold zg5;rw[xY,xQ (by omega)];exact h _ (y9 _)};have a:=f.form g;rw[c]at a;obtain⟨_,_,_,d,e,_⟩:=zh2 a;exact⟨d,e⟩
theorem yf9 {Fs:List PL}(r:0<Fs.length)(h:OptsOK Fs)(l:BookUp Fs)(g:ziy Fs)(k:ze9 Fs):FormC (zas Fs) Fs:=by(have j:=zig h g;have a:=zid h l j;have d:Fs.length-1<Fs.length:=by omega);have p:=za1 Fs;refine⟨za0 Fs,a.book,λn=>⟨λb=>?_,λb=>?_⟩,λc m n o i b e=>?_⟩;{obtain⟨c,q,rfl⟩:=zkr b;exact ydh a.book d ((zop a d c).1 (k c (by omega)))};{obtain⟨o,_,e,rfl⟩:=zod a.book d b;exact zd8 (by omega)};{have f:=yef g i b e;rw[a.births c (xV.1 b).1,a.births m (xV.1 e).1]at f;exact f}
theorem ynp {Fs:List PL}(g:0<Fs.length)(a:OptsOK Fs)(b:BookUp Fs)(c:ziy Fs)(h:ze9 Fs):zdh (addB [] [] Fs).1 (addB [] [] Fs).2.1 (zg5 [] [] Fs)=Fs:=by(have e:=zig a c;have f:=zid a b e;have d:Fs.length-1<Fs.length:=by omega);unfold zg5;rw[zv4 Fs a b e];show zdh Fs (zbf Fs) ((List.range Fs.length).getD (Fs.length-1) 0)=Fs;rw[zbu,if_pos d];exact(f.form d).one (yf9 g a b c h)
theorem zm3 (Fs:List PL):zbh (i2 Fs)↔zah Fs=true/\OptsOK Fs/\BookUp Fs/\ziy Fs/\ze9 Fs:=by constructor;{rintro⟨a,l,m⟩;(rw[zhc]at a;obtain⟨k,f,b,c⟩:=znp l;obtain rfl:=zug f;have g:0<Fs.length:=by unfold zah at a;rw[kV]at a;omega);obtain⟨h,i⟩:=ymr b g (m Fs rfl);exact⟨a,b,c,h,i⟩};{rintro⟨a,b,c,h,i⟩;(have g:0<Fs.length:=by unfold zah at a;rw[kV]at a;omega);refine⟨by rw[zhc];exact a,λd r q n=>?_,λk f=>?_⟩;{obtain⟨e,j,rfl⟩:=yf2 n;obtain⟨o,p⟩:=b d e j;obtain⟨u1,u2⟩:=c d e j;exact⟨zyq d e.1 none u1 o (by simp),zyq d e.2 none u2 p (by simp)⟩};{obtain rfl:=zug f;exact ynp g b c h i}}
theorem zui {Fs:List PL}(b:zbh (i2 Fs)):FormC (zas Fs) Fs:=by(obtain⟨a,c,e,f,g⟩:=(zm3 Fs).1 b;have d:0<Fs.length:=by unfold zah at a;rw[kV]at a;omega);exact yf9 d c e f g
theorem zhz {Fs:List PL}{c:Nat}(a:FormC c Fs)(b:zah Fs=true):zbh (i2 Fs)/\zas Fs=c:=by obtain⟨_,d,e,f,g,h⟩:=zh2 a;exact⟨(zm3 Fs).2 ⟨b,d,e,f,g⟩,h⟩
def geC (a b:Nat):Bool:=((zgf a).attach.all λd=>!geC b d.1) && ((zms b).attach.all λc=>!geC c.1 a)
 termination_by a+b
 decreasing_by
  ·have:=za6 (.inr (zb2.1 d.2));omega
  ·have:=za6 (.inl (zbc.1 c.2));omega
theorem zfn (a d:Nat):geC a d=true↔(∀c,hasR a c->geC d c=false)/\∀b,hasL d b->geC b a=false:=by rw[geC,Bool.and_eq_true,List.all_eq_true,List.all_eq_true];constructor;{rintro⟨e,f⟩;exact⟨λc h=>by simpa using e ⟨c,zb2.2 h⟩ (List.mem_attach _ _),λb g=>by simpa using f ⟨b,zbc.2 g⟩ (List.mem_attach _ _)⟩};{rintro⟨e,f⟩;exact⟨λc _=>by simpa using e c.1 (zb2.1 c.2),λb _=>by simpa using f b.1 (zbc.1 b.2)⟩}
def geV (C:List Nat)(x y:Nat):Bool:=geC (C.getD x 0) (C.getD y 0)
theorem yf7 {V:List PL}{C:List Nat}(B:BookC V C){x y:Nat}(k:x<V.length)(l:y<V.length) : geV C x y=true↔(∀d∈(za5 V x).2,geV C y d=false)/\∀c∈(za5 V y).1,geV C c x=false:=by unfold geV;rw[zfn];have i:=B.code x _ (za7 k);have j:=B.code y _ (za7 l);constructor;{rintro⟨e,f⟩;exact⟨λd b=>e _ (by rw[i,zac];exact mem_atAll.2 ⟨d,b,rfl⟩),λc a=>f _ (by rw[j,zab];exact mem_atAll.2 ⟨c,a,rfl⟩)⟩};{rintro⟨e,f⟩;refine⟨λd b=>?_,λc a=>?_⟩;{rw[i,zac]at b;obtain⟨h,g,rfl⟩:=mem_atAll.1 b;exact e h g};{rw[j,zab]at a;obtain⟨h,g,rfl⟩:=mem_atAll.1 a;exact f h g}}
def domP (g:Nat->Nat->Bool)(L:List Nat)(k j:Nat):Bool:=decide (j≠k) && (g (L.getD k 0) (L.getD j 0) && (!g (L.getD j 0) (L.getD k 0) || decide (j<k)))
def domB (g:Nat->Nat->Bool)(L:List Nat):List Nat:=(List.range L.length).filter λa=>(List.range L.length).any (domP g L a)
def zag (L P:List Nat):List Nat:=(L.zipIdx.filter λa=>!P.contains a.2).map (·.1)
def gL (C:List Nat)(a b:Nat):Bool:=geV C b a
def gR (C:List Nat)(a b:Nat):Bool:=geV C a b
theorem zn3 (L P:List Nat):(zag L P).Sublist L:=by unfold zag;have a:(L.zipIdx.filter λc=>!P.contains c.2).Sublist L.zipIdx:=List.filter_sublist;have b:=a.map (·.1);rwa [List.zipIdx_map_fst]at b
theorem zc7 {L P:List Nat}{x:Nat}(a:x∈zag L P):x∈L:=(zn3 L P).subset a
theorem zdc (L P:List Nat):(zag L P).length<=L.length:=(zn3 L P).length_le
theorem zkb (L P:List Nat)(k:Nat)(b:k<L.length):zag (L.take (k+1)) P=if k∈P then zag (L.take k) P else zag (L.take k) P ++ [L[k]]:=by(unfold zag;rw[yQ b,List.zipIdx_append,List.filter_append,vZ];have c:(L.take k).length=k:=by simp;omega);simp only[List.zipIdx_cons,List.zipIdx_nil,c,Nat.zero_add,List.filter_cons,List.filter_nil];by_cases a:k∈P;{simp[a]};{simp[a]}
def FormRes (V:List PL)(BV:List Nat)(r:Nat)(ok:Bool)(c:List PL):Prop :=
 (ok=false/\c=[]/\∃a:List Nat,a.Nodup/\(∀d,d∈a↔ReachV V [r] d)/\120<a.length)\/∃a b,OrderIs V BV [r] a b/\a.length<=120/\ok=zah b/\c=if ok then b else []
theorem yff {c:Type}{a:List (List c × List c)}(e:a.length<=120)(f:1<=a.length)(g:∀(d:Nat) (b:List c × List c),a[d]?=some b->b.1.length<=24/\b.2.length<=24):zah a=true :=
 vJ ⟨e,f,λb i=>by
  obtain⟨d,h,rfl⟩:=uY i;exact g d _ (xQ h)⟩
theorem yii {a:Type}{b:List (List a × List a)}{k:Nat}{y:List a × List a}(c:b[k]?=some y)(e:24<y.1.length\/24<y.2.length):zah b=false := vV λd=>by have:=d.2.2 y (xK c);omega
def negC (a:Nat):Nat:=mkC ((zgf a).attach.map λc=>negC c.1) ((zms a).attach.map λb=>negC b.1)
 termination_by a
 decreasing_by
  ·exact za6 (.inr (zb2.1 c.2))
  ·exact za6 (.inl (zbc.1 b.2))
theorem zm1 (a i:Nat):hasL (negC a) i↔∃b,hasR a b/\negC b=i:=by rw[negC,zab,y8];constructor;{rintro⟨b,_,c⟩;exact⟨b.1,zb2.1 b.2,c⟩};{rintro⟨b,d,c⟩;exact⟨⟨b,zb2.2 d⟩,List.mem_attach _ _,c⟩}
theorem zm0 (a i:Nat):hasR (negC a) i↔∃d,hasL a d/\negC d=i:=by rw[negC,zac,y8];constructor;{rintro⟨b,_,c⟩;exact⟨b.1,zbc.1 b.2,c⟩};{rintro⟨b,e,c⟩;exact⟨⟨b,zbc.2 e⟩,List.mem_attach _ _,c⟩}
def sumC (a b:Nat):Nat :=
 mkC ((zms a).attach.map (λc=>sumC c.1 b)++(zms b).attach.map λc=>sumC a c.1) ((zgf a).attach.map (λd=>sumC d.1 b)++(zgf b).attach.map λd=>sumC a d.1)
 termination_by a+b
 decreasing_by
  ·have:=za6 (.inl (zbc.1 c.2));omega
  ·have:=za6 (.inl (zbc.1 c.2));omega
  ·have:=za6 (.inr (zb2.1 d.2));omega
  ·have:=za6 (.inr (zb2.1 d.2));omega
theorem zd7 (a e i:Nat):hasL (sumC a e) i↔(∃d,hasL a d/\sumC d e=i)\/∃d,hasL e d/\sumC a d=i:=by rw[sumC,zab,y6,y8,y8];constructor;{rintro(⟨b,_,c⟩|⟨b,_,c⟩);{exact .inl ⟨b.1,zbc.1 b.2,c⟩};{exact .inr ⟨b.1,zbc.1 b.2,c⟩}};{rintro(⟨b,f,c⟩|⟨b,f,c⟩);{exact .inl ⟨⟨b,zbc.2 f⟩,List.mem_attach _ _,c⟩};{exact .inr ⟨⟨b,zbc.2 f⟩,List.mem_attach _ _,c⟩}}
theorem zd6 (a e i:Nat):hasR (sumC a e) i↔(∃d,hasR a d/\sumC d e=i)\/∃d,hasR e d/\sumC a d=i:=by rw[sumC,zac,y6,y8,y8];constructor;{rintro(⟨b,_,c⟩|⟨b,_,c⟩);{exact .inl ⟨b.1,zb2.1 b.2,c⟩};{exact .inr ⟨b.1,zb2.1 b.2,c⟩}};{rintro(⟨b,f,c⟩|⟨b,f,c⟩);{exact .inl ⟨⟨b,zb2.2 f⟩,List.mem_attach _ _,c⟩};{exact .inr ⟨⟨b,zb2.2 f⟩,List.mem_attach _ _,c⟩}}
theorem ym7 (a d:Nat)(L R:List Nat)(e:∀c,c∈L↔(∃b,hasL a b/\sumC b d=c)\/∃b,hasL d b/\sumC a b=c)(f:∀c,c∈R↔(∃b,hasR a b/\sumC b d=c)\/∃b,hasR d b/\sumC a b=c):mkC L R=sumC a d :=
 zcq (λc=>by rw[zab,e,zd7]) (λc=>by rw[zac,f,zd6])
theorem yn8 (a:Nat)(L R:List Nat)(e:∀b,b∈L↔∃d,hasR a d/\negC d=b)(f:∀b,b∈R↔∃c,hasL a c/\negC c=b):mkC L R=negC a :=
 zcq (λb=>by rw[zab,e,zm1]) (λb=>by rw[zac,f,zm0])
theorem zai {V a:List PL}(b:V <+: a){x:Nat}(d:x<V.length):(za0 a).getD x 0=(za0 V).getD x 0:=by obtain⟨e,c⟩:=zg9 b;rw[<-c];exact zfm (by rw[za1];exact d)
theorem zdr {V a:List PL}(b:V <+: a){x:Nat}(c:x<V.length):za5 a x=za5 V x:=by obtain⟨d,rfl⟩:=b;unfold za5;rw[xY,xY,yV c]
def RowC (V:List PL)(L a:List Nat):Prop:=(∀b∈L,b<V.length)/\za2 (za0 V) L=a
theorem RowC.nil (V:List PL):RowC V [] []:=⟨by simp,rfl⟩
theorem RowC.mono {V d:List PL}{L e:List Nat}(a:RowC V L e)(f:V <+: d):RowC d L e:=by refine⟨λc b=>vK (a.1 c b) f.length_le,?_⟩;rw[<-a.2];exact uQ λc b=>zai f (a.1 c b)
theorem RowC.snoc {V:List PL}{L b:List Nat}{x c:Nat}(d:RowC V L b)(f:x<V.length)(e:(za0 V).getD x 0=c):RowC V (L ++ [x]) (b ++ [c]):=by refine⟨λg a=>?_,?_⟩;{rcases y6.1 a with a|a;{exact d.1 g a};{rw[x9.1 a];exact f}};{rw[<-d.2,<-e];simp[za2]}
theorem RowC.next {V:List PL}{L TL:List Nat}{x c j:Nat}(b:RowC V L (TL.take j))(e:TL[j]?=some c)(g:x<V.length)(d:(za0 V).getD x 0=c):RowC V (L ++ [x]) (TL.take (j+1)):=by obtain⟨f,a⟩:=xV.1 e;rw[yQ f,a];exact b.snoc g d
theorem RowC.len {V:List PL}{L a:List Nat}(b:RowC V L a):L.length=a.length:=by rw[<-b.2];simp[za2]
theorem zg6 {V:List PL}{BV:List Nat}(e:PoolOK V BV){L R c d:List Nat}(a:RowC V L c)(b:RowC V R d) : PoolOK (za4 V BV L R).1 (za4 V BV L R).2.1/\V <+: (za4 V BV L R).1/\(za4 V BV L R).2.2<(za4 V BV L R).1.length/\(za0 (za4 V BV L R).1).getD (za4 V BV L R).2.2 0=mkC c d:=by obtain⟨f,_,g⟩:=ze5 V BV L R;exact⟨(zmk e a.1 b.1).1,g,f,by rw[ztu e a.1 b.1,a.2,b.2]⟩
theorem ykk {C D:List Nat}{x y:PL}{a c:Nat}(d:a=mkC (za2 C x.1) (za2 C x.2))(e:c=mkC (za2 D y.1) (za2 D y.2)) : mkC ((za2 C x.1).map (λb=>sumC b c)++(za2 D y.1).map λb=>sumC a b) ((za2 C x.2).map (λb=>sumC b c)++(za2 D y.2).map λb=>sumC a b)=sumC a c:=by(have f:∀b,hasL a b↔b∈za2 C x.1:=λb=>by rw[d,zab]);(have g:∀b,hasR a b↔b∈za2 C x.2:=λb=>by rw[d,zac]);(have h:∀b,hasL c b↔b∈za2 D y.1:=λb=>by rw[e,zab]);(have i:∀b,hasR c b↔b∈za2 D y.2:=λb=>by rw[e,zac]);refine ym7 a c _ _ (λj=>?_) λj=>?_;{rw[y6,y8,y8];simp only[f,h]};{rw[y6,y8,y8];simp only[g,i]}
theorem ykq {C:List Nat}{x:PL}{a:Nat}(c:a=mkC (za2 C x.1) (za2 C x.2)):mkC ((za2 C x.2).map negC) ((za2 C x.1).map negC)=negC a:=by(have d:∀b,hasL a b↔b∈za2 C x.1:=λb=>by rw[c,zab]);(have e:∀b,hasR a b↔b∈za2 C x.2:=λb=>by rw[c,zac]);refine yn8 a _ _ (λf=>?_) λf=>?_;{rw[y8];simp only[e]};{rw[y8];simp only[d]}
theorem zs7 {C A B:List Nat}{g:Nat->Nat}{k l:Nat}(a:A[k]?=some l):((za2 C A).map g++B)[k]?=some (g (C.getD l 0)):=by have b:=(xV.1 a).1;rw[yV (by simpa [za2] using b)];simp[za2,vY,a]
theorem znk {C D A B:List Nat}{g a:Nat->Nat}{k l:Nat}(b:B[k]?=some l):((za2 C A).map g++(za2 D B).map a)[A.length+k]?=some (a (D.getD l 0)):=by rw[kK (by simp[za2])];simp[za2,vY,b]
theorem yki {C A:List Nat}{g:Nat->Nat}{k l:Nat}(a:A[k]?=some l):((za2 C A).map g)[k]?=some (g (C.getD l 0)):=by simp[za2,vY,a]
theorem zfe {V:List PL}{BV:List Nat}(b:PoolOK V BV){U:List Nat}(c:∀a,a<V.length->(za0 V).getD a 0∈U):V.length<=U.length:=by rw[<-za1 V];refine b.book.nodup.length_le_of_subset λg d=>?_;obtain⟨f,e,rfl⟩:=zkr d;exact c f (by rw[<-za1 V];exact e)
theorem zic {V:List PL}{BV:List Nat}{L R U:List Nat}(f:∀a,a<V.length->(za0 V).getD a 0∈U)(g:(za0 (za4 V BV L R).1).getD (za4 V BV L R).2.2 0∈U) :
  ∀a,a<(za4 V BV L R).1.length->(za0 (za4 V BV L R).1).getD a 0∈U:=by
 intro a b;obtain⟨h,j,i⟩:=ze5 V BV L R;by_cases c:a<V.length
 ·rw[zai i c];exact f a c
 ·have e:a=(za4 V BV L R).2.2:=by
   unfold za4 at b h ⊢;split
   ·rename_i d;rw[if_pos d]at b;exact absurd b c
   ·rename_i d
    rw[if_neg d]at b;simp at b ⊢;omega
  rw[e];exact g
theorem zux:∀(d:Nat) (a:List PL) (b:List Nat),PoolOK a b->∃c m j,PoolOK c m/\a <+: c/\j<c.length/\(za0 c).getD j 0=d:=by intro d;induction d using Nat.strongRecOn with| _ d y =>{have u:∀(h:List Nat),(∀i∈h,i<d)->∀(a:List PL) (b:List Nat),PoolOK a b->∃c m k,PoolOK c m/\a <+: c/\RowC c k h:=by{intro h;induction h using zec with| h0=>{intro _ a b f;exact⟨a,b,[],f,List.prefix_refl _,RowC.nil a⟩}| h1 i t z =>{intro e a b f;obtain⟨n,l,k,h1,p,q⟩:=z (λF x=>e F (vQ _ x)) a b f;obtain⟨s,r,j,o,g,w,v⟩:=y t (e t (by simp)) n l h1;exact⟨s,r,k ++ [j],o,p.trans g,(q.mono g).snoc w v⟩}};intro a b f;obtain⟨n,l,G,h1,p,q⟩:=u (zms d) (λi e=>za6 (.inl (zbc.1 e))) a b f;obtain⟨s,r,H,o,g,E⟩:=u (zgf d) (λi e=>za6 (.inr (zb2.1 e))) n l h1;obtain⟨A,B,C,D⟩:=zg6 o (q.mono g) E;exact⟨_,_,_,A,(p.trans g).trans B,C,by rw[D,yi0]⟩}
theorem yfa (c:Nat):∃a,FormC c a:=by obtain⟨g,f,h,b,_,e,d⟩:=zux c [] [] PoolOK.nil;have:=b.form e;rw[d]at this;exact⟨_,this⟩
noncomputable def za8 (c:Nat):List PL:=Classical.choose (yfa c)
theorem zbd (c:Nat):FormC c (za8 c):=Classical.choose_spec (yfa c)
theorem FormC.of {c:Nat}{a:List PL}(b:FormC c a):a=za8 c:=b.one (zbd c)
theorem zee {V:List PL}{BV:List Nat}(a:PoolOK V BV){r c:Nat}(d:r<V.length)(b:(za0 V).getD r 0=c):zdh V BV r=za8 c:=by have:=a.form d;rw[b]at this;exact this.of
theorem SubC.trans {a b c:Nat}(d:SubC a b)(e:SubC b c):SubC a c:=by induction e with| root=>exact d| step _ f g=>exact g.step f
theorem zpr {C L:List Nat}(e:C.Nodup)(h:L.Pairwise (· < ·))(a:∀i∈L,i<C.length):(za2 C L).Nodup:=by unfold za2;refine List.pairwise_map.2 (h.imp_of_mem ?_);intro b c f g j d;have:=zbq e (a b f) (a c g) d;omega
theorem zxy {C A L:List Nat}(b:∀a∈L,a<A.length):za2 C (za2 A L)=za2 (za2 C A) L:=by unfold za2;rw[List.map_map];refine uQ λa c=>?_;have d:=b a c;simp[xY,vY,xQ d]
theorem RowC.at {V:List PL}{A b L:List Nat}(c:RowC V A b)(d:∀a∈L,a<A.length):RowC V (za2 A L) (za2 b L):=by refine⟨λg f=>?_,?_⟩;{obtain⟨a,e,rfl⟩:=mem_atAll.1 f;exact c.1 _ (zd8 (d a e))};{rw[zxy d,c.2]}
theorem OptsOK.last {l:List PL}{a:PL}(c:OptsOK (l ++ [a])):(∀b∈a.1,b<l.length)/\∀b∈a.2,b<l.length:=c l.length a (by simp)
theorem zv6 (Fs:List PL):OptsOK Fs->∀ {a:List PL}{b:List Nat},PoolOK a b->PoolOK (addB a b Fs).1 (addB a b Fs).2.1/\a <+: (addB a b Fs).1/\RowC (addB a b Fs).1 (addB a b Fs).2.2 (za0 Fs) ∧
  ∀e,e<(addB a b Fs).1.length->(za0 (addB a b Fs).1).getD e 0∈za0 a++za0 Fs:=by
 induction Fs using zec with
 | h0 =>
  intro _ a b h;exact⟨h,List.prefix_refl _,RowC.nil a,λe i=>vQ _ (zd8 (by rw[za1];exact i))⟩
 | h1 c d r =>
  intro l a b h;obtain⟨m,i2,f,q⟩:=r l.cut h;obtain⟨s,t⟩:=l.last;have k:(addB a b c).2.2.length=c.length:=by rw[f.len,za1]
  have w:=f.at (L:=d.1) (λj g=>by rw[k];exact s j g);have x:=f.at (L:=d.2) (λj g=>by rw[k];exact t j g);obtain⟨u,n,v,o⟩:=zg6 m w x;have p:addB a b (c ++ [d])=((za4 (addB a b c).1 (addB a b c).2.1 (za2 (addB a b c).2.2 d.1) (za2 (addB a b c).2.2 d.2)).1,(za4 (addB a b c).1 (addB a b c).2.1 (za2 (addB a b c).2.2 d.1) (za2 (addB a b c).2.2 d.2)).2.1,
    (addB a b c).2.2 ++ [(za4 (addB a b c).1 (addB a b c).2.1 (za2 (addB a b c).2.2 d.1) (za2 (addB a b c).2.2 d.2)).2.2]):=by
   rw[zep,<-zd0 m];rfl
  rw[p,zem];refine⟨u,i2.trans n,(f.mono n).snoc v o,?_⟩;refine zic (λe i=>?_) ?_
  ·rcases y6.1 (q e i)with h|h
   ·exact vQ _ h
   ·exact List.mem_append_right _ (vQ _ h)
  ·rw[o]
   exact List.mem_append_right _ (List.mem_append_right _ (x9.2 rfl))
theorem zoe {V:List PL}{BV:List Nat}(c:PoolOK V BV){r:Nat}(d:r<V.length){a:Nat}(e:SubC ((za0 V).getD r 0) a):a∈za0 V:=by obtain⟨g,_,f,b⟩:=zod c.book d e;rw[<-b];exact zd8 (by rw[za1];exact f)
def sumU (C:List Nat):List Nat:=C++C.flatMap λa=>C.map λb=>sumC a b
theorem yi1 {C:List Nat}{a b:Nat}(c:a∈C)(d:b∈C):sumC a b∈sumU C:=List.mem_append_right _ (List.mem_flatMap.2 ⟨a,c,y8.2 ⟨b,d,rfl⟩⟩)
theorem zyb (C:List Nat):(sumU C).length=C.length+C.length*C.length:=by unfold sumU;rw[yX];congr 1;have:∀D:List Nat,(D.flatMap λa=>C.map λb=>sumC a b).length=D.length*C.length:=by{intro D;induction D with| nil=>simp| cons a l ih=>rw[List.flatMap_cons,yX,ih,uK,List.length_cons,Nat.succ_mul,Nat.add_comm]};exact this C
theorem zef {V:List PL}{BV:List Nat}(d:PoolOK V BV):BookOK V BV:=by have h:∀a,a<V.length->BV.getD a 0<=a:=by{intro a;induction a using Nat.strongRecOn with| _ a g =>{intro e;have f:=za7 e;obtain⟨i,j⟩:=d.opts a _ f;rw[d.born a _ f,zen,zen];exact⟨⟨yK _,λc b=>by have:=i c b;have:=g c this (by omega);omega⟩,λc b=>by have:=j c b;have:=g c this (by omega);omega⟩}};exact⟨d.len,d.opts,λa c b=>by{have e:=(xV.1 b).1;have:=h a (by rw[<-d.len];exact e);rw[xY,b]at this;exact this}⟩
def zfc (CF CG:List Nat):List Nat:=CF.flatMap λa=>CG.map λb=>sumC a b
theorem yau (CF CG:List Nat):(zfc CF CG).length=CF.length*CG.length:=by unfold zfc;induction CF with| nil=>simp| cons a l ih=>rw[List.flatMap_cons,yX,ih,uK,List.length_cons,Nat.succ_mul,Nat.add_comm]
theorem yav {CF CG:List Nat}:∀ {i k:Nat},i<CF.length->k<CG.length->(zfc CF CG)[i*CG.length+k]?=some (sumC (CF.getD i 0) (CG.getD k 0)):=by induction CF with| nil=>{intro i k g;simp at g}| cons c d j =>{(intro i k h a;have f:zfc (c::d) CG=(CG.map λe=>sumC c e)++zfc d CG:=by unfold zfc;rw[List.flatMap_cons]);rw[f];cases i with| zero =>{rw[Nat.zero_mul,Nat.zero_add,yV (by simpa using a),vY,xQ a,xY (l:=CG),xQ a];rfl}| succ b =>{rw[kK (by rw[uK,Nat.succ_mul];omega),uK];have:=j (i:=b) (k:=k) (by simpa using h) a;rw[show(b+1)*CG.length+k-CG.length=b*CG.length+k from by rw[Nat.succ_mul];omega,this];rfl}}
theorem RowC.get {V:List PL}{A d:List Nat}{P p c:Nat}(f:RowC V A (d.take P))(h:p<P)(g:d[p]?=some c):∃b,A[p]?=some b/\b<V.length/\(za0 V).getD b 0=c:=by(have a:(d.take P)[p]?=some c:=by rw[List.getElem?_take,if_pos h];exact g);rw[<-f.2]at a;unfold za2 at a;rw[vY]at a;cases e:A[p]? with| none=>rw[e]at a;cases a| some b =>{rw[e]at a;exact⟨b,rfl,f.1 b (xK e),yY a⟩}
theorem zgy {a:List Nat}{p c:Nat}(d:a[p]?=some c):a.take p ++ [c]=a.take (p+1):=by obtain⟨e,b⟩:=xV.1 d;rw[yQ e,b]
theorem FormRes.is {V:List PL}{BV:List Nat}{r:Nat}{ok:Bool}{f:List PL}(c:PoolOK V BV)(e:r<V.length)(o:FormRes V BV r ok f):ok=zah (zdh V BV r)/\f=if ok then zdh V BV r else []:=by rcases o with ⟨b,d,g,n,m,s⟩|⟨g,j,a,_,b,d⟩;{obtain⟨h,a⟩:=zpd c e;(have u:(zdh V BV r).length=h.length:=by rw[a.nodes];simp);have t:g.length<=h.length:=n.length_le_of_subset λi p=>(a.mem i).2 ((m i).1 p);(have l:zah (zdh V BV r)=false:=vV λq=>by have:=q.1;omega);rw[l];exact⟨b,by rw[d,b];rfl⟩};{have k:j=zdh V BV r:=FormC.one ⟨_,zrf c.book c.births e a⟩ (c.form e);rw[<-k];exact⟨b,d⟩}
theorem zcd {Fs:List PL}(g:zbh (i2 Fs)):0<Fs.length/\Fs.length<=120/\(∀f∈Fs,f.1.length<=24/\f.2.length<=24)/\PoolOK Fs (zbf Fs)/\addB [] [] Fs=(Fs,zbf Fs,List.range Fs.length)/\zg5 [] [] Fs=Fs.length-1:=by obtain⟨h,b,e,i,j⟩:=(zm3 Fs).1 g;have d:=zig b i;have a:=h;unfold zah at a;rw[kV]at a;have c:=zv4 Fs b e d;refine⟨by omega,a.1,a.2.2,zid b e d,c,?_⟩;unfold zg5;rw[c];show(List.range Fs.length).getD (Fs.length-1) 0=_;rw[zbu,if_pos (by omega)]
theorem zfk {b:List (List Int × List Int)}(d:zbh b):∃a,b=i2 a:=by obtain⟨a,c,_⟩:=znp d.2.1;exact⟨a,c⟩
def thrI:Option Nat->Int
 | some a=>(a:Int)
 | none=>-1
