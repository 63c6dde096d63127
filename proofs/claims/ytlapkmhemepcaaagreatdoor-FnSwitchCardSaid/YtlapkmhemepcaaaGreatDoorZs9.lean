import Derived.Test.YtlapkmhemepcaaaGreatDoorZs5
/- Lemmas. -/
set_option linter.all false
namespace Go.Proofs.YtlapkmhemepcaaaGreatDoor
open Go.RowKit
theorem yau (L:List Nat)(n:Nat)(h:∀x∈L,x<n):posN L n=L.length :=
 zrn L n L.length (xW _) (λj x _ hx=>h x (xK hx)) (λx hx=>by simp at hx)
theorem zt3 (L:List Nat)(n:Nat)(h:∀x∈L,x<n):putN L n=L ++ [n]:=by unfold putN;rw[yau L n h,if_neg (by simp)];simp
theorem zsv (L:List Nat)(h:L.Pairwise (· < ·)):zaa L=L:=by(suffices hs:∀(L A:List Nat),(A++L).Pairwise (· < ·)->L.foldl putN A=A++L by simpa [zaa] using hs L [] (by simpa using h));intro L;induction L with| nil=>{intro A _;simp}| cons x l ih =>{intro A h;have hx:∀y∈A,y<x:=λy hy=>(List.pairwise_append.1 h).2.2 y hy x uZ;rw[List.foldl_cons,zt3 A x hx,ih _ (by simpa using h)];simp}
theorem ycd (A L:List Nat)(h:∀x∈L,A.getD x 0=x):za3 A L=L:=by unfold za3;exact(uX h).trans (List.map_id' L)
theorem rget (n k:Nat):(List.range n)[k]?=if k<n then some k else none:=by split;{exact List.getElem?_range (by assumption)};{exact List.getElem?_eq_none (by simp;omega)}
theorem zi7 (n k d:Nat):(List.range n).getD k d=if k<n then k else d:=by rw[xY,rget];split <;> rfl
theorem zuf (BL:List Nat)(m:Nat)(L:List Nat):m<=zac BL m L/\∀x∈L,BL.getD x 0+1<=zac BL m L:=by unfold zac;induction L generalizing m with| nil=>exact⟨xW _,by simp⟩| cons y l ih =>{rw[List.foldl_cons];obtain⟨h1,h2⟩:=ih (max m (BL.getD y 0+1));refine⟨by omega,λx hx=>?_⟩;rcases uQ.1 hx with rfl|hx;{omega};{exact h2 x hx}}
def zb9 (s:List PL × List Nat × List Nat)(f:List PL):List PL × List Nat × List Nat:=((addB s.1 s.2.1 f).1,(addB s.1 s.2.1 f).2.1,s.2.2 ++ [zf7 s.1 s.2.1 f])
def zbh (NL:List PL)(BL:List Nat)(FL:List (List PL)):List PL × List Nat × List Nat:=FL.foldl zb9 (NL,BL,[])
theorem zre (NL:List PL)(BL:List Nat)(FL:List (List PL))(f:List PL):zbh NL BL (FL ++ [f])=zb9 (zbh NL BL FL) f:=by simp[zbh]
def zm2 (FL FR:List (List PL)):List PL :=
 let l:=zbh [] [] FL
 let r:=zbh l.1 l.2.1 FR
 let p:=putB r.1 r.2.1 l.2.2 r.2.2
 zdg p.1 p.2.1 p.2.2
def i2 (Fs:List PL):List (List Int × List Int):=Fs.map λy=>(ints y.1,ints y.2)
theorem zcb (Fs:List PL):(i2 Fs).length=Fs.length:=by simp[i2]
theorem yct {Fs:List PL}{k:Nat}{y:List Int × List Int}(h:(i2 Fs)[k]?=some y):∃x,Fs[k]?=some x/\y=(ints x.1,ints x.2):=by unfold i2 at h;rw[vW]at h;cases hq:Fs[k]? with| none=>rw[hq]at h;cases h| some x=>rw[hq]at h;cases h;exact⟨x,rfl,rfl⟩
theorem zu3 {Fs G:List PL}(h:i2 Fs=i2 G):Fs=G:=by(have hl:Fs.length=G.length:=by have:=congrArg List.length h;simpa [i2] using this);refine List.ext_getElem hl λk h1 h2=>?_;(have e:(i2 Fs)[k]?=(i2 G)[k]?:=by rw[h]);unfold i2 at e;rw[vW,vW,xQ h1,xQ h2]at e;have e:=yY e;have e1:=zo7 (congrArg Prod.fst e);have e2:=zo7 (congrArg Prod.snd e);exact Prod.ext e1 e2
theorem ycr (hi:Nat)(L:List Nat):∀(p:Option Int),L.Pairwise (· < ·)->(∀x∈L,x<hi)->(∀y,p=some y->∀x∈L,y<(x:Int))->zam 0 ((hi:Int)-1) p (ints L)=true:=by induction L with| nil=>{intro p _ _ _;cases p <;> rfl}| cons x l ih =>{(intro p hL hb hp;have hx:=hb x uZ;have h1:betw (Int.ofNat x) 0 ((hi:Int)-1)=true:=by unfold betw;simp;omega);have h2:=ih (some (Int.ofNat x)) (List.pairwise_cons.1 hL).2 (λy hy=>hb y (uY _ hy)) (λy e z hz=>by{cases e;have:=(List.pairwise_cons.1 hL).1 z hz;show((x:Nat):Int)<(z:Int);omega});cases p with| none =>{show(betw (Int.ofNat x) 0 ((hi:Int)-1) && zam 0 ((hi:Int)-1) (some (Int.ofNat x)) (ints l))=true;rw[h1,h2];rfl}| some y =>{have h3:=hp y rfl x uZ;show(betw (Int.ofNat x) 0 ((hi:Int)-1) && (decide (y<Int.ofNat x) && zam 0 ((hi:Int)-1) (some (Int.ofNat x)) (ints l)))=true;rw[h1,h2,vV (show y<Int.ofNat x from h3)];rfl}}
theorem zt2 (hi:Nat)(L:List Int):∀(p:Option Int),zam 0 ((hi:Int)-1) p L=true->∃L':List Nat,L=ints L'/\L'.Pairwise (· < ·)/\(∀x∈L',x<hi)/\∀y,p=some y->∀x∈L',y<(x:Int):=by induction L with| nil=>{intro p _;exact⟨[],rfl,List.Pairwise.nil,by simp,by simp⟩}| cons x l ih =>{intro p h;have h0:betw x 0 ((hi:Int)-1)=true/\(∀y,p=some y->y<x)/\zam 0 ((hi:Int)-1) (some x) l=true:=by{cases p with| none =>{have h:(betw x 0 ((hi:Int)-1) && zam 0 ((hi:Int)-1) (some x) l)=true:=h;rw[Bool.and_eq_true]at h;exact⟨h.1,by simp,h.2⟩}| some y =>{have h:(betw x 0 ((hi:Int)-1) && (decide (y<x) && zam 0 ((hi:Int)-1) (some x) l))=true:=h;rw[Bool.and_eq_true,Bool.and_eq_true]at h;exact⟨h.1,λz e=>by cases e;exact of_decide_eq_true h.2.1,h.2.2⟩}};obtain⟨h1,h2,h3⟩:=h0;obtain⟨L',e,u,b,q⟩:=ih (some x) h3;have h1:0<=x/\x<=(hi:Int)-1:=of_decide_eq_true h1;refine⟨x.toNat::L',?_,List.pairwise_cons.2 ⟨λz hz=>?_,u⟩,λz hz=>?_,λy hy z hz=>?_⟩;{rw[e];show x::ints L'=Int.ofNat x.toNat::ints L';rw[show Int.ofNat x.toNat=x from Int.toNat_of_nonneg h1.1]};{have:=q x rfl z hz;omega};{rcases uQ.1 hz with rfl|hz;{omega};{exact b z hz}};{have h4:=h2 y hy;rcases uQ.1 hz with rfl|hz;{omega};{have:=q x rfl z hz;omega}}}
def risI (Fs:List (List Int × List Int))(k:Nat):Prop:=∀(j:Nat) (y:List Int × List Int),j<k->Fs[j]?=some y->zam 0 ((j:Int)-1) none y.1=true/\zam 0 ((j:Int)-1) none y.2=true
def zd6 (Fs:List (List Int × List Int)):Prop:=zap Fs=true/\risI Fs Fs.length/\∀Fs':List PL,Fs=i2 Fs'->zdg (addB [] [] Fs').1 (addB [] [] Fs').2.1 (zf7 [] [] Fs')=Fs'
theorem zk9 {Fs:List (List Int × List Int)}(h:risI Fs Fs.length):∃Fs':List PL,Fs=i2 Fs'/\(∀(j:Nat) (y:PL),Fs'[j]?=some y->(∀i∈y.1,i<j)/\∀i∈y.2,i<j)/\∀(j:Nat) (y:PL),Fs'[j]?=some y->y.1.Pairwise (· < ·)/\y.2.Pairwise (· < ·):=by have key:∀(j:Nat) (y:List Int × List Int),Fs[j]?=some y->∃x:PL,y=(ints x.1,ints x.2)/\((∀i∈x.1,i<j)/\∀i∈x.2,i<j)/\x.1.Pairwise (· < ·)/\x.2.Pairwise (· < ·):=λj y hy=>by{obtain⟨h1,h2⟩:=h j y (xV.1 hy).1 hy;obtain⟨L1,e1,u1,b1,_⟩:=zt2 j y.1 none h1;obtain⟨L2,e2,u2,b2,_⟩:=zt2 j y.2 none h2;exact⟨(L1,L2),Prod.ext e1 e2,⟨b1,b2⟩,u1,u2⟩};let f:List Int × List Int->PL:=λy=>(y.1.map Int.toNat,y.2.map Int.toNat);have hf:∀x:PL,f (ints x.1,ints x.2)=x:=λx=>by{(have e:∀L:List Nat,(ints L).map Int.toNat=L:=λL=>by unfold ints;rw[List.map_map];exact(uX λa _=>rfl).trans (List.map_id' L));exact Prod.ext (e _) (e _)};have hg:∀(j:Nat) (y:PL),(Fs.map f)[j]?=some y->∃z,Fs[j]?=some z/\z=(ints y.1,ints y.2)/\((∀i∈y.1,i<j)/\∀i∈y.2,i<j)/\y.1.Pairwise (· < ·)/\y.2.Pairwise (· < ·):=λj y hy=>by{rw[vW]at hy;cases hq:Fs[j]? with| none=>rw[hq]at hy;cases hy| some z =>{rw[hq]at hy;obtain⟨x,e,hx⟩:=key j z hq;have hy:=yY hy;rw[e,hf]at hy;subst hy;exact⟨z,rfl,e,hx⟩}};refine⟨Fs.map f,?_,λj y hy=>?_,λj y hy=>?_⟩;{unfold i2;rw[List.map_map];refine((uX λz hz=>?_).trans (List.map_id' Fs)).symm;obtain⟨j,hj,rfl⟩:=uK hz;obtain⟨x,e,_⟩:=key j _ (xQ hj);show(ints (f Fs[j]).1,ints (f Fs[j]).2)=Fs[j];rw[e,hf]};{obtain⟨_,_,_,h,_⟩:=hg j y hy;exact h};{obtain⟨_,_,_,_,h⟩:=hg j y hy;exact h}
theorem zob (Fs:List PL):zap (i2 Fs)=zap Fs:=by unfold zap i2;rw[uV];congr 1;refine propext ⟨λ⟨h1,h2,h3⟩=>⟨h1,h2,λy hy=>?_⟩,λ⟨h1,h2,h3⟩=>⟨h1,h2,λy hy=>?_⟩⟩;{have:=h3 _ (vX.2 ⟨y,hy,rfl⟩);simpa [ints] using this};{obtain⟨x,hx,rfl⟩:=vX.1 hy;simpa [ints] using h3 x hx}
theorem zoq {L:List Nat}{n:Nat}(hu:L.Pairwise (· < ·))(h:∀x∈L,x<n):L.length<=n:=by(have hd:L.Nodup:=hu.imp λhlt e=>by omega);have:=hd.length_le_of_subset (l₂:=List.range n) (λx hx=>kY.2 (h x hx));simpa using this
def BookUp (NL:List PL):Prop:=∀(j:Nat) (y:PL),NL[j]?=some y->y.1.Pairwise (· < ·)/\y.2.Pairwise (· < ·)
theorem BookUp.nil:BookUp []:=by intro j y h;simp at h
theorem BookUp.lens {NL:List PL}{BL:List Nat}(h:BookUp NL)(hOK:BookOK NL BL):∀y∈NL,y.1.length<=NL.length/\y.2.length<=NL.length:=by intro y hy;obtain⟨j,hj,rfl⟩:=uK hy;have e:=xQ hj;obtain⟨o1,o2⟩:=hOK.opts j _ e;obtain⟨u1,u2⟩:=h j _ e;have:=zoq u1 o1;have:=zoq u2 o2;omega
theorem zy0 {NL:List PL}{BL:List Nat}(h:BookUp NL)(L R:List Nat):BookUp (putB NL BL L R).1:=by unfold putB;simp only;split;{exact h};{intro j y hy;by_cases hj:j<NL.length;{rw[yV hj]at hy;exact h j y hy};{rw[kV (by omega)]at hy;cases hd:j-NL.length with| zero=>rw[hd]at hy;simp at hy;subst hy;exact⟨zda L,zda R⟩| succ d=>rw[hd]at hy;simp at hy}}
theorem zzx {NL:List PL}{BL:List Nat}(h:BookUp NL)(FL:List PL):BookUp (addB NL BL FL).1:=by suffices hs:∀n,n<=FL.length->BookUp (addB NL BL (FL.take n)).1 by{have:=hs FL.length (xW _);rwa [vQ]at this};intro n;induction n with| zero=>{intro _;exact h}| succ n ih =>{intro hn;rw[yQ (by omega),ze9];exact zy0 (ih (by omega)) _ _}
theorem BookOK.nil:BookOK [] []:=⟨rfl,by simp,by simp⟩
structure GoodF (Fm:List PL):Prop where
 pos:0<Fm.length
 le:Fm.length<=120
 opts:∀(j:Nat) (y:PL),Fm[j]?=some y->(∀x∈y.1,x<j)/\∀x∈y.2,x<j
 lens:∀y∈Fm,y.1.length<1000/\y.2.length<1000
structure RootsOK (n:Nat) (s:List PL × List Nat × List Nat):Prop where
 ok:BookOK s.1 s.2.1
 up:BookUp s.1
 len:s.1.length<=n
 lt:∀x∈s.2.2,x<s.1.length
theorem RootsOK.step {n:Nat}{s:List PL × List Nat × List Nat}(h:RootsOK n s){Fm:List PL}(hF:GoodF Fm):RootsOK (n+120) (zb9 s Fm):=by obtain⟨k1,k2,k3,k4,k5⟩:=zg5 h.ok Fm hF.opts;have hp:=hF.pos;have hl:=hF.le;refine⟨k1,zzx h.up Fm,?_,λx hx=>?_⟩;{have:=h.len;show(addB s.1 s.2.1 Fm).1.length<=n+120;omega};{rcases y4.1 hx with hx|hx;{exact kQ (h.lt x hx) k5.length_le};{rw[x4]at hx;subst hx;unfold zf7;rw[xY,xQ (by omega)];exact k3 _ (vZ _)}}
theorem zec {FL:List (List PL)}:∀ {n:Nat}{s:List PL × List Nat × List Nat},RootsOK n s->(∀Fm∈FL,GoodF Fm)->RootsOK (n+120*FL.length) (FL.foldl zb9 s):=by induction FL with| nil=>{intro n s h _;simpa using h}| cons f l ih =>{intro n s h hF;have:=ih (h.step (hF f uZ)) (λg hg=>hF g (uY _ hg));rw[List.foldl_cons,List.length_cons];rwa [show n+120+120*l.length=n+120*(l.length+1)from by omega]at this}
theorem zg8 (FL:List (List PL)):∀(s:List PL × List Nat × List Nat),(FL.foldl zb9 s).2.2.length=s.2.2.length+FL.length:=by induction FL with| nil=>{intro s;simp}| cons f l ih=>{intro s;rw[List.foldl_cons,ih];simp[zb9];omega}
structure PoolOK (V:List PL) (BV:List Nat):Prop where
 len:BV.length=V.length
 opts:∀(j:Nat) (y:PL),V[j]?=some y->(∀i∈y.1,i<j)/\∀i∈y.2,i<j
 up:∀(j:Nat) (y:PL),V[j]?=some y->y.1.Pairwise (· < ·)/\y.2.Pairwise (· < ·)
 nodup:V.Nodup
 born:∀(j:Nat) (y:PL),V[j]?=some y->BV.getD j 0=zac BV (zac BV 0 y.1) y.2
theorem PoolOK.nil:PoolOK [] []:=⟨rfl,by simp,by simp,by simp,by simp⟩
theorem zbq (BV t:List Nat)(m:Nat)(L:List Nat)(h:∀x∈L,x<BV.length):zac (BV++t) m L=zac BV m L:=by unfold zac;induction L generalizing m with| nil=>rfl| cons x l ih =>{(have hx:=h x uZ;have e:(BV++t).getD x 0=BV.getD x 0:=by rw[xY,xY,yV hx]);rw[List.foldl_cons,List.foldl_cons,e,ih _ (λy hy=>h y (uY _ hy))]}
theorem zgi {α:Type}{V:List α}{x y:α}{j:Nat}(h:(V ++ [x])[j]?=some y):(j<V.length/\V[j]?=some y)\/(j=V.length/\y=x):=by by_cases hj:j<V.length;{rw[yV hj]at h;exact .inl ⟨hj,h⟩};{have hl:=(xV.1 h).1;(have hje:j=V.length:=by simp at hl;omega);subst hje;exact .inr ⟨rfl,by simpa using h.symm⟩}
theorem zia {V:List PL}{BV:List Nat}(h:PoolOK V BV){L R:List Nat}(hL:∀x∈L,x<V.length)(hR:∀x∈R,x<V.length) : PoolOK (za4 V BV L R).1 (za4 V BV L R).2.1/\(za4 V BV L R).1[(za4 V BV L R).2.2]?=some (zaa L,zaa R):=by unfold za4;split;{rename_i hm;refine⟨h,?_⟩;have hi:=List.idxOf_lt_length_of_mem hm;show V[V.idxOf (zaa L,zaa R)]?=_;rw[xQ hi,List.getElem_idxOf]};{rename_i hm;have h1:∀x∈zaa L,x<V.length:=λx hx=>hL x ((zay L x).1 hx);have h2:∀x∈zaa R,x<V.length:=λx hx=>hR x ((zay R x).1 hx);refine⟨⟨by simp[h.len],λj y hy=>?_,λj y hy=>?_,?_,λj y hy=>?_⟩,by simp⟩;{rcases zgi hy with ⟨_,hy⟩|⟨rfl,rfl⟩;{exact h.opts j y hy};{exact⟨h1,h2⟩}};{rcases zgi hy with ⟨_,hy⟩|⟨rfl,rfl⟩;{exact h.up j y hy};{exact⟨zda L,zda R⟩}};{rw[List.nodup_append];refine⟨h.nodup,by simp,λa ha b hb e=>?_⟩;rw[x4]at hb;subst e;subst hb;exact hm ha};{rcases zgi hy with ⟨hj,hy⟩|⟨rfl,rfl⟩;{obtain⟨o1,o2⟩:=h.opts j y hy;rw[zbq _ _ _ _ (λx hx=>by have:=o2 x hx;rw[h.len];omega),zbq _ _ _ _ (λx hx=>by have:=o1 x hx;rw[h.len];omega),<-h.born j y hy,xY,xY,yV (by rw[h.len];exact hj)]};{rw[zbq _ _ _ _ (λx hx=>by rw[h.len];exact h2 x hx),zbq _ _ _ _ (λx hx=>by rw[h.len];exact h1 x hx),<-h.len];simp[xY]}}}
theorem za7 {V:List PL}{x:Nat}(h:x<V.length):V[x]?=some (za2 V x):=by unfold za2;rw[xY,xQ h];rfl
theorem PoolOK.reach {V:List PL}{BV R:List Nat}(h:PoolOK V BV)(hR:∀r∈R,r<V.length){x:Nat}(hx:ReachV V R x):x<V.length:=by induction hx with| root hr=>exact hR _ hr| @left x y _ hy ih=>have:=(h.opts x _ (za7 ih)).1 y hy;omega| @right x y _ hy ih=>have:=(h.opts x _ (za7 ih)).2 y hy;omega
theorem PoolOK.lower {V:List PL}{BV:List Nat}(h:PoolOK V BV){x:Nat}(hx:x<V.length):(∀y∈(za2 V x).1,BV.getD y 0<BV.getD x 0)/\∀y∈(za2 V x).2,BV.getD y 0<BV.getD x 0:=by rw[h.born x _ (za7 hx)];obtain⟨a1,a2⟩:=zuf BV 0 (za2 V x).1;obtain⟨b1,b2⟩:=zuf BV (zac BV 0 (za2 V x).1) (za2 V x).2;exact⟨λy hy=>by have:=a2 y hy;omega,λy hy=>by have:=b2 y hy;omega⟩
theorem PoolOK.qok {V:List PL}{BV R Q:List Nat}(h:PoolOK V BV)(hR:∀r∈R,r<V.length)(hn:Q.Nodup)(hm:∀x,x∈Q↔ReachV V R x)(hs:Q.Pairwise λa b=>BV.getD a 0<=BV.getD b 0):QOk V BV Q:=by have hl:∀x∈Q,x<V.length:=λx hx=>h.reach hR ((hm x).1 hx);refine⟨hn,hs,λx hx y hy=>⟨(hm y).2 (.left ((hm x).1 hx) hy),(h.lower (hl x hx)).1 y hy⟩,λx hx y hy=>⟨(hm y).2 (.right ((hm x).1 hx) hy),(h.lower (hl x hx)).2 y hy⟩,λx hx=>h.up x _ (za7 (hl x hx)),λx hx y hy e=>?_⟩;have e1:=za7 (hl x hx);have e2:=za7 (hl y hy);rw[e]at e1;exact(List.getElem?_inj (hl x hx) h.nodup).1 (e1.trans e2.symm)
theorem PoolOK.lens {V:List PL}{BV:List Nat}(h:PoolOK V BV){n:Nat}(hn:V.length<n):∀y∈V,y.1.length<n/\y.2.length<n:=by intro y hy;obtain⟨j,hj,rfl⟩:=uK hy;have e:=xQ hj;obtain⟨o1,o2⟩:=h.opts j _ e;obtain⟨u1,u2⟩:=h.up j _ e;have:=zoq u1 o1;have:=zoq u2 o2;omega
theorem PoolOK.opts' {V:List PL}{BV:List Nat}(h:PoolOK V BV)(j:Nat)(y:PL)(hy:V[j]?=some y):(∀i∈y.1,i<V.length)/\∀i∈y.2,i<V.length:=by have hj:=(xV.1 hy).1;obtain⟨o1,o2⟩:=h.opts j y hy;exact⟨λi hi=>by have:=o1 i hi;omega,λi hi=>by have:=o2 i hi;omega⟩
theorem zsy (m:List Bool)(y x:Nat):(m.set y true).getD x false=true↔m.getD x false=true\/x=y/\x<m.length:=by rw[xY,xY,List.getElem?_set];by_cases e:y=x;{subst e;by_cases h:y<m.length;{simp[h]};{simp[h]}};{rw[if_neg e];constructor;{exact .inl};{rintro(h|⟨h,_⟩);{exact h};{exact absurd h.symm e}}}
theorem ztn (m:List Bool)(L:List Nat)(x:Nat):(zbm m L).getD x false=true↔m.getD x false=true\/x∈L/\x<m.length:=by unfold zbm;induction L generalizing m with| nil=>simp| cons y l ih =>{rw[List.foldl_cons,ih,zsy,List.length_set,uQ];constructor;{rintro((h|h)|h);{exact .inl h};{exact .inr ⟨.inl h.1,h.2⟩};{exact .inr ⟨.inr h.1,h.2⟩}};{rintro(h|⟨h|h,h2⟩);{exact .inl (.inl h)};{exact .inl (.inr ⟨h,h2⟩)};{exact .inr ⟨h,h2⟩}}}
theorem zdp (V:List PL)(m:List Bool)(k x:Nat):(zci V m k).getD x false=true↔m.getD x false=true\/m.getD k false=true/\(x∈(za2 V k).1\/x∈(za2 V k).2)/\x<m.length:=by unfold zci za2;split;{rename_i h;rw[ztn,ztn,zb1];constructor;{rintro((h1|h1)|h1);{exact .inl h1};{exact .inr ⟨h,.inl h1.1,h1.2⟩};{exact .inr ⟨h,.inr h1.1,h1.2⟩}};{rintro(h1|⟨_,h1|h1,h2⟩);{exact .inl (.inl h1)};{exact .inl (.inr ⟨h1,h2⟩)};{exact .inr ⟨h1,h2⟩}}};{rename_i h;constructor;{exact .inl};{rintro(h1|h1);{exact h1};{exact absurd h1.1 h}}}
theorem zp3 {V:List PL}{BV:List Nat}(h:PoolOK V BV){r:Nat}(hr:r<V.length)(n:Nat):∀(m:List Bool),n<=r+1->m.length=r+1->(∀x,m.getD x false=true->ReachV V [r] x)->m.getD r false=true ->
  (∀x,n<=x->m.getD x false=true->∀y,y∈(za2 V x).1\/y∈(za2 V x).2->m.getD y false=true)->∀x,(zc4 V n m).getD x false=true↔ReachV V [r] x:=by
 induction n with
 | zero =>
  intro m _ _ h1 h2 h3 x;refine⟨h1 x,λhx=>?_⟩;induction hx with
  | root hx=>rw[x4]at hx;subst hx;exact h2
  | left _ hy ih=>exact h3 _ (yK _) ih _ (.inl hy)
  | right _ hy ih=>exact h3 _ (yK _) ih _ (.inr hy)
 | succ n ih =>
  intro m hn hl h1 h2 h3 x;unfold zc4;have hlow:∀(k y:Nat),k<V.length->(y∈(za2 V k).1\/y∈(za2 V k).2)->y<k:=λk y hk hy=>by
   obtain⟨o1,o2⟩:=h.opts k _ (za7 hk);rcases hy with hy|hy
   ·exact o1 y hy
   ·exact o2 y hy
  refine ih _ (by omega) (by rw[zfh];exact hl) (λy hy=>?_) ((zdp V m n r).2 (.inl h2)) (λk hk hm y hy=>?_) x
  ·rcases (zdp V m n y).1 hy with hy|⟨hn1,hy,_⟩
   ·exact h1 y hy
   ·rcases hy with hy|hy
    ·exact .left (h1 n hn1) hy
    ·exact .right (h1 n hn1) hy
  ·have hmk:m.getD k false=true:=by
    rcases (zdp V m n k).1 hm with hm|⟨_,hm,_⟩
    ·exact hm
    ·have:=hlow n k (by omega) hm;omega
   have hkl:k<r+1:=by
    rcases Nat.lt_or_ge k (r+1)with q|q
    ·exact q
    ·rw[xY,List.getElem?_eq_none (by omega)]at hmk;cases hmk
   rw[zdp];by_cases e:k=n
   ·subst e
    exact .inr ⟨hmk,hy,by have:=hlow k y (by omega) hy;omega⟩
   ·exact .inl (h3 k (by omega) hmk y hy)
theorem zkx {V:List PL}{BV:List Nat}(h:PoolOK V BV){r:Nat}(hr:r<V.length)(x:Nat):(zak V r).getD x false=true↔ReachV V [r] x:=by have h0:∀y,((List.replicate (r+1) false).set r true).getD y false=true↔y=r:=λy=>by{rw[zsy];constructor;{rintro(q|q);{rw[xY,List.getElem?_replicate]at q;split at q <;> cases q};{exact q.1}};{rintro rfl;exact .inr ⟨rfl,by simp⟩}};refine zp3 h hr (r+1) _ (xW _) (by simp) (λy hy=>?_) ((h0 r).2 rfl) (λk hk hm=>?_) x;{rw[(h0 y).1 hy];exact .root (by simp)};{have:=(h0 k).1 hm;omega}
def grp (BV:List Nat)(need:List Bool)(n b:Nat):List Nat:=(List.range n).filter λk=>decide (need.getD k false=true/\BV.getD k 0=b)
theorem ybp (BV:List Nat)(need:List Bool)(n b:Nat):grp BV need (n+1) b=if need.getD n false=true/\BV.getD n 0=b then grp BV need n b ++ [n]else grp BV need n b:=by unfold grp;rw[List.range_succ,List.filter_append];split <;> simp_all
theorem ze3 {BV:List Nat}{need:List Bool}{n b x:Nat}:x∈grp BV need n b↔x<n/\need.getD x false=true/\BV.getD x 0=b:=by unfold grp;rw[List.mem_filter,kY,kW]
theorem zpk (BV:List Nat)(need:List Bool)(n b:Nat):(grp BV need n b).Nodup:=List.nodup_range.filter _
theorem ydq (key:Nat->PL)(K:List Nat)(k:Nat):insF (K.map key,K) (key k) k=((K.takeWhile (λb=>zai (key b) (key k))++k::K.dropWhile (λb=>zai (key b) (key k))).map key,K.takeWhile (λb=>zai (key b) (key k))++k::K.dropWhile (λb=>zai (key b) (key k))):=by have hp:posA (K.map key) (key k)=(K.takeWhile (λb=>zai (key b) (key k))).length:=by{unfold posA;rw[List.takeWhile_map,uV];rfl};have ht:K.take (posA (K.map key) (key k))=K.takeWhile (λb=>zai (key b) (key k)):=by{rw[hp];exact(List.prefix_iff_eq_take.1 (List.takeWhile_prefix _)).symm};have hd:K.drop (posA (K.map key) (key k))=K.dropWhile (λb=>zai (key b) (key k)):=by{rw[hp];exact(congrArg (List.drop _) (List.takeWhile_append_dropWhile (p:=λb=>zai (key b) (key k)) (l:=K)).symm).trans List.drop_left};unfold insF;simp only[<-List.map_take,<-List.map_drop,ht,hd,vK,List.map_cons]
theorem zvh (key:Nat->PL)(K:List Nat)(k:Nat)(h:K.Pairwise λa b=>zai (key b) (key a)=false) : (K.takeWhile (λb=>zai (key b) (key k))++k::K.dropWhile (λb=>zai (key b) (key k))).Pairwise λa b=>zai (key b) (key a)=false:=by have hs:=h;rw[<-List.takeWhile_append_dropWhile (p:=λb=>zai (key b) (key k)) (l:=K),List.pairwise_append]at hs;obtain⟨s1,s2,s3⟩:=hs;have hd:∀b∈K.dropWhile (λb=>zai (key b) (key k)),zai (key b) (key k)=false:=by{intro b hb;cases hl:K.dropWhile (λb=>zai (key b) (key k))with| nil=>rw[hl]at hb;cases hb| cons b0 l =>{have h0:=List.head_dropWhile_not (λb=>zai (key b) (key k)) (l:=K) (by rw[hl];simp);simp only[hl,List.head_cons]at h0;rw[hl]at hb s2;rcases uQ.1 hb with rfl|hb;{simpa using h0};{have h1:=(List.pairwise_cons.1 s2).1 b hb;cases hc:zai (key b) (key k)with| false=>rfl| true =>{exfalso;(have h0:zai (key b0) (key k)=false:=by simpa using h0);cases hk:zai (key k) (key b0)with| true=>rw[zep hc hk]at h1;cases h1| false =>{have e:=zim h0 hk;rw[e]at h1;rw[hc]at h1;cases h1}}}}};refine List.pairwise_append.2 ⟨s1,List.pairwise_cons.2 ⟨hd,s2⟩,λa ha b hb=>?_⟩;have h1:zai (key a) (key k)=true:=by{exact List.all_eq_true.1 (List.all_takeWhile (p:=λb=>zai (key b) (key k)) (l:=K)) a ha};rcases uQ.1 hb with rfl|hb;{exact zeq h1};{exact s3 a ha b hb}
theorem yav (V:List PL)(BV:List Nat)(need:List Bool)(A:List Nat)(b n:Nat):∃K:List Nat,zdr V BV need A b n=(K.map (λk=>keyF A (za2 V k)),K)/\K.Perm (grp BV need n b)/\K.Pairwise λx y=>zai (keyF A (za2 V y)) (keyF A (za2 V x))=false:=by induction n with| zero=>exact⟨[],rfl,by simp[grp],by simp⟩| succ n ih =>{obtain⟨K,h1,h2,h3⟩:=ih;rw[zf0,h1,ybp];unfold zfa;split;{refine⟨_,ydq (λk=>keyF A (za2 V k)) K n,?_,zvh (λk=>keyF A (za2 V k)) K n h3⟩;refine List.perm_middle.trans ?_;rw[List.takeWhile_append_dropWhile];exact(List.Perm.cons n h2).trans (List.perm_append_singleton n _).symm};{exact⟨K,rfl,h2,h3⟩}}
theorem ydh (K:List Nat):∀(LL:List PL) (s:List Nat × List PL),LL.length=K.length->K.Nodup->(∀x∈K,x<s.1.length) -> ((LL.zip K).foldl layF s).2=s.2++LL/\(∀x,x ∉ K->((LL.zip K).foldl layF s).1.getD x 0=s.1.getD x 0)/\∀x∈K,((LL.zip K).foldl layF s).1.getD x 0=s.2.length+K.idxOf x:=by induction K with| nil =>{intro LL s hl _ _;cases LL with| nil=>exact⟨by simp,λ_ _=>rfl,by simp⟩| cons y l=>simp at hl}| cons k K ih =>{intro LL s hl hn hlt;cases LL with| nil=>simp at hl| cons y l =>{rw[List.nodup_cons]at hn;rw[List.zip_cons_cons,List.foldl_cons];obtain⟨i1,i2,i3⟩:=ih l (layF s (y,k)) (by simpa using hl) hn.2 (λx hx=>by{unfold layF;rw[List.length_set];exact hlt x (uY _ hx)});have hk:=hlt k uZ;have hg:∀x,(layF s (y,k)).1.getD x 0=if x=k then s.2.length else s.1.getD x 0:=λx=>by{unfold layF;rw[xY,List.getElem?_set];by_cases e:k=x;{subst e;simp[hk]};{rw[if_neg e,if_neg (λq=>e q.symm),xY]}};refine⟨by rw[i1];unfold layF;simp,λx hx=>?_,λx hx=>?_⟩;{rw[uQ,not_or]at hx;rw[i2 x hx.2,hg,if_neg hx.1]};{by_cases e:x=k;{subst e;rw[i2 x hn.1,hg,if_pos rfl];simp};{have hxK:=(uQ.1 hx).resolve_left e;rw[i3 x hxK,List.idxOf_cons,show(k == x)=false from by simpa using λq:k=x=>e q.symm];unfold layF;simp only[yX,List.length_cons,List.length_nil,Bool.cond_false];omega}}}}
def grps (BV:List Nat)(need:List Bool)(r n:Nat):List Nat:=(List.range n).flatMap λb=>grp BV need (r+1) b
theorem zhs (BV:List Nat)(need:List Bool)(r n:Nat):grps BV need r (n+1)=grps BV need r n++grp BV need (r+1) n:=by simp[grps,List.range_succ]
theorem zkc {BV:List Nat}{need:List Bool}{r n x:Nat}:x∈grps BV need r n↔x<r+1/\need.getD x false=true/\BV.getD x 0<n:=by unfold grps;rw[List.mem_flatMap];constructor;{rintro⟨b,hb,hx⟩;obtain⟨h1,h2,h3⟩:=ze3.1 hx;exact⟨h1,h2,by rw[h3];exact kY.1 hb⟩};{rintro⟨h1,h2,h3⟩;exact⟨_,kY.2 h3,ze3.2 ⟨h1,h2,rfl⟩⟩}
theorem zs8 (BV:List Nat)(need:List Bool)(r n:Nat):(grps BV need r n).Nodup/\(grps BV need r n).Pairwise λa b=>BV.getD a 0<=BV.getD b 0:=by induction n with| zero=>simp[grps]| succ n ih =>{rw[zhs];constructor;{rw[List.nodup_append];refine⟨ih.1,zpk _ _ _ _,λa ha b hb e=>?_⟩;subst e;have:=(zkc.1 ha).2.2;have:=(ze3.1 hb).2.2;omega};{refine List.pairwise_append.2 ⟨ih.2,List.pairwise_of_forall_mem_list λa ha b hb=>?_,λa ha b hb=>?_⟩;{rw[(ze3.1 ha).2.2,(ze3.1 hb).2.2];exact xW _};{have:=(zkc.1 ha).2.2;have:=(ze3.1 hb).2.2;omega}}}
theorem zs9 (BV:List Nat) (need:List Bool) (r:Nat) {n N:Nat} (h:n<=N):grps BV need r n <+: grps BV need r N:=by
  induction N with
  | zero => have : n = 0 := by omega
            subst this;exact List.prefix_refl _
  | succ N ih =>
    rcases Nat.lt_or_ge N n with q | q
    · have : n = N + 1 := by omega
      subst this;exact List.prefix_refl _
    · rw [zhs];exact (ih q).trans (List.prefix_append _ _)
theorem zma {V:List PL}{BV:List Nat}(h:PoolOK V BV){r:Nat}(hr:r<V.length):∃Q,OrderIs V BV [r] Q (zdg V BV r):=by
 obtain⟨need,hneed⟩:=eX (zak V r);have hN:∀x,need.getD x false=true↔ReachV V [r] x:=λx=>by rw[hneed];exact zkx h hr x
 have hle:∀x,ReachV V [r] x->x<r+1/\BV.getD x 0<=BV.getD r 0/\x<V.length:=by
  intro x hx;induction hx with
  | root hx=>rw[x4]at hx;subst hx;exact⟨kZ _,xW _,hr⟩
  | @left x y _ hy ih =>
   have h1:=(h.lower ih.2.2).1 y hy;have h2:=(h.opts x _ (za7 ih.2.2)).1 y hy;omega
  | @right x y _ hy ih =>
   have h1:=(h.lower ih.2.2).2 y hy;have h2:=(h.opts x _ (za7 ih.2.2)).2 y hy;omega
 obtain⟨N,hNN⟩:=eX (BV.getD r 0+1);obtain⟨Q,hQ⟩:=eX (grps BV need r N);have hQn:=zs8 BV need r N;rw[<-hQ]at hQn;have hQm:∀x,x∈Q↔ReachV V [r] x:=λx=>by
  rw[hQ,zkc,hN];exact⟨λq=>q.2.1,λq=>⟨(hle x q).1,q,by have:=(hle x q).2.1;omega⟩⟩
 have q:QOk V BV Q:=h.qok (R:=[r]) (by simpa using hr) hQn.1 hQm hQn.2;have key:∀n,n<=N->∃A,GInv V BV Q A (grps BV need r n).length/\(zau V BV need r n).2=A.map (λx=>zbi A (za2 V x))/\∀x∈A,(zau V BV need r n).1.getD x 0=A.idxOf x:=by
  intro n;induction n with
  | zero=>intro _;exact⟨[],GInv.start V BV Q,rfl,by simp⟩
  | succ n ih =>
   intro hn;obtain⟨A,hA,hF,hX⟩:=ih (by omega);have hpre:=zs9 BV need r (n:=n+1) (N:=N) hn;rw[<-hQ,zhs]at hpre;obtain⟨t,ht⟩:=hpre;have hdrop:Q.drop (grps BV need r n).length=grp BV need (r+1) n++t:=by rw[<-ht,List.append_assoc,List.drop_left]
   obtain⟨K,hK,hKp,hKs⟩:=yav V BV need (zau V BV need r n).1 n (r+1);have hlen:=(zcq V BV need r n).1;have hKlt:∀x∈K,x<(zau V BV need r n).1.length:=λx hx=>by
    rw[hlen];exact(ze3.1 ((hKp.mem_iff).1 hx)).1
   have hKn:K.Nodup:=(hKp.nodup_iff).2 (zpk _ _ _ _);obtain⟨l1,l2,l3⟩:=ydh K (K.map λk=>keyF (zau V BV need r n).1 (za2 V k)) (zau V BV need r n) (by simp) hKn hKlt;have hstep:zau V BV need r (n+1)=((K.map λk=>keyF (zau V BV need r n).1 (za2 V k)).zip K).foldl layF (zau V BV need r n):=by
    rw[zh7];unfold zzr;rw[hK]
   have hfl:(zau V BV need r n).2.length=A.length:=by rw[hF];simp
   rw[zhs,hstep];by_cases hm:grp BV need (r+1) n=[]
   ·have hK0:K=[]:=by rw[hm]at hKp;exact hKp.eq_nil
    subst hK0;rw[hm,List.append_nil];exact⟨A,hA,hF,hX⟩
   ·have hlt:(grps BV need r n).length<Q.length:=by
     rw[<-ht];have:0<(grp BV need (r+1) n).length:=List.length_pos_iff.2 hm;simp only[yX];omega
    have hQn0:BV.getD (Q.getD (grps BV need r n).length 0) 0=n:=by
     have e:Q.getD (grps BV need r n).length 0∈grp BV need (r+1) n:=by
      have e2:Q[(grps BV need r n).length]?=(grp BV need (r+1) n)[0]?:=by
       rw[<-ht,List.append_assoc,kV (xW _),Nat.sub_self,yV (List.length_pos_iff.2 hm)]
      rw[xY,e2,xQ (List.length_pos_iff.2 hm)];exact vZ _
     exact(ze3.1 e).2.2
    have hgr:∀x∈grp BV need (r+1) n,x∈Q/\BV.getD x 0=BV.getD (Q.getD (grps BV need r n).length 0) 0:=λx hx=>by
     obtain⟨g1,g2,g3⟩:=ze3.1 hx;exact⟨(hQm x).2 ((hN x).1 g2),by rw[hQn0,g3]⟩
    have hkey:∀x∈grp BV need (r+1) n,keyF (zau V BV need r n).1 (za2 V x)=zbi A (za2 V x):=λx hx=>by
     obtain⟨g1,g2⟩:=q.group hA hlt (hgr x hx).1 (hgr x hx).2;have e:∀l:List Nat,(∀y∈l,y∈A)->zaa (za3 (zau V BV need r n).1 l)=zey A l:=λl hl=>by
      unfold zey za3;rw[uX λy hy=>hX y (hl y hy)]
     unfold keyF zbi;rw[e _ g1,e _ g2]
    have hstp:=GInv.step q hA (m:=(grp BV need (r+1) n).length) (G:=grp BV need (r+1) n) (G':=K) (List.length_pos_iff.2 hm) (by rw[<-ht];simp only[yX];omega)
     (by rw[hdrop,List.take_left]) (λx hx=>(hgr x hx).2) (by
      rcases Nat.lt_or_ge ((grps BV need r n).length+(grp BV need (r+1) n).length) Q.length with q1|q1
      ·refine .inr ?_
       rw[hQn0];intro e;have hin:Q.getD ((grps BV need r n).length+(grp BV need (r+1) n).length) 0∈t:=by
        have e2:Q[(grps BV need r n).length+(grp BV need (r+1) n).length]?=t[0]?:=by
         rw[<-ht,kV (by simp),yX,Nat.sub_self]
        rw[xY,e2];have hl:(grps BV need r n++grp BV need (r+1) n++t).length=Q.length:=by rw[ht]
        simp only[yX]at hl;rw[xQ (by omega)];exact vZ _
       have hnd:=hQn.1;rw[<-ht,List.nodup_append]at hnd;have hxQ:Q.getD ((grps BV need r n).length+(grp BV need (r+1) n).length) 0∈Q:=by rw[<-ht];exact List.mem_append_right _ (by rw[ht];exact hin)
       have hre:=(hQm _).1 hxQ;refine hnd.2.2 _ (List.mem_append_right _ (ze3.2 ⟨(hle _ hre).1,(hN _).2 hre,e⟩)) _ hin rfl
      ·exact .inl (by
        have hl:(grps BV need r n++grp BV need (r+1) n++t).length=Q.length:=by rw[ht]
        simp only[yX]at hl;omega)) hKp (hKs.imp_of_mem λ{a b} ha hb hk=>by
      rw[hkey a ((hKp.mem_iff).1 ha),hkey b ((hKp.mem_iff).1 hb)]at hk;exact hk)
    have hAd:∀x∈A,x ∉ K:=λx hx hxK=>by
     have h1:=(hA.mem x).1 hx;have h2:=(hKp.mem_iff).1 hxK;rw[<-ht,List.append_assoc,List.take_left]at h1;have:=(zkc.1 h1).2.2;have:=(ze3.1 h2).2.2;omega
    refine⟨A++K,by rw[yX];exact hstp,?_,λx hx=>?_⟩
    ·rw[l1,hF,vK]
     congr 1
     ·refine uX λx hx=>?_
      exact(zcf (q.closed hA hx).1 (q.closed hA hx).2).symm
     ·refine uX λx hx=>?_
      have hxg:=(hKp.mem_iff).1 hx;obtain⟨g1,g2⟩:=q.group hA hlt (hgr x hxg).1 (hgr x hxg).2;rw[hkey x hxg,zcf g1 g2]
    ·rw[List.idxOf_append]
     by_cases hxA:x∈A
     ·rw[if_pos hxA,l2 x (hAd x hxA),hX x hxA]
     ·have hxK:=(y4.1 hx).resolve_left hxA
      rw[if_neg hxA,l3 x hxK,hfl];omega
 obtain⟨A,hA,hF,_⟩:=key N (xW _);rw[<-hQ]at hA;refine⟨A,?_⟩;have e:zdg V BV r=A.map λx=>zbi A (za2 V x):=by
  unfold zdg;rw[<-hneed,<-hNN,hF]
 rw[e];exact hA.order hQn.1 hQm
theorem zdb {α:Type}{P:List α->Prop}(h0:P [])(h1:∀l a,P l->P (l ++ [a])):∀l,P l:=λl=>by have h:∀m:List α,P m.reverse:=λm=>by{induction m with| nil=>exact h0| cons a m ih=>rw[List.reverse_cons];exact h1 _ _ ih};have:=h l.reverse;rwa [List.reverse_reverse]at this
def za0 (V:List PL):List Nat:=V.foldl (λC y=>C ++ [mkC (za3 C y.1) (za3 C y.2)]) []
theorem zei (V:List PL)(y:PL):za0 (V ++ [y])=za0 V ++ [mkC (za3 (za0 V) y.1) (za3 (za0 V) y.2)]:=by simp[za0]
theorem za6 (V:List PL):(za0 V).length=V.length:=by induction V using zdb with| h0=>rfl| h1 l a ih=>rw[zei,yX,yX,ih];rfl
theorem zch (C t L:List Nat)(h:∀x∈L,x<C.length):za3 (C++t) L=za3 C L:=by unfold za3;refine uX λx hx=>?_;rw[xY,xY,yV (h x hx)]
theorem ze6 {C t:List Nat}{j:Nat}(h:j<C.length):(C++t).getD j 0=C.getD j 0:=by rw[xY,xY,yV h]
theorem zes {V V':List PL}(h:V <+: V'):za0 V <+: za0 V':=by obtain⟨t,rfl⟩:=h;induction t using zdb with| h0=>rw[List.append_nil];exact List.prefix_refl _| h1 l a ih=>rw[<-List.append_assoc,zei];exact ih.trans (List.prefix_append _ _)
def OptsOK (V:List PL):Prop:=∀(j:Nat) (y:PL),V[j]?=some y->(∀i∈y.1,i<j)/\∀i∈y.2,i<j
theorem zcg (V:List PL):OptsOK V->∀(j:Nat) (x:PL),V[j]?=some x->(za0 V).getD j 0=mkC (za3 (za0 V) x.1) (za3 (za0 V) x.2):=by induction V using zdb with| h0=>{intro _ j x h;simp at h}| h1 l a ih =>{intro ho j x hx;have hol:OptsOK l:=λj y hy=>ho j y (by rw[yV (xV.1 hy).1];exact hy);have hl:=za6 l;obtain⟨o1,o2⟩:=ho j x hx;rw[zei];rcases zgi hx with ⟨hj,hx⟩|⟨rfl,rfl⟩;{rw[ze6 (by omega),zch _ _ _ (λi hi=>by have:=o1 i hi;omega),zch _ _ _ (λi hi=>by have:=o2 i hi;omega)];exact ih hol j x hx};{rw[zch _ _ _ (λi hi=>by have:=o1 i hi;omega),zch _ _ _ (λi hi=>by have:=o2 i hi;omega)];rw[xY,<-hl];simp}}
theorem zmk (BL:List Nat)(m:Nat)(L:List Nat):m<=zac BL m L/\(∀x∈L,BL.getD x 0+1<=zac BL m L)/\(zac BL m L=m\/∃x∈L,zac BL m L=BL.getD x 0+1):=zmb (λi=>BL.getD i 0+1) L m
theorem PoolOK.book {V:List PL}{BV:List Nat}(h:PoolOK V BV):BookC V (za0 V):=by have hc:=zcg V h.opts;have hl:=za6 V;refine⟨hl,h.opts,h.up,hc,?_⟩;have key:∀n i j,i+j<n->i<V.length->j<V.length->(za0 V).getD i 0=(za0 V).getD j 0->i=j:=by{intro n;induction n with| zero=>{intro i j h;omega}| succ n ih =>{intro i j hn hi hj e;have ei:=xQ hi;have ej:=xQ hj;obtain⟨p1,p2⟩:=h.opts i _ ei;obtain⟨q1,q2⟩:=h.opts j _ ej;obtain⟨u1,u2⟩:=h.up i _ ei;obtain⟨v1,v2⟩:=h.up j _ ej;rw[hc i _ ei,hc j _ ej]at e;have side:∀(a b:Nat) (l m:List Nat),a+b<n+1->a<V.length->b<V.length->(∀x∈l,x<a)->(∀x∈m,x<b)->(∀z,z∈za3 (za0 V) l->z∈za3 (za0 V) m)->∀x∈l,x∈m:=by{intro a b l m hab ha hb hl' hm' hs x hx;obtain⟨y,hy,ey⟩:=za9.1 (hs _ (za9.2 ⟨x,hx,rfl⟩));have h1:=hl' x hx;have h2:=hm' y hy;rw[ih x y (by omega) (by omega) (by omega) ey.symm];exact hy};(have s1:∀z,z∈za3 (za0 V) V[i].1↔z∈za3 (za0 V) V[j].1:=λz=>by rw[<-zag _ (za3 (za0 V) V[i].2),e,zag]);(have s2:∀z,z∈za3 (za0 V) V[i].2↔z∈za3 (za0 V) V[j].2:=λz=>by rw[<-zaf (za3 (za0 V) V[i].1),e,zaf]);have e1:V[i].1=V[j].1:=zgs u1 v1 λx=>⟨side i j _ _ hn hi hj p1 q1 (λz=>(s1 z).1) x,side j i _ _ (by omega) hj hi q1 p1 (λz=>(s1 z).2) x⟩;have e2:V[i].2=V[j].2:=zgs u2 v2 λx=>⟨side i j _ _ hn hi hj p2 q2 (λz=>(s2 z).1) x,side j i _ _ (by omega) hj hi q2 p2 (λz=>(s2 z).2) x⟩;exact(List.getElem_inj h.nodup).1 (Prod.ext e1 e2)}};refine List.nodup_iff_pairwise_ne.2 (List.pairwise_iff_getElem.2 λi j hi hj hij e=>?_);have:=key (i+j+1) i j (by omega) (by omega) (by omega) (by rw[xY,xY,xQ hi,xQ hj,e]);omega
theorem PoolOK.births {V:List PL}{BV:List Nat}(h:PoolOK V BV):∀j,j<V.length->BV.getD j 0=bornC ((za0 V).getD j 0):=by intro j;induction j using Nat.strongRecOn with| _ j ih =>{intro hj;have ej:=xQ hj;obtain⟨o1,o2⟩:=h.opts j _ ej;rw[h.born j _ ej,zcg V h.opts j _ ej];obtain⟨a1,a2,a3⟩:=zmk BV 0 V[j].1;obtain⟨b1,b2,b3⟩:=zmk BV (zac BV 0 V[j].1) V[j].2;have hopt:∀i,optC (mkC (za3 (za0 V) V[j].1) (za3 (za0 V) V[j].2)) i↔(∃x∈V[j].1,(za0 V).getD x 0=i)\/∃x∈V[j].2,(za0 V).getD x 0=i:=λi=>by{unfold optC;rw[zag,zaf,za9,za9]};refine(ycc (λi hi=>?_) ?_).symm;{rcases (hopt i).1 hi with ⟨x,hx,rfl⟩|⟨x,hx,rfl⟩;{rw[<-ih x (o1 x hx) (by have:=o1 x hx;omega)];have:=a2 x hx;omega};{rw[<-ih x (o2 x hx) (by have:=o2 x hx;omega)];have:=b2 x hx;omega}};{rcases b3 with b3|⟨x,hx,b3⟩;{rcases a3 with a3|⟨x,hx,a3⟩;{exact .inl (by omega)};{refine .inr ⟨_,(hopt _).2 (.inl ⟨x,hx,rfl⟩),?_⟩;rw[<-ih x (o1 x hx) (by have:=o1 x hx;omega)];omega}};{refine .inr ⟨_,(hopt _).2 (.inr ⟨x,hx,rfl⟩),?_⟩;rw[<-ih x (o2 x hx) (by have:=o2 x hx;omega)];omega}}}
theorem PoolOK.form {V:List PL}{BV:List Nat}(h:PoolOK V BV){r:Nat}(hr:r<V.length):FormC ((za0 V).getD r 0) (zdg V BV r):=by obtain⟨Q,O⟩:=zma h hr;exact⟨_,zn5 h.book h.births hr O⟩
theorem zdh (BL:List Nat)(m K:Nat)(L:List Nat):zac BL m L<=K↔m<=K/\∀x∈L,BL.getD x 0+1<=K:=by obtain⟨a1,a2,a3⟩:=zmk BL m L;constructor;{exact λh=>⟨by omega,λx hx=>by have:=a2 x hx;omega⟩};{rintro⟨h1,h2⟩;rcases a3 with a3|⟨x,hx,a3⟩;{omega};{have:=h2 x hx;omega}}
theorem zzq (BL:List Nat){L L' R R':List Nat}(h1:∀x,x∈L↔x∈L')(h2:∀x,x∈R↔x∈R'):zac BL (zac BL 0 L) R=zac BL (zac BL 0 L') R':=by have key:∀ {A A' B B':List Nat},(∀x,x∈A↔x∈A')->(∀x,x∈B↔x∈B')->zac BL (zac BL 0 A) B<=zac BL (zac BL 0 A') B':=by{intro A A' B B' e1 e2;obtain⟨i1,i2⟩:=(zdh BL (zac BL 0 A') _ B').1 (xW _);obtain⟨j1,j2⟩:=(zdh BL 0 _ A').1 i1;exact(zdh _ _ _ _).2 ⟨(zdh _ _ _ _).2 ⟨j1,λx hx=>j2 x ((e1 x).1 hx)⟩,λx hx=>i2 x ((e2 x).1 hx)⟩};exact Nat.le_antisymm (key h1 h2) (key (λx=>(h1 x).symm) λx=>(h2 x).symm)
theorem zck {V:List PL}{BV:List Nat}(h:PoolOK V BV)(L R:List Nat):putB V BV L R=za4 V BV L R:=by have hb:(zfq BV L R).1=zac BV (zac BV 0 (zaa L)) (zaa R):=zzq BV (λx=>(zay L x).symm) λx=>(zay R x).symm;have h2:(zfq BV L R).2=(zaa L,zaa R):=rfl;unfold putB za4;simp only[h2];by_cases hm:(zaa L,zaa R)∈V;{rw[if_pos hm];(have hi:=List.idxOf_lt_length_of_mem hm;have ei:V[V.idxOf (zaa L,zaa R)]?=some (zaa L,zaa R):=by rw[xQ hi,List.getElem_idxOf]);have e:zrm V BV (zfq BV L R).1 (zaa L,zaa R)=V.idxOf (zaa L,zaa R):=by{refine zt4 V BV _ _ _ hi h.len (λj x y hj hx hy q=>?_) ?_ ei;{have hjl:=(xV.1 hx).1;rw[q.2]at hx;obtain⟨_,ex⟩:=xV.1 hx;have:V.idxOf V[j]=j:=List.Nodup.idxOf_getElem h.nodup j hjl;rw[ex]at this;omega};{have hbn:=h.born _ _ ei;(have hl:V.idxOf (zaa L,zaa R)<BV.length:=by rw[h.len];exact hi);rw[xY,xQ hl]at hbn;rw[xQ hl,hb,<-hbn];rfl}};rw[e,if_pos hi]};{rw[if_neg hm];have e:=zn3 V BV (zfq BV L R).1 (zaa L,zaa R) h.len (λj x y hj hx hy q=>hm (by rw[<-q.2];exact xK hx));rw[if_neg e,hb]}
theorem zp5 {V:List PL}{BV:List Nat}(h:PoolOK V BV){L R:List Nat}(hL:∀x∈L,x<V.length)(hR:∀x∈R,x<V.length) : (za0 (za4 V BV L R).1).getD (za4 V BV L R).2.2 0=mkC (za3 (za0 V) L) (za3 (za0 V) R):=by obtain⟨h1,h2⟩:=zia h hL hR;obtain⟨_,_,hp⟩:=zdx V BV L R;have hl:=za6 V;rw[zcg _ h1.opts _ _ h2];obtain⟨t,ht⟩:=zes hp;rw[<-ht];refine zym (λi=>?_) λi=>?_;{rw[zch _ _ _ (λx hx=>by rw[hl];exact hL x ((zay L x).1 hx)),za9,za9];exact⟨λ⟨x,hx,e⟩=>⟨x,(zay L x).1 hx,e⟩,λ⟨x,hx,e⟩=>⟨x,(zay L x).2 hx,e⟩⟩};{rw[zch _ _ _ (λx hx=>by rw[hl];exact hR x ((zay R x).1 hx)),za9,za9];exact⟨λ⟨x,hx,e⟩=>⟨x,(zay R x).1 hx,e⟩,λ⟨x,hx,e⟩=>⟨x,(zay R x).2 hx,e⟩⟩}
theorem zyq {b1 b2 b3:Nat}{x1 x2 x3:PL}(h:klt b1 x1 b2 x2)(h':klt b2 x2 b3 x3):klt b1 x1 b3 x3:=by rcases h with h|⟨e,h⟩;{rcases h' with h'|⟨e',_⟩;{exact .inl (by omega)};{exact .inl (by omega)}};{rcases h' with h'|⟨e',h'⟩;{exact .inl (by omega)};{exact .inr ⟨by omega,zep h h'⟩}}
theorem ydi (b:Nat)(x:PL):¬klt b x b x:=λh=>zpi h h
def zb0 (Fs:List PL):List Nat:=Fs.foldl (λB y=>B ++ [zac B (zac B 0 y.1) y.2]) []
theorem ze8 (Fs:List PL)(y:PL):zb0 (Fs ++ [y])=zb0 Fs ++ [zac (zb0 Fs) (zac (zb0 Fs) 0 y.1) y.2]:=by simp[zb0]
theorem zcr (Fs:List PL):(zb0 Fs).length=Fs.length:=by induction Fs using zdb with| h0=>rfl| h1 l a ih=>rw[ze8,yX,yX,ih];rfl
theorem OptsOK.cut {l:List PL}{a:PL}(ho:OptsOK (l ++ [a])):OptsOK l:=λj z hz=>ho j z (by rw[yV (xV.1 hz).1];exact hz)
theorem BookUp.cut {l:List PL}{a:PL}(ho:BookUp (l ++ [a])):BookUp l:=λj z hz=>ho j z (by rw[yV (xV.1 hz).1];exact hz)
theorem zmi (Fs:List PL):OptsOK Fs->∀(j:Nat) (y:PL),Fs[j]?=some y->(zb0 Fs).getD j 0=zac (zb0 Fs) (zac (zb0 Fs) 0 y.1) y.2:=by induction Fs using zdb with| h0=>{intro _ j y h;simp at h}| h1 l a ih =>{intro ho j y hy;have hl:=zcr l;obtain⟨o1,o2⟩:=ho j y hy;rw[ze8];rcases zgi hy with ⟨hj,hy⟩|⟨rfl,rfl⟩;{rw[zbq _ _ _ _ (λx hx=>by have:=o2 x hx;omega),zbq _ _ _ _ (λx hx=>by have:=o1 x hx;omega),ze6 (by omega)];exact ih ho.cut j y hy};{rw[zbq _ _ _ _ (λx hx=>by have:=o2 x hx;omega),zbq _ _ _ _ (λx hx=>by have:=o1 x hx;omega),xY,<-hl];simp}}
theorem zed {Fs:List PL}(ho:OptsOK Fs)(hu:BookUp Fs)(hn:Fs.Nodup):PoolOK Fs (zb0 Fs):=⟨zcr Fs,ho,hu,hn,zmi Fs ho⟩
theorem zmn (Fs:List PL):OptsOK Fs->BookUp Fs->Fs.Nodup->addB [] [] Fs=(Fs,zb0 Fs,List.range Fs.length):=by induction Fs using zdb with| h0=>{intro _ _ _;rfl}| h1 l y ih =>{intro ho hu hn;have hnl:l.Nodup:=(List.nodup_append.1 hn).1;have hnot:y ∉ l:=λh=>(List.nodup_append.1 hn).2.2 y h y (by simp) rfl;(have hy:(l ++ [y])[l.length]?=some y:=by simp);(obtain⟨o1,o2⟩:=ho _ y hy;obtain⟨u1,u2⟩:=hu _ y hy;have hat:∀L:List Nat,(∀x∈L,x<l.length)->za3 (List.range l.length) L=L:=λL hL=>ycd _ _ λx hx=>by rw[zi7,if_pos (hL x hx)]);have hput:za4 l (zb0 l) y.1 y.2=(l ++ [y],zb0 (l ++ [y]),l.length):=by{unfold za4;rw[zsv _ u1,zsv _ u2,if_neg hnot,ze8]};rw[ze9,ih ho.cut hu.cut hnl];unfold zin;simp only[hat _ o1,hat _ o2,zck (zed ho.cut hu.cut hnl),hput];simp[List.range_succ]}
theorem zr5 (Fs:List PL):OptsOK Fs->∀ {V:List PL}{BV:List Nat},PoolOK V BV->BookOK V BV->PoolOK (addB V BV Fs).1 (addB V BV Fs).2.1:=by induction Fs using zdb with| h0=>{intro _ V BV h _;exact h}| h1 l y ih =>{(intro ho V BV h hb;obtain⟨k1,k2,k3,k4,k5⟩:=zg5 hb l ho.cut;have hp:=ih ho.cut h hb;have hy:(l ++ [y])[l.length]?=some y:=by simp);obtain⟨o1,o2⟩:=ho _ y hy;rw[ze9];show PoolOK (putB _ _ _ _).1 (putB _ _ _ _).2.1;rw[zck hp];exact(zia hp (zen k3 (λx hx=>by rw[k2];exact o1 x hx)) (zen k3 (λx hx=>by rw[k2];exact o2 x hx))).1}
theorem zxv {V:List PL}{C:List Nat}(B:BookC V C){r:Nat}(hr:r<V.length){x:Nat}(h:ReachV V [r] x):SubC (C.getD r 0) (C.getD x 0):=by induction h with| root h=>simp at h;subst h;exact .root| left h hz ih=>exact .step ih (.inl (B.left (zf8 B (by simpa using hr) h) hz).2)| right h hz ih=>exact .step ih (.inr (B.right (zf8 B (by simpa using hr) h) hz).2)
theorem zkr {V:List PL}{C:List Nat}(B:BookC V C){r:Nat}(hr:r<V.length){c:Nat}(h:SubC (C.getD r 0) c):∃x,ReachV V [r] x/\x<V.length/\C.getD x 0=c:=by induction h with| root=>exact⟨r,.root (by simp),hr,rfl⟩| step _ ho ih =>{obtain⟨y,hy,hyl,rfl⟩:=ih;rw[B.code y _ (B.getD hyl)]at ho;rcases ho with ho|ho;{rw[zag]at ho;obtain⟨z,hz,rfl⟩:=za9.1 ho;have hr':=ReachV.left hy hz;exact⟨z,hr',zf8 B (by simpa using hr) hr',rfl⟩};{rw[zaf]at ho;obtain⟨z,hz,rfl⟩:=za9.1 ho;have hr':=ReachV.right hy hz;exact⟨z,hr',zf8 B (by simpa using hr) hr',rfl⟩}}
def zgv (Fs:List PL):Prop:=∀(j:Nat) (x y:PL),Fs[j]?=some x->Fs[j+1]?=some y->klt ((zb0 Fs).getD j 0) x ((zb0 Fs).getD (j+1) 0) y
def zd8 (Fs:List PL):Prop:=∀x,x<Fs.length->(zak Fs (Fs.length-1)).getD x false=true
theorem yba {Fs:List PL}(h:zgv Fs):∀(d i:Nat) (x y:PL),Fs[i]?=some x->Fs[i+d+1]?=some y->klt ((zb0 Fs).getD i 0) x ((zb0 Fs).getD (i+d+1) 0) y:=by intro d;induction d with| zero=>{intro i x y hx hy;exact h i x y hx hy}| succ d ih =>{intro i x y hx hy;have hl:=(xV.1 hy).1;have hm:=xQ (l:=Fs) (i:=i+d+1) (by omega);exact zyq (ih i x _ hx hm) (h (i+d+1) _ y hm hy)}
theorem zyh {Fs:List PL}(h:zgv Fs){i j:Nat}{x y:PL}(hij:i<j)(hx:Fs[i]?=some x)(hy:Fs[j]?=some y):klt ((zb0 Fs).getD i 0) x ((zb0 Fs).getD j 0) y:=by obtain⟨d,rfl⟩:∃d,j=i+d+1:=⟨j-i-1,by omega⟩;exact yba h d i x y hx hy
theorem zdy {Fs:List PL}(ho:OptsOK Fs)(h:zgv Fs):Fs.Nodup:=by refine List.nodup_iff_pairwise_ne.2 (List.pairwise_iff_getElem.2 λi j hi hj hij e=>?_);have e1:=xQ hi;have e2:=xQ hj;have hk:=zyh h hij e1 e2;rw[zmi Fs ho i _ e1,zmi Fs ho j _ e2,e]at hk;exact ydi _ _ hk
def zb7 (Fs:List PL):Nat:=(za0 Fs).getD (Fs.length-1) 0
theorem zd1 {Fs:List PL}{c:Nat}(h:FormC c Fs):0<Fs.length/\OptsOK Fs/\BookUp Fs/\zgv Fs/\zd8 Fs/\zb7 Fs=c:=by obtain⟨P,hA⟩:=h;have ho:OptsOK Fs:=hA.book.opts;have hu:BookUp Fs:=hA.book.up;have hPl:=hA.book.len;have hPC:∀j,j<Fs.length->P.getD j 0=(za0 Fs).getD j 0:=by{intro j;induction j using Nat.strongRecOn with| _ j ih =>{intro hj;have ej:=xQ hj;obtain⟨o1,o2⟩:=ho j _ ej;have e1:∀L:List Nat,(∀x∈L,x<j)->za3 P L=za3 (za0 Fs) L:=λL hL=>uX λx hx=>ih x (hL x hx) (by have:=hL x hx;omega);rw[hA.book.code j _ ej,zcg Fs ho j _ ej,e1 _ o1,e1 _ o2]}};have hn:Fs.Nodup:=by{refine List.nodup_iff_pairwise_ne.2 (List.pairwise_iff_getElem.2 λi j hi hj hij e=>?_);have c1:=hA.book.code i _ (xQ hi);have c2:=hA.book.code j _ (xQ hj);rw[e]at c1;have:=zc8 hA.book.nodup (by omega) (by omega) (c1.trans c2.symm);omega};(have hP:=zed ho hu hn;obtain⟨k,hk,ek⟩:=zhg ((hA.sub c).2 .root);have hkl:k<Fs.length:=by omega);have hreach:∀i,i<Fs.length->ReachV Fs [k] i:=λi hi=>by{have hs:=(hA.sub _).1 (zc1 (C:=P) (i:=i) (by omega));rw[<-ek]at hs;obtain⟨x,hx,hxl,e⟩:=zkr hA.book hkl hs;rw[zc8 hA.book.nodup (by omega) (by omega) e]at hx;exact hx};have hle:∀x,ReachV Fs [k] x->x<=k:=λx hx=>by{induction hx with| root h=>simp at h;omega| @left x y hx hy ih=>have:=(ho x _ (za7 (by omega))).1 y hy;omega| @right x y hx hy ih=>have:=(ho x _ (za7 (by omega))).2 y hy;omega};(have hke:k=Fs.length-1:=by have:=hle _ (hreach (Fs.length-1) (by omega));omega);subst hke;refine⟨by omega,ho,hu,λj x y hx hy=>?_,λx hx=>(zkx hP hkl x).2 (hreach x hx),by unfold zb7;rw[<-hPC _ hkl,ek]⟩;have hk:=hA.up j (j+1) x y (kZ _) hx hy;have l1:=(xV.1 hx).1;have l2:=(xV.1 hy).1;rw[hPC j l1,hPC (j+1) l2,<-hP.births j l1,<-hP.births (j+1) l2]at hk;exact hk
theorem ydd {Fs:List PL}(ho:OptsOK Fs)(hp:0<Fs.length)(h:zdg (addB [] [] Fs).1 (addB [] [] Fs).2.1 (zf7 [] [] Fs)=Fs):zgv Fs/\zd8 Fs:=by have hP0:=zr5 Fs ho PoolOK.nil BookOK.nil;have hroot:zf7 [] [] Fs<(addB [] [] Fs).1.length:=by{obtain⟨k1,k2,k3,k4,k5⟩:=zg5 BookOK.nil Fs ho;unfold zf7;rw[xY,xQ (by omega)];exact k3 _ (vZ _)};have hA:=hP0.form hroot;rw[h]at hA;obtain⟨_,_,_,h4,h5,_⟩:=zd1 hA;exact⟨h4,h5⟩
theorem zz3 {Fs:List PL}(hp:0<Fs.length)(ho:OptsOK Fs)(hu:BookUp Fs)(hk:zgv Fs)(hr:zd8 Fs):FormC (zb7 Fs) Fs:=by(have hn:=zdy ho hk;have hP:=zed ho hu hn;have hlast:Fs.length-1<Fs.length:=by omega);have hcl:=za6 Fs;refine⟨za0 Fs,hP.book,λx=>⟨λhx=>?_,λhx=>?_⟩,λi j x y hij hx hy=>?_⟩;{obtain⟨i,hi,rfl⟩:=zhg hx;exact zxv hP.book hlast ((zkx hP hlast i).1 (hr i (by omega)))};{obtain⟨y,_,hy,rfl⟩:=zkr hP.book hlast hx;exact zc1 (by omega)};{have h:=zyh hk hij hx hy;rw[hP.births i (xV.1 hx).1,hP.births j (xV.1 hy).1]at h;exact h}
theorem ydr {Fs:List PL}(hp:0<Fs.length)(ho:OptsOK Fs)(hu:BookUp Fs)(hk:zgv Fs)(hr:zd8 Fs):zdg (addB [] [] Fs).1 (addB [] [] Fs).2.1 (zf7 [] [] Fs)=Fs:=by(have hn:=zdy ho hk;have hP:=zed ho hu hn;have hlast:Fs.length-1<Fs.length:=by omega);unfold zf7;rw[zmn Fs ho hu hn];show zdg Fs (zb0 Fs) ((List.range Fs.length).getD (Fs.length-1) 0)=Fs;rw[zi7,if_pos hlast];exact(hP.form hlast).one (zz3 hp ho hu hk hr)
theorem zhu (Fs:List PL):zd6 (i2 Fs)↔zap Fs=true/\OptsOK Fs/\BookUp Fs/\zgv Fs/\zd8 Fs:=by constructor;{rintro⟨h1,h2,h3⟩;(rw[zob]at h1;obtain⟨Fs',e,ho,hu⟩:=zk9 h2;obtain rfl:=zu3 e;have hp:0<Fs.length:=by unfold zap at h1;rw[kW]at h1;omega);obtain⟨k1,k2⟩:=ydd ho hp (h3 Fs rfl);exact⟨h1,ho,hu,k1,k2⟩};{rintro⟨h1,ho,hu,k1,k2⟩;(have hp:0<Fs.length:=by unfold zap at h1;rw[kW]at h1;omega);refine⟨by rw[zob];exact h1,λj y hj hy=>?_,λFs' e=>?_⟩;{obtain⟨x,hx,rfl⟩:=yct hy;obtain⟨o1,o2⟩:=ho j x hx;obtain⟨u1,u2⟩:=hu j x hx;exact⟨ycr j x.1 none u1 o1 (by simp),ycr j x.2 none u2 o2 (by simp)⟩};{obtain rfl:=zu3 e;exact ydr hp ho hu k1 k2}}
theorem zz0 {Fs:List PL}(h:zd6 (i2 Fs)):FormC (zb7 Fs) Fs:=by(obtain⟨h1,ho,hu,k1,k2⟩:=(zhu Fs).1 h;have hp:0<Fs.length:=by unfold zap at h1;rw[kW]at h1;omega);exact zz3 hp ho hu k1 k2
theorem zz5 {Fs:List PL}{c:Nat}(h:FormC c Fs)(hf:zap Fs=true):zd6 (i2 Fs)/\zb7 Fs=c:=by obtain⟨_,ho,hu,k1,k2,k3⟩:=zd1 h;exact⟨(zhu Fs).2 ⟨hf,ho,hu,k1,k2⟩,k3⟩
def geC (a b:Nat):Bool:=((zkt a).attach.all λr=>!geC b r.1) && ((zrz b).attach.all λl=>!geC l.1 a)
 termination_by a+b
 decreasing_by
  ·have:=zah (.inr (zd2.1 r.2));omega
  ·have:=zah (.inl (ze2.1 l.2));omega
theorem zer (a b:Nat):geC a b=true↔(∀r,hasR a r->geC b r=false)/\∀l,hasL b l->geC l a=false:=by rw[geC,Bool.and_eq_true,List.all_eq_true,List.all_eq_true];constructor;{rintro⟨h1,h2⟩;exact⟨λr hr=>by simpa using h1 ⟨r,zd2.2 hr⟩ (List.mem_attach _ _),λl hl=>by simpa using h2 ⟨l,ze2.2 hl⟩ (List.mem_attach _ _)⟩};{rintro⟨h1,h2⟩;exact⟨λr _=>by simpa using h1 r.1 (zd2.1 r.2),λl _=>by simpa using h2 l.1 (ze2.1 l.2)⟩}
def geV (C:List Nat)(x y:Nat):Bool:=geC (C.getD x 0) (C.getD y 0)
theorem zz2 {V:List PL}{C:List Nat}(B:BookC V C){x y:Nat}(hx:x<V.length)(hy:y<V.length) : geV C x y=true↔(∀r∈(za2 V x).2,geV C y r=false)/\∀l∈(za2 V y).1,geV C l x=false:=by unfold geV;rw[zer];have e1:=B.code x _ (za7 hx);have e2:=B.code y _ (za7 hy);constructor;{rintro⟨h1,h2⟩;exact⟨λr hr=>h1 _ (by rw[e1,zaf];exact za9.2 ⟨r,hr,rfl⟩),λl hl=>h2 _ (by rw[e2,zag];exact za9.2 ⟨l,hl,rfl⟩)⟩};{rintro⟨h1,h2⟩;refine⟨λr hr=>?_,λl hl=>?_⟩;{rw[e1,zaf]at hr;obtain⟨z,hz,rfl⟩:=za9.1 hr;exact h1 z hz};{rw[e2,zag]at hl;obtain⟨z,hz,rfl⟩:=za9.1 hl;exact h2 z hz}}
def domP (g:Nat->Nat->Bool)(L:List Nat)(k j:Nat):Bool:=decide (j≠k) && (g (L.getD k 0) (L.getD j 0) && (!g (L.getD j 0) (L.getD k 0) || decide (j<k)))
def domB (g:Nat->Nat->Bool)(L:List Nat):List Nat:=(List.range L.length).filter λk=>(List.range L.length).any (domP g L k)
def zad (L P:List Nat):List Nat:=(L.zipIdx.filter λx=>!P.contains x.2).map (·.1)
def gL (C:List Nat)(a b:Nat):Bool:=geV C b a
def gR (C:List Nat)(a b:Nat):Bool:=geV C a b
theorem ziq (L P:List Nat):(zad L P).Sublist L:=by unfold zad;have h:(L.zipIdx.filter λx=>!P.contains x.2).Sublist L.zipIdx:=List.filter_sublist;have h2:=h.map (·.1);rwa [List.zipIdx_map_fst]at h2
theorem zbp {L P:List Nat}{x:Nat}(h:x∈zad L P):x∈L:=(ziq L P).subset h
theorem zce (L P:List Nat):(zad L P).length<=L.length:=(ziq L P).length_le
theorem zh9 (L P:List Nat)(k:Nat)(hk:k<L.length):zad (L.take (k+1)) P=if k∈P then zad (L.take k) P else zad (L.take k) P ++ [L[k]]:=by(unfold zad;rw[yQ hk,List.zipIdx_append,List.filter_append,vK];have hl:(L.take k).length=k:=by simp;omega);simp only[List.zipIdx_cons,List.zipIdx_nil,hl,Nat.zero_add,List.filter_cons,List.filter_nil];by_cases h:k∈P;{simp[h]};{simp[h]}
def FormRes (V:List PL)(BV:List Nat)(r:Nat)(ok:Bool)(FN:List PL):Prop :=
 (ok=false/\FN=[]/\∃Q:List Nat,Q.Nodup/\(∀x,x∈Q↔ReachV V [r] x)/\120<Q.length)\/∃Q GN,OrderIs V BV [r] Q GN/\Q.length<=120/\ok=zap GN/\FN=if ok then GN else []
theorem zz8 {α:Type}{GN:List (List α × List α)}(h1:GN.length<=120)(h2:1<=GN.length)(h3:∀(k:Nat) (y:List α × List α),GN[k]?=some y->y.1.length<=24/\y.2.length<=24):zap GN=true :=
 vV ⟨h1,h2,λy hy=>by
  obtain⟨k,hk,rfl⟩:=uK hy;exact h3 k _ (xQ hk)⟩
theorem ybx {α:Type}{GN:List (List α × List α)}{k:Nat}{y:List α × List α}(hy:GN[k]?=some y)(h:24<y.1.length\/24<y.2.length):zap GN=false := kX λq=>by have:=q.2.2 y (xK hy);omega
def negC (a:Nat):Nat:=mkC ((zkt a).attach.map λr=>negC r.1) ((zrz a).attach.map λl=>negC l.1)
 termination_by a
 decreasing_by
  ·exact zah (.inr (zd2.1 r.2))
  ·exact zah (.inl (ze2.1 l.2))
theorem zan {V V':List PL}(h:V <+: V'){x:Nat}(hx:x<V.length):(za0 V').getD x 0=(za0 V).getD x 0:=by obtain⟨t,ht⟩:=zes h;rw[<-ht];exact ze6 (by rw[za6];exact hx)
theorem zf2 {V V':List PL}(h:V <+: V'){x:Nat}(hx:x<V.length):za2 V' x=za2 V x:=by obtain⟨t,rfl⟩:=h;unfold za2;rw[xY,xY,yV hx]
def RowC (V:List PL)(L cs:List Nat):Prop:=(∀x∈L,x<V.length)/\za3 (za0 V) L=cs
theorem RowC.nil (V:List PL):RowC V [] []:=⟨by simp,rfl⟩
theorem RowC.mono {V V':List PL}{L cs:List Nat}(h:RowC V L cs)(hp:V <+: V'):RowC V' L cs:=by refine⟨λx hx=>kQ (h.1 x hx) hp.length_le,?_⟩;rw[<-h.2];exact uX λx hx=>zan hp (h.1 x hx)
theorem RowC.snoc {V:List PL}{L cs:List Nat}{x c:Nat}(h:RowC V L cs)(hx:x<V.length)(hc:(za0 V).getD x 0=c):RowC V (L ++ [x]) (cs ++ [c]):=by refine⟨λy hy=>?_,?_⟩;{rcases y4.1 hy with hy|hy;{exact h.1 y hy};{rw[x4.1 hy];exact hx}};{rw[<-h.2,<-hc];simp[za3]}
theorem RowC.len {V:List PL}{L cs:List Nat}(h:RowC V L cs):L.length=cs.length:=by rw[<-h.2];simp[za3]
theorem zf9 {V:List PL}{BV:List Nat}(h:PoolOK V BV){L R cs ds:List Nat}(hL:RowC V L cs)(hR:RowC V R ds) : PoolOK (za4 V BV L R).1 (za4 V BV L R).2.1/\V <+: (za4 V BV L R).1/\(za4 V BV L R).2.2<(za4 V BV L R).1.length/\(za0 (za4 V BV L R).1).getD (za4 V BV L R).2.2 0=mkC cs ds:=by obtain⟨p1,_,p3⟩:=zdx V BV L R;exact⟨(zia h hL.1 hR.1).1,p3,p1,by rw[zp5 h hL.1 hR.1,hL.2,hR.2]⟩
theorem zhc {V:List PL}{BV:List Nat}(h:PoolOK V BV){U:List Nat}(hU:∀x,x<V.length->(za0 V).getD x 0∈U):V.length<=U.length:=by rw[<-za6 V];refine h.book.nodup.length_le_of_subset λc hc=>?_;obtain⟨i,hi,rfl⟩:=zhg hc;exact hU i (by rw[<-za6 V];exact hi)
theorem zga {V:List PL}{BV:List Nat}{L R U:List Nat}(hU:∀x,x<V.length->(za0 V).getD x 0∈U)(hc:(za0 (za4 V BV L R).1).getD (za4 V BV L R).2.2 0∈U) :
  ∀x,x<(za4 V BV L R).1.length->(za0 (za4 V BV L R).1).getD x 0∈U:=by
 intro x hx;obtain⟨p1,p2,p3⟩:=zdx V BV L R;by_cases h:x<V.length
 ·rw[zan p3 h];exact hU x h
 ·have e:x=(za4 V BV L R).2.2:=by
   unfold za4 at hx p1 ⊢;split
   ·rename_i hm;rw[if_pos hm]at hx;exact absurd hx h
   ·rename_i hm
    rw[if_neg hm]at hx;simp at hx ⊢;omega
  rw[e];exact hc
theorem zpx:∀(c:Nat) (V:List PL) (BV:List Nat),PoolOK V BV->∃V' BV' r,PoolOK V' BV'/\V <+: V'/\r<V'.length/\(za0 V').getD r 0=c:=by intro c;induction c using Nat.strongRecOn with| _ c ih =>{have row:∀(L:List Nat),(∀l∈L,l<c)->∀(V:List PL) (BV:List Nat),PoolOK V BV->∃V' BV' A,PoolOK V' BV'/\V <+: V'/\RowC V' A L:=by{intro L;induction L using zdb with| h0=>{intro _ V BV h;exact⟨V,BV,[],h,List.prefix_refl _,RowC.nil V⟩}| h1 l a il =>{intro hl V BV h;obtain⟨V1,B1,A,h1,p1,r1⟩:=il (λx hx=>hl x (vJ _ hx)) V BV h;obtain⟨V2,B2,r,h2,p2,hr,hc⟩:=ih a (hl a (by simp)) V1 B1 h1;exact⟨V2,B2,A ++ [r],h2,p1.trans p2,(r1.mono p2).snoc hr hc⟩}};intro V BV h;obtain⟨V1,B1,A1,h1,p1,r1⟩:=row (zrz c) (λl hl=>zah (.inl (ze2.1 hl))) V BV h;obtain⟨V2,B2,A2,h2,p2,r2⟩:=row (zkt c) (λl hl=>zah (.inr (zd2.1 hl))) V1 B1 h1;obtain⟨q1,q2,q3,q4⟩:=zf9 h2 (r1.mono p2) r2;exact⟨_,_,_,q1,(p1.trans p2).trans q2,q3,by rw[q4,ybd]⟩}
theorem zz4 (c:Nat):∃FN,FormC c FN:=by obtain⟨V,BV,r,h,_,hr,hc⟩:=zpx c [] [] PoolOK.nil;have:=h.form hr;rw[hc]at this;exact⟨_,this⟩
noncomputable def za5 (c:Nat):List PL:=Classical.choose (zz4 c)
theorem zaq (c:Nat):FormC c (za5 c):=Classical.choose_spec (zz4 c)
theorem FormC.of {c:Nat}{FN:List PL}(h:FormC c FN):FN=za5 c:=h.one (zaq c)
theorem zgm {V:List PL}{BV:List Nat}(h:PoolOK V BV){r c:Nat}(hr:r<V.length)(hc:(za0 V).getD r 0=c):zdg V BV r=za5 c:=by have:=h.form hr;rw[hc]at this;exact this.of
theorem SubC.trans {a b c:Nat}(h:SubC a b)(h':SubC b c):SubC a c:=by induction h' with| root=>exact h| step _ ho ih=>exact ih.step ho
theorem zsn {C A L:List Nat}(h:∀i∈L,i<A.length):za3 C (za3 A L)=za3 (za3 C A) L:=by unfold za3;rw[List.map_map];refine uX λi hi=>?_;have hl:=h i hi;simp[xY,vW,xQ hl]
theorem RowC.at {V:List PL}{A cs L:List Nat}(h:RowC V A cs)(hL:∀i∈L,i<A.length):RowC V (za3 A L) (za3 cs L):=by refine⟨λx hx=>?_,?_⟩;{obtain⟨i,hi,rfl⟩:=za9.1 hx;exact h.1 _ (zc1 (hL i hi))};{rw[zsn hL,h.2]}
theorem OptsOK.last {l:List PL}{a:PL}(ho:OptsOK (l ++ [a])):(∀i∈a.1,i<l.length)/\∀i∈a.2,i<l.length:=ho l.length a (by simp)
theorem zr6 (Fs:List PL):OptsOK Fs->∀ {V:List PL}{BV:List Nat},PoolOK V BV->PoolOK (addB V BV Fs).1 (addB V BV Fs).2.1/\V <+: (addB V BV Fs).1/\RowC (addB V BV Fs).1 (addB V BV Fs).2.2 (za0 Fs) ∧
  ∀x,x<(addB V BV Fs).1.length->(za0 (addB V BV Fs).1).getD x 0∈za0 V++za0 Fs:=by
 induction Fs using zdb with
 | h0 =>
  intro _ V BV h;exact⟨h,List.prefix_refl _,RowC.nil V,λx hx=>vJ _ (zc1 (by rw[za6];exact hx))⟩
 | h1 l a ih =>
  intro ho V BV h;obtain⟨i1,i2,i3,i4⟩:=ih ho.cut h;obtain⟨o1,o2⟩:=ho.last;have hlen:(addB V BV l).2.2.length=l.length:=by rw[i3.len,za6]
  have r1:=i3.at (L:=a.1) (λi hi=>by rw[hlen];exact o1 i hi);have r2:=i3.at (L:=a.2) (λi hi=>by rw[hlen];exact o2 i hi);obtain⟨q1,q2,q3,q4⟩:=zf9 i1 r1 r2;have e:addB V BV (l ++ [a])=((za4 (addB V BV l).1 (addB V BV l).2.1 (za3 (addB V BV l).2.2 a.1) (za3 (addB V BV l).2.2 a.2)).1,(za4 (addB V BV l).1 (addB V BV l).2.1 (za3 (addB V BV l).2.2 a.1) (za3 (addB V BV l).2.2 a.2)).2.1,
    (addB V BV l).2.2 ++ [(za4 (addB V BV l).1 (addB V BV l).2.1 (za3 (addB V BV l).2.2 a.1) (za3 (addB V BV l).2.2 a.2)).2.2]):=by
   rw[ze9,<-zck i1];rfl
  rw[e,zei];refine⟨q1,i2.trans q2,(i3.mono q2).snoc q3 q4,?_⟩;refine zga (λx hx=>?_) ?_
  ·rcases y4.1 (i4 x hx)with h|h
   ·exact vJ _ h
   ·exact List.mem_append_right _ (vJ _ h)
  ·rw[q4]
   exact List.mem_append_right _ (List.mem_append_right _ (x4.2 rfl))
theorem zov {V:List PL}{BV:List Nat}(h:PoolOK V BV){r:Nat}(hr:r<V.length){a:Nat}(hs:SubC ((za0 V).getD r 0) a):a∈za0 V:=by obtain⟨x,_,hx,e⟩:=zkr h.book hr hs;rw[<-e];exact zc1 (by rw[za6];exact hx)
theorem zfg {V:List PL}{BV:List Nat}(h:PoolOK V BV):BookOK V BV:=by have hle:∀j,j<V.length->BV.getD j 0<=j:=by{intro j;induction j using Nat.strongRecOn with| _ j ih =>{intro hj;have e:=za7 hj;obtain⟨o1,o2⟩:=h.opts j _ e;rw[h.born j _ e,zdh,zdh];exact⟨⟨yK _,λx hx=>by have:=o1 x hx;have:=ih x this (by omega);omega⟩,λx hx=>by have:=o2 x hx;have:=ih x this (by omega);omega⟩}};exact⟨h.len,h.opts,λj x hx=>by{have hj:=(xV.1 hx).1;have:=hle j (by rw[<-h.len];exact hj);rw[xY,hx]at this;exact this}⟩
theorem RowC.get {V:List PL}{A Tb:List Nat}{P p c:Nat}(h:RowC V A (Tb.take P))(hp:p<P)(hTb:Tb[p]?=some c):∃x,A[p]?=some x/\x<V.length/\(za0 V).getD x 0=c:=by(have h1:(Tb.take P)[p]?=some c:=by rw[List.getElem?_take,if_pos hp];exact hTb);rw[<-h.2]at h1;unfold za3 at h1;rw[vW]at h1;cases hA:A[p]? with| none=>rw[hA]at h1;cases h1| some x =>{rw[hA]at h1;exact⟨x,rfl,h.1 x (xK hA),yY h1⟩}
theorem yac {Tb:List Nat}{p c:Nat}(h:Tb[p]?=some c):Tb.take p ++ [c]=Tb.take (p+1):=by obtain⟨hl,e⟩:=xV.1 h;rw[yQ hl,e]
theorem FormRes.is {V:List PL}{BV:List Nat}{r:Nat}{ok:Bool}{FN:List PL}(h:PoolOK V BV)(hr:r<V.length)(hres:FormRes V BV r ok FN):ok=zap (zdg V BV r)/\FN=if ok then zdg V BV r else []:=by rcases hres with ⟨e1,e2,Q,hnd,hm,hl⟩|⟨Q,GN,O,_,e1,e2⟩;{obtain⟨Q0,O⟩:=zma h hr;(have hlen:(zdg V BV r).length=Q0.length:=by rw[O.nodes];simp);have hle:Q.length<=Q0.length:=hnd.length_le_of_subset λx hx=>(O.mem x).2 ((hm x).1 hx);(have hf:zap (zdg V BV r)=false:=kX λq=>by have:=q.1;omega);rw[hf];exact⟨e1,by rw[e2,e1];rfl⟩};{have e:GN=zdg V BV r:=FormC.one ⟨_,zn5 h.book h.births hr O⟩ (h.form hr);rw[<-e];exact⟨e1,e2⟩}
theorem zcd {Fs:List PL}(h:zd6 (i2 Fs)):0<Fs.length/\Fs.length<=120/\(∀y∈Fs,y.1.length<=24/\y.2.length<=24)/\PoolOK Fs (zb0 Fs)/\addB [] [] Fs=(Fs,zb0 Fs,List.range Fs.length)/\zf7 [] [] Fs=Fs.length-1:=by obtain⟨h1,ho,hu,hk,hr⟩:=(zhu Fs).1 h;have hn:=zdy ho hk;have hf:=h1;unfold zap at hf;rw[kW]at hf;have ha:=zmn Fs ho hu hn;refine⟨by omega,hf.1,hf.2.2,zed ho hu hn,ha,?_⟩;unfold zf7;rw[ha];show(List.range Fs.length).getD (Fs.length-1) 0=_;rw[zi7,if_pos (by omega)]
theorem zht {Fi:List (List Int × List Int)}(h:zd6 Fi):∃Fs,Fi=i2 Fs:=by obtain⟨Fs,e,_⟩:=zk9 h.2.1;exact⟨Fs,e⟩
def thrI:Option Nat->Int
 | some z=>(z:Int)
 | none=>-1
