import Derived.Test.YtlapkmhemepcaaaGreatDoorZic
/- Lemmas. -/
set_option linter.all false
namespace Go.Proofs.YtlapkmhemepcaaaGreatDoor
open Go.RowKit
def stN (s:List Bool)(k:Nat):PL:=((List.range k).filter λa=>s.getD a false,(List.range k).filter λa=>!s.getD a false)
def stF (s:List Bool)(n:Nat):List PL:=(List.range n).map (stN s)
theorem zx1 (s:List Bool)(n k:Nat)(a:k<n):(stF s n).getD k ([],[])=stN s k:=by rw[xY,stF,vZ,rget,if_pos a];rfl
theorem zdv (s:List Bool)(n:Nat):(stF s n).length=n:=by simp[stF]
theorem zr4 (s:List Bool)(n:Nat):stF s (n+1)=stF s n ++ [stN s n]:=by simp[stF,List.range_succ]
theorem yhm (s:List Bool)(n k:Nat)(y:PL)(a:(stF s n)[k]?=some y):k<n/\y=stN s k:=by rw[stF,vZ,rget]at a;split at a;{cases a;exact⟨by assumption,rfl⟩};{cases a}
theorem zx0 (s:List Bool)(k:Nat):(∀a∈(stN s k).1,a<k)/\∀a∈(stN s k).2,a<k:=by constructor <;> intro a b <;> exact vW.1 (List.mem_filter.1 b).1
theorem yb5 (s:List Bool)(k:Nat):(stN s k).1.Pairwise (· < ·)/\(stN s k).2.Pairwise (· < ·) :=
 ⟨List.pairwise_lt_range.filter _,List.pairwise_lt_range.filter _⟩
theorem yb6 (s:List Bool)(k i:Nat)(a:i<k):i∈(stN s k).1\/i∈(stN s k).2:=by cases b:s.getD i false with| true=>exact .inl (List.mem_filter.2 ⟨vW.2 a,b⟩)| false=>exact .inr (List.mem_filter.2 ⟨vW.2 a,by rw[b];rfl⟩)
theorem zyi (BL:List Nat)(m:Nat)(L:List Nat)(N:Nat)(c:m<=N)(b:∀a∈L,BL.getD a 0+1<=N):zai BL m L<=N:=by unfold zai;induction L generalizing m with| nil=>exact c| cons f g e =>{rw[List.foldl_cons];exact e _ (by have:=b f kW;omega) (λa d=>b a (uX _ d))}
theorem ybs (s:List Bool)(m k:Nat)(l:k<=m):zg9 (List.range m) (stN s k).1 (stN s k).2=(k,stN s k):=by unfold zg9;obtain⟨u1,u2⟩:=yb5 s k;obtain⟨g,h⟩:=zx0 s k;rw[zhs _ u1,zhs _ u2];have f:zai (List.range m) (zai (List.range m) 0 (stN s k).1) (stN s k).2=k:=by{refine Nat.le_antisymm (zyi _ _ _ _ (zyi _ _ _ _ (yV _) λc b=>?_) λc b=>?_) ?_;{have:=g c b;rw[zc0,if_pos (by omega)];omega};{have:=h c b;rw[zc0,if_pos (by omega)];omega};{obtain⟨i,d⟩:=znc (List.range m) 0 (stN s k).1;obtain⟨j,e⟩:=znc (List.range m) (zai (List.range m) 0 (stN s k).1) (stN s k).2;cases k with| zero=>omega| succ k =>{rcases yb6 s (k+1) k (by omega)with a|a;{have:=d k a;rw[zc0,if_pos (by omega)]at this;omega};{have:=e k a;rw[zc0,if_pos (by omega)]at this;omega}}}};rw[f]
theorem yhq (s:List Bool)(m k:Nat)(e:k<=m):putB (stF s m) (List.range m) (stN s k).1 (stN s k).2=(stF s (max m (k+1)),List.range (max m (k+1)),k):=by
 unfold putB;simp only[ybs s m k e];have d:(List.range m).length=(stF s m).length:=by simp[stF]
 by_cases b:k<m
 ·have c:=zrc (stF s m) (List.range m) k (stN s k) k (by rw[zdv];exact b) d (λh i j f _ a=>by
   rw[rget]at a;split at a
   ·cases a;rintro⟨c,_⟩;omega
   ·cases a) (by rw[rget,if_pos b]) (by rw[stF,vZ,rget,if_pos b];rfl)
  rw[c,zdv,if_pos b,Nat.max_eq_left (by omega)]
 ·have g:k=m:=by omega
  subst g;rw[if_neg (zm2 (stF s k) (List.range k) k (stN s k) d (λh i j f _ a=>by
   rw[rget]at a;split at a
   ·cases a;rintro⟨c,_⟩;omega
   ·cases a))]
  rw[Nat.max_eq_right (by omega),zr4,List.range_succ,zdv]
theorem ydy (s:List Bool)(m k:Nat):addB (stF s m) (List.range m) (stF s k)=(stF s (max m k),List.range (max m k),List.range k):=by induction k with| zero=>simp[stF,addB]| succ k c =>{rw[zr4,zei,c];unfold zit;obtain⟨d,e⟩:=zx0 s k;simp only;rw[zkt _ _ (λb a=>by have:=d b a;rw[zc0,if_pos (by omega)]),zkt _ _ (λb a=>by have:=e b a;rw[zc0,if_pos (by omega)]),yhq s (max m k) k (by omega)];rw[show max (max m k) (k+1)=max m (k+1)from by omega,List.range_succ]}
theorem yeq (s:List Bool)(m k:Nat):zfz (stF s m) (List.range m) (stF s (k+1))=k:=by unfold zfz;rw[ydy,zdv,zc0,if_pos (by omega)];rfl
theorem zt6 (m:List Bool)(L:List Nat)(j:Nat)(c:j<m.length):(zbv m L).getD j false=(m.getD j false || decide (j∈L)):=by unfold zbv;induction L generalizing m with| nil=>simp| cons b g f =>{rw[List.foldl_cons,f (m.set b true) (by simpa using c)];simp only[xY,List.getElem?_set,kK];by_cases a:b=j;{subst a;simp[c]};{have d:¬j=b:=λe=>a e.symm;simp[a,d]}}
theorem zpc (n:Nat)(L:List Nat):zbv (List.replicate n true) L=List.replicate n true:=by unfold zbv;induction L with| nil=>rfl| cons c b a=>rw[List.foldl_cons,List.set_replicate_self,a]
theorem zov (NL:List PL)(k n:Nat):zc2 NL k (List.replicate n true)=List.replicate n true:=by induction k with| zero=>rfl| succ k a =>{unfold zc2 zcq;rw[zpc,zpc,ite_self,a]}
theorem ybn (s:List Bool)(n:Nat):zas (stF s (n+1)) n=List.replicate (n+1) true:=by unfold zas zc2;have b:zcq (stF s (n+1)) ((List.replicate (n+1) false).set n true) n=List.replicate (n+1) true:=by{unfold zcq;rw[if_pos (by simp[xY]),zx1 s (n+1) n (by omega)];apply List.ext_getElem;{simp[zb6]};{intro a e f;(have d:a<n+1:=by simpa using f);have c:=zt6 (zbv ((List.replicate (n+1) false).set n true) (stN s n).1) (stN s n).2 a (by simpa [zb6] using d);rw[zt6 ((List.replicate (n+1) false).set n true) _ a (by simpa using d),xY,xQ e,Option.getD_some]at c;rw[c,List.getElem_replicate];by_cases b:a=n;{subst b;simp[xY]};{rcases yb6 s n a (by omega)with hk|hk <;> simp[hk]}}};rw[b,zov]
def stA (n b:Nat):List Nat:=(List.range (n+1)).map λa=>if a<b then a else 0
theorem zx2 (n b k:Nat)(a:k<b)(c:b<=n+1):(stA n b).getD k 0=k:=by unfold stA;rw[xY,vZ,rget,if_pos (by omega)];simp[a]
theorem yen (n b:Nat)(d:b<=n):(stA n b).set b b=stA n (b+1):=by unfold stA;apply List.ext_getElem;{simp};{intro c e f;rw[List.getElem_set];simp only[List.getElem_map,List.getElem_range];split;{subst_vars;simp};{rename_i g;by_cases a:c<b;{rw[if_pos a,if_pos (by omega)]};{rw[if_neg a,if_neg (by omega)]}}}
theorem yi7 (s:List Bool)(n b:Nat)(d:b<=n+1):keyF (stA n b) (stN s b)=stN s b:=by unfold keyF;obtain⟨e,f⟩:=zx0 s b;obtain⟨u1,u2⟩:=yb5 s b;rw[zkt _ _ (λa c=>zx2 n b a (e a c) d),zkt _ _ (λa c=>zx2 n b a (f a c) d),zhs _ u1,zhs _ u2]
theorem yf0 (s:List Bool)(n b j:Nat)(g:b<=n)(h:j<=n+1) : zed (stF s (n+1)) (List.range (n+1)) (List.replicate (n+1) true) (stA n b) b j=if b<j then ([stN s b],[b])else ([],[]):=by induction j with| zero=>simp[zed]| succ j f =>{(rw[zf1,f (by omega)];unfold zfk;have e:(List.replicate (n+1) true).getD j false=true:=by rw[xY,List.getElem?_replicate,if_pos (by omega)];rfl);rw[e,zc0,if_pos (show j<n+1 by omega),zx1 s (n+1) j (by omega)];by_cases a:j=b;{subst a;rw[if_pos ⟨rfl,rfl⟩,if_neg (Nat.lt_irrefl _),if_pos (vK _),yi7 s n j (by omega)];rfl};{rw[if_neg (λd=>a d.2)];by_cases c:b<j;{rw[if_pos c,if_pos (by omega)]};{rw[if_neg c,if_neg (by omega)]}}}
theorem yd4 (s:List Bool)(n b:Nat)(e:b<=n+1):zaz (stF s (n+1)) (List.range (n+1)) (List.replicate (n+1) true) n b=(stA n b,stF s b):=by induction b with| zero =>{have:stA n 0=List.replicate (n+1) 0:=by{unfold stA;apply List.ext_getElem;{simp};{intro f c d;simp}};rw[this];rfl}| succ b a =>{rw[zgt,a (by omega)];unfold yaa;rw[yf0 s n b (n+1) (by omega) (by omega),if_pos (by omega)];simp only[List.zip_cons_cons,List.zip_nil_right,List.foldl_cons,List.foldl_nil,layF];rw[zdv,yen n b (by omega),zr4 s b]}
theorem yg6 (s:List Bool)(n:Nat):zdp (stF s (n+1)) (List.range (n+1)) n=stF s (n+1):=by unfold zdp;rw[ybn,zc0,if_pos (by omega),yd4 s n (n+1) (by omega)]
theorem yik (s:List Bool)(n:Nat)(g:n<=24):zax (stF s (n+1))=true:=by refine vX ⟨by rw[zdv];omega,by rw[zdv];omega,λh f=>?_⟩;obtain⟨e,d,rfl⟩:=y6.1 f;have d:=vW.1 d;have b:=(List.filter_sublist (p:=λa=>s.getD a false) (l:=List.range e)).length_le;have c:=(List.filter_sublist (p:=λa=>!s.getD a false) (l:=List.range e)).length_le;simp only[uY]at b c;exact⟨vV b (by omega),vV c (by omega)⟩
theorem yif (s:List Bool)(n:Nat)(f:n<=24):zar (i2 (stF s (n+1))):=by refine⟨by rw[zmb,yik s n f],λa m _ h=>?_,λl d=>?_⟩;{obtain⟨k,g,rfl⟩:=ycv h;obtain⟨_,rfl⟩:=yhm s _ a k g;obtain⟨i,j⟩:=zx0 s a;obtain⟨u1,u2⟩:=yb5 s a;exact⟨zx9 a _ none u1 i (by simp),zx9 a _ none u2 j (by simp)⟩};{rw[<-zta d];have b:=ydy s 0 (n+1);have c:=yeq s 0 n;have e:stF s 0=[]:=rfl;rw[e,List.range_zero]at b c;rw[b,c];simp only[Nat.zero_max];exact yg6 s n}
theorem yhi (a b:Nat)(L R:List Nat)(e:∀d,d∈L↔(∃c,hasL a c/\sumC c b=d)\/∃c,hasL b c/\sumC a c=d)(f:∀d,d∈R↔(∃c,hasR a c/\sumC c b=d)\/∃c,hasR b c/\sumC a c=d):mkC L R=sumC a b :=
 zgu (λd=>by rw[zam,e,zd5]) (λd=>by rw[zak,f,zd4])
theorem yh6 {C D:List Nat}{x y:PL}{a b:Nat}(d:a=mkC (za3 C x.1) (za3 C x.2))(e:b=mkC (za3 D y.1) (za3 D y.2)) : mkC ((za3 C x.1).map (λc=>sumC c b)++(za3 D y.1).map λc=>sumC a c) ((za3 C x.2).map (λc=>sumC c b)++(za3 D y.2).map λc=>sumC a c)=sumC a b:=by(have f:∀c,hasL a c↔c∈za3 C x.1:=λc=>by rw[d,zam]);(have g:∀c,hasR a c↔c∈za3 C x.2:=λc=>by rw[d,zak]);(have h:∀c,hasL b c↔c∈za3 D y.1:=λc=>by rw[e,zam]);(have i:∀c,hasR b c↔c∈za3 D y.2:=λc=>by rw[e,zak]);refine yhi a b _ _ (λj=>?_) λj=>?_;{rw[y4,y6,y6];simp only[f,h]};{rw[y4,y6,y6];simp only[g,i]}
theorem zpy {C A B:List Nat}{g:Nat->Nat}{k l:Nat}(a:A[k]?=some l):((za3 C A).map g++B)[k]?=some (g (C.getD l 0)):=by have b:=(xV.1 a).1;rw[yW (by simpa [za3] using b)];simp[za3,vZ,a]
theorem zmx {C D A B:List Nat}{g a:Nat->Nat}{k l:Nat}(b:B[k]?=some l):((za3 C A).map g++(za3 D B).map a)[A.length+k]?=some (a (D.getD l 0)):=by rw[kZ (by simp[za3])];simp[za3,vZ,b]
def sumU (C:List Nat):List Nat:=C++C.flatMap λa=>C.map λb=>sumC a b
theorem yfn {C:List Nat}{a b:Nat}(c:a∈C)(d:b∈C):sumC a b∈sumU C:=List.mem_append_right _ (List.mem_flatMap.2 ⟨a,c,y6.2 ⟨b,d,rfl⟩⟩)
theorem zvz (C:List Nat):(sumU C).length=C.length+C.length*C.length:=by unfold sumU;rw[yZ];congr 1;have:∀a:List Nat,(a.flatMap λb=>C.map λc=>sumC b c).length=a.length*C.length:=by{intro a;induction a with| nil=>simp| cons b e d=>rw[List.flatMap_cons,yZ,d,uJ,List.length_cons,Nat.succ_mul,Nat.add_comm]};exact this C
def zf5 (CF CG:List Nat):List Nat:=CF.flatMap λa=>CG.map λb=>sumC a b
theorem zyv (CF CG:List Nat):(zf5 CF CG).length=CF.length*CG.length:=by unfold zf5;induction CF with| nil=>simp| cons b c a=>rw[List.flatMap_cons,yZ,a,uJ,List.length_cons,Nat.succ_mul,Nat.add_comm]
theorem zyx {CF CG:List Nat}:∀ {i k:Nat},i<CF.length->k<CG.length->(zf5 CF CG)[i*CG.length+k]?=some (sumC (CF.getD i 0) (CG.getD k 0)):=by induction CF with| nil=>{intro i k g;simp at g}| cons c d j =>{(intro i k h a;have f:zf5 (c::d) CG=(CG.map λe=>sumC c e)++zf5 d CG:=by unfold zf5;rw[List.flatMap_cons]);rw[f];cases i with| zero =>{rw[Nat.zero_mul,Nat.zero_add,yW (by simpa using a),vZ,xQ a,xY (l:=CG),xQ a];rfl}| succ b =>{rw[kZ (by rw[uJ,Nat.succ_mul];omega),uJ];have:=j (i:=b) (k:=k) (by simpa using h) a;rw[show(b+1)*CG.length+k-CG.length=b*CG.length+k from by rw[Nat.succ_mul];omega,this];rfl}}
