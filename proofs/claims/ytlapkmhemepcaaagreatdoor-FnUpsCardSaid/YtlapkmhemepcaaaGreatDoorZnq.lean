import Derived.Test.YtlapkmhemepcaaaGreatDoorZn5
/- Lemmas. -/
namespace Go.Proofs.YtlapkmhemepcaaaGreatDoor
set_option linter.unusedVariables false
set_option linter.unusedSimpArgs false
open Go.RowKit
def stN (s:List Bool)(k:Nat):PL:=((List.range k).filter fun i=>s.getD i false,(List.range k).filter fun i=>!s.getD i false)
def stF (s:List Bool)(n:Nat):List PL:=(List.range n).map (stN s)
theorem ya3 (L:List Nat)(n:Nat)(h:∀x∈L,x<n):posN L n=L.length :=
 zrn L n L.length (Nat.le_refl _) (fun j x _ hx=>h x (List.mem_of_getElem? hx)) (fun x hx=>by simp at hx)
theorem ya2 (L:List Nat)(n:Nat)(h:∀x∈L,x<n):putN L n=L ++ [n]:=by
 unfold putN;rw[ya3 L n h,if_neg (by simp)];simp
theorem zgc (L:List Nat)(h:L.Pairwise (· < ·)):zab L=L:=by
 suffices hs:∀(L A:List Nat),(A++L).Pairwise (· < ·)→L.foldl putN A=A++L by simpa [zab] using hs L [] (by simpa using h)
 intro L;induction L with
 | nil=>intro A _;simp
 | cons x l ih =>
  intro A h;have hx:∀y∈A,y<x:=fun y hy=>(List.pairwise_append.1 h).2.2 y hy x List.mem_cons_self
  rw[List.foldl_cons,ya2 A x hx,ih _ (by simpa using h)];simp
theorem zhx (A L:List Nat)(h:∀x∈L,A.getD x 0=x):za2 A L=L:=by
 unfold za2;exact(List.map_congr_left h).trans (List.map_id' L)
theorem rget (n k:Nat):(List.range n)[k]?=if k<n then some k else none:=by
 split
 ·exact List.getElem?_range (by assumption)
 ·exact List.getElem?_eq_none (by simp;omega)
theorem zbf (n k d:Nat):(List.range n).getD k d=if k<n then k else d:=by
 rw[List.getD_eq_getElem?_getD,rget];split <;> rfl
theorem zsu (s:List Bool)(n k:Nat)(h:k<n):(stF s n).getD k ([],[])=stN s k:=by
 rw[List.getD_eq_getElem?_getD,stF,List.getElem?_map,rget,if_pos h];rfl
theorem zd3 (s:List Bool)(n:Nat):(stF s n).length=n:=by simp[stF]
theorem znp (s:List Bool)(n:Nat):stF s (n+1)=stF s n ++ [stN s n]:=by simp[stF,List.range_succ]
theorem ycc (s:List Bool)(n k:Nat)(y:PL)(h:(stF s n)[k]?=some y):k<n/\y=stN s k:=by
 rw[stF,List.getElem?_map,rget]at h;split at h
 ·cases h;exact⟨by assumption,rfl⟩
 ·cases h
theorem zst (s:List Bool)(k:Nat):(∀x∈(stN s k).1,x<k)/\∀x∈(stN s k).2,x<k:=by
 constructor <;> intro x hx <;> exact List.mem_range.1 (List.mem_filter.1 hx).1
theorem zvz (s:List Bool)(k:Nat):(stN s k).1.Pairwise (· < ·)/\(stN s k).2.Pairwise (· < ·) :=
 ⟨List.pairwise_lt_range.filter _,List.pairwise_lt_range.filter _⟩
theorem zx0 (s:List Bool)(k i:Nat)(h:i<k):i∈(stN s k).1∨i∈(stN s k).2:=by
 cases hb:s.getD i false with
 | true=>exact .inl (List.mem_filter.2 ⟨List.mem_range.2 h,hb⟩)
 | false=>exact .inr (List.mem_filter.2 ⟨List.mem_range.2 h,by rw[hb];rfl⟩)
theorem zka (BL:List Nat)(m:Nat)(L:List Nat):m≤zaa BL m L/\∀x∈L,BL.getD x 0+1≤zaa BL m L:=by
 unfold zaa;induction L generalizing m with
 | nil=>exact⟨Nat.le_refl _,by simp⟩
 | cons y l ih =>
  rw[List.foldl_cons];obtain⟨h1,h2⟩:=ih (max m (BL.getD y 0+1));refine⟨by omega,fun x hx=>?_⟩;rcases List.mem_cons.1 hx with rfl|hx
  ·omega
  ·exact h2 x hx
theorem zu8 (BL:List Nat)(m:Nat)(L:List Nat)(N:Nat)(hm:m≤N)(h:∀x∈L,BL.getD x 0+1≤N):zaa BL m L≤N:=by
 unfold zaa;induction L generalizing m with
 | nil=>exact hm
 | cons y l ih =>
  rw[List.foldl_cons];exact ih _ (by have:=h y List.mem_cons_self;omega) (fun x hx=>h x (List.mem_cons_of_mem _ hx))
theorem zxc (s:List Bool)(m k:Nat)(h:k≤m):zev (List.range m) (stN s k).1 (stN s k).2=(k,stN s k):=by
 unfold zev;obtain⟨u1,u2⟩:=zvz s k;obtain⟨l1,l2⟩:=zst s k;rw[zgc _ u1,zgc _ u2];have e:zaa (List.range m) (zaa (List.range m) 0 (stN s k).1) (stN s k).2=k:=by
  refine Nat.le_antisymm (zu8 _ _ _ _ (zu8 _ _ _ _ (Nat.zero_le _) fun x hx=>?_) fun x hx=>?_) ?_
  ·have:=l1 x hx;rw[zbf,if_pos (by omega)];omega
  ·have:=l2 x hx;rw[zbf,if_pos (by omega)];omega
  ·obtain⟨a1,a2⟩:=zka (List.range m) 0 (stN s k).1
   obtain⟨b1,b2⟩:=zka (List.range m) (zaa (List.range m) 0 (stN s k).1) (stN s k).2;cases k with
   | zero=>omega
   | succ k =>
    rcases zx0 s (k+1) k (by omega)with hk|hk
    ·have:=a2 k hk;rw[zbf,if_pos (by omega)]at this;omega
    ·have:=b2 k hk;rw[zbf,if_pos (by omega)]at this;omega
 rw[e]
theorem ycm (s:List Bool)(m k:Nat)(h:k≤m):putB (stF s m) (List.range m) (stN s k).1 (stN s k).2=(stF s (max m (k+1)),List.range (max m (k+1)),k):=by
 unfold putB;simp only[zxc s m k h];have hl:(List.range m).length=(stF s m).length:=by simp[stF]
 by_cases hk:k<m
 ·have e:=znx (stF s m) (List.range m) k (stN s k) k (by rw[zd3];exact hk) hl (fun j x y hj _ hy=>by
   rw[rget]at hy;split at hy
   ·cases hy;rintro⟨e,_⟩;omega
   ·cases hy) (by rw[rget,if_pos hk]) (by rw[stF,List.getElem?_map,rget,if_pos hk];rfl)
  rw[e,zd3,if_pos hk,Nat.max_eq_left (by omega)]
 ·have hkm:k=m:=by omega
  subst hkm;rw[if_neg (zi4 (stF s k) (List.range k) k (stN s k) hl (fun j x y hj _ hy=>by
   rw[rget]at hy;split at hy
   ·cases hy;rintro⟨e,_⟩;omega
   ·cases hy))]
  rw[Nat.max_eq_right (by omega),znp,List.range_succ,zd3]
theorem zz0 (s:List Bool)(m k:Nat):addB (stF s m) (List.range m) (stF s k)=(stF s (max m k),List.range (max m k),List.range k):=by
 induction k with
 | zero=>simp[stF,addB]
 | succ k ih =>
  rw[znp,zdf,ih];unfold zh3;obtain⟨l1,l2⟩:=zst s k;simp only;rw[zhx _ _ (fun x hx=>by have:=l1 x hx;rw[zbf,if_pos (by omega)]),zhx _ _ (fun x hx=>by have:=l2 x hx;rw[zbf,if_pos (by omega)]),
   ycm s (max m k) k (by omega)]
  rw[show max (max m k) (k+1)=max m (k+1)from by omega,List.range_succ]
theorem zzx (s:List Bool)(m k:Nat):zfm (stF s m) (List.range m) (stF s (k+1))=k:=by
 unfold zfm;rw[zz0,zd3,zbf,if_pos (by omega)];rfl
theorem zpb (m:List Bool)(L:List Nat)(j:Nat)(hj:j<m.length):(zbc m L).getD j false=(m.getD j false || decide (j∈L)):=by
 unfold zbc;induction L generalizing m with
 | nil=>simp
 | cons x l ih =>
  rw[List.foldl_cons,ih (m.set x true) (by simpa using hj)];simp only[List.getD_eq_getElem?_getD,List.getElem?_set,List.mem_cons];by_cases e:x=j
  ·subst e;simp[hj]
  ·have e':¬j=x:=fun h=>e h.symm
   simp[e,e']
theorem zn5 (n:Nat)(L:List Nat):zbc (List.replicate n true) L=List.replicate n true:=by
 unfold zbc;induction L with
 | nil=>rfl
 | cons x l ih=>rw[List.foldl_cons,List.set_replicate_self,ih]
theorem zmn (NL:List PL)(k n:Nat):zbh NL k (List.replicate n true)=List.replicate n true:=by
 induction k with
 | zero=>rfl
 | succ k ih =>
  unfold zbh zc2;rw[zn5,zn5,ite_self,ih]
theorem zx9 (s:List Bool)(n:Nat):zag (stF s (n+1)) n=List.replicate (n+1) true:=by
 unfold zag zbh;have e:zc2 (stF s (n+1)) ((List.replicate (n+1) false).set n true) n=List.replicate (n+1) true:=by
  unfold zc2;rw[if_pos (by simp[List.getD_eq_getElem?_getD]),zsu s (n+1) n (by omega)];apply List.ext_getElem
  ·simp[zan]
  ·intro j h1 h2
   have hj:j<n+1:=by simpa using h2
   have g:=zpb (zbc ((List.replicate (n+1) false).set n true) (stN s n).1) (stN s n).2 j (by simpa [zan] using hj);rw[zpb ((List.replicate (n+1) false).set n true) _ j (by simpa using hj),List.getD_eq_getElem?_getD,List.getElem?_eq_getElem h1,Option.getD_some]at g;rw[g,List.getElem_replicate];by_cases e:j=n
   ·subst e;simp[List.getD_eq_getElem?_getD]
   ·rcases zx0 s n j (by omega)with hk|hk <;> simp[hk]
 rw[e,zmn]
def stA (n b:Nat):List Nat:=(List.range (n+1)).map fun i=>if i<b then i else 0
theorem zsv (n b k:Nat)(h:k<b)(hb:b≤n+1):(stA n b).getD k 0=k:=by
 unfold stA;rw[List.getD_eq_getElem?_getD,List.getElem?_map,rget,if_pos (by omega)];simp[h]
theorem zzs (n b:Nat)(h:b≤n):(stA n b).set b b=stA n (b+1):=by
 unfold stA;apply List.ext_getElem
 ·simp
 ·intro j h1 h2
  rw[List.getElem_set];simp only[List.getElem_map,List.getElem_range];split
  ·subst_vars;simp
  ·rename_i hne
   by_cases hj:j<b
   ·rw[if_pos hj,if_pos (by omega)]
   ·rw[if_neg hj,if_neg (by omega)]
theorem yd8 (s:List Bool)(n b:Nat)(hb:b≤n+1):keyF (stA n b) (stN s b)=stN s b:=by
 unfold keyF;obtain⟨l1,l2⟩:=zst s b;obtain⟨u1,u2⟩:=zvz s b;rw[zhx _ _ (fun x hx=>zsv n b x (l1 x hx) hb),zhx _ _ (fun x hx=>zsv n b x (l2 x hx) hb),zgc _ u1,zgc _ u2]
theorem ya4 (s:List Bool)(n b j:Nat)(hb:b≤n)(hj:j≤n+1) :
  zdc (stF s (n+1)) (List.range (n+1)) (List.replicate (n+1) true) (stA n b) b j=if b<j then ([stN s b],[b])else ([],[]):=by
 induction j with
 | zero=>simp[zdc]
 | succ j ih =>
  rw[zdy,ih (by omega)];unfold zee;have h1:(List.replicate (n+1) true).getD j false=true:=by rw[List.getD_eq_getElem?_getD,List.getElem?_replicate,if_pos (by omega)];rfl
  rw[h1,zbf,if_pos (show j<n+1 by omega),zsu s (n+1) j (by omega)];by_cases e:j=b
  ·subst e
   rw[if_pos ⟨rfl,rfl⟩,if_neg (Nat.lt_irrefl _),if_pos (Nat.lt_succ_self _),yd8 s n j (by omega)];rfl
  ·rw[if_neg (fun h=>e h.2)]
   by_cases hlt:b<j
   ·rw[if_pos hlt,if_pos (by omega)]
   ·rw[if_neg hlt,if_neg (by omega)]
theorem zyf (s:List Bool)(n b:Nat)(hb:b≤n+1):zam (stF s (n+1)) (List.range (n+1)) (List.replicate (n+1) true) n b=(stA n b,stF s b):=by
 induction b with
 | zero =>
  have:stA n 0=List.replicate (n+1) 0:=by
   unfold stA;apply List.ext_getElem
   ·simp
   ·intro j h1 h2;simp
  rw[this];rfl
 | succ b ih =>
  rw[zff,ih (by omega)];unfold zv5;rw[ya4 s n b (n+1) (by omega) (by omega),if_pos (by omega)];simp only[List.zip_cons_cons,List.zip_nil_right,List.foldl_cons,List.foldl_nil,layF];rw[zd3,zzs n b (by omega),znp s b]
theorem yba (s:List Bool)(n:Nat):zdg (stF s (n+1)) (List.range (n+1)) n=stF s (n+1):=by
 unfold zdg;rw[zx9,zbf,if_pos (by omega),zyf s n (n+1) (by omega)]
def zb6 (s:List PL × List Nat × List Nat)(f:List PL):List PL × List Nat × List Nat:=((addB s.1 s.2.1 f).1,(addB s.1 s.2.1 f).2.1,s.2.2 ++ [zfm s.1 s.2.1 f])
def zbn (NL:List PL)(BL:List Nat)(FL:List (List PL)):List PL × List Nat × List Nat:=FL.foldl zb6 (NL,BL,[])
theorem zrc (NL:List PL)(BL:List Nat)(FL:List (List PL))(f:List PL):zbn NL BL (FL ++ [f])=zb6 (zbn NL BL FL) f:=by simp[zbn]
def zfz (FL FR:List (List PL)):List PL :=
 let l:=zbn [] [] FL
 let r:=zbn l.1 l.2.1 FR
 let p:=putB r.1 r.2.1 l.2.2 r.2.2
 zdg p.1 p.2.1 p.2.2
def i2 (Fs:List PL):List (List Int × List Int):=Fs.map fun y=>(ints y.1,ints y.2)
theorem zc3 (Fs:List PL):(i2 Fs).length=Fs.length:=by simp[i2]
theorem zy9 {Fs:List PL}{k:Nat}{y:List Int × List Int}(h:(i2 Fs)[k]?=some y):∃x,Fs[k]?=some x/\y=(ints x.1,ints x.2):=by
 unfold i2 at h;rw[List.getElem?_map]at h;cases hq:Fs[k]? with
 | none=>rw[hq]at h;cases h
 | some x=>rw[hq]at h;cases h;exact⟨x,rfl,rfl⟩
theorem zy8 {Fs G:List PL}(h:i2 Fs=i2 G):Fs=G:=by
 have hl:Fs.length=G.length:=by have:=congrArg List.length h;simpa [i2] using this
 refine List.ext_getElem hl fun k h1 h2=>?_
 have e:(i2 Fs)[k]?=(i2 G)[k]?:=by rw[h]
 unfold i2 at e;rw[List.getElem?_map,List.getElem?_map,List.getElem?_eq_getElem h1,List.getElem?_eq_getElem h2]at e;have e:=Option.some.inj e;have e1:=zo8 (congrArg Prod.fst e);have e2:=zo8 (congrArg Prod.snd e);exact Prod.ext e1 e2
theorem zt4 (hi:Nat)(L:List Nat):∀(p:Option Int),L.Pairwise (· < ·)→(∀x∈L,x<hi)→(∀y,p=some y→∀x∈L,y<(x:Int))→zbd 0 ((hi:Int)-1) p (ints L)=true:=by
 induction L with
 | nil=>intro p _ _ _;cases p <;> rfl
 | cons x l ih =>
  intro p hL hb hp;have hx:=hb x List.mem_cons_self;have h1:betw (Int.ofNat x) 0 ((hi:Int)-1)=true:=by unfold betw;simp;omega
  have h2:=ih (some (Int.ofNat x)) (List.pairwise_cons.1 hL).2 (fun y hy=>hb y (List.mem_cons_of_mem _ hy)) (fun y e z hz=>by
   cases e
   have:=(List.pairwise_cons.1 hL).1 z hz;show((x:Nat):Int)<(z:Int)
   omega)
  cases p with
  | none =>
   show(betw (Int.ofNat x) 0 ((hi:Int)-1) && zbd 0 ((hi:Int)-1) (some (Int.ofNat x)) (ints l))=true
   rw[h1,h2];rfl
  | some y =>
   have h3:=hp y rfl x List.mem_cons_self;show(betw (Int.ofNat x) 0 ((hi:Int)-1) && (decide (y<Int.ofNat x) && zbd 0 ((hi:Int)-1) (some (Int.ofNat x)) (ints l)))=true
   rw[h1,h2,decide_eq_true (show y<Int.ofNat x from h3)];rfl
theorem zt5 (hi:Nat)(L:List Int):∀(p:Option Int),zbd 0 ((hi:Int)-1) p L=true→∃L':List Nat,L=ints L'∧L'.Pairwise (· < ·)/\(∀x∈L',x<hi)/\∀y,p=some y→∀x∈L',y<(x:Int):=by
 induction L with
 | nil=>intro p _;exact⟨[],rfl,List.Pairwise.nil,by simp,by simp⟩
 | cons x l ih =>
  intro p h;have h0:betw x 0 ((hi:Int)-1)=true/\(∀y,p=some y→y<x)/\zbd 0 ((hi:Int)-1) (some x) l=true:=by
   cases p with
   | none =>
    have h:(betw x 0 ((hi:Int)-1) && zbd 0 ((hi:Int)-1) (some x) l)=true:=h;rw[Bool.and_eq_true]at h;exact⟨h.1,by simp,h.2⟩
   | some y =>
    have h:(betw x 0 ((hi:Int)-1) && (decide (y<x) && zbd 0 ((hi:Int)-1) (some x) l))=true:=h;rw[Bool.and_eq_true,Bool.and_eq_true]at h;exact⟨h.1,fun z e=>by cases e;exact of_decide_eq_true h.2.1,h.2.2⟩
  obtain⟨h1,h2,h3⟩:=h0;obtain⟨L',e,u,b,q⟩:=ih (some x) h3;have h1:0≤x/\x≤(hi:Int)-1:=of_decide_eq_true h1;refine⟨x.toNat::L',?_,List.pairwise_cons.2 ⟨fun z hz=>?_,u⟩,fun z hz=>?_,fun y hy z hz=>?_⟩
  ·rw[e]
   show x::ints L'=Int.ofNat x.toNat::ints L'
   rw[show Int.ofNat x.toNat=x from Int.toNat_of_nonneg h1.1]
  ·have:=q x rfl z hz;omega
  ·rcases List.mem_cons.1 hz with rfl|hz
   ·omega
   ·exact b z hz
  ·have h4:=h2 y hy
   rcases List.mem_cons.1 hz with rfl|hz
   ·omega
   ·have:=q x rfl z hz;omega
def risI (Fs:List (List Int × List Int))(k:Nat):Prop:=∀(j:Nat) (y:List Int × List Int),j<k→Fs[j]?=some y→zbd 0 ((j:Int)-1) none y.1=true/\zbd 0 ((j:Int)-1) none y.2=true
def zc5 (Fs:List (List Int × List Int)):Prop:=zau Fs=true/\risI Fs Fs.length/\∀Fs':List PL,Fs=i2 Fs'→zdg (addB [] [] Fs').1 (addB [] [] Fs').2.1 (zfm [] [] Fs')=Fs'
theorem znv {Fs:List (List Int × List Int)}(h:risI Fs Fs.length):∃Fs':List PL,Fs=i2 Fs'∧(∀(j:Nat) (y:PL),Fs'[j]?=some y→(∀i∈y.1,i<j)/\∀i∈y.2,i<j)/\∀(j:Nat) (y:PL),Fs'[j]?=some y→y.1.Pairwise (· < ·)/\y.2.Pairwise (· < ·):=by
 have key:∀(j:Nat) (y:List Int × List Int),Fs[j]?=some y→∃x:PL,y=(ints x.1,ints x.2)/\((∀i∈x.1,i<j)/\∀i∈x.2,i<j)/\x.1.Pairwise (· < ·)/\x.2.Pairwise (· < ·):=fun j y hy=>by
  obtain⟨h1,h2⟩:=h j y (List.getElem?_eq_some_iff.1 hy).1 hy;obtain⟨L1,e1,u1,b1,_⟩:=zt5 j y.1 none h1;obtain⟨L2,e2,u2,b2,_⟩:=zt5 j y.2 none h2;exact⟨(L1,L2),Prod.ext e1 e2,⟨b1,b2⟩,u1,u2⟩
 let f:List Int × List Int→PL:=fun y=>(y.1.map Int.toNat,y.2.map Int.toNat)
 have hf:∀x:PL,f (ints x.1,ints x.2)=x:=fun x=>by
  have e:∀L:List Nat,(ints L).map Int.toNat=L:=fun L=>by unfold ints;rw[List.map_map];exact(List.map_congr_left fun a _=>rfl).trans (List.map_id' L)
  exact Prod.ext (e _) (e _)
 have hg:∀(j:Nat) (y:PL),(Fs.map f)[j]?=some y→∃z,Fs[j]?=some z/\z=(ints y.1,ints y.2)/\((∀i∈y.1,i<j)/\∀i∈y.2,i<j)/\y.1.Pairwise (· < ·)/\y.2.Pairwise (· < ·):=fun j y hy=>by
  rw[List.getElem?_map]at hy;cases hq:Fs[j]? with
  | none=>rw[hq]at hy;cases hy
  | some z =>
   rw[hq]at hy;obtain⟨x,e,hx⟩:=key j z hq;have hy:=Option.some.inj hy;rw[e,hf]at hy;subst hy;exact⟨z,rfl,e,hx⟩
 refine⟨Fs.map f,?_,fun j y hy=>?_,fun j y hy=>?_⟩
 ·unfold i2
  rw[List.map_map];refine((List.map_congr_left fun z hz=>?_).trans (List.map_id' Fs)).symm;obtain⟨j,hj,rfl⟩:=List.getElem_of_mem hz;obtain⟨x,e,_⟩:=key j _ (List.getElem?_eq_getElem hj);show(ints (f Fs[j]).1,ints (f Fs[j]).2)=Fs[j]
  rw[e,hf]
 ·obtain⟨_,_,_,h,_⟩:=hg j y hy;exact h
 ·obtain⟨_,_,_,_,h⟩:=hg j y hy;exact h
theorem zmc (Fs:List PL):zau (i2 Fs)=zau Fs:=by
 unfold zau i2;rw[List.length_map];congr 1
 refine propext ⟨fun⟨h1,h2,h3⟩=>⟨h1,h2,fun y hy=>?_⟩,fun⟨h1,h2,h3⟩=>⟨h1,h2,fun y hy=>?_⟩⟩
 ·have:=h3 _ (List.mem_map.2 ⟨y,hy,rfl⟩);simpa [ints] using this
 ·obtain⟨x,hx,rfl⟩:=List.mem_map.1 hy
  simpa [ints] using h3 x hx
theorem ydm (s:List Bool)(n:Nat)(hn:n≤24):zau (stF s (n+1))=true:=by
 refine decide_eq_true ⟨by rw[zd3];omega,by rw[zd3];omega,fun y hy=>?_⟩;obtain⟨k,hk,rfl⟩:=List.mem_map.1 hy;have hk:=List.mem_range.1 hk;have h1:=(List.filter_sublist (p:=fun i=>s.getD i false) (l:=List.range k)).length_le;have h2:=(List.filter_sublist (p:=fun i=>!s.getD i false) (l:=List.range k)).length_le;simp only[List.length_range]at h1 h2;exact⟨Nat.le_trans h1 (by omega),Nat.le_trans h2 (by omega)⟩
theorem yde (s:List Bool)(n:Nat)(hn:n≤24):zc5 (i2 (stF s (n+1))):=by
 refine⟨by rw[zmc,ydm s n hn],fun j y _ hy=>?_,fun Fs' e=>?_⟩
 ·obtain⟨x,hx,rfl⟩:=zy9 hy
  obtain⟨_,rfl⟩:=ycc s _ j x hx;obtain⟨l1,l2⟩:=zst s j;obtain⟨u1,u2⟩:=zvz s j;exact⟨zt4 j _ none u1 l1 (by simp),zt4 j _ none u2 l2 (by simp)⟩
 ·rw[←zy8 e]
  have h1:=zz0 s 0 (n+1);have h2:=zzx s 0 n;have h0:stF s 0=[]:=rfl;rw[h0,List.range_zero]at h1 h2;rw[h1,h2];simp only[Nat.zero_max];exact yba s n
theorem zmx {L:List Nat}{n:Nat}(hu:L.Pairwise (· < ·))(h:∀x∈L,x<n):L.length≤n:=by
 have hd:L.Nodup:=hu.imp fun hlt e=>by omega
 have:=hd.length_le_of_subset (l₂:=List.range n) (fun x hx=>List.mem_range.2 (h x hx));simpa using this
def BookUp (NL:List PL):Prop:=∀(j:Nat) (y:PL),NL[j]?=some y→y.1.Pairwise (· < ·)/\y.2.Pairwise (· < ·)
theorem BookUp.nil:BookUp []:=by intro j y h;simp at h
theorem BookUp.lens {NL:List PL}{BL:List Nat}(h:BookUp NL)(hOK:BookOK NL BL):∀y∈NL,y.1.length≤NL.length/\y.2.length≤NL.length:=by
 intro y hy;obtain⟨j,hj,rfl⟩:=List.getElem_of_mem hy;have e:=List.getElem?_eq_getElem hj
 obtain⟨o1,o2⟩:=hOK.opts j _ e;obtain⟨u1,u2⟩:=h j _ e;have:=zmx u1 o1;have:=zmx u2 o2;omega
theorem zxd {NL:List PL}{BL:List Nat}(h:BookUp NL)(L R:List Nat):BookUp (putB NL BL L R).1:=by
 unfold putB;simp only;split
 ·exact h
 ·intro j y hy
  by_cases hj:j<NL.length
  ·rw[List.getElem?_append_left hj]at hy;exact h j y hy
  ·rw[List.getElem?_append_right (by omega)]at hy
   cases hd:j-NL.length with
   | zero=>rw[hd]at hy;simp at hy;subst hy;exact⟨zeb L,zeb R⟩
   | succ d=>rw[hd]at hy;simp at hy
theorem ydz {NL:List PL}{BL:List Nat}(h:BookUp NL)(FL:List PL):BookUp (addB NL BL FL).1:=by
 suffices hs:∀n,n≤FL.length→BookUp (addB NL BL (FL.take n)).1 by
  have:=hs FL.length (Nat.le_refl _);rwa [List.take_length]at this
 intro n;induction n with
 | zero=>intro _;exact h
 | succ n ih =>
  intro hn;rw[List.take_succ_eq_append_getElem (by omega),zdf];exact zxd (ih (by omega)) _ _
theorem BookOK.nil:BookOK [] []:=⟨rfl,by simp,by simp⟩
structure GoodF (Fm:List PL):Prop where
 pos:0<Fm.length
 le:Fm.length≤120
 opts:∀(j:Nat) (y:PL),Fm[j]?=some y→(∀x∈y.1,x<j)/\∀x∈y.2,x<j
 lens:∀y∈Fm,y.1.length<1000/\y.2.length<1000
structure RootsOK (n:Nat) (s:List PL × List Nat × List Nat):Prop where
 ok:BookOK s.1 s.2.1
 up:BookUp s.1
 len:s.1.length≤n
 lt:∀x∈s.2.2,x<s.1.length
theorem RootsOK.step {n:Nat}{s:List PL × List Nat × List Nat}(h:RootsOK n s){Fm:List PL}(hF:GoodF Fm):RootsOK (n+120) (zb6 s Fm):=by
 obtain⟨k1,k2,k3,k4,k5⟩:=zh4 h.ok Fm hF.opts;have hp:=hF.pos;have hl:=hF.le;refine⟨k1,ydz h.up Fm,?_,fun x hx=>?_⟩
 ·have:=h.len
  show(addB s.1 s.2.1 Fm).1.length≤n+120
  omega
 ·rcases List.mem_append.1 hx with hx|hx
  ·exact Nat.lt_of_lt_of_le (h.lt x hx) k5.length_le
  ·rw[List.mem_singleton]at hx
   subst hx;unfold zfm;rw[List.getD_eq_getElem?_getD,List.getElem?_eq_getElem (by omega)];exact k3 _ (List.getElem_mem _)
theorem zed {FL:List (List PL)}:∀ {n:Nat}{s:List PL × List Nat × List Nat},RootsOK n s→(∀Fm∈FL,GoodF Fm)→RootsOK (n+120*FL.length) (FL.foldl zb6 s):=by
 induction FL with
 | nil=>intro n s h _;simpa using h
 | cons f l ih =>
  intro n s h hF;have:=ih (h.step (hF f List.mem_cons_self)) (fun g hg=>hF g (List.mem_cons_of_mem _ hg));rw[List.foldl_cons,List.length_cons];rwa [show n+120+120*l.length=n+120*(l.length+1)from by omega]at this
theorem zgd (FL:List (List PL)):∀(s:List PL × List Nat × List Nat),(FL.foldl zb6 s).2.2.length=s.2.2.length+FL.length:=by
 induction FL with
 | nil=>intro s;simp
 | cons f l ih=>intro s;rw[List.foldl_cons,ih];simp[zb6];omega
structure PoolOK (V:List PL) (BV:List Nat):Prop where
 len:BV.length=V.length
 opts:∀(j:Nat) (y:PL),V[j]?=some y→(∀i∈y.1,i<j)/\∀i∈y.2,i<j
 up:∀(j:Nat) (y:PL),V[j]?=some y→y.1.Pairwise (· < ·)/\y.2.Pairwise (· < ·)
 nodup:V.Nodup
 born:∀(j:Nat) (y:PL),V[j]?=some y→BV.getD j 0=zaa BV (zaa BV 0 y.1) y.2
theorem PoolOK.nil:PoolOK [] []:=⟨rfl,by simp,by simp,by simp,by simp⟩
theorem zbt (BV t:List Nat)(m:Nat)(L:List Nat)(h:∀x∈L,x<BV.length):zaa (BV++t) m L=zaa BV m L:=by
 unfold zaa;induction L generalizing m with
 | nil=>rfl
 | cons x l ih =>
  have hx:=h x List.mem_cons_self;have e:(BV++t).getD x 0=BV.getD x 0:=by rw[List.getD_eq_getElem?_getD,List.getD_eq_getElem?_getD,List.getElem?_append_left hx]
  rw[List.foldl_cons,List.foldl_cons,e,ih _ (fun y hy=>h y (List.mem_cons_of_mem _ hy))]
theorem zgm {α:Type}{V:List α}{x y:α}{j:Nat}(h:(V ++ [x])[j]?=some y):(j<V.length/\V[j]?=some y)∨(j=V.length/\y=x):=by
 by_cases hj:j<V.length
 ·rw[List.getElem?_append_left hj]at h;exact .inl ⟨hj,h⟩
 ·have hl:=(List.getElem?_eq_some_iff.1 h).1
  have hje:j=V.length:=by simp at hl;omega
  subst hje;exact .inr ⟨rfl,by simpa using h.symm⟩
theorem zi5 {V:List PL}{BV:List Nat}(h:PoolOK V BV){L R:List Nat}(hL:∀x∈L,x<V.length)(hR:∀x∈R,x<V.length) :
  PoolOK (za4 V BV L R).1 (za4 V BV L R).2.1/\(za4 V BV L R).1[(za4 V BV L R).2.2]?=some (zab L,zab R):=by
 unfold za4;split
 ·rename_i hm
  refine⟨h,?_⟩;have hi:=List.idxOf_lt_length_of_mem hm;show V[V.idxOf (zab L,zab R)]?=_
  rw[List.getElem?_eq_getElem hi,List.getElem_idxOf]
 ·rename_i hm
  have h1:∀x∈zab L,x<V.length:=fun x hx=>hL x ((zav L x).1 hx)
  have h2:∀x∈zab R,x<V.length:=fun x hx=>hR x ((zav R x).1 hx)
  refine⟨⟨by simp[h.len],fun j y hy=>?_,fun j y hy=>?_,?_,fun j y hy=>?_⟩,by simp⟩
  ·rcases zgm hy with ⟨_,hy⟩|⟨rfl,rfl⟩
   ·exact h.opts j y hy
   ·exact⟨h1,h2⟩
  ·rcases zgm hy with ⟨_,hy⟩|⟨rfl,rfl⟩
   ·exact h.up j y hy
   ·exact⟨zeb L,zeb R⟩
  ·rw[List.nodup_append]
   refine⟨h.nodup,by simp,fun a ha b hb e=>?_⟩;rw[List.mem_singleton]at hb;subst e;subst hb;exact hm ha
  ·rcases zgm hy with ⟨hj,hy⟩|⟨rfl,rfl⟩
   ·obtain⟨o1,o2⟩:=h.opts j y hy
    rw[zbt _ _ _ _ (fun x hx=>by have:=o2 x hx;rw[h.len];omega),zbt _ _ _ _ (fun x hx=>by have:=o1 x hx;rw[h.len];omega),←h.born j y hy,
     List.getD_eq_getElem?_getD,List.getD_eq_getElem?_getD,List.getElem?_append_left (by rw[h.len];exact hj)]
   ·rw[zbt _ _ _ _ (fun x hx=>by rw[h.len];exact h2 x hx),zbt _ _ _ _ (fun x hx=>by rw[h.len];exact h1 x hx),←h.len]
    simp[List.getD_eq_getElem?_getD]
theorem zad {V:List PL}{x:Nat}(h:x<V.length):V[x]?=some (za5 V x):=by
 unfold za5;rw[List.getD_eq_getElem?_getD,List.getElem?_eq_getElem h];rfl
theorem PoolOK.reach {V:List PL}{BV R:List Nat}(h:PoolOK V BV)(hR:∀r∈R,r<V.length){x:Nat}(hx:ReachV V R x):x<V.length:=by
 induction hx with
 | root hr=>exact hR _ hr
 | @left x y _ hy ih=>have:=(h.opts x _ (zad ih)).1 y hy;omega
 | @right x y _ hy ih=>have:=(h.opts x _ (zad ih)).2 y hy;omega
theorem PoolOK.lower {V:List PL}{BV:List Nat}(h:PoolOK V BV){x:Nat}(hx:x<V.length):(∀y∈(za5 V x).1,BV.getD y 0<BV.getD x 0)/\∀y∈(za5 V x).2,BV.getD y 0<BV.getD x 0:=by
 rw[h.born x _ (zad hx)];obtain⟨a1,a2⟩:=zka BV 0 (za5 V x).1;obtain⟨b1,b2⟩:=zka BV (zaa BV 0 (za5 V x).1) (za5 V x).2;exact⟨fun y hy=>by have:=a2 y hy;omega,fun y hy=>by have:=b2 y hy;omega⟩
theorem PoolOK.qok {V:List PL}{BV R Q:List Nat}(h:PoolOK V BV)(hR:∀r∈R,r<V.length)(hn:Q.Nodup)(hm:∀x,x∈Q↔ReachV V R x)(hs:Q.Pairwise fun a b=>BV.getD a 0≤BV.getD b 0):QOk V BV Q:=by
 have hl:∀x∈Q,x<V.length:=fun x hx=>h.reach hR ((hm x).1 hx)
 refine⟨hn,hs,fun x hx y hy=>⟨(hm y).2 (.left ((hm x).1 hx) hy),(h.lower (hl x hx)).1 y hy⟩,fun x hx y hy=>⟨(hm y).2 (.right ((hm x).1 hx) hy),(h.lower (hl x hx)).2 y hy⟩,fun x hx=>h.up x _ (zad (hl x hx)),fun x hx y hy e=>?_⟩;have e1:=zad (hl x hx);have e2:=zad (hl y hy);rw[e]at e1;exact(List.getElem?_inj (hl x hx) h.nodup).1 (e1.trans e2.symm)
theorem PoolOK.lens {V:List PL}{BV:List Nat}(h:PoolOK V BV){n:Nat}(hn:V.length<n):∀y∈V,y.1.length<n/\y.2.length<n:=by
 intro y hy;obtain⟨j,hj,rfl⟩:=List.getElem_of_mem hy;have e:=List.getElem?_eq_getElem hj
 obtain⟨o1,o2⟩:=h.opts j _ e;obtain⟨u1,u2⟩:=h.up j _ e;have:=zmx u1 o1;have:=zmx u2 o2;omega
theorem PoolOK.opts' {V:List PL}{BV:List Nat}(h:PoolOK V BV)(j:Nat)(y:PL)(hy:V[j]?=some y):(∀i∈y.1,i<V.length)/\∀i∈y.2,i<V.length:=by
 have hj:=(List.getElem?_eq_some_iff.1 hy).1;obtain⟨o1,o2⟩:=h.opts j y hy;exact⟨fun i hi=>by have:=o1 i hi;omega,fun i hi=>by have:=o2 i hi;omega⟩
theorem zsy (m:List Bool)(y x:Nat):(m.set y true).getD x false=true↔m.getD x false=true∨x=y/\x<m.length:=by
 rw[List.getD_eq_getElem?_getD,List.getD_eq_getElem?_getD,List.getElem?_set];by_cases e:y=x
 ·subst e
  by_cases h:y<m.length
  ·simp[h]
  ·simp[h]
 ·rw[if_neg e]
  constructor
  ·exact .inl
  ·rintro(h|⟨h,_⟩)
   ·exact h
   ·exact absurd h.symm e
theorem ztm (m:List Bool)(L:List Nat)(x:Nat):(zbc m L).getD x false=true↔m.getD x false=true∨x∈L/\x<m.length:=by
 unfold zbc;induction L generalizing m with
 | nil=>simp
 | cons y l ih =>
  rw[List.foldl_cons,ih,zsy,List.length_set,List.mem_cons];constructor
  ·rintro((h|h)|h)
   ·exact .inl h
   ·exact .inr ⟨.inl h.1,h.2⟩
   ·exact .inr ⟨.inr h.1,h.2⟩
  ·rintro(h|⟨h|h,h2⟩)
   ·exact .inl (.inl h)
   ·exact .inl (.inr ⟨h,h2⟩)
   ·exact .inr ⟨h,h2⟩
theorem zdq (V:List PL)(m:List Bool)(k x:Nat):(zc2 V m k).getD x false=true↔m.getD x false=true∨m.getD k false=true/\(x∈(za5 V k).1∨x∈(za5 V k).2)/\x<m.length:=by
 unfold zc2 za5;split
 ·rename_i h
  rw[ztm,ztm,zan];constructor
  ·rintro((h1|h1)|h1)
   ·exact .inl h1
   ·exact .inr ⟨h,.inl h1.1,h1.2⟩
   ·exact .inr ⟨h,.inr h1.1,h1.2⟩
  ·rintro(h1|⟨_,h1|h1,h2⟩)
   ·exact .inl (.inl h1)
   ·exact .inl (.inr ⟨h1,h2⟩)
   ·exact .inr ⟨h1,h2⟩
 ·rename_i h
  constructor
  ·exact .inl
  ·rintro(h1|h1)
   ·exact h1
   ·exact absurd h1.1 h
theorem zoy {V:List PL}{BV:List Nat}(h:PoolOK V BV){r:Nat}(hr:r<V.length)(n:Nat):∀(m:List Bool),n≤r+1→m.length=r+1→(∀x,m.getD x false=true→ReachV V [r] x)→m.getD r false=true →
  (∀x,n≤x→m.getD x false=true→∀y,y∈(za5 V x).1∨y∈(za5 V x).2→m.getD y false=true)→∀x,(zbh V n m).getD x false=true↔ReachV V [r] x:=by
 induction n with
 | zero =>
  intro m _ _ h1 h2 h3 x;refine⟨h1 x,fun hx=>?_⟩;induction hx with
  | root hx=>rw[List.mem_singleton]at hx;subst hx;exact h2
  | left _ hy ih=>exact h3 _ (Nat.zero_le _) ih _ (.inl hy)
  | right _ hy ih=>exact h3 _ (Nat.zero_le _) ih _ (.inr hy)
 | succ n ih =>
  intro m hn hl h1 h2 h3 x;unfold zbh;have hlow:∀(k y:Nat),k<V.length→(y∈(za5 V k).1∨y∈(za5 V k).2)→y<k:=fun k y hk hy=>by
   obtain⟨o1,o2⟩:=h.opts k _ (zad hk);rcases hy with hy|hy
   ·exact o1 y hy
   ·exact o2 y hy
  refine ih _ (by omega) (by rw[zfg];exact hl) (fun y hy=>?_) ((zdq V m n r).2 (.inl h2)) (fun k hk hm y hy=>?_) x
  ·rcases (zdq V m n y).1 hy with hy|⟨hn1,hy,_⟩
   ·exact h1 y hy
   ·rcases hy with hy|hy
    ·exact .left (h1 n hn1) hy
    ·exact .right (h1 n hn1) hy
  ·have hmk:m.getD k false=true:=by
    rcases (zdq V m n k).1 hm with hm|⟨_,hm,_⟩
    ·exact hm
    ·have:=hlow n k (by omega) hm;omega
   have hkl:k<r+1:=by
    rcases Nat.lt_or_ge k (r+1)with q|q
    ·exact q
    ·rw[List.getD_eq_getElem?_getD,List.getElem?_eq_none (by omega)]at hmk;cases hmk
   rw[zdq];by_cases e:k=n
   ·subst e
    exact .inr ⟨hmk,hy,by have:=hlow k y (by omega) hy;omega⟩
   ·exact .inl (h3 k (by omega) hmk y hy)
theorem zks {V:List PL}{BV:List Nat}(h:PoolOK V BV){r:Nat}(hr:r<V.length)(x:Nat):(zag V r).getD x false=true↔ReachV V [r] x:=by
 have h0:∀y,((List.replicate (r+1) false).set r true).getD y false=true↔y=r:=fun y=>by
  rw[zsy];constructor
  ·rintro(q|q)
   ·rw[List.getD_eq_getElem?_getD,List.getElem?_replicate]at q
    split at q <;> cases q
   ·exact q.1
  ·rintro rfl
   exact .inr ⟨rfl,by simp⟩
 refine zoy h hr (r+1) _ (Nat.le_refl _) (by simp) (fun y hy=>?_) ((h0 r).2 rfl) (fun k hk hm=>?_) x
 ·rw[(h0 y).1 hy];exact .root (by simp)
 ·have:=(h0 k).1 hm;omega
def grp (BV:List Nat)(need:List Bool)(n b:Nat):List Nat:=(List.range n).filter fun k=>decide (need.getD k false=true/\BV.getD k 0=b)
theorem yb4 (BV:List Nat)(need:List Bool)(n b:Nat):grp BV need (n+1) b=if need.getD n false=true/\BV.getD n 0=b then grp BV need n b ++ [n]else grp BV need n b:=by
 unfold grp;rw[List.range_succ,List.filter_append];split <;> simp_all
theorem ze4 {BV:List Nat}{need:List Bool}{n b x:Nat}:x∈grp BV need n b↔x<n/\need.getD x false=true/\BV.getD x 0=b:=by
 unfold grp;rw[List.mem_filter,List.mem_range,decide_eq_true_eq]
theorem zpe (BV:List Nat)(need:List Bool)(n b:Nat):(grp BV need n b).Nodup:=List.nodup_range.filter _
theorem ydd (key:Nat→PL)(K:List Nat)(k:Nat):insF (K.map key,K) (key k) k=((K.takeWhile (fun b=>zah (key b) (key k))++k::K.dropWhile (fun b=>zah (key b) (key k))).map key,K.takeWhile (fun b=>zah (key b) (key k))++k::K.dropWhile (fun b=>zah (key b) (key k))):=by
 have hp:posA (K.map key) (key k)=(K.takeWhile (fun b=>zah (key b) (key k))).length:=by
  unfold posA;rw[List.takeWhile_map,List.length_map];rfl
 have ht:K.take (posA (K.map key) (key k))=K.takeWhile (fun b=>zah (key b) (key k)):=by
  rw[hp];exact(List.prefix_iff_eq_take.1 (List.takeWhile_prefix _)).symm
 have hd:K.drop (posA (K.map key) (key k))=K.dropWhile (fun b=>zah (key b) (key k)):=by
  rw[hp];exact(congrArg (List.drop _) (List.takeWhile_append_dropWhile (p:=fun b=>zah (key b) (key k)) (l:=K)).symm).trans List.drop_left
 unfold insF;simp only[←List.map_take,←List.map_drop,ht,hd,List.map_append,List.map_cons]
theorem zv1 (key:Nat→PL)(K:List Nat)(k:Nat)(h:K.Pairwise fun a b=>zah (key b) (key a)=false) :
  (K.takeWhile (fun b=>zah (key b) (key k))++k::K.dropWhile (fun b=>zah (key b) (key k))).Pairwise fun a b=>zah (key b) (key a)=false:=by
 have hs:=h;rw[←List.takeWhile_append_dropWhile (p:=fun b=>zah (key b) (key k)) (l:=K),List.pairwise_append]at hs;obtain⟨s1,s2,s3⟩:=hs;have hd:∀b∈K.dropWhile (fun b=>zah (key b) (key k)),zah (key b) (key k)=false:=by
  intro b hb;cases hl:K.dropWhile (fun b=>zah (key b) (key k))with
  | nil=>rw[hl]at hb;cases hb
  | cons b0 l =>
   have h0:=List.head_dropWhile_not (fun b=>zah (key b) (key k)) (l:=K) (by rw[hl];simp);simp only[hl,List.head_cons]at h0;rw[hl]at hb s2;rcases List.mem_cons.1 hb with rfl|hb
   ·simpa using h0
   ·have h1:=(List.pairwise_cons.1 s2).1 b hb
    cases hc:zah (key b) (key k)with
    | false=>rfl
    | true =>
     exfalso
     have h0:zah (key b0) (key k)=false:=by simpa using h0
     cases hk:zah (key k) (key b0)with
     | true=>rw[zek hc hk]at h1;cases h1
     | false =>
      have e:=zii h0 hk;rw[e]at h1;rw[hc]at h1;cases h1
 refine List.pairwise_append.2 ⟨s1,List.pairwise_cons.2 ⟨hd,s2⟩,fun a ha b hb=>?_⟩;have h1:zah (key a) (key k)=true:=by
  exact List.all_eq_true.1 (List.all_takeWhile (p:=fun b=>zah (key b) (key k)) (l:=K)) a ha
 rcases List.mem_cons.1 hb with rfl|hb
 ·exact zem h1
 ·exact s3 a ha b hb
theorem ya5 (V:List PL)(BV:List Nat)(need:List Bool)(A:List Nat)(b n:Nat):∃K:List Nat,zdc V BV need A b n=(K.map (fun k=>keyF A (za5 V k)),K)/\K.Perm (grp BV need n b)/\K.Pairwise fun x y=>zah (keyF A (za5 V y)) (keyF A (za5 V x))=false:=by
 induction n with
 | zero=>exact⟨[],rfl,by simp[grp],by simp⟩
 | succ n ih =>
  obtain⟨K,h1,h2,h3⟩:=ih;rw[zdy,h1,yb4];unfold zee;split
  ·refine⟨_,ydd (fun k=>keyF A (za5 V k)) K n,?_,zv1 (fun k=>keyF A (za5 V k)) K n h3⟩
   refine List.perm_middle.trans ?_
   rw[List.takeWhile_append_dropWhile];exact(List.Perm.cons n h2).trans (List.perm_append_singleton n _).symm
  ·exact⟨K,rfl,h2,h3⟩
theorem yd5 (K:List Nat):∀(LL:List PL) (s:List Nat × List PL),LL.length=K.length→K.Nodup→(∀x∈K,x<s.1.length) →
  ((LL.zip K).foldl layF s).2=s.2++LL/\(∀x,x ∉ K→((LL.zip K).foldl layF s).1.getD x 0=s.1.getD x 0)/\∀x∈K,((LL.zip K).foldl layF s).1.getD x 0=s.2.length+K.idxOf x:=by
 induction K with
 | nil =>
  intro LL s hl _ _;cases LL with
  | nil=>exact⟨by simp,fun _ _=>rfl,by simp⟩
  | cons y l=>simp at hl
 | cons k K ih =>
  intro LL s hl hn hlt;cases LL with
  | nil=>simp at hl
  | cons y l =>
   rw[List.nodup_cons]at hn;rw[List.zip_cons_cons,List.foldl_cons];obtain⟨i1,i2,i3⟩:=ih l (layF s (y,k)) (by simpa using hl) hn.2 (fun x hx=>by
    unfold layF;rw[List.length_set];exact hlt x (List.mem_cons_of_mem _ hx))
   have hk:=hlt k List.mem_cons_self;have hg:∀x,(layF s (y,k)).1.getD x 0=if x=k then s.2.length else s.1.getD x 0:=fun x=>by
    unfold layF;rw[List.getD_eq_getElem?_getD,List.getElem?_set];by_cases e:k=x
    ·subst e;simp[hk]
    ·rw[if_neg e,if_neg (fun q=>e q.symm),List.getD_eq_getElem?_getD]
   refine⟨by rw[i1];unfold layF;simp,fun x hx=>?_,fun x hx=>?_⟩
   ·rw[List.mem_cons,not_or]at hx
    rw[i2 x hx.2,hg,if_neg hx.1]
   ·by_cases e:x=k
    ·subst e
     rw[i2 x hn.1,hg,if_pos rfl];simp
    ·have hxK:=(List.mem_cons.1 hx).resolve_left e
     rw[i3 x hxK,List.idxOf_cons,show(k == x)=false from by simpa using fun q:k=x=>e q.symm];unfold layF;simp only[List.length_append,List.length_cons,List.length_nil,Bool.cond_false];omega
def grps (BV:List Nat)(need:List Bool)(r n:Nat):List Nat:=(List.range n).flatMap fun b=>grp BV need (r+1) b
theorem zhk (BV:List Nat)(need:List Bool)(r n:Nat):grps BV need r (n+1)=grps BV need r n++grp BV need (r+1) n:=by simp[grps,List.range_succ]
theorem zk5 {BV:List Nat}{need:List Bool}{r n x:Nat}:x∈grps BV need r n↔x<r+1/\need.getD x false=true/\BV.getD x 0<n:=by
 unfold grps;rw[List.mem_flatMap];constructor
 ·rintro⟨b,hb,hx⟩
  obtain⟨h1,h2,h3⟩:=ze4.1 hx;exact⟨h1,h2,by rw[h3];exact List.mem_range.1 hb⟩
 ·rintro⟨h1,h2,h3⟩
  exact⟨_,List.mem_range.2 h3,ze4.2 ⟨h1,h2,rfl⟩⟩
theorem zs5 (BV:List Nat)(need:List Bool)(r n:Nat):(grps BV need r n).Nodup/\(grps BV need r n).Pairwise fun a b=>BV.getD a 0≤BV.getD b 0:=by
 induction n with
 | zero=>simp[grps]
 | succ n ih =>
  rw[zhk];constructor
  ·rw[List.nodup_append]
   refine⟨ih.1,zpe _ _ _ _,fun a ha b hb e=>?_⟩;subst e;have:=(zk5.1 ha).2.2;have:=(ze4.1 hb).2.2;omega
  ·refine List.pairwise_append.2 ⟨ih.2,List.pairwise_of_forall_mem_list fun a ha b hb=>?_,fun a ha b hb=>?_⟩
   ·rw[(ze4.1 ha).2.2,(ze4.1 hb).2.2];exact Nat.le_refl _
   ·have:=(zk5.1 ha).2.2
    have:=(ze4.1 hb).2.2;omega
theorem zs6 (BV:List Nat) (need:List Bool) (r:Nat) {n N:Nat} (h:n≤N):grps BV need r n <+: grps BV need r N:=by
  induction N with
  | zero => have : n = 0 := by omega
            subst this;exact List.prefix_refl _
  | succ N ih =>
    rcases Nat.lt_or_ge N n with q | q
    · have : n = N + 1 := by omega
      subst this;exact List.prefix_refl _
    · rw [zhk];exact (ih q).trans (List.prefix_append _ _)
theorem zm8 {V:List PL}{BV:List Nat}(h:PoolOK V BV){r:Nat}(hr:r<V.length):∃Q,OrderIs V BV [r] Q (zdg V BV r):=by
 obtain⟨need,hneed⟩:∃n,n=zag V r:=⟨_,rfl⟩;have hN:∀x,need.getD x false=true↔ReachV V [r] x:=fun x=>by rw[hneed];exact zks h hr x
 have hle:∀x,ReachV V [r] x→x<r+1/\BV.getD x 0≤BV.getD r 0/\x<V.length:=by
  intro x hx;induction hx with
  | root hx=>rw[List.mem_singleton]at hx;subst hx;exact⟨Nat.lt_succ_self _,Nat.le_refl _,hr⟩
  | @left x y _ hy ih =>
   have h1:=(h.lower ih.2.2).1 y hy;have h2:=(h.opts x _ (zad ih.2.2)).1 y hy;omega
  | @right x y _ hy ih =>
   have h1:=(h.lower ih.2.2).2 y hy;have h2:=(h.opts x _ (zad ih.2.2)).2 y hy;omega
 obtain⟨N,hNN⟩:∃N,N=BV.getD r 0+1:=⟨_,rfl⟩;obtain⟨Q,hQ⟩:∃Q,Q=grps BV need r N:=⟨_,rfl⟩;have hQn:=zs5 BV need r N;rw[←hQ]at hQn;have hQm:∀x,x∈Q↔ReachV V [r] x:=fun x=>by
  rw[hQ,zk5,hN];exact⟨fun q=>q.2.1,fun q=>⟨(hle x q).1,q,by have:=(hle x q).2.1;omega⟩⟩
 have q:QOk V BV Q:=h.qok (R:=[r]) (by simpa using hr) hQn.1 hQm hQn.2;have key:∀n,n≤N→∃A,GInv V BV Q A (grps BV need r n).length/\(zam V BV need r n).2=A.map (fun x=>zbp A (za5 V x))/\∀x∈A,(zam V BV need r n).1.getD x 0=A.idxOf x:=by
  intro n;induction n with
  | zero=>intro _;exact⟨[],GInv.start V BV Q,rfl,by simp⟩
  | succ n ih =>
   intro hn;obtain⟨A,hA,hF,hX⟩:=ih (by omega);have hpre:=zs6 BV need r (n:=n+1) (N:=N) hn;rw[←hQ,zhk]at hpre;obtain⟨t,ht⟩:=hpre;have hdrop:Q.drop (grps BV need r n).length=grp BV need (r+1) n++t:=by rw[←ht,List.append_assoc,List.drop_left]
   obtain⟨K,hK,hKp,hKs⟩:=ya5 V BV need (zam V BV need r n).1 n (r+1);have hlen:=(zcx V BV need r n).1;have hKlt:∀x∈K,x<(zam V BV need r n).1.length:=fun x hx=>by
    rw[hlen];exact(ze4.1 ((hKp.mem_iff).1 hx)).1
   have hKn:K.Nodup:=(hKp.nodup_iff).2 (zpe _ _ _ _);obtain⟨l1,l2,l3⟩:=yd5 K (K.map fun k=>keyF (zam V BV need r n).1 (za5 V k)) (zam V BV need r n) (by simp) hKn hKlt;have hstep:zam V BV need r (n+1)=((K.map fun k=>keyF (zam V BV need r n).1 (za5 V k)).zip K).foldl layF (zam V BV need r n):=by
    rw[zff];unfold zv5;rw[hK]
   have hfl:(zam V BV need r n).2.length=A.length:=by rw[hF];simp
   rw[zhk,hstep];by_cases hm:grp BV need (r+1) n=[]
   ·have hK0:K=[]:=by rw[hm]at hKp;exact hKp.eq_nil
    subst hK0;rw[hm,List.append_nil];exact⟨A,hA,hF,hX⟩
   ·have hlt:(grps BV need r n).length<Q.length:=by
     rw[←ht];have:0<(grp BV need (r+1) n).length:=List.length_pos_iff.2 hm;simp only[List.length_append];omega
    have hQn0:BV.getD (Q.getD (grps BV need r n).length 0) 0=n:=by
     have e:Q.getD (grps BV need r n).length 0∈grp BV need (r+1) n:=by
      have e2:Q[(grps BV need r n).length]?=(grp BV need (r+1) n)[0]?:=by
       rw[←ht,List.append_assoc,List.getElem?_append_right (Nat.le_refl _),Nat.sub_self,List.getElem?_append_left (List.length_pos_iff.2 hm)]
      rw[List.getD_eq_getElem?_getD,e2,List.getElem?_eq_getElem (List.length_pos_iff.2 hm)];exact List.getElem_mem _
     exact(ze4.1 e).2.2
    have hgr:∀x∈grp BV need (r+1) n,x∈Q/\BV.getD x 0=BV.getD (Q.getD (grps BV need r n).length 0) 0:=fun x hx=>by
     obtain⟨g1,g2,g3⟩:=ze4.1 hx;exact⟨(hQm x).2 ((hN x).1 g2),by rw[hQn0,g3]⟩
    have hkey:∀x∈grp BV need (r+1) n,keyF (zam V BV need r n).1 (za5 V x)=zbp A (za5 V x):=fun x hx=>by
     obtain⟨g1,g2⟩:=q.group hA hlt (hgr x hx).1 (hgr x hx).2;have e:∀l:List Nat,(∀y∈l,y∈A)→zab (za2 (zam V BV need r n).1 l)=zet A l:=fun l hl=>by
      unfold zet za2;rw[List.map_congr_left fun y hy=>hX y (hl y hy)]
     unfold keyF zbp;rw[e _ g1,e _ g2]
    have hstp:=GInv.step q hA (m:=(grp BV need (r+1) n).length) (G:=grp BV need (r+1) n) (G':=K) (List.length_pos_iff.2 hm) (by rw[←ht];simp only[List.length_append];omega)
     (by rw[hdrop,List.take_left]) (fun x hx=>(hgr x hx).2) (by
      rcases Nat.lt_or_ge ((grps BV need r n).length+(grp BV need (r+1) n).length) Q.length with q1|q1
      ·refine .inr ?_
       rw[hQn0];intro e;have hin:Q.getD ((grps BV need r n).length+(grp BV need (r+1) n).length) 0∈t:=by
        have e2:Q[(grps BV need r n).length+(grp BV need (r+1) n).length]?=t[0]?:=by
         rw[←ht,List.getElem?_append_right (by simp),List.length_append,Nat.sub_self]
        rw[List.getD_eq_getElem?_getD,e2];have hl:(grps BV need r n++grp BV need (r+1) n++t).length=Q.length:=by rw[ht]
        simp only[List.length_append]at hl;rw[List.getElem?_eq_getElem (by omega)];exact List.getElem_mem _
       have hnd:=hQn.1;rw[←ht,List.nodup_append]at hnd;have hxQ:Q.getD ((grps BV need r n).length+(grp BV need (r+1) n).length) 0∈Q:=by rw[←ht];exact List.mem_append_right _ (by rw[ht];exact hin)
       have hre:=(hQm _).1 hxQ;refine hnd.2.2 _ (List.mem_append_right _ (ze4.2 ⟨(hle _ hre).1,(hN _).2 hre,e⟩)) _ hin rfl
      ·exact .inl (by
        have hl:(grps BV need r n++grp BV need (r+1) n++t).length=Q.length:=by rw[ht]
        simp only[List.length_append]at hl;omega)) hKp (hKs.imp_of_mem fun {a b} ha hb hk=>by
      rw[hkey a ((hKp.mem_iff).1 ha),hkey b ((hKp.mem_iff).1 hb)]at hk;exact hk)
    have hAd:∀x∈A,x ∉ K:=fun x hx hxK=>by
     have h1:=(hA.mem x).1 hx;have h2:=(hKp.mem_iff).1 hxK;rw[←ht,List.append_assoc,List.take_left]at h1;have:=(zk5.1 h1).2.2;have:=(ze4.1 h2).2.2;omega
    refine⟨A++K,by rw[List.length_append];exact hstp,?_,fun x hx=>?_⟩
    ·rw[l1,hF,List.map_append]
     congr 1
     ·refine List.map_congr_left fun x hx=>?_
      exact(zci (q.closed hA hx).1 (q.closed hA hx).2).symm
     ·refine List.map_congr_left fun x hx=>?_
      have hxg:=(hKp.mem_iff).1 hx;obtain⟨g1,g2⟩:=q.group hA hlt (hgr x hxg).1 (hgr x hxg).2;rw[hkey x hxg,zci g1 g2]
    ·rw[List.idxOf_append]
     by_cases hxA:x∈A
     ·rw[if_pos hxA,l2 x (hAd x hxA),hX x hxA]
     ·have hxK:=(List.mem_append.1 hx).resolve_left hxA
      rw[if_neg hxA,l3 x hxK,hfl];omega
 obtain⟨A,hA,hF,_⟩:=key N (Nat.le_refl _);rw[←hQ]at hA;refine⟨A,?_⟩;have e:zdg V BV r=A.map fun x=>zbp A (za5 V x):=by
  unfold zdg;rw[←hneed,←hNN,hF]
 rw[e];exact hA.order hQn.1 hQm
theorem zd8 {α:Type}{P:List α→Prop}(h0:P [])(h1:∀l a,P l→P (l ++ [a])):∀l,P l:=fun l=>by
 have h:∀m:List α,P m.reverse:=fun m=>by
  induction m with
  | nil=>exact h0
  | cons a m ih=>rw[List.reverse_cons];exact h1 _ _ ih
 have:=h l.reverse;rwa [List.reverse_reverse]at this
def za0 (V:List PL):List Nat:=V.foldl (fun C y=>C ++ [mkC (za2 C y.1) (za2 C y.2)]) []
theorem zeh (V:List PL)(y:PL):za0 (V ++ [y])=za0 V ++ [mkC (za2 (za0 V) y.1) (za2 (za0 V) y.2)]:=by simp[za0]
theorem za1 (V:List PL):(za0 V).length=V.length:=by
 induction V using zd8 with
 | h0=>rfl
 | h1 l a ih=>rw[zeh,List.length_append,List.length_append,ih];rfl
theorem zcm (C t L:List Nat)(h:∀x∈L,x<C.length):za2 (C++t) L=za2 C L:=by
 unfold za2;refine List.map_congr_left fun x hx=>?_
 rw[List.getD_eq_getElem?_getD,List.getD_eq_getElem?_getD,List.getElem?_append_left (h x hx)]
theorem ze7 {C t:List Nat}{j:Nat}(h:j<C.length):(C++t).getD j 0=C.getD j 0:=by
 rw[List.getD_eq_getElem?_getD,List.getD_eq_getElem?_getD,List.getElem?_append_left h]
theorem zen {V V':List PL}(h:V <+: V'):za0 V <+: za0 V':=by
 obtain⟨t,rfl⟩:=h;induction t using zd8 with
 | h0=>rw[List.append_nil];exact List.prefix_refl _
 | h1 l a ih=>rw[←List.append_assoc,zeh];exact ih.trans (List.prefix_append _ _)
def OptsOK (V:List PL):Prop:=∀(j:Nat) (y:PL),V[j]?=some y→(∀i∈y.1,i<j)/\∀i∈y.2,i<j
theorem zc8 (V:List PL):OptsOK V→∀(j:Nat) (x:PL),V[j]?=some x→(za0 V).getD j 0=mkC (za2 (za0 V) x.1) (za2 (za0 V) x.2):=by
 induction V using zd8 with
 | h0=>intro _ j x h;simp at h
 | h1 l a ih =>
  intro ho j x hx;have hol:OptsOK l:=fun j y hy=>ho j y (by rw[List.getElem?_append_left (List.getElem?_eq_some_iff.1 hy).1];exact hy)
  have hl:=za1 l;obtain⟨o1,o2⟩:=ho j x hx;rw[zeh];rcases zgm hx with ⟨hj,hx⟩|⟨rfl,rfl⟩
  ·rw[ze7 (by omega),zcm _ _ _ (fun i hi=>by have:=o1 i hi;omega),zcm _ _ _ (fun i hi=>by have:=o2 i hi;omega)]
   exact ih hol j x hx
  ·rw[zcm _ _ _ (fun i hi=>by have:=o1 i hi;omega),zcm _ _ _ (fun i hi=>by have:=o2 i hi;omega)]
   rw[List.getD_eq_getElem?_getD,←hl];simp
theorem zmh (BL:List Nat)(m:Nat)(L:List Nat):m≤zaa BL m L/\(∀x∈L,BL.getD x 0+1≤zaa BL m L)/\(zaa BL m L=m∨∃x∈L,zaa BL m L=BL.getD x 0+1):=zm9 (fun i=>BL.getD i 0+1) L m
theorem PoolOK.book {V:List PL}{BV:List Nat}(h:PoolOK V BV):BookC V (za0 V):=by
 have hc:=zc8 V h.opts;have hl:=za1 V;refine⟨hl,h.opts,h.up,hc,?_⟩;have key:∀n i j,i+j<n→i<V.length→j<V.length→(za0 V).getD i 0=(za0 V).getD j 0→i=j:=by
  intro n;induction n with
  | zero=>intro i j h;omega
  | succ n ih =>
   intro i j hn hi hj e;have ei:=List.getElem?_eq_getElem hi
   have ej:=List.getElem?_eq_getElem hj
   obtain⟨p1,p2⟩:=h.opts i _ ei;obtain⟨q1,q2⟩:=h.opts j _ ej;obtain⟨u1,u2⟩:=h.up i _ ei;obtain⟨v1,v2⟩:=h.up j _ ej;rw[hc i _ ei,hc j _ ej]at e;have side:∀(a b:Nat) (l m:List Nat),a+b<n+1→a<V.length→b<V.length→(∀x∈l,x<a)→(∀x∈m,x<b)→(∀z,z∈za2 (za0 V) l→z∈za2 (za0 V) m)→∀x∈l,x∈m:=by
    intro a b l m hab ha hb hl' hm' hs x hx;obtain⟨y,hy,ey⟩:=mem_atAll.1 (hs _ (mem_atAll.2 ⟨x,hx,rfl⟩));have h1:=hl' x hx;have h2:=hm' y hy;rw[ih x y (by omega) (by omega) (by omega) ey.symm];exact hy
   have s1:∀z,z∈za2 (za0 V) V[i].1↔z∈za2 (za0 V) V[j].1:=fun z=>by rw[←zae _ (za2 (za0 V) V[i].2),e,zae]
   have s2:∀z,z∈za2 (za0 V) V[i].2↔z∈za2 (za0 V) V[j].2:=fun z=>by rw[←zaf (za2 (za0 V) V[i].1),e,zaf]
   have e1:V[i].1=V[j].1:=zim u1 v1 fun x=>⟨side i j _ _ hn hi hj p1 q1 (fun z=>(s1 z).1) x,side j i _ _ (by omega) hj hi q1 p1 (fun z=>(s1 z).2) x⟩
   have e2:V[i].2=V[j].2:=zim u2 v2 fun x=>⟨side i j _ _ hn hi hj p2 q2 (fun z=>(s2 z).1) x,side j i _ _ (by omega) hj hi q2 p2 (fun z=>(s2 z).2) x⟩
   exact(List.getElem_inj h.nodup).1 (Prod.ext e1 e2)
 refine List.nodup_iff_pairwise_ne.2 (List.pairwise_iff_getElem.2 fun i j hi hj hij e=>?_);have:=key (i+j+1) i j (by omega) (by omega) (by omega) (by rw[List.getD_eq_getElem?_getD,List.getD_eq_getElem?_getD,List.getElem?_eq_getElem hi,List.getElem?_eq_getElem hj,e]);omega
theorem PoolOK.births {V:List PL}{BV:List Nat}(h:PoolOK V BV):∀j,j<V.length→BV.getD j 0=bornC ((za0 V).getD j 0):=by
 intro j;induction j using Nat.strongRecOn with
 | _ j ih =>
  intro hj;have ej:=List.getElem?_eq_getElem hj
  obtain⟨o1,o2⟩:=h.opts j _ ej;rw[h.born j _ ej,zc8 V h.opts j _ ej];obtain⟨a1,a2,a3⟩:=zmh BV 0 V[j].1;obtain⟨b1,b2,b3⟩:=zmh BV (zaa BV 0 V[j].1) V[j].2;have hopt:∀i,optC (mkC (za2 (za0 V) V[j].1) (za2 (za0 V) V[j].2)) i↔(∃x∈V[j].1,(za0 V).getD x 0=i)∨∃x∈V[j].2,(za0 V).getD x 0=i:=fun i=>by
   unfold optC;rw[zae,zaf,mem_atAll,mem_atAll]
  refine(ybn (fun i hi=>?_) ?_).symm
  ·rcases (hopt i).1 hi with ⟨x,hx,rfl⟩|⟨x,hx,rfl⟩
   ·rw[←ih x (o1 x hx) (by have:=o1 x hx;omega)]
    have:=a2 x hx;omega
   ·rw[←ih x (o2 x hx) (by have:=o2 x hx;omega)]
    have:=b2 x hx;omega
  ·rcases b3 with b3|⟨x,hx,b3⟩
   ·rcases a3 with a3|⟨x,hx,a3⟩
    ·exact .inl (by omega)
    ·refine .inr ⟨_,(hopt _).2 (.inl ⟨x,hx,rfl⟩),?_⟩
     rw[←ih x (o1 x hx) (by have:=o1 x hx;omega)];omega
   ·refine .inr ⟨_,(hopt _).2 (.inr ⟨x,hx,rfl⟩),?_⟩
    rw[←ih x (o2 x hx) (by have:=o2 x hx;omega)];omega
theorem PoolOK.form {V:List PL}{BV:List Nat}(h:PoolOK V BV){r:Nat}(hr:r<V.length):FormC ((za0 V).getD r 0) (zdg V BV r):=by
 obtain⟨Q,O⟩:=zm8 h hr;exact⟨_,zn3 h.book h.births hr O⟩
theorem zde (BL:List Nat)(m K:Nat)(L:List Nat):zaa BL m L≤K↔m≤K/\∀x∈L,BL.getD x 0+1≤K:=by
 obtain⟨a1,a2,a3⟩:=zmh BL m L;constructor
 ·exact fun h=>⟨by omega,fun x hx=>by have:=a2 x hx;omega⟩
 ·rintro⟨h1,h2⟩
  rcases a3 with a3|⟨x,hx,a3⟩
  ·omega
  ·have:=h2 x hx;omega
theorem zyv (BL:List Nat){L L' R R':List Nat}(h1:∀x,x∈L↔x∈L')(h2:∀x,x∈R↔x∈R'):zaa BL (zaa BL 0 L) R=zaa BL (zaa BL 0 L') R':=by
 have key:∀ {A A' B B':List Nat},(∀x,x∈A↔x∈A')→(∀x,x∈B↔x∈B')→zaa BL (zaa BL 0 A) B≤zaa BL (zaa BL 0 A') B':=by
  intro A A' B B' e1 e2;obtain⟨i1,i2⟩:=(zde BL (zaa BL 0 A') _ B').1 (Nat.le_refl _);obtain⟨j1,j2⟩:=(zde BL 0 _ A').1 i1;exact(zde _ _ _ _).2 ⟨(zde _ _ _ _).2 ⟨j1,fun x hx=>j2 x ((e1 x).1 hx)⟩,fun x hx=>i2 x ((e2 x).1 hx)⟩
 exact Nat.le_antisymm (key h1 h2) (key (fun x=>(h1 x).symm) fun x=>(h2 x).symm)
theorem zex {V:List PL}{BV:List Nat}(h:PoolOK V BV)(L R:List Nat):putB V BV L R=za4 V BV L R:=by
 have hb:(zev BV L R).1=zaa BV (zaa BV 0 (zab L)) (zab R):=zyv BV (fun x=>(zav L x).symm) fun x=>(zav R x).symm
 have h2:(zev BV L R).2=(zab L,zab R):=rfl;unfold putB za4;simp only[h2];by_cases hm:(zab L,zab R)∈V
 ·rw[if_pos hm]
  have hi:=List.idxOf_lt_length_of_mem hm;have ei:V[V.idxOf (zab L,zab R)]?=some (zab L,zab R):=by rw[List.getElem?_eq_getElem hi,List.getElem_idxOf]
  have e:zrm V BV (zev BV L R).1 (zab L,zab R)=V.idxOf (zab L,zab R):=by
   refine znx V BV _ _ _ hi h.len (fun j x y hj hx hy q=>?_) ?_ ei
   ·have hjl:=(List.getElem?_eq_some_iff.1 hx).1
    rw[q.2]at hx;obtain⟨_,ex⟩:=List.getElem?_eq_some_iff.1 hx
    have:V.idxOf V[j]=j:=List.Nodup.idxOf_getElem h.nodup j hjl;rw[ex]at this;omega
   ·have hbn:=h.born _ _ ei
    have hl:V.idxOf (zab L,zab R)<BV.length:=by rw[h.len];exact hi
    rw[List.getD_eq_getElem?_getD,List.getElem?_eq_getElem hl]at hbn;rw[List.getElem?_eq_getElem hl,hb,←hbn];rfl
  rw[e,if_pos hi]
 ·rw[if_neg hm]
  have e:=zi4 V BV (zev BV L R).1 (zab L,zab R) h.len (fun j x y hj hx hy q=>hm (by rw[←q.2];exact List.mem_of_getElem? hx));rw[if_neg e,hb]
theorem zp0 {V:List PL}{BV:List Nat}(h:PoolOK V BV){L R:List Nat}(hL:∀x∈L,x<V.length)(hR:∀x∈R,x<V.length) :
  (za0 (za4 V BV L R).1).getD (za4 V BV L R).2.2 0=mkC (za2 (za0 V) L) (za2 (za0 V) R):=by
 obtain⟨h1,h2⟩:=zi5 h hL hR;obtain⟨_,_,hp⟩:=zge V BV L R;have hl:=za1 V;rw[zc8 _ h1.opts _ _ h2];obtain⟨t,ht⟩:=zen hp;rw[←ht];refine zxx (fun i=>?_) fun i=>?_
 ·rw[zcm _ _ _ (fun x hx=>by rw[hl];exact hL x ((zav L x).1 hx)),mem_atAll,mem_atAll]
  exact⟨fun⟨x,hx,e⟩=>⟨x,(zav L x).1 hx,e⟩,fun⟨x,hx,e⟩=>⟨x,(zav L x).2 hx,e⟩⟩
 ·rw[zcm _ _ _ (fun x hx=>by rw[hl];exact hR x ((zav R x).1 hx)),mem_atAll,mem_atAll]
  exact⟨fun⟨x,hx,e⟩=>⟨x,(zav R x).1 hx,e⟩,fun⟨x,hx,e⟩=>⟨x,(zav R x).2 hx,e⟩⟩
theorem zy1 {b1 b2 b3:Nat}{x1 x2 x3:PL}(h:klt b1 x1 b2 x2)(h':klt b2 x2 b3 x3):klt b1 x1 b3 x3:=by
 rcases h with h|⟨e,h⟩
 ·rcases h' with h'|⟨e',_⟩
  ·exact .inl (by omega)
  ·exact .inl (by omega)
 ·rcases h' with h'|⟨e',h'⟩
  ·exact .inl (by omega)
  ·exact .inr ⟨by omega,zek h h'⟩
theorem yd6 (b:Nat)(x:PL):¬klt b x b x:=fun h=>zpd h h
def zb1 (Fs:List PL):List Nat:=Fs.foldl (fun B y=>B ++ [zaa B (zaa B 0 y.1) y.2]) []
theorem ze8 (Fs:List PL)(y:PL):zb1 (Fs ++ [y])=zb1 Fs ++ [zaa (zb1 Fs) (zaa (zb1 Fs) 0 y.1) y.2]:=by simp[zb1]
theorem zcy (Fs:List PL):(zb1 Fs).length=Fs.length:=by
 induction Fs using zd8 with
 | h0=>rfl
 | h1 l a ih=>rw[ze8,List.length_append,List.length_append,ih];rfl
theorem OptsOK.cut {l:List PL}{a:PL}(ho:OptsOK (l ++ [a])):OptsOK l:=fun j z hz=>ho j z (by rw[List.getElem?_append_left (List.getElem?_eq_some_iff.1 hz).1];exact hz)
theorem BookUp.cut {l:List PL}{a:PL}(ho:BookUp (l ++ [a])):BookUp l:=fun j z hz=>ho j z (by rw[List.getElem?_append_left (List.getElem?_eq_some_iff.1 hz).1];exact hz)
theorem zmg (Fs:List PL):OptsOK Fs→∀(j:Nat) (y:PL),Fs[j]?=some y→(zb1 Fs).getD j 0=zaa (zb1 Fs) (zaa (zb1 Fs) 0 y.1) y.2:=by
 induction Fs using zd8 with
 | h0=>intro _ j y h;simp at h
 | h1 l a ih =>
  intro ho j y hy;have hl:=zcy l;obtain⟨o1,o2⟩:=ho j y hy;rw[ze8];rcases zgm hy with ⟨hj,hy⟩|⟨rfl,rfl⟩
  ·rw[zbt _ _ _ _ (fun x hx=>by have:=o2 x hx;omega),zbt _ _ _ _ (fun x hx=>by have:=o1 x hx;omega),ze7 (by omega)]
   exact ih ho.cut j y hy
  ·rw[zbt _ _ _ _ (fun x hx=>by have:=o2 x hx;omega),zbt _ _ _ _ (fun x hx=>by have:=o1 x hx;omega),List.getD_eq_getElem?_getD,←hl]
   simp
theorem zh9 {Fs:List PL}(ho:OptsOK Fs)(hu:BookUp Fs)(hn:Fs.Nodup):PoolOK Fs (zb1 Fs):=⟨zcy Fs,ho,hu,hn,zmg Fs ho⟩
theorem zpr (Fs:List PL):OptsOK Fs→BookUp Fs→Fs.Nodup→addB [] [] Fs=(Fs,zb1 Fs,List.range Fs.length):=by
 induction Fs using zd8 with
 | h0=>intro _ _ _;rfl
 | h1 l y ih =>
  intro ho hu hn;have hnl:l.Nodup:=(List.nodup_append.1 hn).1;have hnot:y ∉ l:=fun h=>(List.nodup_append.1 hn).2.2 y h y (by simp) rfl
  have hy:(l ++ [y])[l.length]?=some y:=by simp
  obtain⟨o1,o2⟩:=ho _ y hy;obtain⟨u1,u2⟩:=hu _ y hy;have hat:∀L:List Nat,(∀x∈L,x<l.length)→za2 (List.range l.length) L=L:=fun L hL=>zhx _ _ fun x hx=>by rw[zbf,if_pos (hL x hx)]
  have hput:za4 l (zb1 l) y.1 y.2=(l ++ [y],zb1 (l ++ [y]),l.length):=by
   unfold za4;rw[zgc _ u1,zgc _ u2,if_neg hnot,ze8]
  rw[zdf,ih ho.cut hu.cut hnl];unfold zh3;simp only[hat _ o1,hat _ o2,zex (zh9 ho.cut hu.cut hnl),hput];simp[List.range_succ]
theorem zps (Fs:List PL):OptsOK Fs→∀ {V:List PL}{BV:List Nat},PoolOK V BV→BookOK V BV→PoolOK (addB V BV Fs).1 (addB V BV Fs).2.1:=by
 induction Fs using zd8 with
 | h0=>intro _ V BV h _;exact h
 | h1 l y ih =>
  intro ho V BV h hb;obtain⟨k1,k2,k3,k4,k5⟩:=zh4 hb l ho.cut;have hp:=ih ho.cut h hb;have hy:(l ++ [y])[l.length]?=some y:=by simp
  obtain⟨o1,o2⟩:=ho _ y hy;rw[zdf];show PoolOK (putB _ _ _ _).1 (putB _ _ _ _).2.1
  rw[zex hp];exact(zi5 hp (zei k3 (fun x hx=>by rw[k2];exact o1 x hx)) (zei k3 (fun x hx=>by rw[k2];exact o2 x hx))).1
theorem zox {V:List PL}{C:List Nat}(B:BookC V C){r:Nat}(hr:r<V.length){x:Nat}(h:ReachV V [r] x):SubC (C.getD r 0) (C.getD x 0):=by
 induction h with
 | root h=>simp at h;subst h;exact .root
 | left h hz ih=>exact .step ih (.inl (B.left (zf7 B (by simpa using hr) h) hz).2)
 | right h hz ih=>exact .step ih (.inr (B.right (zf7 B (by simpa using hr) h) hz).2)
theorem zkk {V:List PL}{C:List Nat}(B:BookC V C){r:Nat}(hr:r<V.length){c:Nat}(h:SubC (C.getD r 0) c):∃x,ReachV V [r] x/\x<V.length/\C.getD x 0=c:=by
 induction h with
 | root=>exact⟨r,.root (by simp),hr,rfl⟩
 | step _ ho ih =>
  obtain⟨y,hy,hyl,rfl⟩:=ih;rw[B.code y _ (B.getD hyl)]at ho;rcases ho with ho|ho
  ·rw[zae]at ho
   obtain⟨z,hz,rfl⟩:=mem_atAll.1 ho;have hr':=ReachV.left hy hz;exact⟨z,hr',zf7 B (by simpa using hr) hr',rfl⟩
  ·rw[zaf]at ho
   obtain⟨z,hz,rfl⟩:=mem_atAll.1 ho;have hr':=ReachV.right hy hz;exact⟨z,hr',zf7 B (by simpa using hr) hr',rfl⟩
def zgt (Fs:List PL):Prop:=∀(j:Nat) (x y:PL),Fs[j]?=some x→Fs[j+1]?=some y→klt ((zb1 Fs).getD j 0) x ((zb1 Fs).getD (j+1) 0) y
def zd7 (Fs:List PL):Prop:=∀x,x<Fs.length→(zag Fs (Fs.length-1)).getD x false=true
theorem yaq {Fs:List PL}(h:zgt Fs):∀(d i:Nat) (x y:PL),Fs[i]?=some x→Fs[i+d+1]?=some y→klt ((zb1 Fs).getD i 0) x ((zb1 Fs).getD (i+d+1) 0) y:=by
 intro d;induction d with
 | zero=>intro i x y hx hy;exact h i x y hx hy
 | succ d ih =>
  intro i x y hx hy;have hl:=(List.getElem?_eq_some_iff.1 hy).1;have hm:=List.getElem?_eq_getElem (l:=Fs) (i:=i+d+1) (by omega)
  exact zy1 (ih i x _ hx hm) (h (i+d+1) _ y hm hy)
theorem zxs {Fs:List PL}(h:zgt Fs){i j:Nat}{x y:PL}(hij:i<j)(hx:Fs[i]?=some x)(hy:Fs[j]?=some y):klt ((zb1 Fs).getD i 0) x ((zb1 Fs).getD j 0) y:=by
 obtain⟨d,rfl⟩:∃d,j=i+d+1:=⟨j-i-1,by omega⟩;exact yaq h d i x y hx hy
theorem zi7 {Fs:List PL}(ho:OptsOK Fs)(h:zgt Fs):Fs.Nodup:=by
 refine List.nodup_iff_pairwise_ne.2 (List.pairwise_iff_getElem.2 fun i j hi hj hij e=>?_);have e1:=List.getElem?_eq_getElem hi
 have e2:=List.getElem?_eq_getElem hj
 have hk:=zxs h hij e1 e2;rw[zmg Fs ho i _ e1,zmg Fs ho j _ e2,e]at hk;exact yd6 _ _ hk
def zas (Fs:List PL):Nat:=(za0 Fs).getD (Fs.length-1) 0
theorem zft {Fs:List PL}{c:Nat}(h:FormC c Fs):0<Fs.length/\OptsOK Fs/\BookUp Fs/\zgt Fs/\zd7 Fs/\zas Fs=c:=by
 obtain⟨P,hA⟩:=h;have ho:OptsOK Fs:=hA.book.opts;have hu:BookUp Fs:=hA.book.up;have hPl:=hA.book.len;have hPC:∀j,j<Fs.length→P.getD j 0=(za0 Fs).getD j 0:=by
  intro j;induction j using Nat.strongRecOn with
  | _ j ih =>
   intro hj;have ej:=List.getElem?_eq_getElem hj
   obtain⟨o1,o2⟩:=ho j _ ej;have e1:∀L:List Nat,(∀x∈L,x<j)→za2 P L=za2 (za0 Fs) L:=fun L hL=>List.map_congr_left fun x hx=>ih x (hL x hx) (by have:=hL x hx;omega)
   rw[hA.book.code j _ ej,zc8 Fs ho j _ ej,e1 _ o1,e1 _ o2]
 have hn:Fs.Nodup:=by
  refine List.nodup_iff_pairwise_ne.2 (List.pairwise_iff_getElem.2 fun i j hi hj hij e=>?_);have c1:=hA.book.code i _ (List.getElem?_eq_getElem hi);have c2:=hA.book.code j _ (List.getElem?_eq_getElem hj);rw[e]at c1;have:=zb9 hA.book.nodup (by omega) (by omega) (c1.trans c2.symm);omega
 have hP:=zh9 ho hu hn;obtain⟨k,hk,ek⟩:=zhd ((hA.sub c).2 .root);have hkl:k<Fs.length:=by omega
 have hreach:∀i,i<Fs.length→ReachV Fs [k] i:=fun i hi=>by
  have hs:=(hA.sub _).1 (zcc (C:=P) (i:=i) (by omega));rw[←ek]at hs;obtain⟨x,hx,hxl,e⟩:=zkk hA.book hkl hs;rw[zb9 hA.book.nodup (by omega) (by omega) e]at hx;exact hx
 have hle:∀x,ReachV Fs [k] x→x≤k:=fun x hx=>by
  induction hx with
  | root h=>simp at h;omega
  | @left x y hx hy ih=>have:=(ho x _ (zad (by omega))).1 y hy;omega
  | @right x y hx hy ih=>have:=(ho x _ (zad (by omega))).2 y hy;omega
 have hke:k=Fs.length-1:=by have:=hle _ (hreach (Fs.length-1) (by omega));omega
 subst hke;refine⟨by omega,ho,hu,fun j x y hx hy=>?_,fun x hx=>(zks hP hkl x).2 (hreach x hx),by unfold zas;rw[←hPC _ hkl,ek]⟩;have hk:=hA.up j (j+1) x y (Nat.lt_succ_self _) hx hy;have l1:=(List.getElem?_eq_some_iff.1 hx).1;have l2:=(List.getElem?_eq_some_iff.1 hy).1;rw[hPC j l1,hPC (j+1) l2,←hP.births j l1,←hP.births (j+1) l2]at hk;exact hk
theorem yct {Fs:List PL}(ho:OptsOK Fs)(hp:0<Fs.length)(h:zdg (addB [] [] Fs).1 (addB [] [] Fs).2.1 (zfm [] [] Fs)=Fs):zgt Fs/\zd7 Fs:=by
 have hP0:=zps Fs ho PoolOK.nil BookOK.nil;have hroot:zfm [] [] Fs<(addB [] [] Fs).1.length:=by
  obtain⟨k1,k2,k3,k4,k5⟩:=zh4 BookOK.nil Fs ho;unfold zfm;rw[List.getD_eq_getElem?_getD,List.getElem?_eq_getElem (by omega)];exact k3 _ (List.getElem_mem _)
 have hA:=hP0.form hroot;rw[h]at hA;obtain⟨_,_,_,h4,h5,_⟩:=zft hA;exact⟨h4,h5⟩
theorem ydk {Fs:List PL}(hp:0<Fs.length)(ho:OptsOK Fs)(hu:BookUp Fs)(hk:zgt Fs)(hr:zd7 Fs):FormC (zas Fs) Fs:=by
 have hn:=zi7 ho hk;have hP:=zh9 ho hu hn;have hlast:Fs.length-1<Fs.length:=by omega
 have hcl:=za1 Fs;refine⟨za0 Fs,hP.book,fun x=>⟨fun hx=>?_,fun hx=>?_⟩,fun i j x y hij hx hy=>?_⟩
 ·obtain⟨i,hi,rfl⟩:=zhd hx
  exact zox hP.book hlast ((zks hP hlast i).1 (hr i (by omega)))
 ·obtain⟨y,_,hy,rfl⟩:=zkk hP.book hlast hx
  exact zcc (by omega)
 ·have h:=zxs hk hij hx hy
  rw[hP.births i (List.getElem?_eq_some_iff.1 hx).1,hP.births j (List.getElem?_eq_some_iff.1 hy).1]at h;exact h
theorem ydf {Fs:List PL}(hp:0<Fs.length)(ho:OptsOK Fs)(hu:BookUp Fs)(hk:zgt Fs)(hr:zd7 Fs):zdg (addB [] [] Fs).1 (addB [] [] Fs).2.1 (zfm [] [] Fs)=Fs:=by
 have hn:=zi7 ho hk;have hP:=zh9 ho hu hn;have hlast:Fs.length-1<Fs.length:=by omega
 unfold zfm;rw[zpr Fs ho hu hn];show zdg Fs (zb1 Fs) ((List.range Fs.length).getD (Fs.length-1) 0)=Fs
 rw[zbf,if_pos hlast];exact(hP.form hlast).one (ydk hp ho hu hk hr)
theorem zm6 (Fs:List PL):zc5 (i2 Fs)↔zau Fs=true/\OptsOK Fs/\BookUp Fs/\zgt Fs/\zd7 Fs:=by
 constructor
 ·rintro⟨h1,h2,h3⟩
  rw[zmc]at h1;obtain⟨Fs',e,ho,hu⟩:=znv h2;obtain rfl:=zy8 e;have hp:0<Fs.length:=by unfold zau at h1;rw[decide_eq_true_eq]at h1;omega
  obtain⟨k1,k2⟩:=yct ho hp (h3 Fs rfl);exact⟨h1,ho,hu,k1,k2⟩
 ·rintro⟨h1,ho,hu,k1,k2⟩
  have hp:0<Fs.length:=by unfold zau at h1;rw[decide_eq_true_eq]at h1;omega
  refine⟨by rw[zmc];exact h1,fun j y hj hy=>?_,fun Fs' e=>?_⟩
  ·obtain⟨x,hx,rfl⟩:=zy9 hy
   obtain⟨o1,o2⟩:=ho j x hx;obtain⟨u1,u2⟩:=hu j x hx;exact⟨zt4 j x.1 none u1 o1 (by simp),zt4 j x.2 none u2 o2 (by simp)⟩
  ·obtain rfl:=zy8 e
   exact ydf hp ho hu k1 k2
theorem zhp {Fs:List PL}{c:Nat}(h:FormC c Fs)(hf:zau Fs=true):zc5 (i2 Fs)/\zas Fs=c:=by
 obtain⟨_,ho,hu,k1,k2,k3⟩:=zft h;exact⟨(zm6 Fs).2 ⟨hf,ho,hu,k1,k2⟩,k3⟩
def geC (a b:Nat):Bool:=((zh7 a).attach.all fun r=>!geC b r.1) && ((zo5 b).attach.all fun l=>!geC l.1 a)
 termination_by a+b
 decreasing_by
  ·have:=za7 (.inr (zb0.1 r.2));omega
  ·have:=za7 (.inl (zba.1 l.2));omega
theorem zcv (a b:Nat):geC a b=true↔(∀r,hasR a r→geC b r=false)/\∀l,hasL b l→geC l a=false:=by
 rw[geC,Bool.and_eq_true,List.all_eq_true,List.all_eq_true];constructor
 ·rintro⟨h1,h2⟩
  exact⟨fun r hr=>by simpa using h1 ⟨r,zb0.2 hr⟩ (List.mem_attach _ _),fun l hl=>by simpa using h2 ⟨l,zba.2 hl⟩ (List.mem_attach _ _)⟩
 ·rintro⟨h1,h2⟩
  exact⟨fun r _=>by simpa using h1 r.1 (zb0.1 r.2),fun l _=>by simpa using h2 l.1 (zba.1 l.2)⟩
def geV (C:List Nat)(x y:Nat):Bool:=geC (C.getD x 0) (C.getD y 0)
theorem ydh {V:List PL}{C:List Nat}(B:BookC V C){x y:Nat}(hx:x<V.length)(hy:y<V.length) :
  geV C x y=true↔(∀r∈(za5 V x).2,geV C y r=false)/\∀l∈(za5 V y).1,geV C l x=false:=by
 unfold geV;rw[zcv];have e1:=B.code x _ (zad hx);have e2:=B.code y _ (zad hy);constructor
 ·rintro⟨h1,h2⟩
  exact⟨fun r hr=>h1 _ (by rw[e1,zaf];exact mem_atAll.2 ⟨r,hr,rfl⟩),fun l hl=>h2 _ (by rw[e2,zae];exact mem_atAll.2 ⟨l,hl,rfl⟩)⟩
 ·rintro⟨h1,h2⟩
  refine⟨fun r hr=>?_,fun l hl=>?_⟩
  ·rw[e1,zaf]at hr
   obtain⟨z,hz,rfl⟩:=mem_atAll.1 hr;exact h1 z hz
  ·rw[e2,zae]at hl
   obtain⟨z,hz,rfl⟩:=mem_atAll.1 hl;exact h2 z hz
def domP (g:Nat→Nat→Bool)(L:List Nat)(k j:Nat):Bool:=decide (j≠k) && (g (L.getD k 0) (L.getD j 0) && (!g (L.getD j 0) (L.getD k 0) || decide (j<k)))
def domB (g:Nat→Nat→Bool)(L:List Nat):List Nat:=(List.range L.length).filter fun k=>(List.range L.length).any (domP g L k)
def zar (L P:List Nat):List Nat:=(L.zipIdx.filter fun x=>!P.contains x.2).map (·.1)
def gL (C:List Nat)(a b:Nat):Bool:=geV C b a
def gR (C:List Nat)(a b:Nat):Bool:=geV C a b
theorem zik (L P:List Nat):(zar L P).Sublist L:=by
 unfold zar;have h:(L.zipIdx.filter fun x=>!P.contains x.2).Sublist L.zipIdx:=List.filter_sublist;have h2:=h.map (·.1);rwa [List.zipIdx_map_fst]at h2
theorem zcg {L P:List Nat}{x:Nat}(h:x∈zar L P):x∈L:=(zik L P).subset h
theorem zfn (L P:List Nat):(zar L P).length≤L.length:=(zik L P).length_le
theorem zng (L P:List Nat)(k:Nat)(hk:k<L.length):zar (L.take (k+1)) P=if k∈P then zar (L.take k) P else zar (L.take k) P ++ [L[k]]:=by
 unfold zar;rw[List.take_succ_eq_append_getElem hk,List.zipIdx_append,List.filter_append,List.map_append];have hl:(L.take k).length=k:=by simp;omega
 simp only[List.zipIdx_cons,List.zipIdx_nil,hl,Nat.zero_add,List.filter_cons,List.filter_nil];by_cases h:k∈P
 ·simp[h]
 ·simp[h]
def FormRes (V:List PL)(BV:List Nat)(r:Nat)(ok:Bool)(FN:List PL):Prop :=
 (ok=false/\FN=[]/\∃Q:List Nat,Q.Nodup/\(∀x,x∈Q↔ReachV V [r] x)/\120<Q.length)∨∃Q GN,OrderIs V BV [r] Q GN/\Q.length≤120/\ok=zau GN/\FN=if ok then GN else []
theorem zyh {α:Type}{GN:List (List α × List α)}(h1:GN.length≤120)(h2:1≤GN.length)(h3:∀(k:Nat) (y:List α × List α),GN[k]?=some y→y.1.length≤24/\y.2.length≤24):zau GN=true :=
 decide_eq_true ⟨h1,h2,fun y hy=>by
  obtain⟨k,hk,rfl⟩:=List.getElem_of_mem hy;exact h3 k _ (List.getElem?_eq_getElem hk)⟩
theorem ybc {α:Type}{GN:List (List α × List α)}{k:Nat}{y:List α × List α}(hy:GN[k]?=some y)(h:24<y.1.length∨24<y.2.length):zau GN=false :=
 decide_eq_false fun q=>by
  have:=q.2.2 y (List.mem_of_getElem? hy);omega
def negC (a:Nat):Nat:=mkC ((zh7 a).attach.map fun r=>negC r.1) ((zo5 a).attach.map fun l=>negC l.1)
 termination_by a
 decreasing_by
  ·exact za7 (.inr (zb0.1 r.2))
  ·exact za7 (.inl (zba.1 l.2))
theorem zhi (a i:Nat):hasL (negC a) i↔∃r,hasR a r/\negC r=i:=by
 rw[negC,zae,List.mem_map];constructor
 ·rintro⟨r,_,e⟩;exact⟨r.1,zb0.1 r.2,e⟩
 ·rintro⟨r,hr,e⟩;exact⟨⟨r,zb0.2 hr⟩,List.mem_attach _ _,e⟩
theorem zhh (a i:Nat):hasR (negC a) i↔∃l,hasL a l/\negC l=i:=by
 rw[negC,zaf,List.mem_map];constructor
 ·rintro⟨r,_,e⟩;exact⟨r.1,zba.1 r.2,e⟩
 ·rintro⟨r,hr,e⟩;exact⟨⟨r,zba.2 hr⟩,List.mem_attach _ _,e⟩
def sumC (a b:Nat):Nat :=
 mkC ((zo5 a).attach.map (fun l=>sumC l.1 b)++(zo5 b).attach.map fun l=>sumC a l.1) ((zh7 a).attach.map (fun r=>sumC r.1 b)++(zh7 b).attach.map fun r=>sumC a r.1)
 termination_by a+b
 decreasing_by
  ·have:=za7 (.inl (zba.1 l.2));omega
  ·have:=za7 (.inl (zba.1 l.2));omega
  ·have:=za7 (.inr (zb0.1 r.2));omega
  ·have:=za7 (.inr (zb0.1 r.2));omega
theorem zds (a b i:Nat):hasL (sumC a b) i↔(∃l,hasL a l/\sumC l b=i)∨∃l,hasL b l/\sumC a l=i:=by
 rw[sumC,zae,List.mem_append,List.mem_map,List.mem_map];constructor
 ·rintro(⟨r,_,e⟩|⟨r,_,e⟩)
  ·exact .inl ⟨r.1,zba.1 r.2,e⟩
  ·exact .inr ⟨r.1,zba.1 r.2,e⟩
 ·rintro(⟨r,hr,e⟩|⟨r,hr,e⟩)
  ·exact .inl ⟨⟨r,zba.2 hr⟩,List.mem_attach _ _,e⟩
  ·exact .inr ⟨⟨r,zba.2 hr⟩,List.mem_attach _ _,e⟩
theorem zdr (a b i:Nat):hasR (sumC a b) i↔(∃l,hasR a l/\sumC l b=i)∨∃l,hasR b l/\sumC a l=i:=by
 rw[sumC,zaf,List.mem_append,List.mem_map,List.mem_map];constructor
 ·rintro(⟨r,_,e⟩|⟨r,_,e⟩)
  ·exact .inl ⟨r.1,zb0.1 r.2,e⟩
  ·exact .inr ⟨r.1,zb0.1 r.2,e⟩
 ·rintro(⟨r,hr,e⟩|⟨r,hr,e⟩)
  ·exact .inl ⟨⟨r,zb0.2 hr⟩,List.mem_attach _ _,e⟩
  ·exact .inr ⟨⟨r,zb0.2 hr⟩,List.mem_attach _ _,e⟩
theorem yc9 (a b:Nat)(L R:List Nat)(hL:∀i,i∈L↔(∃l,hasL a l/\sumC l b=i)∨∃l,hasL b l/\sumC a l=i)(hR:∀i,i∈R↔(∃l,hasR a l/\sumC l b=i)∨∃l,hasR b l/\sumC a l=i):mkC L R=sumC a b :=
 zcd (fun i=>by rw[zae,hL,zds]) (fun i=>by rw[zaf,hR,zdr])
theorem yd0 (a:Nat)(L R:List Nat)(hL:∀i,i∈L↔∃r,hasR a r/\negC r=i)(hR:∀i,i∈R↔∃l,hasL a l/\negC l=i):mkC L R=negC a :=
 zcd (fun i=>by rw[zae,hL,zhi]) (fun i=>by rw[zaf,hR,zhh])
theorem zaq {V V':List PL}(h:V <+: V'){x:Nat}(hx:x<V.length):(za0 V').getD x 0=(za0 V).getD x 0:=by
 obtain⟨t,ht⟩:=zen h;rw[←ht];exact ze7 (by rw[za1];exact hx)
theorem zm0 {V V':List PL}(h:V <+: V'){x:Nat}(hx:x<V.length):za5 V' x=za5 V x:=by
 obtain⟨t,rfl⟩:=h;unfold za5;rw[List.getD_eq_getElem?_getD,List.getD_eq_getElem?_getD,List.getElem?_append_left hx]
def RowC (V:List PL)(L cs:List Nat):Prop:=(∀x∈L,x<V.length)/\za2 (za0 V) L=cs
theorem RowC.nil (V:List PL):RowC V [] []:=⟨by simp,rfl⟩
theorem RowC.mono {V V':List PL}{L cs:List Nat}(h:RowC V L cs)(hp:V <+: V'):RowC V' L cs:=by
 refine⟨fun x hx=>Nat.lt_of_lt_of_le (h.1 x hx) hp.length_le,?_⟩;rw[←h.2];exact List.map_congr_left fun x hx=>zaq hp (h.1 x hx)
theorem RowC.snoc {V:List PL}{L cs:List Nat}{x c:Nat}(h:RowC V L cs)(hx:x<V.length)(hc:(za0 V).getD x 0=c):RowC V (L ++ [x]) (cs ++ [c]):=by
 refine⟨fun y hy=>?_,?_⟩
 ·rcases List.mem_append.1 hy with hy|hy
  ·exact h.1 y hy
  ·rw[List.mem_singleton.1 hy];exact hx
 ·rw[←h.2,←hc]
  simp[za2]
theorem RowC.next {V:List PL}{L TL:List Nat}{x c j:Nat}(h:RowC V L (TL.take j))(hj:TL[j]?=some c)(hx:x<V.length)(hc:(za0 V).getD x 0=c):RowC V (L ++ [x]) (TL.take (j+1)):=by
 obtain⟨hl,e⟩:=List.getElem?_eq_some_iff.1 hj
 rw[List.take_succ_eq_append_getElem hl,e];exact h.snoc hx hc
theorem RowC.len {V:List PL}{L cs:List Nat}(h:RowC V L cs):L.length=cs.length:=by
 rw[←h.2];simp[za2]
theorem zi3 {V:List PL}{BV:List Nat}(h:PoolOK V BV){L R cs ds:List Nat}(hL:RowC V L cs)(hR:RowC V R ds) :
  PoolOK (za4 V BV L R).1 (za4 V BV L R).2.1/\V <+: (za4 V BV L R).1/\(za4 V BV L R).2.2<(za4 V BV L R).1.length/\(za0 (za4 V BV L R).1).getD (za4 V BV L R).2.2 0=mkC cs ds:=by
 obtain⟨p1,_,p3⟩:=zge V BV L R;exact⟨(zi5 h hL.1 hR.1).1,p3,p1,by rw[zp0 h hL.1 hR.1,hL.2,hR.2]⟩
theorem yec {C D:List Nat}{x y:PL}{a b:Nat}(hx:a=mkC (za2 C x.1) (za2 C x.2))(hy:b=mkC (za2 D y.1) (za2 D y.2)) :
  mkC ((za2 C x.1).map (fun l=>sumC l b)++(za2 D y.1).map fun l=>sumC a l) ((za2 C x.2).map (fun l=>sumC l b)++(za2 D y.2).map fun l=>sumC a l)=sumC a b:=by
 have e1:∀l,hasL a l↔l∈za2 C x.1:=fun l=>by rw[hx,zae]
 have e2:∀l,hasR a l↔l∈za2 C x.2:=fun l=>by rw[hx,zaf]
 have e3:∀l,hasL b l↔l∈za2 D y.1:=fun l=>by rw[hy,zae]
 have e4:∀l,hasR b l↔l∈za2 D y.2:=fun l=>by rw[hy,zaf]
 refine yc9 a b _ _ (fun i=>?_) fun i=>?_
 ·rw[List.mem_append,List.mem_map,List.mem_map]
  simp only[e1,e3]
 ·rw[List.mem_append,List.mem_map,List.mem_map]
  simp only[e2,e4]
theorem ybz {C:List Nat}{x:PL}{a:Nat}(hx:a=mkC (za2 C x.1) (za2 C x.2)):mkC ((za2 C x.2).map negC) ((za2 C x.1).map negC)=negC a:=by
 have e1:∀l,hasL a l↔l∈za2 C x.1:=fun l=>by rw[hx,zae]
 have e2:∀l,hasR a l↔l∈za2 C x.2:=fun l=>by rw[hx,zaf]
 refine yd0 a _ _ (fun i=>?_) fun i=>?_
 ·rw[List.mem_map];simp only[e2]
 ·rw[List.mem_map];simp only[e1]
theorem zvq {C A B:List Nat}{g:Nat→Nat}{k l:Nat}(h:A[k]?=some l):((za2 C A).map g++B)[k]?=some (g (C.getD l 0)):=by
 have hk:=(List.getElem?_eq_some_iff.1 h).1;rw[List.getElem?_append_left (by simpa [za2] using hk)];simp[za2,List.getElem?_map,h]
theorem zsp {C D A B:List Nat}{g g':Nat→Nat}{k l:Nat}(h:B[k]?=some l):((za2 C A).map g++(za2 D B).map g')[A.length+k]?=some (g' (D.getD l 0)):=by
 rw[List.getElem?_append_right (by simp[za2])];simp[za2,List.getElem?_map,h]
theorem ybx {C A:List Nat}{g:Nat→Nat}{k l:Nat}(h:A[k]?=some l):((za2 C A).map g)[k]?=some (g (C.getD l 0)):=by
 simp[za2,List.getElem?_map,h]
theorem zey {V:List PL}{BV:List Nat}(h:PoolOK V BV){U:List Nat}(hU:∀x,x<V.length→(za0 V).getD x 0∈U):V.length≤U.length:=by
 rw[←za1 V];refine h.book.nodup.length_le_of_subset fun c hc=>?_
 obtain⟨i,hi,rfl⟩:=zhd hc;exact hU i (by rw[←za1 V];exact hi)
theorem zi6 {V:List PL}{BV:List Nat}{L R U:List Nat}(hU:∀x,x<V.length→(za0 V).getD x 0∈U)(hc:(za0 (za4 V BV L R).1).getD (za4 V BV L R).2.2 0∈U) :
  ∀x,x<(za4 V BV L R).1.length→(za0 (za4 V BV L R).1).getD x 0∈U:=by
 intro x hx;obtain⟨p1,p2,p3⟩:=zge V BV L R;by_cases h:x<V.length
 ·rw[zaq p3 h];exact hU x h
 ·have e:x=(za4 V BV L R).2.2:=by
   unfold za4 at hx p1 ⊢;split
   ·rename_i hm;rw[if_pos hm]at hx;exact absurd hx h
   ·rename_i hm
    rw[if_neg hm]at hx;simp at hx ⊢;omega
  rw[e];exact hc
theorem zpk:∀(c:Nat) (V:List PL) (BV:List Nat),PoolOK V BV→∃V' BV' r,PoolOK V' BV'∧V <+: V'∧r<V'.length/\(za0 V').getD r 0=c:=by
 intro c;induction c using Nat.strongRecOn with
 | _ c ih =>
  have row:∀(L:List Nat),(∀l∈L,l<c)→∀(V:List PL) (BV:List Nat),PoolOK V BV→∃V' BV' A,PoolOK V' BV'∧V <+: V'∧RowC V' A L:=by
   intro L;induction L using zd8 with
   | h0=>intro _ V BV h;exact⟨V,BV,[],h,List.prefix_refl _,RowC.nil V⟩
   | h1 l a il =>
    intro hl V BV h;obtain⟨V1,B1,A,h1,p1,r1⟩:=il (fun x hx=>hl x (List.mem_append_left _ hx)) V BV h;obtain⟨V2,B2,r,h2,p2,hr,hc⟩:=ih a (hl a (by simp)) V1 B1 h1;exact⟨V2,B2,A ++ [r],h2,p1.trans p2,(r1.mono p2).snoc hr hc⟩
  intro V BV h;obtain⟨V1,B1,A1,h1,p1,r1⟩:=row (zo5 c) (fun l hl=>za7 (.inl (zba.1 hl))) V BV h;obtain⟨V2,B2,A2,h2,p2,r2⟩:=row (zh7 c) (fun l hl=>za7 (.inr (zb0.1 hl))) V1 B1 h1;obtain⟨q1,q2,q3,q4⟩:=zi3 h2 (r1.mono p2) r2;exact⟨_,_,_,q1,(p1.trans p2).trans q2,q3,by rw[q4,yau]⟩
theorem zye (c:Nat):∃FN,FormC c FN:=by
 obtain⟨V,BV,r,h,_,hr,hc⟩:=zpk c [] [] PoolOK.nil;have:=h.form hr;rw[hc]at this
 exact⟨_,this⟩
noncomputable def za6 (c:Nat):List PL:=Classical.choose (zye c)
theorem zc4 (c:Nat):FormC c (za6 c):=Classical.choose_spec (zye c)
theorem FormC.of {c:Nat}{FN:List PL}(h:FormC c FN):FN=za6 c:=h.one (zc4 c)
theorem zhq {V:List PL}{BV:List Nat}(h:PoolOK V BV){r c:Nat}(hr:r<V.length)(hc:(za0 V).getD r 0=c):zdg V BV r=za6 c:=by
 have:=h.form hr;rw[hc]at this
 exact this.of
theorem SubC.trans {a b c:Nat}(h:SubC a b)(h':SubC b c):SubC a c:=by
 induction h' with
 | root=>exact h
 | step _ ho ih=>exact ih.step ho
theorem zmi {C L:List Nat}(hC:C.Nodup)(hu:L.Pairwise (· < ·))(hl:∀x∈L,x<C.length):(za2 C L).Nodup:=by
 unfold za2;refine List.pairwise_map.2 (hu.imp_of_mem ?_);intro a b ha hb hab e;have:=zb9 hC (hl a ha) (hl b hb) e;omega
theorem zsg {C A L:List Nat}(h:∀i∈L,i<A.length):za2 C (za2 A L)=za2 (za2 C A) L:=by
 unfold za2;rw[List.map_map];refine List.map_congr_left fun i hi=>?_
 have hl:=h i hi;simp[List.getD_eq_getElem?_getD,List.getElem?_map,List.getElem?_eq_getElem hl]
theorem RowC.at {V:List PL}{A cs L:List Nat}(h:RowC V A cs)(hL:∀i∈L,i<A.length):RowC V (za2 A L) (za2 cs L):=by
 refine⟨fun x hx=>?_,?_⟩
 ·obtain⟨i,hi,rfl⟩:=mem_atAll.1 hx
  exact h.1 _ (zcc (hL i hi))
 ·rw[zsg hL,h.2]
theorem OptsOK.last {l:List PL}{a:PL}(ho:OptsOK (l ++ [a])):(∀i∈a.1,i<l.length)/\∀i∈a.2,i<l.length:=ho l.length a (by simp)
theorem zpt (Fs:List PL):OptsOK Fs→∀ {V:List PL}{BV:List Nat},PoolOK V BV→PoolOK (addB V BV Fs).1 (addB V BV Fs).2.1/\V <+: (addB V BV Fs).1/\RowC (addB V BV Fs).1 (addB V BV Fs).2.2 (za0 Fs) ∧
  ∀x,x<(addB V BV Fs).1.length→(za0 (addB V BV Fs).1).getD x 0∈za0 V++za0 Fs:=by
 induction Fs using zd8 with
 | h0 =>
  intro _ V BV h;exact⟨h,List.prefix_refl _,RowC.nil V,fun x hx=>List.mem_append_left _ (zcc (by rw[za1];exact hx))⟩
 | h1 l a ih =>
  intro ho V BV h;obtain⟨i1,i2,i3,i4⟩:=ih ho.cut h;obtain⟨o1,o2⟩:=ho.last;have hlen:(addB V BV l).2.2.length=l.length:=by rw[i3.len,za1]
  have r1:=i3.at (L:=a.1) (fun i hi=>by rw[hlen];exact o1 i hi);have r2:=i3.at (L:=a.2) (fun i hi=>by rw[hlen];exact o2 i hi);obtain⟨q1,q2,q3,q4⟩:=zi3 i1 r1 r2;have e:addB V BV (l ++ [a])=((za4 (addB V BV l).1 (addB V BV l).2.1 (za2 (addB V BV l).2.2 a.1) (za2 (addB V BV l).2.2 a.2)).1,(za4 (addB V BV l).1 (addB V BV l).2.1 (za2 (addB V BV l).2.2 a.1) (za2 (addB V BV l).2.2 a.2)).2.1,
    (addB V BV l).2.2 ++ [(za4 (addB V BV l).1 (addB V BV l).2.1 (za2 (addB V BV l).2.2 a.1) (za2 (addB V BV l).2.2 a.2)).2.2]):=by
   rw[zdf,←zex i1];rfl
  rw[e,zeh];refine⟨q1,i2.trans q2,(i3.mono q2).snoc q3 q4,?_⟩;refine zi6 (fun x hx=>?_) ?_
  ·rcases List.mem_append.1 (i4 x hx)with h|h
   ·exact List.mem_append_left _ h
   ·exact List.mem_append_right _ (List.mem_append_left _ h)
  ·rw[q4]
   exact List.mem_append_right _ (List.mem_append_right _ (List.mem_singleton.2 rfl))
theorem zkm {V:List PL}{BV:List Nat}(h:PoolOK V BV){r:Nat}(hr:r<V.length){a:Nat}(hs:SubC ((za0 V).getD r 0) a):a∈za0 V:=by
 obtain⟨x,_,hx,e⟩:=zkk h.book hr hs;rw[←e];exact zcc (by rw[za1];exact hx)
def sumU (C:List Nat):List Nat:=C++C.flatMap fun a=>C.map fun b=>sumC a b
theorem yav {C:List Nat}{a b:Nat}(ha:a∈C)(hb:b∈C):sumC a b∈sumU C:=List.mem_append_right _ (List.mem_flatMap.2 ⟨a,ha,List.mem_map.2 ⟨b,hb,rfl⟩⟩)
theorem zsq (C:List Nat):(sumU C).length=C.length+C.length*C.length:=by
 unfold sumU;rw[List.length_append];congr 1
 have:∀D:List Nat,(D.flatMap fun a=>C.map fun b=>sumC a b).length=D.length*C.length:=by
  intro D;induction D with
  | nil=>simp
  | cons a l ih=>rw[List.flatMap_cons,List.length_append,ih,List.length_map,List.length_cons,Nat.succ_mul,Nat.add_comm]
 exact this C
theorem zu9 {V:List PL}{BV:List Nat}(h:PoolOK V BV):BookOK V BV:=by
 have hle:∀j,j<V.length→BV.getD j 0≤j:=by
  intro j;induction j using Nat.strongRecOn with
  | _ j ih =>
   intro hj;have e:=zad hj;obtain⟨o1,o2⟩:=h.opts j _ e;rw[h.born j _ e,zde,zde];exact⟨⟨Nat.zero_le _,fun x hx=>by have:=o1 x hx;have:=ih x this (by omega);omega⟩,fun x hx=>by have:=o2 x hx;have:=ih x this (by omega);omega⟩
 exact⟨h.len,h.opts,fun j x hx=>by
  have hj:=(List.getElem?_eq_some_iff.1 hx).1;have:=hle j (by rw[←h.len];exact hj);rw[List.getD_eq_getElem?_getD,hx]at this
  exact this⟩
theorem RowC.get {V:List PL}{A Tb:List Nat}{P p c:Nat}(h:RowC V A (Tb.take P))(hp:p<P)(hTb:Tb[p]?=some c):∃x,A[p]?=some x/\x<V.length/\(za0 V).getD x 0=c:=by
 have h1:(Tb.take P)[p]?=some c:=by rw[List.getElem?_take,if_pos hp];exact hTb
 rw[←h.2]at h1;unfold za2 at h1;rw[List.getElem?_map]at h1;cases hA:A[p]? with
 | none=>rw[hA]at h1;cases h1
 | some x =>
  rw[hA]at h1;exact⟨x,rfl,h.1 x (List.mem_of_getElem? hA),Option.some.inj h1⟩
theorem zzh {Tb:List Nat}{p c:Nat}(h:Tb[p]?=some c):Tb.take p ++ [c]=Tb.take (p+1):=by
 obtain⟨hl,e⟩:=List.getElem?_eq_some_iff.1 h
 rw[List.take_succ_eq_append_getElem hl,e]
theorem FormRes.is {V:List PL}{BV:List Nat}{r:Nat}{ok:Bool}{FN:List PL}(h:PoolOK V BV)(hr:r<V.length)(hres:FormRes V BV r ok FN):ok=zau (zdg V BV r)/\FN=if ok then zdg V BV r else []:=by
 rcases hres with ⟨e1,e2,Q,hnd,hm,hl⟩|⟨Q,GN,O,_,e1,e2⟩
 ·obtain⟨Q0,O⟩:=zm8 h hr
  have hlen:(zdg V BV r).length=Q0.length:=by rw[O.nodes];simp
  have hle:Q.length≤Q0.length:=hnd.length_le_of_subset fun x hx=>(O.mem x).2 ((hm x).1 hx)
  have hf:zau (zdg V BV r)=false:=decide_eq_false fun q=>by have:=q.1;omega
  rw[hf];exact⟨e1,by rw[e2,e1];rfl⟩
 ·have e:GN=zdg V BV r:=FormC.one ⟨_,zn3 h.book h.births hr O⟩ (h.form hr)
  rw[←e];exact⟨e1,e2⟩
theorem zfd {Fs:List PL}(h:zc5 (i2 Fs)):0<Fs.length/\Fs.length≤120/\(∀y∈Fs,y.1.length≤24/\y.2.length≤24)/\PoolOK Fs (zb1 Fs)/\addB [] [] Fs=(Fs,zb1 Fs,List.range Fs.length)/\zfm [] [] Fs=Fs.length-1:=by
 obtain⟨h1,ho,hu,hk,hr⟩:=(zm6 Fs).1 h;have hn:=zi7 ho hk;have hf:=h1;unfold zau at hf;rw[decide_eq_true_eq]at hf;have ha:=zpr Fs ho hu hn;refine⟨by omega,hf.1,hf.2.2,zh9 ho hu hn,ha,?_⟩;unfold zfm;rw[ha];show(List.range Fs.length).getD (Fs.length-1) 0=_
 rw[zbf,if_pos (by omega)]
theorem zhm {Fi:List (List Int × List Int)}(h:zc5 Fi):∃Fs,Fi=i2 Fs:=by
 obtain⟨Fs,e,_⟩:=znv h.2.1;exact⟨Fs,e⟩
def thrI:Option Nat→Int
 | some z=>(z:Int)
 | none=>-1
end Go.Proofs.YtlapkmhemepcaaaGreatDoor
