import Derived.Test.YtkofnbjjbcohgaaGreatDoorZw1
/- Lemmas. -/
namespace Go.Proofs.YtkofnbjjbcohgaaGreatDoor
set_option linter.unusedVariables false
set_option linter.unusedSimpArgs false
open Go.RowKit
def stN (s:List Bool)(k:Nat):PL:=((List.range k).filter fun i=>s.getD i false,(List.range k).filter fun i=>!s.getD i false)
def stF (s:List Bool)(n:Nat):List PL:=(List.range n).map (stN s)
theorem zur (L:List Nat)(n:Nat)(h:∀x∈L,x<n):posN L n=L.length :=
 zng L n L.length (Nat.le_refl _) (fun j x _ hx=>h x (List.mem_of_getElem? hx)) (fun x hx=>by simp at hx)
theorem zuq (L:List Nat)(n:Nat)(h:∀x∈L,x<n):putN L n=L ++ [n]:=by
 unfold putN;rw[zur L n h,if_neg (by simp)];simp
theorem zce (L:List Nat)(h:L.Pairwise (· < ·)):za6 L=L:=by
 suffices hs:∀(L A:List Nat),(A++L).Pairwise (· < ·)→L.foldl putN A=A++L by simpa [za6] using hs L [] (by simpa using h)
 intro L;induction L with
 | nil=>intro A _;simp
 | cons x l ih =>
  intro A h;have hx:∀y∈A,y<x:=fun y hy=>(List.pairwise_append.1 h).2.2 y hy x List.mem_cons_self
  rw[List.foldl_cons,zuq A x hx,ih _ (by simpa using h)];simp
theorem zfy (A L:List Nat)(h:∀x∈L,A.getD x 0=x):za1 A L=L:=by
 unfold za1;exact(List.map_congr_left h).trans (List.map_id' L)
theorem rget (n k:Nat):(List.range n)[k]?=if k<n then some k else none:=by
 split
 ·exact List.getElem?_range (by assumption)
 ·exact List.getElem?_eq_none (by simp;omega)
theorem zas (n k d:Nat):(List.range n).getD k d=if k<n then k else d:=by
 rw[List.getD_eq_getElem?_getD,rget];split <;> rfl
theorem zd2 (s:List Bool)(n k:Nat)(h:k<n):(stF s n).getD k ([],[])=stN s k:=by
 rw[List.getD_eq_getElem?_getD,stF,List.getElem?_map,rget,if_pos h];rfl
theorem zae (s:List Bool)(n:Nat):(stF s n).length=n:=by simp[stF]
theorem zgv (s:List Bool)(n:Nat):stF s (n+1)=stF s n ++ [stN s n]:=by simp[stF,List.range_succ]
theorem zrz (s:List Bool)(n k:Nat)(y:PL)(h:(stF s n)[k]?=some y):k<n/\y=stN s k:=by
 rw[stF,List.getElem?_map,rget]at h;split at h
 ·cases h;exact⟨by assumption,rfl⟩
 ·cases h
theorem zcq (s:List Bool)(k:Nat):(∀x∈(stN s k).1,x<k)/\∀x∈(stN s k).2,x<k:=by
 constructor <;> intro x hx <;> exact List.mem_range.1 (List.mem_filter.1 hx).1
theorem zks (s:List Bool)(k:Nat):(stN s k).1.Pairwise (· < ·)/\(stN s k).2.Pairwise (· < ·) :=
 ⟨List.pairwise_lt_range.filter _,List.pairwise_lt_range.filter _⟩
theorem zhh (s:List Bool)(k i:Nat)(h:i<k):i∈(stN s k).1∨i∈(stN s k).2:=by
 cases hb:s.getD i false with
 | true=>exact .inl (List.mem_filter.2 ⟨List.mem_range.2 h,hb⟩)
 | false=>exact .inr (List.mem_filter.2 ⟨List.mem_range.2 h,by rw[hb];rfl⟩)
theorem zh6 (BL:List Nat)(m:Nat)(L:List Nat):m≤za9 BL m L/\∀x∈L,BL.getD x 0+1≤za9 BL m L:=by
 unfold za9;induction L generalizing m with
 | nil=>exact⟨Nat.le_refl _,by simp⟩
 | cons y l ih =>
  rw[List.foldl_cons];obtain⟨h1,h2⟩:=ih (max m (BL.getD y 0+1));refine⟨by omega,fun x hx=>?_⟩;rcases List.mem_cons.1 hx with rfl|hx
  ·omega
  ·exact h2 x hx
theorem zpm (BL:List Nat)(m:Nat)(L:List Nat)(N:Nat)(hm:m≤N)(h:∀x∈L,BL.getD x 0+1≤N):za9 BL m L≤N:=by
 unfold za9;induction L generalizing m with
 | nil=>exact hm
 | cons y l ih =>
  rw[List.foldl_cons];exact ih _ (by have:=h y List.mem_cons_self;omega) (fun x hx=>h x (List.mem_cons_of_mem _ hx))
theorem zm0 (s:List Bool)(m k:Nat)(h:k≤m):zd6 (List.range m) (stN s k).1 (stN s k).2=(k,stN s k):=by
 unfold zd6;obtain⟨u1,u2⟩:=zks s k;obtain⟨l1,l2⟩:=zcq s k;rw[zce _ u1,zce _ u2];have e:za9 (List.range m) (za9 (List.range m) 0 (stN s k).1) (stN s k).2=k:=by
  refine Nat.le_antisymm (zpm _ _ _ _ (zpm _ _ _ _ (Nat.zero_le _) fun x hx=>?_) fun x hx=>?_) ?_
  ·have:=l1 x hx;rw[zas,if_pos (by omega)];omega
  ·have:=l2 x hx;rw[zas,if_pos (by omega)];omega
  ·obtain⟨a1,a2⟩:=zh6 (List.range m) 0 (stN s k).1
   obtain⟨b1,b2⟩:=zh6 (List.range m) (za9 (List.range m) 0 (stN s k).1) (stN s k).2;cases k with
   | zero=>omega
   | succ k =>
    rcases zhh s (k+1) k (by omega)with hk|hk
    ·have:=a2 k hk;rw[zas,if_pos (by omega)]at this;omega
    ·have:=b2 k hk;rw[zas,if_pos (by omega)]at this;omega
 rw[e]
theorem zsh (s:List Bool)(m k:Nat)(h:k≤m):putB (stF s m) (List.range m) (stN s k).1 (stN s k).2=(stF s (max m (k+1)),List.range (max m (k+1)),k):=by
 unfold putB;simp only[zm0 s m k h];have hl:(List.range m).length=(stF s m).length:=by simp[stF]
 by_cases hk:k<m
 ·have e:=zk2 (stF s m) (List.range m) k (stN s k) k (by rw[zae];exact hk) hl (fun j x y hj _ hy=>by
   rw[rget]at hy;split at hy
   ·cases hy;rintro⟨e,_⟩;omega
   ·cases hy) (by rw[rget,if_pos hk]) (by rw[stF,List.getElem?_map,rget,if_pos hk];rfl)
  rw[e,zae,if_pos hk,Nat.max_eq_left (by omega)]
 ·have hkm:k=m:=by omega
  subst hkm;rw[if_neg (zg3 (stF s k) (List.range k) k (stN s k) hl (fun j x y hj _ hy=>by
   rw[rget]at hy;split at hy
   ·cases hy;rintro⟨e,_⟩;omega
   ·cases hy))]
  rw[Nat.max_eq_right (by omega),zgv,List.range_succ,zae]
theorem zo7 (s:List Bool)(m k:Nat):addB (stF s m) (List.range m) (stF s k)=(stF s (max m k),List.range (max m k),List.range k):=by
 induction k with
 | zero=>simp[stF,addB]
 | succ k ih =>
  rw[zgv,zca,ih];unfold zff;obtain⟨l1,l2⟩:=zcq s k;simp only;rw[zfy _ _ (fun x hx=>by have:=l1 x hx;rw[zas,if_pos (by omega)]),zfy _ _ (fun x hx=>by have:=l2 x hx;rw[zas,if_pos (by omega)]),
   zsh s (max m k) k (by omega)]
  rw[show max (max m k) (k+1)=max m (k+1)from by omega,List.range_succ]
theorem zoh (s:List Bool)(m k:Nat):zdm (stF s m) (List.range m) (stF s (k+1))=k:=by
 unfold zdm;rw[zo7,zae,zas,if_pos (by omega)];rfl
theorem zm8 (m:List Bool)(L:List Nat)(j:Nat)(hj:j<m.length):(zaz m L).getD j false=(m.getD j false || decide (j∈L)):=by
 unfold zaz;induction L generalizing m with
 | nil=>simp
 | cons x l ih =>
  rw[List.foldl_cons,ih (m.set x true) (by simpa using hj)];simp only[List.getD_eq_getElem?_getD,List.getElem?_set,List.mem_cons];by_cases e:x=j
  ·subst e;simp[hj]
  ·have e':¬j=x:=fun h=>e h.symm
   simp[e,e']
theorem zir (n:Nat)(L:List Nat):zaz (List.replicate n true) L=List.replicate n true:=by
 unfold zaz;induction L with
 | nil=>rfl
 | cons x l ih=>rw[List.foldl_cons,List.set_replicate_self,ih]
theorem zib (NL:List PL)(k n:Nat):zb1 NL k (List.replicate n true)=List.replicate n true:=by
 induction k with
 | zero=>rfl
 | succ k ih =>
  unfold zb1 zbe;rw[zir,zir,ite_self,ih]
theorem zsa (s:List Bool)(n:Nat):zab (stF s (n+1)) n=List.replicate (n+1) true:=by
 unfold zab zb1;have e:zbe (stF s (n+1)) ((List.replicate (n+1) false).set n true) n=List.replicate (n+1) true:=by
  unfold zbe;rw[if_pos (by simp[List.getD_eq_getElem?_getD]),zd2 s (n+1) n (by omega)];apply List.ext_getElem
  ·simp[zah]
  ·intro j h1 h2
   have hj:j<n+1:=by simpa using h2
   have g:=zm8 (zaz ((List.replicate (n+1) false).set n true) (stN s n).1) (stN s n).2 j (by simpa [zah] using hj);rw[zm8 ((List.replicate (n+1) false).set n true) _ j (by simpa using hj),List.getD_eq_getElem?_getD,List.getElem?_eq_getElem h1,Option.getD_some]at g;rw[g,List.getElem_replicate];by_cases e:j=n
   ·subst e;simp[List.getD_eq_getElem?_getD]
   ·rcases zhh s n j (by omega)with hk|hk <;> simp[hk]
 rw[e,zib]
def stA (n b:Nat):List Nat:=(List.range (n+1)).map fun i=>if i<b then i else 0
theorem zoa (n b k:Nat)(h:k<b)(hb:b≤n+1):(stA n b).getD k 0=k:=by
 unfold stA;rw[List.getD_eq_getElem?_getD,List.getElem?_map,rget,if_pos (by omega)];simp[h]
theorem zug (n b:Nat)(h:b≤n):(stA n b).set b b=stA n (b+1):=by
 unfold stA;apply List.ext_getElem
 ·simp
 ·intro j h1 h2
  rw[List.getElem_set];simp only[List.getElem_map,List.getElem_range];split
  ·subst_vars;simp
  ·rename_i hne
   by_cases hj:j<b
   ·rw[if_pos hj,if_pos (by omega)]
   ·rw[if_neg hj,if_neg (by omega)]
theorem zxu (s:List Bool)(n b:Nat)(hb:b≤n+1):keyF (stA n b) (stN s b)=stN s b:=by
 unfold keyF;obtain⟨l1,l2⟩:=zcq s b;obtain⟨u1,u2⟩:=zks s b;rw[zfy _ _ (fun x hx=>zoa n b x (l1 x hx) hb),zfy _ _ (fun x hx=>zoa n b x (l2 x hx) hb),zce _ u1,zce _ u2]
theorem zus (s:List Bool)(n b j:Nat)(hb:b≤n)(hj:j≤n+1) :
  zc9 (stF s (n+1)) (List.range (n+1)) (List.replicate (n+1) true) (stA n b) b j=if b<j then ([stN s b],[b])else ([],[]):=by
 induction j with
 | zero=>simp[zc9]
 | succ j ih =>
  rw[zcp,ih (by omega)];unfold zd7;have h1:(List.replicate (n+1) true).getD j false=true:=by rw[List.getD_eq_getElem?_getD,List.getElem?_replicate,if_pos (by omega)];rfl
  rw[h1,zas,if_pos (show j<n+1 by omega),zd2 s (n+1) j (by omega)];by_cases e:j=b
  ·subst e
   rw[if_pos ⟨rfl,rfl⟩,if_neg (Nat.lt_irrefl _),if_pos (Nat.lt_succ_self _),zxu s n j (by omega)];rfl
  ·rw[if_neg (fun h=>e h.2)]
   by_cases hlt:b<j
   ·rw[if_pos hlt,if_pos (by omega)]
   ·rw[if_neg hlt,if_neg (by omega)]
theorem ztc (s:List Bool)(n b:Nat)(hb:b≤n+1):zag (stF s (n+1)) (List.range (n+1)) (List.replicate (n+1) true) n b=(stA n b,stF s b):=by
 induction b with
 | zero =>
  have:stA n 0=List.replicate (n+1) 0:=by
   unfold stA;apply List.ext_getElem
   ·simp
   ·intro j h1 h2;simp
  rw[this];rfl
 | succ b ih =>
  rw[ze6,ih (by omega)];unfold zrk;rw[zus s n b (n+1) (by omega) (by omega),if_pos (by omega)];simp only[List.zip_cons_cons,List.zip_nil_right,List.foldl_cons,List.foldl_nil,layF];rw[zae,zug n b (by omega),zgv s b]
theorem zp9 (s:List Bool)(n:Nat):ze7 (stF s (n+1)) (List.range (n+1)) n=stF s (n+1):=by
 unfold ze7;rw[zsa,zas,if_pos (by omega),ztc s n (n+1) (by omega)]
def zbf (s:List PL × List Nat × List Nat)(f:List PL):List PL × List Nat × List Nat:=((addB s.1 s.2.1 f).1,(addB s.1 s.2.1 f).2.1,s.2.2 ++ [zdm s.1 s.2.1 f])
def zb8 (NL:List PL)(BL:List Nat)(FL:List (List PL)):List PL × List Nat × List Nat:=FL.foldl zbf (NL,BL,[])
theorem zn9 (NL:List PL)(BL:List Nat)(FL:List (List PL))(f:List PL):zb8 NL BL (FL ++ [f])=zbf (zb8 NL BL FL) f:=by simp[zb8]
def zm9 (FL FR:List (List PL)):List PL :=
 let l:=zb8 [] [] FL
 let r:=zb8 l.1 l.2.1 FR
 let p:=putB r.1 r.2.1 l.2.2 r.2.2
 ze7 p.1 p.2.1 p.2.2
theorem zog (s:List Bool)(L:List Nat):∀(A:List Nat) (m:Nat),∃M,(L.map fun i=>stF s (i+1)).foldl zbf (stF s m,List.range m,A)=(stF s M,List.range M,A++L)/\m≤M/\(∀x∈L,x<M)/\∀N,m≤N→(∀x∈L,x<N)→M≤N:=by
 induction L with
 | nil=>intro A m;exact⟨m,by simp,Nat.le_refl _,by simp,fun N h _=>h⟩
 | cons x l ih =>
  intro A m;obtain⟨M,e,h1,h2,h3⟩:=ih (A ++ [x]) (max m (x+1));refine⟨M,?_,by omega,fun y hy=>?_,fun N hN hl=>h3 N (by have:=hl x List.mem_cons_self;omega) fun y hy=>hl y (List.mem_cons_of_mem _ hy)⟩
  ·rw[List.map_cons,List.foldl_cons]
   have:zbf (stF s m,List.range m,A) (stF s (x+1))=(stF s (max m (x+1)),List.range (max m (x+1)),A ++ [x]):=by
    unfold zbf;simp only[zo7,zoh]
   rw[this,e];simp
  ·rcases List.mem_cons.1 hy with rfl|hy
   ·omega
   ·exact h2 y hy
theorem zva (s:List Bool)(n:Nat):zm9 ((stN s n).1.map fun i=>stF s (i+1)) ((stN s n).2.map fun i=>stF s (i+1))=stF s (n+1):=by
 obtain⟨M,e,h1,h2,h3⟩:=zog s (stN s n).1 [] 0;obtain⟨M',e',h1',h2',h3'⟩:=zog s (stN s n).2 [] M;obtain⟨l1,l2⟩:=zcq s n;have e:zb8 [] [] ((stN s n).1.map fun i=>stF s (i+1))=(stF s M,List.range M,(stN s n).1):=by
  have:=e;simp only[List.nil_append]at this;exact this
 have e':zb8 (stF s M) (List.range M) ((stN s n).2.map fun i=>stF s (i+1))=(stF s M',List.range M',(stN s n).2):=by
  have:=e';simp only[List.nil_append]at this;exact this
 have hM:M'=n:=by
  refine Nat.le_antisymm (h3' n (h3 n (Nat.zero_le _) l1) l2) ?_
  cases n with
  | zero=>exact Nat.zero_le _
  | succ n =>
   rcases zhh s (n+1) n (by omega)with h|h
   ·have:=h2 n h;omega
   ·have:=h2' n h;omega
 unfold zm9;simp only[e,e',hM];rw[zsh s n n (Nat.le_refl _)];simp only[Nat.max_eq_right (Nat.le_succ n)];exact zp9 s n
def i2 (Fs:List PL):List (List Int × List Int):=Fs.map fun y=>(ints y.1,ints y.2)
theorem zek (Fs:List PL):(i2 Fs).length=Fs.length:=by simp[i2]
theorem zt7 {Fs:List PL}{k:Nat}{y:List Int × List Int}(h:(i2 Fs)[k]?=some y):∃x,Fs[k]?=some x/\y=(ints x.1,ints x.2):=by
 unfold i2 at h;rw[List.getElem?_map]at h;cases hq:Fs[k]? with
 | none=>rw[hq]at h;cases h
 | some x=>rw[hq]at h;cases h;exact⟨x,rfl,rfl⟩
theorem zmf {Fs G:List PL}(h:i2 Fs=i2 G):Fs=G:=by
 have hl:Fs.length=G.length:=by have:=congrArg List.length h;simpa [i2] using this
 refine List.ext_getElem hl fun k h1 h2=>?_
 have e:(i2 Fs)[k]?=(i2 G)[k]?:=by rw[h]
 unfold i2 at e;rw[List.getElem?_map,List.getElem?_map,List.getElem?_eq_getElem h1,List.getElem?_eq_getElem h2]at e;have e:=Option.some.inj e;have e1:=zkd (congrArg Prod.fst e);have e2:=zkd (congrArg Prod.snd e);exact Prod.ext e1 e2
theorem zoi (hi:Nat)(L:List Nat):∀(p:Option Int),L.Pairwise (· < ·)→(∀x∈L,x<hi)→(∀y,p=some y→∀x∈L,y<(x:Int))→zad 0 ((hi:Int)-1) p (ints L)=true:=by
 induction L with
 | nil=>intro p _ _ _;cases p <;> rfl
 | cons x l ih =>
  intro p hL hb hp;have hx:=hb x List.mem_cons_self;have h1:betw (Int.ofNat x) 0 ((hi:Int)-1)=true:=by unfold betw;simp;omega
  have h2:=ih (some (Int.ofNat x)) (List.pairwise_cons.1 hL).2 (fun y hy=>hb y (List.mem_cons_of_mem _ hy)) (fun y e z hz=>by
   cases e
   have:=(List.pairwise_cons.1 hL).1 z hz;show((x:Nat):Int)<(z:Int)
   omega)
  cases p with
  | none =>
   show(betw (Int.ofNat x) 0 ((hi:Int)-1) && zad 0 ((hi:Int)-1) (some (Int.ofNat x)) (ints l))=true
   rw[h1,h2];rfl
  | some y =>
   have h3:=hp y rfl x List.mem_cons_self;show(betw (Int.ofNat x) 0 ((hi:Int)-1) && (decide (y<Int.ofNat x) && zad 0 ((hi:Int)-1) (some (Int.ofNat x)) (ints l)))=true
   rw[h1,h2,decide_eq_true (show y<Int.ofNat x from h3)];rfl
theorem zok (hi:Nat)(L:List Int):∀(p:Option Int),zad 0 ((hi:Int)-1) p L=true→∃L':List Nat,L=ints L'∧L'.Pairwise (· < ·)/\(∀x∈L',x<hi)/\∀y,p=some y→∀x∈L',y<(x:Int):=by
 induction L with
 | nil=>intro p _;exact⟨[],rfl,List.Pairwise.nil,by simp,by simp⟩
 | cons x l ih =>
  intro p h;have h0:betw x 0 ((hi:Int)-1)=true/\(∀y,p=some y→y<x)/\zad 0 ((hi:Int)-1) (some x) l=true:=by
   cases p with
   | none =>
    have h:(betw x 0 ((hi:Int)-1) && zad 0 ((hi:Int)-1) (some x) l)=true:=h;rw[Bool.and_eq_true]at h;exact⟨h.1,by simp,h.2⟩
   | some y =>
    have h:(betw x 0 ((hi:Int)-1) && (decide (y<x) && zad 0 ((hi:Int)-1) (some x) l))=true:=h;rw[Bool.and_eq_true,Bool.and_eq_true]at h;exact⟨h.1,fun z e=>by cases e;exact of_decide_eq_true h.2.1,h.2.2⟩
  obtain⟨h1,h2,h3⟩:=h0;obtain⟨L',e,u,b,q⟩:=ih (some x) h3;have h1:0≤x/\x≤(hi:Int)-1:=of_decide_eq_true h1;refine⟨x.toNat::L',?_,List.pairwise_cons.2 ⟨fun z hz=>?_,u⟩,fun z hz=>?_,fun y hy z hz=>?_⟩
  ·rw[e]
   show x::ints L'=Int.ofNat x.toNat::ints L'
   rw[show Int.ofNat x.toNat=x from Int.toNat_of_nonneg h1.1]
  ·have:=q x rfl z hz;omega
  ·rcases List.mem_cons.1 hz with rfl|hz
   ·omega
   ·exact b z hz
  ·have h4:=h2 y hy
   rcases List.mem_cons.1 hz with rfl|hz
   ·omega
   ·have:=q x rfl z hz;omega
def risI (Fs:List (List Int × List Int))(k:Nat):Prop:=∀(j:Nat) (y:List Int × List Int),j<k→Fs[j]?=some y→zad 0 ((j:Int)-1) none y.1=true/\zad 0 ((j:Int)-1) none y.2=true
def zeb (Fs:List (List Int × List Int)):Prop:=zby Fs=true/\risI Fs Fs.length/\∀Fs':List PL,Fs=i2 Fs'→ze7 (addB [] [] Fs').1 (addB [] [] Fs').2.1 (zdm [] [] Fs')=Fs'
theorem zgx {Fs:List (List Int × List Int)}(h:risI Fs Fs.length):∃Fs':List PL,Fs=i2 Fs'∧(∀(j:Nat) (y:PL),Fs'[j]?=some y→(∀i∈y.1,i<j)/\∀i∈y.2,i<j)/\∀(j:Nat) (y:PL),Fs'[j]?=some y→y.1.Pairwise (· < ·)/\y.2.Pairwise (· < ·):=by
 have key:∀(j:Nat) (y:List Int × List Int),Fs[j]?=some y→∃x:PL,y=(ints x.1,ints x.2)/\((∀i∈x.1,i<j)/\∀i∈x.2,i<j)/\x.1.Pairwise (· < ·)/\x.2.Pairwise (· < ·):=fun j y hy=>by
  obtain⟨h1,h2⟩:=h j y (List.getElem?_eq_some_iff.1 hy).1 hy;obtain⟨L1,e1,u1,b1,_⟩:=zok j y.1 none h1;obtain⟨L2,e2,u2,b2,_⟩:=zok j y.2 none h2;exact⟨(L1,L2),Prod.ext e1 e2,⟨b1,b2⟩,u1,u2⟩
 let f:List Int × List Int→PL:=fun y=>(y.1.map Int.toNat,y.2.map Int.toNat)
 have hf:∀x:PL,f (ints x.1,ints x.2)=x:=fun x=>by
  have e:∀L:List Nat,(ints L).map Int.toNat=L:=fun L=>by unfold ints;rw[List.map_map];exact(List.map_congr_left fun a _=>rfl).trans (List.map_id' L)
  exact Prod.ext (e _) (e _)
 have hg:∀(j:Nat) (y:PL),(Fs.map f)[j]?=some y→∃z,Fs[j]?=some z/\z=(ints y.1,ints y.2)/\((∀i∈y.1,i<j)/\∀i∈y.2,i<j)/\y.1.Pairwise (· < ·)/\y.2.Pairwise (· < ·):=fun j y hy=>by
  rw[List.getElem?_map]at hy;cases hq:Fs[j]? with
  | none=>rw[hq]at hy;cases hy
  | some z =>
   rw[hq]at hy;obtain⟨x,e,hx⟩:=key j z hq;have hy:=Option.some.inj hy;rw[e,hf]at hy;subst hy;exact⟨z,rfl,e,hx⟩
 refine⟨Fs.map f,?_,fun j y hy=>?_,fun j y hy=>?_⟩
 ·unfold i2
  rw[List.map_map];refine((List.map_congr_left fun z hz=>?_).trans (List.map_id' Fs)).symm;obtain⟨j,hj,rfl⟩:=List.getElem_of_mem hz;obtain⟨x,e,_⟩:=key j _ (List.getElem?_eq_getElem hj);show(ints (f Fs[j]).1,ints (f Fs[j]).2)=Fs[j]
  rw[e,hf]
 ·obtain⟨_,_,_,h,_⟩:=hg j y hy;exact h
 ·obtain⟨_,_,_,_,h⟩:=hg j y hy;exact h
theorem zi2 (Fs:List PL):zby (i2 Fs)=zby Fs:=by
 unfold zby i2;rw[List.length_map];congr 1
 refine propext ⟨fun⟨h1,h2,h3⟩=>⟨h1,h2,fun y hy=>?_⟩,fun⟨h1,h2,h3⟩=>⟨h1,h2,fun y hy=>?_⟩⟩
 ·have:=h3 _ (List.mem_map.2 ⟨y,hy,rfl⟩);simpa [ints] using this
 ·obtain⟨x,hx,rfl⟩:=List.mem_map.1 hy
  simpa [ints] using h3 x hx
theorem zo1 (s:List Bool)(n:Nat)(hn:n≤24):zby (stF s (n+1))=true:=by
 refine decide_eq_true ⟨by rw[zae];omega,by rw[zae];omega,fun y hy=>?_⟩;obtain⟨k,hk,rfl⟩:=List.mem_map.1 hy;have hk:=List.mem_range.1 hk;have h1:=(List.filter_sublist (p:=fun i=>s.getD i false) (l:=List.range k)).length_le;have h2:=(List.filter_sublist (p:=fun i=>!s.getD i false) (l:=List.range k)).length_le;simp only[List.length_range]at h1 h2;exact⟨Nat.le_trans h1 (by omega),Nat.le_trans h2 (by omega)⟩
theorem zt8 (s:List Bool)(n:Nat)(hn:n≤24):zeb (i2 (stF s (n+1))):=by
 refine⟨by rw[zi2,zo1 s n hn],fun j y _ hy=>?_,fun Fs' e=>?_⟩
 ·obtain⟨x,hx,rfl⟩:=zt7 hy
  obtain⟨_,rfl⟩:=zrz s _ j x hx;obtain⟨l1,l2⟩:=zcq s j;obtain⟨u1,u2⟩:=zks s j;exact⟨zoi j _ none u1 l1 (by simp),zoi j _ none u2 l2 (by simp)⟩
 ·rw[←zmf e]
  have h1:=zo7 s 0 (n+1);have h2:=zoh s 0 n;have h0:stF s 0=[]:=rfl;rw[h0,List.range_zero]at h1 h2;rw[h1,h2];simp only[Nat.zero_max];exact zp9 s n
theorem zo8 {L:List Nat}{n:Nat}(hu:L.Pairwise (· < ·))(h:∀x∈L,x<n):L.length≤n:=by
 have hd:L.Nodup:=hu.imp fun hlt e=>by omega
 have:=hd.length_le_of_subset (l₂:=List.range n) (fun x hx=>List.mem_range.2 (h x hx));simpa using this
def BookUp (NL:List PL):Prop:=∀(j:Nat) (y:PL),NL[j]?=some y→y.1.Pairwise (· < ·)/\y.2.Pairwise (· < ·)
theorem BookUp.nil:BookUp []:=by intro j y h;simp at h
theorem BookUp.lens {NL:List PL}{BL:List Nat}(h:BookUp NL)(hOK:BookOK NL BL):∀y∈NL,y.1.length≤NL.length/\y.2.length≤NL.length:=by
 intro y hy;obtain⟨j,hj,rfl⟩:=List.getElem_of_mem hy;have e:=List.getElem?_eq_getElem hj
 obtain⟨o1,o2⟩:=hOK.opts j _ e;obtain⟨u1,u2⟩:=h j _ e;have:=zo8 u1 o1;have:=zo8 u2 o2;omega
theorem zsg {NL:List PL}{BL:List Nat}(h:BookUp NL)(L R:List Nat):BookUp (putB NL BL L R).1:=by
 unfold putB;simp only;split
 ·exact h
 ·intro j y hy
  by_cases hj:j<NL.length
  ·rw[List.getElem?_append_left hj]at hy;exact h j y hy
  ·rw[List.getElem?_append_right (by omega)]at hy
   cases hd:j-NL.length with
   | zero=>rw[hd]at hy;simp at hy;subst hy;exact⟨zd3 L,zd3 R⟩
   | succ d=>rw[hd]at hy;simp at hy
theorem zty {NL:List PL}{BL:List Nat}(h:BookUp NL)(FL:List PL):BookUp (addB NL BL FL).1:=by
 suffices hs:∀n,n≤FL.length→BookUp (addB NL BL (FL.take n)).1 by
  have:=hs FL.length (Nat.le_refl _);rwa [List.take_length]at this
 intro n;induction n with
 | zero=>intro _;exact h
 | succ n ih =>
  intro hn;rw[List.take_succ_eq_append_getElem (by omega),zca];exact zsg (ih (by omega)) _ _
theorem BookOK.nil:BookOK [] []:=⟨rfl,by simp,by simp⟩
structure GoodF (Fm:List PL):Prop where
 pos:0<Fm.length
 le:Fm.length≤120
 opts:∀(j:Nat) (y:PL),Fm[j]?=some y→(∀x∈y.1,x<j)/\∀x∈y.2,x<j
 lens:∀y∈Fm,y.1.length<1000/\y.2.length<1000
structure RootsOK (n:Nat) (s:List PL × List Nat × List Nat):Prop where
 ok:BookOK s.1 s.2.1
 up:BookUp s.1
 len:s.1.length≤n
 lt:∀x∈s.2.2,x<s.1.length
theorem RootsOK.step {n:Nat}{s:List PL × List Nat × List Nat}(h:RootsOK n s){Fm:List PL}(hF:GoodF Fm):RootsOK (n+120) (zbf s Fm):=by
 obtain⟨k1,k2,k3,k4,k5⟩:=zeq h.ok Fm hF.opts;have hp:=hF.pos;have hl:=hF.le;refine⟨k1,zty h.up Fm,?_,fun x hx=>?_⟩
 ·have:=h.len
  show(addB s.1 s.2.1 Fm).1.length≤n+120
  omega
 ·rcases List.mem_append.1 hx with hx|hx
  ·exact Nat.lt_of_lt_of_le (h.lt x hx) k5.length_le
  ·rw[List.mem_singleton]at hx
   subst hx;unfold zdm;rw[List.getD_eq_getElem?_getD,List.getElem?_eq_getElem (by omega)];exact k3 _ (List.getElem_mem _)
theorem zd5 {FL:List (List PL)}:∀ {n:Nat}{s:List PL × List Nat × List Nat},RootsOK n s→(∀Fm∈FL,GoodF Fm)→RootsOK (n+120*FL.length) (FL.foldl zbf s):=by
 induction FL with
 | nil=>intro n s h _;simpa using h
 | cons f l ih =>
  intro n s h hF;have:=ih (h.step (hF f List.mem_cons_self)) (fun g hg=>hF g (List.mem_cons_of_mem _ hg));rw[List.foldl_cons,List.length_cons];rwa [show n+120+120*l.length=n+120*(l.length+1)from by omega]at this
theorem zeu (FL:List (List PL)):∀(s:List PL × List Nat × List Nat),(FL.foldl zbf s).2.2.length=s.2.2.length+FL.length:=by
 induction FL with
 | nil=>intro s;simp
 | cons f l ih=>intro s;rw[List.foldl_cons,ih];simp[zbf];omega
structure PoolOK (V:List PL) (BV:List Nat):Prop where
 len:BV.length=V.length
 opts:∀(j:Nat) (y:PL),V[j]?=some y→(∀i∈y.1,i<j)/\∀i∈y.2,i<j
 up:∀(j:Nat) (y:PL),V[j]?=some y→y.1.Pairwise (· < ·)/\y.2.Pairwise (· < ·)
 nodup:V.Nodup
 born:∀(j:Nat) (y:PL),V[j]?=some y→BV.getD j 0=za9 BV (za9 BV 0 y.1) y.2
theorem PoolOK.nil:PoolOK [] []:=⟨rfl,by simp,by simp,by simp,by simp⟩
theorem zba (BV t:List Nat)(m:Nat)(L:List Nat)(h:∀x∈L,x<BV.length):za9 (BV++t) m L=za9 BV m L:=by
 unfold za9;induction L generalizing m with
 | nil=>rfl
 | cons x l ih =>
  have hx:=h x List.mem_cons_self;have e:(BV++t).getD x 0=BV.getD x 0:=by rw[List.getD_eq_getElem?_getD,List.getD_eq_getElem?_getD,List.getElem?_append_left hx]
  rw[List.foldl_cons,List.foldl_cons,e,ih _ (fun y hy=>h y (List.mem_cons_of_mem _ hy))]
theorem zf1 {α:Type}{V:List α}{x y:α}{j:Nat}(h:(V ++ [x])[j]?=some y):(j<V.length/\V[j]?=some y)∨(j=V.length/\y=x):=by
 by_cases hj:j<V.length
 ·rw[List.getElem?_append_left hj]at h;exact .inl ⟨hj,h⟩
 ·have hl:=(List.getElem?_eq_some_iff.1 h).1
  have hje:j=V.length:=by simp at hl;omega
  subst hje;exact .inr ⟨rfl,by simpa using h.symm⟩
theorem zev {V:List PL}{BV:List Nat}(h:PoolOK V BV){L R:List Nat}(hL:∀x∈L,x<V.length)(hR:∀x∈R,x<V.length) :
  PoolOK (za3 V BV L R).1 (za3 V BV L R).2.1/\(za3 V BV L R).1[(za3 V BV L R).2.2]?=some (za6 L,za6 R):=by
 unfold za3;split
 ·rename_i hm
  refine⟨h,?_⟩;have hi:=List.idxOf_lt_length_of_mem hm;show V[V.idxOf (za6 L,za6 R)]?=_
  rw[List.getElem?_eq_getElem hi,List.getElem_idxOf]
 ·rename_i hm
  have h1:∀x∈za6 L,x<V.length:=fun x hx=>hL x ((zav L x).1 hx)
  have h2:∀x∈za6 R,x<V.length:=fun x hx=>hR x ((zav R x).1 hx)
  refine⟨⟨by simp[h.len],fun j y hy=>?_,fun j y hy=>?_,?_,fun j y hy=>?_⟩,by simp⟩
  ·rcases zf1 hy with ⟨_,hy⟩|⟨rfl,rfl⟩
   ·exact h.opts j y hy
   ·exact⟨h1,h2⟩
  ·rcases zf1 hy with ⟨_,hy⟩|⟨rfl,rfl⟩
   ·exact h.up j y hy
   ·exact⟨zd3 L,zd3 R⟩
  ·rw[List.nodup_append]
   refine⟨h.nodup,by simp,fun a ha b hb e=>?_⟩;rw[List.mem_singleton]at hb;subst e;subst hb;exact hm ha
  ·rcases zf1 hy with ⟨hj,hy⟩|⟨rfl,rfl⟩
   ·obtain⟨o1,o2⟩:=h.opts j y hy
    rw[zba _ _ _ _ (fun x hx=>by have:=o2 x hx;rw[h.len];omega),zba _ _ _ _ (fun x hx=>by have:=o1 x hx;rw[h.len];omega),←h.born j y hy,
     List.getD_eq_getElem?_getD,List.getD_eq_getElem?_getD,List.getElem?_append_left (by rw[h.len];exact hj)]
   ·rw[zba _ _ _ _ (fun x hx=>by rw[h.len];exact h2 x hx),zba _ _ _ _ (fun x hx=>by rw[h.len];exact h1 x hx),←h.len]
    simp[List.getD_eq_getElem?_getD]
theorem zaf {V:List PL}{x:Nat}(h:x<V.length):V[x]?=some (za4 V x):=by
 unfold za4;rw[List.getD_eq_getElem?_getD,List.getElem?_eq_getElem h];rfl
theorem PoolOK.reach {V:List PL}{BV R:List Nat}(h:PoolOK V BV)(hR:∀r∈R,r<V.length){x:Nat}(hx:ReachV V R x):x<V.length:=by
 induction hx with
 | root hr=>exact hR _ hr
 | @left x y _ hy ih=>have:=(h.opts x _ (zaf ih)).1 y hy;omega
 | @right x y _ hy ih=>have:=(h.opts x _ (zaf ih)).2 y hy;omega
theorem PoolOK.lower {V:List PL}{BV:List Nat}(h:PoolOK V BV){x:Nat}(hx:x<V.length):(∀y∈(za4 V x).1,BV.getD y 0<BV.getD x 0)/\∀y∈(za4 V x).2,BV.getD y 0<BV.getD x 0:=by
 rw[h.born x _ (zaf hx)];obtain⟨a1,a2⟩:=zh6 BV 0 (za4 V x).1;obtain⟨b1,b2⟩:=zh6 BV (za9 BV 0 (za4 V x).1) (za4 V x).2;exact⟨fun y hy=>by have:=a2 y hy;omega,fun y hy=>by have:=b2 y hy;omega⟩
theorem PoolOK.qok {V:List PL}{BV R Q:List Nat}(h:PoolOK V BV)(hR:∀r∈R,r<V.length)(hn:Q.Nodup)(hm:∀x,x∈Q↔ReachV V R x)(hs:Q.Pairwise fun a b=>BV.getD a 0≤BV.getD b 0):QOk V BV Q:=by
 have hl:∀x∈Q,x<V.length:=fun x hx=>h.reach hR ((hm x).1 hx)
 refine⟨hn,hs,fun x hx y hy=>⟨(hm y).2 (.left ((hm x).1 hx) hy),(h.lower (hl x hx)).1 y hy⟩,fun x hx y hy=>⟨(hm y).2 (.right ((hm x).1 hx) hy),(h.lower (hl x hx)).2 y hy⟩,fun x hx=>h.up x _ (zaf (hl x hx)),fun x hx y hy e=>?_⟩;have e1:=zaf (hl x hx);have e2:=zaf (hl y hy);rw[e]at e1;exact(List.getElem?_inj (hl x hx) h.nodup).1 (e1.trans e2.symm)
theorem PoolOK.lens {V:List PL}{BV:List Nat}(h:PoolOK V BV){n:Nat}(hn:V.length<n):∀y∈V,y.1.length<n/\y.2.length<n:=by
 intro y hy;obtain⟨j,hj,rfl⟩:=List.getElem_of_mem hy;have e:=List.getElem?_eq_getElem hj
 obtain⟨o1,o2⟩:=h.opts j _ e;obtain⟨u1,u2⟩:=h.up j _ e;have:=zo8 u1 o1;have:=zo8 u2 o2;omega
theorem PoolOK.opts' {V:List PL}{BV:List Nat}(h:PoolOK V BV)(j:Nat)(y:PL)(hy:V[j]?=some y):(∀i∈y.1,i<V.length)/\∀i∈y.2,i<V.length:=by
 have hj:=(List.getElem?_eq_some_iff.1 hy).1;obtain⟨o1,o2⟩:=h.opts j y hy;exact⟨fun i hi=>by have:=o1 i hi;omega,fun i hi=>by have:=o2 i hi;omega⟩
theorem zry (s:List Bool)(k:Nat):stN s k ∉ stF s k:=fun h=>by
 obtain⟨j,hj,e⟩:=List.mem_map.1 h;have hj:=List.mem_range.1 hj;rcases zhh s k j hj with h|h
 ·rw[←e]at h;have:=(zcq s j).1 j h;omega
 ·rw[←e]at h;have:=(zcq s j).2 j h;omega
theorem zim (s:List Bool)(k:Nat):za3 (stF s k) (List.range k) (stN s k).1 (stN s k).2=(stF s (k+1),List.range (k+1),k):=by
 obtain⟨u1,u2⟩:=zks s k;have hk:=congrArg Prod.fst (zm0 s k k (Nat.le_refl _));unfold zd6 at hk;unfold za3;rw[zce _ u1,zce _ u2,if_neg (zry s k)];have e:za9 (List.range k) (za9 (List.range k) 0 (stN s k).1) (stN s k).2=k:=hk;rw[e,zae,zgv,List.range_succ]
theorem zhq (s:List Bool)(n:Nat):PoolOK (stF s n) (List.range n):=by
 induction n with
 | zero=>exact PoolOK.nil
 | succ n ih =>
  obtain⟨l1,l2⟩:=zcq s n;have h:=(zev ih (L:=(stN s n).1) (R:=(stN s n).2) (fun x hx=>by rw[zae];exact l1 x hx) (fun x hx=>by rw[zae];exact l2 x hx)).1;rw[zim]at h;exact h
theorem znu {n x:Nat}(h:x<n):(List.range n).idxOf x=x:=by
 obtain⟨h1,h2⟩:=ze3 (Q:=List.range n) (y:=x) (List.mem_range.2 h);rw[zas,if_pos (by simpa using h1)]at h2;exact h2
theorem zon {L:List Nat}{n:Nat}(hu:L.Pairwise (· < ·))(h:∀x∈L,x<n):zd0 (List.range n) L=L:=by
 unfold zd0;have e:L.map (fun x=>(List.range n).idxOf x)=L:=(List.map_congr_left fun x hx=>znu (h x hx)).trans (List.map_id' L);rw[e,zce _ hu]
theorem zuv (s:List Bool)(n:Nat){Q:List Nat}{FN:List PL}(O:OrderIs (stF s (n+1)) (List.range (n+1)) [n] Q FN):FN=stF s (n+1):=by
 have hm:∀x,x∈Q↔x<n+1:=fun x=>by
  rw[O.mem];constructor
  ·intro h
   induction h with
   | root h=>simp at h;omega
   | @left x y _ hy ih=>rw[zd2 s _ x ih]at hy;have:=(zcq s x).1 y hy;omega
   | @right x y _ hy ih=>rw[zd2 s _ x ih]at hy;have:=(zcq s x).2 y hy;omega
  ·intro h
   by_cases e:x=n
   ·subst e;exact .root (by simp)
   ·have hr:ReachV (stF s (n+1)) [n] n:=.root (by simp)
    rcases zhh s n x (by omega)with h|h
    ·exact .left hr (by rw[zd2 s _ n (by omega)];exact h)
    ·exact .right hr (by rw[zd2 s _ n (by omega)];exact h)
 have hQ:Q=List.range (n+1):=by
  refine zgh ?_ List.pairwise_lt_range (fun x=>by rw[hm,List.mem_range])
  rw[List.pairwise_iff_getElem];intro i j hi hj hij;have hl:FN.length=Q.length:=by rw[O.nodes];simp
  have h:=O.up i j _ _ hij (List.getElem?_eq_getElem (by rw[hl];exact hi)) (List.getElem?_eq_getElem (by rw[hl];exact hj));have e1:Q.getD i 0=Q[i]:=by rw[List.getD_eq_getElem?_getD,List.getElem?_eq_getElem hi];rfl
  have e2:Q.getD j 0=Q[j]:=by rw[List.getD_eq_getElem?_getD,List.getElem?_eq_getElem hj];rfl
  have b1:=(hm Q[i]).1 (List.getElem_mem _);have b2:=(hm Q[j]).1 (List.getElem_mem _);have hne:Q[i]≠Q[j]:=fun e=>by
   have:=zbh O.nodup hi hj (by rw[e1,e2,e]);omega
  rw[e1,e2,zas,zas,if_pos b1,if_pos b2]at h;unfold klt at h;omega
 rw[O.nodes,hQ];show(List.range (n+1)).map _=(List.range (n+1)).map (stN s)
 refine List.map_congr_left fun x hx=>?_
 have hx:=List.mem_range.1 hx;obtain⟨l1,l2⟩:=zcq s x;obtain⟨u1,u2⟩:=zks s x;rw[zd2 s _ x hx];unfold zb7;rw[zon u1 (fun y hy=>by have:=l1 y hy;omega),zon u2 (fun y hy=>by have:=l2 y hy;omega)]
theorem zoc (m:List Bool)(y x:Nat):(m.set y true).getD x false=true↔m.getD x false=true∨x=y/\x<m.length:=by
 rw[List.getD_eq_getElem?_getD,List.getD_eq_getElem?_getD,List.getElem?_set];by_cases e:y=x
 ·subst e
  by_cases h:y<m.length
  ·simp[h]
  ·simp[h]
 ·rw[if_neg e]
  constructor
  ·exact .inl
  ·rintro(h|⟨h,_⟩)
   ·exact h
   ·exact absurd h.symm e
theorem zoy (m:List Bool)(L:List Nat)(x:Nat):(zaz m L).getD x false=true↔m.getD x false=true∨x∈L/\x<m.length:=by
 unfold zaz;induction L generalizing m with
 | nil=>simp
 | cons y l ih =>
  rw[List.foldl_cons,ih,zoc,List.length_set,List.mem_cons];constructor
  ·rintro((h|h)|h)
   ·exact .inl h
   ·exact .inr ⟨.inl h.1,h.2⟩
   ·exact .inr ⟨.inr h.1,h.2⟩
  ·rintro(h|⟨h|h,h2⟩)
   ·exact .inl (.inl h)
   ·exact .inl (.inr ⟨h,h2⟩)
   ·exact .inr ⟨h,h2⟩
theorem zci (V:List PL)(m:List Bool)(k x:Nat):(zbe V m k).getD x false=true↔m.getD x false=true∨m.getD k false=true/\(x∈(za4 V k).1∨x∈(za4 V k).2)/\x<m.length:=by
 unfold zbe za4;split
 ·rename_i h
  rw[zoy,zoy,zah];constructor
  ·rintro((h1|h1)|h1)
   ·exact .inl h1
   ·exact .inr ⟨h,.inl h1.1,h1.2⟩
   ·exact .inr ⟨h,.inr h1.1,h1.2⟩
  ·rintro(h1|⟨_,h1|h1,h2⟩)
   ·exact .inl (.inl h1)
   ·exact .inl (.inr ⟨h1,h2⟩)
   ·exact .inr ⟨h1,h2⟩
 ·rename_i h
  constructor
  ·exact .inl
  ·rintro(h1|h1)
   ·exact h1
   ·exact absurd h1.1 h
theorem zky {V:List PL}{BV:List Nat}(h:PoolOK V BV){r:Nat}(hr:r<V.length)(n:Nat):∀(m:List Bool),n≤r+1→m.length=r+1→(∀x,m.getD x false=true→ReachV V [r] x)→m.getD r false=true →
  (∀x,n≤x→m.getD x false=true→∀y,y∈(za4 V x).1∨y∈(za4 V x).2→m.getD y false=true)→∀x,(zb1 V n m).getD x false=true↔ReachV V [r] x:=by
 induction n with
 | zero =>
  intro m _ _ h1 h2 h3 x;refine⟨h1 x,fun hx=>?_⟩;induction hx with
  | root hx=>rw[List.mem_singleton]at hx;subst hx;exact h2
  | left _ hy ih=>exact h3 _ (Nat.zero_le _) ih _ (.inl hy)
  | right _ hy ih=>exact h3 _ (Nat.zero_le _) ih _ (.inr hy)
 | succ n ih =>
  intro m hn hl h1 h2 h3 x;unfold zb1;have hlow:∀(k y:Nat),k<V.length→(y∈(za4 V k).1∨y∈(za4 V k).2)→y<k:=fun k y hk hy=>by
   obtain⟨o1,o2⟩:=h.opts k _ (zaf hk);rcases hy with hy|hy
   ·exact o1 y hy
   ·exact o2 y hy
  refine ih _ (by omega) (by rw[ze8];exact hl) (fun y hy=>?_) ((zci V m n r).2 (.inl h2)) (fun k hk hm y hy=>?_) x
  ·rcases (zci V m n y).1 hy with hy|⟨hn1,hy,_⟩
   ·exact h1 y hy
   ·rcases hy with hy|hy
    ·exact .left (h1 n hn1) hy
    ·exact .right (h1 n hn1) hy
  ·have hmk:m.getD k false=true:=by
    rcases (zci V m n k).1 hm with hm|⟨_,hm,_⟩
    ·exact hm
    ·have:=hlow n k (by omega) hm;omega
   have hkl:k<r+1:=by
    rcases Nat.lt_or_ge k (r+1)with q|q
    ·exact q
    ·rw[List.getD_eq_getElem?_getD,List.getElem?_eq_none (by omega)]at hmk;cases hmk
   rw[zci];by_cases e:k=n
   ·subst e
    exact .inr ⟨hmk,hy,by have:=hlow k y (by omega) hy;omega⟩
   ·exact .inl (h3 k (by omega) hmk y hy)
theorem zhm {V:List PL}{BV:List Nat}(h:PoolOK V BV){r:Nat}(hr:r<V.length)(x:Nat):(zab V r).getD x false=true↔ReachV V [r] x:=by
 have h0:∀y,((List.replicate (r+1) false).set r true).getD y false=true↔y=r:=fun y=>by
  rw[zoc];constructor
  ·rintro(q|q)
   ·rw[List.getD_eq_getElem?_getD,List.getElem?_replicate]at q
    split at q <;> cases q
   ·exact q.1
  ·rintro rfl
   exact .inr ⟨rfl,by simp⟩
 refine zky h hr (r+1) _ (Nat.le_refl _) (by simp) (fun y hy=>?_) ((h0 r).2 rfl) (fun k hk hm=>?_) x
 ·rw[(h0 y).1 hy];exact .root (by simp)
 ·have:=(h0 k).1 hm;omega
def grp (BV:List Nat)(need:List Bool)(n b:Nat):List Nat:=(List.range n).filter fun k=>decide (need.getD k false=true/\BV.getD k 0=b)
theorem zvh (BV:List Nat)(need:List Bool)(n b:Nat):grp BV need (n+1) b=if need.getD n false=true/\BV.getD n 0=b then grp BV need n b ++ [n]else grp BV need n b:=by
 unfold grp;rw[List.range_succ,List.filter_append];split <;> simp_all
theorem zct {BV:List Nat}{need:List Bool}{n b x:Nat}:x∈grp BV need n b↔x<n/\need.getD x false=true/\BV.getD x 0=b:=by
 unfold grp;rw[List.mem_filter,List.mem_range,decide_eq_true_eq]
theorem zmg (BV:List Nat)(need:List Bool)(n b:Nat):(grp BV need n b).Nodup:=List.nodup_range.filter _
theorem zy3 (key:Nat→PL)(K:List Nat)(k:Nat):insF (K.map key,K) (key k) k=((K.takeWhile (fun b=>zac (key b) (key k))++k::K.dropWhile (fun b=>zac (key b) (key k))).map key,K.takeWhile (fun b=>zac (key b) (key k))++k::K.dropWhile (fun b=>zac (key b) (key k))):=by
 have hp:posA (K.map key) (key k)=(K.takeWhile (fun b=>zac (key b) (key k))).length:=by
  unfold posA;rw[List.takeWhile_map,List.length_map];rfl
 have ht:K.take (posA (K.map key) (key k))=K.takeWhile (fun b=>zac (key b) (key k)):=by
  rw[hp];exact(List.prefix_iff_eq_take.1 (List.takeWhile_prefix _)).symm
 have hd:K.drop (posA (K.map key) (key k))=K.dropWhile (fun b=>zac (key b) (key k)):=by
  rw[hp];exact(congrArg (List.drop _) (List.takeWhile_append_dropWhile (p:=fun b=>zac (key b) (key k)) (l:=K)).symm).trans List.drop_left
 unfold insF;simp only[←List.map_take,←List.map_drop,ht,hd,List.map_append,List.map_cons]
theorem zrc (key:Nat→PL)(K:List Nat)(k:Nat)(h:K.Pairwise fun a b=>zac (key b) (key a)=false) :
  (K.takeWhile (fun b=>zac (key b) (key k))++k::K.dropWhile (fun b=>zac (key b) (key k))).Pairwise fun a b=>zac (key b) (key a)=false:=by
 have hs:=h;rw[←List.takeWhile_append_dropWhile (p:=fun b=>zac (key b) (key k)) (l:=K),List.pairwise_append]at hs;obtain⟨s1,s2,s3⟩:=hs;have hd:∀b∈K.dropWhile (fun b=>zac (key b) (key k)),zac (key b) (key k)=false:=by
  intro b hb;cases hl:K.dropWhile (fun b=>zac (key b) (key k))with
  | nil=>rw[hl]at hb;cases hb
  | cons b0 l =>
   have h0:=List.head_dropWhile_not (fun b=>zac (key b) (key k)) (l:=K) (by rw[hl];simp);simp only[hl,List.head_cons]at h0;rw[hl]at hb s2;rcases List.mem_cons.1 hb with rfl|hb
   ·simpa using h0
   ·have h1:=(List.pairwise_cons.1 s2).1 b hb
    cases hc:zac (key b) (key k)with
    | false=>rfl
    | true =>
     exfalso
     have h0:zac (key b0) (key k)=false:=by simpa using h0
     cases hk:zac (key k) (key b0)with
     | true=>rw[zdf hc hk]at h1;cases h1
     | false =>
      have e:=zge h0 hk;rw[e]at h1;rw[hc]at h1;cases h1
 refine List.pairwise_append.2 ⟨s1,List.pairwise_cons.2 ⟨hd,s2⟩,fun a ha b hb=>?_⟩;have h1:zac (key a) (key k)=true:=by
  exact List.all_eq_true.1 (List.all_takeWhile (p:=fun b=>zac (key b) (key k)) (l:=K)) a ha
 rcases List.mem_cons.1 hb with rfl|hb
 ·exact zdg h1
 ·exact s3 a ha b hb
theorem zut (V:List PL)(BV:List Nat)(need:List Bool)(A:List Nat)(b n:Nat):∃K:List Nat,zc9 V BV need A b n=(K.map (fun k=>keyF A (za4 V k)),K)/\K.Perm (grp BV need n b)/\K.Pairwise fun x y=>zac (keyF A (za4 V y)) (keyF A (za4 V x))=false:=by
 induction n with
 | zero=>exact⟨[],rfl,by simp[grp],by simp⟩
 | succ n ih =>
  obtain⟨K,h1,h2,h3⟩:=ih;rw[zcp,h1,zvh];unfold zd7;split
  ·refine⟨_,zy3 (fun k=>keyF A (za4 V k)) K n,?_,zrc (fun k=>keyF A (za4 V k)) K n h3⟩
   refine List.perm_middle.trans ?_
   rw[List.takeWhile_append_dropWhile];exact(List.Perm.cons n h2).trans (List.perm_append_singleton n _).symm
  ·exact⟨K,rfl,h2,h3⟩
theorem zxs (K:List Nat):∀(LL:List PL) (s:List Nat × List PL),LL.length=K.length→K.Nodup→(∀x∈K,x<s.1.length) →
  ((LL.zip K).foldl layF s).2=s.2++LL/\(∀x,x ∉ K→((LL.zip K).foldl layF s).1.getD x 0=s.1.getD x 0)/\∀x∈K,((LL.zip K).foldl layF s).1.getD x 0=s.2.length+K.idxOf x:=by
 induction K with
 | nil =>
  intro LL s hl _ _;cases LL with
  | nil=>exact⟨by simp,fun _ _=>rfl,by simp⟩
  | cons y l=>simp at hl
 | cons k K ih =>
  intro LL s hl hn hlt;cases LL with
  | nil=>simp at hl
  | cons y l =>
   rw[List.nodup_cons]at hn;rw[List.zip_cons_cons,List.foldl_cons];obtain⟨i1,i2,i3⟩:=ih l (layF s (y,k)) (by simpa using hl) hn.2 (fun x hx=>by
    unfold layF;rw[List.length_set];exact hlt x (List.mem_cons_of_mem _ hx))
   have hk:=hlt k List.mem_cons_self;have hg:∀x,(layF s (y,k)).1.getD x 0=if x=k then s.2.length else s.1.getD x 0:=fun x=>by
    unfold layF;rw[List.getD_eq_getElem?_getD,List.getElem?_set];by_cases e:k=x
    ·subst e;simp[hk]
    ·rw[if_neg e,if_neg (fun q=>e q.symm),List.getD_eq_getElem?_getD]
   refine⟨by rw[i1];unfold layF;simp,fun x hx=>?_,fun x hx=>?_⟩
   ·rw[List.mem_cons,not_or]at hx
    rw[i2 x hx.2,hg,if_neg hx.1]
   ·by_cases e:x=k
    ·subst e
     rw[i2 x hn.1,hg,if_pos rfl];simp
    ·have hxK:=(List.mem_cons.1 hx).resolve_left e
     rw[i3 x hxK,List.idxOf_cons,show(k == x)=false from by simpa using fun q:k=x=>e q.symm];unfold layF;simp only[List.length_append,List.length_cons,List.length_nil,Bool.cond_false];omega
def grps (BV:List Nat)(need:List Bool)(r n:Nat):List Nat:=(List.range n).flatMap fun b=>grp BV need (r+1) b
theorem zfs (BV:List Nat)(need:List Bool)(r n:Nat):grps BV need r (n+1)=grps BV need r n++grp BV need (r+1) n:=by simp[grps,List.range_succ]
theorem zgz {BV:List Nat}{need:List Bool}{r n x:Nat}:x∈grps BV need r n↔x<r+1/\need.getD x false=true/\BV.getD x 0<n:=by
 unfold grps;rw[List.mem_flatMap];constructor
 ·rintro⟨b,hb,hx⟩
  obtain⟨h1,h2,h3⟩:=zct.1 hx;exact⟨h1,h2,by rw[h3];exact List.mem_range.1 hb⟩
 ·rintro⟨h1,h2,h3⟩
  exact⟨_,List.mem_range.2 h3,zct.2 ⟨h1,h2,rfl⟩⟩
theorem znv (BV:List Nat)(need:List Bool)(r n:Nat):(grps BV need r n).Nodup/\(grps BV need r n).Pairwise fun a b=>BV.getD a 0≤BV.getD b 0:=by
 induction n with
 | zero=>simp[grps]
 | succ n ih =>
  rw[zfs];constructor
  ·rw[List.nodup_append]
   refine⟨ih.1,zmg _ _ _ _,fun a ha b hb e=>?_⟩;subst e;have:=(zgz.1 ha).2.2;have:=(zct.1 hb).2.2;omega
  ·refine List.pairwise_append.2 ⟨ih.2,List.pairwise_of_forall_mem_list fun a ha b hb=>?_,fun a ha b hb=>?_⟩
   ·rw[(zct.1 ha).2.2,(zct.1 hb).2.2];exact Nat.le_refl _
   ·have:=(zgz.1 ha).2.2
    have:=(zct.1 hb).2.2;omega
theorem znx (BV:List Nat) (need:List Bool) (r:Nat) {n N:Nat} (h:n≤N):grps BV need r n <+: grps BV need r N:=by
  induction N with
  | zero => have : n = 0 := by omega
            subst this;exact List.prefix_refl _
  | succ N ih =>
    rcases Nat.lt_or_ge N n with q | q
    · have : n = N + 1 := by omega
      subst this;exact List.prefix_refl _
    · rw [zfs];exact (ih q).trans (List.prefix_append _ _)
theorem zo0 {V:List PL}{BV:List Nat}(h:PoolOK V BV){r:Nat}(hr:r<V.length):∃Q,OrderIs V BV [r] Q (ze7 V BV r):=by
 obtain⟨need,hneed⟩:∃n,n=zab V r:=⟨_,rfl⟩;have hN:∀x,need.getD x false=true↔ReachV V [r] x:=fun x=>by rw[hneed];exact zhm h hr x
 have hle:∀x,ReachV V [r] x→x<r+1/\BV.getD x 0≤BV.getD r 0/\x<V.length:=by
  intro x hx;induction hx with
  | root hx=>rw[List.mem_singleton]at hx;subst hx;exact⟨Nat.lt_succ_self _,Nat.le_refl _,hr⟩
  | @left x y _ hy ih =>
   have h1:=(h.lower ih.2.2).1 y hy;have h2:=(h.opts x _ (zaf ih.2.2)).1 y hy;omega
  | @right x y _ hy ih =>
   have h1:=(h.lower ih.2.2).2 y hy;have h2:=(h.opts x _ (zaf ih.2.2)).2 y hy;omega
 obtain⟨N,hNN⟩:∃N,N=BV.getD r 0+1:=⟨_,rfl⟩;obtain⟨Q,hQ⟩:∃Q,Q=grps BV need r N:=⟨_,rfl⟩;have hQn:=znv BV need r N;rw[←hQ]at hQn;have hQm:∀x,x∈Q↔ReachV V [r] x:=fun x=>by
  rw[hQ,zgz,hN];exact⟨fun q=>q.2.1,fun q=>⟨(hle x q).1,q,by have:=(hle x q).2.1;omega⟩⟩
 have q:QOk V BV Q:=h.qok (R:=[r]) (by simpa using hr) hQn.1 hQm hQn.2;have key:∀n,n≤N→∃A,GInv V BV Q A (grps BV need r n).length/\(zag V BV need r n).2=A.map (fun x=>zb7 A (za4 V x))/\∀x∈A,(zag V BV need r n).1.getD x 0=A.idxOf x:=by
  intro n;induction n with
  | zero=>intro _;exact⟨[],GInv.start V BV Q,rfl,by simp⟩
  | succ n ih =>
   intro hn;obtain⟨A,hA,hF,hX⟩:=ih (by omega);have hpre:=znx BV need r (n:=n+1) (N:=N) hn;rw[←hQ,zfs]at hpre;obtain⟨t,ht⟩:=hpre;have hdrop:Q.drop (grps BV need r n).length=grp BV need (r+1) n++t:=by rw[←ht,List.append_assoc,List.drop_left]
   obtain⟨K,hK,hKp,hKs⟩:=zut V BV need (zag V BV need r n).1 n (r+1);have hlen:=(zbv V BV need r n).1;have hKlt:∀x∈K,x<(zag V BV need r n).1.length:=fun x hx=>by
    rw[hlen];exact(zct.1 ((hKp.mem_iff).1 hx)).1
   have hKn:K.Nodup:=(hKp.nodup_iff).2 (zmg _ _ _ _);obtain⟨l1,l2,l3⟩:=zxs K (K.map fun k=>keyF (zag V BV need r n).1 (za4 V k)) (zag V BV need r n) (by simp) hKn hKlt;have hstep:zag V BV need r (n+1)=((K.map fun k=>keyF (zag V BV need r n).1 (za4 V k)).zip K).foldl layF (zag V BV need r n):=by
    rw[ze6];unfold zrk;rw[hK]
   have hfl:(zag V BV need r n).2.length=A.length:=by rw[hF];simp
   rw[zfs,hstep];by_cases hm:grp BV need (r+1) n=[]
   ·have hK0:K=[]:=by rw[hm]at hKp;exact hKp.eq_nil
    subst hK0;rw[hm,List.append_nil];exact⟨A,hA,hF,hX⟩
   ·have hlt:(grps BV need r n).length<Q.length:=by
     rw[←ht];have:0<(grp BV need (r+1) n).length:=List.length_pos_iff.2 hm;simp only[List.length_append];omega
    have hQn0:BV.getD (Q.getD (grps BV need r n).length 0) 0=n:=by
     have e:Q.getD (grps BV need r n).length 0∈grp BV need (r+1) n:=by
      have e2:Q[(grps BV need r n).length]?=(grp BV need (r+1) n)[0]?:=by
       rw[←ht,List.append_assoc,List.getElem?_append_right (Nat.le_refl _),Nat.sub_self,List.getElem?_append_left (List.length_pos_iff.2 hm)]
      rw[List.getD_eq_getElem?_getD,e2,List.getElem?_eq_getElem (List.length_pos_iff.2 hm)];exact List.getElem_mem _
     exact(zct.1 e).2.2
    have hgr:∀x∈grp BV need (r+1) n,x∈Q/\BV.getD x 0=BV.getD (Q.getD (grps BV need r n).length 0) 0:=fun x hx=>by
     obtain⟨g1,g2,g3⟩:=zct.1 hx;exact⟨(hQm x).2 ((hN x).1 g2),by rw[hQn0,g3]⟩
    have hkey:∀x∈grp BV need (r+1) n,keyF (zag V BV need r n).1 (za4 V x)=zb7 A (za4 V x):=fun x hx=>by
     obtain⟨g1,g2⟩:=q.group hA hlt (hgr x hx).1 (hgr x hx).2;have e:∀l:List Nat,(∀y∈l,y∈A)→za6 (za1 (zag V BV need r n).1 l)=zd0 A l:=fun l hl=>by
      unfold zd0 za1;rw[List.map_congr_left fun y hy=>hX y (hl y hy)]
     unfold keyF zb7;rw[e _ g1,e _ g2]
    have hstp:=GInv.step q hA (m:=(grp BV need (r+1) n).length) (G:=grp BV need (r+1) n) (G':=K) (List.length_pos_iff.2 hm) (by rw[←ht];simp only[List.length_append];omega)
     (by rw[hdrop,List.take_left]) (fun x hx=>(hgr x hx).2) (by
      rcases Nat.lt_or_ge ((grps BV need r n).length+(grp BV need (r+1) n).length) Q.length with q1|q1
      ·refine .inr ?_
       rw[hQn0];intro e;have hin:Q.getD ((grps BV need r n).length+(grp BV need (r+1) n).length) 0∈t:=by
        have e2:Q[(grps BV need r n).length+(grp BV need (r+1) n).length]?=t[0]?:=by
         rw[←ht,List.getElem?_append_right (by simp),List.length_append,Nat.sub_self]
        rw[List.getD_eq_getElem?_getD,e2];have hl:(grps BV need r n++grp BV need (r+1) n++t).length=Q.length:=by rw[ht]
        simp only[List.length_append]at hl;rw[List.getElem?_eq_getElem (by omega)];exact List.getElem_mem _
       have hnd:=hQn.1;rw[←ht,List.nodup_append]at hnd;have hxQ:Q.getD ((grps BV need r n).length+(grp BV need (r+1) n).length) 0∈Q:=by rw[←ht];exact List.mem_append_right _ (by rw[ht];exact hin)
       have hre:=(hQm _).1 hxQ;refine hnd.2.2 _ (List.mem_append_right _ (zct.2 ⟨(hle _ hre).1,(hN _).2 hre,e⟩)) _ hin rfl
      ·exact .inl (by
        have hl:(grps BV need r n++grp BV need (r+1) n++t).length=Q.length:=by rw[ht]
        simp only[List.length_append]at hl;omega)) hKp (hKs.imp_of_mem fun {a b} ha hb hk=>by
      rw[hkey a ((hKp.mem_iff).1 ha),hkey b ((hKp.mem_iff).1 hb)]at hk;exact hk)
    have hAd:∀x∈A,x ∉ K:=fun x hx hxK=>by
     have h1:=(hA.mem x).1 hx;have h2:=(hKp.mem_iff).1 hxK;rw[←ht,List.append_assoc,List.take_left]at h1;have:=(zgz.1 h1).2.2;have:=(zct.1 h2).2.2;omega
    refine⟨A++K,by rw[List.length_append];exact hstp,?_,fun x hx=>?_⟩
    ·rw[l1,hF,List.map_append]
     congr 1
     ·refine List.map_congr_left fun x hx=>?_
      exact(zbn (q.closed hA hx).1 (q.closed hA hx).2).symm
     ·refine List.map_congr_left fun x hx=>?_
      have hxg:=(hKp.mem_iff).1 hx;obtain⟨g1,g2⟩:=q.group hA hlt (hgr x hxg).1 (hgr x hxg).2;rw[hkey x hxg,zbn g1 g2]
    ·rw[List.idxOf_append]
     by_cases hxA:x∈A
     ·rw[if_pos hxA,l2 x (hAd x hxA),hX x hxA]
     ·have hxK:=(List.mem_append.1 hx).resolve_left hxA
      rw[if_neg hxA,l3 x hxK,hfl];omega
 obtain⟨A,hA,hF,_⟩:=key N (Nat.le_refl _);rw[←hQ]at hA;refine⟨A,?_⟩;have e:ze7 V BV r=A.map fun x=>zb7 A (za4 V x):=by
  unfold ze7;rw[←hneed,←hNN,hF]
 rw[e];exact hA.order hQn.1 hQm
theorem zcg {α:Type}{P:List α→Prop}(h0:P [])(h1:∀l a,P l→P (l ++ [a])):∀l,P l:=fun l=>by
 have h:∀m:List α,P m.reverse:=fun m=>by
  induction m with
  | nil=>exact h0
  | cons a m ih=>rw[List.reverse_cons];exact h1 _ _ ih
 have:=h l.reverse;rwa [List.reverse_reverse]at this
def za0 (V:List PL):List Nat:=V.foldl (fun C y=>C ++ [mkC (za1 C y.1) (za1 C y.2)]) []
theorem zdb (V:List PL)(y:PL):za0 (V ++ [y])=za0 V ++ [mkC (za1 (za0 V) y.1) (za1 (za0 V) y.2)]:=by simp[za0]
theorem za7 (V:List PL):(za0 V).length=V.length:=by
 induction V using zcg with
 | h0=>rfl
 | h1 l a ih=>rw[zdb,List.length_append,List.length_append,ih];rfl
theorem zbp (C t L:List Nat)(h:∀x∈L,x<C.length):za1 (C++t) L=za1 C L:=by
 unfold za1;refine List.map_congr_left fun x hx=>?_
 rw[List.getD_eq_getElem?_getD,List.getD_eq_getElem?_getD,List.getElem?_append_left (h x hx)]
theorem zcx {C t:List Nat}{j:Nat}(h:j<C.length):(C++t).getD j 0=C.getD j 0:=by
 rw[List.getD_eq_getElem?_getD,List.getD_eq_getElem?_getD,List.getElem?_append_left h]
theorem zdh {V V':List PL}(h:V <+: V'):za0 V <+: za0 V':=by
 obtain⟨t,rfl⟩:=h;induction t using zcg with
 | h0=>rw[List.append_nil];exact List.prefix_refl _
 | h1 l a ih=>rw[←List.append_assoc,zdb];exact ih.trans (List.prefix_append _ _)
def OptsOK (V:List PL):Prop:=∀(j:Nat) (y:PL),V[j]?=some y→(∀i∈y.1,i<j)/\∀i∈y.2,i<j
theorem zdc (V:List PL):OptsOK V→∀(j:Nat) (x:PL),V[j]?=some x→(za0 V).getD j 0=mkC (za1 (za0 V) x.1) (za1 (za0 V) x.2):=by
 induction V using zcg with
 | h0=>intro _ j x h;simp at h
 | h1 l a ih =>
  intro ho j x hx;have hol:OptsOK l:=fun j y hy=>ho j y (by rw[List.getElem?_append_left (List.getElem?_eq_some_iff.1 hy).1];exact hy)
  have hl:=za7 l;obtain⟨o1,o2⟩:=ho j x hx;rw[zdb];rcases zf1 hx with ⟨hj,hx⟩|⟨rfl,rfl⟩
  ·rw[zcx (by omega),zbp _ _ _ (fun i hi=>by have:=o1 i hi;omega),zbp _ _ _ (fun i hi=>by have:=o2 i hi;omega)]
   exact ih hol j x hx
  ·rw[zbp _ _ _ (fun i hi=>by have:=o1 i hi;omega),zbp _ _ _ (fun i hi=>by have:=o2 i hi;omega)]
   rw[List.getD_eq_getElem?_getD,←hl];simp
theorem zi6 (BL:List Nat)(m:Nat)(L:List Nat):m≤za9 BL m L/\(∀x∈L,BL.getD x 0+1≤za9 BL m L)/\(za9 BL m L=m∨∃x∈L,za9 BL m L=BL.getD x 0+1):=zhz (fun i=>BL.getD i 0+1) L m
theorem PoolOK.book {V:List PL}{BV:List Nat}(h:PoolOK V BV):BookC V (za0 V):=by
 have hc:=zdc V h.opts;have hl:=za7 V;refine⟨hl,h.opts,h.up,hc,?_⟩;have key:∀n i j,i+j<n→i<V.length→j<V.length→(za0 V).getD i 0=(za0 V).getD j 0→i=j:=by
  intro n;induction n with
  | zero=>intro i j h;omega
  | succ n ih =>
   intro i j hn hi hj e;have ei:=List.getElem?_eq_getElem hi
   have ej:=List.getElem?_eq_getElem hj
   obtain⟨p1,p2⟩:=h.opts i _ ei;obtain⟨q1,q2⟩:=h.opts j _ ej;obtain⟨u1,u2⟩:=h.up i _ ei;obtain⟨v1,v2⟩:=h.up j _ ej;rw[hc i _ ei,hc j _ ej]at e;have side:∀(a b:Nat) (l m:List Nat),a+b<n+1→a<V.length→b<V.length→(∀x∈l,x<a)→(∀x∈m,x<b)→(∀z,z∈za1 (za0 V) l→z∈za1 (za0 V) m)→∀x∈l,x∈m:=by
    intro a b l m hab ha hb hl' hm' hs x hx;obtain⟨y,hy,ey⟩:=za5.1 (hs _ (za5.2 ⟨x,hx,rfl⟩));have h1:=hl' x hx;have h2:=hm' y hy;rw[ih x y (by omega) (by omega) (by omega) ey.symm];exact hy
   have s1:∀z,z∈za1 (za0 V) V[i].1↔z∈za1 (za0 V) V[j].1:=fun z=>by rw[←zam _ (za1 (za0 V) V[i].2),e,zam]
   have s2:∀z,z∈za1 (za0 V) V[i].2↔z∈za1 (za0 V) V[j].2:=fun z=>by rw[←zak (za1 (za0 V) V[i].1),e,zak]
   have e1:V[i].1=V[j].1:=zgh u1 v1 fun x=>⟨side i j _ _ hn hi hj p1 q1 (fun z=>(s1 z).1) x,side j i _ _ (by omega) hj hi q1 p1 (fun z=>(s1 z).2) x⟩
   have e2:V[i].2=V[j].2:=zgh u2 v2 fun x=>⟨side i j _ _ hn hi hj p2 q2 (fun z=>(s2 z).1) x,side j i _ _ (by omega) hj hi q2 p2 (fun z=>(s2 z).2) x⟩
   exact(List.getElem_inj h.nodup).1 (Prod.ext e1 e2)
 refine List.nodup_iff_pairwise_ne.2 (List.pairwise_iff_getElem.2 fun i j hi hj hij e=>?_);have:=key (i+j+1) i j (by omega) (by omega) (by omega) (by rw[List.getD_eq_getElem?_getD,List.getD_eq_getElem?_getD,List.getElem?_eq_getElem hi,List.getElem?_eq_getElem hj,e]);omega
theorem PoolOK.births {V:List PL}{BV:List Nat}(h:PoolOK V BV):∀j,j<V.length→BV.getD j 0=bornC ((za0 V).getD j 0):=by
 intro j;induction j using Nat.strongRecOn with
 | _ j ih =>
  intro hj;have ej:=List.getElem?_eq_getElem hj
  obtain⟨o1,o2⟩:=h.opts j _ ej;rw[h.born j _ ej,zdc V h.opts j _ ej];obtain⟨a1,a2,a3⟩:=zi6 BV 0 V[j].1;obtain⟨b1,b2,b3⟩:=zi6 BV (za9 BV 0 V[j].1) V[j].2;have hopt:∀i,optC (mkC (za1 (za0 V) V[j].1) (za1 (za0 V) V[j].2)) i↔(∃x∈V[j].1,(za0 V).getD x 0=i)∨∃x∈V[j].2,(za0 V).getD x 0=i:=fun i=>by
   unfold optC;rw[zam,zak,za5,za5]
  refine(zx2 (fun i hi=>?_) ?_).symm
  ·rcases (hopt i).1 hi with ⟨x,hx,rfl⟩|⟨x,hx,rfl⟩
   ·rw[←ih x (o1 x hx) (by have:=o1 x hx;omega)]
    have:=a2 x hx;omega
   ·rw[←ih x (o2 x hx) (by have:=o2 x hx;omega)]
    have:=b2 x hx;omega
  ·rcases b3 with b3|⟨x,hx,b3⟩
   ·rcases a3 with a3|⟨x,hx,a3⟩
    ·exact .inl (by omega)
    ·refine .inr ⟨_,(hopt _).2 (.inl ⟨x,hx,rfl⟩),?_⟩
     rw[←ih x (o1 x hx) (by have:=o1 x hx;omega)];omega
   ·refine .inr ⟨_,(hopt _).2 (.inr ⟨x,hx,rfl⟩),?_⟩
    rw[←ih x (o2 x hx) (by have:=o2 x hx;omega)];omega
theorem PoolOK.form {V:List PL}{BV:List Nat}(h:PoolOK V BV){r:Nat}(hr:r<V.length):FormC ((za0 V).getD r 0) (ze7 V BV r):=by
 obtain⟨Q,O⟩:=zo0 h hr;exact⟨_,zr3 h.book h.births hr O⟩
theorem zds (BL:List Nat)(m K:Nat)(L:List Nat):za9 BL m L≤K↔m≤K/\∀x∈L,BL.getD x 0+1≤K:=by
 obtain⟨a1,a2,a3⟩:=zi6 BL m L;constructor
 ·exact fun h=>⟨by omega,fun x hx=>by have:=a2 x hx;omega⟩
 ·rintro⟨h1,h2⟩
  rcases a3 with a3|⟨x,hx,a3⟩
  ·omega
  ·have:=h2 x hx;omega
theorem ztt (BL:List Nat){L L' R R':List Nat}(h1:∀x,x∈L↔x∈L')(h2:∀x,x∈R↔x∈R'):za9 BL (za9 BL 0 L) R=za9 BL (za9 BL 0 L') R':=by
 have key:∀ {A A' B B':List Nat},(∀x,x∈A↔x∈A')→(∀x,x∈B↔x∈B')→za9 BL (za9 BL 0 A) B≤za9 BL (za9 BL 0 A') B':=by
  intro A A' B B' e1 e2;obtain⟨i1,i2⟩:=(zds BL (za9 BL 0 A') _ B').1 (Nat.le_refl _);obtain⟨j1,j2⟩:=(zds BL 0 _ A').1 i1;exact(zds _ _ _ _).2 ⟨(zds _ _ _ _).2 ⟨j1,fun x hx=>j2 x ((e1 x).1 hx)⟩,fun x hx=>i2 x ((e2 x).1 hx)⟩
 exact Nat.le_antisymm (key h1 h2) (key (fun x=>(h1 x).symm) fun x=>(h2 x).symm)
theorem zfh {V:List PL}{BV:List Nat}(h:PoolOK V BV)(L R:List Nat):putB V BV L R=za3 V BV L R:=by
 have hb:(zd6 BV L R).1=za9 BV (za9 BV 0 (za6 L)) (za6 R):=ztt BV (fun x=>(zav L x).symm) fun x=>(zav R x).symm
 have h2:(zd6 BV L R).2=(za6 L,za6 R):=rfl;unfold putB za3;simp only[h2];by_cases hm:(za6 L,za6 R)∈V
 ·rw[if_pos hm]
  have hi:=List.idxOf_lt_length_of_mem hm;have ei:V[V.idxOf (za6 L,za6 R)]?=some (za6 L,za6 R):=by rw[List.getElem?_eq_getElem hi,List.getElem_idxOf]
  have e:znf V BV (zd6 BV L R).1 (za6 L,za6 R)=V.idxOf (za6 L,za6 R):=by
   refine zk2 V BV _ _ _ hi h.len (fun j x y hj hx hy q=>?_) ?_ ei
   ·have hjl:=(List.getElem?_eq_some_iff.1 hx).1
    rw[q.2]at hx;obtain⟨_,ex⟩:=List.getElem?_eq_some_iff.1 hx
    have:V.idxOf V[j]=j:=List.Nodup.idxOf_getElem h.nodup j hjl;rw[ex]at this;omega
   ·have hbn:=h.born _ _ ei
    have hl:V.idxOf (za6 L,za6 R)<BV.length:=by rw[h.len];exact hi
    rw[List.getD_eq_getElem?_getD,List.getElem?_eq_getElem hl]at hbn;rw[List.getElem?_eq_getElem hl,hb,←hbn];rfl
  rw[e,if_pos hi]
 ·rw[if_neg hm]
  have e:=zg3 V BV (zd6 BV L R).1 (za6 L,za6 R) h.len (fun j x y hj hx hy q=>hm (by rw[←q.2];exact List.mem_of_getElem? hx));rw[if_neg e,hb]
theorem zm2 {V:List PL}{BV:List Nat}(h:PoolOK V BV){L R:List Nat}(hL:∀x∈L,x<V.length)(hR:∀x∈R,x<V.length) :
  (za0 (za3 V BV L R).1).getD (za3 V BV L R).2.2 0=mkC (za1 (za0 V) L) (za1 (za0 V) R):=by
 obtain⟨h1,h2⟩:=zev h hL hR;obtain⟨_,_,hp⟩:=zg4 V BV L R;have hl:=za7 V;rw[zdc _ h1.opts _ _ h2];obtain⟨t,ht⟩:=zdh hp;rw[←ht];refine zsx (fun i=>?_) fun i=>?_
 ·rw[zbp _ _ _ (fun x hx=>by rw[hl];exact hL x ((zav L x).1 hx)),za5,za5]
  exact⟨fun⟨x,hx,e⟩=>⟨x,(zav L x).1 hx,e⟩,fun⟨x,hx,e⟩=>⟨x,(zav L x).2 hx,e⟩⟩
 ·rw[zbp _ _ _ (fun x hx=>by rw[hl];exact hR x ((zav R x).1 hx)),za5,za5]
  exact⟨fun⟨x,hx,e⟩=>⟨x,(zav R x).1 hx,e⟩,fun⟨x,hx,e⟩=>⟨x,(zav R x).2 hx,e⟩⟩
theorem zt0 {b1 b2 b3:Nat}{x1 x2 x3:PL}(h:klt b1 x1 b2 x2)(h':klt b2 x2 b3 x3):klt b1 x1 b3 x3:=by
 rcases h with h|⟨e,h⟩
 ·rcases h' with h'|⟨e',_⟩
  ·exact .inl (by omega)
  ·exact .inl (by omega)
 ·rcases h' with h'|⟨e',h'⟩
  ·exact .inl (by omega)
  ·exact .inr ⟨by omega,zdf h h'⟩
theorem zxt (b:Nat)(x:PL):¬klt b x b x:=fun h=>zmc h h
def zau (Fs:List PL):List Nat:=Fs.foldl (fun B y=>B ++ [za9 B (za9 B 0 y.1) y.2]) []
theorem zcz (Fs:List PL)(y:PL):zau (Fs ++ [y])=zau Fs ++ [za9 (zau Fs) (za9 (zau Fs) 0 y.1) y.2]:=by simp[zau]
theorem zbz (Fs:List PL):(zau Fs).length=Fs.length:=by
 induction Fs using zcg with
 | h0=>rfl
 | h1 l a ih=>rw[zcz,List.length_append,List.length_append,ih];rfl
theorem OptsOK.cut {l:List PL}{a:PL}(ho:OptsOK (l ++ [a])):OptsOK l:=fun j z hz=>ho j z (by rw[List.getElem?_append_left (List.getElem?_eq_some_iff.1 hz).1];exact hz)
theorem BookUp.cut {l:List PL}{a:PL}(ho:BookUp (l ++ [a])):BookUp l:=fun j z hz=>ho j z (by rw[List.getElem?_append_left (List.getElem?_eq_some_iff.1 hz).1];exact hz)
theorem zi5 (Fs:List PL):OptsOK Fs→∀(j:Nat) (y:PL),Fs[j]?=some y→(zau Fs).getD j 0=za9 (zau Fs) (za9 (zau Fs) 0 y.1) y.2:=by
 induction Fs using zcg with
 | h0=>intro _ j y h;simp at h
 | h1 l a ih =>
  intro ho j y hy;have hl:=zbz l;obtain⟨o1,o2⟩:=ho j y hy;rw[zcz];rcases zf1 hy with ⟨hj,hy⟩|⟨rfl,rfl⟩
  ·rw[zba _ _ _ _ (fun x hx=>by have:=o2 x hx;omega),zba _ _ _ _ (fun x hx=>by have:=o1 x hx;omega),zcx (by omega)]
   exact ih ho.cut j y hy
  ·rw[zba _ _ _ _ (fun x hx=>by have:=o2 x hx;omega),zba _ _ _ _ (fun x hx=>by have:=o1 x hx;omega),List.getD_eq_getElem?_getD,←hl]
   simp
theorem zfi {Fs:List PL}(ho:OptsOK Fs)(hu:BookUp Fs)(hn:Fs.Nodup):PoolOK Fs (zau Fs):=⟨zbz Fs,ho,hu,hn,zi5 Fs ho⟩
theorem zmz (Fs:List PL):OptsOK Fs→BookUp Fs→Fs.Nodup→addB [] [] Fs=(Fs,zau Fs,List.range Fs.length):=by
 induction Fs using zcg with
 | h0=>intro _ _ _;rfl
 | h1 l y ih =>
  intro ho hu hn;have hnl:l.Nodup:=(List.nodup_append.1 hn).1;have hnot:y ∉ l:=fun h=>(List.nodup_append.1 hn).2.2 y h y (by simp) rfl
  have hy:(l ++ [y])[l.length]?=some y:=by simp
  obtain⟨o1,o2⟩:=ho _ y hy;obtain⟨u1,u2⟩:=hu _ y hy;have hat:∀L:List Nat,(∀x∈L,x<l.length)→za1 (List.range l.length) L=L:=fun L hL=>zfy _ _ fun x hx=>by rw[zas,if_pos (hL x hx)]
  have hput:za3 l (zau l) y.1 y.2=(l ++ [y],zau (l ++ [y]),l.length):=by
   unfold za3;rw[zce _ u1,zce _ u2,if_neg hnot,zcz]
  rw[zca,ih ho.cut hu.cut hnl];unfold zff;simp only[hat _ o1,hat _ o2,zfh (zfi ho.cut hu.cut hnl),hput];simp[List.range_succ]
theorem zn0 (Fs:List PL):OptsOK Fs→∀ {V:List PL}{BV:List Nat},PoolOK V BV→BookOK V BV→PoolOK (addB V BV Fs).1 (addB V BV Fs).2.1:=by
 induction Fs using zcg with
 | h0=>intro _ V BV h _;exact h
 | h1 l y ih =>
  intro ho V BV h hb;obtain⟨k1,k2,k3,k4,k5⟩:=zeq hb l ho.cut;have hp:=ih ho.cut h hb;have hy:(l ++ [y])[l.length]?=some y:=by simp
  obtain⟨o1,o2⟩:=ho _ y hy;rw[zca];show PoolOK (putB _ _ _ _).1 (putB _ _ _ _).2.1
  rw[zfh hp];exact(zev hp (zde k3 (fun x hx=>by rw[k2];exact o1 x hx)) (zde k3 (fun x hx=>by rw[k2];exact o2 x hx))).1
theorem zs9 {V:List PL}{C:List Nat}(B:BookC V C){r:Nat}(hr:r<V.length){x:Nat}(h:ReachV V [r] x):SubC (C.getD r 0) (C.getD x 0):=by
 induction h with
 | root h=>simp at h;subst h;exact .root
 | left h hz ih=>exact .step ih (.inl (B.left (zdv B (by simpa using hr) h) hz).2)
 | right h hz ih=>exact .step ih (.inr (B.right (zdv B (by simpa using hr) h) hz).2)
theorem zhe {V:List PL}{C:List Nat}(B:BookC V C){r:Nat}(hr:r<V.length){c:Nat}(h:SubC (C.getD r 0) c):∃x,ReachV V [r] x/\x<V.length/\C.getD x 0=c:=by
 induction h with
 | root=>exact⟨r,.root (by simp),hr,rfl⟩
 | step _ ho ih =>
  obtain⟨y,hy,hyl,rfl⟩:=ih;rw[B.code y _ (B.getD hyl)]at ho;rcases ho with ho|ho
  ·rw[zam]at ho
   obtain⟨z,hz,rfl⟩:=za5.1 ho;have hr':=ReachV.left hy hz;exact⟨z,hr',zdv B (by simpa using hr) hr',rfl⟩
  ·rw[zak]at ho
   obtain⟨z,hz,rfl⟩:=za5.1 ho;have hr':=ReachV.right hy hz;exact⟨z,hr',zdv B (by simpa using hr) hr',rfl⟩
def zf9 (Fs:List PL):Prop:=∀(j:Nat) (x y:PL),Fs[j]?=some x→Fs[j+1]?=some y→klt ((zau Fs).getD j 0) x ((zau Fs).getD (j+1) 0) y
def zc5 (Fs:List PL):Prop:=∀x,x<Fs.length→(zab Fs (Fs.length-1)).getD x false=true
theorem zv8 {Fs:List PL}(h:zf9 Fs):∀(d i:Nat) (x y:PL),Fs[i]?=some x→Fs[i+d+1]?=some y→klt ((zau Fs).getD i 0) x ((zau Fs).getD (i+d+1) 0) y:=by
 intro d;induction d with
 | zero=>intro i x y hx hy;exact h i x y hx hy
 | succ d ih =>
  intro i x y hx hy;have hl:=(List.getElem?_eq_some_iff.1 hy).1;have hm:=List.getElem?_eq_getElem (l:=Fs) (i:=i+d+1) (by omega)
  exact zt0 (ih i x _ hx hm) (h (i+d+1) _ y hm hy)
theorem zsu {Fs:List PL}(h:zf9 Fs){i j:Nat}{x y:PL}(hij:i<j)(hx:Fs[i]?=some x)(hy:Fs[j]?=some y):klt ((zau Fs).getD i 0) x ((zau Fs).getD j 0) y:=by
 obtain⟨d,rfl⟩:∃d,j=i+d+1:=⟨j-i-1,by omega⟩;exact zv8 h d i x y hx hy
theorem zg5 {Fs:List PL}(ho:OptsOK Fs)(h:zf9 Fs):Fs.Nodup:=by
 refine List.nodup_iff_pairwise_ne.2 (List.pairwise_iff_getElem.2 fun i j hi hj hij e=>?_);have e1:=List.getElem?_eq_getElem hi
 have e2:=List.getElem?_eq_getElem hj
 have hk:=zsu h hij e1 e2;rw[zi5 Fs ho i _ e1,zi5 Fs ho j _ e2,e]at hk;exact zxt _ _ hk
def zfv (Fs:List PL):Nat:=(za0 Fs).getD (Fs.length-1) 0
theorem zxq {Fs:List PL}{c:Nat}(h:FormC c Fs):0<Fs.length/\OptsOK Fs/\BookUp Fs/\zf9 Fs/\zc5 Fs/\zfv Fs=c:=by
 obtain⟨P,hA⟩:=h;have ho:OptsOK Fs:=hA.book.opts;have hu:BookUp Fs:=hA.book.up;have hPl:=hA.book.len;have hPC:∀j,j<Fs.length→P.getD j 0=(za0 Fs).getD j 0:=by
  intro j;induction j using Nat.strongRecOn with
  | _ j ih =>
   intro hj;have ej:=List.getElem?_eq_getElem hj
   obtain⟨o1,o2⟩:=ho j _ ej;have e1:∀L:List Nat,(∀x∈L,x<j)→za1 P L=za1 (za0 Fs) L:=fun L hL=>List.map_congr_left fun x hx=>ih x (hL x hx) (by have:=hL x hx;omega)
   rw[hA.book.code j _ ej,zdc Fs ho j _ ej,e1 _ o1,e1 _ o2]
 have hn:Fs.Nodup:=by
  refine List.nodup_iff_pairwise_ne.2 (List.pairwise_iff_getElem.2 fun i j hi hj hij e=>?_);have c1:=hA.book.code i _ (List.getElem?_eq_getElem hi);have c2:=hA.book.code j _ (List.getElem?_eq_getElem hj);rw[e]at c1;have:=zbh hA.book.nodup (by omega) (by omega) (c1.trans c2.symm);omega
 have hP:=zfi ho hu hn;obtain⟨k,hk,ek⟩:=zfp ((hA.sub c).2 .root);have hkl:k<Fs.length:=by omega
 have hreach:∀i,i<Fs.length→ReachV Fs [k] i:=fun i hi=>by
  have hs:=(hA.sub _).1 (zda (C:=P) (i:=i) (by omega));rw[←ek]at hs;obtain⟨x,hx,hxl,e⟩:=zhe hA.book hkl hs;rw[zbh hA.book.nodup (by omega) (by omega) e]at hx;exact hx
 have hle:∀x,ReachV Fs [k] x→x≤k:=fun x hx=>by
  induction hx with
  | root h=>simp at h;omega
  | @left x y hx hy ih=>have:=(ho x _ (zaf (by omega))).1 y hy;omega
  | @right x y hx hy ih=>have:=(ho x _ (zaf (by omega))).2 y hy;omega
 have hke:k=Fs.length-1:=by have:=hle _ (hreach (Fs.length-1) (by omega));omega
 subst hke;refine⟨by omega,ho,hu,fun j x y hx hy=>?_,fun x hx=>(zhm hP hkl x).2 (hreach x hx),by unfold zfv;rw[←hPC _ hkl,ek]⟩;have hk:=hA.up j (j+1) x y (Nat.lt_succ_self _) hx hy;have l1:=(List.getElem?_eq_some_iff.1 hx).1;have l2:=(List.getElem?_eq_some_iff.1 hy).1;rw[hPC j l1,hPC (j+1) l2,←hP.births j l1,←hP.births (j+1) l2]at hk;exact hk
theorem zxp {Fs:List PL}(ho:OptsOK Fs)(hp:0<Fs.length)(h:ze7 (addB [] [] Fs).1 (addB [] [] Fs).2.1 (zdm [] [] Fs)=Fs):zf9 Fs/\zc5 Fs:=by
 have hP0:=zn0 Fs ho PoolOK.nil BookOK.nil;have hroot:zdm [] [] Fs<(addB [] [] Fs).1.length:=by
  obtain⟨k1,k2,k3,k4,k5⟩:=zeq BookOK.nil Fs ho;unfold zdm;rw[List.getD_eq_getElem?_getD,List.getElem?_eq_getElem (by omega)];exact k3 _ (List.getElem_mem _)
 have hA:=hP0.form hroot;rw[h]at hA;obtain⟨_,_,_,h4,h5,_⟩:=zxq hA;exact⟨h4,h5⟩
theorem zy6 {Fs:List PL}(hp:0<Fs.length)(ho:OptsOK Fs)(hu:BookUp Fs)(hk:zf9 Fs)(hr:zc5 Fs):FormC (zfv Fs) Fs:=by
 have hn:=zg5 ho hk;have hP:=zfi ho hu hn;have hlast:Fs.length-1<Fs.length:=by omega
 have hcl:=za7 Fs;refine⟨za0 Fs,hP.book,fun x=>⟨fun hx=>?_,fun hx=>?_⟩,fun i j x y hij hx hy=>?_⟩
 ·obtain⟨i,hi,rfl⟩:=zfp hx
  exact zs9 hP.book hlast ((zhm hP hlast i).1 (hr i (by omega)))
 ·obtain⟨y,_,hy,rfl⟩:=zhe hP.book hlast hx
  exact zda (by omega)
 ·have h:=zsu hk hij hx hy
  rw[hP.births i (List.getElem?_eq_some_iff.1 hx).1,hP.births j (List.getElem?_eq_some_iff.1 hy).1]at h;exact h
theorem zy4 {Fs:List PL}(hp:0<Fs.length)(ho:OptsOK Fs)(hu:BookUp Fs)(hk:zf9 Fs)(hr:zc5 Fs):ze7 (addB [] [] Fs).1 (addB [] [] Fs).2.1 (zdm [] [] Fs)=Fs:=by
 have hn:=zg5 ho hk;have hP:=zfi ho hu hn;have hlast:Fs.length-1<Fs.length:=by omega
 unfold zdm;rw[zmz Fs ho hu hn];show ze7 Fs (zau Fs) ((List.range Fs.length).getD (Fs.length-1) 0)=Fs
 rw[zas,if_pos hlast];exact(hP.form hlast).one (zy6 hp ho hu hk hr)
theorem zmi (Fs:List PL):zeb (i2 Fs)↔zby Fs=true/\OptsOK Fs/\BookUp Fs/\zf9 Fs/\zc5 Fs:=by
 constructor
 ·rintro⟨h1,h2,h3⟩
  rw[zi2]at h1;obtain⟨Fs',e,ho,hu⟩:=zgx h2;obtain rfl:=zmf e;have hp:0<Fs.length:=by unfold zby at h1;rw[decide_eq_true_eq]at h1;omega
  obtain⟨k1,k2⟩:=zxp ho hp (h3 Fs rfl);exact⟨h1,ho,hu,k1,k2⟩
 ·rintro⟨h1,ho,hu,k1,k2⟩
  have hp:0<Fs.length:=by unfold zby at h1;rw[decide_eq_true_eq]at h1;omega
  refine⟨by rw[zi2];exact h1,fun j y hj hy=>?_,fun Fs' e=>?_⟩
  ·obtain⟨x,hx,rfl⟩:=zt7 hy
   obtain⟨o1,o2⟩:=ho j x hx;obtain⟨u1,u2⟩:=hu j x hx;exact⟨zoi j x.1 none u1 o1 (by simp),zoi j x.2 none u2 o2 (by simp)⟩
  ·obtain rfl:=zmf e
   exact zy4 hp ho hu k1 k2
def geC (a b:Nat):Bool:=((zom a).attach.all fun r=>!geC b r.1) && ((zvc b).attach.all fun l=>!geC l.1 a)
 termination_by a+b
 decreasing_by
  ·have:=zai (.inr (zey.1 r.2));omega
  ·have:=zai (.inl (zfn.1 l.2));omega
theorem zcy (a b:Nat):geC a b=true↔(∀r,hasR a r→geC b r=false)/\∀l,hasL b l→geC l a=false:=by
 rw[geC,Bool.and_eq_true,List.all_eq_true,List.all_eq_true];constructor
 ·rintro⟨h1,h2⟩
  exact⟨fun r hr=>by simpa using h1 ⟨r,zey.2 hr⟩ (List.mem_attach _ _),fun l hl=>by simpa using h2 ⟨l,zfn.2 hl⟩ (List.mem_attach _ _)⟩
 ·rintro⟨h1,h2⟩
  exact⟨fun r _=>by simpa using h1 r.1 (zey.1 r.2),fun l _=>by simpa using h2 l.1 (zfn.1 l.2)⟩
def geV (C:List Nat)(x y:Nat):Bool:=geC (C.getD x 0) (C.getD y 0)
theorem zy5 {V:List PL}{C:List Nat}(B:BookC V C){x y:Nat}(hx:x<V.length)(hy:y<V.length) :
  geV C x y=true↔(∀r∈(za4 V x).2,geV C y r=false)/\∀l∈(za4 V y).1,geV C l x=false:=by
 unfold geV;rw[zcy];have e1:=B.code x _ (zaf hx);have e2:=B.code y _ (zaf hy);constructor
 ·rintro⟨h1,h2⟩
  exact⟨fun r hr=>h1 _ (by rw[e1,zak];exact za5.2 ⟨r,hr,rfl⟩),fun l hl=>h2 _ (by rw[e2,zam];exact za5.2 ⟨l,hl,rfl⟩)⟩
 ·rintro⟨h1,h2⟩
  refine⟨fun r hr=>?_,fun l hl=>?_⟩
  ·rw[e1,zak]at hr
   obtain⟨z,hz,rfl⟩:=za5.1 hr;exact h1 z hz
  ·rw[e2,zam]at hl
   obtain⟨z,hz,rfl⟩:=za5.1 hl;exact h2 z hz
def domP (g:Nat→Nat→Bool)(L:List Nat)(k j:Nat):Bool:=decide (j≠k) && (g (L.getD k 0) (L.getD j 0) && (!g (L.getD j 0) (L.getD k 0) || decide (j<k)))
def domB (g:Nat→Nat→Bool)(L:List Nat):List Nat:=(List.range L.length).filter fun k=>(List.range L.length).any (domP g L k)
def zap (L P:List Nat):List Nat:=(L.zipIdx.filter fun x=>!P.contains x.2).map (·.1)
def gL (C:List Nat)(a b:Nat):Bool:=geV C b a
def gR (C:List Nat)(a b:Nat):Bool:=geV C a b
theorem zgg (L P:List Nat):(zap L P).Sublist L:=by
 unfold zap;have h:(L.zipIdx.filter fun x=>!P.contains x.2).Sublist L.zipIdx:=List.filter_sublist;have h2:=h.map (·.1);rwa [List.zipIdx_map_fst]at h2
theorem zbm {L P:List Nat}{x:Nat}(h:x∈zap L P):x∈L:=(zgg L P).subset h
theorem zec (L P:List Nat):(zap L P).length≤L.length:=(zgg L P).length_le
theorem ziv (L P:List Nat)(k:Nat)(hk:k<L.length):zap (L.take (k+1)) P=if k∈P then zap (L.take k) P else zap (L.take k) P ++ [L[k]]:=by
 unfold zap;rw[List.take_succ_eq_append_getElem hk,List.zipIdx_append,List.filter_append,List.map_append];have hl:(L.take k).length=k:=by simp;omega
 simp only[List.zipIdx_cons,List.zipIdx_nil,hl,Nat.zero_add,List.filter_cons,List.filter_nil];by_cases h:k∈P
 ·simp[h]
 ·simp[h]
def zki (V:List PL)(BV:List Nat)(r:Nat)(ok:Bool)(FN:List PL):Prop :=
 (ok=false/\FN=[]/\∃Q:List Nat,Q.Nodup/\(∀x,x∈Q↔ReachV V [r] x)/\120<Q.length)∨∃Q GN,OrderIs V BV [r] Q GN/\Q.length≤120/\ok=zby GN/\FN=if ok then GN else []
theorem zte {α:Type}{GN:List (List α × List α)}(h1:GN.length≤120)(h2:1≤GN.length)(h3:∀(k:Nat) (y:List α × List α),GN[k]?=some y→y.1.length≤24/\y.2.length≤24):zby GN=true :=
 decide_eq_true ⟨h1,h2,fun y hy=>by
  obtain⟨k,hk,rfl⟩:=List.getElem_of_mem hy;exact h3 k _ (List.getElem?_eq_getElem hk)⟩
theorem zvs {α:Type}{GN:List (List α × List α)}{k:Nat}{y:List α × List α}(hy:GN[k]?=some y)(h:24<y.1.length∨24<y.2.length):zby GN=false :=
 decide_eq_false fun q=>by
  have:=q.2.2 y (List.mem_of_getElem? hy);omega
theorem zbk {V V':List PL}(h:V <+: V'){x:Nat}(hx:x<V.length):(za0 V').getD x 0=(za0 V).getD x 0:=by
 obtain⟨t,ht⟩:=zdh h;rw[←ht];exact zcx (by rw[za7];exact hx)
def RowC (V:List PL)(L cs:List Nat):Prop:=(∀x∈L,x<V.length)/\za1 (za0 V) L=cs
theorem RowC.nil (V:List PL):RowC V [] []:=⟨by simp,rfl⟩
theorem RowC.mono {V V':List PL}{L cs:List Nat}(h:RowC V L cs)(hp:V <+: V'):RowC V' L cs:=by
 refine⟨fun x hx=>Nat.lt_of_lt_of_le (h.1 x hx) hp.length_le,?_⟩;rw[←h.2];exact List.map_congr_left fun x hx=>zbk hp (h.1 x hx)
theorem RowC.snoc {V:List PL}{L cs:List Nat}{x c:Nat}(h:RowC V L cs)(hx:x<V.length)(hc:(za0 V).getD x 0=c):RowC V (L ++ [x]) (cs ++ [c]):=by
 refine⟨fun y hy=>?_,?_⟩
 ·rcases List.mem_append.1 hy with hy|hy
  ·exact h.1 y hy
  ·rw[List.mem_singleton.1 hy];exact hx
 ·rw[←h.2,←hc]
  simp[za1]
theorem RowC.len {V:List PL}{L cs:List Nat}(h:RowC V L cs):L.length=cs.length:=by
 rw[←h.2];simp[za1]
theorem zsc {V:List PL}{BV:List Nat}(h:PoolOK V BV){L R cs ds:List Nat}(hL:RowC V L cs)(hR:RowC V R ds) :
  PoolOK (za3 V BV L R).1 (za3 V BV L R).2.1/\V <+: (za3 V BV L R).1/\(za3 V BV L R).2.2<(za3 V BV L R).1.length/\(za0 (za3 V BV L R).1).getD (za3 V BV L R).2.2 0=mkC cs ds:=by
 obtain⟨p1,_,p3⟩:=zg4 V BV L R;exact⟨(zev h hL.1 hR.1).1,p3,p1,by rw[zm2 h hL.1 hR.1,hL.2,hR.2]⟩
theorem zm1 {V:List PL}{BV:List Nat}(h:PoolOK V BV){U:List Nat}(hU:∀x,x<V.length→(za0 V).getD x 0∈U):V.length≤U.length:=by
 rw[←za7 V];refine h.book.nodup.length_le_of_subset fun c hc=>?_
 obtain⟨i,hi,rfl⟩:=zfp hc;exact hU i (by rw[←za7 V];exact hi)
theorem zin {V:List PL}{BV:List Nat}{L R U:List Nat}(hU:∀x,x<V.length→(za0 V).getD x 0∈U)(hc:(za0 (za3 V BV L R).1).getD (za3 V BV L R).2.2 0∈U) :
  ∀x,x<(za3 V BV L R).1.length→(za0 (za3 V BV L R).1).getD x 0∈U:=by
 intro x hx;obtain⟨p1,p2,p3⟩:=zg4 V BV L R;by_cases h:x<V.length
 ·rw[zbk p3 h];exact hU x h
 ·have e:x=(za3 V BV L R).2.2:=by
   unfold za3 at hx p1 ⊢;split
   ·rename_i hm;rw[if_pos hm]at hx;exact absurd hx h
   ·rename_i hm
    rw[if_neg hm]at hx;simp at hx ⊢;omega
  rw[e];exact hc
theorem SubC.trans {a b c:Nat}(h:SubC a b)(h':SubC b c):SubC a c:=by
 induction h' with
 | root=>exact h
 | step _ ho ih=>exact ih.step ho
theorem zo6 {C A L:List Nat}(h:∀i∈L,i<A.length):za1 C (za1 A L)=za1 (za1 C A) L:=by
 unfold za1;rw[List.map_map];refine List.map_congr_left fun i hi=>?_
 have hl:=h i hi;simp[List.getD_eq_getElem?_getD,List.getElem?_map,List.getElem?_eq_getElem hl]
theorem RowC.at {V:List PL}{A cs L:List Nat}(h:RowC V A cs)(hL:∀i∈L,i<A.length):RowC V (za1 A L) (za1 cs L):=by
 refine⟨fun x hx=>?_,?_⟩
 ·obtain⟨i,hi,rfl⟩:=za5.1 hx
  exact h.1 _ (zda (hL i hi))
 ·rw[zo6 hL,h.2]
theorem OptsOK.last {l:List PL}{a:PL}(ho:OptsOK (l ++ [a])):(∀i∈a.1,i<l.length)/\∀i∈a.2,i<l.length:=ho l.length a (by simp)
theorem ztz (Fs:List PL):OptsOK Fs→∀ {V:List PL}{BV:List Nat},PoolOK V BV→PoolOK (addB V BV Fs).1 (addB V BV Fs).2.1/\V <+: (addB V BV Fs).1/\RowC (addB V BV Fs).1 (addB V BV Fs).2.2 (za0 Fs) ∧
  ∀x,x<(addB V BV Fs).1.length→(za0 (addB V BV Fs).1).getD x 0∈za0 V++za0 Fs:=by
 induction Fs using zcg with
 | h0 =>
  intro _ V BV h;exact⟨h,List.prefix_refl _,RowC.nil V,fun x hx=>List.mem_append_left _ (zda (by rw[za7];exact hx))⟩
 | h1 l a ih =>
  intro ho V BV h;obtain⟨i1,i2,i3,i4⟩:=ih ho.cut h;obtain⟨o1,o2⟩:=ho.last;have hlen:(addB V BV l).2.2.length=l.length:=by rw[i3.len,za7]
  have r1:=i3.at (L:=a.1) (fun i hi=>by rw[hlen];exact o1 i hi);have r2:=i3.at (L:=a.2) (fun i hi=>by rw[hlen];exact o2 i hi);obtain⟨q1,q2,q3,q4⟩:=zsc i1 r1 r2;have e:addB V BV (l ++ [a])=((za3 (addB V BV l).1 (addB V BV l).2.1 (za1 (addB V BV l).2.2 a.1) (za1 (addB V BV l).2.2 a.2)).1,(za3 (addB V BV l).1 (addB V BV l).2.1 (za1 (addB V BV l).2.2 a.1) (za1 (addB V BV l).2.2 a.2)).2.1,
    (addB V BV l).2.2 ++ [(za3 (addB V BV l).1 (addB V BV l).2.1 (za1 (addB V BV l).2.2 a.1) (za1 (addB V BV l).2.2 a.2)).2.2]):=by
   rw[zca,←zfh i1];rfl
  rw[e,zdb];refine⟨q1,i2.trans q2,(i3.mono q2).snoc q3 q4,?_⟩;refine zin (fun x hx=>?_) ?_
  ·rcases List.mem_append.1 (i4 x hx)with h|h
   ·exact List.mem_append_left _ h
   ·exact List.mem_append_right _ (List.mem_append_left _ h)
  ·rw[q4]
   exact List.mem_append_right _ (List.mem_append_right _ (List.mem_singleton.2 rfl))
theorem zru {V:List PL}{BV:List Nat}(h:PoolOK V BV){r:Nat}(hr:r<V.length){a:Nat}(hs:SubC ((za0 V).getD r 0) a):a∈za0 V:=by
 obtain⟨x,_,hx,e⟩:=zhe h.book hr hs;rw[←e];exact zda (by rw[za7];exact hx)
theorem RowC.get {V:List PL}{A Tb:List Nat}{P p c:Nat}(h:RowC V A (Tb.take P))(hp:p<P)(hTb:Tb[p]?=some c):∃x,A[p]?=some x/\x<V.length/\(za0 V).getD x 0=c:=by
 have h1:(Tb.take P)[p]?=some c:=by rw[List.getElem?_take,if_pos hp];exact hTb
 rw[←h.2]at h1;unfold za1 at h1;rw[List.getElem?_map]at h1;cases hA:A[p]? with
 | none=>rw[hA]at h1;cases h1
 | some x =>
  rw[hA]at h1;exact⟨x,rfl,h.1 x (List.mem_of_getElem? hA),Option.some.inj h1⟩
end Go.Proofs.YtkofnbjjbcohgaaGreatDoor
