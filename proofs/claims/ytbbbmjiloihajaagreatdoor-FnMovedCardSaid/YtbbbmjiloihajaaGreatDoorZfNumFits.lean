import Derived.Test.YtbbbmjiloihajaaGreatDoorZfSumLaw
/- What the claim of FnMovedCard needs of: CanLaw GroupOne NumLaw CanQ MinLaw CanEx SumGe NumOrd TinyLaw NumVal NumMove NumFits. -/
namespace Go.Proofs.YtbbbmjiloihajaaGreatDoor
set_option linter.unusedVariables false
set_option linter.unusedSimpArgs false
open Go.RowKit
theorem zcd (a:Nat):geC a a=true:=by
 induction a using Nat.strongRecOn with
 | _ a ih =>
  rw[zez];constructor
  ·intro r hr
   cases h:geC a r with
   | false=>rfl
   | true =>
    have h1:=((zez a r).1 h).1 r hr;rw[ih r (za7 (.inr hr))]at h1;cases h1
  ·intro l hl
   cases h:geC l a with
   | false=>rfl
   | true =>
    have h1:=((zez l a).1 h).2 l hl;rw[ih l (za7 (.inl hl))]at h1;cases h1
theorem zde {a b r:Nat}(h:geC a b=true)(hr:hasR a r):geC b r=false:=((zez a b).1 h).1 r hr
theorem zey {a b l:Nat}(h:geC a b=true)(hl:hasL b l):geC l a=false:=((zez a b).1 h).2 l hl
theorem zbr {a b:Nat}(h1:∀r,hasR a r→geC b r=false)(h2:∀l,hasL b l→geC l a=false):geC a b=true:=(zez a b).2 ⟨h1,h2⟩
theorem zg9 {a b:Nat}(h:geC a b=false):(∃r,hasR a r/\geC b r=true)∨∃l,hasL b l/\geC l a=true:=by
 refine Classical.byContradiction fun q=>?_
 have:geC a b=true:=zbr (fun r hr=>by
  cases e:geC b r with
  | false=>rfl
  | true=>exact absurd (.inl ⟨r,hr,e⟩) q) (fun l hl=>by
  cases e:geC l a with
  | false=>rfl
  | true=>exact absurd (.inr ⟨l,hl,e⟩) q)
 rw[h]at this;cases this
theorem ge_trans' (n:Nat):∀a b c,a+b+c<n→geC a b=true→geC b c=true→geC a c=true:=by
 induction n with
 | zero=>intro a b c h;omega
 | succ n ih =>
  intro a b c hn h1 h2;refine zbr (fun r hr=>?_) fun l hl=>?_
  ·cases e:geC c r with
   | false=>rfl
   | true =>
    have hlt:=za7 (.inr hr);have h3:=ih b c r (by omega) h2 e;rw[zde h1 hr]at h3;cases h3
  ·cases e:geC l a with
   | false=>rfl
   | true =>
    have hlt:=za7 (.inl hl);have h3:=ih l a b (by omega) e h1;rw[zey h2 hl]at h3;cases h3
theorem zac {a b c:Nat}(h1:geC a b=true)(h2:geC b c=true):geC a c=true:=ge_trans' _ a b c (Nat.lt_succ_self _) h1 h2
theorem zau {a b c:Nat}(h1:geC a b=true)(h2:geC a c=false):geC b c=false:=by
 cases e:geC b c with
 | false=>rfl
 | true=>rw[zac h1 e]at h2;cases h2
theorem zav {a b c:Nat}(h1:geC c b=true)(h2:geC a b=false):geC a c=false:=by
 cases e:geC a c with
 | false=>rfl
 | true=>rw[zac e h1]at h2;cases h2
theorem zbi {a l:Nat}(h:hasL a l):geC l a=false:=zey (zcd a) h
theorem zbb {a r:Nat}(h:hasR a r):geC a r=false:=zde (zcd a) h
structure CanC1 (a:Nat):Prop where
 domL:∀l l',hasL a l→hasL a l'→geC l' l=true→l'=l
 domR:∀r r',hasR a r→hasR a r'→geC r r'=true→r'=r
 revL:∀l r,hasL a l→hasR l r→geC a r=false
 revR:∀r l,hasR a r→hasL r l→geC l a=false
def CanC (a:Nat):Prop:=∀x,SubC a x→CanC1 x
theorem CanC.opt {a x:Nat}(h:CanC a)(ho:optC a x):CanC x:=fun y hy=>h y ((SubC.root.step ho).trans hy)
theorem CanC.mk {a:Nat}(h:CanC1 a)(ho:∀x,optC a x→CanC x):CanC a:=by
 intro x hx;have key:x=a∨∃y,optC a y/\SubC y x:=by
  induction hx with
  | root=>exact .inl rfl
  | step _ hop ih =>
   rcases ih with rfl|⟨y,hy,hs⟩
   ·exact .inr ⟨_,hop,.root⟩
   ·exact .inr ⟨y,hy,hs.step hop⟩
 rcases key with rfl|⟨y,hy,hs⟩
 ·exact h
 ·exact ho y hy x hs
theorem zu7 (a b:Nat)(ih:∀x y,x+y<a+b→CanC x→CanC y→geC x y=true→geC y x=true→x=y)(ca:CanC a)(cb:CanC b)(hab:geC a b=true)(hba:geC b a=true) :
  (∀l,hasL a l→hasL b l)/\∀r,hasR a r→hasR b r:=by
 have ka:=ca a .root;have kb:=cb b .root;constructor
 ·intro l hl
  rcases zg9 (zey hba hl)with ⟨r,hr,e⟩|⟨l',hl',e⟩
  ·have:=zac hab e
   rw[ka.revL l r hl hr]at this;cases this
  ·rcases zg9 (zey hab hl')with ⟨r,hr,e'⟩|⟨l2,hl2,e'⟩
   ·have:=zac hba e'
    rw[kb.revL l' r hl' hr]at this;cases this
   ·obtain rfl:=ka.domL l l2 hl hl2 (zac e' e)
    have h1:=za7 (.inl hl);have h2:=za7 (.inl hl');rw[ih l2 l' (by omega) (ca.opt (.inl hl)) (cb.opt (.inl hl')) e' e];exact hl'
 ·intro r hr
  rcases zg9 (zde hab hr)with ⟨r',hr',e⟩|⟨l,hl,e⟩
  ·rcases zg9 (zde hba hr')with ⟨r2,hr2,e'⟩|⟨l,hl,e'⟩
   ·obtain rfl:=ka.domR r r2 hr hr2 (zac e e')
    have h1:=za7 (.inr hr);have h2:=za7 (.inr hr');rw[ih r2 r' (by omega) (ca.opt (.inr hr)) (cb.opt (.inr hr')) e e'];exact hr'
   ·have:=zac e' hab
    rw[kb.revR r' l hr' hl]at this;cases this
  ·have:=zac e hba
   rw[ka.revR r l hr hl]at this;cases this
theorem can_one' (n:Nat):∀a b,a+b<n→CanC a→CanC b→geC a b=true→geC b a=true→a=b:=by
 induction n with
 | zero=>intro a b h;omega
 | succ n ih =>
  intro a b hn ca cb hab hba;obtain⟨p1,p2⟩:=zu7 a b (fun x y h=>ih x y (by omega)) ca cb hab hba;obtain⟨q1,q2⟩:=zu7 b a (fun x y h=>ih x y (by omega)) cb ca hba hab;exact zib (fun i=>⟨p1 i,q1 i⟩) fun i=>⟨p2 i,q2 i⟩
theorem zom {a b:Nat}(ca:CanC a)(cb:CanC b)(hab:geC a b=true)(hba:geC b a=true):a=b:=can_one' _ a b (Nat.lt_succ_self _) ca cb hab hba
open Classical in
noncomputable def canC (f:Nat):Nat:=if h:∃c,CanC c/\geC c f=true/\geC f c=true then Classical.choose h else 0
theorem zsg {f c:Nat}(h:CanC c)(h1:geC c f=true)(h2:geC f c=true):c=canC f:=by
 have he:∃c,CanC c/\geC c f=true/\geC f c=true:=⟨c,h,h1,h2⟩;unfold canC;rw[dif_pos he];obtain⟨k0,k1,k2⟩:=Classical.choose_spec he;exact zom h k0 (zac h1 k2) (zac k1 h2)
theorem zfc {c:Nat}(h:CanC c):canC c=c:=(zsg h (zcd c) (zcd c)).symm
theorem zp7 {f:Nat}{KL KR SL SR:List Nat}(aL:∀i∈KL,geC i f=false)(aR:∀i∈KR,geC f i=false)
  (sL:∀i∈SL,(∃j∈KL,geC j i=true)∨∃k,hasR i k/\geC f k=true/\∀l,hasL k l→l∈SL)
  (sR:∀i∈SR,(∃j∈KR,geC i j=true)∨∃k,hasL i k/\geC k f=true/\∀r,hasR k r→r∈SR)
  (oL:∀l,hasL f l→∃i∈SL,geC i l=true) (oR:∀r,hasR f r→∃i∈SR,geC r i=true) :
  geC (mkC KL KR) f=true/\geC f (mkC KL KR)=true:=by
 have cL:∀n i,i<n→i∈SL→geC i (mkC KL KR)=false:=by
  intro n;induction n with
  | zero=>intro i h;omega
  | succ n ih =>
   intro i hn hi;rcases sL i hi with ⟨j,hj,e⟩|⟨k,hk,e,hs⟩
   ·exact zau e (zbi ((zai KL KR j).2 hj))
   ·have hlt:=za7 (.inr hk)
    have hg:geC (mkC KL KR) k=true:=zbr (fun r hr=>zau e (aR r ((zah KL KR r).1 hr))) fun l hl=>ih l (by have:=za7 (.inl hl);omega) (hs l hl)
    exact zav hg (zbb hk)
 have cR:∀n i,i<n→i∈SR→geC (mkC KL KR) i=false:=by
  intro n;induction n with
  | zero=>intro i h;omega
  | succ n ih =>
   intro i hn hi;rcases sR i hi with ⟨j,hj,e⟩|⟨k,hk,e,hs⟩
   ·exact zav e (zbb ((zah KL KR j).2 hj))
   ·have hlt:=za7 (.inl hk)
    have hg:geC k (mkC KL KR)=true:=zbr (fun r hr=>ih r (by have:=za7 (.inr hr);omega) (hs r hr)) fun l hl=>zav e (aL l ((zai KL KR l).1 hl))
    exact zau hg (zbi hk)
 constructor
 ·refine zbr (fun r hr=>aR r ((zah KL KR r).1 hr)) fun l hl=>?_
  obtain⟨i,hi,e⟩:=oL l hl;exact zau e (cL _ i (Nat.lt_succ_self _) hi)
 ·refine zbr (fun r hr=>?_) fun l hl=>aL l ((zai KL KR l).1 hl)
  obtain⟨i,hi,e⟩:=oR r hr;exact zav e (cR _ i (Nat.lt_succ_self _) hi)
theorem zur {f:Nat}{KL KR:List Nat}(e1:geC (mkC KL KR) f=true)(e2:geC f (mkC KL KR)=true)(cL:∀i∈KL,CanC i)(cR:∀i∈KR,CanC i)
  (dL:∀i∈KL,∀j∈KL,geC j i=true→j=i) (dR:∀i∈KR,∀j∈KR,geC i j=true→j=i)
  (rL:∀i∈KL,∀r,hasR i r→geC f r=false) (rR:∀i∈KR,∀l,hasL i l→geC l f=false):CanC (mkC KL KR):=by
 refine CanC.mk ⟨fun l l' h h'=>dL l ((zai KL KR l).1 h) l' ((zai KL KR l').1 h'),fun r r' h h'=>dR r ((zah KL KR r).1 h) r' ((zah KL KR r').1 h'),fun l r h h'=>zau e2 (rL l ((zai KL KR l).1 h) r h'),fun r l h h'=>zav e1 (rR r ((zah KL KR r).1 h) l h')⟩ ?_
 rintro x (h|h)
 ·exact cL x ((zai KL KR x).1 h)
 ·exact cR x ((zah KL KR x).1 h)
theorem zhg {L P:List Nat}{x:Nat}:x∈zaf L P↔∃i,L[i]?=some x/\i ∉ P:=by
 unfold zaf;rw[List.mem_map];constructor
 ·rintro⟨⟨y,i⟩,h,rfl⟩
  rw[List.mem_filter]at h;exact⟨i,List.mem_zipIdx_iff_getElem?.1 h.1,by simpa using h.2⟩
 ·rintro⟨i,h,hP⟩
  exact⟨(x,i),List.mem_filter.2 ⟨List.mem_zipIdx_iff_getElem?.2 h,by simpa using hP⟩,rfl⟩
theorem zry {g:Nat→Nat→Bool}{L:List Nat}{k:Nat}:k∈domB g L↔k<L.length/\∃j,j<L.length/\domP g L k j=true:=by
 unfold domB;rw[List.mem_filter,List.mem_range,List.any_eq_true];simp only[List.mem_range]
theorem zia {g:Nat→Nat→Bool}{L:List Nat}{k j:Nat}:domP g L k j=true↔j≠k/\g (L.getD k 0) (L.getD j 0)=true/\(g (L.getD j 0) (L.getD k 0)=false∨j<k):=by
 unfold domP;rw[Bool.and_eq_true,Bool.and_eq_true,Bool.or_eq_true,decide_eq_true_eq,decide_eq_true_eq,Bool.not_eq_true']
theorem zvi {g:Nat→Nat→Bool}(ht:∀a b c,g a b=true→g b c=true→g a c=true){L:List Nat}{k j i:Nat}(h:domP g L k j=true)(h':domP g L j i=true):domP g L k i=true:=by
 rw[zia]at h h' ⊢;obtain⟨n1,g1,o1⟩:=h;obtain⟨n2,g2,o2⟩:=h';have g3:=ht _ _ _ g1 g2;have key:g (L.getD i 0) (L.getD k 0)=false∨i<k:=by
  cases e:g (L.getD i 0) (L.getD k 0)with
  | false=>exact .inl rfl
  | true =>
   have e1:=ht _ _ _ g2 e;have e2:=ht _ _ _ e g1;rcases o1 with o|o
   ·rw[o]at e1;cases e1
   ·rcases o2 with p|p
    ·rw[p]at e2;cases e2
    ·exact .inr (by omega)
 refine⟨fun e=>?_,g3,key⟩;subst e;rcases o1 with o|o
 ·rw[o]at g2;cases g2
 ·rcases o2 with p|p
  ·rw[p]at g1;cases g1
  ·omega
theorem zz6 {g:Nat→Nat→Bool}(ht:∀a b c,g a b=true→g b c=true→g a c=true)(L:List Nat):∀n k,k<L.length→((List.range L.length).filter (domP g L k)).length<n →
  ∃j,j<L.length/\j ∉ domB g L/\(j=k∨g (L.getD k 0) (L.getD j 0)=true):=by
 intro n;induction n with
 | zero=>intro k _ h;omega
 | succ n ih =>
  intro k hk hn;by_cases hd:k∈domB g L
  ·obtain⟨_,j,hj,hp⟩:=zry.1 hd
   have hlt:((List.range L.length).filter (domP g L j)).length+1≤((List.range L.length).filter (domP g L k)).length:=by
    have hnd:(j::(List.range L.length).filter (domP g L j)).Nodup:=by
     refine List.nodup_cons.2 ⟨fun h=>?_,List.nodup_range.filter _⟩;exact(zia.1 (List.mem_filter.1 h).2).1 rfl
    have:=hnd.length_le_of_subset (l₂:=(List.range L.length).filter (domP g L k)) (fun x hx=>by
     rcases List.mem_cons.1 hx with rfl|hx
     ·exact List.mem_filter.2 ⟨List.mem_range.2 hj,hp⟩
     ·obtain⟨h1,h2⟩:=List.mem_filter.1 hx
      exact List.mem_filter.2 ⟨h1,zvi ht hp h2⟩)
    simpa using this
   obtain⟨i,hi,hni,h⟩:=ih j hj (by omega);refine⟨i,hi,hni,.inr ?_⟩;have g1:=(zia.1 hp).2.1;rcases h with rfl|h
   ·exact g1
   ·exact ht _ _ _ g1 h
  ·exact⟨k,hk,hd,.inl rfl⟩
theorem zfr {L:List Nat}{i x:Nat}(h:L[i]?=some x):L.getD i 0=x:=by rw[List.getD_eq_getElem?_getD,h];rfl
theorem zdq {g:Nat→Nat→Bool}(ht:∀a b c,g a b=true→g b c=true→g a c=true){L:List Nat}{x:Nat}(hx:x∈L):∃y∈zaf L (domB g L),y=x∨g x y=true:=by
 obtain⟨k,hk,rfl⟩:=List.getElem_of_mem hx;obtain⟨j,hj,hn,h⟩:=zz6 ht L _ k hk (Nat.lt_succ_self _);have e1:=zfr (List.getElem?_eq_getElem hj);have e2:=zfr (List.getElem?_eq_getElem hk);refine⟨L[j],zhg.2 ⟨j,List.getElem?_eq_getElem hj,hn⟩,?_⟩;rcases h with rfl|h
 ·exact .inl rfl
 ·rw[e1,e2]at h;exact .inr h
theorem zeh {g:Nat→Nat→Bool}{L:List Nat}{x y:Nat}(hx:x∈zaf L (domB g L))(hy:y∈zaf L (domB g L))(h:g x y=true):x=y:=by
 obtain⟨k,hk,nk⟩:=zhg.1 hx;obtain⟨j,hj,nj⟩:=zhg.1 hy;have lk:=(List.getElem?_eq_some_iff.1 hk).1;have lj:=(List.getElem?_eq_some_iff.1 hj).1;by_cases e:j=k
 ·subst e
  rw[hk]at hj;exact Option.some.inj hj
 ·refine absurd (zry.2 ⟨lk,j,lj,?_⟩) nk
  rw[zia,zfr hk,zfr hj];refine⟨e,h,?_⟩;cases hb:g y x with
  | false=>exact .inl rfl
  | true =>
   refine .inr (Classical.byContradiction fun q=>nj (zry.2 ⟨lj,k,lk,?_⟩));rw[zia,zfr hk,zfr hj];exact⟨fun e'=>e e'.symm,hb,.inr (by omega)⟩
def zk8:Nat:=mkC [] []
theorem ycu (i:Nat):¬hasL zk8 i:=fun h=>by
 have:=(zai [] [] i).1 h;simp at this
theorem yct (i:Nat):¬hasR zk8 i:=fun h=>by
 have:=(zah [] [] i).1 h;simp at this
theorem zb7 (c:Nat):zab (zak c)=c:=(zg5 (zbf c)).2.2.2.2.2
def posC:Nat→Nat
 | 0=>zk8
 | n+1=>mkC [posC n] []
def zg6:Nat→Nat
 | 0=>zk8
 | n+1=>mkC [] [zg6 n]
def intC (t:Int):Nat:=if 0≤t then posC t.toNat else zg6 (-t).toNat
theorem zyq:intC 0=zk8:=rfl
theorem zi2 {t:Int}(h:0<t):intC t=mkC [intC (t-1)] []:=by
 unfold intC;rw[if_pos (by omega),if_pos (by omega)];obtain⟨n,hn⟩:∃n:Nat,t.toNat=n+1:=⟨t.toNat-1,by omega⟩;rw[hn,show(t-1).toNat=n from by omega];rfl
theorem zi3 {t:Int}(h:t<0):intC t=mkC [] [intC (t+1)]:=by
 unfold intC;rw[if_neg (by omega)];obtain⟨n,hn⟩:∃n:Nat,(-t).toNat=n+1:=⟨(-t).toNat-1,by omega⟩;rw[hn];by_cases h0:t=-1
 ·subst h0
  have:n=0:=by omega
  subst this
  rfl
 ·rw[if_neg (by omega),show(-(t+1)).toNat=n from by omega]
  rfl
def numF:Nat→Int→Nat→Nat
 | 0,t,_=>intC t
 | k+1,t,p=>if p=0 then intC t else mkC [numF k (redT (t-1) p).1 (redT (t-1) p).2] [numF k (redT (t+1) p).1 (redT (t+1) p).2]
def numC (t:Int)(p:Nat):Nat:=numF p t p
def nr (t:Int)(p:Nat):Nat:=numC (redT t p).1 (redT t p).2
theorem zy5:∀(n k:Nat) (t:Int) (p:Nat),k<n→Red t p→p≤k→numF k t p=numF p t p:=by
 intro n;induction n with
 | zero=>intro k t p h;omega
 | succ n ih =>
  intro k t p hn hr hp;cases k with
  | zero =>
   have:p=0:=by omega
   subst this;rfl
  | succ k =>
   cases p with
   | zero=>rfl
   | succ q =>
    have ho:t%2≠0:=hr.resolve_left (by omega);have h1:=zm7 (t:=t-1) (p:=q+1) (by omega) (by omega);have h2:=zm7 (t:=t+1) (p:=q+1) (by omega) (by omega);rw[numF,if_neg (by omega),numF,if_neg (by omega)];rw[ih k _ _ (by omega) (zdb _ _) (by omega),ih k _ _ (by omega) (zdb _ _) (by omega)];by_cases hk:q<n
    ·rw[ih q _ _ hk (zdb _ _) (by omega),ih q _ _ hk (zdb _ _) (by omega)]
    ·omega
theorem zen (t:Int):numC t 0=intC t:=rfl
theorem zpk {t:Int}{p:Nat}(hp:0<p)(h:t%2≠0):numC t p=mkC [nr (t-1) p] [nr (t+1) p]:=by
 obtain⟨q,rfl⟩:∃q,p=q+1:=⟨p-1,by omega⟩;have h1:=zm7 (t:=t-1) (p:=q+1) (by omega) (by omega);have h2:=zm7 (t:=t+1) (p:=q+1) (by omega) (by omega);unfold numC nr numC;rw[numF,if_neg (by omega),zy5 (q+1) q _ _ (by omega) (zdb _ _) (by omega),zy5 (q+1) q _ _ (by omega) (zdb _ _) (by omega)]
theorem zpm {t:Int}{p:Nat}(h:Red t p):nr t p=numC t p:=by unfold nr;rw[zd1 h]
theorem zc5 (t:Int):nr t 0=intC t:=rfl
theorem zbs {x:Int}{q:Nat}(h:x%2=0):nr x (q+1)=nr (x/2) q:=by unfold nr;rw[zbg h]
theorem zht {x:Int}{q:Nat}(h:x%2≠0):nr x (q+1)=mkC [nr ((x-1)/2) q] [nr ((x+1)/2) q]:=by
 rw[zpm (.inr h),zpk (by omega) h,zbs (by omega),zbs (by omega)]
theorem zxx {L R:List Nat}{i:Nat}(h:optC (mkC L R) i):i∈L∨i∈R:=h.imp (zai L R i).1 (zah L R i).1
def ycf (t:Int)(p:Nat)(K:Int)(c:Nat):Prop:=(∃k:Int,-K≤k/\k≤K/\c=intC k)∨∃q,q≤p/\(c=nr (t/2^(p-q)) q∨c=nr (t/2^(p-q)+1) q)
theorem zyp {k K:Int}{i:Nat}(h1:-K≤k)(h2:k≤K)(h:optC (intC k) i):∃k:Int,-K≤k/\k≤K/\i=intC k:=by
 by_cases h0:k=0
 ·subst h0
  rw[zyq]at h;rcases h with h|h
  ·exact absurd h (ycu i)
  ·exact absurd h (yct i)
 ·by_cases hp:0<k
  ·rw[zi2 hp]at h
   rcases zxx h with h|h
   ·exact⟨k-1,by omega,by omega,List.mem_singleton.1 h⟩
   ·simp at h
  ·rw[zi3 (by omega)]at h
   rcases zxx h with h|h
   ·simp at h
   ·exact⟨k+1,by omega,by omega,List.mem_singleton.1 h⟩
theorem zyu {t:Int}{p q:Nat}(h:q+1≤p):t/2^(p-q)=t/2^(p-(q+1))/2:=by
 rw[Int.ediv_ediv_of_nonneg (by exact Int.pow_nonneg (by decide)),←Int.pow_succ,show(p-(q+1)).succ=p-q from by omega]
theorem zy0 {t:Int}{p:Nat}{K:Int}(hK:-K≤t/2^p/\t/2^p+1≤K):∀(q:Nat),q≤p→∀(x:Int),(x=t/2^(p-q)∨x=t/2^(p-q)+1)→∀i,optC (nr x q) i→ycf t p K i:=by
 intro q;induction q with
 | zero =>
  intro _ x hx i hi;rw[zc5]at hi;rw[Nat.sub_zero]at hx;exact .inl (zyp (by omega) (by omega) hi)
 | succ q ih =>
  intro hq x hx i hi;have e:=zyu hq (t:=t);obtain⟨A,hA⟩:∃A,A=t/2^(p-(q+1)):=⟨_,rfl⟩;rw[←hA]at hx e;have k1:∀y,y=A/2→ycf t p K (nr y q):=fun y hy=>.inr ⟨q,by omega,.inl (by rw[hy,e])⟩
  have k2:∀y,y=A/2+1→ycf t p K (nr y q):=fun y hy=>.inr ⟨q,by omega,.inr (by rw[hy,e])⟩
  by_cases he:x%2=0
  ·rw[zbs he]at hi
   refine ih (by omega) (x/2) ?_ i hi
   rw[e];omega
  ·rw[zht he]at hi
   rcases zxx hi with h|h
   ·rw[List.mem_singleton.1 h]
    rcases hx with hx|hx
    ·exact k1 _ (by omega)
    ·exact k1 _ (by omega)
   ·rw[List.mem_singleton.1 h]
    rcases hx with hx|hx
    ·exact k2 _ (by omega)
    ·exact k2 _ (by omega)
theorem yda {t:Int}{p:Nat}{K:Int}(hr:Red t p)(hK:-K≤t/2^p/\t/2^p+1≤K){c:Nat}(h:SubC (numC t p) c):ycf t p K c:=by
 induction h with
 | root=>exact .inr ⟨p,Nat.le_refl _,.inl (by rw[Nat.sub_self,Int.pow_zero,Int.ediv_one,zpm hr])⟩
 | step _ ho ih =>
  rcases ih with ⟨k,h1,h2,rfl⟩|⟨q,hq,h|h⟩
  ·exact .inl (zyp h1 h2 ho)
  ·rw[h]at ho;exact zy0 hK q hq _ (.inl rfl) _ ho
  ·rw[h]at ho;exact zy0 hK q hq _ (.inr rfl) _ ho
def numU (t:Int)(p:Nat)(K:Nat):List Nat:=((List.range (2*K+1)).map fun(i:Nat)=>intC ((i:Int)-K))++(List.range (p+1)).flatMap fun q=>[nr (t/2^(p-q)) q,nr (t/2^(p-q)+1) q]
theorem ztc (t:Int)(p K:Nat):(numU t p K).length=2*K+1+2*(p+1):=by
 unfold numU;rw[List.length_append,List.length_map,List.length_range];congr 1
 have:∀L:List Nat,(L.flatMap fun q=>[nr (t/2^(p-q)) q,nr (t/2^(p-q)+1) q]).length=2*L.length:=by
  intro L;induction L with
  | nil=>rfl
  | cons a l ih=>rw[List.flatMap_cons,List.length_append,ih,List.length_cons];simp;omega
 rw[this,List.length_range]
theorem yeb {t:Int}{p K:Nat}(hr:Red t p)(hK:-(K:Int)≤t/2^p/\t/2^p+1≤K){c:Nat}(h:SubC (numC t p) c):c∈numU t p K:=by
 unfold numU;rcases yda hr hK h with ⟨k,h1,h2,rfl⟩|⟨q,hq,h⟩
 ·refine List.mem_append_left _ (List.mem_map.2 ⟨(k+K).toNat,List.mem_range.2 (by omega),?_⟩)
  rw[show(((k+K).toNat:Nat):Int)-(K:Int)=k from by omega]
 ·refine List.mem_append_right _ (List.mem_flatMap.2 ⟨q,List.mem_range.2 (by omega),?_⟩)
  rcases h with h|h
  ·rw[h];simp
  ·rw[h];simp
def numB (t:Int)(p:Nat):Nat:=if p=0 then t.natAbs else t.natAbs/2^p+p+1
theorem yc8 (n:Nat):n≤bornC (posC n):=by
 induction n with
 | zero=>exact Nat.zero_le _
 | succ n ih =>
  have:=zer (c:=posC (n+1)) (i:=posC n) (.inl ((zai _ _ _).2 (by simp)));omega
theorem zzm (n:Nat):n≤bornC (zg6 n):=by
 induction n with
 | zero=>exact Nat.zero_le _
 | succ n ih =>
  have:=zer (c:=zg6 (n+1)) (i:=zg6 n) (.inr ((zah _ _ _).2 (by simp)));omega
theorem zon (t:Int):t.natAbs≤bornC (intC t):=by
 unfold intC;split
 ·have:=yc8 t.toNat;omega
 ·have:=zzm (-t).toNat;omega
theorem yd9 {n p:Nat}(h:n%2=1)(hp:0<p):(n-1)/2^p=n/2^p:=by
 obtain⟨q,rfl⟩:∃q,p=q+1:=⟨p-1,by omega⟩;rw[Nat.pow_succ,Nat.mul_comm,←Nat.div_div_eq_div_mul,←Nat.div_div_eq_div_mul,show(n-1)/2=n/2 from by omega]
theorem zu8:∀(p:Nat) (t:Int),Red t p→numB t p≤bornC (numC t p):=by
 intro p;induction p with
 | zero=>intro t _;exact zon t
 | succ p ih =>
  intro t hr;have ho:t%2≠0:=hr.resolve_left (by omega);have e:numC t (p+1)=mkC [nr ((t-1)/2) p] [nr ((t+1)/2) p]:=by rw[←zpm hr,zht ho]
  have l1:=zer (c:=numC t (p+1)) (i:=nr ((t-1)/2) p) (.inl (by rw[e];exact(zai _ _ _).2 (by simp)));have l2:=zer (c:=numC t (p+1)) (i:=nr ((t+1)/2) p) (.inr (by rw[e];exact(zah _ _ _).2 (by simp)));unfold numB;rw[if_neg (by omega)];cases p with
  | zero =>
   rw[zc5]at l1 l2;have b1:=zon ((t-1)/2);have b2:=zon ((t+1)/2);rw[show(2:Nat)^(0+1)=2 from rfl];omega
  | succ p =>
   have hk:∀x:Int,Red x (p+1)→(t.natAbs-1)/2≤x.natAbs→numB x (p+1)≤bornC (nr x (p+1))/\t.natAbs/2^(p+1+1)≤x.natAbs/2^(p+1):=fun x hx hle=>by
    refine⟨by rw[zpm hx];exact ih x hx,?_⟩;rw[←yd9 (n:=t.natAbs) (p:=p+1+1) (by omega) (by omega),Nat.pow_succ 2 (p+1),Nat.mul_comm,←Nat.div_div_eq_div_mul];exact Nat.div_le_div_right hle
   by_cases h1:((t-1)/2)%2=0
   ·obtain⟨g1,g2⟩:=hk ((t+1)/2) (.inr (by omega)) (by omega)
    unfold numB at g1;rw[if_neg (by omega)]at g1;omega
   ·obtain⟨g1,g2⟩:=hk ((t-1)/2) (.inr h1) (by omega)
    unfold numB at g1;rw[if_neg (by omega)]at g1;omega
theorem yc7:∀(c b:Nat),b≤bornC c→∃x,SubC c x/\bornC x=b:=by
 intro c;induction c using Nat.strongRecOn with
 | _ c ih =>
  intro b hb;by_cases h:b=bornC c
  ·exact⟨c,.root,h.symm⟩
  ·rcases zub c with h0|⟨i,hi,h1⟩
   ·omega
   ·obtain⟨x,hx,e⟩:=ih i (za7 hi) b (by omega)
    exact⟨x,(SubC.root.step hi).trans hx,e⟩
theorem zu9 (c:Nat):bornC c+1≤(zak c).length:=by
 obtain⟨P,hA⟩:=zbf c;have hl:=hA.book.len;have h1:∀b∈List.range (bornC c+1),b∈P.map bornC:=fun b hb=>by
  obtain⟨x,hx,e⟩:=yc7 c b (by have:=List.mem_range.1 hb;omega);exact List.mem_map.2 ⟨x,(hA.sub x).2 hx,e⟩
 have:=List.nodup_range.length_le_of_subset h1;rw[List.length_range,List.length_map]at this
 omega
noncomputable def numN (t:Int)(p:Nat):List PL:=zak (numC t p)
theorem ztb {t:Int}{p:Nat}(hr:Red t p)(h:120≤numB t p):zam (numN t p)=false:=by
 cases hf:zam (numN t p)with
 | false=>rfl
 | true =>
  unfold zam at hf;rw[decide_eq_true_eq]at hf;have h1:=zu9 (numC t p);have h2:=zu8 p t hr;have h3:(zak (numC t p)).length≤120:=hf.1;omega
theorem ycz {n k:Nat}(h:k≤n):SubC (posC n) (posC k):=by
 induction n with
 | zero =>
  have:k=0:=by omega
  subst this;exact .root
 | succ n ih =>
  by_cases e:k=n+1
  ·subst e;exact .root
  ·exact(SubC.root.step (show optC (posC (n+1)) (posC n)from .inl ((zai _ _ _).2 (by simp)))).trans (ih (by omega))
theorem yae {n k:Nat}(h:k≤n):SubC (zg6 n) (zg6 k):=by
 induction n with
 | zero =>
  have:k=0:=by omega
  subst this;exact .root
 | succ n ih =>
  by_cases e:k=n+1
  ·subst e;exact .root
  ·exact(SubC.root.step (show optC (zg6 (n+1)) (zg6 n)from .inr ((zah _ _ _).2 (by simp)))).trans (ih (by omega))
theorem zi4 (n:Nat):intC (n:Int)=posC n:=by unfold intC;rw[if_pos (by omega)];rfl
theorem zg8 (n:Nat):intC (-(n:Int))=zg6 n:=by
 unfold intC;by_cases h:n=0
 ·subst h;rfl
 ·rw[if_neg (by omega),show(- -(n:Int)).toNat=n from by omega]
theorem zta {t:Int}{p:Nat}(hr:Red t p)(hp:0<p):numC t p=mkC [numC (redT (t-1) p).1 (redT (t-1) p).2] [numC (redT (t+1) p).1 (redT (t+1) p).2]:=zpk hp (hr.resolve_left (by omega))
theorem zy4 {t:Int}{p:Nat}(hr:Red t p)(h:t.natAbs/2^p<120):∀a,SubC (numC t p) a→a∈numU t p 121:=fun a ha=>yeb hr (by
 have h0:0<2^p:=Nat.pow_pos (by decide);have h1:t.natAbs<120*2^p:=(Nat.div_lt_iff_lt_mul h0).1 h;have e:((2^p:Nat):Int)=(2:Int)^p:=by simp
 have h2:(0:Int)<2^p:=by rw[←e];omega
 constructor
 ·have:-121≤t/2^p:=by
   apply(Int.le_ediv_iff_mul_le h2).2
   rw[←e];omega
  simpa using this
 ·have:t/2^p<121:=by
   apply(Int.ediv_lt_iff_lt_mul h2).2
   rw[←e];omega
  have:t/2^p+1≤121:=by omega
  simpa using this) ha
def IsCan (c a:Nat):Prop:=CanC c/\geC c a=true/\geC a c=true
theorem IsCan.eq {c a:Nat}(h:IsCan c a):c=canC a:=zsg h.1 h.2.1 h.2.2
theorem IsCan.self {c a:Nat}(h:IsCan c a):IsCan c c:=⟨h.1,zcd c,zcd c⟩
theorem IsCan.step {c a b:Nat}(h:IsCan c a)(h1:geC a b=true)(h2:geC b a=true):IsCan c b:=⟨h.1,zac h.2.1 h1,zac h2 h.2.2⟩
structure RedL (f:Nat) (KL:List Nat):Prop where
 a:∀i∈KL,geC i f=false
 s:∃SL:List Nat,(∀i∈SL,(∃j∈KL,geC j i=true)∨∃k,hasR i k/\geC f k=true/\∀l,hasL k l→l∈SL)/\∀l,hasL f l→∃i∈SL,geC i l=true
 c:∀i∈KL,CanC i
 d:∀i∈KL,∀j∈KL,geC j i=true→j=i
 r:∀i∈KL,∀r,hasR i r→geC f r=false
structure RedR (f:Nat) (KR:List Nat):Prop where
 a:∀i∈KR,geC f i=false
 s:∃SR:List Nat,(∀i∈SR,(∃j∈KR,geC i j=true)∨∃k,hasL i k/\geC k f=true/\∀l,hasR k l→l∈SR)/\∀l,hasR f l→∃i∈SR,geC l i=true
 c:∀i∈KR,CanC i
 d:∀i∈KR,∀j∈KR,geC i j=true→j=i
 r:∀i∈KR,∀r,hasL i r→geC r f=false
theorem zxf {f:Nat}{KL KR:List Nat}(hL:RedL f KL)(hR:RedR f KR):IsCan (mkC KL KR) f:=by
 obtain⟨SL,s1,s2⟩:=hL.s;obtain⟨SR,t1,t2⟩:=hR.s;obtain⟨e1,e2⟩:=zp7 hL.a hR.a s1 t1 s2 t2;exact⟨zur e1 e2 hL.c hR.c hL.d hR.d hL.r hR.r,e1,e2⟩
structure QL (V:List PL) (C:List Nat) (cf:Nat) (S:Nat→Bool) (Q Kp:List Nat):Prop where
 snd:∀i,(S i=true∨i∈Q)→i<V.length/\CanC (C.getD i 0)/\geC (C.getD i 0) cf=false
 kp:∀i∈Kp,S i=true/\∀r∈(za5 V i).2,geC cf (C.getD r 0)=false
 seen:∀i,S i=true→i∈Kp∨∃k∈(za5 V i).2,geC cf (C.getD k 0)=true/\∀l∈(za5 V k).1,S l=true∨l∈Q
 opt:∀l,hasL cf l→∃i,(S i=true∨i∈Q)/\geC (C.getD i 0) l=true
 nodup:Kp.Nodup
structure QR (V:List PL) (C:List Nat) (cf:Nat) (S:Nat→Bool) (Q Kp:List Nat):Prop where
 snd:∀i,(S i=true∨i∈Q)→i<V.length/\CanC (C.getD i 0)/\geC cf (C.getD i 0)=false
 kp:∀i∈Kp,S i=true/\∀r∈(za5 V i).1,geC (C.getD r 0) cf=false
 seen:∀i,S i=true→i∈Kp∨∃k∈(za5 V i).1,geC (C.getD k 0) cf=true/\∀l∈(za5 V k).2,S l=true∨l∈Q
 opt:∀l,hasR cf l→∃i,(S i=true∨i∈Q)/\geC l (C.getD i 0)=true
 nodup:Kp.Nodup
def addS (S:Nat→Bool)(i:Nat):Nat→Bool:=fun k=>S k || decide (k=i)
theorem zax {S:Nat→Bool}{i k:Nat}:addS S i k=true↔S k=true∨k=i:=by
 unfold addS;rw[Bool.or_eq_true,decide_eq_true_eq]
theorem zba {V:List PL}{C:List Nat}(B:BookC V C){i:Nat}(hi:i<V.length):(∀l,hasL (C.getD i 0) l↔∃x∈(za5 V i).1,C.getD x 0=l)/\∀l,hasR (C.getD i 0) l↔∃x∈(za5 V i).2,C.getD x 0=l:=by
 have e:=B.code i _ (za6 hi);exact⟨fun l=>by rw[e,zai,za9],fun l=>by rw[e,zah,za9]⟩
section
variable {V:List PL}{C:List Nat}{f:Nat}{S:Nat→Bool}{Q Kp:List Nat}{i k:Nat}
theorem QL.skip {cf:Nat}(h:QL V C cf S (Q ++ [i]) Kp)(hi:S i=true):QL V C cf S Q Kp:=by
 have key:∀x,S x=true∨x∈Q ++ [i]→S x=true∨x∈Q:=fun x hx=>hx.elim .inl (fun hx=>by
  rcases List.mem_append.1 hx with hx|hx
  ·exact .inr hx
  ·rw[List.mem_singleton.1 hx];exact .inl hi)
 refine⟨fun x hx=>h.snd x (hx.imp_right (List.mem_append_left _)),h.kp,fun x hx=>(h.seen x hx).imp_right (fun⟨k,h1,h2,h3⟩=>⟨k,h1,h2,fun l hl=>key l (h3 l hl)⟩),fun l hl=>?_,h.nodup⟩;obtain⟨x,hx,e⟩:=h.opt l hl;exact⟨x,key x hx,e⟩
theorem QL.keep {cf:Nat}(h:QL V C cf S (Q ++ [i]) Kp)(hi:¬S i=true)(hn:∀r∈(za5 V i).2,geC cf (C.getD r 0)=false):QL V C cf (addS S i) Q (Kp ++ [i]):=by
 have key:∀x,S x=true∨x∈Q ++ [i]→addS S i x=true∨x∈Q:=fun x hx=>hx.elim (fun hx=>.inl (zax.2 (.inl hx))) (fun hx=>by
  rcases List.mem_append.1 hx with hx|hx
  ·exact .inr hx
  ·exact .inl (zax.2 (.inr (List.mem_singleton.1 hx))))
 refine⟨fun x hx=>h.snd x ?_,fun x hx=>?_,fun x hx=>?_,fun l hl=>?_,?_⟩
 ·rcases hx with hx|hx
  ·rcases zax.1 hx with hx|rfl
   ·exact .inl hx
   ·exact .inr (by simp)
  ·exact .inr (List.mem_append_left _ hx)
 ·rcases List.mem_append.1 hx with hx|hx
  ·exact⟨zax.2 (.inl (h.kp x hx).1),(h.kp x hx).2⟩
  ·rw[List.mem_singleton.1 hx]
   exact⟨zax.2 (.inr rfl),hn⟩
 ·rcases zax.1 hx with hx|rfl
  ·rcases h.seen x hx with hx|⟨k,h1,h2,h3⟩
   ·exact .inl (List.mem_append_left _ hx)
   ·exact .inr ⟨k,h1,h2,fun l hl=>key l (h3 l hl)⟩
  ·exact .inl (by simp)
 ·obtain⟨x,hx,e⟩:=h.opt l hl
  exact⟨x,key x hx,e⟩
 ·refine List.nodup_append.2 ⟨h.nodup,by simp,fun a ha b hb e=>?_⟩
  rw[List.mem_singleton.1 hb]at e;subst e;exact hi (h.kp a ha).1
theorem QL.push (B:BookC V C){cf:Nat}(h:QL V C cf S (Q ++ [i]) Kp)(hk:k∈(za5 V i).2)(hg:geC cf (C.getD k 0)=true):QL V C cf (addS S i) (Q++(za5 V k).1) Kp:=by
 obtain⟨hil,hic,_⟩:=h.snd i (.inr (by simp));have hki:=(B.opts i _ (za6 hil)).2 k hk;have hkl:k<V.length:=by omega
 have hkc:CanC (C.getD k 0):=hic.opt (.inr (((zba B hil).2 _).2 ⟨k,hk,rfl⟩));have key:∀x,S x=true∨x∈Q ++ [i]→addS S i x=true∨x∈Q++(za5 V k).1:=fun x hx=>hx.elim (fun hx=>.inl (zax.2 (.inl hx))) (fun hx=>by
  rcases List.mem_append.1 hx with hx|hx
  ·exact .inr (List.mem_append_left _ hx)
  ·exact .inl (zax.2 (.inr (List.mem_singleton.1 hx))))
 refine⟨fun x hx=>?_,fun x hx=>⟨zax.2 (.inl (h.kp x hx).1),(h.kp x hx).2⟩,fun x hx=>?_,fun l hl=>?_,h.nodup⟩
 ·have old:∀x,S x=true∨x∈Q ++ [i]→x<V.length/\CanC (C.getD x 0)/\geC (C.getD x 0) cf=false:=h.snd
  rcases hx with hx|hx
  ·rcases zax.1 hx with hx|rfl
   ·exact old x (.inl hx)
   ·exact old x (.inr (by simp))
  ·rcases List.mem_append.1 hx with hx|hx
   ·exact old x (.inr (List.mem_append_left _ hx))
   ·have hxk:=(B.opts k _ (za6 hkl)).1 x hx
    have hL:hasL (C.getD k 0) (C.getD x 0):=((zba B hkl).1 _).2 ⟨x,hx,rfl⟩;exact⟨by omega,hkc.opt (.inl hL),zav hg (zbi hL)⟩
 ·rcases zax.1 hx with hx|rfl
  ·exact(h.seen x hx).imp_right (fun⟨k',h1,h2,h3⟩=>⟨k',h1,h2,fun l hl=>key l (h3 l hl)⟩)
  ·exact .inr ⟨k,hk,hg,fun l hl=>.inr (List.mem_append_right _ hl)⟩
 ·obtain⟨x,hx,e⟩:=h.opt l hl
  exact⟨x,key x hx,e⟩
theorem QL.done (B:BookC V C){cf:Nat}(h:QL V C cf S [] Kp):RedL cf (za2 C (zaf Kp (domB (gL C) Kp))):=by
 have ht:∀a b c,gL C a b=true→gL C b c=true→gL C a c=true:=fun a b c h1 h2=>zac h2 h1
 have hsub:∀x∈zaf Kp (domB (gL C) Kp),x∈Kp:=fun x hx=>zbv hx
 have hs:∀x∈Kp,x<V.length/\CanC (C.getD x 0)/\geC (C.getD x 0) cf=false:=fun x hx=>h.snd x (.inl (h.kp x hx).1)
 refine⟨fun c hc=>?_,⟨((List.range V.length).filter S).map (fun x=>C.getD x 0),fun c hc=>?_,fun l hl=>?_⟩,fun c hc=>?_,fun c hc c' hc' e=>?_,fun c hc r hr=>?_⟩
 ·obtain⟨x,hx,rfl⟩:=za9.1 hc
  exact(hs x (hsub x hx)).2.2
 ·obtain⟨x,hx,rfl⟩:=List.mem_map.1 hc
  have hSx:=(List.mem_filter.1 hx).2;rcases h.seen x hSx with hk|⟨k,h1,h2,h3⟩
  ·obtain⟨y,hy,hyx⟩:=zdq ht hk
   refine .inl ⟨C.getD y 0,za9.2 ⟨y,hy,rfl⟩,?_⟩;rcases hyx with rfl|e
   ·exact zcd _
   ·exact e
  ·have hxl:=(h.snd x (.inl hSx)).1
   have hkx:=(B.opts x _ (za6 hxl)).2 k h1;refine .inr ⟨C.getD k 0,((zba B hxl).2 _).2 ⟨k,h1,rfl⟩,h2,fun l hl=>?_⟩;obtain⟨z,hz,rfl⟩:=((zba B (show k<V.length by omega)).1 l).1 hl;have hzS:=(h3 z hz).resolve_right (by simp);exact List.mem_map.2 ⟨z,List.mem_filter.2 ⟨List.mem_range.2 (h.snd z (.inl hzS)).1,hzS⟩,rfl⟩
 ·obtain⟨x,hx,e⟩:=h.opt l hl
  have hxS:=hx.resolve_right (by simp);exact⟨_,List.mem_map.2 ⟨x,List.mem_filter.2 ⟨List.mem_range.2 (h.snd x (.inl hxS)).1,hxS⟩,rfl⟩,e⟩
 ·obtain⟨x,hx,rfl⟩:=za9.1 hc
  exact(hs x (hsub x hx)).2.1
 ·obtain⟨x,hx,rfl⟩:=za9.1 hc
  obtain⟨y,hy,rfl⟩:=za9.1 hc';rw[zeh hx hy e]
 ·obtain⟨x,hx,rfl⟩:=za9.1 hc
  obtain⟨z,hz,rfl⟩:=((zba B (hs x (hsub x hx)).1).2 r).1 hr;exact(h.kp x (hsub x hx)).2 z hz
theorem QR.skip {cf:Nat}(h:QR V C cf S (Q ++ [i]) Kp)(hi:S i=true):QR V C cf S Q Kp:=by
 have key:∀x,S x=true∨x∈Q ++ [i]→S x=true∨x∈Q:=fun x hx=>hx.elim .inl (fun hx=>by
  rcases List.mem_append.1 hx with hx|hx
  ·exact .inr hx
  ·rw[List.mem_singleton.1 hx];exact .inl hi)
 refine⟨fun x hx=>h.snd x (hx.imp_right (List.mem_append_left _)),h.kp,fun x hx=>(h.seen x hx).imp_right (fun⟨k,h1,h2,h3⟩=>⟨k,h1,h2,fun l hl=>key l (h3 l hl)⟩),fun l hl=>?_,h.nodup⟩;obtain⟨x,hx,e⟩:=h.opt l hl;exact⟨x,key x hx,e⟩
theorem QR.keep {cf:Nat}(h:QR V C cf S (Q ++ [i]) Kp)(hi:¬S i=true)(hn:∀r∈(za5 V i).1,geC (C.getD r 0) cf=false):QR V C cf (addS S i) Q (Kp ++ [i]):=by
 have key:∀x,S x=true∨x∈Q ++ [i]→addS S i x=true∨x∈Q:=fun x hx=>hx.elim (fun hx=>.inl (zax.2 (.inl hx))) (fun hx=>by
  rcases List.mem_append.1 hx with hx|hx
  ·exact .inr hx
  ·exact .inl (zax.2 (.inr (List.mem_singleton.1 hx))))
 refine⟨fun x hx=>h.snd x ?_,fun x hx=>?_,fun x hx=>?_,fun l hl=>?_,?_⟩
 ·rcases hx with hx|hx
  ·rcases zax.1 hx with hx|rfl
   ·exact .inl hx
   ·exact .inr (by simp)
  ·exact .inr (List.mem_append_left _ hx)
 ·rcases List.mem_append.1 hx with hx|hx
  ·exact⟨zax.2 (.inl (h.kp x hx).1),(h.kp x hx).2⟩
  ·rw[List.mem_singleton.1 hx]
   exact⟨zax.2 (.inr rfl),hn⟩
 ·rcases zax.1 hx with hx|rfl
  ·rcases h.seen x hx with hx|⟨k,h1,h2,h3⟩
   ·exact .inl (List.mem_append_left _ hx)
   ·exact .inr ⟨k,h1,h2,fun l hl=>key l (h3 l hl)⟩
  ·exact .inl (by simp)
 ·obtain⟨x,hx,e⟩:=h.opt l hl
  exact⟨x,key x hx,e⟩
 ·refine List.nodup_append.2 ⟨h.nodup,by simp,fun a ha b hb e=>?_⟩
  rw[List.mem_singleton.1 hb]at e;subst e;exact hi (h.kp a ha).1
theorem QR.push (B:BookC V C){cf:Nat}(h:QR V C cf S (Q ++ [i]) Kp)(hk:k∈(za5 V i).1)(hg:geC (C.getD k 0) cf=true):QR V C cf (addS S i) (Q++(za5 V k).2) Kp:=by
 obtain⟨hil,hic,_⟩:=h.snd i (.inr (by simp));have hki:=(B.opts i _ (za6 hil)).1 k hk;have hkl:k<V.length:=by omega
 have hkc:CanC (C.getD k 0):=hic.opt (.inl (((zba B hil).1 _).2 ⟨k,hk,rfl⟩));have key:∀x,S x=true∨x∈Q ++ [i]→addS S i x=true∨x∈Q++(za5 V k).2:=fun x hx=>hx.elim (fun hx=>.inl (zax.2 (.inl hx))) (fun hx=>by
  rcases List.mem_append.1 hx with hx|hx
  ·exact .inr (List.mem_append_left _ hx)
  ·exact .inl (zax.2 (.inr (List.mem_singleton.1 hx))))
 refine⟨fun x hx=>?_,fun x hx=>⟨zax.2 (.inl (h.kp x hx).1),(h.kp x hx).2⟩,fun x hx=>?_,fun l hl=>?_,h.nodup⟩
 ·have old:∀x,S x=true∨x∈Q ++ [i]→x<V.length/\CanC (C.getD x 0)/\geC cf (C.getD x 0)=false:=h.snd
  rcases hx with hx|hx
  ·rcases zax.1 hx with hx|rfl
   ·exact old x (.inl hx)
   ·exact old x (.inr (by simp))
  ·rcases List.mem_append.1 hx with hx|hx
   ·exact old x (.inr (List.mem_append_left _ hx))
   ·have hxk:=(B.opts k _ (za6 hkl)).2 x hx
    have hL:hasR (C.getD k 0) (C.getD x 0):=((zba B hkl).2 _).2 ⟨x,hx,rfl⟩;exact⟨by omega,hkc.opt (.inr hL),zau hg (zbb hL)⟩
 ·rcases zax.1 hx with hx|rfl
  ·exact(h.seen x hx).imp_right (fun⟨k',h1,h2,h3⟩=>⟨k',h1,h2,fun l hl=>key l (h3 l hl)⟩)
  ·exact .inr ⟨k,hk,hg,fun l hl=>.inr (List.mem_append_right _ hl)⟩
 ·obtain⟨x,hx,e⟩:=h.opt l hl
  exact⟨x,key x hx,e⟩
theorem QR.done (B:BookC V C){cf:Nat}(h:QR V C cf S [] Kp):RedR cf (za2 C (zaf Kp (domB (gR C) Kp))):=by
 have ht:∀a b c,gR C a b=true→gR C b c=true→gR C a c=true:=fun a b c h1 h2=>zac h1 h2
 have hsub:∀x∈zaf Kp (domB (gR C) Kp),x∈Kp:=fun x hx=>zbv hx
 have hs:∀x∈Kp,x<V.length/\CanC (C.getD x 0)/\geC cf (C.getD x 0)=false:=fun x hx=>h.snd x (.inl (h.kp x hx).1)
 refine⟨fun c hc=>?_,⟨((List.range V.length).filter S).map (fun x=>C.getD x 0),fun c hc=>?_,fun l hl=>?_⟩,fun c hc=>?_,fun c hc c' hc' e=>?_,fun c hc r hr=>?_⟩
 ·obtain⟨x,hx,rfl⟩:=za9.1 hc
  exact(hs x (hsub x hx)).2.2
 ·obtain⟨x,hx,rfl⟩:=List.mem_map.1 hc
  have hSx:=(List.mem_filter.1 hx).2;rcases h.seen x hSx with hk|⟨k,h1,h2,h3⟩
  ·obtain⟨y,hy,hyx⟩:=zdq ht hk
   refine .inl ⟨C.getD y 0,za9.2 ⟨y,hy,rfl⟩,?_⟩;rcases hyx with rfl|e
   ·exact zcd _
   ·exact e
  ·have hxl:=(h.snd x (.inl hSx)).1
   have hkx:=(B.opts x _ (za6 hxl)).1 k h1;refine .inr ⟨C.getD k 0,((zba B hxl).1 _).2 ⟨k,h1,rfl⟩,h2,fun l hl=>?_⟩;obtain⟨z,hz,rfl⟩:=((zba B (show k<V.length by omega)).2 l).1 hl;have hzS:=(h3 z hz).resolve_right (by simp);exact List.mem_map.2 ⟨z,List.mem_filter.2 ⟨List.mem_range.2 (h.snd z (.inl hzS)).1,hzS⟩,rfl⟩
 ·obtain⟨x,hx,e⟩:=h.opt l hl
  have hxS:=hx.resolve_right (by simp);exact⟨_,List.mem_map.2 ⟨x,List.mem_filter.2 ⟨List.mem_range.2 (h.snd x (.inl hxS)).1,hxS⟩,rfl⟩,e⟩
 ·obtain⟨x,hx,rfl⟩:=za9.1 hc
  exact(hs x (hsub x hx)).2.1
 ·obtain⟨x,hx,rfl⟩:=za9.1 hc
  obtain⟨y,hy,rfl⟩:=za9.1 hc';rw[zeh hx hy e]
 ·obtain⟨x,hx,rfl⟩:=za9.1 hc
  obtain⟨z,hz,rfl⟩:=((zba B (hs x (hsub x hx)).1).1 r).1 hr;exact(h.kp x (hsub x hx)).2 z hz
end
noncomputable def canN (Fs:List PL):List PL:=zak (canC (zab Fs))
theorem can_left' {c x l:Nat}(hc:CanC c)(hl:hasL c l):∀y,SubC x y→geC c y=true→geC l y=false→∃s,SubC x s/\geC s l=true/\geC l s=true:=by
 intro y;induction y using Nat.strongRecOn with
 | _ y ih =>
  intro hy h1 h2;have k:=hc c .root;rcases zg9 h2 with ⟨r,hr,e⟩|⟨z,hz,e⟩
  ·have:=zac h1 e
   rw[k.revL l r hl hr]at this;cases this
  ·have hsz:=hy.step (.inl hz)
   rcases zg9 (zey h1 hz)with ⟨r,hr,e'⟩|⟨l',hl',e'⟩
   ·have l1:=za7 (.inl hz)
    have l2:=za7 (.inr hr);exact ih r (by omega) (hsz.step (.inr hr)) e' (zde e hr)
   ·have h:=k.domL l l' hl hl' (zac e' e)
    rw[h]at e';exact⟨z,hsz,e,e'⟩
theorem can_right' {c x l:Nat}(hc:CanC c)(hl:hasR c l):∀y,SubC x y→geC y c=true→geC y l=false→∃s,SubC x s/\geC s l=true/\geC l s=true:=by
 intro y;induction y using Nat.strongRecOn with
 | _ y ih =>
  intro hy h1 h2;have k:=hc c .root;rcases zg9 h2 with ⟨z,hz,e⟩|⟨r,hr,e⟩
  ·have hsz:=hy.step (.inr hz)
   rcases zg9 (zde h1 hz)with ⟨l',hl',e'⟩|⟨r,hr,e'⟩
   ·have h:=k.domR l l' hl hl' (zac e e')
    rw[h]at e';exact⟨z,hsz,e',e⟩
   ·have l1:=za7 (.inr hz)
    have l2:=za7 (.inl hr);exact ih r (by omega) (hsz.step (.inl hr)) e' (zey e hr)
  ·have:=zac e h1
   rw[k.revR l r hl hr]at this;cases this
theorem zvp {c x s:Nat}(hc:CanC c)(h1:geC x c=true)(h2:geC c x=true)(hs:SubC c s):∃s',SubC x s'∧geC s' s=true/\geC s s'=true:=by
 induction hs with
 | root=>exact⟨x,.root,h1,h2⟩
 | step hs ho ih =>
  obtain⟨y,hy,e1,e2⟩:=ih;rename_i a o
  have ca:CanC a:=fun z hz=>hc z (hs.trans hz)
  rcases ho with h|h
  ·obtain⟨s',t1,t2,t3⟩:=can_left' ca h y .root e2 (zav e1 (zbi h))
   exact⟨s',hy.trans t1,t2,t3⟩
  ·obtain⟨s',t1,t2,t3⟩:=can_right' ca h y .root e1 (zau e2 (zbb h))
   exact⟨s',hy.trans t1,t2,t3⟩
theorem zn1 {c x:Nat}(hc:CanC c)(h1:geC x c=true)(h2:geC c x=true){Fs:List PL}(hF:FormC x Fs):(zak c).length≤Fs.length:=by
 obtain⟨P,hA⟩:=zbf c;obtain⟨P',hA'⟩:=hF;have hl:=hA.book.len;have hl':=hA'.book.len;have hex:∀s,∃s',SubC c s→SubC x s'∧geC s' s=true/\geC s s'=true:=fun s=>by
  by_cases h:SubC c s
  ·obtain⟨s',e⟩:=zvp hc h1 h2 h
   exact⟨s',fun _=>e⟩
  ·exact⟨0,fun q=>absurd q h⟩
 let f:Nat→Nat:=fun s=>Classical.choose (hex s)
 have hf:∀s,SubC c s→SubC x (f s)/\geC (f s) s=true/\geC s (f s)=true:=fun s=>Classical.choose_spec (hex s)
 have hn:(P.map f).Nodup:=by
  refine List.pairwise_map.2 (hA.book.nodup.imp_of_mem ?_);intro a b ha hb hab e;obtain⟨_,a1,a2⟩:=hf a ((hA.sub a).1 ha);obtain⟨_,b1,b2⟩:=hf b ((hA.sub b).1 hb);rw[e]at a1 a2;exact hab (zom (fun z hz=>hc z (((hA.sub a).1 ha).trans hz)) (fun z hz=>hc z (((hA.sub b).1 hb).trans hz)) (zac a2 b1) (zac b2 a1))
 have:=hn.length_le_of_subset (l₂:=P') (fun s hs=>by
  obtain⟨a,ha,rfl⟩:=List.mem_map.1 hs;exact(hA'.sub _).2 (hf a ((hA.sub a).1 ha)).1)
 rw[List.length_map]at this
 omega
theorem zr7:∀L:List Nat,∃N,∀x∈L,x<N:=by
 intro L;induction L with
 | nil=>exact⟨0,by simp⟩
 | cons a l ih =>
  obtain⟨N,hN⟩:=ih;refine⟨N+a+1,fun x hx=>?_⟩;rcases List.mem_cons.1 hx with rfl|hx
  ·omega
  ·have:=hN x hx;omega
inductive CandL (f:Nat):Nat→Prop
 | opt {l:Nat}:hasL f l→CandL f (canC l)
 | thr {i k l:Nat}:CandL f i→hasR i k→geC f k=true→hasL k l→CandL f l
inductive CandR (f:Nat):Nat→Prop
 | opt {r:Nat}:hasR f r→CandR f (canC r)
 | thr {i k r:Nat}:CandR f i→hasL i k→geC k f=true→hasR k r→CandR f r
theorem CandL.props {f:Nat}(ih:∀i,i<f→IsCan (canC i) i){i:Nat}(h:CandL f i):CanC i/\geC i f=false:=by
 induction h with
 | opt hl =>
  have k:=ih _ (za7 (.inl hl));exact⟨k.1,zau k.2.2 (zbi hl)⟩
 | thr _ hk hg hl i1=>exact⟨(i1.1.opt (.inr hk)).opt (.inl hl),zav hg (zbi hl)⟩
theorem CandR.props {f:Nat}(ih:∀i,i<f→IsCan (canC i) i){i:Nat}(h:CandR f i):CanC i/\geC f i=false:=by
 induction h with
 | opt hl =>
  have k:=ih _ (za7 (.inr hl));exact⟨k.1,zav k.2.1 (zbb hl)⟩
 | thr _ hk hg hl i1=>exact⟨(i1.1.opt (.inl hk)).opt (.inr hl),zau hg (zbb hl)⟩
theorem CandL.lt {f N:Nat}(hN:∀l,hasL f l→canC l<N){i:Nat}(h:CandL f i):i<N:=by
 induction h with
 | opt hl=>exact hN _ hl
 | thr _ hk _ hl i1 =>
  have h1:=za7 (.inr hk);have h2:=za7 (.inl hl);omega
theorem CandR.lt {f N:Nat}(hN:∀l,hasR f l→canC l<N){i:Nat}(h:CandR f i):i<N:=by
 induction h with
 | opt hl=>exact hN _ hl
 | thr _ hk _ hl i1 =>
  have h1:=za7 (.inl hk);have h2:=za7 (.inr hl);omega
open Classical in
theorem zrn {f:Nat}(ih:∀i,i<f→IsCan (canC i) i):∃K,RedL f K:=by
 obtain⟨N,hN⟩:=zr7 ((zfx f).map canC);have hN':∀l,hasL f l→canC l<N:=fun l hl=>hN _ (List.mem_map.2 ⟨l,zaz.2 hl,rfl⟩)
 obtain⟨SL,hSL⟩:∃SL:List Nat,∀i,i∈SL↔CandL f i:=⟨(List.range N).filter fun i=>decide (CandL f i),fun i=>by
  rw[List.mem_filter,List.mem_range,decide_eq_true_eq];exact⟨fun h=>h.2,fun h=>⟨h.lt hN',h⟩⟩⟩
 obtain⟨NR,hNR⟩:∃NR:List Nat,∀i,i∈NR↔CandL f i/\∀r,hasR i r→geC f r=false:=⟨SL.filter fun i=>decide (∀r,hasR i r→geC f r=false),fun i=>by
  rw[List.mem_filter,hSL,decide_eq_true_eq]⟩
 have ht:∀a b c,(fun a b=>geC b a) a b=true→(fun a b=>geC b a) b c=true→(fun a b=>geC b a) a c=true:=fun a b c h1 h2=>zac h2 h1
 have hsub:∀i,i∈zaf NR (domB (fun a b=>geC b a) NR)→i∈NR:=fun i hi=>zbv hi
 refine⟨zaf NR (domB (fun a b=>geC b a) NR),fun i hi=>(((hNR i).1 (hsub i hi)).1.props ih).2,⟨SL,fun i hi=>?_,fun l hl=>?_⟩,fun i hi=>(((hNR i).1 (hsub i hi)).1.props ih).1,fun i hi j hj e=>(zeh hi hj e).symm,fun i hi=>((hNR i).1 (hsub i hi)).2⟩
 ·have hc:=(hSL i).1 hi
  by_cases hr:∀r,hasR i r→geC f r=false
  ·obtain⟨y,hy,e⟩:=zdq ht ((hNR i).2 ⟨hc,hr⟩)
   refine .inl ⟨y,hy,?_⟩;rcases e with rfl|e
   ·exact zcd _
   ·exact e
  ·obtain⟨k,hk⟩:=Classical.not_forall.1 hr
   obtain⟨hk1,hk2⟩:=Classical.not_imp.1 hk;have hk3:geC f k=true:=by
    cases e:geC f k with
    | true=>rfl
    | false=>exact absurd e hk2
   exact .inr ⟨k,hk1,hk3,fun l hl=>(hSL l).2 (.thr hc hk1 hk3 hl)⟩
 ·exact⟨canC l,(hSL _).2 (.opt hl),(ih l (za7 (.inl hl))).2.1⟩
open Classical in
theorem zrm {f:Nat}(ih:∀i,i<f→IsCan (canC i) i):∃K,RedR f K:=by
 obtain⟨N,hN⟩:=zr7 ((zcz f).map canC);have hN':∀l,hasR f l→canC l<N:=fun l hl=>hN _ (List.mem_map.2 ⟨l,zas.2 hl,rfl⟩)
 obtain⟨SL,hSL⟩:∃SL:List Nat,∀i,i∈SL↔CandR f i:=⟨(List.range N).filter fun i=>decide (CandR f i),fun i=>by
  rw[List.mem_filter,List.mem_range,decide_eq_true_eq];exact⟨fun h=>h.2,fun h=>⟨h.lt hN',h⟩⟩⟩
 obtain⟨NR,hNR⟩:∃NR:List Nat,∀i,i∈NR↔CandR f i/\∀r,hasL i r→geC r f=false:=⟨SL.filter fun i=>decide (∀r,hasL i r→geC r f=false),fun i=>by
  rw[List.mem_filter,hSL,decide_eq_true_eq]⟩
 have ht:∀a b c,geC a b=true→geC b c=true→geC a c=true:=fun a b c h1 h2=>zac h1 h2
 have hsub:∀i,i∈zaf NR (domB geC NR)→i∈NR:=fun i hi=>zbv hi
 refine⟨zaf NR (domB geC NR),fun i hi=>(((hNR i).1 (hsub i hi)).1.props ih).2,⟨SL,fun i hi=>?_,fun l hl=>?_⟩,fun i hi=>(((hNR i).1 (hsub i hi)).1.props ih).1,fun i hi j hj e=>(zeh hi hj e).symm,fun i hi=>((hNR i).1 (hsub i hi)).2⟩
 ·have hc:=(hSL i).1 hi
  by_cases hr:∀r,hasL i r→geC r f=false
  ·obtain⟨y,hy,e⟩:=zdq ht ((hNR i).2 ⟨hc,hr⟩)
   refine .inl ⟨y,hy,?_⟩;rcases e with rfl|e
   ·exact zcd _
   ·exact e
  ·obtain⟨k,hk⟩:=Classical.not_forall.1 hr
   obtain⟨hk1,hk2⟩:=Classical.not_imp.1 hk;have hk3:geC k f=true:=by
    cases e:geC k f with
    | true=>rfl
    | false=>exact absurd e hk2
   exact .inr ⟨k,hk1,hk3,fun l hl=>(hSL l).2 (.thr hc hk1 hk3 hl)⟩
 ·exact⟨canC l,(hSL _).2 (.opt hl),(ih l (za7 (.inr hl))).2.2⟩
theorem zcp (f:Nat):IsCan (canC f) f:=by
 induction f using Nat.strongRecOn with
 | _ f ih =>
  obtain⟨KL,hL⟩:=zrn ih;obtain⟨KR,hR⟩:=zrm ih;have h:=zxf hL hR;rw[h.eq]at h;exact h
theorem zu5 {a b:Nat}:canC a=canC b↔geC a b=true/\geC b a=true:=by
 constructor
 ·intro e
  have ha:=zcp a;have hb:=zcp b;rw[←e]at hb;exact⟨zac ha.2.2 hb.2.1,zac hb.2.2 ha.2.1⟩
 ·rintro⟨h1,h2⟩
  exact((zcp a).step h1 h2).eq
theorem sum_ge' (n:Nat):∀x y z,x+y+z<n→(geC x y=true→geC (sumC x z) (sumC y z)=true)/\(geC x y=false→geC (sumC x z) (sumC y z)=false):=by
 induction n with
 | zero=>intro x y z h;omega
 | succ n ih =>
  intro x y z hn;refine⟨fun h=>?_,fun h=>?_⟩
  ·refine zbr (fun r hr=>?_) fun l hl=>?_
   ·rcases (zdz x z r).1 hr with ⟨b,hb,rfl⟩|⟨b,hb,rfl⟩
    ·have hlt:=za7 (.inr hb)
     exact(ih y b z (by omega)).2 (zde h hb)
    ·have hlt:=za7 (.inr hb)
     have k:=(ih x y b (by omega)).1 h;cases hc:geC (sumC y z) (sumC x b)with
     | false=>rfl
     | true =>
      have:=zde hc ((zdz y z _).2 (.inr ⟨b,hb,rfl⟩));rw[this]at k;cases k
   ·rcases (ze0 y z l).1 hl with ⟨b,hb,rfl⟩|⟨b,hb,rfl⟩
    ·have hlt:=za7 (.inl hb)
     exact(ih b x z (by omega)).2 (zey h hb)
    ·have hlt:=za7 (.inl hb)
     have k:=(ih x y b (by omega)).1 h;cases hc:geC (sumC y b) (sumC x z)with
     | false=>rfl
     | true =>
      have:=zey hc ((ze0 x z _).2 (.inr ⟨b,hb,rfl⟩));rw[this]at k;cases k
  ·cases hc:geC (sumC x z) (sumC y z)with
   | false=>rfl
   | true =>
    rcases zg9 h with ⟨r,hr,e⟩|⟨l,hl,e⟩
    ·have hlt:=za7 (.inr hr)
     have k:=(ih y r z (by omega)).1 e;have:=zde hc ((zdz x z _).2 (.inl ⟨r,hr,rfl⟩));rw[this]at k;cases k
    ·have hlt:=za7 (.inl hl)
     have k:=(ih l x z (by omega)).1 e;have:=zey hc ((ze0 y z _).2 (.inl ⟨l,hl,rfl⟩));rw[this]at k;cases k
theorem zp1 {x y:Nat}(z:Nat)(h:geC x y=true):geC (sumC x z) (sumC y z)=true:=(sum_ge' _ x y z (Nat.lt_succ_self _)).1 h
theorem zyv {a b:Nat}(h1:geC a b=true)(h2:geC b a=true)(z:Nat):geC z a=geC z b/\geC a z=geC b z:=by
 constructor
 ·cases e:geC z b with
  | true=>exact zac e h2
  | false=>exact zav h1 e
 ·cases e:geC b z with
  | true=>exact zac h1 e
  | false=>exact zau h2 e
theorem zhs (s:Int)(P:Nat):nr (2*s) (P+1)=nr s P:=by
 rw[zbs (by omega),show 2*s/2=s from by omega]
theorem zdx (s:Int)(P k:Nat):nr (s*2^k) (P+k)=nr s P:=by
 unfold nr;rw[zca]
theorem zdy {s:Int}{l:Nat}(h:hasL (intC s) l):0<s/\l=intC (s-1):=by
 by_cases h0:s=0
 ·subst h0;exact absurd h (ycu l)
 ·by_cases hp:0<s
  ·rw[zi2 hp,zai]at h
   exact⟨hp,List.mem_singleton.1 h⟩
  ·rw[zi3 (by omega),zai]at h
   simp at h
theorem zcu {s:Int}{r:Nat}(h:hasR (intC s) r):s<0/\r=intC (s+1):=by
 by_cases h0:s=0
 ·subst h0;exact absurd h (yct r)
 ·by_cases hp:0<s
  ·rw[zi2 hp,zah]at h
   simp at h
  ·rw[zi3 (by omega),zah]at h
   exact⟨by omega,List.mem_singleton.1 h⟩
theorem zkp {s:Int}(h:0<s):hasL (intC s) (intC (s-1)):=by rw[zi2 h,zai];simp
theorem zkn {s:Int}(h:s<0):hasR (intC s) (intC (s+1)):=by rw[zi3 h,zah];simp
theorem zci:∀(P:Nat) (s:Int) (l:Nat),hasL (nr s P) l→∃v,v<s/\l=nr v P:=by
 intro P;induction P with
 | zero =>
  intro s l h;rw[zc5]at h;obtain⟨_,e⟩:=zdy h;exact⟨s-1,by omega,by rw[zc5];exact e⟩
 | succ P ih =>
  intro s l h;by_cases he:s%2=0
  ·rw[zbs he]at h
   obtain⟨v,hv,e⟩:=ih _ _ h;exact⟨2*v,by omega,by rw[zhs];exact e⟩
  ·rw[zht he,zai]at h
   exact⟨s-1,by omega,by rw[zbs (by omega)];exact List.mem_singleton.1 h⟩
theorem zc2:∀(P:Nat) (s:Int) (r:Nat),hasR (nr s P) r→∃v,s<v/\r=nr v P:=by
 intro P;induction P with
 | zero =>
  intro s l h;rw[zc5]at h;obtain⟨_,e⟩:=zcu h;exact⟨s+1,by omega,by rw[zc5];exact e⟩
 | succ P ih =>
  intro s l h;by_cases he:s%2=0
  ·rw[zbs he]at h
   obtain⟨v,hv,e⟩:=ih _ _ h;exact⟨2*v,by omega,by rw[zhs];exact e⟩
  ·rw[zht he,zah]at h
   exact⟨s+1,by omega,by rw[zbs (by omega)];exact List.mem_singleton.1 h⟩
theorem zii {s:Int}{P:Nat}(h:s%2≠0):hasL (nr s (P+1)) (nr (s-1) (P+1)):=by
 rw[zht h,zai,zbs (by omega)];simp
theorem zmg {s:Int}{P:Nat}(h:s%2≠0):hasR (nr s (P+1)) (nr (s+1) (P+1)):=by
 rw[zht h,zah,zbs (by omega)];simp
theorem zv1:∀(P:Nat) (s t:Int),s<t→(∃v,s≤v/\v<t/\hasL (nr t P) (nr v P))∨∃v,s<v/\v≤t/\hasR (nr s P) (nr v P):=by
 intro P;induction P with
 | zero =>
  intro s t h;by_cases ht:0<t
  ·exact .inl ⟨t-1,by omega,by omega,by rw[zc5,zc5];exact zkp ht⟩
  ·exact .inr ⟨s+1,by omega,by omega,by rw[zc5,zc5];exact zkn (by omega)⟩
 | succ P ih =>
  intro s t h;by_cases ht:t%2=0
  ·by_cases hs:s%2=0
   ·rw[zbs ht,zbs hs]
    rcases ih (s/2) (t/2) (by omega)with ⟨v,h1,h2,h3⟩|⟨v,h1,h2,h3⟩
    ·exact .inl ⟨2*v,by omega,by omega,by rw[zhs];exact h3⟩
    ·exact .inr ⟨2*v,by omega,by omega,by rw[zhs];exact h3⟩
   ·exact .inr ⟨s+1,by omega,by omega,zmg hs⟩
  ·exact .inl ⟨t-1,by omega,by omega,zii ht⟩
theorem nr_ge' (P n:Nat):∀s t:Int,nr s P+nr t P<n→(t≤s→geC (nr s P) (nr t P)=true)/\(s<t→geC (nr s P) (nr t P)=false):=by
 induction n with
 | zero=>intro s t h;omega
 | succ n ih =>
  intro s t hn;refine⟨fun h=>zbr (fun r hr=>?_) fun l hl=>?_,fun h=>?_⟩
  ·have hlt:=za7 (.inr hr)
   obtain⟨v,hv,rfl⟩:=zc2 _ _ _ hr;exact(ih t v (by omega)).2 (by omega)
  ·have hlt:=za7 (.inl hl)
   obtain⟨v,hv,rfl⟩:=zci _ _ _ hl;exact(ih v s (by omega)).2 (by omega)
  ·cases e:geC (nr s P) (nr t P)with
   | false=>rfl
   | true =>
    rcases zv1 P s t h with ⟨v,h1,h2,h3⟩|⟨v,h1,h2,h3⟩
    ·have hlt:=za7 (.inl h3)
     have:=(ih v s (by omega)).1 h1;rw[zey e h3]at this;cases this
    ·have hlt:=za7 (.inr h3)
     have:=(ih t v (by omega)).1 h2;rw[zde e h3]at this;cases this
theorem zfk {s t:Int}{P:Nat}(h:t≤s):geC (nr s P) (nr t P)=true:=(nr_ge' P _ s t (Nat.lt_succ_self _)).1 h
theorem zik {s t:Int}{P:Nat}(h:s<t):geC (nr s P) (nr t P)=false:=(nr_ge' P _ s t (Nat.lt_succ_self _)).2 h
theorem zgt {s t:Int}{P:Nat}(h:geC (nr s P) (nr t P)=true):t≤s:=by
 refine Int.not_lt.1 fun q=>?_
 rw[zik q]at h;cases h
def EqC (a b:Nat):Prop:=geC a b=true/\geC b a=true
theorem EqC.can {a b:Nat}(h:EqC a b):canC a=canC b:=zu5.2 h
theorem EqC.of_can {a b:Nat}(h:canC a=canC b):EqC a b:=zu5.1 h
theorem zdn (a:Nat):EqC (canC a) a:=⟨(zcp a).2.1,(zcp a).2.2⟩
theorem EqC.r {a b:Nat}(h:EqC a b)(z:Nat):geC z a=geC z b:=(zyv h.1 h.2 z).1
theorem EqC.l {a b:Nat}(h:EqC a b)(z:Nat):geC a z=geC b z:=(zyv h.1 h.2 z).2
theorem zx3 {x y:Nat}(z:Nat)(h:geC x y=false):geC (sumC x z) (sumC y z)=false:=(sum_ge' _ x y z (Nat.lt_succ_self _)).2 h
theorem zhb (x y z:Nat):geC (sumC x z) (sumC y z)=geC x y:=by
 cases h:geC x y with
 | true=>exact zp1 z h
 | false=>exact zx3 z h
theorem ydc:∀(P:Nat) (s t:Int) (l:Nat),hasL (nr (s+t) P) l→∃v,l=nr v P/\((∃u,hasL (nr s P) (nr u P)/\v≤u+t)∨∃u,hasL (nr t P) (nr u P)/\v≤s+u):=by
 intro P;induction P with
 | zero =>
  intro s t l h;rw[zc5]at h;obtain⟨hp,e⟩:=zdy h;refine⟨s+t-1,by rw[zc5];exact e,?_⟩;by_cases hs:0<s
  ·exact .inl ⟨s-1,by rw[zc5,zc5];exact zkp hs,by omega⟩
  ·exact .inr ⟨t-1,by rw[zc5,zc5];exact zkp (by omega),by omega⟩
 | succ P ih =>
  intro s t l h;by_cases hs:s%2=0
  ·by_cases ht:t%2=0
   ·rw[zbs (by omega),show(s+t)/2=s/2+t/2 from by omega]at h
    obtain⟨v,e,hv⟩:=ih _ _ _ h;refine⟨2*v,by rw[zhs];exact e,?_⟩;rw[zbs hs,zbs ht];rcases hv with ⟨u,h1,h2⟩|⟨u,h1,h2⟩
    ·exact .inl ⟨2*u,by rw[zhs];exact h1,by omega⟩
    ·exact .inr ⟨2*u,by rw[zhs];exact h1,by omega⟩
   ·obtain⟨v,hv,e⟩:=zci _ _ _ h
    exact⟨v,e,.inr ⟨t-1,zii ht,by omega⟩⟩
  ·obtain⟨v,hv,e⟩:=zci _ _ _ h
   exact⟨v,e,.inl ⟨s-1,zii hs,by omega⟩⟩
theorem ydb:∀(P:Nat) (s t:Int) (l:Nat),hasR (nr (s+t) P) l→∃v,l=nr v P/\((∃u,hasR (nr s P) (nr u P)/\u+t≤v)∨∃u,hasR (nr t P) (nr u P)/\s+u≤v):=by
 intro P;induction P with
 | zero =>
  intro s t l h;rw[zc5]at h;obtain⟨hp,e⟩:=zcu h;refine⟨s+t+1,by rw[zc5];exact e,?_⟩;by_cases hs:s<0
  ·exact .inl ⟨s+1,by rw[zc5,zc5];exact zkn hs,by omega⟩
  ·exact .inr ⟨t+1,by rw[zc5,zc5];exact zkn (by omega),by omega⟩
 | succ P ih =>
  intro s t l h;by_cases hs:s%2=0
  ·by_cases ht:t%2=0
   ·rw[zbs (by omega),show(s+t)/2=s/2+t/2 from by omega]at h
    obtain⟨v,e,hv⟩:=ih _ _ _ h;refine⟨2*v,by rw[zhs];exact e,?_⟩;rw[zbs hs,zbs ht];rcases hv with ⟨u,h1,h2⟩|⟨u,h1,h2⟩
    ·exact .inl ⟨2*u,by rw[zhs];exact h1,by omega⟩
    ·exact .inr ⟨2*u,by rw[zhs];exact h1,by omega⟩
   ·obtain⟨v,hv,e⟩:=zc2 _ _ _ h
    exact⟨v,e,.inr ⟨t+1,zmg ht,by omega⟩⟩
  ·obtain⟨v,hv,e⟩:=zc2 _ _ _ h
   exact⟨v,e,.inl ⟨s+1,zmg hs,by omega⟩⟩
theorem nr_sum' (P n:Nat):∀s t:Int,nr s P+nr t P<n→EqC (sumC (nr s P) (nr t P)) (nr (s+t) P):=by
 induction n with
 | zero=>intro s t h;omega
 | succ n ih =>
  intro s t hn;constructor
  ·refine zbr (fun r hr=>?_) fun l hl=>?_
   ·rcases (zdz _ _ r).1 hr with ⟨b,hb,rfl⟩|⟨b,hb,rfl⟩
    ·have hlt:=za7 (.inr hb)
     obtain⟨v,hv,rfl⟩:=zc2 _ _ _ hb;rw[(ih v t (by omega)).r];exact zik (by omega)
    ·have hlt:=za7 (.inr hb)
     obtain⟨v,hv,rfl⟩:=zc2 _ _ _ hb;rw[(ih s v (by omega)).r];exact zik (by omega)
   ·obtain⟨v,rfl,⟨u,hu,hv⟩|⟨u,hu,hv⟩⟩:=ydc P s t l hl
    ·have hlt:=za7 (.inl hu)
     have h1:geC (sumC (nr u P) (nr t P)) (nr v P)=true:=by rw[(ih u t (by omega)).l];exact zfk hv
     exact zau h1 (zbi ((ze0 _ _ _).2 (.inl ⟨_,hu,rfl⟩)))
    ·have hlt:=za7 (.inl hu)
     have h1:geC (sumC (nr s P) (nr u P)) (nr v P)=true:=by rw[(ih s u (by omega)).l];exact zfk hv
     exact zau h1 (zbi ((ze0 _ _ _).2 (.inr ⟨_,hu,rfl⟩)))
  ·refine zbr (fun r hr=>?_) fun l hl=>?_
   ·obtain⟨v,rfl,⟨u,hu,hv⟩|⟨u,hu,hv⟩⟩:=ydb P s t r hr
    ·have hlt:=za7 (.inr hu)
     have h1:geC (nr v P) (sumC (nr u P) (nr t P))=true:=by rw[(ih u t (by omega)).r];exact zfk hv
     exact zav h1 (zbb ((zdz _ _ _).2 (.inl ⟨_,hu,rfl⟩)))
    ·have hlt:=za7 (.inr hu)
     have h1:geC (nr v P) (sumC (nr s P) (nr u P))=true:=by rw[(ih s u (by omega)).r];exact zfk hv
     exact zav h1 (zbb ((zdz _ _ _).2 (.inr ⟨_,hu,rfl⟩)))
   ·rcases (ze0 _ _ l).1 hl with ⟨b,hb,rfl⟩|⟨b,hb,rfl⟩
    ·have hlt:=za7 (.inl hb)
     obtain⟨v,hv,rfl⟩:=zci _ _ _ hb;rw[(ih v t (by omega)).l];exact zik (by omega)
    ·have hlt:=za7 (.inl hb)
     obtain⟨v,hv,rfl⟩:=zci _ _ _ hb;rw[(ih s v (by omega)).l];exact zik (by omega)
theorem zmf (s t:Int)(P:Nat):EqC (sumC (nr s P) (nr t P)) (nr (s+t) P):=nr_sum' P _ s t (Nat.lt_succ_self _)
theorem zze (s:Int)(P:Nat):CanC1 (nr s P):=by
 have uniq:∀(P:Nat) (s:Int),(∀l l',hasL (nr s P) l→hasL (nr s P) l'→l=l')/\∀l l',hasR (nr s P) l→hasR (nr s P) l'→l=l':=by
  intro P;induction P with
  | zero =>
   intro s;rw[zc5];exact⟨fun l l' h h'=>by rw[(zdy h).2,(zdy h').2],fun l l' h h'=>by rw[(zcu h).2,(zcu h').2]⟩
  | succ P ih =>
   intro s;by_cases he:s%2=0
   ·rw[zbs he];exact ih _
   ·rw[zht he]
    refine⟨fun l l' h h'=>?_,fun l l' h h'=>?_⟩
    ·rw[zai]at h h'
     rw[List.mem_singleton.1 h,List.mem_singleton.1 h']
    ·rw[zah]at h h'
     rw[List.mem_singleton.1 h,List.mem_singleton.1 h']
 have rev:∀(P:Nat) (s:Int),(∀l r,hasL (nr s P) l→hasR l r→geC (nr s P) r=false)/\∀r l,hasR (nr s P) r→hasL r l→geC l (nr s P)=false:=by
  intro P;induction P with
  | zero =>
   intro s;rw[zc5];refine⟨fun l r h h'=>?_,fun l r h h'=>?_⟩
   ·obtain⟨h1,rfl⟩:=zdy h
    have:=(zcu h').1;omega
   ·obtain⟨h1,rfl⟩:=zcu h
    have:=(zdy h').1;omega
  | succ P ih =>
   intro s;by_cases he:s%2=0
   ·rw[zbs he];exact ih _
   ·refine⟨fun l r h h'=>?_,fun l r h h'=>?_⟩
    ·rw[zht he,zai]at h
     rw[List.mem_singleton.1 h]at h';obtain⟨v,hv,rfl⟩:=zc2 _ _ _ h';rw[←zhs v P];exact zik (by omega)
    ·rw[zht he,zah]at h
     rw[List.mem_singleton.1 h]at h';obtain⟨v,hv,rfl⟩:=zci _ _ _ h';rw[←zhs v P];exact zik (by omega)
 exact⟨fun l l' h h' _=>(uniq P s).1 _ _ h' h,fun l l' h h' _=>(uniq P s).2 _ _ h' h,(rev P s).1,(rev P s).2⟩
theorem znh (s:Int)(P:Nat):(∀l l',hasL (nr s P) l→hasL (nr s P) l'→l=l')/\∀l l',hasR (nr s P) l→hasR (nr s P) l'→l=l':=by
 have h:=zze s P;refine⟨fun l l' a b=>?_,fun l l' a b=>?_⟩
 ·obtain⟨v,_,rfl⟩:=zci _ _ _ a
  obtain⟨v',_,rfl⟩:=zci _ _ _ b;by_cases e:v'≤v
  ·exact h.domL _ _ b a (zfk e)
  ·exact(h.domL _ _ a b (zfk (by omega))).symm
 ·obtain⟨v,_,rfl⟩:=zc2 _ _ _ a
  obtain⟨v',_,rfl⟩:=zc2 _ _ _ b;by_cases e:v≤v'
  ·exact h.domR _ _ b a (zfk e)
  ·exact(h.domR _ _ a b (zfk (by omega))).symm
theorem ycn {s:Int}{P x:Nat}(h:SubC (nr s P) x):∃v,x=nr v P:=by
 induction h with
 | root=>exact⟨s,rfl⟩
 | step _ ho ih =>
  obtain⟨v,rfl⟩:=ih;rcases ho with h|h
  ·obtain⟨u,_,e⟩:=zci _ _ _ h;exact⟨u,e⟩
  ·obtain⟨u,_,e⟩:=zc2 _ _ _ h;exact⟨u,e⟩
theorem zzf (s:Int)(P:Nat):CanC (nr s P):=fun x hx=>by
 obtain⟨v,rfl⟩:=ycn hx;exact zze v P
def IsNum (G:Nat):Prop:=∃(P:Nat) (s:Int),EqC G (nr s P)
theorem IsNum.can {c:Nat}(h:IsNum c)(hc:CanC c):∃(P:Nat) (s:Int),c=nr s P:=by
 obtain⟨P,s,k⟩:=h;exact⟨P,s,zom hc (zzf s P) k.1 k.2⟩
theorem zrx (P:Nat){G:Nat}:∀(n:Nat) (s:Int),nr s P<n→(∀l,hasL G l→geC l (nr s P)=false)→(∀r,hasR G r→geC (nr s P) r=false)→IsNum G:=by
 intro n;induction n with
 | zero=>intro s h;omega
 | succ n ih =>
  intro s hn hl hr;cases h1:geC (nr s P) G with
  | false =>
   rcases zg9 h1 with ⟨r,h,e⟩|⟨l,h,e⟩
   ·have hlt:=za7 (.inr h)
    obtain⟨v,hv,rfl⟩:=zc2 _ _ _ h;refine ih v (by omega) (fun l h'=>?_) fun r h'=>?_
    ·cases q:geC l (nr v P)with
     | false=>rfl
     | true =>
      have:=zac q (zfk (s:=v) (t:=s) (P:=P) (by omega));rw[hl l h']at this;cases this
    ·cases q:geC (nr v P) r with
     | false=>rfl
     | true =>
      have:=zac e q;rw[zbb h']at this;cases this
   ·rw[hl l h]at e;cases e
  | true =>
   cases h2:geC G (nr s P)with
   | true=>exact⟨P,s,h2,h1⟩
   | false =>
    rcases zg9 h2 with ⟨r,h,e⟩|⟨l,h,e⟩
    ·rw[hr r h]at e;cases e
    ·have hlt:=za7 (.inl h)
     obtain⟨v,hv,rfl⟩:=zci _ _ _ h;refine ih v (by omega) (fun l h'=>?_) fun r h'=>?_
     ·cases q:geC l (nr v P)with
      | false=>rfl
      | true =>
       have:=zac q e;rw[zbi h']at this;cases this
     ·cases q:geC (nr v P) r with
      | false=>rfl
      | true =>
       have:=zac (zfk (s:=s) (t:=v) (P:=P) (by omega)) q;rw[hr r h']at this;cases this
theorem zo9 {G:Nat}(hG:¬IsNum G)(P:Nat)(s:Int):(∃l,hasL G l/\geC l (nr s P)=true)∨geC (nr s P) G=true:=by
 by_cases h:∃l,hasL G l/\geC l (nr s P)=true
 ·exact .inl h
 ·have hl:∀l,hasL G l→geC l (nr s P)=false:=fun l hl=>by
   cases q:geC l (nr s P)with
   | false=>rfl
   | true=>exact absurd ⟨l,hl,q⟩ h
  refine .inr (zbr (fun x hx=>?_) hl);cases q:geC G x with
  | false=>rfl
  | true =>
   obtain⟨v,hv,rfl⟩:=zc2 _ _ _ hx;refine absurd (zrx P _ s (Nat.lt_succ_self _) hl fun r hr=>?_) hG;cases q':geC (nr s P) r with
   | false=>rfl
   | true =>
    have:=zac (zac q (zfk (s:=v) (t:=s) (P:=P) (by omega))) q';rw[zbb hr]at this;cases this
theorem zo8 {G:Nat}(hG:¬IsNum G)(P:Nat)(s:Int):(∃r,hasR G r/\geC (nr s P) r=true)∨geC G (nr s P)=true:=by
 by_cases h:∃r,hasR G r/\geC (nr s P) r=true
 ·exact .inl h
 ·have hr:∀r,hasR G r→geC (nr s P) r=false:=fun l hl=>by
   cases q:geC (nr s P) l with
   | false=>rfl
   | true=>exact absurd ⟨l,hl,q⟩ h
  refine .inr (zbr hr (fun x hx=>?_));cases q:geC x G with
  | false=>rfl
  | true =>
   obtain⟨v,hv,rfl⟩:=zci _ _ _ hx;refine absurd (zrx P _ s (Nat.lt_succ_self _) (fun l hl=>?_) hr) hG;cases q':geC l (nr s P)with
   | false=>rfl
   | true =>
    have:=zac q' (zac (zfk (s:=s) (t:=v) (P:=P) (by omega)) q);rw[zbi hl]at this;cases this
theorem zpi (G:Nat):∀m:Nat,G≤m→geC (posC m) G=true:=by
 induction G using Nat.strongRecOn with
 | _ G ih =>
  intro m hm;refine zbr (fun r hr=>?_) fun l hl=>?_
  ·rw[←zi4]at hr
   have:=(zcu hr).1;omega
  ·have hlt:=za7 (.inl hl)
   obtain⟨k,rfl⟩:∃k,m=k+1:=⟨m-1,by omega⟩;exact zau (ih l hlt k (by omega)) (zbi (show hasL (mkC [posC k] []) (posC k)from by rw[zai];simp))
theorem zph (G:Nat):∀m:Nat,G≤m→geC G (zg6 m)=true:=by
 induction G using Nat.strongRecOn with
 | _ G ih =>
  intro m hm;refine zbr (fun r hr=>?_) fun l hl=>?_
  ·have hlt:=za7 (.inr hr)
   obtain⟨k,rfl⟩:∃k,m=k+1:=⟨m-1,by omega⟩;exact zav (ih r hlt k (by omega)) (zbb (show hasR (mkC [] [zg6 k]) (zg6 k)from by rw[zah];simp))
  ·rw[←zg8]at hl
   have:=(zdy hl).1;omega
theorem zki (m:Int)(P:Nat):nr (m*2^P) P=intC m:=by
 have h:=zdx m 0 P;rw[Nat.zero_add]at h;rw[h,zc5]
section
variable {s:Int}{P:Nat}(hs:0<s)
include hs
end
def IsVal (c:Nat)(t:Int)(p:Nat):Prop:=Red t p/\c=numC t p
theorem IsVal.toNr {c:Nat}{t:Int}{p:Nat}(h:IsVal c t p):c=nr t p:=by rw[zpm h.1];exact h.2
theorem ztd (s:Int)(P:Nat):IsVal (nr s P) (redT s P).1 (redT s P).2:=⟨zdb _ _,rfl⟩
theorem yec {s t:Int}{P:Nat}(h:nr s P=nr t P):s=t:=by
 have h1:=zgt (show geC (nr s P) (nr t P)=true by rw[h];exact zcd _);have h2:=zgt (show geC (nr t P) (nr s P)=true by rw[h];exact zcd _);omega
theorem IsVal.one {c:Nat}{t s:Int}{p q:Nat}(h:IsVal c t p)(k:IsVal c s q):t=s/\p=q:=by
 have e1:nr (t*2^q) (p+q)=c:=by rw[zdx];exact h.toNr.symm
 have e2:nr (s*2^p) (p+q)=c:=by rw[Nat.add_comm,zdx];exact k.toNr.symm
 have e:=yec (e1.trans e2.symm);have a:=zca q p t;rw[e,Nat.add_comm,zca,zd1 k.1,zd1 h.1]at a;have a1:=congrArg Prod.fst a;have a2:=congrArg Prod.snd a;exact⟨a1.symm,a2.symm⟩
open Classical in
noncomputable def isNB (c:Nat):Bool:=decide (∃t p,IsVal c t p)
open Classical in
noncomputable def valT (c:Nat):Int × Nat:=if h:∃d:Int × Nat,IsVal c d.1 d.2 then Classical.choose h else (0,0)
open Classical in
theorem zct {c:Nat}:isNB c=true↔∃t p,IsVal c t p:=by unfold isNB;rw[decide_eq_true_iff]
theorem IsVal.is {c:Nat}{t:Int}{p:Nat}(h:IsVal c t p):isNB c=true:=zct.2 ⟨t,p,h⟩
theorem IsVal.val {c:Nat}{t:Int}{p:Nat}(h:IsVal c t p):valT c=(t,p):=by
 have hx:∃d:Int × Nat,IsVal c d.1 d.2:=⟨(t,p),h⟩;unfold valT;rw[dif_pos hx];obtain⟨a,b⟩:=(Classical.choose_spec hx).one h;exact Prod.ext a b
theorem zym {c:Nat}(h:isNB c=true):IsVal c (valT c).1 (valT c).2:=by
 obtain⟨t,p,k⟩:=zct.1 h;rw[k.val];exact k
theorem zyn (s:Int)(P:Nat):isNB (nr s P)=true:=(ztd s P).is
open Classical in
noncomputable def valB (c:Nat):Bool:=isNB c && decide (GoodD (valT c).1 (valT c).2)
noncomputable def valD (c:Nat):Int × Nat:=if valB c=true then valT c else (0,0)
open Classical in
theorem IsVal.good {c:Nat}{t:Int}{p:Nat}(h:IsVal c t p):valB c=true↔GoodD t p:=by
 unfold valB;rw[h.is,h.val,Bool.true_and,decide_eq_true_iff]
theorem zhq {c:Nat}(h:valB c=true):isNB c=true:=by
 unfold valB at h;exact(Bool.and_eq_true_iff.1 h).1
theorem zfe {c:Nat}(h:valB c=true):IsVal c (valD c).1 (valD c).2/\GoodD (valD c).1 (valD c).2:=by
 have h1:=zym (zhq h);unfold valD;rw[if_pos h];exact⟨h1,h1.good.1 h⟩
theorem IsVal.goodD {c:Nat}{t:Int}{p:Nat}(h:IsVal c t p)(hg:GoodD t p):valB c=true/\valD c=(t,p):=by
 have h1:=h.good.2 hg;refine⟨h1,?_⟩;unfold valD;rw[if_pos h1,h.val]
theorem zfy {c:Nat}(h:valB c=false):valD c=(0,0):=by unfold valD;rw[h];rfl
theorem yb3 {c l l':Nat}(h:isNB c=true)(a:hasL c l)(b:hasL c l'):l=l':=by
 obtain⟨t,p,k⟩:=zct.1 h;rw[k.toNr]at a b;exact(znh _ _).1 _ _ a b
theorem yb2 {c l l':Nat}(h:isNB c=true)(a:hasR c l)(b:hasR c l'):l=l':=by
 obtain⟨t,p,k⟩:=zct.1 h;rw[k.toNr]at a b;exact(znh _ _).2 _ _ a b
theorem yb1 {c l:Nat}(h:isNB c=true)(a:hasL c l):isNB l=true:=by
 obtain⟨t,p,k⟩:=zct.1 h;rw[k.toNr]at a;obtain⟨v,_,rfl⟩:=zci _ _ _ a;exact zyn _ _
theorem yb0 {c l:Nat}(h:isNB c=true)(a:hasR c l):isNB l=true:=by
 obtain⟨t,p,k⟩:=zct.1 h;rw[k.toNr]at a;obtain⟨v,_,rfl⟩:=zc2 _ _ _ a;exact zyn _ _
theorem zy3 {c l r:Nat}(h:isNB c=true)(a:hasL c l)(b:hasR c r):geC l r=false:=by
 obtain⟨t,p,k⟩:=zct.1 h;rw[k.toNr]at a b;obtain⟨v,hv,rfl⟩:=zci _ _ _ a;obtain⟨u,hu,rfl⟩:=zc2 _ _ _ b;exact zik (by omega)
theorem yb4 {c:Nat}(hc:CanC c)(h1:∀l l',hasL c l→hasL c l'→l=l')(h2:∀r r',hasR c r→hasR c r'→r=r')(hL:∀l,hasL c l→isNB l=true)(hR:∀r,hasR c r→isNB r=true)
  (ha:∀l r,hasL c l→hasR c r→geC l r=false):isNB c=true:=by
 have fin:∀(s:Int) (P:Nat),(∀l,hasL c l→geC l (nr s P)=false)→(∀r,hasR c r→geC (nr s P) r=false)→isNB c=true:=fun s P a b=>by
  obtain⟨Q,u,e⟩:=(zrx P _ s (Nat.lt_succ_self _) a b).can hc;rw[e];exact zyn _ _
 by_cases eL:∃l,hasL c l
 ·obtain⟨l,hl⟩:=eL
  obtain⟨s,P,kl⟩:=zct.1 (hL l hl);by_cases eR:∃r,hasR c r
  ·obtain⟨r,hr⟩:=eR
   obtain⟨t,Q,kr⟩:=zct.1 (hR r hr);have e1:l=nr (2*(s*2^Q)) (P+Q+1):=by rw[zhs,zdx];exact kl.toNr
   have e2:r=nr (2*(t*2^P)) (P+Q+1):=by rw[zhs,Nat.add_comm,zdx];exact kr.toNr
   have hlt:s*2^Q<t*2^P:=by
    have h:=ha l r hl hr;rw[e1,e2]at h;refine Int.not_le.1 fun q=>?_
    rw[zfk (show 2*(t*2^P)≤2*(s*2^Q)by omega)]at h;cases h
   refine fin (2*(s*2^Q)+1) (P+Q+1) (fun l' hl'=>?_) (fun r' hr'=>?_)
   ·rw[h1 _ _ hl' hl,e1];exact zik (by omega)
   ·rw[h2 _ _ hr' hr,e2];exact zik (by omega)
  ·refine fin (s+1) P (fun l' hl'=>?_) (fun r' hr'=>absurd ⟨r',hr'⟩ eR)
   rw[h1 _ _ hl' hl,kl.toNr];exact zik (by omega)
 ·by_cases eR:∃r,hasR c r
  ·obtain⟨r,hr⟩:=eR
   obtain⟨t,Q,kr⟩:=zct.1 (hR r hr);refine fin (t-1) Q (fun l' hl'=>absurd ⟨l',hl'⟩ eL) (fun r' hr'=>?_);rw[h2 _ _ hr' hr,kr.toNr];exact zik (by omega)
  ·exact fin 0 0 (fun l' hl'=>absurd ⟨l',hl'⟩ eL) (fun r' hr'=>absurd ⟨r',hr'⟩ eR)
theorem ya7 {c:Nat}(h:isNB c=true)(hL:∀l,¬hasL c l)(hR:∀r,¬hasR c r):IsVal c 0 0:=by
 obtain⟨t,p,k⟩:=zct.1 h;have hk:=k;obtain⟨hr,e⟩:=hk;cases p with
 | zero =>
  rw[zen]at e;by_cases h0:t=0
  ·subst h0;exact k
  ·by_cases hp:0<t
   ·exact absurd (by rw[e];exact zkp hp) (hL _)
   ·exact absurd (by rw[e];exact zkn (by omega)) (hR _)
 | succ p =>
  have ho:t%2≠0:=hr.resolve_left (by omega);exact absurd (by rw[k.toNr];exact zii ho) (hL _)
theorem zsr {c l:Nat}(h:isNB c=true)(hl:hasL c l)(hR:∀r,¬hasR c r):∃k:Int,0<k/\IsVal c k 0/\IsVal l (k-1) 0:=by
 obtain⟨t,p,k⟩:=zct.1 h;have hk:=k;obtain⟨hr,e⟩:=hk;cases p with
 | zero =>
  rw[zen]at e;rw[e]at hl;obtain⟨h1,h2⟩:=zdy hl;exact⟨t,h1,k,.inl rfl,h2⟩
 | succ p =>
  have ho:t%2≠0:=hr.resolve_left (by omega);exact absurd (by rw[k.toNr];exact zmg ho) (hR _)
theorem zot {c r:Nat}(h:isNB c=true)(hr:hasR c r)(hL:∀l,¬hasL c l):∃k:Int,k<0/\IsVal c k 0/\IsVal r (k+1) 0:=by
 obtain⟨t,p,k⟩:=zct.1 h;have hk:=k;obtain⟨hd,e⟩:=hk;cases p with
 | zero =>
  rw[zen]at e;rw[e]at hr;obtain⟨h1,h2⟩:=zcu hr;exact⟨t,h1,k,.inl rfl,h2⟩
 | succ p =>
  have ho:t%2≠0:=hd.resolve_left (by omega);exact absurd (by rw[k.toNr];exact zii ho) (hL _)
theorem zss {c l r:Nat}(h:isNB c=true)(hl:hasL c l)(hr:hasR c r):∃(t:Int) (p:Nat),IsVal c t p/\0<p/\t%2≠0/\IsVal l (redT (t-1) p).1 (redT (t-1) p).2/\IsVal r (redT (t+1) p).1 (redT (t+1) p).2:=by
 obtain⟨t,p,k⟩:=zct.1 h;have hk:=k;obtain⟨hd,e⟩:=hk;cases p with
 | zero =>
  rw[zen]at e;rw[e]at hl hr;have a:=zdy hl;have b:=zcu hr;omega
 | succ p =>
  have ho:t%2≠0:=hd.resolve_left (by omega);refine⟨t,p+1,k,by omega,ho,?_,?_⟩
  ·rw[k.toNr]at hl
   rw[(znh _ _).1 _ _ hl (zii ho)];exact ztd _ _
  ·rw[k.toNr]at hr
   rw[(znh _ _).2 _ _ hr (zmg ho)];exact ztd _ _
theorem zf4 {N:Nat}:∀(p:Nat) (x:Int),p≤N→(redT x p).1*2^(N-(redT x p).2)=x*2^(N-p):=by
 intro p;induction p with
 | zero=>intro x _;rfl
 | succ p ih =>
  intro x hp;by_cases hx:x%2=0
  ·rw[zbg hx,ih _ (by omega)]
   obtain⟨k,hk⟩:∃k,N-p=k+1:=⟨N-(p+1),by omega⟩;rw[hk,show N-(p+1)=k from by omega,Int.pow_succ,Int.mul_comm (2^k) 2,←Int.mul_assoc];congr 1
   omega
  ·rw[redT,if_neg hx]
theorem yai {x:Int}{N p:Nat}(h:p≤N):redT (x*2^(N-p)) N=redT x p:=by
 have:=zca (N-p) p x;rw[show p+(N-p)=N from by omega]at this
 exact this
theorem zvu {t:Int}{p:Nat}(hp:0<p)(ho:t%2≠0)(h1:GoodD (redT (t-1) p).1 (redT (t-1) p).2)(h2:GoodD (redT (t+1) p).1 (redT (t+1) p).2) :
  p≤17/\redT ((redT (t-1) p).1*2^(16-(redT (t-1) p).2)+(redT (t+1) p).1*2^(16-(redT (t+1) p).2)) 17=(t,p):=by
 obtain⟨q,rfl⟩:∃q,p=q+1:=⟨p-1,by omega⟩;rw[zbg (show(t-1)%2=0 by omega)]at h1 ⊢;rw[zbg (show(t+1)%2=0 by omega)]at h2 ⊢;by_cases hq:q≤16
 ·refine⟨by omega,?_⟩
  rw[zf4 q _ hq,zf4 q _ hq,←Int.add_mul,show(t-1)/2+(t+1)/2=t from by omega];have:=yai (x:=t) (N:=17) (p:=q+1) (by omega);rw[show 17-(q+1)=16-q from by omega]at this
  rw[this,zd1 (.inr ho)]
 ·have h3:=h1.2.1
  have h4:=h2.2.1;exfalso
  by_cases he:(t-1)/2%2=0
  ·rw[zd1 (t:=(t+1)/2) (.inr (by omega))]at h4
   have:((q:Nat):Int)≤16:=h4.2;omega
  ·rw[zd1 (t:=(t-1)/2) (.inr he)]at h3
   have:((q:Nat):Int)≤16:=h3.2;omega
theorem zvt {t:Int}{p:Nat}(hp:0<p)(ho:t%2≠0)(h:GoodD t p):GoodD (redT (t-1) p).1 (redT (t-1) p).2/\GoodD (redT (t+1) p).1 (redT (t+1) p).2:=by
 obtain⟨a,b,c⟩:=h;exact⟨(zfb (.inr ho) (by omega) hp (by omega) _ (.inl rfl)).1,(zfb (.inr ho) (by omega) hp (by omega) _ (.inr rfl)).1⟩
theorem zy2 {G:Nat}(hG:¬IsNum G)(P:Nat):∃(u:Int) (l:Nat),hasL G l/\geC l (nr u P)=true/\geC (nr (u+1) P) G=true:=by
 have key:∀(k:Nat) (u:Int),(G:Int)*2^P≤u+k→(∃l,hasL G l/\geC l (nr u P)=true)→∃(u:Int) (l:Nat),hasL G l/\geC l (nr u P)=true/\geC (nr (u+1) P) G=true:=by
  intro k;induction k with
  | zero =>
   rintro u hu ⟨l,hl,e⟩;have h1:geC (nr u P) (nr ((G:Int)*2^P) P)=true:=zfk (by omega);rw[zki,zi4]at h1;have:=zac (zac e h1) (zpi G G (Nat.le_refl _));rw[zbi hl]at this;cases this
  | succ k ih =>
   rintro u hu ⟨l,hl,e⟩;rcases zo9 hG P (u+1)with h|h
   ·exact ih (u+1) (by omega) h
   ·exact⟨u,l,hl,e,h⟩
 obtain⟨hi,hhi⟩:∃hi:Int,hi=(G:Int)*2^P:=⟨_,rfl⟩;obtain⟨lo,hlo⟩:∃lo:Int,lo=-(G:Int)*2^P-1:=⟨_,rfl⟩;refine key (hi-lo).toNat lo (by omega) ((zo9 hG P lo).resolve_right fun h=>?_);have h1:=zac h (zph G G (Nat.le_refl _));rw[←zg8,←zki (-(G:Int)) P]at h1;have:=zgt h1;omega
theorem zy1 {G:Nat}(hG:¬IsNum G)(P:Nat):∃(u:Int) (r:Nat),hasR G r/\geC (nr u P) r=true/\geC G (nr (u-1) P)=true:=by
 have key:∀(k:Nat) (u:Int),u-k≤-(G:Int)*2^P→(∃r,hasR G r/\geC (nr u P) r=true)→∃(u:Int) (r:Nat),hasR G r/\geC (nr u P) r=true/\geC G (nr (u-1) P)=true:=by
  intro k;induction k with
  | zero =>
   rintro u hu ⟨l,hl,e⟩;have h1:geC (nr (-(G:Int)*2^P) P) (nr u P)=true:=zfk (by omega);rw[zki,zg8]at h1;have:=zac (zph G G (Nat.le_refl _)) (zac h1 e);rw[zbb hl]at this;cases this
  | succ k ih =>
   rintro u hu ⟨l,hl,e⟩;rcases zo8 hG P (u-1)with h|h
   ·exact ih (u-1) (by omega) h
   ·exact⟨u,l,hl,e,h⟩
 obtain⟨hi,hhi⟩:∃hi:Int,hi=(G:Int)*2^P+1:=⟨_,rfl⟩;obtain⟨lo,hlo⟩:∃lo:Int,lo=-(G:Int)*2^P:=⟨_,rfl⟩;refine key (hi-lo).toNat hi (by omega) ((zo8 hG P hi).resolve_right fun h=>?_);have h1:=zac (zpi G G (Nat.le_refl _)) h;rw[←zi4,←zki (G:Int) P]at h1;have:=zgt h1;omega
noncomputable def zob (G x:Nat):Nat:=mkC ((zfx G).map fun l=>canC (sumC l x)) ((zcz G).map fun r=>canC (sumC r x))
theorem zkc {G x a:Nat}:hasL (zob G x) a↔∃l,hasL G l/\canC (sumC l x)=a:=by
 unfold zob;rw[zai,List.mem_map];exact⟨fun⟨l,h,e⟩=>⟨l,zaz.1 h,e⟩,fun⟨l,h,e⟩=>⟨l,zaz.2 h,e⟩⟩
theorem zkb {G x a:Nat}:hasR (zob G x) a↔∃l,hasR G l/\canC (sumC l x)=a:=by
 unfold zob;rw[zah,List.mem_map];exact⟨fun⟨l,h,e⟩=>⟨l,zas.1 h,e⟩,fun⟨l,h,e⟩=>⟨l,zas.2 h,e⟩⟩
theorem ydd {G:Nat}(hG:¬IsNum G)(s:Int)(P:Nat):EqC (zob G (nr s P)) (sumC G (nr s P)):=by
 constructor
 ·refine zbr (fun r hr=>?_) fun l hl=>?_
  ·obtain⟨b,hb,rfl⟩:=zkb.1 hr
   rw[(zdn _).r];exact zx3 _ (zbb hb)
  ·rcases (ze0 _ _ l).1 hl with ⟨b,hb,rfl⟩|⟨b,hb,rfl⟩
   ·rw[←(zdn _).l]
    exact zbi (zkc.2 ⟨b,hb,rfl⟩)
   ·obtain⟨v,hv,rfl⟩:=zci _ _ _ hb
    obtain⟨u,l,h1,h2,h3⟩:=zy2 hG P;have k1:geC (nr (u+s) P) (sumC G (nr v P))=true:=by
     refine zac (zfk (show u+1+v≤u+s from by omega)) ?_
     rw[←(zmf (u+1) v P).l];exact zp1 _ h3
    have k2:geC (sumC l (nr s P)) (nr (u+s) P)=true:=by
     rw[←(zmf u s P).r];exact zp1 _ h2
    have k3:=zac k2 k1;rw[←(zdn _).l]at k3;exact zau k3 (zbi (zkc.2 ⟨l,h1,rfl⟩))
 ·refine zbr (fun r hr=>?_) fun l hl=>?_
  ·rcases (zdz _ _ r).1 hr with ⟨b,hb,rfl⟩|⟨b,hb,rfl⟩
   ·rw[←(zdn _).r]
    exact zbb (zkb.2 ⟨b,hb,rfl⟩)
   ·obtain⟨v,hv,rfl⟩:=zc2 _ _ _ hb
    obtain⟨u,l,h1,h2,h3⟩:=zy1 hG P;have k1:geC (sumC G (nr v P)) (nr (u+s) P)=true:=by
     refine zac ?_ (zfk (show u+s≤u-1+v from by omega))
     rw[←(zmf (u-1) v P).r];exact zp1 _ h3
    have k2:geC (nr (u+s) P) (sumC l (nr s P))=true:=by
     rw[←(zmf u s P).l];exact zp1 _ h2
    have k3:=zac k1 k2;rw[←(zdn _).r]at k3;exact zav k3 (zbb (zkb.2 ⟨l,h1,rfl⟩))
  ·obtain⟨b,hb,rfl⟩:=zkc.1 hl
   rw[(zdn _).l];exact zx3 _ (zbi hb)
theorem zsd (a s:Int)(Q P:Nat):∃(L:Nat) (a' s':Int),nr a Q=nr a' L/\nr s P=nr s' L/\canC (sumC (nr a Q) (nr s P))=nr (a'+s') L:=by
 have e1:nr a Q=nr (a*2^P) (P+Q):=by rw[Nat.add_comm];exact(zdx a Q P).symm
 have e2:nr s P=nr (s*2^Q) (P+Q):=(zdx s P Q).symm;refine⟨P+Q,a*2^P,s*2^Q,e1,e2,?_⟩;rw[e1,e2,(zmf _ _ _).can,zfc (zzf _ _)]
theorem zth (s:Int)(P:Nat):∀(n G:Nat),G<n→CanC G→¬IsNum G→canC (sumC G (nr s P))=zob G (nr s P):=by
 intro n;induction n with
 | zero=>intro G h;omega
 | succ n ih =>
  intro G hn hc hG;have hE:=ydd hG s P;have k:=hc G .root;have one:CanC1 (zob G (nr s P)):=by
   refine⟨fun a a' ha ha' e=>?_,fun a a' ha ha' e=>?_,fun a r ha hr=>?_,fun a r ha hr=>?_⟩
   ·obtain⟨l,hl,rfl⟩:=zkc.1 ha
    obtain⟨l',hl',rfl⟩:=zkc.1 ha';rw[(zdn _).l,(zdn _).r,zhb]at e;rw[k.domL l l' hl hl' e]
   ·obtain⟨l,hl,rfl⟩:=zkb.1 ha
    obtain⟨l',hl',rfl⟩:=zkb.1 ha';rw[(zdn _).l,(zdn _).r,zhb]at e;rw[k.domR l l' hl hl' e]
   ·obtain⟨l,hl,rfl⟩:=zkc.1 ha
    rw[hE.l];have hlt:=za7 (.inl hl);by_cases hN:IsNum l
    ·obtain⟨Q,a,rfl⟩:=hN.can (hc.opt (.inl hl))
     obtain⟨L,a',s',e1,e2,e3⟩:=zsd a s Q P;rw[e3]at hr;obtain⟨v,hv,rfl⟩:=zc2 _ _ _ hr;cases q:geC (sumC G (nr s P)) (nr v L)with
     | false=>rfl
     | true =>
      have q1:geC G (nr (v-s') L)=true:=by
       rw[←zhb G _ (nr s P),e2,(zmf (v-s') s' L).r,show v-s'+s'=v from by omega,←e2];exact q
      rcases zo9 hG L (v-s')with ⟨l',hl',g⟩|g
      ·have g1:geC l' (nr a Q)=true:=by rw[e1];exact zac g (zfk (by omega))
       rw[k.domL _ l' hl hl' g1,e1]at g;have:=zgt g;omega
      ·exact absurd ⟨L,_,q1,g⟩ hG
    ·rw[ih l (by omega) (hc.opt (.inl hl)) hN]at hr
     obtain⟨b,hb,rfl⟩:=zkb.1 hr;rw[(zdn _).r,zhb];exact k.revL l b hl hb
   ·obtain⟨l,hl,rfl⟩:=zkb.1 ha
    rw[hE.r];have hlt:=za7 (.inr hl);by_cases hN:IsNum l
    ·obtain⟨Q,a,rfl⟩:=hN.can (hc.opt (.inr hl))
     obtain⟨L,a',s',e1,e2,e3⟩:=zsd a s Q P;rw[e3]at hr;obtain⟨v,hv,rfl⟩:=zci _ _ _ hr;cases q:geC (nr v L) (sumC G (nr s P))with
     | false=>rfl
     | true =>
      have q1:geC (nr (v-s') L) G=true:=by
       rw[←zhb _ G (nr s P),e2,(zmf (v-s') s' L).l,show v-s'+s'=v from by omega,←e2];exact q
      rcases zo8 hG L (v-s')with ⟨l',hl',g⟩|g
      ·have g1:geC (nr a Q) l'=true:=by rw[e1];exact zac (zfk (by omega)) g
       rw[k.domR _ l' hl hl' g1,e1]at g;have:=zgt g;omega
      ·exact absurd ⟨L,_,g,q1⟩ hG
    ·rw[ih l (by omega) (hc.opt (.inr hl)) hN]at hr
     obtain⟨b,hb,rfl⟩:=zkc.1 hr;rw[(zdn _).l,zhb];exact k.revR l b hl hb
  refine(zsg (CanC.mk one fun x hx=>?_) hE.1 hE.2).symm;rcases hx with h|h
  ·obtain⟨l,_,rfl⟩:=zkc.1 h;exact(zcp _).1
  ·obtain⟨l,_,rfl⟩:=zkb.1 h;exact(zcp _).1
def FewC (c:Nat):Prop:=∀s,SubC c s→(∀A:List Nat,A.Nodup→(∀a∈A,hasL s a)→A.length≤24)/\∀A:List Nat,A.Nodup→(∀a∈A,hasR s a)→A.length≤24
theorem FewC.opt {c x:Nat}(h:FewC c)(ho:optC c x):FewC x:=fun y hy=>h y ((SubC.root.step ho).trans hy)
theorem zxz {A:List Nat}(hA:A.Nodup)(h:∀x∈A,∀y∈A,x=y):A.length≤24:=by
 match A,hA,h with
 | [],_,_=>simp
 | [_],_,_=>simp
 | a::b::l,hA,h =>
  have e:=h a (by simp) b (by simp);rw[List.nodup_cons]at hA;exact absurd (by rw[e];simp) hA.1
theorem yen (s:Int)(P:Nat):FewC (nr s P):=fun x hx=>by
 obtain⟨v,rfl⟩:=ycn hx;exact⟨fun A hA h=>zxz hA fun x hx y hy=>(znh v P).1 _ _ (h x hx) (h y hy),fun A hA h=>zxz hA fun x hx y hy=>(znh v P).2 _ _ (h x hx) (h y hy)⟩
theorem yaf {c x:Nat}(h:SubC c x):x=c∨∃y,optC c y/\SubC y x:=by
 induction h with
 | root=>exact .inl rfl
 | step _ ho ih =>
  rcases ih with rfl|⟨y,hy,hs⟩
  ·exact .inr ⟨_,ho,.root⟩
  ·exact .inr ⟨y,hy,hs.step ho⟩
theorem zfn (c:Nat):(zfx c).Nodup:=List.nodup_range.sublist List.filter_sublist
theorem zem (c:Nat):(zcz c).Nodup:=List.nodup_range.sublist List.filter_sublist
theorem ybx (s:Int)(P:Nat):∀(n G:Nat),G<n→CanC G→FewC G→FewC (canC (sumC G (nr s P))):=by
 intro n;induction n with
 | zero=>intro G h;omega
 | succ n ih =>
  intro G hn hc hf;by_cases hN:IsNum G
  ·obtain⟨Q,a,rfl⟩:=hN.can hc
   obtain⟨L,a',s',_,_,e3⟩:=zsd a s Q P;rw[e3];exact yen _ _
  ·rw[zth s P _ G (Nat.lt_succ_self _) hc hN]
   intro x hx;rcases yaf hx with rfl|⟨y,hy,hs⟩
   ·obtain⟨f1,f2⟩:=hf G .root
    constructor
    ·intro A hA h
     have h1:=hA.length_le_of_subset (l₂:=(zfx G).map fun l=>canC (sumC l (nr s P))) fun z hz=>by
      obtain⟨l,hl,e⟩:=zkc.1 (h z hz);exact List.mem_map.2 ⟨l,zaz.2 hl,e⟩
     rw[List.length_map]at h1;have h2:=f1 (zfx G) (zfn G) fun a ha=>zaz.1 ha
     omega
    ·intro A hA h
     have h1:=hA.length_le_of_subset (l₂:=(zcz G).map fun l=>canC (sumC l (nr s P))) fun z hz=>by
      obtain⟨l,hl,e⟩:=zkb.1 (h z hz);exact List.mem_map.2 ⟨l,zas.2 hl,e⟩
     rw[List.length_map]at h1;have h2:=f2 (zcz G) (zem G) fun a ha=>zas.1 ha
     omega
   ·rcases hy with h|h
    ·obtain⟨l,hl,rfl⟩:=zkc.1 h
     have hlt:=za7 (.inl hl);exact ih l (by omega) (hc.opt (.inl hl)) (hf.opt (.inl hl)) x hs
    ·obtain⟨l,hl,rfl⟩:=zkb.1 h
     have hlt:=za7 (.inr hl);exact ih l (by omega) (hc.opt (.inr hl)) (hf.opt (.inr hl)) x hs
theorem zep {P L:List Nat}{n:Nat}(hP:P.Nodup)(hL:L.Pairwise (· < ·))(hl:∀x∈L,x<n)(hn:n≤P.length):(za2 P L).Nodup:=by
 unfold za2;refine List.pairwise_map.2 (hL.imp_of_mem ?_);intro a b ha hb hab e;have la:=hl a ha;have lb:=hl b hb;rw[zfr (List.getElem?_eq_getElem (show a<P.length by omega)),zfr (List.getElem?_eq_getElem (show b<P.length by omega))]at e;have:=(List.getElem_inj hP).1 e;omega
theorem zsa {c:Nat}(h:zam (zak c)=true):FewC c:=by
 obtain⟨P,hA⟩:=zbf c;have hPl:=hA.book.len;unfold zam at h;rw[decide_eq_true_eq]at h;intro s hs;obtain⟨j,hj,e⟩:=List.getElem_of_mem ((hA.sub s).2 hs);have hj':j<(zak c).length:=by omega
 have ej:=List.getElem?_eq_getElem hj'
 have hcode:=hA.book.code j _ ej;have e':P.getD j 0=s:=zfr (by rw[List.getElem?_eq_getElem hj,e]);rw[e']at hcode;have hl:=h.2.2 _ (List.getElem_mem hj');constructor
 ·intro A hN hA'
  have:=hN.length_le_of_subset (l₂:=za2 P (zak c)[j].1) fun z hz=>by
   have h1:=hA' z hz;rw[hcode,zai]at h1;exact h1
  have e:(za2 P (zak c)[j].1).length=(zak c)[j].1.length:=by simp[za2]
  omega
 ·intro A hN hA'
  have:=hN.length_le_of_subset (l₂:=za2 P (zak c)[j].2) fun z hz=>by
   have h1:=hA' z hz;rw[hcode,zah]at h1;exact h1
  have e:(za2 P (zak c)[j].2).length=(zak c)[j].2.length:=by simp[za2]
  omega
theorem zs9 {c:Nat}(hl:(zak c).length≤120)(h:FewC c):zam (zak c)=true:=by
 obtain⟨P,hA⟩:=zbf c;have hPl:=hA.book.len;have hpos:=(zg5 (zbf c)).1;unfold zam;rw[decide_eq_true_eq];refine⟨hl,by omega,fun y hy=>?_⟩;obtain⟨j,hj,rfl⟩:=List.getElem_of_mem hy;have ej:=List.getElem?_eq_getElem hj
 obtain⟨o1,o2⟩:=hA.book.opts j _ ej;obtain⟨u1,u2⟩:=hA.book.up j _ ej;have hcode:=hA.book.code j _ ej;obtain⟨f1,f2⟩:=h (P.getD j 0) ((hA.sub _).1 (zch (show j<P.length by omega)));constructor
 ·have:=f1 (za2 P (zak c)[j].1) (zep hA.book.nodup u1 o1 (by omega)) (fun a ha=>by rw[hcode];exact(zai _ _ _).2 ha)
  simpa [za2] using this
 ·have:=f2 (za2 P (zak c)[j].2) (zep hA.book.nodup u2 o2 (by omega)) (fun a ha=>by rw[hcode];exact(zah _ _ _).2 ha)
  simpa [za2] using this
theorem zxs {c:Nat}(s:Int)(P:Nat)(hc:CanC c)(hf:zam (zak c)=true)(hs:(zak (sumC c (nr s P))).length≤120):zam (zak (canC (sumC c (nr s P))))=true:=by
 refine zs9 ?_ (ybx s P _ c (Nat.lt_succ_self _) hc (zsa hf))
 have hi:=zcp (sumC c (nr s P));have:=zn1 hi.1 hi.2.2 hi.2.1 (zbf (sumC c (nr s P)));omega
end Go.Proofs.YtbbbmjiloihajaaGreatDoor
