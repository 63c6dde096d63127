import Derived.Test.YtknniemfpkjnbaaGreatDoorZgBypLaw
/- What the claim of FnExactStopLineCard needs of: CanLaw GroupOne NumLaw CanQ MinLaw CanEx SumGe NumOrd NumMove NumVal. -/
namespace Go.Proofs.YtknniemfpkjnbaaGreatDoor
set_option linter.unusedVariables false
set_option linter.unusedSimpArgs false
open Go.RowKit
theorem zce (a:Nat):geC a a=true:=by
 induction a using Nat.strongRecOn with
 | _ a ih =>
  rw[ze1];constructor
  ·intro r hr
   cases h:geC a r with
   | false=>rfl
   | true =>
    have h1:=((ze1 a r).1 h).1 r hr;rw[ih r (zai (.inr hr))]at h1;cases h1
  ·intro l hl
   cases h:geC l a with
   | false=>rfl
   | true =>
    have h1:=((ze1 l a).1 h).2 l hl;rw[ih l (zai (.inl hl))]at h1;cases h1
theorem zer {a b r:Nat}(h:geC a b=true)(hr:hasR a r):geC b r=false:=((ze1 a b).1 h).1 r hr
theorem zg3 {a b l:Nat}(h:geC a b=true)(hl:hasL b l):geC l a=false:=((ze1 a b).1 h).2 l hl
theorem zcf {a b:Nat}(h1:∀r,hasR a r→geC b r=false)(h2:∀l,hasL b l→geC l a=false):geC a b=true:=(ze1 a b).2 ⟨h1,h2⟩
theorem zfx {a b:Nat}(h:geC a b=false):(∃r,hasR a r/\geC b r=true)∨∃l,hasL b l/\geC l a=true:=by
 refine Classical.byContradiction fun q=>?_
 have:geC a b=true:=zcf (fun r hr=>by
  cases e:geC b r with
  | false=>rfl
  | true=>exact absurd (.inl ⟨r,hr,e⟩) q) (fun l hl=>by
  cases e:geC l a with
  | false=>rfl
  | true=>exact absurd (.inr ⟨l,hl,e⟩) q)
 rw[h]at this;cases this
theorem ge_trans' (n:Nat):∀a b c,a+b+c<n→geC a b=true→geC b c=true→geC a c=true:=by
 induction n with
 | zero=>intro a b c h;omega
 | succ n ih =>
  intro a b c hn h1 h2;refine zcf (fun r hr=>?_) fun l hl=>?_
  ·cases e:geC c r with
   | false=>rfl
   | true =>
    have hlt:=zai (.inr hr);have h3:=ih b c r (by omega) h2 e;rw[zer h1 hr]at h3;cases h3
  ·cases e:geC l a with
   | false=>rfl
   | true =>
    have hlt:=zai (.inl hl);have h3:=ih l a b (by omega) e h1;rw[zg3 h2 hl]at h3;cases h3
theorem zac {a b c:Nat}(h1:geC a b=true)(h2:geC b c=true):geC a c=true:=ge_trans' _ a b c (Nat.lt_succ_self _) h1 h2
theorem zb1 {a b c:Nat}(h1:geC a b=true)(h2:geC a c=false):geC b c=false:=by
 cases e:geC b c with
 | false=>rfl
 | true=>rw[zac h1 e]at h2;cases h2
theorem zb2 {a b c:Nat}(h1:geC c b=true)(h2:geC a b=false):geC a c=false:=by
 cases e:geC a c with
 | false=>rfl
 | true=>rw[zac e h1]at h2;cases h2
theorem zbv {a l:Nat}(h:hasL a l):geC l a=false:=zg3 (zce a) h
theorem zbf {a r:Nat}(h:hasR a r):geC a r=false:=zer (zce a) h
structure CanC1 (a:Nat):Prop where
 domL:∀l l',hasL a l→hasL a l'→geC l' l=true→l'=l
 domR:∀r r',hasR a r→hasR a r'→geC r r'=true→r'=r
 revL:∀l r,hasL a l→hasR l r→geC a r=false
 revR:∀r l,hasR a r→hasL r l→geC l a=false
def CanC (a:Nat):Prop:=∀x,SubC a x→CanC1 x
theorem CanC.opt {a x:Nat}(h:CanC a)(ho:optC a x):CanC x:=fun y hy=>h y ((SubC.root.step ho).trans hy)
theorem CanC.mk {a:Nat}(h:CanC1 a)(ho:∀x,optC a x→CanC x):CanC a:=by
 intro x hx;have key:x=a∨∃y,optC a y/\SubC y x:=by
  induction hx with
  | root=>exact .inl rfl
  | step _ hop ih =>
   rcases ih with rfl|⟨y,hy,hs⟩
   ·exact .inr ⟨_,hop,.root⟩
   ·exact .inr ⟨y,hy,hs.step hop⟩
 rcases key with rfl|⟨y,hy,hs⟩
 ·exact h
 ·exact ho y hy x hs
theorem zs1 (a b:Nat)(ih:∀x y,x+y<a+b→CanC x→CanC y→geC x y=true→geC y x=true→x=y)(ca:CanC a)(cb:CanC b)(hab:geC a b=true)(hba:geC b a=true) :
  (∀l,hasL a l→hasL b l)/\∀r,hasR a r→hasR b r:=by
 have ka:=ca a .root;have kb:=cb b .root;constructor
 ·intro l hl
  rcases zfx (zg3 hba hl)with ⟨r,hr,e⟩|⟨l',hl',e⟩
  ·have:=zac hab e
   rw[ka.revL l r hl hr]at this;cases this
  ·rcases zfx (zg3 hab hl')with ⟨r,hr,e'⟩|⟨l2,hl2,e'⟩
   ·have:=zac hba e'
    rw[kb.revL l' r hl' hr]at this;cases this
   ·obtain rfl:=ka.domL l l2 hl hl2 (zac e' e)
    have h1:=zai (.inl hl);have h2:=zai (.inl hl');rw[ih l2 l' (by omega) (ca.opt (.inl hl)) (cb.opt (.inl hl')) e' e];exact hl'
 ·intro r hr
  rcases zfx (zer hab hr)with ⟨r',hr',e⟩|⟨l,hl,e⟩
  ·rcases zfx (zer hba hr')with ⟨r2,hr2,e'⟩|⟨l,hl,e'⟩
   ·obtain rfl:=ka.domR r r2 hr hr2 (zac e e')
    have h1:=zai (.inr hr);have h2:=zai (.inr hr');rw[ih r2 r' (by omega) (ca.opt (.inr hr)) (cb.opt (.inr hr')) e e'];exact hr'
   ·have:=zac e' hab
    rw[kb.revR r' l hr' hl]at this;cases this
  ·have:=zac e hba
   rw[ka.revR r l hr hl]at this;cases this
theorem can_one' (n:Nat):∀a b,a+b<n→CanC a→CanC b→geC a b=true→geC b a=true→a=b:=by
 induction n with
 | zero=>intro a b h;omega
 | succ n ih =>
  intro a b hn ca cb hab hba;obtain⟨p1,p2⟩:=zs1 a b (fun x y h=>ih x y (by omega)) ca cb hab hba;obtain⟨q1,q2⟩:=zs1 b a (fun x y h=>ih x y (by omega)) cb ca hba hab;exact zmu (fun i=>⟨p1 i,q1 i⟩) fun i=>⟨p2 i,q2 i⟩
theorem zpe {a b:Nat}(ca:CanC a)(cb:CanC b)(hab:geC a b=true)(hba:geC b a=true):a=b:=can_one' _ a b (Nat.lt_succ_self _) ca cb hab hba
open Classical in
noncomputable def canC (f:Nat):Nat:=if h:∃c,CanC c/\geC c f=true/\geC f c=true then Classical.choose h else 0
theorem zzs {f c:Nat}(h:CanC c)(h1:geC c f=true)(h2:geC f c=true):c=canC f:=by
 have he:∃c,CanC c/\geC c f=true/\geC f c=true:=⟨c,h,h1,h2⟩;unfold canC;rw[dif_pos he];obtain⟨k0,k1,k2⟩:=Classical.choose_spec he;exact zpe h k0 (zac h1 k2) (zac k1 h2)
theorem zn7 {f:Nat}{KL KR SL SR:List Nat}(aL:∀i∈KL,geC i f=false)(aR:∀i∈KR,geC f i=false)
  (sL:∀i∈SL,(∃j∈KL,geC j i=true)∨∃k,hasR i k/\geC f k=true/\∀l,hasL k l→l∈SL)
  (sR:∀i∈SR,(∃j∈KR,geC i j=true)∨∃k,hasL i k/\geC k f=true/\∀r,hasR k r→r∈SR)
  (oL:∀l,hasL f l→∃i∈SL,geC i l=true) (oR:∀r,hasR f r→∃i∈SR,geC r i=true) :
  geC (mkC KL KR) f=true/\geC f (mkC KL KR)=true:=by
 have cL:∀n i,i<n→i∈SL→geC i (mkC KL KR)=false:=by
  intro n;induction n with
  | zero=>intro i h;omega
  | succ n ih =>
   intro i hn hi;rcases sL i hi with ⟨j,hj,e⟩|⟨k,hk,e,hs⟩
   ·exact zb1 e (zbv ((zax KL KR j).2 hj))
   ·have hlt:=zai (.inr hk)
    have hg:geC (mkC KL KR) k=true:=zcf (fun r hr=>zb1 e (aR r ((zav KL KR r).1 hr))) fun l hl=>ih l (by have:=zai (.inl hl);omega) (hs l hl)
    exact zb2 hg (zbf hk)
 have cR:∀n i,i<n→i∈SR→geC (mkC KL KR) i=false:=by
  intro n;induction n with
  | zero=>intro i h;omega
  | succ n ih =>
   intro i hn hi;rcases sR i hi with ⟨j,hj,e⟩|⟨k,hk,e,hs⟩
   ·exact zb2 e (zbf ((zav KL KR j).2 hj))
   ·have hlt:=zai (.inl hk)
    have hg:geC k (mkC KL KR)=true:=zcf (fun r hr=>ih r (by have:=zai (.inr hr);omega) (hs r hr)) fun l hl=>zb2 e (aL l ((zax KL KR l).1 hl))
    exact zb1 hg (zbv hk)
 constructor
 ·refine zcf (fun r hr=>aR r ((zav KL KR r).1 hr)) fun l hl=>?_
  obtain⟨i,hi,e⟩:=oL l hl;exact zb1 e (cL _ i (Nat.lt_succ_self _) hi)
 ·refine zcf (fun r hr=>?_) fun l hl=>aL l ((zax KL KR l).1 hl)
  obtain⟨i,hi,e⟩:=oR r hr;exact zb2 e (cR _ i (Nat.lt_succ_self _) hi)
theorem zsg {f:Nat}{KL KR:List Nat}(e1:geC (mkC KL KR) f=true)(e2:geC f (mkC KL KR)=true)(cL:∀i∈KL,CanC i)(cR:∀i∈KR,CanC i)
  (dL:∀i∈KL,∀j∈KL,geC j i=true→j=i) (dR:∀i∈KR,∀j∈KR,geC i j=true→j=i)
  (rL:∀i∈KL,∀r,hasR i r→geC f r=false) (rR:∀i∈KR,∀l,hasL i l→geC l f=false):CanC (mkC KL KR):=by
 refine CanC.mk ⟨fun l l' h h'=>dL l ((zax KL KR l).1 h) l' ((zax KL KR l').1 h'),fun r r' h h'=>dR r ((zav KL KR r).1 h) r' ((zav KL KR r').1 h'),fun l r h h'=>zb1 e2 (rL l ((zax KL KR l).1 h) r h'),fun r l h h'=>zb2 e1 (rR r ((zav KL KR r).1 h) l h')⟩ ?_
 rintro x (h|h)
 ·exact cL x ((zax KL KR x).1 h)
 ·exact cR x ((zav KL KR x).1 h)
theorem zg1 {L P:List Nat}{x:Nat}:x∈za8 L P↔∃i,L[i]?=some x/\i ∉ P:=by
 unfold za8;rw[List.mem_map];constructor
 ·rintro⟨⟨y,i⟩,h,rfl⟩
  rw[List.mem_filter]at h;exact⟨i,List.mem_zipIdx_iff_getElem?.1 h.1,by simpa using h.2⟩
 ·rintro⟨i,h,hP⟩
  exact⟨(x,i),List.mem_filter.2 ⟨List.mem_zipIdx_iff_getElem?.2 h,by simpa using hP⟩,rfl⟩
theorem zov {g:Nat→Nat→Bool}{L:List Nat}{k:Nat}:k∈domB g L↔k<L.length/\∃j,j<L.length/\domP g L k j=true:=by
 unfold domB;rw[List.mem_filter,List.mem_range,List.any_eq_true];simp only[List.mem_range]
theorem zgr {g:Nat→Nat→Bool}{L:List Nat}{k j:Nat}:domP g L k j=true↔j≠k/\g (L.getD k 0) (L.getD j 0)=true/\(g (L.getD j 0) (L.getD k 0)=false∨j<k):=by
 unfold domP;rw[Bool.and_eq_true,Bool.and_eq_true,Bool.or_eq_true,decide_eq_true_eq,decide_eq_true_eq,Bool.not_eq_true']
theorem zt7 {g:Nat→Nat→Bool}(ht:∀a b c,g a b=true→g b c=true→g a c=true){L:List Nat}{k j i:Nat}(h:domP g L k j=true)(h':domP g L j i=true):domP g L k i=true:=by
 rw[zgr]at h h' ⊢;obtain⟨n1,g1,o1⟩:=h;obtain⟨n2,g2,o2⟩:=h';have g3:=ht _ _ _ g1 g2;have key:g (L.getD i 0) (L.getD k 0)=false∨i<k:=by
  cases e:g (L.getD i 0) (L.getD k 0)with
  | false=>exact .inl rfl
  | true =>
   have e1:=ht _ _ _ g2 e;have e2:=ht _ _ _ e g1;rcases o1 with o|o
   ·rw[o]at e1;cases e1
   ·rcases o2 with p|p
    ·rw[p]at e2;cases e2
    ·exact .inr (by omega)
 refine⟨fun e=>?_,g3,key⟩;subst e;rcases o1 with o|o
 ·rw[o]at g2;cases g2
 ·rcases o2 with p|p
  ·rw[p]at g1;cases g1
  ·omega
theorem zv9 {g:Nat→Nat→Bool}(ht:∀a b c,g a b=true→g b c=true→g a c=true)(L:List Nat):∀n k,k<L.length→((List.range L.length).filter (domP g L k)).length<n →
  ∃j,j<L.length/\j ∉ domB g L/\(j=k∨g (L.getD k 0) (L.getD j 0)=true):=by
 intro n;induction n with
 | zero=>intro k _ h;omega
 | succ n ih =>
  intro k hk hn;by_cases hd:k∈domB g L
  ·obtain⟨_,j,hj,hp⟩:=zov.1 hd
   have hlt:((List.range L.length).filter (domP g L j)).length+1≤((List.range L.length).filter (domP g L k)).length:=by
    have hnd:(j::(List.range L.length).filter (domP g L j)).Nodup:=by
     refine List.nodup_cons.2 ⟨fun h=>?_,List.nodup_range.filter _⟩;exact(zgr.1 (List.mem_filter.1 h).2).1 rfl
    have:=hnd.length_le_of_subset (l₂:=(List.range L.length).filter (domP g L k)) (fun x hx=>by
     rcases List.mem_cons.1 hx with rfl|hx
     ·exact List.mem_filter.2 ⟨List.mem_range.2 hj,hp⟩
     ·obtain⟨h1,h2⟩:=List.mem_filter.1 hx
      exact List.mem_filter.2 ⟨h1,zt7 ht hp h2⟩)
    simpa using this
   obtain⟨i,hi,hni,h⟩:=ih j hj (by omega);refine⟨i,hi,hni,.inr ?_⟩;have g1:=(zgr.1 hp).2.1;rcases h with rfl|h
   ·exact g1
   ·exact ht _ _ _ g1 h
  ·exact⟨k,hk,hd,.inl rfl⟩
theorem zh7 {L:List Nat}{i x:Nat}(h:L[i]?=some x):L.getD i 0=x:=by rw[List.getD_eq_getElem?_getD,h];rfl
theorem zd4 {g:Nat→Nat→Bool}(ht:∀a b c,g a b=true→g b c=true→g a c=true){L:List Nat}{x:Nat}(hx:x∈L):∃y∈za8 L (domB g L),y=x∨g x y=true:=by
 obtain⟨k,hk,rfl⟩:=List.getElem_of_mem hx;obtain⟨j,hj,hn,h⟩:=zv9 ht L _ k hk (Nat.lt_succ_self _);have e1:=zh7 (List.getElem?_eq_getElem hj);have e2:=zh7 (List.getElem?_eq_getElem hk);refine⟨L[j],zg1.2 ⟨j,List.getElem?_eq_getElem hj,hn⟩,?_⟩;rcases h with rfl|h
 ·exact .inl rfl
 ·rw[e1,e2]at h;exact .inr h
theorem zds {g:Nat→Nat→Bool}{L:List Nat}{x y:Nat}(hx:x∈za8 L (domB g L))(hy:y∈za8 L (domB g L))(h:g x y=true):x=y:=by
 obtain⟨k,hk,nk⟩:=zg1.1 hx;obtain⟨j,hj,nj⟩:=zg1.1 hy;have lk:=(List.getElem?_eq_some_iff.1 hk).1;have lj:=(List.getElem?_eq_some_iff.1 hj).1;by_cases e:j=k
 ·subst e
  rw[hk]at hj;exact Option.some.inj hj
 ·refine absurd (zov.2 ⟨lk,j,lj,?_⟩) nk
  rw[zgr,zh7 hk,zh7 hj];refine⟨e,h,?_⟩;cases hb:g y x with
  | false=>exact .inl rfl
  | true =>
   refine .inr (Classical.byContradiction fun q=>nj (zov.2 ⟨lj,k,lk,?_⟩));rw[zgr,zh7 hk,zh7 hj];exact⟨fun e'=>e e'.symm,hb,.inr (by omega)⟩
def zvs:Nat:=mkC [] []
theorem yad (i:Nat):¬hasL zvs i:=fun h=>by
 have:=(zax [] [] i).1 h;simp at this
theorem yac (i:Nat):¬hasR zvs i:=fun h=>by
 have:=(zav [] [] i).1 h;simp at this
def posC:Nat→Nat
 | 0=>zvs
 | n+1=>mkC [posC n] []
def zsp:Nat→Nat
 | 0=>zvs
 | n+1=>mkC [] [zsp n]
def intC (t:Int):Nat:=if 0≤t then posC t.toNat else zsp (-t).toNat
theorem zmi {t:Int}(h:0<t):intC t=mkC [intC (t-1)] []:=by
 unfold intC;rw[if_pos (by omega),if_pos (by omega)];obtain⟨n,hn⟩:∃n:Nat,t.toNat=n+1:=⟨t.toNat-1,by omega⟩;rw[hn,show(t-1).toNat=n from by omega];rfl
theorem zmk {t:Int}(h:t<0):intC t=mkC [] [intC (t+1)]:=by
 unfold intC;rw[if_neg (by omega)];obtain⟨n,hn⟩:∃n:Nat,(-t).toNat=n+1:=⟨(-t).toNat-1,by omega⟩;rw[hn];by_cases h0:t=-1
 ·subst h0
  have:n=0:=by omega
  subst this
  rfl
 ·rw[if_neg (by omega),show(-(t+1)).toNat=n from by omega]
  rfl
def numF:Nat→Int→Nat→Nat
 | 0,t,_=>intC t
 | k+1,t,p=>if p=0 then intC t else mkC [numF k (redT (t-1) p).1 (redT (t-1) p).2] [numF k (redT (t+1) p).1 (redT (t+1) p).2]
def numC (t:Int)(p:Nat):Nat:=numF p t p
def nr (t:Int)(p:Nat):Nat:=numC (redT t p).1 (redT t p).2
theorem zuh:∀(n k:Nat) (t:Int) (p:Nat),k<n→Red t p→p≤k→numF k t p=numF p t p:=by
 intro n;induction n with
 | zero=>intro k t p h;omega
 | succ n ih =>
  intro k t p hn hr hp;cases k with
  | zero =>
   have:p=0:=by omega
   subst this;rfl
  | succ k =>
   cases p with
   | zero=>rfl
   | succ q =>
    have ho:t%2≠0:=hr.resolve_left (by omega);have h1:=zid (t:=t-1) (p:=q+1) (by omega) (by omega);have h2:=zid (t:=t+1) (p:=q+1) (by omega) (by omega);rw[numF,if_neg (by omega),numF,if_neg (by omega)];rw[ih k _ _ (by omega) (zd7 _ _) (by omega),ih k _ _ (by omega) (zd7 _ _) (by omega)];by_cases hk:q<n
    ·rw[ih q _ _ hk (zd7 _ _) (by omega),ih q _ _ hk (zd7 _ _) (by omega)]
    ·omega
theorem zhu (t:Int):numC t 0=intC t:=rfl
theorem zui {t:Int}{p:Nat}(hp:0<p)(h:t%2≠0):numC t p=mkC [nr (t-1) p] [nr (t+1) p]:=by
 obtain⟨q,rfl⟩:∃q,p=q+1:=⟨p-1,by omega⟩;have h1:=zid (t:=t-1) (p:=q+1) (by omega) (by omega);have h2:=zid (t:=t+1) (p:=q+1) (by omega) (by omega);unfold numC nr numC;rw[numF,if_neg (by omega),zuh (q+1) q _ _ (by omega) (zd7 _ _) (by omega),zuh (q+1) q _ _ (by omega) (zd7 _ _) (by omega)]
theorem ya2 {t:Int}{p:Nat}(h:Red t p):nr t p=numC t p:=by unfold nr;rw[zcq h]
theorem zf3 (t:Int):nr t 0=intC t:=rfl
theorem zcr {x:Int}{q:Nat}(h:x%2=0):nr x (q+1)=nr (x/2) q:=by unfold nr;rw[zba h]
theorem zim {x:Int}{q:Nat}(h:x%2≠0):nr x (q+1)=mkC [nr ((x-1)/2) q] [nr ((x+1)/2) q]:=by
 rw[ya2 (.inr h),zui (by omega) h,zcr (by omega),zcr (by omega)]
theorem zmm (n:Nat):intC (n:Int)=posC n:=by unfold intC;rw[if_pos (by omega)];rfl
theorem ziv (n:Nat):intC (-(n:Int))=zsp n:=by
 unfold intC;by_cases h:n=0
 ·subst h;rfl
 ·rw[if_neg (by omega),show(- -(n:Int)).toNat=n from by omega]
def IsCan (c a:Nat):Prop:=CanC c/\geC c a=true/\geC a c=true
theorem IsCan.eq {c a:Nat}(h:IsCan c a):c=canC a:=zzs h.1 h.2.1 h.2.2
theorem IsCan.self {c a:Nat}(h:IsCan c a):IsCan c c:=⟨h.1,zce c,zce c⟩
theorem IsCan.step {c a b:Nat}(h:IsCan c a)(h1:geC a b=true)(h2:geC b a=true):IsCan c b:=⟨h.1,zac h.2.1 h1,zac h2 h.2.2⟩
structure RedL (f:Nat) (KL:List Nat):Prop where
 a:∀i∈KL,geC i f=false
 s:∃SL:List Nat,(∀i∈SL,(∃j∈KL,geC j i=true)∨∃k,hasR i k/\geC f k=true/\∀l,hasL k l→l∈SL)/\∀l,hasL f l→∃i∈SL,geC i l=true
 c:∀i∈KL,CanC i
 d:∀i∈KL,∀j∈KL,geC j i=true→j=i
 r:∀i∈KL,∀r,hasR i r→geC f r=false
structure RedR (f:Nat) (KR:List Nat):Prop where
 a:∀i∈KR,geC f i=false
 s:∃SR:List Nat,(∀i∈SR,(∃j∈KR,geC i j=true)∨∃k,hasL i k/\geC k f=true/\∀l,hasR k l→l∈SR)/\∀l,hasR f l→∃i∈SR,geC l i=true
 c:∀i∈KR,CanC i
 d:∀i∈KR,∀j∈KR,geC i j=true→j=i
 r:∀i∈KR,∀r,hasL i r→geC r f=false
theorem zu1 {f:Nat}{KL KR:List Nat}(hL:RedL f KL)(hR:RedR f KR):IsCan (mkC KL KR) f:=by
 obtain⟨SL,s1,s2⟩:=hL.s;obtain⟨SR,t1,t2⟩:=hR.s;obtain⟨e1,e2⟩:=zn7 hL.a hR.a s1 t1 s2 t2;exact⟨zsg e1 e2 hL.c hR.c hL.d hR.d hL.r hR.r,e1,e2⟩
structure QL (V:List PL) (C:List Nat) (cf:Nat) (S:Nat→Bool) (Q Kp:List Nat):Prop where
 snd:∀i,(S i=true∨i∈Q)→i<V.length/\CanC (C.getD i 0)/\geC (C.getD i 0) cf=false
 kp:∀i∈Kp,S i=true/\∀r∈(za2 V i).2,geC cf (C.getD r 0)=false
 seen:∀i,S i=true→i∈Kp∨∃k∈(za2 V i).2,geC cf (C.getD k 0)=true/\∀l∈(za2 V k).1,S l=true∨l∈Q
 opt:∀l,hasL cf l→∃i,(S i=true∨i∈Q)/\geC (C.getD i 0) l=true
 nodup:Kp.Nodup
structure QR (V:List PL) (C:List Nat) (cf:Nat) (S:Nat→Bool) (Q Kp:List Nat):Prop where
 snd:∀i,(S i=true∨i∈Q)→i<V.length/\CanC (C.getD i 0)/\geC cf (C.getD i 0)=false
 kp:∀i∈Kp,S i=true/\∀r∈(za2 V i).1,geC (C.getD r 0) cf=false
 seen:∀i,S i=true→i∈Kp∨∃k∈(za2 V i).1,geC (C.getD k 0) cf=true/\∀l∈(za2 V k).2,S l=true∨l∈Q
 opt:∀l,hasR cf l→∃i,(S i=true∨i∈Q)/\geC l (C.getD i 0)=true
 nodup:Kp.Nodup
def addS (S:Nat→Bool)(i:Nat):Nat→Bool:=fun k=>S k || decide (k=i)
theorem zap {S:Nat→Bool}{i k:Nat}:addS S i k=true↔S k=true∨k=i:=by
 unfold addS;rw[Bool.or_eq_true,decide_eq_true_eq]
theorem zau {V:List PL}{C:List Nat}(B:BookC V C){i:Nat}(hi:i<V.length):(∀l,hasL (C.getD i 0) l↔∃x∈(za2 V i).1,C.getD x 0=l)/\∀l,hasR (C.getD i 0) l↔∃x∈(za2 V i).2,C.getD x 0=l:=by
 have e:=B.code i _ (za4 hi);exact⟨fun l=>by rw[e,zax,za7],fun l=>by rw[e,zav,za7]⟩
section
variable {V:List PL}{C:List Nat}{f:Nat}{S:Nat→Bool}{Q Kp:List Nat}{i k:Nat}
theorem QL.skip {cf:Nat}(h:QL V C cf S (Q ++ [i]) Kp)(hi:S i=true):QL V C cf S Q Kp:=by
 have key:∀x,S x=true∨x∈Q ++ [i]→S x=true∨x∈Q:=fun x hx=>hx.elim .inl (fun hx=>by
  rcases List.mem_append.1 hx with hx|hx
  ·exact .inr hx
  ·rw[List.mem_singleton.1 hx];exact .inl hi)
 refine⟨fun x hx=>h.snd x (hx.imp_right (List.mem_append_left _)),h.kp,fun x hx=>(h.seen x hx).imp_right (fun⟨k,h1,h2,h3⟩=>⟨k,h1,h2,fun l hl=>key l (h3 l hl)⟩),fun l hl=>?_,h.nodup⟩;obtain⟨x,hx,e⟩:=h.opt l hl;exact⟨x,key x hx,e⟩
theorem QL.keep {cf:Nat}(h:QL V C cf S (Q ++ [i]) Kp)(hi:¬S i=true)(hn:∀r∈(za2 V i).2,geC cf (C.getD r 0)=false):QL V C cf (addS S i) Q (Kp ++ [i]):=by
 have key:∀x,S x=true∨x∈Q ++ [i]→addS S i x=true∨x∈Q:=fun x hx=>hx.elim (fun hx=>.inl (zap.2 (.inl hx))) (fun hx=>by
  rcases List.mem_append.1 hx with hx|hx
  ·exact .inr hx
  ·exact .inl (zap.2 (.inr (List.mem_singleton.1 hx))))
 refine⟨fun x hx=>h.snd x ?_,fun x hx=>?_,fun x hx=>?_,fun l hl=>?_,?_⟩
 ·rcases hx with hx|hx
  ·rcases zap.1 hx with hx|rfl
   ·exact .inl hx
   ·exact .inr (by simp)
  ·exact .inr (List.mem_append_left _ hx)
 ·rcases List.mem_append.1 hx with hx|hx
  ·exact⟨zap.2 (.inl (h.kp x hx).1),(h.kp x hx).2⟩
  ·rw[List.mem_singleton.1 hx]
   exact⟨zap.2 (.inr rfl),hn⟩
 ·rcases zap.1 hx with hx|rfl
  ·rcases h.seen x hx with hx|⟨k,h1,h2,h3⟩
   ·exact .inl (List.mem_append_left _ hx)
   ·exact .inr ⟨k,h1,h2,fun l hl=>key l (h3 l hl)⟩
  ·exact .inl (by simp)
 ·obtain⟨x,hx,e⟩:=h.opt l hl
  exact⟨x,key x hx,e⟩
 ·refine List.nodup_append.2 ⟨h.nodup,by simp,fun a ha b hb e=>?_⟩
  rw[List.mem_singleton.1 hb]at e;subst e;exact hi (h.kp a ha).1
theorem QL.push (B:BookC V C){cf:Nat}(h:QL V C cf S (Q ++ [i]) Kp)(hk:k∈(za2 V i).2)(hg:geC cf (C.getD k 0)=true):QL V C cf (addS S i) (Q++(za2 V k).1) Kp:=by
 obtain⟨hil,hic,_⟩:=h.snd i (.inr (by simp));have hki:=(B.opts i _ (za4 hil)).2 k hk;have hkl:k<V.length:=by omega
 have hkc:CanC (C.getD k 0):=hic.opt (.inr (((zau B hil).2 _).2 ⟨k,hk,rfl⟩));have key:∀x,S x=true∨x∈Q ++ [i]→addS S i x=true∨x∈Q++(za2 V k).1:=fun x hx=>hx.elim (fun hx=>.inl (zap.2 (.inl hx))) (fun hx=>by
  rcases List.mem_append.1 hx with hx|hx
  ·exact .inr (List.mem_append_left _ hx)
  ·exact .inl (zap.2 (.inr (List.mem_singleton.1 hx))))
 refine⟨fun x hx=>?_,fun x hx=>⟨zap.2 (.inl (h.kp x hx).1),(h.kp x hx).2⟩,fun x hx=>?_,fun l hl=>?_,h.nodup⟩
 ·have old:∀x,S x=true∨x∈Q ++ [i]→x<V.length/\CanC (C.getD x 0)/\geC (C.getD x 0) cf=false:=h.snd
  rcases hx with hx|hx
  ·rcases zap.1 hx with hx|rfl
   ·exact old x (.inl hx)
   ·exact old x (.inr (by simp))
  ·rcases List.mem_append.1 hx with hx|hx
   ·exact old x (.inr (List.mem_append_left _ hx))
   ·have hxk:=(B.opts k _ (za4 hkl)).1 x hx
    have hL:hasL (C.getD k 0) (C.getD x 0):=((zau B hkl).1 _).2 ⟨x,hx,rfl⟩;exact⟨by omega,hkc.opt (.inl hL),zb2 hg (zbv hL)⟩
 ·rcases zap.1 hx with hx|rfl
  ·exact(h.seen x hx).imp_right (fun⟨k',h1,h2,h3⟩=>⟨k',h1,h2,fun l hl=>key l (h3 l hl)⟩)
  ·exact .inr ⟨k,hk,hg,fun l hl=>.inr (List.mem_append_right _ hl)⟩
 ·obtain⟨x,hx,e⟩:=h.opt l hl
  exact⟨x,key x hx,e⟩
theorem QL.done (B:BookC V C){cf:Nat}(h:QL V C cf S [] Kp):RedL cf (za3 C (za8 Kp (domB (gL C) Kp))):=by
 have ht:∀a b c,gL C a b=true→gL C b c=true→gL C a c=true:=fun a b c h1 h2=>zac h2 h1
 have hsub:∀x∈za8 Kp (domB (gL C) Kp),x∈Kp:=fun x hx=>zbi hx
 have hs:∀x∈Kp,x<V.length/\CanC (C.getD x 0)/\geC (C.getD x 0) cf=false:=fun x hx=>h.snd x (.inl (h.kp x hx).1)
 refine⟨fun c hc=>?_,⟨((List.range V.length).filter S).map (fun x=>C.getD x 0),fun c hc=>?_,fun l hl=>?_⟩,fun c hc=>?_,fun c hc c' hc' e=>?_,fun c hc r hr=>?_⟩
 ·obtain⟨x,hx,rfl⟩:=za7.1 hc
  exact(hs x (hsub x hx)).2.2
 ·obtain⟨x,hx,rfl⟩:=List.mem_map.1 hc
  have hSx:=(List.mem_filter.1 hx).2;rcases h.seen x hSx with hk|⟨k,h1,h2,h3⟩
  ·obtain⟨y,hy,hyx⟩:=zd4 ht hk
   refine .inl ⟨C.getD y 0,za7.2 ⟨y,hy,rfl⟩,?_⟩;rcases hyx with rfl|e
   ·exact zce _
   ·exact e
  ·have hxl:=(h.snd x (.inl hSx)).1
   have hkx:=(B.opts x _ (za4 hxl)).2 k h1;refine .inr ⟨C.getD k 0,((zau B hxl).2 _).2 ⟨k,h1,rfl⟩,h2,fun l hl=>?_⟩;obtain⟨z,hz,rfl⟩:=((zau B (show k<V.length by omega)).1 l).1 hl;have hzS:=(h3 z hz).resolve_right (by simp);exact List.mem_map.2 ⟨z,List.mem_filter.2 ⟨List.mem_range.2 (h.snd z (.inl hzS)).1,hzS⟩,rfl⟩
 ·obtain⟨x,hx,e⟩:=h.opt l hl
  have hxS:=hx.resolve_right (by simp);exact⟨_,List.mem_map.2 ⟨x,List.mem_filter.2 ⟨List.mem_range.2 (h.snd x (.inl hxS)).1,hxS⟩,rfl⟩,e⟩
 ·obtain⟨x,hx,rfl⟩:=za7.1 hc
  exact(hs x (hsub x hx)).2.1
 ·obtain⟨x,hx,rfl⟩:=za7.1 hc
  obtain⟨y,hy,rfl⟩:=za7.1 hc';rw[zds hx hy e]
 ·obtain⟨x,hx,rfl⟩:=za7.1 hc
  obtain⟨z,hz,rfl⟩:=((zau B (hs x (hsub x hx)).1).2 r).1 hr;exact(h.kp x (hsub x hx)).2 z hz
theorem QR.skip {cf:Nat}(h:QR V C cf S (Q ++ [i]) Kp)(hi:S i=true):QR V C cf S Q Kp:=by
 have key:∀x,S x=true∨x∈Q ++ [i]→S x=true∨x∈Q:=fun x hx=>hx.elim .inl (fun hx=>by
  rcases List.mem_append.1 hx with hx|hx
  ·exact .inr hx
  ·rw[List.mem_singleton.1 hx];exact .inl hi)
 refine⟨fun x hx=>h.snd x (hx.imp_right (List.mem_append_left _)),h.kp,fun x hx=>(h.seen x hx).imp_right (fun⟨k,h1,h2,h3⟩=>⟨k,h1,h2,fun l hl=>key l (h3 l hl)⟩),fun l hl=>?_,h.nodup⟩;obtain⟨x,hx,e⟩:=h.opt l hl;exact⟨x,key x hx,e⟩
theorem QR.keep {cf:Nat}(h:QR V C cf S (Q ++ [i]) Kp)(hi:¬S i=true)(hn:∀r∈(za2 V i).1,geC (C.getD r 0) cf=false):QR V C cf (addS S i) Q (Kp ++ [i]):=by
 have key:∀x,S x=true∨x∈Q ++ [i]→addS S i x=true∨x∈Q:=fun x hx=>hx.elim (fun hx=>.inl (zap.2 (.inl hx))) (fun hx=>by
  rcases List.mem_append.1 hx with hx|hx
  ·exact .inr hx
  ·exact .inl (zap.2 (.inr (List.mem_singleton.1 hx))))
 refine⟨fun x hx=>h.snd x ?_,fun x hx=>?_,fun x hx=>?_,fun l hl=>?_,?_⟩
 ·rcases hx with hx|hx
  ·rcases zap.1 hx with hx|rfl
   ·exact .inl hx
   ·exact .inr (by simp)
  ·exact .inr (List.mem_append_left _ hx)
 ·rcases List.mem_append.1 hx with hx|hx
  ·exact⟨zap.2 (.inl (h.kp x hx).1),(h.kp x hx).2⟩
  ·rw[List.mem_singleton.1 hx]
   exact⟨zap.2 (.inr rfl),hn⟩
 ·rcases zap.1 hx with hx|rfl
  ·rcases h.seen x hx with hx|⟨k,h1,h2,h3⟩
   ·exact .inl (List.mem_append_left _ hx)
   ·exact .inr ⟨k,h1,h2,fun l hl=>key l (h3 l hl)⟩
  ·exact .inl (by simp)
 ·obtain⟨x,hx,e⟩:=h.opt l hl
  exact⟨x,key x hx,e⟩
 ·refine List.nodup_append.2 ⟨h.nodup,by simp,fun a ha b hb e=>?_⟩
  rw[List.mem_singleton.1 hb]at e;subst e;exact hi (h.kp a ha).1
theorem QR.push (B:BookC V C){cf:Nat}(h:QR V C cf S (Q ++ [i]) Kp)(hk:k∈(za2 V i).1)(hg:geC (C.getD k 0) cf=true):QR V C cf (addS S i) (Q++(za2 V k).2) Kp:=by
 obtain⟨hil,hic,_⟩:=h.snd i (.inr (by simp));have hki:=(B.opts i _ (za4 hil)).1 k hk;have hkl:k<V.length:=by omega
 have hkc:CanC (C.getD k 0):=hic.opt (.inl (((zau B hil).1 _).2 ⟨k,hk,rfl⟩));have key:∀x,S x=true∨x∈Q ++ [i]→addS S i x=true∨x∈Q++(za2 V k).2:=fun x hx=>hx.elim (fun hx=>.inl (zap.2 (.inl hx))) (fun hx=>by
  rcases List.mem_append.1 hx with hx|hx
  ·exact .inr (List.mem_append_left _ hx)
  ·exact .inl (zap.2 (.inr (List.mem_singleton.1 hx))))
 refine⟨fun x hx=>?_,fun x hx=>⟨zap.2 (.inl (h.kp x hx).1),(h.kp x hx).2⟩,fun x hx=>?_,fun l hl=>?_,h.nodup⟩
 ·have old:∀x,S x=true∨x∈Q ++ [i]→x<V.length/\CanC (C.getD x 0)/\geC cf (C.getD x 0)=false:=h.snd
  rcases hx with hx|hx
  ·rcases zap.1 hx with hx|rfl
   ·exact old x (.inl hx)
   ·exact old x (.inr (by simp))
  ·rcases List.mem_append.1 hx with hx|hx
   ·exact old x (.inr (List.mem_append_left _ hx))
   ·have hxk:=(B.opts k _ (za4 hkl)).2 x hx
    have hL:hasR (C.getD k 0) (C.getD x 0):=((zau B hkl).2 _).2 ⟨x,hx,rfl⟩;exact⟨by omega,hkc.opt (.inr hL),zb1 hg (zbf hL)⟩
 ·rcases zap.1 hx with hx|rfl
  ·exact(h.seen x hx).imp_right (fun⟨k',h1,h2,h3⟩=>⟨k',h1,h2,fun l hl=>key l (h3 l hl)⟩)
  ·exact .inr ⟨k,hk,hg,fun l hl=>.inr (List.mem_append_right _ hl)⟩
 ·obtain⟨x,hx,e⟩:=h.opt l hl
  exact⟨x,key x hx,e⟩
theorem QR.done (B:BookC V C){cf:Nat}(h:QR V C cf S [] Kp):RedR cf (za3 C (za8 Kp (domB (gR C) Kp))):=by
 have ht:∀a b c,gR C a b=true→gR C b c=true→gR C a c=true:=fun a b c h1 h2=>zac h1 h2
 have hsub:∀x∈za8 Kp (domB (gR C) Kp),x∈Kp:=fun x hx=>zbi hx
 have hs:∀x∈Kp,x<V.length/\CanC (C.getD x 0)/\geC cf (C.getD x 0)=false:=fun x hx=>h.snd x (.inl (h.kp x hx).1)
 refine⟨fun c hc=>?_,⟨((List.range V.length).filter S).map (fun x=>C.getD x 0),fun c hc=>?_,fun l hl=>?_⟩,fun c hc=>?_,fun c hc c' hc' e=>?_,fun c hc r hr=>?_⟩
 ·obtain⟨x,hx,rfl⟩:=za7.1 hc
  exact(hs x (hsub x hx)).2.2
 ·obtain⟨x,hx,rfl⟩:=List.mem_map.1 hc
  have hSx:=(List.mem_filter.1 hx).2;rcases h.seen x hSx with hk|⟨k,h1,h2,h3⟩
  ·obtain⟨y,hy,hyx⟩:=zd4 ht hk
   refine .inl ⟨C.getD y 0,za7.2 ⟨y,hy,rfl⟩,?_⟩;rcases hyx with rfl|e
   ·exact zce _
   ·exact e
  ·have hxl:=(h.snd x (.inl hSx)).1
   have hkx:=(B.opts x _ (za4 hxl)).1 k h1;refine .inr ⟨C.getD k 0,((zau B hxl).1 _).2 ⟨k,h1,rfl⟩,h2,fun l hl=>?_⟩;obtain⟨z,hz,rfl⟩:=((zau B (show k<V.length by omega)).2 l).1 hl;have hzS:=(h3 z hz).resolve_right (by simp);exact List.mem_map.2 ⟨z,List.mem_filter.2 ⟨List.mem_range.2 (h.snd z (.inl hzS)).1,hzS⟩,rfl⟩
 ·obtain⟨x,hx,e⟩:=h.opt l hl
  have hxS:=hx.resolve_right (by simp);exact⟨_,List.mem_map.2 ⟨x,List.mem_filter.2 ⟨List.mem_range.2 (h.snd x (.inl hxS)).1,hxS⟩,rfl⟩,e⟩
 ·obtain⟨x,hx,rfl⟩:=za7.1 hc
  exact(hs x (hsub x hx)).2.1
 ·obtain⟨x,hx,rfl⟩:=za7.1 hc
  obtain⟨y,hy,rfl⟩:=za7.1 hc';rw[zds hx hy e]
 ·obtain⟨x,hx,rfl⟩:=za7.1 hc
  obtain⟨z,hz,rfl⟩:=((zau B (hs x (hsub x hx)).1).1 r).1 hr;exact(h.kp x (hsub x hx)).2 z hz
end
theorem can_left' {c x l:Nat}(hc:CanC c)(hl:hasL c l):∀y,SubC x y→geC c y=true→geC l y=false→∃s,SubC x s/\geC s l=true/\geC l s=true:=by
 intro y;induction y using Nat.strongRecOn with
 | _ y ih =>
  intro hy h1 h2;have k:=hc c .root;rcases zfx h2 with ⟨r,hr,e⟩|⟨z,hz,e⟩
  ·have:=zac h1 e
   rw[k.revL l r hl hr]at this;cases this
  ·have hsz:=hy.step (.inl hz)
   rcases zfx (zg3 h1 hz)with ⟨r,hr,e'⟩|⟨l',hl',e'⟩
   ·have l1:=zai (.inl hz)
    have l2:=zai (.inr hr);exact ih r (by omega) (hsz.step (.inr hr)) e' (zer e hr)
   ·have h:=k.domL l l' hl hl' (zac e' e)
    rw[h]at e';exact⟨z,hsz,e,e'⟩
theorem can_right' {c x l:Nat}(hc:CanC c)(hl:hasR c l):∀y,SubC x y→geC y c=true→geC y l=false→∃s,SubC x s/\geC s l=true/\geC l s=true:=by
 intro y;induction y using Nat.strongRecOn with
 | _ y ih =>
  intro hy h1 h2;have k:=hc c .root;rcases zfx h2 with ⟨z,hz,e⟩|⟨r,hr,e⟩
  ·have hsz:=hy.step (.inr hz)
   rcases zfx (zer h1 hz)with ⟨l',hl',e'⟩|⟨r,hr,e'⟩
   ·have h:=k.domR l l' hl hl' (zac e e')
    rw[h]at e';exact⟨z,hsz,e',e⟩
   ·have l1:=zai (.inr hz)
    have l2:=zai (.inl hr);exact ih r (by omega) (hsz.step (.inl hr)) e' (zg3 e hr)
  ·have:=zac e h1
   rw[k.revR l r hl hr]at this;cases this
theorem ztb {c x s:Nat}(hc:CanC c)(h1:geC x c=true)(h2:geC c x=true)(hs:SubC c s):∃s',SubC x s'∧geC s' s=true/\geC s s'=true:=by
 induction hs with
 | root=>exact⟨x,.root,h1,h2⟩
 | step hs ho ih =>
  obtain⟨y,hy,e1,e2⟩:=ih;rename_i a o
  have ca:CanC a:=fun z hz=>hc z (hs.trans hz)
  rcases ho with h|h
  ·obtain⟨s',t1,t2,t3⟩:=can_left' ca h y .root e2 (zb2 e1 (zbv h))
   exact⟨s',hy.trans t1,t2,t3⟩
  ·obtain⟨s',t1,t2,t3⟩:=can_right' ca h y .root e1 (zb1 e2 (zbf h))
   exact⟨s',hy.trans t1,t2,t3⟩
theorem zvf {c x:Nat}(hc:CanC c)(h1:geC x c=true)(h2:geC c x=true){Fs:List PL}(hF:FormC x Fs):(zak c).length≤Fs.length:=by
 obtain⟨P,hA⟩:=zd1 c;obtain⟨P',hA'⟩:=hF;have hl:=hA.book.len;have hl':=hA'.book.len;have hex:∀s,∃s',SubC c s→SubC x s'∧geC s' s=true/\geC s s'=true:=fun s=>by
  by_cases h:SubC c s
  ·obtain⟨s',e⟩:=ztb hc h1 h2 h
   exact⟨s',fun _=>e⟩
  ·exact⟨0,fun q=>absurd q h⟩
 let f:Nat→Nat:=fun s=>Classical.choose (hex s)
 have hf:∀s,SubC c s→SubC x (f s)/\geC (f s) s=true/\geC s (f s)=true:=fun s=>Classical.choose_spec (hex s)
 have hn:(P.map f).Nodup:=by
  refine List.pairwise_map.2 (hA.book.nodup.imp_of_mem ?_);intro a b ha hb hab e;obtain⟨_,a1,a2⟩:=hf a ((hA.sub a).1 ha);obtain⟨_,b1,b2⟩:=hf b ((hA.sub b).1 hb);rw[e]at a1 a2;exact hab (zpe (fun z hz=>hc z (((hA.sub a).1 ha).trans hz)) (fun z hz=>hc z (((hA.sub b).1 hb).trans hz)) (zac a2 b1) (zac b2 a1))
 have:=hn.length_le_of_subset (l₂:=P') (fun s hs=>by
  obtain⟨a,ha,rfl⟩:=List.mem_map.1 hs;exact(hA'.sub _).2 (hf a ((hA.sub a).1 ha)).1)
 rw[List.length_map]at this
 omega
theorem zo6:∀L:List Nat,∃N,∀x∈L,x<N:=by
 intro L;induction L with
 | nil=>exact⟨0,by simp⟩
 | cons a l ih =>
  obtain⟨N,hN⟩:=ih;refine⟨N+a+1,fun x hx=>?_⟩;rcases List.mem_cons.1 hx with rfl|hx
  ·omega
  ·have:=hN x hx;omega
inductive CandL (f:Nat):Nat→Prop
 | opt {l:Nat}:hasL f l→CandL f (canC l)
 | thr {i k l:Nat}:CandL f i→hasR i k→geC f k=true→hasL k l→CandL f l
inductive CandR (f:Nat):Nat→Prop
 | opt {r:Nat}:hasR f r→CandR f (canC r)
 | thr {i k r:Nat}:CandR f i→hasL i k→geC k f=true→hasR k r→CandR f r
theorem CandL.props {f:Nat}(ih:∀i,i<f→IsCan (canC i) i){i:Nat}(h:CandL f i):CanC i/\geC i f=false:=by
 induction h with
 | opt hl =>
  have k:=ih _ (zai (.inl hl));exact⟨k.1,zb1 k.2.2 (zbv hl)⟩
 | thr _ hk hg hl i1=>exact⟨(i1.1.opt (.inr hk)).opt (.inl hl),zb2 hg (zbv hl)⟩
theorem CandR.props {f:Nat}(ih:∀i,i<f→IsCan (canC i) i){i:Nat}(h:CandR f i):CanC i/\geC f i=false:=by
 induction h with
 | opt hl =>
  have k:=ih _ (zai (.inr hl));exact⟨k.1,zb2 k.2.1 (zbf hl)⟩
 | thr _ hk hg hl i1=>exact⟨(i1.1.opt (.inl hk)).opt (.inr hl),zb1 hg (zbf hl)⟩
theorem CandL.lt {f N:Nat}(hN:∀l,hasL f l→canC l<N){i:Nat}(h:CandL f i):i<N:=by
 induction h with
 | opt hl=>exact hN _ hl
 | thr _ hk _ hl i1 =>
  have h1:=zai (.inr hk);have h2:=zai (.inl hl);omega
theorem CandR.lt {f N:Nat}(hN:∀l,hasR f l→canC l<N){i:Nat}(h:CandR f i):i<N:=by
 induction h with
 | opt hl=>exact hN _ hl
 | thr _ hk _ hl i1 =>
  have h1:=zai (.inl hk);have h2:=zai (.inr hl);omega
open Classical in
theorem zoi {f:Nat}(ih:∀i,i<f→IsCan (canC i) i):∃K,RedL f K:=by
 obtain⟨N,hN⟩:=zo6 ((zsq f).map canC);have hN':∀l,hasL f l→canC l<N:=fun l hl=>hN _ (List.mem_map.2 ⟨l,zea.2 hl,rfl⟩)
 obtain⟨SL,hSL⟩:∃SL:List Nat,∀i,i∈SL↔CandL f i:=⟨(List.range N).filter fun i=>decide (CandL f i),fun i=>by
  rw[List.mem_filter,List.mem_range,decide_eq_true_eq];exact⟨fun h=>h.2,fun h=>⟨h.lt hN',h⟩⟩⟩
 obtain⟨NR,hNR⟩:∃NR:List Nat,∀i,i∈NR↔CandL f i/\∀r,hasR i r→geC f r=false:=⟨SL.filter fun i=>decide (∀r,hasR i r→geC f r=false),fun i=>by
  rw[List.mem_filter,hSL,decide_eq_true_eq]⟩
 have ht:∀a b c,(fun a b=>geC b a) a b=true→(fun a b=>geC b a) b c=true→(fun a b=>geC b a) a c=true:=fun a b c h1 h2=>zac h2 h1
 have hsub:∀i,i∈za8 NR (domB (fun a b=>geC b a) NR)→i∈NR:=fun i hi=>zbi hi
 refine⟨za8 NR (domB (fun a b=>geC b a) NR),fun i hi=>(((hNR i).1 (hsub i hi)).1.props ih).2,⟨SL,fun i hi=>?_,fun l hl=>?_⟩,fun i hi=>(((hNR i).1 (hsub i hi)).1.props ih).1,fun i hi j hj e=>(zds hi hj e).symm,fun i hi=>((hNR i).1 (hsub i hi)).2⟩
 ·have hc:=(hSL i).1 hi
  by_cases hr:∀r,hasR i r→geC f r=false
  ·obtain⟨y,hy,e⟩:=zd4 ht ((hNR i).2 ⟨hc,hr⟩)
   refine .inl ⟨y,hy,?_⟩;rcases e with rfl|e
   ·exact zce _
   ·exact e
  ·obtain⟨k,hk⟩:=Classical.not_forall.1 hr
   obtain⟨hk1,hk2⟩:=Classical.not_imp.1 hk;have hk3:geC f k=true:=by
    cases e:geC f k with
    | true=>rfl
    | false=>exact absurd e hk2
   exact .inr ⟨k,hk1,hk3,fun l hl=>(hSL l).2 (.thr hc hk1 hk3 hl)⟩
 ·exact⟨canC l,(hSL _).2 (.opt hl),(ih l (zai (.inl hl))).2.1⟩
open Classical in
theorem zoh {f:Nat}(ih:∀i,i<f→IsCan (canC i) i):∃K,RedR f K:=by
 obtain⟨N,hN⟩:=zo6 ((zki f).map canC);have hN':∀l,hasR f l→canC l<N:=fun l hl=>hN _ (List.mem_map.2 ⟨l,zdi.2 hl,rfl⟩)
 obtain⟨SL,hSL⟩:∃SL:List Nat,∀i,i∈SL↔CandR f i:=⟨(List.range N).filter fun i=>decide (CandR f i),fun i=>by
  rw[List.mem_filter,List.mem_range,decide_eq_true_eq];exact⟨fun h=>h.2,fun h=>⟨h.lt hN',h⟩⟩⟩
 obtain⟨NR,hNR⟩:∃NR:List Nat,∀i,i∈NR↔CandR f i/\∀r,hasL i r→geC r f=false:=⟨SL.filter fun i=>decide (∀r,hasL i r→geC r f=false),fun i=>by
  rw[List.mem_filter,hSL,decide_eq_true_eq]⟩
 have ht:∀a b c,geC a b=true→geC b c=true→geC a c=true:=fun a b c h1 h2=>zac h1 h2
 have hsub:∀i,i∈za8 NR (domB geC NR)→i∈NR:=fun i hi=>zbi hi
 refine⟨za8 NR (domB geC NR),fun i hi=>(((hNR i).1 (hsub i hi)).1.props ih).2,⟨SL,fun i hi=>?_,fun l hl=>?_⟩,fun i hi=>(((hNR i).1 (hsub i hi)).1.props ih).1,fun i hi j hj e=>(zds hi hj e).symm,fun i hi=>((hNR i).1 (hsub i hi)).2⟩
 ·have hc:=(hSL i).1 hi
  by_cases hr:∀r,hasL i r→geC r f=false
  ·obtain⟨y,hy,e⟩:=zd4 ht ((hNR i).2 ⟨hc,hr⟩)
   refine .inl ⟨y,hy,?_⟩;rcases e with rfl|e
   ·exact zce _
   ·exact e
  ·obtain⟨k,hk⟩:=Classical.not_forall.1 hr
   obtain⟨hk1,hk2⟩:=Classical.not_imp.1 hk;have hk3:geC k f=true:=by
    cases e:geC k f with
    | true=>rfl
    | false=>exact absurd e hk2
   exact .inr ⟨k,hk1,hk3,fun l hl=>(hSL l).2 (.thr hc hk1 hk3 hl)⟩
 ·exact⟨canC l,(hSL _).2 (.opt hl),(ih l (zai (.inr hl))).2.2⟩
theorem zk2 (f:Nat):IsCan (canC f) f:=by
 induction f using Nat.strongRecOn with
 | _ f ih =>
  obtain⟨KL,hL⟩:=zoi ih;obtain⟨KR,hR⟩:=zoh ih;have h:=zu1 hL hR;rw[h.eq]at h;exact h
theorem znh (s:Int)(P:Nat):nr (2*s) (P+1)=nr s P:=by
 rw[zcr (by omega),show 2*s/2=s from by omega]
theorem zek (s:Int)(P k:Nat):nr (s*2^k) (P+k)=nr s P:=by
 unfold nr;rw[zc5]
theorem zdx {s:Int}{l:Nat}(h:hasL (intC s) l):0<s/\l=intC (s-1):=by
 by_cases h0:s=0
 ·subst h0;exact absurd h (yad l)
 ·by_cases hp:0<s
  ·rw[zmi hp,zax]at h
   exact⟨hp,List.mem_singleton.1 h⟩
  ·rw[zmk (by omega),zax]at h
   simp at h
theorem zd0 {s:Int}{r:Nat}(h:hasR (intC s) r):s<0/\r=intC (s+1):=by
 by_cases h0:s=0
 ·subst h0;exact absurd h (yac r)
 ·by_cases hp:0<s
  ·rw[zmi hp,zav]at h
   simp at h
  ·rw[zmk (by omega),zav]at h
   exact⟨by omega,List.mem_singleton.1 h⟩
theorem zrk {s:Int}(h:0<s):hasL (intC s) (intC (s-1)):=by rw[zmi h,zax];simp
theorem zri {s:Int}(h:s<0):hasR (intC s) (intC (s+1)):=by rw[zmk h,zav];simp
theorem zem:∀(P:Nat) (s:Int) (l:Nat),hasL (nr s P) l→∃v,v<s/\l=nr v P:=by
 intro P;induction P with
 | zero =>
  intro s l h;rw[zf3]at h;obtain⟨_,e⟩:=zdx h;exact⟨s-1,by omega,by rw[zf3];exact e⟩
 | succ P ih =>
  intro s l h;by_cases he:s%2=0
  ·rw[zcr he]at h
   obtain⟨v,hv,e⟩:=ih _ _ h;exact⟨2*v,by omega,by rw[znh];exact e⟩
  ·rw[zim he,zax]at h
   exact⟨s-1,by omega,by rw[zcr (by omega)];exact List.mem_singleton.1 h⟩
theorem zdb:∀(P:Nat) (s:Int) (r:Nat),hasR (nr s P) r→∃v,s<v/\r=nr v P:=by
 intro P;induction P with
 | zero =>
  intro s l h;rw[zf3]at h;obtain⟨_,e⟩:=zd0 h;exact⟨s+1,by omega,by rw[zf3];exact e⟩
 | succ P ih =>
  intro s l h;by_cases he:s%2=0
  ·rw[zcr he]at h
   obtain⟨v,hv,e⟩:=ih _ _ h;exact⟨2*v,by omega,by rw[znh];exact e⟩
  ·rw[zim he,zav]at h
   exact⟨s+1,by omega,by rw[zcr (by omega)];exact List.mem_singleton.1 h⟩
theorem zm9 {s:Int}{P:Nat}(h:s%2≠0):hasL (nr s (P+1)) (nr (s-1) (P+1)):=by
 rw[zim h,zax,zcr (by omega)];simp
theorem zos {s:Int}{P:Nat}(h:s%2≠0):hasR (nr s (P+1)) (nr (s+1) (P+1)):=by
 rw[zim h,zav,zcr (by omega)];simp
theorem zsn:∀(P:Nat) (s t:Int),s<t→(∃v,s≤v/\v<t/\hasL (nr t P) (nr v P))∨∃v,s<v/\v≤t/\hasR (nr s P) (nr v P):=by
 intro P;induction P with
 | zero =>
  intro s t h;by_cases ht:0<t
  ·exact .inl ⟨t-1,by omega,by omega,by rw[zf3,zf3];exact zrk ht⟩
  ·exact .inr ⟨s+1,by omega,by omega,by rw[zf3,zf3];exact zri (by omega)⟩
 | succ P ih =>
  intro s t h;by_cases ht:t%2=0
  ·by_cases hs:s%2=0
   ·rw[zcr ht,zcr hs]
    rcases ih (s/2) (t/2) (by omega)with ⟨v,h1,h2,h3⟩|⟨v,h1,h2,h3⟩
    ·exact .inl ⟨2*v,by omega,by omega,by rw[znh];exact h3⟩
    ·exact .inr ⟨2*v,by omega,by omega,by rw[znh];exact h3⟩
   ·exact .inr ⟨s+1,by omega,by omega,zos hs⟩
  ·exact .inl ⟨t-1,by omega,by omega,zm9 ht⟩
theorem nr_ge' (P n:Nat):∀s t:Int,nr s P+nr t P<n→(t≤s→geC (nr s P) (nr t P)=true)/\(s<t→geC (nr s P) (nr t P)=false):=by
 induction n with
 | zero=>intro s t h;omega
 | succ n ih =>
  intro s t hn;refine⟨fun h=>zcf (fun r hr=>?_) fun l hl=>?_,fun h=>?_⟩
  ·have hlt:=zai (.inr hr)
   obtain⟨v,hv,rfl⟩:=zdb _ _ _ hr;exact(ih t v (by omega)).2 (by omega)
  ·have hlt:=zai (.inl hl)
   obtain⟨v,hv,rfl⟩:=zem _ _ _ hl;exact(ih v s (by omega)).2 (by omega)
  ·cases e:geC (nr s P) (nr t P)with
   | false=>rfl
   | true =>
    rcases zsn P s t h with ⟨v,h1,h2,h3⟩|⟨v,h1,h2,h3⟩
    ·have hlt:=zai (.inl h3)
     have:=(ih v s (by omega)).1 h1;rw[zg3 e h3]at this;cases this
    ·have hlt:=zai (.inr h3)
     have:=(ih t v (by omega)).1 h2;rw[zer e h3]at this;cases this
theorem zin {s t:Int}{P:Nat}(h:t≤s):geC (nr s P) (nr t P)=true:=(nr_ge' P _ s t (Nat.lt_succ_self _)).1 h
theorem zma {s t:Int}{P:Nat}(h:s<t):geC (nr s P) (nr t P)=false:=(nr_ge' P _ s t (Nat.lt_succ_self _)).2 h
theorem zhx {s t:Int}{P:Nat}(h:geC (nr s P) (nr t P)=true):t≤s:=by
 refine Int.not_lt.1 fun q=>?_
 rw[zma q]at h;cases h
def EqC (a b:Nat):Prop:=geC a b=true/\geC b a=true
theorem EqC.symm {a b:Nat}(h:EqC a b):EqC b a:=⟨h.2,h.1⟩
theorem EqC.trans {a b c:Nat}(h:EqC a b)(h':EqC b c):EqC a c:=⟨zac h.1 h'.1,zac h'.2 h.2⟩
theorem zzk (a:Nat):EqC (canC a) a:=⟨(zk2 a).2.1,(zk2 a).2.2⟩
theorem zve (s:Int)(P:Nat):CanC1 (nr s P):=by
 have uniq:∀(P:Nat) (s:Int),(∀l l',hasL (nr s P) l→hasL (nr s P) l'→l=l')/\∀l l',hasR (nr s P) l→hasR (nr s P) l'→l=l':=by
  intro P;induction P with
  | zero =>
   intro s;rw[zf3];exact⟨fun l l' h h'=>by rw[(zdx h).2,(zdx h').2],fun l l' h h'=>by rw[(zd0 h).2,(zd0 h').2]⟩
  | succ P ih =>
   intro s;by_cases he:s%2=0
   ·rw[zcr he];exact ih _
   ·rw[zim he]
    refine⟨fun l l' h h'=>?_,fun l l' h h'=>?_⟩
    ·rw[zax]at h h'
     rw[List.mem_singleton.1 h,List.mem_singleton.1 h']
    ·rw[zav]at h h'
     rw[List.mem_singleton.1 h,List.mem_singleton.1 h']
 have rev:∀(P:Nat) (s:Int),(∀l r,hasL (nr s P) l→hasR l r→geC (nr s P) r=false)/\∀r l,hasR (nr s P) r→hasL r l→geC l (nr s P)=false:=by
  intro P;induction P with
  | zero =>
   intro s;rw[zf3];refine⟨fun l r h h'=>?_,fun l r h h'=>?_⟩
   ·obtain⟨h1,rfl⟩:=zdx h
    have:=(zd0 h').1;omega
   ·obtain⟨h1,rfl⟩:=zd0 h
    have:=(zdx h').1;omega
  | succ P ih =>
   intro s;by_cases he:s%2=0
   ·rw[zcr he];exact ih _
   ·refine⟨fun l r h h'=>?_,fun l r h h'=>?_⟩
    ·rw[zim he,zax]at h
     rw[List.mem_singleton.1 h]at h';obtain⟨v,hv,rfl⟩:=zdb _ _ _ h';rw[←znh v P];exact zma (by omega)
    ·rw[zim he,zav]at h
     rw[List.mem_singleton.1 h]at h';obtain⟨v,hv,rfl⟩:=zem _ _ _ h';rw[←znh v P];exact zma (by omega)
 exact⟨fun l l' h h' _=>(uniq P s).1 _ _ h' h,fun l l' h h' _=>(uniq P s).2 _ _ h' h,(rev P s).1,(rev P s).2⟩
theorem zr8 (s:Int)(P:Nat):(∀l l',hasL (nr s P) l→hasL (nr s P) l'→l=l')/\∀l l',hasR (nr s P) l→hasR (nr s P) l'→l=l':=by
 have h:=zve s P;refine⟨fun l l' a b=>?_,fun l l' a b=>?_⟩
 ·obtain⟨v,_,rfl⟩:=zem _ _ _ a
  obtain⟨v',_,rfl⟩:=zem _ _ _ b;by_cases e:v'≤v
  ·exact h.domL _ _ b a (zin e)
  ·exact(h.domL _ _ a b (zin (by omega))).symm
 ·obtain⟨v,_,rfl⟩:=zdb _ _ _ a
  obtain⟨v',_,rfl⟩:=zdb _ _ _ b;by_cases e:v≤v'
  ·exact h.domR _ _ b a (zin e)
  ·exact(h.domR _ _ a b (zin (by omega))).symm
theorem ya1 {s:Int}{P x:Nat}(h:SubC (nr s P) x):∃v,x=nr v P:=by
 induction h with
 | root=>exact⟨s,rfl⟩
 | step _ ho ih =>
  obtain⟨v,rfl⟩:=ih;rcases ho with h|h
  ·obtain⟨u,_,e⟩:=zem _ _ _ h;exact⟨u,e⟩
  ·obtain⟨u,_,e⟩:=zdb _ _ _ h;exact⟨u,e⟩
theorem ya8 (s:Int)(P:Nat):CanC (nr s P):=fun x hx=>by
 obtain⟨v,rfl⟩:=ya1 hx;exact zve v P
def IsNum (G:Nat):Prop:=∃(P:Nat) (s:Int),EqC G (nr s P)
theorem IsNum.of {a b:Nat}(h:IsNum a)(e:EqC a b):IsNum b:=by
 obtain⟨P,s,k⟩:=h;exact⟨P,s,e.symm.trans k⟩
theorem IsNum.can {c:Nat}(h:IsNum c)(hc:CanC c):∃(P:Nat) (s:Int),c=nr s P:=by
 obtain⟨P,s,k⟩:=h;exact⟨P,s,zpe hc (ya8 s P) k.1 k.2⟩
theorem zor (P:Nat){G:Nat}:∀(n:Nat) (s:Int),nr s P<n→(∀l,hasL G l→geC l (nr s P)=false)→(∀r,hasR G r→geC (nr s P) r=false)→IsNum G:=by
 intro n;induction n with
 | zero=>intro s h;omega
 | succ n ih =>
  intro s hn hl hr;cases h1:geC (nr s P) G with
  | false =>
   rcases zfx h1 with ⟨r,h,e⟩|⟨l,h,e⟩
   ·have hlt:=zai (.inr h)
    obtain⟨v,hv,rfl⟩:=zdb _ _ _ h;refine ih v (by omega) (fun l h'=>?_) fun r h'=>?_
    ·cases q:geC l (nr v P)with
     | false=>rfl
     | true =>
      have:=zac q (zin (s:=v) (t:=s) (P:=P) (by omega));rw[hl l h']at this;cases this
    ·cases q:geC (nr v P) r with
     | false=>rfl
     | true =>
      have:=zac e q;rw[zbf h']at this;cases this
   ·rw[hl l h]at e;cases e
  | true =>
   cases h2:geC G (nr s P)with
   | true=>exact⟨P,s,h2,h1⟩
   | false =>
    rcases zfx h2 with ⟨r,h,e⟩|⟨l,h,e⟩
    ·rw[hr r h]at e;cases e
    ·have hlt:=zai (.inl h)
     obtain⟨v,hv,rfl⟩:=zem _ _ _ h;refine ih v (by omega) (fun l h'=>?_) fun r h'=>?_
     ·cases q:geC l (nr v P)with
      | false=>rfl
      | true =>
       have:=zac q e;rw[zbv h']at this;cases this
     ·cases q:geC (nr v P) r with
      | false=>rfl
      | true =>
       have:=zac (zin (s:=s) (t:=v) (P:=P) (by omega)) q;rw[hr r h']at this;cases this
theorem zr6 {G:Nat}(hG:¬IsNum G)(P:Nat)(s:Int):(∃l,hasL G l/\geC l (nr s P)=true)∨geC (nr s P) G=true:=by
 by_cases h:∃l,hasL G l/\geC l (nr s P)=true
 ·exact .inl h
 ·have hl:∀l,hasL G l→geC l (nr s P)=false:=fun l hl=>by
   cases q:geC l (nr s P)with
   | false=>rfl
   | true=>exact absurd ⟨l,hl,q⟩ h
  refine .inr (zcf (fun x hx=>?_) hl);cases q:geC G x with
  | false=>rfl
  | true =>
   obtain⟨v,hv,rfl⟩:=zdb _ _ _ hx;refine absurd (zor P _ s (Nat.lt_succ_self _) hl fun r hr=>?_) hG;cases q':geC (nr s P) r with
   | false=>rfl
   | true =>
    have:=zac (zac q (zin (s:=v) (t:=s) (P:=P) (by omega))) q';rw[zbf hr]at this;cases this
theorem zr5 {G:Nat}(hG:¬IsNum G)(P:Nat)(s:Int):(∃r,hasR G r/\geC (nr s P) r=true)∨geC G (nr s P)=true:=by
 by_cases h:∃r,hasR G r/\geC (nr s P) r=true
 ·exact .inl h
 ·have hr:∀r,hasR G r→geC (nr s P) r=false:=fun l hl=>by
   cases q:geC (nr s P) l with
   | false=>rfl
   | true=>exact absurd ⟨l,hl,q⟩ h
  refine .inr (zcf hr (fun x hx=>?_));cases q:geC x G with
  | false=>rfl
  | true =>
   obtain⟨v,hv,rfl⟩:=zem _ _ _ hx;refine absurd (zor P _ s (Nat.lt_succ_self _) (fun l hl=>?_) hr) hG;cases q':geC l (nr s P)with
   | false=>rfl
   | true =>
    have:=zac q' (zac (zin (s:=s) (t:=v) (P:=P) (by omega)) q);rw[zbv hl]at this;cases this
theorem zng (G:Nat):∀m:Nat,G≤m→geC (posC m) G=true:=by
 induction G using Nat.strongRecOn with
 | _ G ih =>
  intro m hm;refine zcf (fun r hr=>?_) fun l hl=>?_
  ·rw[←zmm]at hr
   have:=(zd0 hr).1;omega
  ·have hlt:=zai (.inl hl)
   obtain⟨k,rfl⟩:∃k,m=k+1:=⟨m-1,by omega⟩;exact zb1 (ih l hlt k (by omega)) (zbv (show hasL (mkC [posC k] []) (posC k)from by rw[zax];simp))
theorem znf (G:Nat):∀m:Nat,G≤m→geC G (zsp m)=true:=by
 induction G using Nat.strongRecOn with
 | _ G ih =>
  intro m hm;refine zcf (fun r hr=>?_) fun l hl=>?_
  ·have hlt:=zai (.inr hr)
   obtain⟨k,rfl⟩:∃k,m=k+1:=⟨m-1,by omega⟩;exact zb2 (ih r hlt k (by omega)) (zbf (show hasR (mkC [] [zsp k]) (zsp k)from by rw[zav];simp))
  ·rw[←ziv]at hl
   have:=(zdx hl).1;omega
theorem zhv (m:Int)(P:Nat):nr (m*2^P) P=intC m:=by
 have h:=zek m 0 P;rw[Nat.zero_add]at h;rw[h,zf3]
theorem zue {G:Nat}(hG:¬IsNum G)(P:Nat):∃(u:Int) (l:Nat),hasL G l/\geC l (nr u P)=true/\geC (nr (u+1) P) G=true:=by
 have key:∀(k:Nat) (u:Int),(G:Int)*2^P≤u+k→(∃l,hasL G l/\geC l (nr u P)=true)→∃(u:Int) (l:Nat),hasL G l/\geC l (nr u P)=true/\geC (nr (u+1) P) G=true:=by
  intro k;induction k with
  | zero =>
   rintro u hu ⟨l,hl,e⟩;have h1:geC (nr u P) (nr ((G:Int)*2^P) P)=true:=zin (by omega);rw[zhv,zmm]at h1;have:=zac (zac e h1) (zng G G (Nat.le_refl _));rw[zbv hl]at this;cases this
  | succ k ih =>
   rintro u hu ⟨l,hl,e⟩;rcases zr6 hG P (u+1)with h|h
   ·exact ih (u+1) (by omega) h
   ·exact⟨u,l,hl,e,h⟩
 obtain⟨hi,hhi⟩:∃hi:Int,hi=(G:Int)*2^P:=⟨_,rfl⟩;obtain⟨lo,hlo⟩:∃lo:Int,lo=-(G:Int)*2^P-1:=⟨_,rfl⟩;refine key (hi-lo).toNat lo (by omega) ((zr6 hG P lo).resolve_right fun h=>?_);have h1:=zac h (znf G G (Nat.le_refl _));rw[←ziv,←zhv (-(G:Int)) P]at h1;have:=zhx h1;omega
theorem zud {G:Nat}(hG:¬IsNum G)(P:Nat):∃(u:Int) (r:Nat),hasR G r/\geC (nr u P) r=true/\geC G (nr (u-1) P)=true:=by
 have key:∀(k:Nat) (u:Int),u-k≤-(G:Int)*2^P→(∃r,hasR G r/\geC (nr u P) r=true)→∃(u:Int) (r:Nat),hasR G r/\geC (nr u P) r=true/\geC G (nr (u-1) P)=true:=by
  intro k;induction k with
  | zero =>
   rintro u hu ⟨l,hl,e⟩;have h1:geC (nr (-(G:Int)*2^P) P) (nr u P)=true:=zin (by omega);rw[zhv,ziv]at h1;have:=zac (znf G G (Nat.le_refl _)) (zac h1 e);rw[zbf hl]at this;cases this
  | succ k ih =>
   rintro u hu ⟨l,hl,e⟩;rcases zr5 hG P (u-1)with h|h
   ·exact ih (u-1) (by omega) h
   ·exact⟨u,l,hl,e,h⟩
 obtain⟨hi,hhi⟩:∃hi:Int,hi=(G:Int)*2^P+1:=⟨_,rfl⟩;obtain⟨lo,hlo⟩:∃lo:Int,lo=-(G:Int)*2^P:=⟨_,rfl⟩;refine key (hi-lo).toNat hi (by omega) ((zr5 hG P hi).resolve_right fun h=>?_);have h1:=zac (zng G G (Nat.le_refl _)) h;rw[←zmm,←zhv (G:Int) P]at h1;have:=zhx h1;omega
def IsVal (c:Nat)(t:Int)(p:Nat):Prop:=Red t p/\c=numC t p
theorem IsVal.toNr {c:Nat}{t:Int}{p:Nat}(h:IsVal c t p):c=nr t p:=by rw[ya2 h.1];exact h.2
theorem zuk (s:Int)(P:Nat):IsVal (nr s P) (redT s P).1 (redT s P).2:=⟨zd7 _ _,rfl⟩
theorem ya3 {s t:Int}{P:Nat}(h:nr s P=nr t P):s=t:=by
 have h1:=zhx (show geC (nr s P) (nr t P)=true by rw[h];exact zce _);have h2:=zhx (show geC (nr t P) (nr s P)=true by rw[h];exact zce _);omega
theorem IsVal.one {c:Nat}{t s:Int}{p q:Nat}(h:IsVal c t p)(k:IsVal c s q):t=s/\p=q:=by
 have e1:nr (t*2^q) (p+q)=c:=by rw[zek];exact h.toNr.symm
 have e2:nr (s*2^p) (p+q)=c:=by rw[Nat.add_comm,zek];exact k.toNr.symm
 have e:=ya3 (e1.trans e2.symm);have a:=zc5 q p t;rw[e,Nat.add_comm,zc5,zcq k.1,zcq h.1]at a;have a1:=congrArg Prod.fst a;have a2:=congrArg Prod.snd a;exact⟨a1.symm,a2.symm⟩
open Classical in
noncomputable def isNB (c:Nat):Bool:=decide (∃t p,IsVal c t p)
open Classical in
noncomputable def valT (c:Nat):Int × Nat:=if h:∃d:Int × Nat,IsVal c d.1 d.2 then Classical.choose h else (0,0)
open Classical in
theorem zcb {c:Nat}:isNB c=true↔∃t p,IsVal c t p:=by unfold isNB;rw[decide_eq_true_iff]
theorem IsVal.is {c:Nat}{t:Int}{p:Nat}(h:IsVal c t p):isNB c=true:=zcb.2 ⟨t,p,h⟩
theorem IsVal.val {c:Nat}{t:Int}{p:Nat}(h:IsVal c t p):valT c=(t,p):=by
 have hx:∃d:Int × Nat,IsVal c d.1 d.2:=⟨(t,p),h⟩;unfold valT;rw[dif_pos hx];obtain⟨a,b⟩:=(Classical.choose_spec hx).one h;exact Prod.ext a b
theorem zp2 {c:Nat}(h:isNB c=true):IsVal c (valT c).1 (valT c).2:=by
 obtain⟨t,p,k⟩:=zcb.1 h;rw[k.val];exact k
theorem zrh (s:Int)(P:Nat):isNB (nr s P)=true:=(zuk s P).is
open Classical in
noncomputable def valB (c:Nat):Bool:=isNB c && decide (GoodD (valT c).1 (valT c).2)
noncomputable def valD (c:Nat):Int × Nat:=if valB c=true then valT c else (0,0)
open Classical in
theorem IsVal.good {c:Nat}{t:Int}{p:Nat}(h:IsVal c t p):valB c=true↔GoodD t p:=by
 unfold valB;rw[h.is,h.val,Bool.true_and,decide_eq_true_iff]
theorem zfb {c:Nat}(h:valB c=true):isNB c=true:=by
 unfold valB at h;exact(Bool.and_eq_true_iff.1 h).1
theorem zc9 {c:Nat}(h:valB c=true):IsVal c (valD c).1 (valD c).2/\GoodD (valD c).1 (valD c).2:=by
 have h1:=zp2 (zfb h);unfold valD;rw[if_pos h];exact⟨h1,h1.good.1 h⟩
theorem IsVal.goodD {c:Nat}{t:Int}{p:Nat}(h:IsVal c t p)(hg:GoodD t p):valB c=true/\valD c=(t,p):=by
 have h1:=h.good.2 hg;refine⟨h1,?_⟩;unfold valD;rw[if_pos h1,h.val]
theorem zd3 {c:Nat}(h:valB c=false):valD c=(0,0):=by unfold valD;rw[h];rfl
theorem zxg {c l l':Nat}(h:isNB c=true)(a:hasL c l)(b:hasL c l'):l=l':=by
 obtain⟨t,p,k⟩:=zcb.1 h;rw[k.toNr]at a b;exact(zr8 _ _).1 _ _ a b
theorem zxf {c l l':Nat}(h:isNB c=true)(a:hasR c l)(b:hasR c l'):l=l':=by
 obtain⟨t,p,k⟩:=zcb.1 h;rw[k.toNr]at a b;exact(zr8 _ _).2 _ _ a b
theorem zxe {c l:Nat}(h:isNB c=true)(a:hasL c l):isNB l=true:=by
 obtain⟨t,p,k⟩:=zcb.1 h;rw[k.toNr]at a;obtain⟨v,_,rfl⟩:=zem _ _ _ a;exact zrh _ _
theorem zxd {c l:Nat}(h:isNB c=true)(a:hasR c l):isNB l=true:=by
 obtain⟨t,p,k⟩:=zcb.1 h;rw[k.toNr]at a;obtain⟨v,_,rfl⟩:=zdb _ _ _ a;exact zrh _ _
theorem zuf {c l r:Nat}(h:isNB c=true)(a:hasL c l)(b:hasR c r):geC l r=false:=by
 obtain⟨t,p,k⟩:=zcb.1 h;rw[k.toNr]at a b;obtain⟨v,hv,rfl⟩:=zem _ _ _ a;obtain⟨u,hu,rfl⟩:=zdb _ _ _ b;exact zma (by omega)
theorem zxh {c:Nat}(hc:CanC c)(h1:∀l l',hasL c l→hasL c l'→l=l')(h2:∀r r',hasR c r→hasR c r'→r=r')(hL:∀l,hasL c l→isNB l=true)(hR:∀r,hasR c r→isNB r=true)
  (ha:∀l r,hasL c l→hasR c r→geC l r=false):isNB c=true:=by
 have fin:∀(s:Int) (P:Nat),(∀l,hasL c l→geC l (nr s P)=false)→(∀r,hasR c r→geC (nr s P) r=false)→isNB c=true:=fun s P a b=>by
  obtain⟨Q,u,e⟩:=(zor P _ s (Nat.lt_succ_self _) a b).can hc;rw[e];exact zrh _ _
 by_cases eL:∃l,hasL c l
 ·obtain⟨l,hl⟩:=eL
  obtain⟨s,P,kl⟩:=zcb.1 (hL l hl);by_cases eR:∃r,hasR c r
  ·obtain⟨r,hr⟩:=eR
   obtain⟨t,Q,kr⟩:=zcb.1 (hR r hr);have e1:l=nr (2*(s*2^Q)) (P+Q+1):=by rw[znh,zek];exact kl.toNr
   have e2:r=nr (2*(t*2^P)) (P+Q+1):=by rw[znh,Nat.add_comm,zek];exact kr.toNr
   have hlt:s*2^Q<t*2^P:=by
    have h:=ha l r hl hr;rw[e1,e2]at h;refine Int.not_le.1 fun q=>?_
    rw[zin (show 2*(t*2^P)≤2*(s*2^Q)by omega)]at h;cases h
   refine fin (2*(s*2^Q)+1) (P+Q+1) (fun l' hl'=>?_) (fun r' hr'=>?_)
   ·rw[h1 _ _ hl' hl,e1];exact zma (by omega)
   ·rw[h2 _ _ hr' hr,e2];exact zma (by omega)
  ·refine fin (s+1) P (fun l' hl'=>?_) (fun r' hr'=>absurd ⟨r',hr'⟩ eR)
   rw[h1 _ _ hl' hl,kl.toNr];exact zma (by omega)
 ·by_cases eR:∃r,hasR c r
  ·obtain⟨r,hr⟩:=eR
   obtain⟨t,Q,kr⟩:=zcb.1 (hR r hr);refine fin (t-1) Q (fun l' hl'=>absurd ⟨l',hl'⟩ eL) (fun r' hr'=>?_);rw[h2 _ _ hr' hr,kr.toNr];exact zma (by omega)
  ·exact fin 0 0 (fun l' hl'=>absurd ⟨l',hl'⟩ eL) (fun r' hr'=>absurd ⟨r',hr'⟩ eR)
theorem zvt {c:Nat}(h:isNB c=true)(hL:∀l,¬hasL c l)(hR:∀r,¬hasR c r):IsVal c 0 0:=by
 obtain⟨t,p,k⟩:=zcb.1 h;have hk:=k;obtain⟨hr,e⟩:=hk;cases p with
 | zero =>
  rw[zhu]at e;by_cases h0:t=0
  ·subst h0;exact k
  ·by_cases hp:0<t
   ·exact absurd (by rw[e];exact zrk hp) (hL _)
   ·exact absurd (by rw[e];exact zri (by omega)) (hR _)
 | succ p =>
  have ho:t%2≠0:=hr.resolve_left (by omega);exact absurd (by rw[k.toNr];exact zm9 ho) (hL _)
theorem zpp {c l:Nat}(h:isNB c=true)(hl:hasL c l)(hR:∀r,¬hasR c r):∃k:Int,0<k/\IsVal c k 0/\IsVal l (k-1) 0:=by
 obtain⟨t,p,k⟩:=zcb.1 h;have hk:=k;obtain⟨hr,e⟩:=hk;cases p with
 | zero =>
  rw[zhu]at e;rw[e]at hl;obtain⟨h1,h2⟩:=zdx hl;exact⟨t,h1,k,.inl rfl,h2⟩
 | succ p =>
  have ho:t%2≠0:=hr.resolve_left (by omega);exact absurd (by rw[k.toNr];exact zos ho) (hR _)
theorem zn1 {c r:Nat}(h:isNB c=true)(hr:hasR c r)(hL:∀l,¬hasL c l):∃k:Int,k<0/\IsVal c k 0/\IsVal r (k+1) 0:=by
 obtain⟨t,p,k⟩:=zcb.1 h;have hk:=k;obtain⟨hd,e⟩:=hk;cases p with
 | zero =>
  rw[zhu]at e;rw[e]at hr;obtain⟨h1,h2⟩:=zd0 hr;exact⟨t,h1,k,.inl rfl,h2⟩
 | succ p =>
  have ho:t%2≠0:=hd.resolve_left (by omega);exact absurd (by rw[k.toNr];exact zm9 ho) (hL _)
theorem zpq {c l r:Nat}(h:isNB c=true)(hl:hasL c l)(hr:hasR c r):∃(t:Int) (p:Nat),IsVal c t p/\0<p/\t%2≠0/\IsVal l (redT (t-1) p).1 (redT (t-1) p).2/\IsVal r (redT (t+1) p).1 (redT (t+1) p).2:=by
 obtain⟨t,p,k⟩:=zcb.1 h;have hk:=k;obtain⟨hd,e⟩:=hk;cases p with
 | zero =>
  rw[zhu]at e;rw[e]at hl hr;have a:=zdx hl;have b:=zd0 hr;omega
 | succ p =>
  have ho:t%2≠0:=hd.resolve_left (by omega);refine⟨t,p+1,k,by omega,ho,?_,?_⟩
  ·rw[k.toNr]at hl
   rw[(zr8 _ _).1 _ _ hl (zm9 ho)];exact zuk _ _
  ·rw[k.toNr]at hr
   rw[(zr8 _ _).2 _ _ hr (zos ho)];exact zuk _ _
theorem ze5 {N:Nat}:∀(p:Nat) (x:Int),p≤N→(redT x p).1*2^(N-(redT x p).2)=x*2^(N-p):=by
 intro p;induction p with
 | zero=>intro x _;rfl
 | succ p ih =>
  intro x hp;by_cases hx:x%2=0
  ·rw[zba hx,ih _ (by omega)]
   obtain⟨k,hk⟩:∃k,N-p=k+1:=⟨N-(p+1),by omega⟩;rw[hk,show N-(p+1)=k from by omega,Int.pow_succ,Int.mul_comm (2^k) 2,←Int.mul_assoc];congr 1
   omega
  ·rw[redT,if_neg hx]
theorem zx3 {x:Int}{N p:Nat}(h:p≤N):redT (x*2^(N-p)) N=redT x p:=by
 have:=zc5 (N-p) p x;rw[show p+(N-p)=N from by omega]at this
 exact this
theorem zti {t:Int}{p:Nat}(hp:0<p)(ho:t%2≠0)(h1:GoodD (redT (t-1) p).1 (redT (t-1) p).2)(h2:GoodD (redT (t+1) p).1 (redT (t+1) p).2) :
  p≤17/\redT ((redT (t-1) p).1*2^(16-(redT (t-1) p).2)+(redT (t+1) p).1*2^(16-(redT (t+1) p).2)) 17=(t,p):=by
 obtain⟨q,rfl⟩:∃q,p=q+1:=⟨p-1,by omega⟩;rw[zba (show(t-1)%2=0 by omega)]at h1 ⊢;rw[zba (show(t+1)%2=0 by omega)]at h2 ⊢;by_cases hq:q≤16
 ·refine⟨by omega,?_⟩
  rw[ze5 q _ hq,ze5 q _ hq,←Int.add_mul,show(t-1)/2+(t+1)/2=t from by omega];have:=zx3 (x:=t) (N:=17) (p:=q+1) (by omega);rw[show 17-(q+1)=16-q from by omega]at this
  rw[this,zcq (.inr ho)]
 ·have h3:=h1.2.1
  have h4:=h2.2.1;exfalso
  by_cases he:(t-1)/2%2=0
  ·rw[zcq (t:=(t+1)/2) (.inr (by omega))]at h4
   have:((q:Nat):Int)≤16:=h4.2;omega
  ·rw[zcq (t:=(t-1)/2) (.inr he)]at h3
   have:((q:Nat):Int)≤16:=h3.2;omega
theorem zth {t:Int}{p:Nat}(hp:0<p)(ho:t%2≠0)(h:GoodD t p):GoodD (redT (t-1) p).1 (redT (t-1) p).2/\GoodD (redT (t+1) p).1 (redT (t+1) p).2:=by
 obtain⟨a,b,c⟩:=h;exact⟨(znu (.inr ho) (by omega) hp (by omega) _ (.inl rfl)).1,(znu (.inr ho) (by omega) hp (by omega) _ (.inr rfl)).1⟩
end Go.Proofs.YtknniemfpkjnbaaGreatDoor
