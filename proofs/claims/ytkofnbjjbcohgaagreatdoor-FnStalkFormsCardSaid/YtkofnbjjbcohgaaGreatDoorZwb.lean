import Derived.Test.YtkofnbjjbcohgaaGreatDoorZw2
/- Lemmas. -/
namespace Go.Proofs.YtkofnbjjbcohgaaGreatDoor
set_option linter.unusedVariables false
set_option linter.unusedSimpArgs false
open Go.RowKit
theorem zbu (a:Nat):geC a a=true:=by
 induction a using Nat.strongRecOn with
 | _ a ih =>
  rw[zcy];constructor
  ·intro r hr
   cases h:geC a r with
   | false=>rfl
   | true =>
    have h1:=((zcy a r).1 h).1 r hr;rw[ih r (zai (.inr hr))]at h1;cases h1
  ·intro l hl
   cases h:geC l a with
   | false=>rfl
   | true =>
    have h1:=((zcy l a).1 h).2 l hl;rw[ih l (zai (.inl hl))]at h1;cases h1
theorem zf2 {a b r:Nat}(h:geC a b=true)(hr:hasR a r):geC b r=false:=((zcy a b).1 h).1 r hr
theorem zga {a b l:Nat}(h:geC a b=true)(hl:hasL b l):geC l a=false:=((zcy a b).1 h).2 l hl
theorem ze5 {a b:Nat}(h1:∀r,hasR a r→geC b r=false)(h2:∀l,hasL b l→geC l a=false):geC a b=true:=(zcy a b).2 ⟨h1,h2⟩
theorem zis {a b:Nat}(h:geC a b=false):(∃r,hasR a r/\geC b r=true)∨∃l,hasL b l/\geC l a=true:=by
 refine Classical.byContradiction fun q=>?_
 have:geC a b=true:=ze5 (fun r hr=>by
  cases e:geC b r with
  | false=>rfl
  | true=>exact absurd (.inl ⟨r,hr,e⟩) q) (fun l hl=>by
  cases e:geC l a with
  | false=>rfl
  | true=>exact absurd (.inr ⟨l,hl,e⟩) q)
 rw[h]at this;cases this
theorem ge_trans' (n:Nat):∀a b c,a+b+c<n→geC a b=true→geC b c=true→geC a c=true:=by
 induction n with
 | zero=>intro a b c h;omega
 | succ n ih =>
  intro a b c hn h1 h2;refine ze5 (fun r hr=>?_) fun l hl=>?_
  ·cases e:geC c r with
   | false=>rfl
   | true =>
    have hlt:=zai (.inr hr);have h3:=ih b c r (by omega) h2 e;rw[zf2 h1 hr]at h3;cases h3
  ·cases e:geC l a with
   | false=>rfl
   | true =>
    have hlt:=zai (.inl hl);have h3:=ih l a b (by omega) e h1;rw[zga h2 hl]at h3;cases h3
theorem zan {a b c:Nat}(h1:geC a b=true)(h2:geC b c=true):geC a c=true:=ge_trans' _ a b c (Nat.lt_succ_self _) h1 h2
theorem zb3 {a b c:Nat}(h1:geC a b=true)(h2:geC a c=false):geC b c=false:=by
 cases e:geC b c with
 | false=>rfl
 | true=>rw[zan h1 e]at h2;cases h2
theorem zb5 {a b c:Nat}(h1:geC c b=true)(h2:geC a b=false):geC a c=false:=by
 cases e:geC a c with
 | false=>rfl
 | true=>rw[zan e h1]at h2;cases h2
theorem zdz {a l:Nat}(h:hasL a l):geC l a=false:=zga (zbu a) h
theorem zcs {a r:Nat}(h:hasR a r):geC a r=false:=zf2 (zbu a) h
structure CanC1 (a:Nat):Prop where
 domL:∀l l',hasL a l→hasL a l'→geC l' l=true→l'=l
 domR:∀r r',hasR a r→hasR a r'→geC r r'=true→r'=r
 revL:∀l r,hasL a l→hasR l r→geC a r=false
 revR:∀r l,hasR a r→hasL r l→geC l a=false
def CanC (a:Nat):Prop:=∀x,SubC a x→CanC1 x
theorem CanC.opt {a x:Nat}(h:CanC a)(ho:optC a x):CanC x:=fun y hy=>h y ((SubC.root.step ho).trans hy)
theorem CanC.mk {a:Nat}(h:CanC1 a)(ho:∀x,optC a x→CanC x):CanC a:=by
 intro x hx;have key:x=a∨∃y,optC a y/\SubC y x:=by
  induction hx with
  | root=>exact .inl rfl
  | step _ hop ih =>
   rcases ih with rfl|⟨y,hy,hs⟩
   ·exact .inr ⟨_,hop,.root⟩
   ·exact .inr ⟨y,hy,hs.step hop⟩
 rcases key with rfl|⟨y,hy,hs⟩
 ·exact h
 ·exact ho y hy x hs
theorem zpk (a b:Nat)(ih:∀x y,x+y<a+b→CanC x→CanC y→geC x y=true→geC y x=true→x=y)(ca:CanC a)(cb:CanC b)(hab:geC a b=true)(hba:geC b a=true) :
  (∀l,hasL a l→hasL b l)/\∀r,hasR a r→hasR b r:=by
 have ka:=ca a .root;have kb:=cb b .root;constructor
 ·intro l hl
  rcases zis (zga hba hl)with ⟨r,hr,e⟩|⟨l',hl',e⟩
  ·have:=zan hab e
   rw[ka.revL l r hl hr]at this;cases this
  ·rcases zis (zga hab hl')with ⟨r,hr,e'⟩|⟨l2,hl2,e'⟩
   ·have:=zan hba e'
    rw[kb.revL l' r hl' hr]at this;cases this
   ·obtain rfl:=ka.domL l l2 hl hl2 (zan e' e)
    have h1:=zai (.inl hl);have h2:=zai (.inl hl');rw[ih l2 l' (by omega) (ca.opt (.inl hl)) (cb.opt (.inl hl')) e' e];exact hl'
 ·intro r hr
  rcases zis (zf2 hab hr)with ⟨r',hr',e⟩|⟨l,hl,e⟩
  ·rcases zis (zf2 hba hr')with ⟨r2,hr2,e'⟩|⟨l,hl,e'⟩
   ·obtain rfl:=ka.domR r r2 hr hr2 (zan e e')
    have h1:=zai (.inr hr);have h2:=zai (.inr hr');rw[ih r2 r' (by omega) (ca.opt (.inr hr)) (cb.opt (.inr hr')) e e'];exact hr'
   ·have:=zan e' hab
    rw[kb.revR r' l hr' hl]at this;cases this
  ·have:=zan e hba
   rw[ka.revR r l hr hl]at this;cases this
theorem can_one' (n:Nat):∀a b,a+b<n→CanC a→CanC b→geC a b=true→geC b a=true→a=b:=by
 induction n with
 | zero=>intro a b h;omega
 | succ n ih =>
  intro a b hn ca cb hab hba;obtain⟨p1,p2⟩:=zpk a b (fun x y h=>ih x y (by omega)) ca cb hab hba;obtain⟨q1,q2⟩:=zpk b a (fun x y h=>ih x y (by omega)) cb ca hba hab;exact zpg (fun i=>⟨p1 i,q1 i⟩) fun i=>⟨p2 i,q2 i⟩
theorem ztn {a b:Nat}(ca:CanC a)(cb:CanC b)(hab:geC a b=true)(hba:geC b a=true):a=b:=can_one' _ a b (Nat.lt_succ_self _) ca cb hab hba
open Classical in
noncomputable def canC (f:Nat):Nat:=if h:∃c,CanC c/\geC c f=true/\geC f c=true then Classical.choose h else 0
theorem ztr {f c:Nat}(h:CanC c)(h1:geC c f=true)(h2:geC f c=true):c=canC f:=by
 have he:∃c,CanC c/\geC c f=true/\geC f c=true:=⟨c,h,h1,h2⟩;unfold canC;rw[dif_pos he];obtain⟨k0,k1,k2⟩:=Classical.choose_spec he;exact ztn h k0 (zan h1 k2) (zan k1 h2)
theorem ztq {c:Nat}(h:CanC c):canC c=c:=(ztr h (zbu c) (zbu c)).symm
theorem zs7 {f:Nat}{KL KR SL SR:List Nat}(aL:∀i∈KL,geC i f=false)(aR:∀i∈KR,geC f i=false)
  (sL:∀i∈SL,(∃j∈KL,geC j i=true)∨∃k,hasR i k/\geC f k=true/\∀l,hasL k l→l∈SL)
  (sR:∀i∈SR,(∃j∈KR,geC i j=true)∨∃k,hasL i k/\geC k f=true/\∀r,hasR k r→r∈SR)
  (oL:∀l,hasL f l→∃i∈SL,geC i l=true) (oR:∀r,hasR f r→∃i∈SR,geC r i=true) :
  geC (mkC KL KR) f=true/\geC f (mkC KL KR)=true:=by
 have cL:∀n i,i<n→i∈SL→geC i (mkC KL KR)=false:=by
  intro n;induction n with
  | zero=>intro i h;omega
  | succ n ih =>
   intro i hn hi;rcases sL i hi with ⟨j,hj,e⟩|⟨k,hk,e,hs⟩
   ·exact zb3 e (zdz ((zam KL KR j).2 hj))
   ·have hlt:=zai (.inr hk)
    have hg:geC (mkC KL KR) k=true:=ze5 (fun r hr=>zb3 e (aR r ((zak KL KR r).1 hr))) fun l hl=>ih l (by have:=zai (.inl hl);omega) (hs l hl)
    exact zb5 hg (zcs hk)
 have cR:∀n i,i<n→i∈SR→geC (mkC KL KR) i=false:=by
  intro n;induction n with
  | zero=>intro i h;omega
  | succ n ih =>
   intro i hn hi;rcases sR i hi with ⟨j,hj,e⟩|⟨k,hk,e,hs⟩
   ·exact zb5 e (zcs ((zak KL KR j).2 hj))
   ·have hlt:=zai (.inl hk)
    have hg:geC k (mkC KL KR)=true:=ze5 (fun r hr=>ih r (by have:=zai (.inr hr);omega) (hs r hr)) fun l hl=>zb5 e (aL l ((zam KL KR l).1 hl))
    exact zb3 hg (zdz hk)
 constructor
 ·refine ze5 (fun r hr=>aR r ((zak KL KR r).1 hr)) fun l hl=>?_
  obtain⟨i,hi,e⟩:=oL l hl;exact zb3 e (cL _ i (Nat.lt_succ_self _) hi)
 ·refine ze5 (fun r hr=>?_) fun l hl=>aL l ((zam KL KR l).1 hl)
  obtain⟨i,hi,e⟩:=oR r hr;exact zb5 e (cR _ i (Nat.lt_succ_self _) hi)
theorem zpu {f:Nat}{KL KR:List Nat}(e1:geC (mkC KL KR) f=true)(e2:geC f (mkC KL KR)=true)(cL:∀i∈KL,CanC i)(cR:∀i∈KR,CanC i)
  (dL:∀i∈KL,∀j∈KL,geC j i=true→j=i) (dR:∀i∈KR,∀j∈KR,geC i j=true→j=i)
  (rL:∀i∈KL,∀r,hasR i r→geC f r=false) (rR:∀i∈KR,∀l,hasL i l→geC l f=false):CanC (mkC KL KR):=by
 refine CanC.mk ⟨fun l l' h h'=>dL l ((zam KL KR l).1 h) l' ((zam KL KR l').1 h'),fun r r' h h'=>dR r ((zak KL KR r).1 h) r' ((zak KL KR r').1 h'),fun l r h h'=>zb3 e2 (rL l ((zam KL KR l).1 h) r h'),fun r l h h'=>zb5 e1 (rR r ((zak KL KR r).1 h) l h')⟩ ?_
 rintro x (h|h)
 ·exact cL x ((zam KL KR x).1 h)
 ·exact cR x ((zak KL KR x).1 h)
theorem zfd {L P:List Nat}{x:Nat}:x∈zap L P↔∃i,L[i]?=some x/\i ∉ P:=by
 unfold zap;rw[List.mem_map];constructor
 ·rintro⟨⟨y,i⟩,h,rfl⟩
  rw[List.mem_filter]at h;exact⟨i,List.mem_zipIdx_iff_getElem?.1 h.1,by simpa using h.2⟩
 ·rintro⟨i,h,hP⟩
  exact⟨(x,i),List.mem_filter.2 ⟨List.mem_zipIdx_iff_getElem?.2 h,by simpa using hP⟩,rfl⟩
theorem znq {g:Nat→Nat→Bool}{L:List Nat}{k:Nat}:k∈domB g L↔k<L.length/\∃j,j<L.length/\domP g L k j=true:=by
 unfold domB;rw[List.mem_filter,List.mem_range,List.any_eq_true];simp only[List.mem_range]
theorem zfu {g:Nat→Nat→Bool}{L:List Nat}{k j:Nat}:domP g L k j=true↔j≠k/\g (L.getD k 0) (L.getD j 0)=true/\(g (L.getD j 0) (L.getD k 0)=false∨j<k):=by
 unfold domP;rw[Bool.and_eq_true,Bool.and_eq_true,Bool.or_eq_true,decide_eq_true_eq,decide_eq_true_eq,Bool.not_eq_true']
theorem zrf {g:Nat→Nat→Bool}(ht:∀a b c,g a b=true→g b c=true→g a c=true){L:List Nat}{k j i:Nat}(h:domP g L k j=true)(h':domP g L j i=true):domP g L k i=true:=by
 rw[zfu]at h h' ⊢;obtain⟨n1,g1,o1⟩:=h;obtain⟨n2,g2,o2⟩:=h';have g3:=ht _ _ _ g1 g2;have key:g (L.getD i 0) (L.getD k 0)=false∨i<k:=by
  cases e:g (L.getD i 0) (L.getD k 0)with
  | false=>exact .inl rfl
  | true =>
   have e1:=ht _ _ _ g2 e;have e2:=ht _ _ _ e g1;rcases o1 with o|o
   ·rw[o]at e1;cases e1
   ·rcases o2 with p|p
    ·rw[p]at e2;cases e2
    ·exact .inr (by omega)
 refine⟨fun e=>?_,g3,key⟩;subst e;rcases o1 with o|o
 ·rw[o]at g2;cases g2
 ·rcases o2 with p|p
  ·rw[p]at g1;cases g1
  ·omega
theorem zth {g:Nat→Nat→Bool}(ht:∀a b c,g a b=true→g b c=true→g a c=true)(L:List Nat):∀n k,k<L.length→((List.range L.length).filter (domP g L k)).length<n →
  ∃j,j<L.length/\j ∉ domB g L/\(j=k∨g (L.getD k 0) (L.getD j 0)=true):=by
 intro n;induction n with
 | zero=>intro k _ h;omega
 | succ n ih =>
  intro k hk hn;by_cases hd:k∈domB g L
  ·obtain⟨_,j,hj,hp⟩:=znq.1 hd
   have hlt:((List.range L.length).filter (domP g L j)).length+1≤((List.range L.length).filter (domP g L k)).length:=by
    have hnd:(j::(List.range L.length).filter (domP g L j)).Nodup:=by
     refine List.nodup_cons.2 ⟨fun h=>?_,List.nodup_range.filter _⟩;exact(zfu.1 (List.mem_filter.1 h).2).1 rfl
    have:=hnd.length_le_of_subset (l₂:=(List.range L.length).filter (domP g L k)) (fun x hx=>by
     rcases List.mem_cons.1 hx with rfl|hx
     ·exact List.mem_filter.2 ⟨List.mem_range.2 hj,hp⟩
     ·obtain⟨h1,h2⟩:=List.mem_filter.1 hx
      exact List.mem_filter.2 ⟨h1,zrf ht hp h2⟩)
    simpa using this
   obtain⟨i,hi,hni,h⟩:=ih j hj (by omega);refine⟨i,hi,hni,.inr ?_⟩;have g1:=(zfu.1 hp).2.1;rcases h with rfl|h
   ·exact g1
   ·exact ht _ _ _ g1 h
  ·exact⟨k,hk,hd,.inl rfl⟩
theorem zg9 {L:List Nat}{i x:Nat}(h:L[i]?=some x):L.getD i 0=x:=by rw[List.getD_eq_getElem?_getD,h];rfl
theorem zcd {g:Nat→Nat→Bool}(ht:∀a b c,g a b=true→g b c=true→g a c=true){L:List Nat}{x:Nat}(hx:x∈L):∃y∈zap L (domB g L),y=x∨g x y=true:=by
 obtain⟨k,hk,rfl⟩:=List.getElem_of_mem hx;obtain⟨j,hj,hn,h⟩:=zth ht L _ k hk (Nat.lt_succ_self _);have e1:=zg9 (List.getElem?_eq_getElem hj);have e2:=zg9 (List.getElem?_eq_getElem hk);refine⟨L[j],zfd.2 ⟨j,List.getElem?_eq_getElem hj,hn⟩,?_⟩;rcases h with rfl|h
 ·exact .inl rfl
 ·rw[e1,e2]at h;exact .inr h
theorem zd1 {g:Nat→Nat→Bool}{L:List Nat}{x y:Nat}(hx:x∈zap L (domB g L))(hy:y∈zap L (domB g L))(h:g x y=true):x=y:=by
 obtain⟨k,hk,nk⟩:=zfd.1 hx;obtain⟨j,hj,nj⟩:=zfd.1 hy;have lk:=(List.getElem?_eq_some_iff.1 hk).1;have lj:=(List.getElem?_eq_some_iff.1 hj).1;by_cases e:j=k
 ·subst e
  rw[hk]at hj;exact Option.some.inj hj
 ·refine absurd (znq.2 ⟨lk,j,lj,?_⟩) nk
  rw[zfu,zg9 hk,zg9 hj];refine⟨e,h,?_⟩;cases hb:g y x with
  | false=>exact .inl rfl
  | true =>
   refine .inr (Classical.byContradiction fun q=>nj (znq.2 ⟨lj,k,lk,?_⟩));rw[zfu,zg9 hk,zg9 hj];exact⟨fun e'=>e e'.symm,hb,.inr (by omega)⟩
def zpp:Nat:=mkC [] []
theorem zym (i:Nat):¬hasL zpp i:=fun h=>by
 have:=(zam [] [] i).1 h;simp at this
theorem zyk (i:Nat):¬hasR zpp i:=fun h=>by
 have:=(zak [] [] i).1 h;simp at this
def posC:Nat→Nat
 | 0=>zpp
 | n+1=>mkC [posC n] []
def zyy:Nat→Nat
 | 0=>zpp
 | n+1=>mkC [] [zyy n]
def intC (t:Int):Nat:=if 0≤t then posC t.toNat else zyy (-t).toNat
theorem zt3:intC 0=zpp:=rfl
theorem zh1 {t:Int}(h:0<t):intC t=mkC [intC (t-1)] []:=by
 unfold intC;rw[if_pos (by omega),if_pos (by omega)];obtain⟨n,hn⟩:∃n:Nat,t.toNat=n+1:=⟨t.toNat-1,by omega⟩;rw[hn,show(t-1).toNat=n from by omega];rfl
theorem zh2 {t:Int}(h:t<0):intC t=mkC [] [intC (t+1)]:=by
 unfold intC;rw[if_neg (by omega)];obtain⟨n,hn⟩:∃n:Nat,(-t).toNat=n+1:=⟨(-t).toNat-1,by omega⟩;rw[hn];by_cases h0:t=-1
 ·subst h0
  have:n=0:=by omega
  subst this
  rfl
 ·rw[if_neg (by omega),show(-(t+1)).toNat=n from by omega]
  rfl
def numF:Nat→Int→Nat→Nat
 | 0,t,_=>intC t
 | k+1,t,p=>if p=0 then intC t else mkC [numF k (redT (t-1) p).1 (redT (t-1) p).2] [numF k (redT (t+1) p).1 (redT (t+1) p).2]
def numC (t:Int)(p:Nat):Nat:=numF p t p
def nr (t:Int)(p:Nat):Nat:=numC (redT t p).1 (redT t p).2
theorem zsr:∀(n k:Nat) (t:Int) (p:Nat),k<n→Red t p→p≤k→numF k t p=numF p t p:=by
 intro n;induction n with
 | zero=>intro k t p h;omega
 | succ n ih =>
  intro k t p hn hr hp;cases k with
  | zero =>
   have:p=0:=by omega
   subst this;rfl
  | succ k =>
   cases p with
   | zero=>rfl
   | succ q =>
    have ho:t%2≠0:=hr.resolve_left (by omega);have h1:=zhk (t:=t-1) (p:=q+1) (by omega) (by omega);have h2:=zhk (t:=t+1) (p:=q+1) (by omega) (by omega);rw[numF,if_neg (by omega),numF,if_neg (by omega)];rw[ih k _ _ (by omega) (zch _ _) (by omega),ih k _ _ (by omega) (zch _ _) (by omega)];by_cases hk:q<n
    ·rw[ih q _ _ hk (zch _ _) (by omega),ih q _ _ hk (zch _ _) (by omega)]
    ·omega
theorem zgy (t:Int):numC t 0=intC t:=rfl
theorem zss {t:Int}{p:Nat}(hp:0<p)(h:t%2≠0):numC t p=mkC [nr (t-1) p] [nr (t+1) p]:=by
 obtain⟨q,rfl⟩:∃q,p=q+1:=⟨p-1,by omega⟩;have h1:=zhk (t:=t-1) (p:=q+1) (by omega) (by omega);have h2:=zhk (t:=t+1) (p:=q+1) (by omega) (by omega);unfold numC nr numC;rw[numF,if_neg (by omega),zsr (q+1) q _ _ (by omega) (zch _ _) (by omega),zsr (q+1) q _ _ (by omega) (zch _ _) (by omega)]
theorem zyv {t:Int}{p:Nat}(h:Red t p):nr t p=numC t p:=by unfold nr;rw[zef h]
theorem zei (t:Int):nr t 0=intC t:=rfl
theorem zc2 {x:Int}{q:Nat}(h:x%2=0):nr x (q+1)=nr (x/2) q:=by unfold nr;rw[zcr h]
theorem zgm {x:Int}{q:Nat}(h:x%2≠0):nr x (q+1)=mkC [nr ((x-1)/2) q] [nr ((x+1)/2) q]:=by
 rw[zyv (.inr h),zss (by omega) h,zc2 (by omega),zc2 (by omega)]
def IsCan (c a:Nat):Prop:=CanC c/\geC c a=true/\geC a c=true
theorem IsCan.eq {c a:Nat}(h:IsCan c a):c=canC a:=ztr h.1 h.2.1 h.2.2
theorem IsCan.self {c a:Nat}(h:IsCan c a):IsCan c c:=⟨h.1,zbu c,zbu c⟩
theorem IsCan.step {c a b:Nat}(h:IsCan c a)(h1:geC a b=true)(h2:geC b a=true):IsCan c b:=⟨h.1,zan h.2.1 h1,zan h2 h.2.2⟩
structure RedL (f:Nat) (KL:List Nat):Prop where
 a:∀i∈KL,geC i f=false
 s:∃SL:List Nat,(∀i∈SL,(∃j∈KL,geC j i=true)∨∃k,hasR i k/\geC f k=true/\∀l,hasL k l→l∈SL)/\∀l,hasL f l→∃i∈SL,geC i l=true
 c:∀i∈KL,CanC i
 d:∀i∈KL,∀j∈KL,geC j i=true→j=i
 r:∀i∈KL,∀r,hasR i r→geC f r=false
structure RedR (f:Nat) (KR:List Nat):Prop where
 a:∀i∈KR,geC f i=false
 s:∃SR:List Nat,(∀i∈SR,(∃j∈KR,geC i j=true)∨∃k,hasL i k/\geC k f=true/\∀l,hasR k l→l∈SR)/\∀l,hasR f l→∃i∈SR,geC l i=true
 c:∀i∈KR,CanC i
 d:∀i∈KR,∀j∈KR,geC i j=true→j=i
 r:∀i∈KR,∀r,hasL i r→geC r f=false
theorem zx7 {f:Nat}{KL KR:List Nat}(hL:RedL f KL)(hR:RedR f KR):IsCan (mkC KL KR) f:=by
 obtain⟨SL,s1,s2⟩:=hL.s;obtain⟨SR,t1,t2⟩:=hR.s;obtain⟨e1,e2⟩:=zs7 hL.a hR.a s1 t1 s2 t2;exact⟨zpu e1 e2 hL.c hR.c hL.d hR.d hL.r hR.r,e1,e2⟩
structure QL (V:List PL) (C:List Nat) (cf:Nat) (S:Nat→Bool) (Q Kp:List Nat):Prop where
 snd:∀i,(S i=true∨i∈Q)→i<V.length/\CanC (C.getD i 0)/\geC (C.getD i 0) cf=false
 kp:∀i∈Kp,S i=true/\∀r∈(za4 V i).2,geC cf (C.getD r 0)=false
 seen:∀i,S i=true→i∈Kp∨∃k∈(za4 V i).2,geC cf (C.getD k 0)=true/\∀l∈(za4 V k).1,S l=true∨l∈Q
 opt:∀l,hasL cf l→∃i,(S i=true∨i∈Q)/\geC (C.getD i 0) l=true
 nodup:Kp.Nodup
structure QR (V:List PL) (C:List Nat) (cf:Nat) (S:Nat→Bool) (Q Kp:List Nat):Prop where
 snd:∀i,(S i=true∨i∈Q)→i<V.length/\CanC (C.getD i 0)/\geC cf (C.getD i 0)=false
 kp:∀i∈Kp,S i=true/\∀r∈(za4 V i).1,geC (C.getD r 0) cf=false
 seen:∀i,S i=true→i∈Kp∨∃k∈(za4 V i).1,geC (C.getD k 0) cf=true/\∀l∈(za4 V k).2,S l=true∨l∈Q
 opt:∀l,hasR cf l→∃i,(S i=true∨i∈Q)/\geC l (C.getD i 0)=true
 nodup:Kp.Nodup
def addS (S:Nat→Bool)(i:Nat):Nat→Bool:=fun k=>S k || decide (k=i)
theorem zar {S:Nat→Bool}{i k:Nat}:addS S i k=true↔S k=true∨k=i:=by
 unfold addS;rw[Bool.or_eq_true,decide_eq_true_eq]
theorem zax {V:List PL}{C:List Nat}(B:BookC V C){i:Nat}(hi:i<V.length):(∀l,hasL (C.getD i 0) l↔∃x∈(za4 V i).1,C.getD x 0=l)/\∀l,hasR (C.getD i 0) l↔∃x∈(za4 V i).2,C.getD x 0=l:=by
 have e:=B.code i _ (zaf hi);exact⟨fun l=>by rw[e,zam,za5],fun l=>by rw[e,zak,za5]⟩
section
variable {V:List PL}{C:List Nat}{f:Nat}{S:Nat→Bool}{Q Kp:List Nat}{i k:Nat}
theorem QL.skip {cf:Nat}(h:QL V C cf S (Q ++ [i]) Kp)(hi:S i=true):QL V C cf S Q Kp:=by
 have key:∀x,S x=true∨x∈Q ++ [i]→S x=true∨x∈Q:=fun x hx=>hx.elim .inl (fun hx=>by
  rcases List.mem_append.1 hx with hx|hx
  ·exact .inr hx
  ·rw[List.mem_singleton.1 hx];exact .inl hi)
 refine⟨fun x hx=>h.snd x (hx.imp_right (List.mem_append_left _)),h.kp,fun x hx=>(h.seen x hx).imp_right (fun⟨k,h1,h2,h3⟩=>⟨k,h1,h2,fun l hl=>key l (h3 l hl)⟩),fun l hl=>?_,h.nodup⟩;obtain⟨x,hx,e⟩:=h.opt l hl;exact⟨x,key x hx,e⟩
theorem QL.keep {cf:Nat}(h:QL V C cf S (Q ++ [i]) Kp)(hi:¬S i=true)(hn:∀r∈(za4 V i).2,geC cf (C.getD r 0)=false):QL V C cf (addS S i) Q (Kp ++ [i]):=by
 have key:∀x,S x=true∨x∈Q ++ [i]→addS S i x=true∨x∈Q:=fun x hx=>hx.elim (fun hx=>.inl (zar.2 (.inl hx))) (fun hx=>by
  rcases List.mem_append.1 hx with hx|hx
  ·exact .inr hx
  ·exact .inl (zar.2 (.inr (List.mem_singleton.1 hx))))
 refine⟨fun x hx=>h.snd x ?_,fun x hx=>?_,fun x hx=>?_,fun l hl=>?_,?_⟩
 ·rcases hx with hx|hx
  ·rcases zar.1 hx with hx|rfl
   ·exact .inl hx
   ·exact .inr (by simp)
  ·exact .inr (List.mem_append_left _ hx)
 ·rcases List.mem_append.1 hx with hx|hx
  ·exact⟨zar.2 (.inl (h.kp x hx).1),(h.kp x hx).2⟩
  ·rw[List.mem_singleton.1 hx]
   exact⟨zar.2 (.inr rfl),hn⟩
 ·rcases zar.1 hx with hx|rfl
  ·rcases h.seen x hx with hx|⟨k,h1,h2,h3⟩
   ·exact .inl (List.mem_append_left _ hx)
   ·exact .inr ⟨k,h1,h2,fun l hl=>key l (h3 l hl)⟩
  ·exact .inl (by simp)
 ·obtain⟨x,hx,e⟩:=h.opt l hl
  exact⟨x,key x hx,e⟩
 ·refine List.nodup_append.2 ⟨h.nodup,by simp,fun a ha b hb e=>?_⟩
  rw[List.mem_singleton.1 hb]at e;subst e;exact hi (h.kp a ha).1
theorem QL.push (B:BookC V C){cf:Nat}(h:QL V C cf S (Q ++ [i]) Kp)(hk:k∈(za4 V i).2)(hg:geC cf (C.getD k 0)=true):QL V C cf (addS S i) (Q++(za4 V k).1) Kp:=by
 obtain⟨hil,hic,_⟩:=h.snd i (.inr (by simp));have hki:=(B.opts i _ (zaf hil)).2 k hk;have hkl:k<V.length:=by omega
 have hkc:CanC (C.getD k 0):=hic.opt (.inr (((zax B hil).2 _).2 ⟨k,hk,rfl⟩));have key:∀x,S x=true∨x∈Q ++ [i]→addS S i x=true∨x∈Q++(za4 V k).1:=fun x hx=>hx.elim (fun hx=>.inl (zar.2 (.inl hx))) (fun hx=>by
  rcases List.mem_append.1 hx with hx|hx
  ·exact .inr (List.mem_append_left _ hx)
  ·exact .inl (zar.2 (.inr (List.mem_singleton.1 hx))))
 refine⟨fun x hx=>?_,fun x hx=>⟨zar.2 (.inl (h.kp x hx).1),(h.kp x hx).2⟩,fun x hx=>?_,fun l hl=>?_,h.nodup⟩
 ·have old:∀x,S x=true∨x∈Q ++ [i]→x<V.length/\CanC (C.getD x 0)/\geC (C.getD x 0) cf=false:=h.snd
  rcases hx with hx|hx
  ·rcases zar.1 hx with hx|rfl
   ·exact old x (.inl hx)
   ·exact old x (.inr (by simp))
  ·rcases List.mem_append.1 hx with hx|hx
   ·exact old x (.inr (List.mem_append_left _ hx))
   ·have hxk:=(B.opts k _ (zaf hkl)).1 x hx
    have hL:hasL (C.getD k 0) (C.getD x 0):=((zax B hkl).1 _).2 ⟨x,hx,rfl⟩;exact⟨by omega,hkc.opt (.inl hL),zb5 hg (zdz hL)⟩
 ·rcases zar.1 hx with hx|rfl
  ·exact(h.seen x hx).imp_right (fun⟨k',h1,h2,h3⟩=>⟨k',h1,h2,fun l hl=>key l (h3 l hl)⟩)
  ·exact .inr ⟨k,hk,hg,fun l hl=>.inr (List.mem_append_right _ hl)⟩
 ·obtain⟨x,hx,e⟩:=h.opt l hl
  exact⟨x,key x hx,e⟩
theorem QL.done (B:BookC V C){cf:Nat}(h:QL V C cf S [] Kp):RedL cf (za1 C (zap Kp (domB (gL C) Kp))):=by
 have ht:∀a b c,gL C a b=true→gL C b c=true→gL C a c=true:=fun a b c h1 h2=>zan h2 h1
 have hsub:∀x∈zap Kp (domB (gL C) Kp),x∈Kp:=fun x hx=>zbm hx
 have hs:∀x∈Kp,x<V.length/\CanC (C.getD x 0)/\geC (C.getD x 0) cf=false:=fun x hx=>h.snd x (.inl (h.kp x hx).1)
 refine⟨fun c hc=>?_,⟨((List.range V.length).filter S).map (fun x=>C.getD x 0),fun c hc=>?_,fun l hl=>?_⟩,fun c hc=>?_,fun c hc c' hc' e=>?_,fun c hc r hr=>?_⟩
 ·obtain⟨x,hx,rfl⟩:=za5.1 hc
  exact(hs x (hsub x hx)).2.2
 ·obtain⟨x,hx,rfl⟩:=List.mem_map.1 hc
  have hSx:=(List.mem_filter.1 hx).2;rcases h.seen x hSx with hk|⟨k,h1,h2,h3⟩
  ·obtain⟨y,hy,hyx⟩:=zcd ht hk
   refine .inl ⟨C.getD y 0,za5.2 ⟨y,hy,rfl⟩,?_⟩;rcases hyx with rfl|e
   ·exact zbu _
   ·exact e
  ·have hxl:=(h.snd x (.inl hSx)).1
   have hkx:=(B.opts x _ (zaf hxl)).2 k h1;refine .inr ⟨C.getD k 0,((zax B hxl).2 _).2 ⟨k,h1,rfl⟩,h2,fun l hl=>?_⟩;obtain⟨z,hz,rfl⟩:=((zax B (show k<V.length by omega)).1 l).1 hl;have hzS:=(h3 z hz).resolve_right (by simp);exact List.mem_map.2 ⟨z,List.mem_filter.2 ⟨List.mem_range.2 (h.snd z (.inl hzS)).1,hzS⟩,rfl⟩
 ·obtain⟨x,hx,e⟩:=h.opt l hl
  have hxS:=hx.resolve_right (by simp);exact⟨_,List.mem_map.2 ⟨x,List.mem_filter.2 ⟨List.mem_range.2 (h.snd x (.inl hxS)).1,hxS⟩,rfl⟩,e⟩
 ·obtain⟨x,hx,rfl⟩:=za5.1 hc
  exact(hs x (hsub x hx)).2.1
 ·obtain⟨x,hx,rfl⟩:=za5.1 hc
  obtain⟨y,hy,rfl⟩:=za5.1 hc';rw[zd1 hx hy e]
 ·obtain⟨x,hx,rfl⟩:=za5.1 hc
  obtain⟨z,hz,rfl⟩:=((zax B (hs x (hsub x hx)).1).2 r).1 hr;exact(h.kp x (hsub x hx)).2 z hz
theorem QR.skip {cf:Nat}(h:QR V C cf S (Q ++ [i]) Kp)(hi:S i=true):QR V C cf S Q Kp:=by
 have key:∀x,S x=true∨x∈Q ++ [i]→S x=true∨x∈Q:=fun x hx=>hx.elim .inl (fun hx=>by
  rcases List.mem_append.1 hx with hx|hx
  ·exact .inr hx
  ·rw[List.mem_singleton.1 hx];exact .inl hi)
 refine⟨fun x hx=>h.snd x (hx.imp_right (List.mem_append_left _)),h.kp,fun x hx=>(h.seen x hx).imp_right (fun⟨k,h1,h2,h3⟩=>⟨k,h1,h2,fun l hl=>key l (h3 l hl)⟩),fun l hl=>?_,h.nodup⟩;obtain⟨x,hx,e⟩:=h.opt l hl;exact⟨x,key x hx,e⟩
theorem QR.keep {cf:Nat}(h:QR V C cf S (Q ++ [i]) Kp)(hi:¬S i=true)(hn:∀r∈(za4 V i).1,geC (C.getD r 0) cf=false):QR V C cf (addS S i) Q (Kp ++ [i]):=by
 have key:∀x,S x=true∨x∈Q ++ [i]→addS S i x=true∨x∈Q:=fun x hx=>hx.elim (fun hx=>.inl (zar.2 (.inl hx))) (fun hx=>by
  rcases List.mem_append.1 hx with hx|hx
  ·exact .inr hx
  ·exact .inl (zar.2 (.inr (List.mem_singleton.1 hx))))
 refine⟨fun x hx=>h.snd x ?_,fun x hx=>?_,fun x hx=>?_,fun l hl=>?_,?_⟩
 ·rcases hx with hx|hx
  ·rcases zar.1 hx with hx|rfl
   ·exact .inl hx
   ·exact .inr (by simp)
  ·exact .inr (List.mem_append_left _ hx)
 ·rcases List.mem_append.1 hx with hx|hx
  ·exact⟨zar.2 (.inl (h.kp x hx).1),(h.kp x hx).2⟩
  ·rw[List.mem_singleton.1 hx]
   exact⟨zar.2 (.inr rfl),hn⟩
 ·rcases zar.1 hx with hx|rfl
  ·rcases h.seen x hx with hx|⟨k,h1,h2,h3⟩
   ·exact .inl (List.mem_append_left _ hx)
   ·exact .inr ⟨k,h1,h2,fun l hl=>key l (h3 l hl)⟩
  ·exact .inl (by simp)
 ·obtain⟨x,hx,e⟩:=h.opt l hl
  exact⟨x,key x hx,e⟩
 ·refine List.nodup_append.2 ⟨h.nodup,by simp,fun a ha b hb e=>?_⟩
  rw[List.mem_singleton.1 hb]at e;subst e;exact hi (h.kp a ha).1
theorem QR.push (B:BookC V C){cf:Nat}(h:QR V C cf S (Q ++ [i]) Kp)(hk:k∈(za4 V i).1)(hg:geC (C.getD k 0) cf=true):QR V C cf (addS S i) (Q++(za4 V k).2) Kp:=by
 obtain⟨hil,hic,_⟩:=h.snd i (.inr (by simp));have hki:=(B.opts i _ (zaf hil)).1 k hk;have hkl:k<V.length:=by omega
 have hkc:CanC (C.getD k 0):=hic.opt (.inl (((zax B hil).1 _).2 ⟨k,hk,rfl⟩));have key:∀x,S x=true∨x∈Q ++ [i]→addS S i x=true∨x∈Q++(za4 V k).2:=fun x hx=>hx.elim (fun hx=>.inl (zar.2 (.inl hx))) (fun hx=>by
  rcases List.mem_append.1 hx with hx|hx
  ·exact .inr (List.mem_append_left _ hx)
  ·exact .inl (zar.2 (.inr (List.mem_singleton.1 hx))))
 refine⟨fun x hx=>?_,fun x hx=>⟨zar.2 (.inl (h.kp x hx).1),(h.kp x hx).2⟩,fun x hx=>?_,fun l hl=>?_,h.nodup⟩
 ·have old:∀x,S x=true∨x∈Q ++ [i]→x<V.length/\CanC (C.getD x 0)/\geC cf (C.getD x 0)=false:=h.snd
  rcases hx with hx|hx
  ·rcases zar.1 hx with hx|rfl
   ·exact old x (.inl hx)
   ·exact old x (.inr (by simp))
  ·rcases List.mem_append.1 hx with hx|hx
   ·exact old x (.inr (List.mem_append_left _ hx))
   ·have hxk:=(B.opts k _ (zaf hkl)).2 x hx
    have hL:hasR (C.getD k 0) (C.getD x 0):=((zax B hkl).2 _).2 ⟨x,hx,rfl⟩;exact⟨by omega,hkc.opt (.inr hL),zb3 hg (zcs hL)⟩
 ·rcases zar.1 hx with hx|rfl
  ·exact(h.seen x hx).imp_right (fun⟨k',h1,h2,h3⟩=>⟨k',h1,h2,fun l hl=>key l (h3 l hl)⟩)
  ·exact .inr ⟨k,hk,hg,fun l hl=>.inr (List.mem_append_right _ hl)⟩
 ·obtain⟨x,hx,e⟩:=h.opt l hl
  exact⟨x,key x hx,e⟩
theorem QR.done (B:BookC V C){cf:Nat}(h:QR V C cf S [] Kp):RedR cf (za1 C (zap Kp (domB (gR C) Kp))):=by
 have ht:∀a b c,gR C a b=true→gR C b c=true→gR C a c=true:=fun a b c h1 h2=>zan h1 h2
 have hsub:∀x∈zap Kp (domB (gR C) Kp),x∈Kp:=fun x hx=>zbm hx
 have hs:∀x∈Kp,x<V.length/\CanC (C.getD x 0)/\geC cf (C.getD x 0)=false:=fun x hx=>h.snd x (.inl (h.kp x hx).1)
 refine⟨fun c hc=>?_,⟨((List.range V.length).filter S).map (fun x=>C.getD x 0),fun c hc=>?_,fun l hl=>?_⟩,fun c hc=>?_,fun c hc c' hc' e=>?_,fun c hc r hr=>?_⟩
 ·obtain⟨x,hx,rfl⟩:=za5.1 hc
  exact(hs x (hsub x hx)).2.2
 ·obtain⟨x,hx,rfl⟩:=List.mem_map.1 hc
  have hSx:=(List.mem_filter.1 hx).2;rcases h.seen x hSx with hk|⟨k,h1,h2,h3⟩
  ·obtain⟨y,hy,hyx⟩:=zcd ht hk
   refine .inl ⟨C.getD y 0,za5.2 ⟨y,hy,rfl⟩,?_⟩;rcases hyx with rfl|e
   ·exact zbu _
   ·exact e
  ·have hxl:=(h.snd x (.inl hSx)).1
   have hkx:=(B.opts x _ (zaf hxl)).1 k h1;refine .inr ⟨C.getD k 0,((zax B hxl).1 _).2 ⟨k,h1,rfl⟩,h2,fun l hl=>?_⟩;obtain⟨z,hz,rfl⟩:=((zax B (show k<V.length by omega)).2 l).1 hl;have hzS:=(h3 z hz).resolve_right (by simp);exact List.mem_map.2 ⟨z,List.mem_filter.2 ⟨List.mem_range.2 (h.snd z (.inl hzS)).1,hzS⟩,rfl⟩
 ·obtain⟨x,hx,e⟩:=h.opt l hl
  have hxS:=hx.resolve_right (by simp);exact⟨_,List.mem_map.2 ⟨x,List.mem_filter.2 ⟨List.mem_range.2 (h.snd x (.inl hxS)).1,hxS⟩,rfl⟩,e⟩
 ·obtain⟨x,hx,rfl⟩:=za5.1 hc
  exact(hs x (hsub x hx)).2.1
 ·obtain⟨x,hx,rfl⟩:=za5.1 hc
  obtain⟨y,hy,rfl⟩:=za5.1 hc';rw[zd1 hx hy e]
 ·obtain⟨x,hx,rfl⟩:=za5.1 hc
  obtain⟨z,hz,rfl⟩:=((zax B (hs x (hsub x hx)).1).1 r).1 hr;exact(h.kp x (hsub x hx)).2 z hz
end
theorem zmu:∀L:List Nat,∃N,∀x∈L,x<N:=by
 intro L;induction L with
 | nil=>exact⟨0,by simp⟩
 | cons a l ih =>
  obtain⟨N,hN⟩:=ih;refine⟨N+a+1,fun x hx=>?_⟩;rcases List.mem_cons.1 hx with rfl|hx
  ·omega
  ·have:=hN x hx;omega
inductive CandL (f:Nat):Nat→Prop
 | opt {l:Nat}:hasL f l→CandL f (canC l)
 | thr {i k l:Nat}:CandL f i→hasR i k→geC f k=true→hasL k l→CandL f l
inductive CandR (f:Nat):Nat→Prop
 | opt {r:Nat}:hasR f r→CandR f (canC r)
 | thr {i k r:Nat}:CandR f i→hasL i k→geC k f=true→hasR k r→CandR f r
theorem CandL.props {f:Nat}(ih:∀i,i<f→IsCan (canC i) i){i:Nat}(h:CandL f i):CanC i/\geC i f=false:=by
 induction h with
 | opt hl =>
  have k:=ih _ (zai (.inl hl));exact⟨k.1,zb3 k.2.2 (zdz hl)⟩
 | thr _ hk hg hl i1=>exact⟨(i1.1.opt (.inr hk)).opt (.inl hl),zb5 hg (zdz hl)⟩
theorem CandR.props {f:Nat}(ih:∀i,i<f→IsCan (canC i) i){i:Nat}(h:CandR f i):CanC i/\geC f i=false:=by
 induction h with
 | opt hl =>
  have k:=ih _ (zai (.inr hl));exact⟨k.1,zb5 k.2.1 (zcs hl)⟩
 | thr _ hk hg hl i1=>exact⟨(i1.1.opt (.inl hk)).opt (.inr hl),zb3 hg (zcs hl)⟩
theorem CandL.lt {f N:Nat}(hN:∀l,hasL f l→canC l<N){i:Nat}(h:CandL f i):i<N:=by
 induction h with
 | opt hl=>exact hN _ hl
 | thr _ hk _ hl i1 =>
  have h1:=zai (.inr hk);have h2:=zai (.inl hl);omega
theorem CandR.lt {f N:Nat}(hN:∀l,hasR f l→canC l<N){i:Nat}(h:CandR f i):i<N:=by
 induction h with
 | opt hl=>exact hN _ hl
 | thr _ hk _ hl i1 =>
  have h1:=zai (.inl hk);have h2:=zai (.inr hl);omega
open Classical in
theorem znb {f:Nat}(ih:∀i,i<f→IsCan (canC i) i):∃K,RedL f K:=by
 obtain⟨N,hN⟩:=zmu ((zvc f).map canC);have hN':∀l,hasL f l→canC l<N:=fun l hl=>hN _ (List.mem_map.2 ⟨l,zfn.2 hl,rfl⟩)
 obtain⟨SL,hSL⟩:∃SL:List Nat,∀i,i∈SL↔CandL f i:=⟨(List.range N).filter fun i=>decide (CandL f i),fun i=>by
  rw[List.mem_filter,List.mem_range,decide_eq_true_eq];exact⟨fun h=>h.2,fun h=>⟨h.lt hN',h⟩⟩⟩
 obtain⟨NR,hNR⟩:∃NR:List Nat,∀i,i∈NR↔CandL f i/\∀r,hasR i r→geC f r=false:=⟨SL.filter fun i=>decide (∀r,hasR i r→geC f r=false),fun i=>by
  rw[List.mem_filter,hSL,decide_eq_true_eq]⟩
 have ht:∀a b c,(fun a b=>geC b a) a b=true→(fun a b=>geC b a) b c=true→(fun a b=>geC b a) a c=true:=fun a b c h1 h2=>zan h2 h1
 have hsub:∀i,i∈zap NR (domB (fun a b=>geC b a) NR)→i∈NR:=fun i hi=>zbm hi
 refine⟨zap NR (domB (fun a b=>geC b a) NR),fun i hi=>(((hNR i).1 (hsub i hi)).1.props ih).2,⟨SL,fun i hi=>?_,fun l hl=>?_⟩,fun i hi=>(((hNR i).1 (hsub i hi)).1.props ih).1,fun i hi j hj e=>(zd1 hi hj e).symm,fun i hi=>((hNR i).1 (hsub i hi)).2⟩
 ·have hc:=(hSL i).1 hi
  by_cases hr:∀r,hasR i r→geC f r=false
  ·obtain⟨y,hy,e⟩:=zcd ht ((hNR i).2 ⟨hc,hr⟩)
   refine .inl ⟨y,hy,?_⟩;rcases e with rfl|e
   ·exact zbu _
   ·exact e
  ·obtain⟨k,hk⟩:=Classical.not_forall.1 hr
   obtain⟨hk1,hk2⟩:=Classical.not_imp.1 hk;have hk3:geC f k=true:=by
    cases e:geC f k with
    | true=>rfl
    | false=>exact absurd e hk2
   exact .inr ⟨k,hk1,hk3,fun l hl=>(hSL l).2 (.thr hc hk1 hk3 hl)⟩
 ·exact⟨canC l,(hSL _).2 (.opt hl),(ih l (zai (.inl hl))).2.1⟩
open Classical in
theorem zna {f:Nat}(ih:∀i,i<f→IsCan (canC i) i):∃K,RedR f K:=by
 obtain⟨N,hN⟩:=zmu ((zom f).map canC);have hN':∀l,hasR f l→canC l<N:=fun l hl=>hN _ (List.mem_map.2 ⟨l,zey.2 hl,rfl⟩)
 obtain⟨SL,hSL⟩:∃SL:List Nat,∀i,i∈SL↔CandR f i:=⟨(List.range N).filter fun i=>decide (CandR f i),fun i=>by
  rw[List.mem_filter,List.mem_range,decide_eq_true_eq];exact⟨fun h=>h.2,fun h=>⟨h.lt hN',h⟩⟩⟩
 obtain⟨NR,hNR⟩:∃NR:List Nat,∀i,i∈NR↔CandR f i/\∀r,hasL i r→geC r f=false:=⟨SL.filter fun i=>decide (∀r,hasL i r→geC r f=false),fun i=>by
  rw[List.mem_filter,hSL,decide_eq_true_eq]⟩
 have ht:∀a b c,geC a b=true→geC b c=true→geC a c=true:=fun a b c h1 h2=>zan h1 h2
 have hsub:∀i,i∈zap NR (domB geC NR)→i∈NR:=fun i hi=>zbm hi
 refine⟨zap NR (domB geC NR),fun i hi=>(((hNR i).1 (hsub i hi)).1.props ih).2,⟨SL,fun i hi=>?_,fun l hl=>?_⟩,fun i hi=>(((hNR i).1 (hsub i hi)).1.props ih).1,fun i hi j hj e=>(zd1 hi hj e).symm,fun i hi=>((hNR i).1 (hsub i hi)).2⟩
 ·have hc:=(hSL i).1 hi
  by_cases hr:∀r,hasL i r→geC r f=false
  ·obtain⟨y,hy,e⟩:=zcd ht ((hNR i).2 ⟨hc,hr⟩)
   refine .inl ⟨y,hy,?_⟩;rcases e with rfl|e
   ·exact zbu _
   ·exact e
  ·obtain⟨k,hk⟩:=Classical.not_forall.1 hr
   obtain⟨hk1,hk2⟩:=Classical.not_imp.1 hk;have hk3:geC k f=true:=by
    cases e:geC k f with
    | true=>rfl
    | false=>exact absurd e hk2
   exact .inr ⟨k,hk1,hk3,fun l hl=>(hSL l).2 (.thr hc hk1 hk3 hl)⟩
 ·exact⟨canC l,(hSL _).2 (.opt hl),(ih l (zai (.inr hl))).2.2⟩
theorem zpi (f:Nat):IsCan (canC f) f:=by
 induction f using Nat.strongRecOn with
 | _ f ih =>
  obtain⟨KL,hL⟩:=znb ih;obtain⟨KR,hR⟩:=zna ih;have h:=zx7 hL hR;rw[h.eq]at h;exact h
theorem zvz {a b:Nat}:canC a=canC b↔geC a b=true/\geC b a=true:=by
 constructor
 ·intro e
  have ha:=zpi a;have hb:=zpi b;rw[←e]at hb;exact⟨zan ha.2.2 hb.2.1,zan hb.2.2 ha.2.1⟩
 ·rintro⟨h1,h2⟩
  exact((zpi a).step h1 h2).eq
end Go.Proofs.YtkofnbjjbcohgaaGreatDoor
