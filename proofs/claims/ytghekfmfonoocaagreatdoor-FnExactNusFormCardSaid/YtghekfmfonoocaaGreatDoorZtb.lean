import Derived.Test.YtghekfmfonoocaaGreatDoorZtt
/- Lemmas. -/
namespace Go.Proofs.YtghekfmfonoocaaGreatDoor
set_option linter.unusedVariables false
set_option linter.unusedSimpArgs false
open Go.RowKit
theorem zch (a:Nat):geC a a=true:=by
 induction a using Nat.strongRecOn with
 | _ a ih =>
  rw[zet];constructor
  ·intro r hr
   cases h:geC a r with
   | false=>rfl
   | true =>
    have h1:=((zet a r).1 h).1 r hr;rw[ih r (za5 (.inr hr))]at h1;cases h1
  ·intro l hl
   cases h:geC l a with
   | false=>rfl
   | true =>
    have h1:=((zet l a).1 h).2 l hl;rw[ih l (za5 (.inl hl))]at h1;cases h1
theorem zdg {a b r:Nat}(h:geC a b=true)(hr:hasR a r):geC b r=false:=((zet a b).1 h).1 r hr
theorem zes {a b l:Nat}(h:geC a b=true)(hl:hasL b l):geC l a=false:=((zet a b).1 h).2 l hl
theorem zbs {a b:Nat}(h1:∀r,hasR a r→geC b r=false)(h2:∀l,hasL b l→geC l a=false):geC a b=true:=(zet a b).2 ⟨h1,h2⟩
theorem zg4 {a b:Nat}(h:geC a b=false):(∃r,hasR a r/\geC b r=true)∨∃l,hasL b l/\geC l a=true:=by
 refine Classical.byContradiction fun q=>?_
 have:geC a b=true:=zbs (fun r hr=>by
  cases e:geC b r with
  | false=>rfl
  | true=>exact absurd (.inl ⟨r,hr,e⟩) q) (fun l hl=>by
  cases e:geC l a with
  | false=>rfl
  | true=>exact absurd (.inr ⟨l,hl,e⟩) q)
 rw[h]at this;cases this
theorem ge_trans' (n:Nat):∀a b c,a+b+c<n→geC a b=true→geC b c=true→geC a c=true:=by
 induction n with
 | zero=>intro a b c h;omega
 | succ n ih =>
  intro a b c hn h1 h2;refine zbs (fun r hr=>?_) fun l hl=>?_
  ·cases e:geC c r with
   | false=>rfl
   | true =>
    have hlt:=za5 (.inr hr);have h3:=ih b c r (by omega) h2 e;rw[zdg h1 hr]at h3;cases h3
  ·cases e:geC l a with
   | false=>rfl
   | true =>
    have hlt:=za5 (.inl hl);have h3:=ih l a b (by omega) e h1;rw[zes h2 hl]at h3;cases h3
theorem zae {a b c:Nat}(h1:geC a b=true)(h2:geC b c=true):geC a c=true:=ge_trans' _ a b c (Nat.lt_succ_self _) h1 h2
theorem zau {a b c:Nat}(h1:geC a b=true)(h2:geC a c=false):geC b c=false:=by
 cases e:geC b c with
 | false=>rfl
 | true=>rw[zae h1 e]at h2;cases h2
theorem zav {a b c:Nat}(h1:geC c b=true)(h2:geC a b=false):geC a c=false:=by
 cases e:geC a c with
 | false=>rfl
 | true=>rw[zae e h1]at h2;cases h2
theorem zbg {a l:Nat}(h:hasL a l):geC l a=false:=zes (zch a) h
theorem zb6 {a r:Nat}(h:hasR a r):geC a r=false:=zdg (zch a) h
structure CanC1 (a:Nat):Prop where
 domL:∀l l',hasL a l→hasL a l'→geC l' l=true→l'=l
 domR:∀r r',hasR a r→hasR a r'→geC r r'=true→r'=r
 revL:∀l r,hasL a l→hasR l r→geC a r=false
 revR:∀r l,hasR a r→hasL r l→geC l a=false
def CanC (a:Nat):Prop:=∀x,SubC a x→CanC1 x
theorem CanC.opt {a x:Nat}(h:CanC a)(ho:optC a x):CanC x:=fun y hy=>h y ((SubC.root.step ho).trans hy)
theorem CanC.mk {a:Nat}(h:CanC1 a)(ho:∀x,optC a x→CanC x):CanC a:=by
 intro x hx;have key:x=a∨∃y,optC a y/\SubC y x:=by
  induction hx with
  | root=>exact .inl rfl
  | step _ hop ih =>
   rcases ih with rfl|⟨y,hy,hs⟩
   ·exact .inr ⟨_,hop,.root⟩
   ·exact .inr ⟨y,hy,hs.step hop⟩
 rcases key with rfl|⟨y,hy,hs⟩
 ·exact h
 ·exact ho y hy x hs
theorem zut (a b:Nat)(ih:∀x y,x+y<a+b→CanC x→CanC y→geC x y=true→geC y x=true→x=y)(ca:CanC a)(cb:CanC b)(hab:geC a b=true)(hba:geC b a=true) :
  (∀l,hasL a l→hasL b l)/\∀r,hasR a r→hasR b r:=by
 have ka:=ca a .root;have kb:=cb b .root;constructor
 ·intro l hl
  rcases zg4 (zes hba hl)with ⟨r,hr,e⟩|⟨l',hl',e⟩
  ·have:=zae hab e
   rw[ka.revL l r hl hr]at this;cases this
  ·rcases zg4 (zes hab hl')with ⟨r,hr,e'⟩|⟨l2,hl2,e'⟩
   ·have:=zae hba e'
    rw[kb.revL l' r hl' hr]at this;cases this
   ·obtain rfl:=ka.domL l l2 hl hl2 (zae e' e)
    have h1:=za5 (.inl hl);have h2:=za5 (.inl hl');rw[ih l2 l' (by omega) (ca.opt (.inl hl)) (cb.opt (.inl hl')) e' e];exact hl'
 ·intro r hr
  rcases zg4 (zdg hab hr)with ⟨r',hr',e⟩|⟨l,hl,e⟩
  ·rcases zg4 (zdg hba hr')with ⟨r2,hr2,e'⟩|⟨l,hl,e'⟩
   ·obtain rfl:=ka.domR r r2 hr hr2 (zae e e')
    have h1:=za5 (.inr hr);have h2:=za5 (.inr hr');rw[ih r2 r' (by omega) (ca.opt (.inr hr)) (cb.opt (.inr hr')) e e'];exact hr'
   ·have:=zae e' hab
    rw[kb.revR r' l hr' hl]at this;cases this
  ·have:=zae e hba
   rw[ka.revR r l hr hl]at this;cases this
theorem can_one' (n:Nat):∀a b,a+b<n→CanC a→CanC b→geC a b=true→geC b a=true→a=b:=by
 induction n with
 | zero=>intro a b h;omega
 | succ n ih =>
  intro a b hn ca cb hab hba;obtain⟨p1,p2⟩:=zut a b (fun x y h=>ih x y (by omega)) ca cb hab hba;obtain⟨q1,q2⟩:=zut b a (fun x y h=>ih x y (by omega)) cb ca hba hab;exact zd1 (fun i=>⟨p1 i,q1 i⟩) fun i=>⟨p2 i,q2 i⟩
theorem zsy {a b:Nat}(ca:CanC a)(cb:CanC b)(hab:geC a b=true)(hba:geC b a=true):a=b:=can_one' _ a b (Nat.lt_succ_self _) ca cb hab hba
open Classical in
noncomputable def canC (f:Nat):Nat:=if h:∃c,CanC c/\geC c f=true/\geC f c=true then Classical.choose h else 0
theorem zt1 {f c:Nat}(h:CanC c)(h1:geC c f=true)(h2:geC f c=true):c=canC f:=by
 have he:∃c,CanC c/\geC c f=true/\geC f c=true:=⟨c,h,h1,h2⟩;unfold canC;rw[dif_pos he];obtain⟨k0,k1,k2⟩:=Classical.choose_spec he;exact zsy h k0 (zae h1 k2) (zae k1 h2)
theorem zi6 {c:Nat}(h:CanC c):canC c=c:=(zt1 h (zch c) (zch c)).symm
theorem zpi {f:Nat}{KL KR SL SR:List Nat}(aL:∀i∈KL,geC i f=false)(aR:∀i∈KR,geC f i=false)
  (sL:∀i∈SL,(∃j∈KL,geC j i=true)∨∃k,hasR i k/\geC f k=true/\∀l,hasL k l→l∈SL)
  (sR:∀i∈SR,(∃j∈KR,geC i j=true)∨∃k,hasL i k/\geC k f=true/\∀r,hasR k r→r∈SR)
  (oL:∀l,hasL f l→∃i∈SL,geC i l=true) (oR:∀r,hasR f r→∃i∈SR,geC r i=true) :
  geC (mkC KL KR) f=true/\geC f (mkC KL KR)=true:=by
 have cL:∀n i,i<n→i∈SL→geC i (mkC KL KR)=false:=by
  intro n;induction n with
  | zero=>intro i h;omega
  | succ n ih =>
   intro i hn hi;rcases sL i hi with ⟨j,hj,e⟩|⟨k,hk,e,hs⟩
   ·exact zau e (zbg ((zab KL KR j).2 hj))
   ·have hlt:=za5 (.inr hk)
    have hg:geC (mkC KL KR) k=true:=zbs (fun r hr=>zau e (aR r ((zad KL KR r).1 hr))) fun l hl=>ih l (by have:=za5 (.inl hl);omega) (hs l hl)
    exact zav hg (zb6 hk)
 have cR:∀n i,i<n→i∈SR→geC (mkC KL KR) i=false:=by
  intro n;induction n with
  | zero=>intro i h;omega
  | succ n ih =>
   intro i hn hi;rcases sR i hi with ⟨j,hj,e⟩|⟨k,hk,e,hs⟩
   ·exact zav e (zb6 ((zad KL KR j).2 hj))
   ·have hlt:=za5 (.inl hk)
    have hg:geC k (mkC KL KR)=true:=zbs (fun r hr=>ih r (by have:=za5 (.inr hr);omega) (hs r hr)) fun l hl=>zav e (aL l ((zab KL KR l).1 hl))
    exact zau hg (zbg hk)
 constructor
 ·refine zbs (fun r hr=>aR r ((zad KL KR r).1 hr)) fun l hl=>?_
  obtain⟨i,hi,e⟩:=oL l hl;exact zau e (cL _ i (Nat.lt_succ_self _) hi)
 ·refine zbs (fun r hr=>?_) fun l hl=>aL l ((zab KL KR l).1 hl)
  obtain⟨i,hi,e⟩:=oR r hr;exact zav e (cR _ i (Nat.lt_succ_self _) hi)
theorem zv6 {f:Nat}{KL KR:List Nat}(e1:geC (mkC KL KR) f=true)(e2:geC f (mkC KL KR)=true)(cL:∀i∈KL,CanC i)(cR:∀i∈KR,CanC i)
  (dL:∀i∈KL,∀j∈KL,geC j i=true→j=i) (dR:∀i∈KR,∀j∈KR,geC i j=true→j=i)
  (rL:∀i∈KL,∀r,hasR i r→geC f r=false) (rR:∀i∈KR,∀l,hasL i l→geC l f=false):CanC (mkC KL KR):=by
 refine CanC.mk ⟨fun l l' h h'=>dL l ((zab KL KR l).1 h) l' ((zab KL KR l').1 h'),fun r r' h h'=>dR r ((zad KL KR r).1 h) r' ((zad KL KR r').1 h'),fun l r h h'=>zau e2 (rL l ((zab KL KR l).1 h) r h'),fun r l h h'=>zav e1 (rR r ((zad KL KR r).1 h) l h')⟩ ?_
 rintro x (h|h)
 ·exact cL x ((zab KL KR x).1 h)
 ·exact cR x ((zad KL KR x).1 h)
theorem zh5 {L P:List Nat}{x:Nat}:x∈zai L P↔∃i,L[i]?=some x/\i ∉ P:=by
 unfold zai;rw[List.mem_map];constructor
 ·rintro⟨⟨y,i⟩,h,rfl⟩
  rw[List.mem_filter]at h;exact⟨i,List.mem_zipIdx_iff_getElem?.1 h.1,by simpa using h.2⟩
 ·rintro⟨i,h,hP⟩
  exact⟨(x,i),List.mem_filter.2 ⟨List.mem_zipIdx_iff_getElem?.2 h,by simpa using hP⟩,rfl⟩
theorem zse {g:Nat→Nat→Bool}{L:List Nat}{k:Nat}:k∈domB g L↔k<L.length/\∃j,j<L.length/\domP g L k j=true:=by
 unfold domB;rw[List.mem_filter,List.mem_range,List.any_eq_true];simp only[List.mem_range]
theorem zi4 {g:Nat→Nat→Bool}{L:List Nat}{k j:Nat}:domP g L k j=true↔j≠k/\g (L.getD k 0) (L.getD j 0)=true/\(g (L.getD j 0) (L.getD k 0)=false∨j<k):=by
 unfold domP;rw[Bool.and_eq_true,Bool.and_eq_true,Bool.or_eq_true,decide_eq_true_eq,decide_eq_true_eq,Bool.not_eq_true']
theorem zx3 {g:Nat→Nat→Bool}(ht:∀a b c,g a b=true→g b c=true→g a c=true){L:List Nat}{k j i:Nat}(h:domP g L k j=true)(h':domP g L j i=true):domP g L k i=true:=by
 rw[zi4]at h h' ⊢;obtain⟨n1,g1,o1⟩:=h;obtain⟨n2,g2,o2⟩:=h';have g3:=ht _ _ _ g1 g2;have key:g (L.getD i 0) (L.getD k 0)=false∨i<k:=by
  cases e:g (L.getD i 0) (L.getD k 0)with
  | false=>exact .inl rfl
  | true =>
   have e1:=ht _ _ _ g2 e;have e2:=ht _ _ _ e g1;rcases o1 with o|o
   ·rw[o]at e1;cases e1
   ·rcases o2 with p|p
    ·rw[p]at e2;cases e2
    ·exact .inr (by omega)
 refine⟨fun e=>?_,g3,key⟩;subst e;rcases o1 with o|o
 ·rw[o]at g2;cases g2
 ·rcases o2 with p|p
  ·rw[p]at g1;cases g1
  ·omega
theorem zzx {g:Nat→Nat→Bool}(ht:∀a b c,g a b=true→g b c=true→g a c=true)(L:List Nat):∀n k,k<L.length→((List.range L.length).filter (domP g L k)).length<n →
  ∃j,j<L.length/\j ∉ domB g L/\(j=k∨g (L.getD k 0) (L.getD j 0)=true):=by
 intro n;induction n with
 | zero=>intro k _ h;omega
 | succ n ih =>
  intro k hk hn;by_cases hd:k∈domB g L
  ·obtain⟨_,j,hj,hp⟩:=zse.1 hd
   have hlt:((List.range L.length).filter (domP g L j)).length+1≤((List.range L.length).filter (domP g L k)).length:=by
    have hnd:(j::(List.range L.length).filter (domP g L j)).Nodup:=by
     refine List.nodup_cons.2 ⟨fun h=>?_,List.nodup_range.filter _⟩;exact(zi4.1 (List.mem_filter.1 h).2).1 rfl
    have:=hnd.length_le_of_subset (l₂:=(List.range L.length).filter (domP g L k)) (fun x hx=>by
     rcases List.mem_cons.1 hx with rfl|hx
     ·exact List.mem_filter.2 ⟨List.mem_range.2 hj,hp⟩
     ·obtain⟨h1,h2⟩:=List.mem_filter.1 hx
      exact List.mem_filter.2 ⟨h1,zx3 ht hp h2⟩)
    simpa using this
   obtain⟨i,hi,hni,h⟩:=ih j hj (by omega);refine⟨i,hi,hni,.inr ?_⟩;have g1:=(zi4.1 hp).2.1;rcases h with rfl|h
   ·exact g1
   ·exact ht _ _ _ g1 h
  ·exact⟨k,hk,hd,.inl rfl⟩
theorem zfm {L:List Nat}{i x:Nat}(h:L[i]?=some x):L.getD i 0=x:=by rw[List.getD_eq_getElem?_getD,h];rfl
theorem zds {g:Nat→Nat→Bool}(ht:∀a b c,g a b=true→g b c=true→g a c=true){L:List Nat}{x:Nat}(hx:x∈L):∃y∈zai L (domB g L),y=x∨g x y=true:=by
 obtain⟨k,hk,rfl⟩:=List.getElem_of_mem hx;obtain⟨j,hj,hn,h⟩:=zzx ht L _ k hk (Nat.lt_succ_self _);have e1:=zfm (List.getElem?_eq_getElem hj);have e2:=zfm (List.getElem?_eq_getElem hk);refine⟨L[j],zh5.2 ⟨j,List.getElem?_eq_getElem hj,hn⟩,?_⟩;rcases h with rfl|h
 ·exact .inl rfl
 ·rw[e1,e2]at h;exact .inr h
theorem zee {g:Nat→Nat→Bool}{L:List Nat}{x y:Nat}(hx:x∈zai L (domB g L))(hy:y∈zai L (domB g L))(h:g x y=true):x=y:=by
 obtain⟨k,hk,nk⟩:=zh5.1 hx;obtain⟨j,hj,nj⟩:=zh5.1 hy;have lk:=(List.getElem?_eq_some_iff.1 hk).1;have lj:=(List.getElem?_eq_some_iff.1 hj).1;by_cases e:j=k
 ·subst e
  rw[hk]at hj;exact Option.some.inj hj
 ·refine absurd (zse.2 ⟨lk,j,lj,?_⟩) nk
  rw[zi4,zfm hk,zfm hj];refine⟨e,h,?_⟩;cases hb:g y x with
  | false=>exact .inl rfl
  | true =>
   refine .inr (Classical.byContradiction fun q=>nj (zse.2 ⟨lj,k,lk,?_⟩));rw[zi4,zfm hk,zfm hj];exact⟨fun e'=>e e'.symm,hb,.inr (by omega)⟩
theorem sum_comm' (n:Nat):∀a b,a+b<n→sumC a b=sumC b a:=by
 induction n with
 | zero=>intro a b h;omega
 | succ n ih =>
  intro a b hn;have k1:∀x,x<a→sumC x b=sumC b x:=fun x hx=>ih x b (by omega)
  have k2:∀x,x<b→sumC a x=sumC x a:=fun x hx=>ih a x (by omega)
  refine zd1 (fun i=>?_) fun i=>?_
  ·rw[zcy,zcy]
   constructor
   ·rintro(⟨l,hl,e⟩|⟨l,hl,e⟩)
    ·exact .inr ⟨l,hl,by rw[←k1 l (za5 (.inl hl))];exact e⟩
    ·exact .inl ⟨l,hl,by rw[←k2 l (za5 (.inl hl))];exact e⟩
   ·rintro(⟨l,hl,e⟩|⟨l,hl,e⟩)
    ·exact .inr ⟨l,hl,by rw[k2 l (za5 (.inl hl))];exact e⟩
    ·exact .inl ⟨l,hl,by rw[k1 l (za5 (.inl hl))];exact e⟩
  ·rw[zcx,zcx]
   constructor
   ·rintro(⟨l,hl,e⟩|⟨l,hl,e⟩)
    ·exact .inr ⟨l,hl,by rw[←k1 l (za5 (.inr hl))];exact e⟩
    ·exact .inl ⟨l,hl,by rw[←k2 l (za5 (.inr hl))];exact e⟩
   ·rintro(⟨l,hl,e⟩|⟨l,hl,e⟩)
    ·exact .inr ⟨l,hl,by rw[k2 l (za5 (.inr hl))];exact e⟩
    ·exact .inl ⟨l,hl,by rw[k1 l (za5 (.inr hl))];exact e⟩
theorem zta (a b:Nat):sumC a b=sumC b a:=sum_comm' _ a b (Nat.lt_succ_self _)
def zar:Nat:=mkC [] []
theorem zxc (i:Nat):¬hasL zar i:=fun h=>by
 have:=(zab [] [] i).1 h;simp at this
theorem zxb (i:Nat):¬hasR zar i:=fun h=>by
 have:=(zad [] [] i).1 h;simp at this
theorem zbm (c:Nat):zb0 (zac c)=c:=(zfy (zbi c)).2.2.2.2.2
theorem ztz:negC zar=zar:=zd1 (fun i=>by
  rw[zhy];exact⟨fun⟨r,hr,_⟩=>absurd hr (zxb r),fun h=>absurd h (zxc i)⟩) fun i=>by
  rw[zhx];exact⟨fun⟨r,hr,_⟩=>absurd hr (zxc r),fun h=>absurd h (zxb i)⟩
def posC:Nat→Nat
 | 0=>zar
 | n+1=>mkC [posC n] []
def zfz:Nat→Nat
 | 0=>zar
 | n+1=>mkC [] [zfz n]
def intC (t:Int):Nat:=if 0≤t then posC t.toNat else zfz (-t).toNat
theorem zzc:intC 0=zar:=rfl
theorem zhs {t:Int}(h:0<t):intC t=mkC [intC (t-1)] []:=by
 unfold intC;rw[if_pos (by omega),if_pos (by omega)];obtain⟨n,hn⟩:∃n:Nat,t.toNat=n+1:=⟨t.toNat-1,by omega⟩;rw[hn,show(t-1).toNat=n from by omega];rfl
theorem zht {t:Int}(h:t<0):intC t=mkC [] [intC (t+1)]:=by
 unfold intC;rw[if_neg (by omega)];obtain⟨n,hn⟩:∃n:Nat,(-t).toNat=n+1:=⟨(-t).toNat-1,by omega⟩;rw[hn];by_cases h0:t=-1
 ·subst h0
  have:n=0:=by omega
  subst this
  rfl
 ·rw[if_neg (by omega),show(-(t+1)).toNat=n from by omega]
  rfl
def numF:Nat→Int→Nat→Nat
 | 0,t,_=>intC t
 | k+1,t,p=>if p=0 then intC t else mkC [numF k (redT (t-1) p).1 (redT (t-1) p).2] [numF k (redT (t+1) p).1 (redT (t+1) p).2]
def numC (t:Int)(p:Nat):Nat:=numF p t p
def nr (t:Int)(p:Nat):Nat:=numC (redT t p).1 (redT t p).2
theorem zys:∀(n k:Nat) (t:Int) (p:Nat),k<n→Red t p→p≤k→numF k t p=numF p t p:=by
 intro n;induction n with
 | zero=>intro k t p h;omega
 | succ n ih =>
  intro k t p hn hr hp;cases k with
  | zero =>
   have:p=0:=by omega
   subst this;rfl
  | succ k =>
   cases p with
   | zero=>rfl
   | succ q =>
    have ho:t%2≠0:=hr.resolve_left (by omega);have h1:=zma (t:=t-1) (p:=q+1) (by omega) (by omega);have h2:=zma (t:=t+1) (p:=q+1) (by omega) (by omega);rw[numF,if_neg (by omega),numF,if_neg (by omega)];rw[ih k _ _ (by omega) (zeh _ _) (by omega),ih k _ _ (by omega) (zeh _ _) (by omega)];by_cases hk:q<n
    ·rw[ih q _ _ hk (zeh _ _) (by omega),ih q _ _ hk (zeh _ _) (by omega)]
    ·omega
theorem zki (t:Int):numC t 0=intC t:=rfl
theorem zpu {t:Int}{p:Nat}(hp:0<p)(h:t%2≠0):numC t p=mkC [nr (t-1) p] [nr (t+1) p]:=by
 obtain⟨q,rfl⟩:∃q,p=q+1:=⟨p-1,by omega⟩;have h1:=zma (t:=t-1) (p:=q+1) (by omega) (by omega);have h2:=zma (t:=t+1) (p:=q+1) (by omega) (by omega);unfold numC nr numC;rw[numF,if_neg (by omega),zys (q+1) q _ _ (by omega) (zeh _ _) (by omega),zys (q+1) q _ _ (by omega) (zeh _ _) (by omega)]
theorem zve {t:Int}{p:Nat}(h:Red t p):nr t p=numC t p:=by unfold nr;rw[zm9 h]
theorem zc4 (t:Int):nr t 0=intC t:=rfl
theorem zbt {x:Int}{q:Nat}(h:x%2=0):nr x (q+1)=nr (x/2) q:=by unfold nr;rw[zft h]
theorem zhi {x:Int}{q:Nat}(h:x%2≠0):nr x (q+1)=mkC [nr ((x-1)/2) q] [nr ((x+1)/2) q]:=by
 rw[zve (.inr h),zpu (by omega) h,zbt (by omega),zbt (by omega)]
theorem zyg {L R:List Nat}{i:Nat}(h:optC (mkC L R) i):i∈L∨i∈R:=h.imp (zab L R i).1 (zad L R i).1
def ycq (t:Int)(p:Nat)(K:Int)(c:Nat):Prop:=(∃k:Int,-K≤k/\k≤K/\c=intC k)∨∃q,q≤p/\(c=nr (t/2^(p-q)) q∨c=nr (t/2^(p-q)+1) q)
theorem zzb {k K:Int}{i:Nat}(h1:-K≤k)(h2:k≤K)(h:optC (intC k) i):∃k:Int,-K≤k/\k≤K/\i=intC k:=by
 by_cases h0:k=0
 ·subst h0
  rw[zzc]at h;rcases h with h|h
  ·exact absurd h (zxc i)
  ·exact absurd h (zxb i)
 ·by_cases hp:0<k
  ·rw[zhs hp]at h
   rcases zyg h with h|h
   ·exact⟨k-1,by omega,by omega,List.mem_singleton.1 h⟩
   ·simp at h
  ·rw[zht (by omega)]at h
   rcases zyg h with h|h
   ·simp at h
   ·exact⟨k+1,by omega,by omega,List.mem_singleton.1 h⟩
theorem zzg {t:Int}{p q:Nat}(h:q+1≤p):t/2^(p-q)=t/2^(p-(q+1))/2:=by
 rw[Int.ediv_ediv_of_nonneg (by exact Int.pow_nonneg (by decide)),←Int.pow_succ,show(p-(q+1)).succ=p-q from by omega]
theorem zym {t:Int}{p:Nat}{K:Int}(hK:-K≤t/2^p/\t/2^p+1≤K):∀(q:Nat),q≤p→∀(x:Int),(x=t/2^(p-q)∨x=t/2^(p-q)+1)→∀i,optC (nr x q) i→ycq t p K i:=by
 intro q;induction q with
 | zero =>
  intro _ x hx i hi;rw[zc4]at hi;rw[Nat.sub_zero]at hx;exact .inl (zzb (by omega) (by omega) hi)
 | succ q ih =>
  intro hq x hx i hi;have e:=zzg hq (t:=t);obtain⟨A,hA⟩:∃A,A=t/2^(p-(q+1)):=⟨_,rfl⟩;rw[←hA]at hx e;have k1:∀y,y=A/2→ycq t p K (nr y q):=fun y hy=>.inr ⟨q,by omega,.inl (by rw[hy,e])⟩
  have k2:∀y,y=A/2+1→ycq t p K (nr y q):=fun y hy=>.inr ⟨q,by omega,.inr (by rw[hy,e])⟩
  by_cases he:x%2=0
  ·rw[zbt he]at hi
   refine ih (by omega) (x/2) ?_ i hi
   rw[e];omega
  ·rw[zhi he]at hi
   rcases zyg hi with h|h
   ·rw[List.mem_singleton.1 h]
    rcases hx with hx|hx
    ·exact k1 _ (by omega)
    ·exact k1 _ (by omega)
   ·rw[List.mem_singleton.1 h]
    rcases hx with hx|hx
    ·exact k2 _ (by omega)
    ·exact k2 _ (by omega)
theorem yds {t:Int}{p:Nat}{K:Int}(hr:Red t p)(hK:-K≤t/2^p/\t/2^p+1≤K){c:Nat}(h:SubC (numC t p) c):ycq t p K c:=by
 induction h with
 | root=>exact .inr ⟨p,Nat.le_refl _,.inl (by rw[Nat.sub_self,Int.pow_zero,Int.ediv_one,zve hr])⟩
 | step _ ho ih =>
  rcases ih with ⟨k,h1,h2,rfl⟩|⟨q,hq,h|h⟩
  ·exact .inl (zzb h1 h2 ho)
  ·rw[h]at ho;exact zym hK q hq _ (.inl rfl) _ ho
  ·rw[h]at ho;exact zym hK q hq _ (.inr rfl) _ ho
def numU (t:Int)(p:Nat)(K:Nat):List Nat:=((List.range (2*K+1)).map fun(i:Nat)=>intC ((i:Int)-K))++(List.range (p+1)).flatMap fun q=>[nr (t/2^(p-q)) q,nr (t/2^(p-q)+1) q]
theorem ztx (t:Int)(p K:Nat):(numU t p K).length=2*K+1+2*(p+1):=by
 unfold numU;rw[List.length_append,List.length_map,List.length_range];congr 1
 have:∀L:List Nat,(L.flatMap fun q=>[nr (t/2^(p-q)) q,nr (t/2^(p-q)+1) q]).length=2*L.length:=by
  intro L;induction L with
  | nil=>rfl
  | cons a l ih=>rw[List.flatMap_cons,List.length_append,ih,List.length_cons];simp;omega
 rw[this,List.length_range]
theorem yes {t:Int}{p K:Nat}(hr:Red t p)(hK:-(K:Int)≤t/2^p/\t/2^p+1≤K){c:Nat}(h:SubC (numC t p) c):c∈numU t p K:=by
 unfold numU;rcases yds hr hK h with ⟨k,h1,h2,rfl⟩|⟨q,hq,h⟩
 ·refine List.mem_append_left _ (List.mem_map.2 ⟨(k+K).toNat,List.mem_range.2 (by omega),?_⟩)
  rw[show(((k+K).toNat:Nat):Int)-(K:Int)=k from by omega]
 ·refine List.mem_append_right _ (List.mem_flatMap.2 ⟨q,List.mem_range.2 (by omega),?_⟩)
  rcases h with h|h
  ·rw[h];simp
  ·rw[h];simp
def numB (t:Int)(p:Nat):Nat:=if p=0 then t.natAbs else t.natAbs/2^p+p+1
theorem ych (n:Nat):n≤bornC (posC n):=by
 induction n with
 | zero=>exact Nat.zero_le _
 | succ n ih =>
  have:=zdx (c:=posC (n+1)) (i:=posC n) (.inl ((zab _ _ _).2 (by simp)));omega
theorem ya8 (n:Nat):n≤bornC (zfz n):=by
 induction n with
 | zero=>exact Nat.zero_le _
 | succ n ih =>
  have:=zdx (c:=zfz (n+1)) (i:=zfz n) (.inr ((zad _ _ _).2 (by simp)));omega
theorem zp0 (t:Int):t.natAbs≤bornC (intC t):=by
 unfold intC;split
 ·have:=ych t.toNat;omega
 ·have:=ya8 (-t).toNat;omega
theorem ydr {n p:Nat}(h:n%2=1)(hp:0<p):(n-1)/2^p=n/2^p:=by
 obtain⟨q,rfl⟩:∃q,p=q+1:=⟨p-1,by omega⟩;rw[Nat.pow_succ,Nat.mul_comm,←Nat.div_div_eq_div_mul,←Nat.div_div_eq_div_mul,show(n-1)/2=n/2 from by omega]
theorem yci:∀(p:Nat) (t:Int),Red t p→numB t p≤bornC (numC t p):=by
 intro p;induction p with
 | zero=>intro t _;exact zp0 t
 | succ p ih =>
  intro t hr;have ho:t%2≠0:=hr.resolve_left (by omega);have e:numC t (p+1)=mkC [nr ((t-1)/2) p] [nr ((t+1)/2) p]:=by rw[←zve hr,zhi ho]
  have l1:=zdx (c:=numC t (p+1)) (i:=nr ((t-1)/2) p) (.inl (by rw[e];exact(zab _ _ _).2 (by simp)));have l2:=zdx (c:=numC t (p+1)) (i:=nr ((t+1)/2) p) (.inr (by rw[e];exact(zad _ _ _).2 (by simp)));unfold numB;rw[if_neg (by omega)];cases p with
  | zero =>
   rw[zc4]at l1 l2;have b1:=zp0 ((t-1)/2);have b2:=zp0 ((t+1)/2);rw[show(2:Nat)^(0+1)=2 from rfl];omega
  | succ p =>
   have hk:∀x:Int,Red x (p+1)→(t.natAbs-1)/2≤x.natAbs→numB x (p+1)≤bornC (nr x (p+1))/\t.natAbs/2^(p+1+1)≤x.natAbs/2^(p+1):=fun x hx hle=>by
    refine⟨by rw[zve hx];exact ih x hx,?_⟩;rw[←ydr (n:=t.natAbs) (p:=p+1+1) (by omega) (by omega),Nat.pow_succ 2 (p+1),Nat.mul_comm,←Nat.div_div_eq_div_mul];exact Nat.div_le_div_right hle
   by_cases h1:((t-1)/2)%2=0
   ·obtain⟨g1,g2⟩:=hk ((t+1)/2) (.inr (by omega)) (by omega)
    unfold numB at g1;rw[if_neg (by omega)]at g1;omega
   ·obtain⟨g1,g2⟩:=hk ((t-1)/2) (.inr h1) (by omega)
    unfold numB at g1;rw[if_neg (by omega)]at g1;omega
theorem ycg:∀(c b:Nat),b≤bornC c→∃x,SubC c x/\bornC x=b:=by
 intro c;induction c using Nat.strongRecOn with
 | _ c ih =>
  intro b hb;by_cases h:b=bornC c
  ·exact⟨c,.root,h.symm⟩
  ·rcases zuv c with h0|⟨i,hi,h1⟩
   ·omega
   ·obtain⟨x,hx,e⟩:=ih i (za5 hi) b (by omega)
    exact⟨x,(SubC.root.step hi).trans hx,e⟩
theorem yck (c:Nat):bornC c+1≤(zac c).length:=by
 obtain⟨P,hA⟩:=zbi c;have hl:=hA.book.len;have h1:∀b∈List.range (bornC c+1),b∈P.map bornC:=fun b hb=>by
  obtain⟨x,hx,e⟩:=ycg c b (by have:=List.mem_range.1 hb;omega);exact List.mem_map.2 ⟨x,(hA.sub x).2 hx,e⟩
 have:=List.nodup_range.length_le_of_subset h1;rw[List.length_range,List.length_map]at this
 omega
noncomputable def numN (t:Int)(p:Nat):List PL:=zac (numC t p)
theorem ztv {t:Int}{p:Nat}(hr:Red t p)(h:120≤numB t p):zam (numN t p)=false:=by
 cases hf:zam (numN t p)with
 | false=>rfl
 | true =>
  unfold zam at hf;rw[decide_eq_true_eq]at hf;have h1:=yck (numC t p);have h2:=yci p t hr;have h3:(zac (numC t p)).length≤120:=hf.1;omega
theorem ydf {n k:Nat}(h:k≤n):SubC (posC n) (posC k):=by
 induction n with
 | zero =>
  have:k=0:=by omega
  subst this;exact .root
 | succ n ih =>
  by_cases e:k=n+1
  ·subst e;exact .root
  ·exact(SubC.root.step (show optC (posC (n+1)) (posC n)from .inl ((zab _ _ _).2 (by simp)))).trans (ih (by omega))
theorem yap {n k:Nat}(h:k≤n):SubC (zfz n) (zfz k):=by
 induction n with
 | zero =>
  have:k=0:=by omega
  subst this;exact .root
 | succ n ih =>
  by_cases e:k=n+1
  ·subst e;exact .root
  ·exact(SubC.root.step (show optC (zfz (n+1)) (zfz n)from .inr ((zad _ _ _).2 (by simp)))).trans (ih (by omega))
theorem zhu (n:Nat):intC (n:Int)=posC n:=by unfold intC;rw[if_pos (by omega)];rfl
theorem zg3 (n:Nat):intC (-(n:Int))=zfz n:=by
 unfold intC;by_cases h:n=0
 ·subst h;rfl
 ·rw[if_neg (by omega),show(- -(n:Int)).toNat=n from by omega]
theorem ztu {t:Int}{p:Nat}(hr:Red t p)(hp:0<p):numC t p=mkC [numC (redT (t-1) p).1 (redT (t-1) p).2] [numC (redT (t+1) p).1 (redT (t+1) p).2]:=zpu hp (hr.resolve_left (by omega))
theorem zyr {t:Int}{p:Nat}(hr:Red t p)(h:t.natAbs/2^p<120):∀a,SubC (numC t p) a→a∈numU t p 121:=fun a ha=>yes hr (by
 have h0:0<2^p:=Nat.pow_pos (by decide);have h1:t.natAbs<120*2^p:=(Nat.div_lt_iff_lt_mul h0).1 h;have e:((2^p:Nat):Int)=(2:Int)^p:=by simp
 have h2:(0:Int)<2^p:=by rw[←e];omega
 constructor
 ·have:-121≤t/2^p:=by
   apply(Int.le_ediv_iff_mul_le h2).2
   rw[←e];omega
  simpa using this
 ·have:t/2^p<121:=by
   apply(Int.ediv_lt_iff_lt_mul h2).2
   rw[←e];omega
  have:t/2^p+1≤121:=by omega
  simpa using this) ha
def IsCan (c a:Nat):Prop:=CanC c/\geC c a=true/\geC a c=true
theorem IsCan.eq {c a:Nat}(h:IsCan c a):c=canC a:=zt1 h.1 h.2.1 h.2.2
theorem IsCan.self {c a:Nat}(h:IsCan c a):IsCan c c:=⟨h.1,zch c,zch c⟩
theorem IsCan.step {c a b:Nat}(h:IsCan c a)(h1:geC a b=true)(h2:geC b a=true):IsCan c b:=⟨h.1,zae h.2.1 h1,zae h2 h.2.2⟩
structure RedL (f:Nat) (KL:List Nat):Prop where
 a:∀i∈KL,geC i f=false
 s:∃SL:List Nat,(∀i∈SL,(∃j∈KL,geC j i=true)∨∃k,hasR i k/\geC f k=true/\∀l,hasL k l→l∈SL)/\∀l,hasL f l→∃i∈SL,geC i l=true
 c:∀i∈KL,CanC i
 d:∀i∈KL,∀j∈KL,geC j i=true→j=i
 r:∀i∈KL,∀r,hasR i r→geC f r=false
structure RedR (f:Nat) (KR:List Nat):Prop where
 a:∀i∈KR,geC f i=false
 s:∃SR:List Nat,(∀i∈SR,(∃j∈KR,geC i j=true)∨∃k,hasL i k/\geC k f=true/\∀l,hasR k l→l∈SR)/\∀l,hasR f l→∃i∈SR,geC l i=true
 c:∀i∈KR,CanC i
 d:∀i∈KR,∀j∈KR,geC i j=true→j=i
 r:∀i∈KR,∀r,hasL i r→geC r f=false
theorem zy3 {f:Nat}{KL KR:List Nat}(hL:RedL f KL)(hR:RedR f KR):IsCan (mkC KL KR) f:=by
 obtain⟨SL,s1,s2⟩:=hL.s;obtain⟨SR,t1,t2⟩:=hR.s;obtain⟨e1,e2⟩:=zpi hL.a hR.a s1 t1 s2 t2;exact⟨zv6 e1 e2 hL.c hR.c hL.d hR.d hL.r hR.r,e1,e2⟩
structure QL (V:List PL) (C:List Nat) (cf:Nat) (S:Nat→Bool) (Q Kp:List Nat):Prop where
 snd:∀i,(S i=true∨i∈Q)→i<V.length/\CanC (C.getD i 0)/\geC (C.getD i 0) cf=false
 kp:∀i∈Kp,S i=true/\∀r∈(za6 V i).2,geC cf (C.getD r 0)=false
 seen:∀i,S i=true→i∈Kp∨∃k∈(za6 V i).2,geC cf (C.getD k 0)=true/\∀l∈(za6 V k).1,S l=true∨l∈Q
 opt:∀l,hasL cf l→∃i,(S i=true∨i∈Q)/\geC (C.getD i 0) l=true
 nodup:Kp.Nodup
structure QR (V:List PL) (C:List Nat) (cf:Nat) (S:Nat→Bool) (Q Kp:List Nat):Prop where
 snd:∀i,(S i=true∨i∈Q)→i<V.length/\CanC (C.getD i 0)/\geC cf (C.getD i 0)=false
 kp:∀i∈Kp,S i=true/\∀r∈(za6 V i).1,geC (C.getD r 0) cf=false
 seen:∀i,S i=true→i∈Kp∨∃k∈(za6 V i).1,geC (C.getD k 0) cf=true/\∀l∈(za6 V k).2,S l=true∨l∈Q
 opt:∀l,hasR cf l→∃i,(S i=true∨i∈Q)/\geC l (C.getD i 0)=true
 nodup:Kp.Nodup
def addS (S:Nat→Bool)(i:Nat):Nat→Bool:=fun k=>S k || decide (k=i)
theorem zax {S:Nat→Bool}{i k:Nat}:addS S i k=true↔S k=true∨k=i:=by
 unfold addS;rw[Bool.or_eq_true,decide_eq_true_eq]
theorem zbh {V:List PL}{C:List Nat}(B:BookC V C){i:Nat}(hi:i<V.length):(∀l,hasL (C.getD i 0) l↔∃x∈(za6 V i).1,C.getD x 0=l)/\∀l,hasR (C.getD i 0) l↔∃x∈(za6 V i).2,C.getD x 0=l:=by
 have e:=B.code i _ (za7 hi);exact⟨fun l=>by rw[e,zab,za8],fun l=>by rw[e,zad,za8]⟩
section
variable {V:List PL}{C:List Nat}{f:Nat}{S:Nat→Bool}{Q Kp:List Nat}{i k:Nat}
theorem QL.skip {cf:Nat}(h:QL V C cf S (Q ++ [i]) Kp)(hi:S i=true):QL V C cf S Q Kp:=by
 have key:∀x,S x=true∨x∈Q ++ [i]→S x=true∨x∈Q:=fun x hx=>hx.elim .inl (fun hx=>by
  rcases List.mem_append.1 hx with hx|hx
  ·exact .inr hx
  ·rw[List.mem_singleton.1 hx];exact .inl hi)
 refine⟨fun x hx=>h.snd x (hx.imp_right (List.mem_append_left _)),h.kp,fun x hx=>(h.seen x hx).imp_right (fun⟨k,h1,h2,h3⟩=>⟨k,h1,h2,fun l hl=>key l (h3 l hl)⟩),fun l hl=>?_,h.nodup⟩;obtain⟨x,hx,e⟩:=h.opt l hl;exact⟨x,key x hx,e⟩
theorem QL.keep {cf:Nat}(h:QL V C cf S (Q ++ [i]) Kp)(hi:¬S i=true)(hn:∀r∈(za6 V i).2,geC cf (C.getD r 0)=false):QL V C cf (addS S i) Q (Kp ++ [i]):=by
 have key:∀x,S x=true∨x∈Q ++ [i]→addS S i x=true∨x∈Q:=fun x hx=>hx.elim (fun hx=>.inl (zax.2 (.inl hx))) (fun hx=>by
  rcases List.mem_append.1 hx with hx|hx
  ·exact .inr hx
  ·exact .inl (zax.2 (.inr (List.mem_singleton.1 hx))))
 refine⟨fun x hx=>h.snd x ?_,fun x hx=>?_,fun x hx=>?_,fun l hl=>?_,?_⟩
 ·rcases hx with hx|hx
  ·rcases zax.1 hx with hx|rfl
   ·exact .inl hx
   ·exact .inr (by simp)
  ·exact .inr (List.mem_append_left _ hx)
 ·rcases List.mem_append.1 hx with hx|hx
  ·exact⟨zax.2 (.inl (h.kp x hx).1),(h.kp x hx).2⟩
  ·rw[List.mem_singleton.1 hx]
   exact⟨zax.2 (.inr rfl),hn⟩
 ·rcases zax.1 hx with hx|rfl
  ·rcases h.seen x hx with hx|⟨k,h1,h2,h3⟩
   ·exact .inl (List.mem_append_left _ hx)
   ·exact .inr ⟨k,h1,h2,fun l hl=>key l (h3 l hl)⟩
  ·exact .inl (by simp)
 ·obtain⟨x,hx,e⟩:=h.opt l hl
  exact⟨x,key x hx,e⟩
 ·refine List.nodup_append.2 ⟨h.nodup,by simp,fun a ha b hb e=>?_⟩
  rw[List.mem_singleton.1 hb]at e;subst e;exact hi (h.kp a ha).1
theorem QL.push (B:BookC V C){cf:Nat}(h:QL V C cf S (Q ++ [i]) Kp)(hk:k∈(za6 V i).2)(hg:geC cf (C.getD k 0)=true):QL V C cf (addS S i) (Q++(za6 V k).1) Kp:=by
 obtain⟨hil,hic,_⟩:=h.snd i (.inr (by simp));have hki:=(B.opts i _ (za7 hil)).2 k hk;have hkl:k<V.length:=by omega
 have hkc:CanC (C.getD k 0):=hic.opt (.inr (((zbh B hil).2 _).2 ⟨k,hk,rfl⟩));have key:∀x,S x=true∨x∈Q ++ [i]→addS S i x=true∨x∈Q++(za6 V k).1:=fun x hx=>hx.elim (fun hx=>.inl (zax.2 (.inl hx))) (fun hx=>by
  rcases List.mem_append.1 hx with hx|hx
  ·exact .inr (List.mem_append_left _ hx)
  ·exact .inl (zax.2 (.inr (List.mem_singleton.1 hx))))
 refine⟨fun x hx=>?_,fun x hx=>⟨zax.2 (.inl (h.kp x hx).1),(h.kp x hx).2⟩,fun x hx=>?_,fun l hl=>?_,h.nodup⟩
 ·have old:∀x,S x=true∨x∈Q ++ [i]→x<V.length/\CanC (C.getD x 0)/\geC (C.getD x 0) cf=false:=h.snd
  rcases hx with hx|hx
  ·rcases zax.1 hx with hx|rfl
   ·exact old x (.inl hx)
   ·exact old x (.inr (by simp))
  ·rcases List.mem_append.1 hx with hx|hx
   ·exact old x (.inr (List.mem_append_left _ hx))
   ·have hxk:=(B.opts k _ (za7 hkl)).1 x hx
    have hL:hasL (C.getD k 0) (C.getD x 0):=((zbh B hkl).1 _).2 ⟨x,hx,rfl⟩;exact⟨by omega,hkc.opt (.inl hL),zav hg (zbg hL)⟩
 ·rcases zax.1 hx with hx|rfl
  ·exact(h.seen x hx).imp_right (fun⟨k',h1,h2,h3⟩=>⟨k',h1,h2,fun l hl=>key l (h3 l hl)⟩)
  ·exact .inr ⟨k,hk,hg,fun l hl=>.inr (List.mem_append_right _ hl)⟩
 ·obtain⟨x,hx,e⟩:=h.opt l hl
  exact⟨x,key x hx,e⟩
theorem QL.done (B:BookC V C){cf:Nat}(h:QL V C cf S [] Kp):RedL cf (za1 C (zai Kp (domB (gL C) Kp))):=by
 have ht:∀a b c,gL C a b=true→gL C b c=true→gL C a c=true:=fun a b c h1 h2=>zae h2 h1
 have hsub:∀x∈zai Kp (domB (gL C) Kp),x∈Kp:=fun x hx=>zby hx
 have hs:∀x∈Kp,x<V.length/\CanC (C.getD x 0)/\geC (C.getD x 0) cf=false:=fun x hx=>h.snd x (.inl (h.kp x hx).1)
 refine⟨fun c hc=>?_,⟨((List.range V.length).filter S).map (fun x=>C.getD x 0),fun c hc=>?_,fun l hl=>?_⟩,fun c hc=>?_,fun c hc c' hc' e=>?_,fun c hc r hr=>?_⟩
 ·obtain⟨x,hx,rfl⟩:=za8.1 hc
  exact(hs x (hsub x hx)).2.2
 ·obtain⟨x,hx,rfl⟩:=List.mem_map.1 hc
  have hSx:=(List.mem_filter.1 hx).2;rcases h.seen x hSx with hk|⟨k,h1,h2,h3⟩
  ·obtain⟨y,hy,hyx⟩:=zds ht hk
   refine .inl ⟨C.getD y 0,za8.2 ⟨y,hy,rfl⟩,?_⟩;rcases hyx with rfl|e
   ·exact zch _
   ·exact e
  ·have hxl:=(h.snd x (.inl hSx)).1
   have hkx:=(B.opts x _ (za7 hxl)).2 k h1;refine .inr ⟨C.getD k 0,((zbh B hxl).2 _).2 ⟨k,h1,rfl⟩,h2,fun l hl=>?_⟩;obtain⟨z,hz,rfl⟩:=((zbh B (show k<V.length by omega)).1 l).1 hl;have hzS:=(h3 z hz).resolve_right (by simp);exact List.mem_map.2 ⟨z,List.mem_filter.2 ⟨List.mem_range.2 (h.snd z (.inl hzS)).1,hzS⟩,rfl⟩
 ·obtain⟨x,hx,e⟩:=h.opt l hl
  have hxS:=hx.resolve_right (by simp);exact⟨_,List.mem_map.2 ⟨x,List.mem_filter.2 ⟨List.mem_range.2 (h.snd x (.inl hxS)).1,hxS⟩,rfl⟩,e⟩
 ·obtain⟨x,hx,rfl⟩:=za8.1 hc
  exact(hs x (hsub x hx)).2.1
 ·obtain⟨x,hx,rfl⟩:=za8.1 hc
  obtain⟨y,hy,rfl⟩:=za8.1 hc';rw[zee hx hy e]
 ·obtain⟨x,hx,rfl⟩:=za8.1 hc
  obtain⟨z,hz,rfl⟩:=((zbh B (hs x (hsub x hx)).1).2 r).1 hr;exact(h.kp x (hsub x hx)).2 z hz
theorem QR.skip {cf:Nat}(h:QR V C cf S (Q ++ [i]) Kp)(hi:S i=true):QR V C cf S Q Kp:=by
 have key:∀x,S x=true∨x∈Q ++ [i]→S x=true∨x∈Q:=fun x hx=>hx.elim .inl (fun hx=>by
  rcases List.mem_append.1 hx with hx|hx
  ·exact .inr hx
  ·rw[List.mem_singleton.1 hx];exact .inl hi)
 refine⟨fun x hx=>h.snd x (hx.imp_right (List.mem_append_left _)),h.kp,fun x hx=>(h.seen x hx).imp_right (fun⟨k,h1,h2,h3⟩=>⟨k,h1,h2,fun l hl=>key l (h3 l hl)⟩),fun l hl=>?_,h.nodup⟩;obtain⟨x,hx,e⟩:=h.opt l hl;exact⟨x,key x hx,e⟩
theorem QR.keep {cf:Nat}(h:QR V C cf S (Q ++ [i]) Kp)(hi:¬S i=true)(hn:∀r∈(za6 V i).1,geC (C.getD r 0) cf=false):QR V C cf (addS S i) Q (Kp ++ [i]):=by
 have key:∀x,S x=true∨x∈Q ++ [i]→addS S i x=true∨x∈Q:=fun x hx=>hx.elim (fun hx=>.inl (zax.2 (.inl hx))) (fun hx=>by
  rcases List.mem_append.1 hx with hx|hx
  ·exact .inr hx
  ·exact .inl (zax.2 (.inr (List.mem_singleton.1 hx))))
 refine⟨fun x hx=>h.snd x ?_,fun x hx=>?_,fun x hx=>?_,fun l hl=>?_,?_⟩
 ·rcases hx with hx|hx
  ·rcases zax.1 hx with hx|rfl
   ·exact .inl hx
   ·exact .inr (by simp)
  ·exact .inr (List.mem_append_left _ hx)
 ·rcases List.mem_append.1 hx with hx|hx
  ·exact⟨zax.2 (.inl (h.kp x hx).1),(h.kp x hx).2⟩
  ·rw[List.mem_singleton.1 hx]
   exact⟨zax.2 (.inr rfl),hn⟩
 ·rcases zax.1 hx with hx|rfl
  ·rcases h.seen x hx with hx|⟨k,h1,h2,h3⟩
   ·exact .inl (List.mem_append_left _ hx)
   ·exact .inr ⟨k,h1,h2,fun l hl=>key l (h3 l hl)⟩
  ·exact .inl (by simp)
 ·obtain⟨x,hx,e⟩:=h.opt l hl
  exact⟨x,key x hx,e⟩
 ·refine List.nodup_append.2 ⟨h.nodup,by simp,fun a ha b hb e=>?_⟩
  rw[List.mem_singleton.1 hb]at e;subst e;exact hi (h.kp a ha).1
theorem QR.push (B:BookC V C){cf:Nat}(h:QR V C cf S (Q ++ [i]) Kp)(hk:k∈(za6 V i).1)(hg:geC (C.getD k 0) cf=true):QR V C cf (addS S i) (Q++(za6 V k).2) Kp:=by
 obtain⟨hil,hic,_⟩:=h.snd i (.inr (by simp));have hki:=(B.opts i _ (za7 hil)).1 k hk;have hkl:k<V.length:=by omega
 have hkc:CanC (C.getD k 0):=hic.opt (.inl (((zbh B hil).1 _).2 ⟨k,hk,rfl⟩));have key:∀x,S x=true∨x∈Q ++ [i]→addS S i x=true∨x∈Q++(za6 V k).2:=fun x hx=>hx.elim (fun hx=>.inl (zax.2 (.inl hx))) (fun hx=>by
  rcases List.mem_append.1 hx with hx|hx
  ·exact .inr (List.mem_append_left _ hx)
  ·exact .inl (zax.2 (.inr (List.mem_singleton.1 hx))))
 refine⟨fun x hx=>?_,fun x hx=>⟨zax.2 (.inl (h.kp x hx).1),(h.kp x hx).2⟩,fun x hx=>?_,fun l hl=>?_,h.nodup⟩
 ·have old:∀x,S x=true∨x∈Q ++ [i]→x<V.length/\CanC (C.getD x 0)/\geC cf (C.getD x 0)=false:=h.snd
  rcases hx with hx|hx
  ·rcases zax.1 hx with hx|rfl
   ·exact old x (.inl hx)
   ·exact old x (.inr (by simp))
  ·rcases List.mem_append.1 hx with hx|hx
   ·exact old x (.inr (List.mem_append_left _ hx))
   ·have hxk:=(B.opts k _ (za7 hkl)).2 x hx
    have hL:hasR (C.getD k 0) (C.getD x 0):=((zbh B hkl).2 _).2 ⟨x,hx,rfl⟩;exact⟨by omega,hkc.opt (.inr hL),zau hg (zb6 hL)⟩
 ·rcases zax.1 hx with hx|rfl
  ·exact(h.seen x hx).imp_right (fun⟨k',h1,h2,h3⟩=>⟨k',h1,h2,fun l hl=>key l (h3 l hl)⟩)
  ·exact .inr ⟨k,hk,hg,fun l hl=>.inr (List.mem_append_right _ hl)⟩
 ·obtain⟨x,hx,e⟩:=h.opt l hl
  exact⟨x,key x hx,e⟩
theorem QR.done (B:BookC V C){cf:Nat}(h:QR V C cf S [] Kp):RedR cf (za1 C (zai Kp (domB (gR C) Kp))):=by
 have ht:∀a b c,gR C a b=true→gR C b c=true→gR C a c=true:=fun a b c h1 h2=>zae h1 h2
 have hsub:∀x∈zai Kp (domB (gR C) Kp),x∈Kp:=fun x hx=>zby hx
 have hs:∀x∈Kp,x<V.length/\CanC (C.getD x 0)/\geC cf (C.getD x 0)=false:=fun x hx=>h.snd x (.inl (h.kp x hx).1)
 refine⟨fun c hc=>?_,⟨((List.range V.length).filter S).map (fun x=>C.getD x 0),fun c hc=>?_,fun l hl=>?_⟩,fun c hc=>?_,fun c hc c' hc' e=>?_,fun c hc r hr=>?_⟩
 ·obtain⟨x,hx,rfl⟩:=za8.1 hc
  exact(hs x (hsub x hx)).2.2
 ·obtain⟨x,hx,rfl⟩:=List.mem_map.1 hc
  have hSx:=(List.mem_filter.1 hx).2;rcases h.seen x hSx with hk|⟨k,h1,h2,h3⟩
  ·obtain⟨y,hy,hyx⟩:=zds ht hk
   refine .inl ⟨C.getD y 0,za8.2 ⟨y,hy,rfl⟩,?_⟩;rcases hyx with rfl|e
   ·exact zch _
   ·exact e
  ·have hxl:=(h.snd x (.inl hSx)).1
   have hkx:=(B.opts x _ (za7 hxl)).1 k h1;refine .inr ⟨C.getD k 0,((zbh B hxl).1 _).2 ⟨k,h1,rfl⟩,h2,fun l hl=>?_⟩;obtain⟨z,hz,rfl⟩:=((zbh B (show k<V.length by omega)).2 l).1 hl;have hzS:=(h3 z hz).resolve_right (by simp);exact List.mem_map.2 ⟨z,List.mem_filter.2 ⟨List.mem_range.2 (h.snd z (.inl hzS)).1,hzS⟩,rfl⟩
 ·obtain⟨x,hx,e⟩:=h.opt l hl
  have hxS:=hx.resolve_right (by simp);exact⟨_,List.mem_map.2 ⟨x,List.mem_filter.2 ⟨List.mem_range.2 (h.snd x (.inl hxS)).1,hxS⟩,rfl⟩,e⟩
 ·obtain⟨x,hx,rfl⟩:=za8.1 hc
  exact(hs x (hsub x hx)).2.1
 ·obtain⟨x,hx,rfl⟩:=za8.1 hc
  obtain⟨y,hy,rfl⟩:=za8.1 hc';rw[zee hx hy e]
 ·obtain⟨x,hx,rfl⟩:=za8.1 hc
  obtain⟨z,hz,rfl⟩:=((zbh B (hs x (hsub x hx)).1).1 r).1 hr;exact(h.kp x (hsub x hx)).2 z hz
end
noncomputable def canN (Fs:List PL):List PL:=zac (canC (zb0 Fs))
theorem can_left' {c x l:Nat}(hc:CanC c)(hl:hasL c l):∀y,SubC x y→geC c y=true→geC l y=false→∃s,SubC x s/\geC s l=true/\geC l s=true:=by
 intro y;induction y using Nat.strongRecOn with
 | _ y ih =>
  intro hy h1 h2;have k:=hc c .root;rcases zg4 h2 with ⟨r,hr,e⟩|⟨z,hz,e⟩
  ·have:=zae h1 e
   rw[k.revL l r hl hr]at this;cases this
  ·have hsz:=hy.step (.inl hz)
   rcases zg4 (zes h1 hz)with ⟨r,hr,e'⟩|⟨l',hl',e'⟩
   ·have l1:=za5 (.inl hz)
    have l2:=za5 (.inr hr);exact ih r (by omega) (hsz.step (.inr hr)) e' (zdg e hr)
   ·have h:=k.domL l l' hl hl' (zae e' e)
    rw[h]at e';exact⟨z,hsz,e,e'⟩
theorem can_right' {c x l:Nat}(hc:CanC c)(hl:hasR c l):∀y,SubC x y→geC y c=true→geC y l=false→∃s,SubC x s/\geC s l=true/\geC l s=true:=by
 intro y;induction y using Nat.strongRecOn with
 | _ y ih =>
  intro hy h1 h2;have k:=hc c .root;rcases zg4 h2 with ⟨z,hz,e⟩|⟨r,hr,e⟩
  ·have hsz:=hy.step (.inr hz)
   rcases zg4 (zdg h1 hz)with ⟨l',hl',e'⟩|⟨r,hr,e'⟩
   ·have h:=k.domR l l' hl hl' (zae e e')
    rw[h]at e';exact⟨z,hsz,e',e⟩
   ·have l1:=za5 (.inr hz)
    have l2:=za5 (.inl hr);exact ih r (by omega) (hsz.step (.inl hr)) e' (zes e hr)
  ·have:=zae e h1
   rw[k.revR l r hl hr]at this;cases this
theorem zx6 {c x s:Nat}(hc:CanC c)(h1:geC x c=true)(h2:geC c x=true)(hs:SubC c s):∃s',SubC x s'∧geC s' s=true/\geC s s'=true:=by
 induction hs with
 | root=>exact⟨x,.root,h1,h2⟩
 | step hs ho ih =>
  obtain⟨y,hy,e1,e2⟩:=ih;rename_i a o
  have ca:CanC a:=fun z hz=>hc z (hs.trans hz)
  rcases ho with h|h
  ·obtain⟨s',t1,t2,t3⟩:=can_left' ca h y .root e2 (zav e1 (zbg h))
   exact⟨s',hy.trans t1,t2,t3⟩
  ·obtain⟨s',t1,t2,t3⟩:=can_right' ca h y .root e1 (zau e2 (zb6 h))
   exact⟨s',hy.trans t1,t2,t3⟩
theorem ya6 {c x:Nat}(hc:CanC c)(h1:geC x c=true)(h2:geC c x=true){Fs:List PL}(hF:FormC x Fs):(zac c).length≤Fs.length:=by
 obtain⟨P,hA⟩:=zbi c;obtain⟨P',hA'⟩:=hF;have hl:=hA.book.len;have hl':=hA'.book.len;have hex:∀s,∃s',SubC c s→SubC x s'∧geC s' s=true/\geC s s'=true:=fun s=>by
  by_cases h:SubC c s
  ·obtain⟨s',e⟩:=zx6 hc h1 h2 h
   exact⟨s',fun _=>e⟩
  ·exact⟨0,fun q=>absurd q h⟩
 let f:Nat→Nat:=fun s=>Classical.choose (hex s)
 have hf:∀s,SubC c s→SubC x (f s)/\geC (f s) s=true/\geC s (f s)=true:=fun s=>Classical.choose_spec (hex s)
 have hn:(P.map f).Nodup:=by
  refine List.pairwise_map.2 (hA.book.nodup.imp_of_mem ?_);intro a b ha hb hab e;obtain⟨_,a1,a2⟩:=hf a ((hA.sub a).1 ha);obtain⟨_,b1,b2⟩:=hf b ((hA.sub b).1 hb);rw[e]at a1 a2;exact hab (zsy (fun z hz=>hc z (((hA.sub a).1 ha).trans hz)) (fun z hz=>hc z (((hA.sub b).1 hb).trans hz)) (zae a2 b1) (zae b2 a1))
 have:=hn.length_le_of_subset (l₂:=P') (fun s hs=>by
  obtain⟨a,ha,rfl⟩:=List.mem_map.1 hs;exact(hA'.sub _).2 (hf a ((hA.sub a).1 ha)).1)
 rw[List.length_map]at this
 omega
theorem zre:∀L:List Nat,∃N,∀x∈L,x<N:=by
 intro L;induction L with
 | nil=>exact⟨0,by simp⟩
 | cons a l ih =>
  obtain⟨N,hN⟩:=ih;refine⟨N+a+1,fun x hx=>?_⟩;rcases List.mem_cons.1 hx with rfl|hx
  ·omega
  ·have:=hN x hx;omega
inductive CandL (f:Nat):Nat→Prop
 | opt {l:Nat}:hasL f l→CandL f (canC l)
 | thr {i k l:Nat}:CandL f i→hasR i k→geC f k=true→hasL k l→CandL f l
inductive CandR (f:Nat):Nat→Prop
 | opt {r:Nat}:hasR f r→CandR f (canC r)
 | thr {i k r:Nat}:CandR f i→hasL i k→geC k f=true→hasR k r→CandR f r
theorem CandL.props {f:Nat}(ih:∀i,i<f→IsCan (canC i) i){i:Nat}(h:CandL f i):CanC i/\geC i f=false:=by
 induction h with
 | opt hl =>
  have k:=ih _ (za5 (.inl hl));exact⟨k.1,zau k.2.2 (zbg hl)⟩
 | thr _ hk hg hl i1=>exact⟨(i1.1.opt (.inr hk)).opt (.inl hl),zav hg (zbg hl)⟩
theorem CandR.props {f:Nat}(ih:∀i,i<f→IsCan (canC i) i){i:Nat}(h:CandR f i):CanC i/\geC f i=false:=by
 induction h with
 | opt hl =>
  have k:=ih _ (za5 (.inr hl));exact⟨k.1,zav k.2.1 (zb6 hl)⟩
 | thr _ hk hg hl i1=>exact⟨(i1.1.opt (.inl hk)).opt (.inr hl),zau hg (zb6 hl)⟩
theorem CandL.lt {f N:Nat}(hN:∀l,hasL f l→canC l<N){i:Nat}(h:CandL f i):i<N:=by
 induction h with
 | opt hl=>exact hN _ hl
 | thr _ hk _ hl i1 =>
  have h1:=za5 (.inr hk);have h2:=za5 (.inl hl);omega
theorem CandR.lt {f N:Nat}(hN:∀l,hasR f l→canC l<N){i:Nat}(h:CandR f i):i<N:=by
 induction h with
 | opt hl=>exact hN _ hl
 | thr _ hk _ hl i1 =>
  have h1:=za5 (.inl hk);have h2:=za5 (.inr hl);omega
open Classical in
theorem zry {f:Nat}(ih:∀i,i<f→IsCan (canC i) i):∃K,RedL f K:=by
 obtain⟨N,hN⟩:=zre ((zig f).map canC);have hN':∀l,hasL f l→canC l<N:=fun l hl=>hN _ (List.mem_map.2 ⟨l,zb7.2 hl,rfl⟩)
 obtain⟨SL,hSL⟩:∃SL:List Nat,∀i,i∈SL↔CandL f i:=⟨(List.range N).filter fun i=>decide (CandL f i),fun i=>by
  rw[List.mem_filter,List.mem_range,decide_eq_true_eq];exact⟨fun h=>h.2,fun h=>⟨h.lt hN',h⟩⟩⟩
 obtain⟨NR,hNR⟩:∃NR:List Nat,∀i,i∈NR↔CandL f i/\∀r,hasR i r→geC f r=false:=⟨SL.filter fun i=>decide (∀r,hasR i r→geC f r=false),fun i=>by
  rw[List.mem_filter,hSL,decide_eq_true_eq]⟩
 have ht:∀a b c,(fun a b=>geC b a) a b=true→(fun a b=>geC b a) b c=true→(fun a b=>geC b a) a c=true:=fun a b c h1 h2=>zae h2 h1
 have hsub:∀i,i∈zai NR (domB (fun a b=>geC b a) NR)→i∈NR:=fun i hi=>zby hi
 refine⟨zai NR (domB (fun a b=>geC b a) NR),fun i hi=>(((hNR i).1 (hsub i hi)).1.props ih).2,⟨SL,fun i hi=>?_,fun l hl=>?_⟩,fun i hi=>(((hNR i).1 (hsub i hi)).1.props ih).1,fun i hi j hj e=>(zee hi hj e).symm,fun i hi=>((hNR i).1 (hsub i hi)).2⟩
 ·have hc:=(hSL i).1 hi
  by_cases hr:∀r,hasR i r→geC f r=false
  ·obtain⟨y,hy,e⟩:=zds ht ((hNR i).2 ⟨hc,hr⟩)
   refine .inl ⟨y,hy,?_⟩;rcases e with rfl|e
   ·exact zch _
   ·exact e
  ·obtain⟨k,hk⟩:=Classical.not_forall.1 hr
   obtain⟨hk1,hk2⟩:=Classical.not_imp.1 hk;have hk3:geC f k=true:=by
    cases e:geC f k with
    | true=>rfl
    | false=>exact absurd e hk2
   exact .inr ⟨k,hk1,hk3,fun l hl=>(hSL l).2 (.thr hc hk1 hk3 hl)⟩
 ·exact⟨canC l,(hSL _).2 (.opt hl),(ih l (za5 (.inl hl))).2.1⟩
open Classical in
theorem zrx {f:Nat}(ih:∀i,i<f→IsCan (canC i) i):∃K,RedR f K:=by
 obtain⟨N,hN⟩:=zre ((zey f).map canC);have hN':∀l,hasR f l→canC l<N:=fun l hl=>hN _ (List.mem_map.2 ⟨l,zaz.2 hl,rfl⟩)
 obtain⟨SL,hSL⟩:∃SL:List Nat,∀i,i∈SL↔CandR f i:=⟨(List.range N).filter fun i=>decide (CandR f i),fun i=>by
  rw[List.mem_filter,List.mem_range,decide_eq_true_eq];exact⟨fun h=>h.2,fun h=>⟨h.lt hN',h⟩⟩⟩
 obtain⟨NR,hNR⟩:∃NR:List Nat,∀i,i∈NR↔CandR f i/\∀r,hasL i r→geC r f=false:=⟨SL.filter fun i=>decide (∀r,hasL i r→geC r f=false),fun i=>by
  rw[List.mem_filter,hSL,decide_eq_true_eq]⟩
 have ht:∀a b c,geC a b=true→geC b c=true→geC a c=true:=fun a b c h1 h2=>zae h1 h2
 have hsub:∀i,i∈zai NR (domB geC NR)→i∈NR:=fun i hi=>zby hi
 refine⟨zai NR (domB geC NR),fun i hi=>(((hNR i).1 (hsub i hi)).1.props ih).2,⟨SL,fun i hi=>?_,fun l hl=>?_⟩,fun i hi=>(((hNR i).1 (hsub i hi)).1.props ih).1,fun i hi j hj e=>(zee hi hj e).symm,fun i hi=>((hNR i).1 (hsub i hi)).2⟩
 ·have hc:=(hSL i).1 hi
  by_cases hr:∀r,hasL i r→geC r f=false
  ·obtain⟨y,hy,e⟩:=zds ht ((hNR i).2 ⟨hc,hr⟩)
   refine .inl ⟨y,hy,?_⟩;rcases e with rfl|e
   ·exact zch _
   ·exact e
  ·obtain⟨k,hk⟩:=Classical.not_forall.1 hr
   obtain⟨hk1,hk2⟩:=Classical.not_imp.1 hk;have hk3:geC k f=true:=by
    cases e:geC k f with
    | true=>rfl
    | false=>exact absurd e hk2
   exact .inr ⟨k,hk1,hk3,fun l hl=>(hSL l).2 (.thr hc hk1 hk3 hl)⟩
 ·exact⟨canC l,(hSL _).2 (.opt hl),(ih l (za5 (.inr hl))).2.2⟩
theorem zga (f:Nat):IsCan (canC f) f:=by
 induction f using Nat.strongRecOn with
 | _ f ih =>
  obtain⟨KL,hL⟩:=zry ih;obtain⟨KR,hR⟩:=zrx ih;have h:=zy3 hL hR;rw[h.eq]at h;exact h
theorem ycd {a b:Nat}:canC a=canC b↔geC a b=true/\geC b a=true:=by
 constructor
 ·intro e
  have ha:=zga a;have hb:=zga b;rw[←e]at hb;exact⟨zae ha.2.2 hb.2.1,zae hb.2.2 ha.2.1⟩
 ·rintro⟨h1,h2⟩
  exact((zga a).step h1 h2).eq
theorem sum_ge' (n:Nat):∀x y z,x+y+z<n→(geC x y=true→geC (sumC x z) (sumC y z)=true)/\(geC x y=false→geC (sumC x z) (sumC y z)=false):=by
 induction n with
 | zero=>intro x y z h;omega
 | succ n ih =>
  intro x y z hn;refine⟨fun h=>?_,fun h=>?_⟩
  ·refine zbs (fun r hr=>?_) fun l hl=>?_
   ·rcases (zcx x z r).1 hr with ⟨b,hb,rfl⟩|⟨b,hb,rfl⟩
    ·have hlt:=za5 (.inr hb)
     exact(ih y b z (by omega)).2 (zdg h hb)
    ·have hlt:=za5 (.inr hb)
     have k:=(ih x y b (by omega)).1 h;cases hc:geC (sumC y z) (sumC x b)with
     | false=>rfl
     | true =>
      have:=zdg hc ((zcx y z _).2 (.inr ⟨b,hb,rfl⟩));rw[this]at k;cases k
   ·rcases (zcy y z l).1 hl with ⟨b,hb,rfl⟩|⟨b,hb,rfl⟩
    ·have hlt:=za5 (.inl hb)
     exact(ih b x z (by omega)).2 (zes h hb)
    ·have hlt:=za5 (.inl hb)
     have k:=(ih x y b (by omega)).1 h;cases hc:geC (sumC y b) (sumC x z)with
     | false=>rfl
     | true =>
      have:=zes hc ((zcy x z _).2 (.inr ⟨b,hb,rfl⟩));rw[this]at k;cases k
  ·cases hc:geC (sumC x z) (sumC y z)with
   | false=>rfl
   | true =>
    rcases zg4 h with ⟨r,hr,e⟩|⟨l,hl,e⟩
    ·have hlt:=za5 (.inr hr)
     have k:=(ih y r z (by omega)).1 e;have:=zdg hc ((zcx x z _).2 (.inl ⟨r,hr,rfl⟩));rw[this]at k;cases k
    ·have hlt:=za5 (.inl hl)
     have k:=(ih l x z (by omega)).1 e;have:=zes hc ((zcy y z _).2 (.inl ⟨l,hl,rfl⟩));rw[this]at k;cases k
theorem zpa {x y:Nat}(z:Nat)(h:geC x y=true):geC (sumC x z) (sumC y z)=true:=(sum_ge' _ x y z (Nat.lt_succ_self _)).1 h
theorem zzi {a b:Nat}(h1:geC a b=true)(h2:geC b a=true)(z:Nat):geC z a=geC z b/\geC a z=geC b z:=by
 constructor
 ·cases e:geC z b with
  | true=>exact zae e h2
  | false=>exact zav h1 e
 ·cases e:geC b z with
  | true=>exact zae h1 e
  | false=>exact zau h2 e
end Go.Proofs.YtghekfmfonoocaaGreatDoor
