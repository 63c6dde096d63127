import Derived.Test.YtlapkmhemepcaaaGreatDoorZna
import Derived.Test.YtlapkmhemepcaaaGreatDoorZnf
/- Lemmas. -/
namespace Go.Proofs.YtlapkmhemepcaaaGreatDoor
set_option linter.unusedVariables false
set_option linter.unusedSimpArgs false
open Go.RowKit
theorem zp6 (s:Int)(P:Nat):nr (2*s) (P+1)=nr s P:=by
 rw[zd4 (by omega),show 2*s/2=s from by omega]
theorem zha (s:Int)(P k:Nat):nr (s*2^k) (P+k)=nr s P:=by
 unfold nr;rw[zdx]
theorem zfb {s:Int}{l:Nat}(h:hasL (intC s) l):0<s/\l=intC (s-1):=by
 by_cases h0:s=0
 ·subst h0;exact absurd h (zv9 l)
 ·by_cases hp:0<s
  ·rw[zo9 hp,zae]at h
   exact⟨hp,List.mem_singleton.1 h⟩
  ·rw[zoa (by omega),zae]at h
   simp at h
theorem ze6 {s:Int}{r:Nat}(h:hasR (intC s) r):s<0/\r=intC (s+1):=by
 by_cases h0:s=0
 ·subst h0;exact absurd h (zv8 r)
 ·by_cases hp:0<s
  ·rw[zo9 hp,zaf]at h
   simp at h
  ·rw[zoa (by omega),zaf]at h
   exact⟨by omega,List.mem_singleton.1 h⟩
theorem ztx {s:Int}(h:0<s):hasL (intC s) (intC (s-1)):=by rw[zo9 h,zae];simp
theorem ztv {s:Int}(h:s<0):hasR (intC s) (intC (s+1)):=by rw[zoa h,zaf];simp
theorem zfv:∀(P:Nat) (s:Int) (l:Nat),hasL (nr s P) l→∃v,v<s/\l=nr v P:=by
 intro P;induction P with
 | zero =>
  intro s l h;rw[zfx]at h;obtain⟨_,e⟩:=zfb h;exact⟨s-1,by omega,by rw[zfx];exact e⟩
 | succ P ih =>
  intro s l h;by_cases he:s%2=0
  ·rw[zd4 he]at h
   obtain⟨v,hv,e⟩:=ih _ _ h;exact⟨2*v,by omega,by rw[zp6];exact e⟩
  ·rw[zky he,zae]at h
   exact⟨s-1,by omega,by rw[zd4 (by omega)];exact List.mem_singleton.1 h⟩
theorem zeg:∀(P:Nat) (s:Int) (r:Nat),hasR (nr s P) r→∃v,s<v/\r=nr v P:=by
 intro P;induction P with
 | zero =>
  intro s l h;rw[zfx]at h;obtain⟨_,e⟩:=ze6 h;exact⟨s+1,by omega,by rw[zfx];exact e⟩
 | succ P ih =>
  intro s l h;by_cases he:s%2=0
  ·rw[zd4 he]at h
   obtain⟨v,hv,e⟩:=ih _ _ h;exact⟨2*v,by omega,by rw[zp6];exact e⟩
  ·rw[zky he,zaf]at h
   exact⟨s+1,by omega,by rw[zd4 (by omega)];exact List.mem_singleton.1 h⟩
theorem zo4 {s:Int}{P:Nat}(h:s%2≠0):hasL (nr s (P+1)) (nr (s-1) (P+1)):=by
 rw[zky h,zae,zd4 (by omega)];simp
theorem zrr {s:Int}{P:Nat}(h:s%2≠0):hasR (nr s (P+1)) (nr (s+1) (P+1)):=by
 rw[zky h,zaf,zd4 (by omega)];simp
theorem zuu:∀(P:Nat) (s t:Int),s<t→(∃v,s≤v/\v<t/\hasL (nr t P) (nr v P))∨∃v,s<v/\v≤t/\hasR (nr s P) (nr v P):=by
 intro P;induction P with
 | zero =>
  intro s t h;by_cases ht:0<t
  ·exact .inl ⟨t-1,by omega,by omega,by rw[zfx,zfx];exact ztx ht⟩
  ·exact .inr ⟨s+1,by omega,by omega,by rw[zfx,zfx];exact ztv (by omega)⟩
 | succ P ih =>
  intro s t h;by_cases ht:t%2=0
  ·by_cases hs:s%2=0
   ·rw[zd4 ht,zd4 hs]
    rcases ih (s/2) (t/2) (by omega)with ⟨v,h1,h2,h3⟩|⟨v,h1,h2,h3⟩
    ·exact .inl ⟨2*v,by omega,by omega,by rw[zp6];exact h3⟩
    ·exact .inr ⟨2*v,by omega,by omega,by rw[zp6];exact h3⟩
   ·exact .inr ⟨s+1,by omega,by omega,zrr hs⟩
  ·exact .inl ⟨t-1,by omega,by omega,zo4 ht⟩
theorem nr_ge' (P n:Nat):∀s t:Int,nr s P+nr t P<n→(t≤s→geC (nr s P) (nr t P)=true)/\(s<t→geC (nr s P) (nr t P)=false):=by
 induction n with
 | zero=>intro s t h;omega
 | succ n ih =>
  intro s t hn;refine⟨fun h=>zfe (fun r hr=>?_) fun l hl=>?_,fun h=>?_⟩
  ·have hlt:=za7 (.inr hr)
   obtain⟨v,hv,rfl⟩:=zeg _ _ _ hr;exact(ih t v (by omega)).2 (by omega)
  ·have hlt:=za7 (.inl hl)
   obtain⟨v,hv,rfl⟩:=zfv _ _ _ hl;exact(ih v s (by omega)).2 (by omega)
  ·cases e:geC (nr s P) (nr t P)with
   | false=>rfl
   | true =>
    rcases zuu P s t h with ⟨v,h1,h2,h3⟩|⟨v,h1,h2,h3⟩
    ·have hlt:=za7 (.inl h3)
     have:=(ih v s (by omega)).1 h1;rw[zm7 e h3]at this;cases this
    ·have hlt:=za7 (.inr h3)
     have:=(ih t v (by omega)).1 h2;rw[zhn e h3]at this;cases this
theorem zrs {s t:Int}{P:Nat}(h:t≤s):geC (nr s P) (nr t P)=true:=(nr_ge' P _ s t (Nat.lt_succ_self _)).1 h
theorem zp7 {s t:Int}{P:Nat}(h:s<t):geC (nr s P) (nr t P)=false:=(nr_ge' P _ s t (Nat.lt_succ_self _)).2 h
theorem ztc {s t:Int}{P:Nat}(h:geC (nr s P) (nr t P)=true):t≤s:=by
 refine Int.not_lt.1 fun q=>?_
 rw[zp7 q]at h;cases h
def EqC (a b:Nat):Prop:=geC a b=true/\geC b a=true
theorem zyt (s:Int)(P:Nat):CanC1 (nr s P):=by
 have uniq:∀(P:Nat) (s:Int),(∀l l',hasL (nr s P) l→hasL (nr s P) l'→l=l')/\∀l l',hasR (nr s P) l→hasR (nr s P) l'→l=l':=by
  intro P;induction P with
  | zero =>
   intro s;rw[zfx];exact⟨fun l l' h h'=>by rw[(zfb h).2,(zfb h').2],fun l l' h h'=>by rw[(ze6 h).2,(ze6 h').2]⟩
  | succ P ih =>
   intro s;by_cases he:s%2=0
   ·rw[zd4 he];exact ih _
   ·rw[zky he]
    refine⟨fun l l' h h'=>?_,fun l l' h h'=>?_⟩
    ·rw[zae]at h h'
     rw[List.mem_singleton.1 h,List.mem_singleton.1 h']
    ·rw[zaf]at h h'
     rw[List.mem_singleton.1 h,List.mem_singleton.1 h']
 have rev:∀(P:Nat) (s:Int),(∀l r,hasL (nr s P) l→hasR l r→geC (nr s P) r=false)/\∀r l,hasR (nr s P) r→hasL r l→geC l (nr s P)=false:=by
  intro P;induction P with
  | zero =>
   intro s;rw[zfx];refine⟨fun l r h h'=>?_,fun l r h h'=>?_⟩
   ·obtain⟨h1,rfl⟩:=zfb h
    have:=(ze6 h').1;omega
   ·obtain⟨h1,rfl⟩:=ze6 h
    have:=(zfb h').1;omega
  | succ P ih =>
   intro s;by_cases he:s%2=0
   ·rw[zd4 he];exact ih _
   ·refine⟨fun l r h h'=>?_,fun l r h h'=>?_⟩
    ·rw[zky he,zae]at h
     rw[List.mem_singleton.1 h]at h';obtain⟨v,hv,rfl⟩:=zeg _ _ _ h';rw[←zp6 v P];exact zp7 (by omega)
    ·rw[zky he,zaf]at h
     rw[List.mem_singleton.1 h]at h';obtain⟨v,hv,rfl⟩:=zfv _ _ _ h';rw[←zp6 v P];exact zp7 (by omega)
 exact⟨fun l l' h h' _=>(uniq P s).1 _ _ h' h,fun l l' h h' _=>(uniq P s).2 _ _ h' h,(rev P s).1,(rev P s).2⟩
theorem ztb (s:Int)(P:Nat):(∀l l',hasL (nr s P) l→hasL (nr s P) l'→l=l')/\∀l l',hasR (nr s P) l→hasR (nr s P) l'→l=l':=by
 have h:=zyt s P;refine⟨fun l l' a b=>?_,fun l l' a b=>?_⟩
 ·obtain⟨v,_,rfl⟩:=zfv _ _ _ a
  obtain⟨v',_,rfl⟩:=zfv _ _ _ b;by_cases e:v'≤v
  ·exact h.domL _ _ b a (zrs e)
  ·exact(h.domL _ _ a b (zrs (by omega))).symm
 ·obtain⟨v,_,rfl⟩:=zeg _ _ _ a
  obtain⟨v',_,rfl⟩:=zeg _ _ _ b;by_cases e:v≤v'
  ·exact h.domR _ _ b a (zrs e)
  ·exact(h.domR _ _ a b (zrs (by omega))).symm
theorem yei {s:Int}{P x:Nat}(h:SubC (nr s P) x):∃v,x=nr v P:=by
 induction h with
 | root=>exact⟨s,rfl⟩
 | step _ ho ih =>
  obtain⟨v,rfl⟩:=ih;rcases ho with h|h
  ·obtain⟨u,_,e⟩:=zfv _ _ _ h;exact⟨u,e⟩
  ·obtain⟨u,_,e⟩:=zeg _ _ _ h;exact⟨u,e⟩
theorem yex (s:Int)(P:Nat):CanC (nr s P):=fun x hx=>by
 obtain⟨v,rfl⟩:=yei hx;exact zyt v P
def IsNum (G:Nat):Prop:=∃(P:Nat) (s:Int),EqC G (nr s P)
theorem IsNum.can {c:Nat}(h:IsNum c)(hc:CanC c):∃(P:Nat) (s:Int),c=nr s P:=by
 obtain⟨P,s,k⟩:=h;exact⟨P,s,zys hc (yex s P) k.1 k.2⟩
theorem ycu (P:Nat){G:Nat}:∀(n:Nat) (s:Int),nr s P<n→(∀l,hasL G l→geC l (nr s P)=false)→(∀r,hasR G r→geC (nr s P) r=false)→IsNum G:=by
 intro n;induction n with
 | zero=>intro s h;omega
 | succ n ih =>
  intro s hn hl hr;cases h1:geC (nr s P) G with
  | false =>
   rcases zn9 h1 with ⟨r,h,e⟩|⟨l,h,e⟩
   ·have hlt:=za7 (.inr h)
    obtain⟨v,hv,rfl⟩:=zeg _ _ _ h;refine ih v (by omega) (fun l h'=>?_) fun r h'=>?_
    ·cases q:geC l (nr v P)with
     | false=>rfl
     | true =>
      have:=zbb q (zrs (s:=v) (t:=s) (P:=P) (by omega));rw[hl l h']at this;cases this
    ·cases q:geC (nr v P) r with
     | false=>rfl
     | true =>
      have:=zbb e q;rw[zdd h']at this;cases this
   ·rw[hl l h]at e;cases e
  | true =>
   cases h2:geC G (nr s P)with
   | true=>exact⟨P,s,h2,h1⟩
   | false =>
    rcases zn9 h2 with ⟨r,h,e⟩|⟨l,h,e⟩
    ·rw[hr r h]at e;cases e
    ·have hlt:=za7 (.inl h)
     obtain⟨v,hv,rfl⟩:=zfv _ _ _ h;refine ih v (by omega) (fun l h'=>?_) fun r h'=>?_
     ·cases q:geC l (nr v P)with
      | false=>rfl
      | true =>
       have:=zbb q e;rw[zef h']at this;cases this
     ·cases q:geC (nr v P) r with
      | false=>rfl
      | true =>
       have:=zbb (zrs (s:=s) (t:=v) (P:=P) (by omega)) q;rw[hr r h']at this;cases this
theorem yam (m:Int)(P:Nat):nr (m*2^P) P=intC m:=by
 have h:=zha m 0 P;rw[Nat.zero_add]at h;rw[h,zfx]
theorem zry {L R:List Nat}{i:Nat}(h:i∈L):hasL (mkC L R) i:=(zae _ _ _).2 h
theorem zth {L R:List Nat}{i:Nat}(h:i∈R):hasR (mkC L R) i:=(zaf _ _ _).2 h
theorem zti {a i:Nat}{R:List Nat}(h:hasL (mkC [a] R) i):i=a:=List.mem_singleton.1 ((zae _ _ _).1 h)
theorem zhc {a i:Nat}{L:List Nat}(h:hasR (mkC L [a]) i):i=a:=List.mem_singleton.1 ((zaf _ _ _).1 h)
theorem ycv (P:Nat):nr 0 P=zac:=by
 have h:=yam 0 P;rw[Int.zero_mul]at h;rw[h,zy4]
section
variable {s:Int}{P:Nat}(hs:0<s)
include hs
end
def IsVal (c:Nat)(t:Int)(p:Nat):Prop:=Red t p/\c=numC t p
theorem IsVal.toNr {c:Nat}{t:Int}{p:Nat}(h:IsVal c t p):c=nr t p:=by rw[ycx h.1];exact h.2
theorem zxp (s:Int)(P:Nat):IsVal (nr s P) (redT s P).1 (redT s P).2:=⟨zdp _ _,rfl⟩
theorem yek {s t:Int}{P:Nat}(h:nr s P=nr t P):s=t:=by
 have h1:=ztc (show geC (nr s P) (nr t P)=true by rw[h];exact zcu _);have h2:=ztc (show geC (nr t P) (nr s P)=true by rw[h];exact zcu _);omega
theorem IsVal.one {c:Nat}{t s:Int}{p q:Nat}(h:IsVal c t p)(k:IsVal c s q):t=s/\p=q:=by
 have e1:nr (t*2^q) (p+q)=c:=by rw[zha];exact h.toNr.symm
 have e2:nr (s*2^p) (p+q)=c:=by rw[Nat.add_comm,zha];exact k.toNr.symm
 have e:=yek (e1.trans e2.symm);have a:=zdx q p t;rw[e,Nat.add_comm,zdx,zfr k.1,zfr h.1]at a;have a1:=congrArg Prod.fst a;have a2:=congrArg Prod.snd a;exact⟨a1.symm,a2.symm⟩
open Classical in
noncomputable def isNB (c:Nat):Bool:=decide (∃t p,IsVal c t p)
open Classical in
noncomputable def valT (c:Nat):Int × Nat:=if h:∃d:Int × Nat,IsVal c d.1 d.2 then Classical.choose h else (0,0)
open Classical in
theorem zcs {c:Nat}:isNB c=true↔∃t p,IsVal c t p:=by unfold isNB;rw[decide_eq_true_iff]
theorem IsVal.is {c:Nat}{t:Int}{p:Nat}(h:IsVal c t p):isNB c=true:=zcs.2 ⟨t,p,h⟩
theorem IsVal.val {c:Nat}{t:Int}{p:Nat}(h:IsVal c t p):valT c=(t,p):=by
 have hx:∃d:Int × Nat,IsVal c d.1 d.2:=⟨(t,p),h⟩;unfold valT;rw[dif_pos hx];obtain⟨a,b⟩:=(Classical.choose_spec hx).one h;exact Prod.ext a b
theorem zy2 {c:Nat}(h:isNB c=true):IsVal c (valT c).1 (valT c).2:=by
 obtain⟨t,p,k⟩:=zcs.1 h;rw[k.val];exact k
theorem zy3 (s:Int)(P:Nat):isNB (nr s P)=true:=(zxp s P).is
open Classical in
noncomputable def valB (c:Nat):Bool:=isNB c && decide (GoodD (valT c).1 (valT c).2)
noncomputable def valD (c:Nat):Int × Nat:=if valB c=true then valT c else (0,0)
open Classical in
theorem IsVal.good {c:Nat}{t:Int}{p:Nat}(h:IsVal c t p):valB c=true↔GoodD t p:=by
 unfold valB;rw[h.is,h.val,Bool.true_and,decide_eq_true_iff]
theorem zh5 {c:Nat}(h:valB c=true):isNB c=true:=by
 unfold valB at h;exact(Bool.and_eq_true_iff.1 h).1
theorem zg8 {c:Nat}(h:valB c=true):IsVal c (valD c).1 (valD c).2/\GoodD (valD c).1 (valD c).2:=by
 have h1:=zy2 (zh5 h);unfold valD;rw[if_pos h];exact⟨h1,h1.good.1 h⟩
theorem IsVal.goodD {c:Nat}{t:Int}{p:Nat}(h:IsVal c t p)(hg:GoodD t p):valB c=true/\valD c=(t,p):=by
 have h1:=h.good.2 hg;refine⟨h1,?_⟩;unfold valD;rw[if_pos h1,h.val]
theorem zkf {c:Nat}(h:valB c=false):valD c=(0,0):=by unfold valD;rw[h];rfl
theorem yai {c l l':Nat}(h:isNB c=true)(a:hasL c l)(b:hasL c l'):l=l':=by
 obtain⟨t,p,k⟩:=zcs.1 h;rw[k.toNr]at a b;exact(ztb _ _).1 _ _ a b
theorem yah {c l l':Nat}(h:isNB c=true)(a:hasR c l)(b:hasR c l'):l=l':=by
 obtain⟨t,p,k⟩:=zcs.1 h;rw[k.toNr]at a b;exact(ztb _ _).2 _ _ a b
theorem zo3 {c l:Nat}(h:isNB c=true)(a:hasL c l):isNB l=true:=by
 obtain⟨t,p,k⟩:=zcs.1 h;rw[k.toNr]at a;obtain⟨v,_,rfl⟩:=zfv _ _ _ a;exact zy3 _ _
theorem zo2 {c l:Nat}(h:isNB c=true)(a:hasR c l):isNB l=true:=by
 obtain⟨t,p,k⟩:=zcs.1 h;rw[k.toNr]at a;obtain⟨v,_,rfl⟩:=zeg _ _ _ a;exact zy3 _ _
theorem zp5 {c l r:Nat}(h:isNB c=true)(a:hasL c l)(b:hasR c r):geC l r=false:=by
 obtain⟨t,p,k⟩:=zcs.1 h;rw[k.toNr]at a b;obtain⟨v,hv,rfl⟩:=zfv _ _ _ a;obtain⟨u,hu,rfl⟩:=zeg _ _ _ b;exact zp7 (by omega)
theorem yak {c:Nat}(hc:CanC c)(h1:∀l l',hasL c l→hasL c l'→l=l')(h2:∀r r',hasR c r→hasR c r'→r=r')(hL:∀l,hasL c l→isNB l=true)(hR:∀r,hasR c r→isNB r=true)
  (ha:∀l r,hasL c l→hasR c r→geC l r=false):isNB c=true:=by
 have fin:∀(s:Int) (P:Nat),(∀l,hasL c l→geC l (nr s P)=false)→(∀r,hasR c r→geC (nr s P) r=false)→isNB c=true:=fun s P a b=>by
  obtain⟨Q,u,e⟩:=(ycu P _ s (Nat.lt_succ_self _) a b).can hc;rw[e];exact zy3 _ _
 by_cases eL:∃l,hasL c l
 ·obtain⟨l,hl⟩:=eL
  obtain⟨s,P,kl⟩:=zcs.1 (hL l hl);by_cases eR:∃r,hasR c r
  ·obtain⟨r,hr⟩:=eR
   obtain⟨t,Q,kr⟩:=zcs.1 (hR r hr);have e1:l=nr (2*(s*2^Q)) (P+Q+1):=by rw[zp6,zha];exact kl.toNr
   have e2:r=nr (2*(t*2^P)) (P+Q+1):=by rw[zp6,Nat.add_comm,zha];exact kr.toNr
   have hlt:s*2^Q<t*2^P:=by
    have h:=ha l r hl hr;rw[e1,e2]at h;refine Int.not_le.1 fun q=>?_
    rw[zrs (show 2*(t*2^P)≤2*(s*2^Q)by omega)]at h;cases h
   refine fin (2*(s*2^Q)+1) (P+Q+1) (fun l' hl'=>?_) (fun r' hr'=>?_)
   ·rw[h1 _ _ hl' hl,e1];exact zp7 (by omega)
   ·rw[h2 _ _ hr' hr,e2];exact zp7 (by omega)
  ·refine fin (s+1) P (fun l' hl'=>?_) (fun r' hr'=>absurd ⟨r',hr'⟩ eR)
   rw[h1 _ _ hl' hl,kl.toNr];exact zp7 (by omega)
 ·by_cases eR:∃r,hasR c r
  ·obtain⟨r,hr⟩:=eR
   obtain⟨t,Q,kr⟩:=zcs.1 (hR r hr);refine fin (t-1) Q (fun l' hl'=>absurd ⟨l',hl'⟩ eL) (fun r' hr'=>?_);rw[h2 _ _ hr' hr,kr.toNr];exact zp7 (by omega)
  ·exact fin 0 0 (fun l' hl'=>absurd ⟨l',hl'⟩ eL) (fun r' hr'=>absurd ⟨r',hr'⟩ eR)
theorem zz7 {c:Nat}(h:isNB c=true)(hL:∀l,¬hasL c l)(hR:∀r,¬hasR c r):IsVal c 0 0:=by
 obtain⟨t,p,k⟩:=zcs.1 h;have hk:=k;obtain⟨hr,e⟩:=hk;cases p with
 | zero =>
  rw[zk3]at e;by_cases h0:t=0
  ·subst h0;exact k
  ·by_cases hp:0<t
   ·exact absurd (by rw[e];exact ztx hp) (hL _)
   ·exact absurd (by rw[e];exact ztv (by omega)) (hR _)
 | succ p =>
  have ho:t%2≠0:=hr.resolve_left (by omega);exact absurd (by rw[k.toNr];exact zo4 ho) (hL _)
theorem zz9 {c l:Nat}(h:isNB c=true)(hl:hasL c l)(hR:∀r,¬hasR c r):∃k:Int,0<k/\IsVal c k 0/\IsVal l (k-1) 0:=by
 obtain⟨t,p,k⟩:=zcs.1 h;have hk:=k;obtain⟨hr,e⟩:=hk;cases p with
 | zero =>
  rw[zk3]at e;rw[e]at hl;obtain⟨h1,h2⟩:=zfb hl;exact⟨t,h1,k,.inl rfl,h2⟩
 | succ p =>
  have ho:t%2≠0:=hr.resolve_left (by omega);exact absurd (by rw[k.toNr];exact zrr ho) (hR _)
theorem zvf {c r:Nat}(h:isNB c=true)(hr:hasR c r)(hL:∀l,¬hasL c l):∃k:Int,k<0/\IsVal c k 0/\IsVal r (k+1) 0:=by
 obtain⟨t,p,k⟩:=zcs.1 h;have hk:=k;obtain⟨hd,e⟩:=hk;cases p with
 | zero =>
  rw[zk3]at e;rw[e]at hr;obtain⟨h1,h2⟩:=ze6 hr;exact⟨t,h1,k,.inl rfl,h2⟩
 | succ p =>
  have ho:t%2≠0:=hd.resolve_left (by omega);exact absurd (by rw[k.toNr];exact zo4 ho) (hL _)
theorem zza {c l r:Nat}(h:isNB c=true)(hl:hasL c l)(hr:hasR c r):∃(t:Int) (p:Nat),IsVal c t p/\0<p/\t%2≠0/\IsVal l (redT (t-1) p).1 (redT (t-1) p).2/\IsVal r (redT (t+1) p).1 (redT (t+1) p).2:=by
 obtain⟨t,p,k⟩:=zcs.1 h;have hk:=k;obtain⟨hd,e⟩:=hk;cases p with
 | zero =>
  rw[zk3]at e;rw[e]at hl hr;have a:=zfb hl;have b:=ze6 hr;omega
 | succ p =>
  have ho:t%2≠0:=hd.resolve_left (by omega);refine⟨t,p+1,k,by omega,ho,?_,?_⟩
  ·rw[k.toNr]at hl
   rw[(ztb _ _).1 _ _ hl (zo4 ho)];exact zxp _ _
  ·rw[k.toNr]at hr
   rw[(ztb _ _).2 _ _ hr (zrr ho)];exact zxp _ _
theorem zou {N:Nat}:∀(p:Nat) (x:Int),p≤N→(redT x p).1*2^(N-(redT x p).2)=x*2^(N-p):=by
 intro p;induction p with
 | zero=>intro x _;rfl
 | succ p ih =>
  intro x hp;by_cases hx:x%2=0
  ·rw[ze2 hx,ih _ (by omega)]
   obtain⟨k,hk⟩:∃k,N-p=k+1:=⟨N-(p+1),by omega⟩;rw[hk,show N-(p+1)=k from by omega,Int.pow_succ,Int.mul_comm (2^k) 2,←Int.mul_assoc];congr 1
   omega
  ·rw[redT,if_neg hx]
theorem zzy {x:Int}{N p:Nat}(h:p≤N):redT (x*2^(N-p)) N=redT x p:=by
 have:=zdx (N-p) p x;rw[show p+(N-p)=N from by omega]at this
 exact this
theorem yc3 {t:Int}{p:Nat}(hp:0<p)(ho:t%2≠0)(h1:GoodD (redT (t-1) p).1 (redT (t-1) p).2)(h2:GoodD (redT (t+1) p).1 (redT (t+1) p).2) :
  p≤17/\redT ((redT (t-1) p).1*2^(16-(redT (t-1) p).2)+(redT (t+1) p).1*2^(16-(redT (t+1) p).2)) 17=(t,p):=by
 obtain⟨q,rfl⟩:∃q,p=q+1:=⟨p-1,by omega⟩;rw[ze2 (show(t-1)%2=0 by omega)]at h1 ⊢;rw[ze2 (show(t+1)%2=0 by omega)]at h2 ⊢;by_cases hq:q≤16
 ·refine⟨by omega,?_⟩
  rw[zou q _ hq,zou q _ hq,←Int.add_mul,show(t-1)/2+(t+1)/2=t from by omega];have:=zzy (x:=t) (N:=17) (p:=q+1) (by omega);rw[show 17-(q+1)=16-q from by omega]at this
  rw[this,zfr (.inr ho)]
 ·have h3:=h1.2.1
  have h4:=h2.2.1;exfalso
  by_cases he:(t-1)/2%2=0
  ·rw[zfr (t:=(t+1)/2) (.inr (by omega))]at h4
   have:((q:Nat):Int)≤16:=h4.2;omega
  ·rw[zfr (t:=(t-1)/2) (.inr he)]at h3
   have:((q:Nat):Int)≤16:=h3.2;omega
theorem zve {t:Int}{p:Nat}(hp:0<p)(ho:t%2≠0)(h:GoodD t p):GoodD (redT (t-1) p).1 (redT (t-1) p).2/\GoodD (redT (t+1) p).1 (redT (t+1) p).2:=by
 obtain⟨a,b,c⟩:=h;exact⟨(zpf (.inr ho) (by omega) hp (by omega) _ (.inl rfl)).1,(zpf (.inr ho) (by omega) hp (by omega) _ (.inr rfl)).1⟩
def nusL (a:Nat):Nat→List Nat
 | 0=>[]
 | s+1=>nusL a s ++ [if s=0 then a else mkC (nusL a s) (nusL a s)]
def nusS (a s:Nat):Nat:=if s=0 then a else mkC (nusL a s) (nusL a s)
def nusU (a:Nat):Nat→Nat→Nat
 | 0,s=>nusS a s
 | n+1,s=>if n=0/\s=1 then mkC [a,nusS a 1] [a]else mkC [a] [nusU a n (s ^^^ 1)]
def nusD (a:Nat):Nat→Nat→Nat
 | 0,s=>nusS a s
 | n+1,s=>if n=0/\s=1 then mkC [a] [a,nusS a 1]else mkC [nusD a n (s ^^^ 1)] [a]
def nusC (a:Nat)(n:Int)(s:Nat):Nat:=if 0≤n then nusU a n.toNat s else nusD a (-n).toNat s
theorem ztk {a s x:Nat}:x∈nusL a s↔∃k,k<s/\nusS a k=x:=by
 induction s with
 | zero=>exact⟨fun h=>by simp[nusL]at h,fun⟨k,hk,_⟩=>by omega⟩
 | succ s ih =>
  rw[nusL,List.mem_append,ih,List.mem_singleton];constructor
  ·rintro(⟨k,hk,e⟩|e)
   ·exact⟨k,by omega,e⟩
   ·exact⟨s,by omega,e.symm⟩
  ·rintro⟨k,hk,e⟩
   by_cases h:k=s
   ·exact .inr (by rw[←e,h];rfl)
   ·exact .inl ⟨k,by omega,e⟩
theorem zp4 (a s:Nat):nusC a 0 s=nusS a s:=rfl
theorem zf9 (a:Nat):nusC a 0 0=a:=rfl
theorem zch {a s:Nat}(h:0<s):(∀x,hasL (nusC a 0 s) x↔∃k,k<s/\nusC a 0 k=x)/\∀x,hasR (nusC a 0 s) x↔∃k,k<s/\nusC a 0 k=x:=by
 have e:nusC a 0 s=mkC (nusL a s) (nusL a s):=by rw[zp4,nusS,if_neg (by omega)]
 rw[e];exact⟨fun x=>(zae _ _ _).trans ztk,fun x=>(zaf _ _ _).trans ztk⟩
theorem zo0 {a x:Nat}{R:List Nat}:hasL (mkC [a] R) x↔x=a:=(zae _ _ _).trans List.mem_singleton
theorem zkx {a x:Nat}{L:List Nat}:hasR (mkC L [a]) x↔x=a:=(zaf _ _ _).trans List.mem_singleton
theorem zgx {a b x:Nat}:x∈[a,b]↔x=a∨x=b:=by simp
theorem zdm {a s:Nat}{n:Int}(h:0<n)(h1:¬(n=1/\s=1)):(∀x,hasL (nusC a n s) x↔x=a)/\∀x,hasR (nusC a n s) x↔x=nusC a (n-1) (s ^^^ 1):=by
 obtain⟨m,rfl⟩:∃m:Nat,n=(m:Int)+1:=⟨(n-1).toNat,by omega⟩;have e:nusC a ((m:Int)+1) s=mkC [a] [nusC a (m:Int) (s ^^^ 1)]:=by
  rw[nusC,if_pos (by omega),show((m:Int)+1).toNat=m+1 from by omega,nusU,if_neg (by omega),nusC,if_pos (by omega),Int.toNat_natCast]
 rw[e,show(m:Int)+1-1=m from by omega];exact⟨fun x=>zo0,fun x=>zkx⟩
theorem zca {a s:Nat}{n:Int}(h:n<0)(h1:¬(n=-1/\s=1)):(∀x,hasL (nusC a n s) x↔x=nusC a (n+1) (s ^^^ 1))/\∀x,hasR (nusC a n s) x↔x=a:=by
 obtain⟨m,rfl⟩:∃m:Nat,n=-((m:Int)+1):=⟨(-n-1).toNat,by omega⟩;have e1:nusC a (-((m:Int)+1)+1) (s ^^^ 1)=nusD a m (s ^^^ 1):=by
  by_cases hm:m=0
  ·subst hm;rfl
  ·rw[nusC,if_neg (by omega),show(-(-((m:Int)+1)+1)).toNat=m from by omega]
 have e:nusC a (-((m:Int)+1)) s=mkC [nusD a m (s ^^^ 1)] [a]:=by
  rw[nusC,if_neg (by omega),show(-(-((m:Int)+1))).toNat=m+1 from by omega,nusD,if_neg (by omega)]
 rw[e,e1];exact⟨fun x=>zo0,fun x=>zkx⟩
theorem zbg (a:Nat):(∀x,hasL (nusC a 1 1) x↔x=a∨x=nusC a 0 1)/\∀x,hasR (nusC a 1 1) x↔x=a:=by
 have e:nusC a 1 1=mkC [a,nusC a 0 1] [a]:=rfl;rw[e];exact⟨fun x=>(zae _ _ _).trans zgx,fun x=>zkx⟩
theorem zb2 (a:Nat):(∀x,hasL (nusC a (-1) 1) x↔x=a)/\∀x,hasR (nusC a (-1) 1) x↔x=a∨x=nusC a 0 1:=by
 have e:nusC a (-1) 1=mkC [a] [a,nusC a 0 1]:=rfl;rw[e];exact⟨fun x=>zo0,fun x=>(zaf _ _ _).trans zgx⟩
theorem zkz {c x:Nat}(hl:hasL c x)(hr:hasR c x):isNB c=false:=by
 cases h:isNB c with
 | false=>rfl
 | true=>have:=zp5 h hl hr;rw[zcu]at this;cases this
theorem xor1 (s:Nat):(s ^^^ 1) ^^^ 1=s:=by rw[Nat.xor_assoc,Nat.xor_self,Nat.xor_zero]
theorem ze0 {s:Nat}(h:s ^^^ 1=0):s=1:=by rw[←xor1 s,h];rfl
theorem zsi {s t:Nat}(h:s ^^^ 1=t ^^^ 1):s=t:=by rw[←xor1 s,h,xor1]
theorem yeb {a s:Nat}:∀m:Nat,isNB (nusC a ((m:Int)+1) s)=false:=by
 intro m;induction m generalizing s with
 | zero =>
  by_cases h1:s=1
  ·subst h1
   exact zkz (((zbg a).1 a).2 (.inl rfl)) (((zbg a).2 a).2 rfl)
  ·have h:=zdm (a:=a) (s:=s) (n:=1) (by decide) (by omega)
   have e:((0:Nat):Int)+1=1:=rfl;rw[e];cases hc:isNB (nusC a 1 s)with
   | false=>rfl
   | true =>
    have h2:=zo2 hc ((h.2 _).2 rfl);have h3:0<s ^^^ 1:=Nat.pos_of_ne_zero fun q=>h1 (ze0 q)
    have h4:=zch (a:=a) h3;rw[show(1:Int)-1=0 from rfl,zkz ((h4.1 a).2 ⟨0,h3,rfl⟩) ((h4.2 a).2 ⟨0,h3,rfl⟩)]at h2;cases h2
 | succ m ih =>
  have h:=zdm (a:=a) (s:=s) (n:=((m+1:Nat):Int)+1) (by omega) (by omega);cases hc:isNB (nusC a (((m+1:Nat):Int)+1) s)with
  | false=>rfl
  | true =>
   have h2:=zo2 hc ((h.2 _).2 rfl);rw[show((m+1:Nat):Int)+1-1=(m:Int)+1 from by omega,ih]at h2;cases h2
theorem ybf {a s:Nat}:∀m:Nat,isNB (nusC a (-((m:Int)+1)) s)=false:=by
 intro m;induction m generalizing s with
 | zero =>
  by_cases h1:s=1
  ·subst h1
   exact zkz (((zb2 a).1 a).2 rfl) (((zb2 a).2 a).2 (.inl rfl))
  ·have h:=zca (a:=a) (s:=s) (n:=-1) (by decide) (by omega)
   have e:-(((0:Nat):Int)+1)=-1:=rfl;rw[e];cases hc:isNB (nusC a (-1) s)with
   | false=>rfl
   | true =>
    have h2:=zo3 hc ((h.1 _).2 rfl);have h3:0<s ^^^ 1:=Nat.pos_of_ne_zero fun q=>h1 (ze0 q)
    have h4:=zch (a:=a) h3;rw[show(-1:Int)+1=0 from rfl,zkz ((h4.1 a).2 ⟨0,h3,rfl⟩) ((h4.2 a).2 ⟨0,h3,rfl⟩)]at h2;cases h2
 | succ m ih =>
  have h:=zca (a:=a) (s:=s) (n:=-(((m+1:Nat):Int)+1)) (by omega) (by omega);cases hc:isNB (nusC a (-(((m+1:Nat):Int)+1)) s)with
  | false=>rfl
  | true =>
   have h2:=zo3 hc ((h.1 _).2 rfl);rw[show -(((m+1:Nat):Int)+1)+1=-((m:Int)+1)from by omega,ih]at h2;cases h2
theorem zfu {a s:Nat}{n:Int}(h:¬(n=0/\s=0)):isNB (nusC a n s)=false:=by
 by_cases h0:n=0
 ·subst h0
  have hs:0<s:=by omega
  have h4:=zch (a:=a) hs;exact zkz ((h4.1 a).2 ⟨0,hs,rfl⟩) ((h4.2 a).2 ⟨0,hs,rfl⟩)
 ·by_cases hp:0<n
  ·obtain⟨m,rfl⟩:∃m:Nat,n=(m:Int)+1:=⟨(n-1).toNat,by omega⟩
   exact yeb m
  ·obtain⟨m,rfl⟩:∃m:Nat,n=-((m:Int)+1):=⟨(-n-1).toNat,by omega⟩
   exact ybf m
def KL (c:Nat)(b:Bool):Prop:=∃x,hasL c x/\isNB x=b
def KR (c:Nat)(b:Bool):Prop:=∃x,hasR c x/\isNB x=b
open Classical in
noncomputable def yaz (c:Nat):Nat:=if isNB c=true then 16 else (if KL c true then 8 else 0)+(if KL c false then 4 else 0)+(if KR c true then 2 else 0)+(if KR c false then 1 else 0)
def zo6 (n:Int)(s:Nat):Nat:=if n=0 then (if s=0 then 16 else if s=1 then 10 else 15)else if 0<n then (if n=1/\s=1 then 14 else 9)else if n=-1/\s=1 then 11 else 6
theorem zic {c:Nat}{p q r t:Bool}(h:isNB c=false)(h1:KL c true↔p=true)(h2:KL c false↔q=true)(h3:KR c true↔r=true)(h4:KR c false↔t=true) :
  yaz c=(if p=true then 8 else 0)+(if q=true then 4 else 0)+(if r=true then 2 else 0)+(if t=true then 1 else 0):=by
 unfold yaz;rw[if_neg (by rw[h];decide)];simp only[h1,h2,h3,h4]
theorem ztr {a s:Nat}{n:Int}(ha:isNB a=true):yaz (nusC a n s)=zo6 n s:=by
 by_cases h:n=0/\s=0
 ·obtain⟨rfl,rfl⟩:=h
  unfold yaz;rw[zf9,if_pos ha];rfl
 ·have hn:=zfu (a:=a) h
  by_cases h0:n=0
  ·subst h0
   have hs:0<s:=by omega
   obtain⟨hl,hr⟩:=zch (a:=a) hs;by_cases h1:s=1
   ·subst h1
    have one:∀x,(∃k,k<1/\nusC a 0 k=x)→isNB x=true:=fun x ⟨k,hk,e⟩=>by
     obtain rfl:k=0:=by omega
     rw[←e];exact ha
    exact zic (p:=true) (q:=false) (r:=true) (t:=false) hn ⟨fun _=>rfl,fun _=>⟨a,(hl a).2 ⟨0,by omega,rfl⟩,ha⟩⟩ ⟨fun⟨x,hx,e⟩=>by rw[one x ((hl x).1 hx)]at e;exact e.symm,fun e=>by cases e⟩
     ⟨fun _=>rfl,fun _=>⟨a,(hr a).2 ⟨0,by omega,rfl⟩,ha⟩⟩ ⟨fun⟨x,hx,e⟩=>by rw[one x ((hr x).1 hx)]at e;exact e.symm,fun e=>by cases e⟩
   ·have h2:isNB (nusC a 0 1)=false:=zfu (by omega)
    have e:=zic (p:=true) (q:=true) (r:=true) (t:=true) hn ⟨fun _=>rfl,fun _=>⟨a,(hl a).2 ⟨0,by omega,rfl⟩,ha⟩⟩ ⟨fun _=>rfl,fun _=>⟨_,(hl _).2 ⟨1,by omega,rfl⟩,h2⟩⟩
     ⟨fun _=>rfl,fun _=>⟨a,(hr a).2 ⟨0,by omega,rfl⟩,ha⟩⟩ ⟨fun _=>rfl,fun _=>⟨_,(hr _).2 ⟨1,by omega,rfl⟩,h2⟩⟩
    rw[e];unfold zo6;rw[if_pos (show(0:Int)=0 from rfl),if_neg (show ¬s=0 by omega),if_neg h1];rfl
  ·by_cases hp:0<n
   ·by_cases h1:n=1/\s=1
    ·obtain⟨rfl,rfl⟩:=h1
     have hu:=zbg a;have h2:isNB (nusC a 0 1)=false:=zfu (by omega);exact zic (p:=true) (q:=true) (r:=true) (t:=false) hn ⟨fun _=>rfl,fun _=>⟨a,(hu.1 a).2 (.inl rfl),ha⟩⟩ ⟨fun _=>rfl,fun _=>⟨_,(hu.1 _).2 (.inr rfl),h2⟩⟩
      ⟨fun _=>rfl,fun _=>⟨a,(hu.2 a).2 rfl,ha⟩⟩ ⟨fun⟨x,hx,e⟩=>by rw[(hu.2 x).1 hx,ha]at e;exact e.symm,fun e=>by cases e⟩
    ·have hu:=zdm (a:=a) hp h1
     have h2:isNB (nusC a (n-1) (s ^^^ 1))=false:=zfu (fun q=>h1 ⟨by omega,ze0 q.2⟩);have e:=zic (p:=true) (q:=false) (r:=false) (t:=true) hn ⟨fun _=>rfl,fun _=>⟨a,(hu.1 a).2 rfl,ha⟩⟩ ⟨fun⟨x,hx,e⟩=>by rw[(hu.1 x).1 hx,ha]at e;exact e.symm,fun e=>by cases e⟩
      ⟨fun⟨x,hx,e⟩=>by rw[(hu.2 x).1 hx,h2]at e;exact e,fun e=>by cases e⟩ ⟨fun _=>rfl,fun _=>⟨_,(hu.2 _).2 rfl,h2⟩⟩
     rw[e,zo6,if_neg h0,if_pos hp,if_neg h1];rfl
   ·by_cases h1:n=-1/\s=1
    ·obtain⟨rfl,rfl⟩:=h1
     have hu:=zb2 a;have h2:isNB (nusC a 0 1)=false:=zfu (by omega);exact zic (p:=true) (q:=false) (r:=true) (t:=true) hn ⟨fun _=>rfl,fun _=>⟨a,(hu.1 a).2 rfl,ha⟩⟩ ⟨fun⟨x,hx,e⟩=>by rw[(hu.1 x).1 hx,ha]at e;exact e.symm,fun e=>by cases e⟩
      ⟨fun _=>rfl,fun _=>⟨a,(hu.2 a).2 (.inl rfl),ha⟩⟩ ⟨fun _=>rfl,fun _=>⟨_,(hu.2 _).2 (.inr rfl),h2⟩⟩
    ·have hu:=zca (a:=a) (show n<0 by omega) h1
     have h2:isNB (nusC a (n+1) (s ^^^ 1))=false:=zfu (fun q=>h1 ⟨by omega,ze0 q.2⟩);have e:=zic (p:=false) (q:=true) (r:=true) (t:=false) hn ⟨fun⟨x,hx,e⟩=>by rw[(hu.1 x).1 hx,h2]at e;exact e,fun e=>by cases e⟩ ⟨fun _=>rfl,fun _=>⟨_,(hu.1 _).2 rfl,h2⟩⟩
      ⟨fun _=>rfl,fun _=>⟨a,(hu.2 a).2 rfl,ha⟩⟩ ⟨fun⟨x,hx,e⟩=>by rw[(hu.2 x).1 hx,ha]at e;exact e.symm,fun e=>by cases e⟩
     rw[e,zo6,if_neg h0,if_neg hp,if_neg h1];rfl
theorem yd7 {n m:Int}{s t:Nat}(h:zo6 n s=zo6 m t):(n=0/\s=0/\m=0/\t=0)∨(n=0/\0<s/\m=0/\0<t)∨(0<n/\¬(n=1/\s=1)/\0<m/\¬(m=1/\t=1))∨(n=1/\s=1/\m=1/\t=1) ∨
  (n<0/\¬(n=-1/\s=1)/\m<0/\¬(m=-1/\t=1))∨(n=-1/\s=1/\m=-1/\t=1):=by
 unfold zo6 at h;split at h <;> split at h <;> (try split at h) <;> (try split at h) <;> (try split at h) <;> (try split at h) <;> omega
theorem zo1:∀(c a b:Nat) (n m:Int) (s t:Nat),isNB a=true→isNB b=true→c=nusC a n s→c=nusC b m t→a=b/\n=m/\s=t:=by
 intro c;induction c using Nat.strongRecOn with
 | _ c ih =>
  intro a b n m s t ha hb e1 e2;have hk:zo6 n s=zo6 m t:=by rw[←ztr ha,←ztr hb,←e1,←e2]
  rcases yd7 hk with ⟨rfl,rfl,rfl,rfl⟩|⟨rfl,hs,rfl,ht⟩|⟨hn,hns,hm,hmt⟩|⟨rfl,rfl,rfl,rfl⟩|⟨hn,hns,hm,hmt⟩|⟨rfl,rfl,rfl,rfl⟩
  ·exact⟨(e1.symm.trans e2:nusC a 0 0=nusC b 0 0),rfl,rfl⟩
  ·have h1:=(zch (a:=a) hs).1
   have h2:=(zch (a:=b) ht).1;rw[←e1]at h1;rw[←e2]at h2;have hab:a=b:=by
    obtain⟨k,hk,e⟩:=(h2 a).1 ((h1 a).2 ⟨0,hs,rfl⟩);by_cases hk0:k=0
    ·rw[hk0]at e;exact e.symm
    ·have:=zfu (a:=b) (n:=0) (s:=k) (by omega)
     rw[e,ha]at this;cases this
   subst hab;have lt:∀ {k s:Nat},hasL c (nusC a 0 k)→(∃j,j<s/\nusC a 0 j=nusC a 0 k)→k<s:=fun {k s} hl ⟨j,hj,e⟩=>by
    have:=(ih _ (za7 (.inl hl)) a a 0 0 k j ha ha rfl e.symm).2.2;omega
   refine⟨rfl,rfl,?_⟩;by_cases h:s<t
   ·have hl:=(h2 (nusC a 0 s)).2 ⟨s,h,rfl⟩
    have:=lt hl ((h1 _).1 hl);omega
   ·by_cases h':t<s
    ·have hl:=(h1 (nusC a 0 t)).2 ⟨t,h',rfl⟩
     have:=lt hl ((h2 _).1 hl);omega
    ·omega
  ·have h1:=zdm (a:=a) hn hns
   have h2:=zdm (a:=b) hm hmt;rw[←e1]at h1;rw[←e2]at h2;have hab:=(h2.1 a).1 ((h1.1 a).2 rfl);have hr:=(h1.2 _).2 rfl;obtain⟨_,q1,q2⟩:=ih _ (za7 (.inr hr)) a b (n-1) (m-1) (s ^^^ 1) (t ^^^ 1) ha hb rfl ((h2.2 _).1 hr);exact⟨hab,by omega,zsi q2⟩
  ·have h1:=zbg a
   have h2:=zbg b;rw[←e1]at h1;rw[←e2]at h2;exact⟨(h2.2 a).1 ((h1.2 a).2 rfl),rfl,rfl⟩
  ·have h1:=zca (a:=a) hn hns
   have h2:=zca (a:=b) hm hmt;rw[←e1]at h1;rw[←e2]at h2;have hab:=(h2.2 a).1 ((h1.2 a).2 rfl);have hl:=(h1.1 _).2 rfl;obtain⟨_,q1,q2⟩:=ih _ (za7 (.inl hl)) a b (n+1) (m+1) (s ^^^ 1) (t ^^^ 1) ha hb rfl ((h2.1 _).1 hl);exact⟨hab,by omega,zsi q2⟩
  ·have h1:=zb2 a
   have h2:=zb2 b;rw[←e1]at h1;rw[←e2]at h2;exact⟨(h2.1 a).1 ((h1.1 a).2 rfl),rfl,rfl⟩
def FewC (c:Nat):Prop:=∀s,SubC c s→(∀A:List Nat,A.Nodup→(∀a∈A,hasL s a)→A.length≤24)/\∀A:List Nat,A.Nodup→(∀a∈A,hasR s a)→A.length≤24
theorem zzn {c x:Nat}(h:SubC c x):x=c∨∃y,optC c y/\SubC y x:=by
 induction h with
 | root=>exact .inl rfl
 | step _ ho ih =>
  rcases ih with rfl|⟨y,hy,hs⟩
  ·exact .inr ⟨_,ho,.root⟩
  ·exact .inr ⟨y,hy,hs.step ho⟩
theorem ziu {P L:List Nat}{n:Nat}(hP:P.Nodup)(hL:L.Pairwise (· < ·))(hl:∀x∈L,x<n)(hn:n≤P.length):(za2 P L).Nodup:=by
 unfold za2;refine List.pairwise_map.2 (hL.imp_of_mem ?_);intro a b ha hb hab e;have la:=hl a ha;have lb:=hl b hb;rw[zg0 (List.getElem?_eq_getElem (show a<P.length by omega)),zg0 (List.getElem?_eq_getElem (show b<P.length by omega))]at e;have:=(List.getElem_inj hP).1 e;omega
theorem zs7 {c:Nat}(hl:(za6 c).length≤120)(h:FewC c):zau (za6 c)=true:=by
 obtain⟨P,hA⟩:=zc4 c;have hPl:=hA.book.len;have hpos:=(zft (zc4 c)).1;unfold zau;rw[decide_eq_true_eq];refine⟨hl,by omega,fun y hy=>?_⟩;obtain⟨j,hj,rfl⟩:=List.getElem_of_mem hy;have ej:=List.getElem?_eq_getElem hj
 obtain⟨o1,o2⟩:=hA.book.opts j _ ej;obtain⟨u1,u2⟩:=hA.book.up j _ ej;have hcode:=hA.book.code j _ ej;obtain⟨f1,f2⟩:=h (P.getD j 0) ((hA.sub _).1 (zcc (show j<P.length by omega)));constructor
 ·have:=f1 (za2 P (za6 c)[j].1) (ziu hA.book.nodup u1 o1 (by omega)) (fun a ha=>by rw[hcode];exact(zae _ _ _).2 ha)
  simpa [za2] using this
 ·have:=f2 (za2 P (za6 c)[j].2) (ziu hA.book.nodup u2 o2 (by omega)) (fun a ha=>by rw[hcode];exact(zaf _ _ _).2 ha)
  simpa [za2] using this
def IsNus (c a:Nat)(n:Int)(s:Nat):Prop:=valB a=true/\c=nusC a n s
def zpv (c:Nat):Prop:=∀a n s,¬IsNus c a n s
theorem IsNus.num {c a:Nat}{n:Int}{s:Nat}(h:IsNus c a n s):isNB a=true:=zh5 h.1
theorem IsNus.one {c a b:Nat}{n m:Int}{s t:Nat}(h:IsNus c a n s)(h':IsNus c b m t):a=b/\n=m/\s=t:=zo1 c a b n m s t h.num h'.num h.2 h'.2
theorem IsNus.self {c:Nat}(h:valB c=true):IsNus c c 0 0:=⟨h,rfl⟩
structure Sides (c:Nat) (A B:List Nat):Prop where
 l:∀x,hasL c x↔x∈A
 r:∀x,hasR c x↔x∈B
 nl:A.Nodup
 nr:B.Nodup
theorem ztp {A B:List Nat}(hA:A.Nodup)(hB:B.Nodup)(h:∀x,x∈A↔x∈B):A.length=B.length :=
 Nat.le_antisymm (hA.length_le_of_subset fun x hx=>(h x).1 hx) (hB.length_le_of_subset fun x hx=>(h x).2 hx)
theorem zn4 {a:Nat}(ha:isNB a=true)(s:Nat):((List.range s).map (nusC a 0)).Nodup:=by
 refine List.pairwise_map.2 (List.pairwise_lt_range.imp fun {i j} h e=>?_);have:=(zo1 _ a a 0 0 i j ha ha rfl e).2.2;omega
theorem zgf {A:List Nat}{a:Nat}(hA:A.Nodup)(h:∀x,x∈A↔x=a):A.length=1:=by
 have:=ztp hA (show [a].Nodup by simp) (fun x=>(h x).trans (by simp));rw[this];rfl
theorem zta {A:List Nat}{a b:Nat}(hA:A.Nodup)(hab:a≠b)(h:∀x,x∈A↔x=a∨x=b):A.length=2:=by
 have:=ztp hA (show [a,b].Nodup by simp[hab]) (fun x=>(h x).trans (by simp));rw[this];rfl
theorem zez {c a s:Nat}{n:Int}{A B:List Nat}(S:Sides c A B)(h:IsNus c a n s)(hv:valB c=false) :
  (n=0/\0<s/\(∀x,x∈A↔∃k,k<s/\nusC a 0 k=x)/\(∀x,x∈B↔∃k,k<s/\nusC a 0 k=x)/\A.length=s/\B.length=s) ∨
  (0<n/\¬(n=1/\s=1)/\(∀x,x∈A↔x=a)/\(∀x,x∈B↔x=nusC a (n-1) (s ^^^ 1))/\A.length=1/\B.length=1/\nusC a (n-1) (s ^^^ 1)≠a) ∨
  (n=1/\s=1/\(∀x,x∈A↔x=a∨x=nusC a 0 1)/\(∀x,x∈B↔x=a)/\A.length=2/\B.length=1) ∨
  (n<0/\¬(n=-1/\s=1)/\(∀x,x∈A↔x=nusC a (n+1) (s ^^^ 1))/\(∀x,x∈B↔x=a)/\A.length=1/\B.length=1/\nusC a (n+1) (s ^^^ 1)≠a) ∨
  (n=-1/\s=1/\(∀x,x∈A↔x=a)/\(∀x,x∈B↔x=a∨x=nusC a 0 1)/\A.length=1/\B.length=2):=by
 have ha:=h.num;have hc:=h.2;have ne:∀ {m:Int}{t:Nat},¬(m=0/\t=0)→nusC a m t≠a:=fun {m t} q e=>by
  have:=zfu (a:=a) q;rw[e,ha]at this;cases this
 by_cases h0:n=0
 ·subst h0
  have hs:0<s:=Nat.pos_of_ne_zero fun q=>by
   subst q;rw[hc,zf9,h.1]at hv;cases hv
  obtain⟨hl,hr⟩:=zch (a:=a) hs;rw[←hc]at hl hr;have mA:∀x,x∈A↔∃k,k<s/\nusC a 0 k=x:=fun x=>(S.l x).symm.trans (hl x)
  have mB:∀x,x∈B↔∃k,k<s/\nusC a 0 k=x:=fun x=>(S.r x).symm.trans (hr x)
  have mem:∀x,x∈(List.range s).map (nusC a 0)↔∃k,k<s/\nusC a 0 k=x:=fun x=>by
   rw[List.mem_map];exact⟨fun⟨k,hk,e⟩=>⟨k,List.mem_range.1 hk,e⟩,fun⟨k,hk,e⟩=>⟨k,List.mem_range.2 hk,e⟩⟩
  have l1:=ztp S.nl (zn4 ha s) (fun x=>(mA x).trans (mem x).symm);have l2:=ztp S.nr (zn4 ha s) (fun x=>(mB x).trans (mem x).symm);rw[List.length_map,List.length_range]at l1 l2;exact .inl ⟨rfl,hs,mA,mB,l1,l2⟩
 ·by_cases hp:0<n
  ·by_cases h1:n=1/\s=1
   ·obtain⟨rfl,rfl⟩:=h1
    obtain⟨hl,hr⟩:=zbg a;rw[←hc]at hl hr;have mA:=fun x=>(S.l x).symm.trans (hl x)
    have mB:=fun x=>(S.r x).symm.trans (hr x)
    exact .inr (.inr (.inl ⟨rfl,rfl,mA,mB,zta S.nl (ne (by omega)).symm mA,zgf S.nr mB⟩))
   ·obtain⟨hl,hr⟩:=zdm (a:=a) hp h1
    rw[←hc]at hl hr;have mA:=fun x=>(S.l x).symm.trans (hl x)
    have mB:=fun x=>(S.r x).symm.trans (hr x)
    exact .inr (.inl ⟨hp,h1,mA,mB,zgf S.nl mA,zgf S.nr mB,ne fun q=>h1 ⟨by omega,ze0 q.2⟩⟩)
  ·by_cases h1:n=-1/\s=1
   ·obtain⟨rfl,rfl⟩:=h1
    obtain⟨hl,hr⟩:=zb2 a;rw[←hc]at hl hr;have mA:=fun x=>(S.l x).symm.trans (hl x)
    have mB:=fun x=>(S.r x).symm.trans (hr x)
    exact .inr (.inr (.inr (.inr ⟨rfl,rfl,mA,mB,zgf S.nl mA,zta S.nr (ne (by omega)).symm mB⟩)))
   ·obtain⟨hl,hr⟩:=zca (a:=a) (show n<0 by omega) h1
    rw[←hc]at hl hr;have mA:=fun x=>(S.l x).symm.trans (hl x)
    have mB:=fun x=>(S.r x).symm.trans (hr x)
    exact .inr (.inr (.inr (.inl ⟨by omega,h1,mA,mB,zgf S.nl mA,zgf S.nr mB,ne fun q=>h1 ⟨by omega,ze0 q.2⟩⟩)))
theorem zg4 {c d:Nat}{A B:List Nat}(S:Sides c A B)(hl:∀x,hasL d x↔x∈A)(hr:∀x,hasR d x↔x∈B):c=d :=
 zcd (fun x=>(S.l x).trans (hl x).symm) (fun x=>(S.r x).trans (hr x).symm)
theorem yae {c a s:Nat}{A B:List Nat}(S:Sides c A B)(ha:valB a=true)(hs:0<s)(hA:∀x,x∈A↔∃k,k<s/\nusC a 0 k=x)(hB:∀x,x∈B↔∃k,k<s/\nusC a 0 k=x):IsNus c a 0 s:=by
 obtain⟨hl,hr⟩:=zch (a:=a) hs;exact⟨ha,zg4 S (fun x=>(hl x).trans (hA x).symm) (fun x=>(hr x).trans (hB x).symm)⟩
theorem yeh {c a s:Nat}{n:Int}{A B:List Nat}(S:Sides c A B)(ha:valB a=true)(hn:0≤n)(h1:¬(n=0/\s=0))(hA:∀x,x∈A↔x=a)(hB:∀x,x∈B↔x=nusC a n s):IsNus c a (n+1) (s ^^^ 1):=by
 obtain⟨hl,hr⟩:=zdm (a:=a) (n:=n+1) (s:=s ^^^ 1) (by omega) (fun q=>h1 ⟨by omega,by rw[←xor1 s,q.2];rfl⟩);rw[show n+1-1=n from by omega,xor1]at hr;exact⟨ha,zg4 S (fun x=>(hl x).trans (hA x).symm) (fun x=>(hr x).trans (hB x).symm)⟩
theorem yaf {c a s:Nat}{n:Int}{A B:List Nat}(S:Sides c A B)(ha:valB a=true)(hn:n≤0)(h1:¬(n=0/\s=0))(hA:∀x,x∈A↔x=nusC a n s)(hB:∀x,x∈B↔x=a):IsNus c a (n-1) (s ^^^ 1):=by
 obtain⟨hl,hr⟩:=zca (a:=a) (n:=n-1) (s:=s ^^^ 1) (by omega) (fun q=>h1 ⟨by omega,by rw[←xor1 s,q.2];rfl⟩);rw[show n-1+1=n from by omega,xor1]at hl;exact⟨ha,zg4 S (fun x=>(hl x).trans (hA x).symm) (fun x=>(hr x).trans (hB x).symm)⟩
theorem zut {c a:Nat}{A B:List Nat}(S:Sides c A B)(ha:valB a=true)(hA:∀x,x∈A↔x=a∨x=nusC a 0 1)(hB:∀x,x∈B↔x=a):IsNus c a 1 1:=by
 obtain⟨hl,hr⟩:=zbg a;exact⟨ha,zg4 S (fun x=>(hl x).trans (hA x).symm) (fun x=>(hr x).trans (hB x).symm)⟩
theorem zp3 {c a:Nat}{A B:List Nat}(S:Sides c A B)(ha:valB a=true)(hA:∀x,x∈A↔x=a)(hB:∀x,x∈B↔x=a∨x=nusC a 0 1):IsNus c a (-1) 1:=by
 obtain⟨hl,hr⟩:=zb2 a;exact⟨ha,zg4 S (fun x=>(hl x).trans (hA x).symm) (fun x=>(hr x).trans (hB x).symm)⟩
def NusAt (c:Nat)(x:(Int × Nat) × Int × Nat):Prop:=∃a,IsNus c a x.2.1 x.2.2/\valD a=x.1
def SmallU (k:Nat)(x:(Int × Nat) × Int × Nat):Prop:=x.2.1.natAbs≤k/\x.2.2≤k
def Told (k c:Nat)(x:(Int × Nat) × Int × Nat)(ok:Bool):Prop:=(ok=true→NusAt c x/\SmallU k x)/\(ok=false→zpv c)
theorem zg7 {a b:Nat}(ha:valB a=true)(hb:valB b=true)(h:valD a=valD b):a=b:=by
 have h1:=(zg8 ha).1.2;have h2:=(zg8 hb).1.2;rw[h1,h2,h]
theorem zpy (s:Nat):s ^^^ 1≤s+1:=by
 have h:(s ^^^ 1)/2=s/2:=by rw[Nat.xor_div_two];simp
 omega
theorem zhv (s:Nat)(h:s≤2000000):bits BinOp.xor IntKind.i64 (s:Int) 1=((s ^^^ 1:Nat):Int):=by
 have h1:=zpy s;show IntKind.i64.wrap (((BitVec.ofInt 64 (s:Int) ^^^ BitVec.ofInt 64 1).toNat:Nat):Int)=_
 rw[BitVec.toNat_xor,BitVec.toNat_ofInt,BitVec.toNat_ofInt];have e1:((s:Int)%((2^64:Nat):Int)).toNat=s:=by omega
 have e2:((1:Int)%((2^64:Nat):Int)).toNat=1:=by decide
 rw[e1,e2,IntKind.wrap_i64];omega
theorem NusAt.of {c a:Nat}{n:Int}{s:Nat}{x:(Int × Nat) × Int × Nat}(h:NusAt c x)(h':IsNus c a n s):x=(valD a,n,s):=by
 obtain⟨b,ib,db⟩:=h;obtain⟨e1,e2,e3⟩:=ib.one h';rw[←e1,←e2,←e3,db]
theorem zzt {V:List PL}{C:List Nat}(B:BookC V C){x:Nat}(hx:x<V.length):Sides (C.getD x 0) (za2 C (za5 V x).1) (za2 C (za5 V x).2):=by
 obtain⟨oL,oR⟩:=zaz B hx;obtain⟨u1,u2⟩:=B.up x _ (zad hx);obtain⟨o1,o2⟩:=B.opts x _ (zad hx);exact⟨fun z=>(oL z).trans mem_atAll.symm,fun z=>(oR z).trans mem_atAll.symm,zmi B.nodup u1 (fun y hy=>by have:=o1 y hy;have:=B.len;omega),zmi B.nodup u2 (fun y hy=>by have:=o2 y hy;have:=B.len;omega)⟩
noncomputable def valV (c:Nat):Value:=.agg #[.int .i64 (valD c).1,.int .i64 ((valD c).2:Int)]
theorem zs2 {c:Nat}(h:isNB c=true){s:Int}{N:Nat}(e:redT s N=valT c):(valB c=true↔GoodD (redT s N).1 (redT s N).2)/\lowT s N (valB c)=valV c:=by
 have h1:=(zy2 h).good;rw[e];refine⟨h1,?_⟩;unfold lowT valV;rw[e];cases hb:valB c with
 | true=>rw[if_pos rfl];unfold valD;rw[if_pos hb]
 | false=>rw[zkf hb];rfl
theorem zz8 {c l:Nat}(h:isNB c=true)(hl:hasL c l)(hR:∀r,¬hasR c r):(valB l=false→valB c=false)/\(valB l=true→redT ((valD l).1*2^(16-(valD l).2)+1*2^(16-0)) 16=valT c):=by
 obtain⟨k,k0,v1,v2⟩:=zz9 h hl hR;constructor
 ·intro e
  cases hc:valB c with
  | false=>rfl
  | true =>
   have h1:=v1.good.1 hc;have h2:GoodD (k-1) (0:Nat):=⟨by have:=h1.1;omega,by decide,.inl rfl⟩;rw[v2.good.2 h2]at e;cases e
 ·intro e
  rw[(v2.goodD (v2.good.1 e)).2,v1.val];have:=zdx 16 0 k;rw[show(k-1,0).1*2^(16-(k-1,0).2)+1*2^(16-0)=k*2^16 from by simp only[Nat.sub_zero];omega];rw[show 16=0+16 from rfl,this];rfl
theorem zz6 {c r:Nat}(h:isNB c=true)(hr:hasR c r)(hL:∀l,¬hasL c l):(valB r=false→valB c=false)/\(valB r=true→redT ((valD r).1*2^(16-(valD r).2) + -1*2^(16-0)) 16=valT c):=by
 obtain⟨k,k0,v1,v2⟩:=zvf h hr hL;constructor
 ·intro e
  cases hc:valB c with
  | false=>rfl
  | true =>
   have h1:=v1.good.1 hc;have h2:GoodD (k+1) (0:Nat):=⟨by have:=h1.1;omega,by decide,.inl rfl⟩;rw[v2.good.2 h2]at e;cases e
 ·intro e
  rw[(v2.goodD (v2.good.1 e)).2,v1.val];have:=zdx 16 0 k;rw[show(k+1,0).1*2^(16-(k+1,0).2) + -1*2^(16-0)=k*2^16 from by simp only[Nat.sub_zero];omega];rw[show 16=0+16 from rfl,this];rfl
theorem zr0 {c l r:Nat}(h:isNB c=true)(hl:hasL c l)(hr:hasR c r):(valB l=false∨valB r=false→valB c=false)/\(valB l=true→valB r=true→redT ((valD l).1*2^(16-(valD l).2)+(valD r).1*2^(16-(valD r).2)) 17=valT c):=by
 obtain⟨t,p,v,hp,ho,vl,vr⟩:=zza h hl hr;constructor
 ·intro e
  cases hc:valB c with
  | false=>rfl
  | true =>
   obtain⟨g1,g2⟩:=zve hp ho (v.good.1 hc);rcases e with e|e
   ·rw[vl.good.2 g1]at e;cases e
   ·rw[vr.good.2 g2]at e;cases e
 ·intro e1 e2
  have g1:=vl.good.1 e1;have g2:=vr.good.1 e2;rw[(vl.goodD g1).2,(vr.goodD g2).2,v.val];exact(yc3 hp ho g1 g2).2
theorem zz5 {c:Nat}(h:isNB c=true)(hL:∀l,¬hasL c l)(hR:∀r,¬hasR c r):valB c=true/\valD c=(0,0) :=
 (zz7 h hL hR).goodD ⟨by decide,by decide,.inl rfl⟩
theorem yc2 {c:Nat}(h:isNB c=false):valB c=false:=by unfold valB;rw[h];rfl
end Go.Proofs.YtlapkmhemepcaaaGreatDoor
