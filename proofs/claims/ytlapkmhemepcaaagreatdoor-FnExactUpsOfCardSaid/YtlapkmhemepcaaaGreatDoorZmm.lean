import Derived.Test.YtlapkmhemepcaaaGreatDoorZm2
/- Lemmas. -/
namespace Go.Proofs.YtlapkmhemepcaaaGreatDoor
set_option linter.unusedVariables false
set_option linter.unusedSimpArgs false
open Go.RowKit
theorem zor (s:Int)(P:Nat):nr (2*s) (P+1)=nr s P:=by
 rw[zd0 (by omega),show 2*s/2=s from by omega]
theorem zf6 (s:Int)(P k:Nat):nr (s*2^k) (P+k)=nr s P:=by
 unfold nr;rw[zcf]
theorem zf8 {s:Int}{l:Nat}(h:hasL (intC s) l):0<s/\l=intC (s-1):=by
 by_cases h0:s=0
 ·subst h0;exact absurd h (yb8 l)
 ·by_cases hp:0<s
  ·rw[zo1 hp,zac]at h
   exact⟨hp,List.mem_singleton.1 h⟩
  ·rw[zo2 (by omega),zac]at h
   simp at h
theorem ze4 {s:Int}{r:Nat}(h:hasR (intC s) r):s<0/\r=intC (s+1):=by
 by_cases h0:s=0
 ·subst h0;exact absurd h (yb7 r)
 ·by_cases hp:0<s
  ·rw[zo1 hp,zaf]at h
   simp at h
  ·rw[zo2 (by omega),zaf]at h
   exact⟨by omega,List.mem_singleton.1 h⟩
theorem zt6 {s:Int}(h:0<s):hasL (intC s) (intC (s-1)):=by rw[zo1 h,zac];simp
theorem zt5 {s:Int}(h:s<0):hasR (intC s) (intC (s+1)):=by rw[zo2 h,zaf];simp
theorem zfr:∀(P:Nat) (s:Int) (l:Nat),hasL (nr s P) l→∃v,v<s/\l=nr v P:=by
 intro P;induction P with
 | zero =>
  intro s l h;rw[zfs]at h;obtain⟨_,e⟩:=zf8 h;exact⟨s-1,by omega,by rw[zfs];exact e⟩
 | succ P ih =>
  intro s l h;by_cases he:s%2=0
  ·rw[zd0 he]at h
   obtain⟨v,hv,e⟩:=ih _ _ h;exact⟨2*v,by omega,by rw[zor];exact e⟩
  ·rw[zkv he,zac]at h
   exact⟨s-1,by omega,by rw[zd0 (by omega)];exact List.mem_singleton.1 h⟩
theorem zec:∀(P:Nat) (s:Int) (r:Nat),hasR (nr s P) r→∃v,s<v/\r=nr v P:=by
 intro P;induction P with
 | zero =>
  intro s l h;rw[zfs]at h;obtain⟨_,e⟩:=ze4 h;exact⟨s+1,by omega,by rw[zfs];exact e⟩
 | succ P ih =>
  intro s l h;by_cases he:s%2=0
  ·rw[zd0 he]at h
   obtain⟨v,hv,e⟩:=ih _ _ h;exact⟨2*v,by omega,by rw[zor];exact e⟩
  ·rw[zkv he,zaf]at h
   exact⟨s+1,by omega,by rw[zd0 (by omega)];exact List.mem_singleton.1 h⟩
theorem znp {s:Int}{P:Nat}(h:s%2≠0):hasL (nr s (P+1)) (nr (s-1) (P+1)):=by
 rw[zkv h,zac,zd0 (by omega)];simp
theorem zr2 {s:Int}{P:Nat}(h:s%2≠0):hasR (nr s (P+1)) (nr (s+1) (P+1)):=by
 rw[zkv h,zaf,zd0 (by omega)];simp
theorem zub:∀(P:Nat) (s t:Int),s<t→(∃v,s≤v/\v<t/\hasL (nr t P) (nr v P))∨∃v,s<v/\v≤t/\hasR (nr s P) (nr v P):=by
 intro P;induction P with
 | zero =>
  intro s t h;by_cases ht:0<t
  ·exact .inl ⟨t-1,by omega,by omega,by rw[zfs,zfs];exact zt6 ht⟩
  ·exact .inr ⟨s+1,by omega,by omega,by rw[zfs,zfs];exact zt5 (by omega)⟩
 | succ P ih =>
  intro s t h;by_cases ht:t%2=0
  ·by_cases hs:s%2=0
   ·rw[zd0 ht,zd0 hs]
    rcases ih (s/2) (t/2) (by omega)with ⟨v,h1,h2,h3⟩|⟨v,h1,h2,h3⟩
    ·exact .inl ⟨2*v,by omega,by omega,by rw[zor];exact h3⟩
    ·exact .inr ⟨2*v,by omega,by omega,by rw[zor];exact h3⟩
   ·exact .inr ⟨s+1,by omega,by omega,zr2 hs⟩
  ·exact .inl ⟨t-1,by omega,by omega,znp ht⟩
theorem nr_ge' (P n:Nat):∀s t:Int,nr s P+nr t P<n→(t≤s→geC (nr s P) (nr t P)=true)/\(s<t→geC (nr s P) (nr t P)=false):=by
 induction n with
 | zero=>intro s t h;omega
 | succ n ih =>
  intro s t hn;refine⟨fun h=>zfb (fun r hr=>?_) fun l hl=>?_,fun h=>?_⟩
  ·have hlt:=zad (.inr hr)
   obtain⟨v,hv,rfl⟩:=zec _ _ _ hr;exact(ih t v (by omega)).2 (by omega)
  ·have hlt:=zad (.inl hl)
   obtain⟨v,hv,rfl⟩:=zfr _ _ _ hl;exact(ih v s (by omega)).2 (by omega)
  ·cases e:geC (nr s P) (nr t P)with
   | false=>rfl
   | true =>
    rcases zub P s t h with ⟨v,h1,h2,h3⟩|⟨v,h1,h2,h3⟩
    ·have hlt:=zad (.inl h3)
     have:=(ih v s (by omega)).1 h1;rw[zgz e h3]at this;cases this
    ·have hlt:=zad (.inr h3)
     have:=(ih t v (by omega)).1 h2;rw[zfa e h3]at this;cases this
theorem zr3 {s t:Int}{P:Nat}(h:t≤s):geC (nr s P) (nr t P)=true:=(nr_ge' P _ s t (Nat.lt_succ_self _)).1 h
theorem znq {s t:Int}{P:Nat}(h:s<t):geC (nr s P) (nr t P)=false:=(nr_ge' P _ s t (Nat.lt_succ_self _)).2 h
theorem zsm {s t:Int}{P:Nat}(h:geC (nr s P) (nr t P)=true):t≤s:=by
 refine Int.not_lt.1 fun q=>?_
 rw[znq q]at h;cases h
def EqC (a b:Nat):Prop:=geC a b=true/\geC b a=true
theorem zy3 (s:Int)(P:Nat):CanC1 (nr s P):=by
 have uniq:∀(P:Nat) (s:Int),(∀l l',hasL (nr s P) l→hasL (nr s P) l'→l=l')/\∀l l',hasR (nr s P) l→hasR (nr s P) l'→l=l':=by
  intro P;induction P with
  | zero =>
   intro s;rw[zfs];exact⟨fun l l' h h'=>by rw[(zf8 h).2,(zf8 h').2],fun l l' h h'=>by rw[(ze4 h).2,(ze4 h').2]⟩
  | succ P ih =>
   intro s;by_cases he:s%2=0
   ·rw[zd0 he];exact ih _
   ·rw[zkv he]
    refine⟨fun l l' h h'=>?_,fun l l' h h'=>?_⟩
    ·rw[zac]at h h'
     rw[List.mem_singleton.1 h,List.mem_singleton.1 h']
    ·rw[zaf]at h h'
     rw[List.mem_singleton.1 h,List.mem_singleton.1 h']
 have rev:∀(P:Nat) (s:Int),(∀l r,hasL (nr s P) l→hasR l r→geC (nr s P) r=false)/\∀r l,hasR (nr s P) r→hasL r l→geC l (nr s P)=false:=by
  intro P;induction P with
  | zero =>
   intro s;rw[zfs];refine⟨fun l r h h'=>?_,fun l r h h'=>?_⟩
   ·obtain⟨h1,rfl⟩:=zf8 h
    have:=(ze4 h').1;omega
   ·obtain⟨h1,rfl⟩:=ze4 h
    have:=(zf8 h').1;omega
  | succ P ih =>
   intro s;by_cases he:s%2=0
   ·rw[zd0 he];exact ih _
   ·refine⟨fun l r h h'=>?_,fun l r h h'=>?_⟩
    ·rw[zkv he,zac]at h
     rw[List.mem_singleton.1 h]at h';obtain⟨v,hv,rfl⟩:=zec _ _ _ h';rw[←zor v P];exact znq (by omega)
    ·rw[zkv he,zaf]at h
     rw[List.mem_singleton.1 h]at h';obtain⟨v,hv,rfl⟩:=zfr _ _ _ h';rw[←zor v P];exact znq (by omega)
 exact⟨fun l l' h h' _=>(uniq P s).1 _ _ h' h,fun l l' h h' _=>(uniq P s).2 _ _ h' h,(rev P s).1,(rev P s).2⟩
theorem zsk (s:Int)(P:Nat):(∀l l',hasL (nr s P) l→hasL (nr s P) l'→l=l')/\∀l l',hasR (nr s P) l→hasR (nr s P) l'→l=l':=by
 have h:=zy3 s P;refine⟨fun l l' a b=>?_,fun l l' a b=>?_⟩
 ·obtain⟨v,_,rfl⟩:=zfr _ _ _ a
  obtain⟨v',_,rfl⟩:=zfr _ _ _ b;by_cases e:v'≤v
  ·exact h.domL _ _ b a (zr3 e)
  ·exact(h.domL _ _ a b (zr3 (by omega))).symm
 ·obtain⟨v,_,rfl⟩:=zec _ _ _ a
  obtain⟨v',_,rfl⟩:=zec _ _ _ b;by_cases e:v≤v'
  ·exact h.domR _ _ b a (zr3 e)
  ·exact(h.domR _ _ a b (zr3 (by omega))).symm
theorem yd6 {s:Int}{P x:Nat}(h:SubC (nr s P) x):∃v,x=nr v P:=by
 induction h with
 | root=>exact⟨s,rfl⟩
 | step _ ho ih =>
  obtain⟨v,rfl⟩:=ih;rcases ho with h|h
  ·obtain⟨u,_,e⟩:=zfr _ _ _ h;exact⟨u,e⟩
  ·obtain⟨u,_,e⟩:=zec _ _ _ h;exact⟨u,e⟩
theorem ydh (s:Int)(P:Nat):CanC (nr s P):=fun x hx=>by
 obtain⟨v,rfl⟩:=yd6 hx;exact zy3 v P
def IsNum (G:Nat):Prop:=∃(P:Nat) (s:Int),EqC G (nr s P)
theorem IsNum.can {c:Nat}(h:IsNum c)(hc:CanC c):∃(P:Nat) (s:Int),c=nr s P:=by
 obtain⟨P,s,k⟩:=h;exact⟨P,s,zrs hc (ydh s P) k.1 k.2⟩
theorem ybu (P:Nat){G:Nat}:∀(n:Nat) (s:Int),nr s P<n→(∀l,hasL G l→geC l (nr s P)=false)→(∀r,hasR G r→geC (nr s P) r=false)→IsNum G:=by
 intro n;induction n with
 | zero=>intro s h;omega
 | succ n ih =>
  intro s hn hl hr;cases h1:geC (nr s P) G with
  | false =>
   rcases zgp h1 with ⟨r,h,e⟩|⟨l,h,e⟩
   ·have hlt:=zad (.inr h)
    obtain⟨v,hv,rfl⟩:=zec _ _ _ h;refine ih v (by omega) (fun l h'=>?_) fun r h'=>?_
    ·cases q:geC l (nr v P)with
     | false=>rfl
     | true =>
      have:=zas q (zr3 (s:=v) (t:=s) (P:=P) (by omega));rw[hl l h']at this;cases this
    ·cases q:geC (nr v P) r with
     | false=>rfl
     | true =>
      have:=zas e q;rw[zc2 h']at this;cases this
   ·rw[hl l h]at e;cases e
  | true =>
   cases h2:geC G (nr s P)with
   | true=>exact⟨P,s,h2,h1⟩
   | false =>
    rcases zgp h2 with ⟨r,h,e⟩|⟨l,h,e⟩
    ·rw[hr r h]at e;cases e
    ·have hlt:=zad (.inl h)
     obtain⟨v,hv,rfl⟩:=zfr _ _ _ h;refine ih v (by omega) (fun l h'=>?_) fun r h'=>?_
     ·cases q:geC l (nr v P)with
      | false=>rfl
      | true =>
       have:=zas q e;rw[zdc h']at this;cases this
     ·cases q:geC (nr v P) r with
      | false=>rfl
      | true =>
       have:=zas (zr3 (s:=s) (t:=v) (P:=P) (by omega)) q;rw[hr r h']at this;cases this
theorem zzi (m:Int)(P:Nat):nr (m*2^P) P=intC m:=by
 have h:=zf6 m 0 P;rw[Nat.zero_add]at h;rw[h,zfs]
theorem zr7 {L R:List Nat}{i:Nat}(h:i∈L):hasL (mkC L R) i:=(zac _ _ _).2 h
theorem zst {L R:List Nat}{i:Nat}(h:i∈R):hasR (mkC L R) i:=(zaf _ _ _).2 h
theorem zsu {a i:Nat}{R:List Nat}(h:hasL (mkC [a] R) i):i=a:=List.mem_singleton.1 ((zac _ _ _).1 h)
theorem zhb {a i:Nat}{L:List Nat}(h:hasR (mkC L [a]) i):i=a:=List.mem_singleton.1 ((zaf _ _ _).1 h)
theorem ybv (P:Nat):nr 0 P=zai:=by
 have h:=zzi 0 P;rw[Int.zero_mul]at h;rw[h,zxm]
section
variable {s:Int}{P:Nat}(hs:0<s)
include hs
end
def IsVal (c:Nat)(t:Int)(p:Nat):Prop:=Red t p/\c=numC t p
theorem IsVal.toNr {c:Nat}{t:Int}{p:Nat}(h:IsVal c t p):c=nr t p:=by rw[ybx h.1];exact h.2
theorem zx8 (s:Int)(P:Nat):IsVal (nr s P) (redT s P).1 (redT s P).2:=⟨zdp _ _,rfl⟩
theorem yd7 {s t:Int}{P:Nat}(h:nr s P=nr t P):s=t:=by
 have h1:=zsm (show geC (nr s P) (nr t P)=true by rw[h];exact zc9 _);have h2:=zsm (show geC (nr t P) (nr s P)=true by rw[h];exact zc9 _);omega
theorem IsVal.one {c:Nat}{t s:Int}{p q:Nat}(h:IsVal c t p)(k:IsVal c s q):t=s/\p=q:=by
 have e1:nr (t*2^q) (p+q)=c:=by rw[zf6];exact h.toNr.symm
 have e2:nr (s*2^p) (p+q)=c:=by rw[Nat.add_comm,zf6];exact k.toNr.symm
 have e:=yd7 (e1.trans e2.symm);have a:=zcf q p t;rw[e,Nat.add_comm,zcf,zcz k.1,zcz h.1]at a;have a1:=congrArg Prod.fst a;have a2:=congrArg Prod.snd a;exact⟨a1.symm,a2.symm⟩
open Classical in
noncomputable def isNB (c:Nat):Bool:=decide (∃t p,IsVal c t p)
open Classical in
noncomputable def valT (c:Nat):Int × Nat:=if h:∃d:Int × Nat,IsVal c d.1 d.2 then Classical.choose h else (0,0)
open Classical in
theorem zcq {c:Nat}:isNB c=true↔∃t p,IsVal c t p:=by unfold isNB;rw[decide_eq_true_iff]
theorem IsVal.is {c:Nat}{t:Int}{p:Nat}(h:IsVal c t p):isNB c=true:=zcq.2 ⟨t,p,h⟩
theorem IsVal.val {c:Nat}{t:Int}{p:Nat}(h:IsVal c t p):valT c=(t,p):=by
 have hx:∃d:Int × Nat,IsVal c d.1 d.2:=⟨(t,p),h⟩;unfold valT;rw[dif_pos hx];obtain⟨a,b⟩:=(Classical.choose_spec hx).one h;exact Prod.ext a b
theorem zrg {c:Nat}(h:isNB c=true):IsVal c (valT c).1 (valT c).2:=by
 obtain⟨t,p,k⟩:=zcq.1 h;rw[k.val];exact k
theorem zxk (s:Int)(P:Nat):isNB (nr s P)=true:=(zx8 s P).is
open Classical in
noncomputable def valB (c:Nat):Bool:=isNB c && decide (GoodD (valT c).1 (valT c).2)
noncomputable def valD (c:Nat):Int × Nat:=if valB c=true then valT c else (0,0)
open Classical in
theorem IsVal.good {c:Nat}{t:Int}{p:Nat}(h:IsVal c t p):valB c=true↔GoodD t p:=by
 unfold valB;rw[h.is,h.val,Bool.true_and,decide_eq_true_iff]
theorem zd8 {c:Nat}(h:valB c=true):isNB c=true:=by
 unfold valB at h;exact(Bool.and_eq_true_iff.1 h).1
theorem zbz {c:Nat}(h:valB c=true):IsVal c (valD c).1 (valD c).2/\GoodD (valD c).1 (valD c).2:=by
 have h1:=zrg (zd8 h);unfold valD;rw[if_pos h];exact⟨h1,h1.good.1 h⟩
theorem IsVal.goodD {c:Nat}{t:Int}{p:Nat}(h:IsVal c t p)(hg:GoodD t p):valB c=true/\valD c=(t,p):=by
 have h1:=h.good.2 hg;refine⟨h1,?_⟩;unfold valD;rw[if_pos h1,h.val]
theorem zdk {c:Nat}(h:valB c=false):valD c=(0,0):=by unfold valD;rw[h];rfl
theorem zzg {c l l':Nat}(h:isNB c=true)(a:hasL c l)(b:hasL c l'):l=l':=by
 obtain⟨t,p,k⟩:=zcq.1 h;rw[k.toNr]at a b;exact(zsk _ _).1 _ _ a b
theorem zzf {c l l':Nat}(h:isNB c=true)(a:hasR c l)(b:hasR c l'):l=l':=by
 obtain⟨t,p,k⟩:=zcq.1 h;rw[k.toNr]at a b;exact(zsk _ _).2 _ _ a b
theorem znn {c l:Nat}(h:isNB c=true)(a:hasL c l):isNB l=true:=by
 obtain⟨t,p,k⟩:=zcq.1 h;rw[k.toNr]at a;obtain⟨v,_,rfl⟩:=zfr _ _ _ a;exact zxk _ _
theorem znm {c l:Nat}(h:isNB c=true)(a:hasR c l):isNB l=true:=by
 obtain⟨t,p,k⟩:=zcq.1 h;rw[k.toNr]at a;obtain⟨v,_,rfl⟩:=zec _ _ _ a;exact zxk _ _
theorem zoq {c l r:Nat}(h:isNB c=true)(a:hasL c l)(b:hasR c r):geC l r=false:=by
 obtain⟨t,p,k⟩:=zcq.1 h;rw[k.toNr]at a b;obtain⟨v,hv,rfl⟩:=zfr _ _ _ a;obtain⟨u,hu,rfl⟩:=zec _ _ _ b;exact znq (by omega)
theorem zzh {c:Nat}(hc:CanC c)(h1:∀l l',hasL c l→hasL c l'→l=l')(h2:∀r r',hasR c r→hasR c r'→r=r')(hL:∀l,hasL c l→isNB l=true)(hR:∀r,hasR c r→isNB r=true)
  (ha:∀l r,hasL c l→hasR c r→geC l r=false):isNB c=true:=by
 have fin:∀(s:Int) (P:Nat),(∀l,hasL c l→geC l (nr s P)=false)→(∀r,hasR c r→geC (nr s P) r=false)→isNB c=true:=fun s P a b=>by
  obtain⟨Q,u,e⟩:=(ybu P _ s (Nat.lt_succ_self _) a b).can hc;rw[e];exact zxk _ _
 by_cases eL:∃l,hasL c l
 ·obtain⟨l,hl⟩:=eL
  obtain⟨s,P,kl⟩:=zcq.1 (hL l hl);by_cases eR:∃r,hasR c r
  ·obtain⟨r,hr⟩:=eR
   obtain⟨t,Q,kr⟩:=zcq.1 (hR r hr);have e1:l=nr (2*(s*2^Q)) (P+Q+1):=by rw[zor,zf6];exact kl.toNr
   have e2:r=nr (2*(t*2^P)) (P+Q+1):=by rw[zor,Nat.add_comm,zf6];exact kr.toNr
   have hlt:s*2^Q<t*2^P:=by
    have h:=ha l r hl hr;rw[e1,e2]at h;refine Int.not_le.1 fun q=>?_
    rw[zr3 (show 2*(t*2^P)≤2*(s*2^Q)by omega)]at h;cases h
   refine fin (2*(s*2^Q)+1) (P+Q+1) (fun l' hl'=>?_) (fun r' hr'=>?_)
   ·rw[h1 _ _ hl' hl,e1];exact znq (by omega)
   ·rw[h2 _ _ hr' hr,e2];exact znq (by omega)
  ·refine fin (s+1) P (fun l' hl'=>?_) (fun r' hr'=>absurd ⟨r',hr'⟩ eR)
   rw[h1 _ _ hl' hl,kl.toNr];exact znq (by omega)
 ·by_cases eR:∃r,hasR c r
  ·obtain⟨r,hr⟩:=eR
   obtain⟨t,Q,kr⟩:=zcq.1 (hR r hr);refine fin (t-1) Q (fun l' hl'=>absurd ⟨l',hl'⟩ eL) (fun r' hr'=>?_);rw[h2 _ _ hr' hr,kr.toNr];exact znq (by omega)
  ·exact fin 0 0 (fun l' hl'=>absurd ⟨l',hl'⟩ eL) (fun r' hr'=>absurd ⟨r',hr'⟩ eR)
theorem zyi {c:Nat}(h:isNB c=true)(hL:∀l,¬hasL c l)(hR:∀r,¬hasR c r):IsVal c 0 0:=by
 obtain⟨t,p,k⟩:=zcq.1 h;have hk:=k;obtain⟨hr,e⟩:=hk;cases p with
 | zero =>
  rw[ziy]at e;by_cases h0:t=0
  ·subst h0;exact k
  ·by_cases hp:0<t
   ·exact absurd (by rw[e];exact zt6 hp) (hL _)
   ·exact absurd (by rw[e];exact zt5 (by omega)) (hR _)
 | succ p =>
  have ho:t%2≠0:=hr.resolve_left (by omega);exact absurd (by rw[k.toNr];exact znp ho) (hL _)
theorem zs1 {c l:Nat}(h:isNB c=true)(hl:hasL c l)(hR:∀r,¬hasR c r):∃k:Int,0<k/\IsVal c k 0/\IsVal l (k-1) 0:=by
 obtain⟨t,p,k⟩:=zcq.1 h;have hk:=k;obtain⟨hr,e⟩:=hk;cases p with
 | zero =>
  rw[ziy]at e;rw[e]at hl;obtain⟨h1,h2⟩:=zf8 hl;exact⟨t,h1,k,.inl rfl,h2⟩
 | succ p =>
  have ho:t%2≠0:=hr.resolve_left (by omega);exact absurd (by rw[k.toNr];exact zr2 ho) (hR _)
theorem zo9 {c r:Nat}(h:isNB c=true)(hr:hasR c r)(hL:∀l,¬hasL c l):∃k:Int,k<0/\IsVal c k 0/\IsVal r (k+1) 0:=by
 obtain⟨t,p,k⟩:=zcq.1 h;have hk:=k;obtain⟨hd,e⟩:=hk;cases p with
 | zero =>
  rw[ziy]at e;rw[e]at hr;obtain⟨h1,h2⟩:=ze4 hr;exact⟨t,h1,k,.inl rfl,h2⟩
 | succ p =>
  have ho:t%2≠0:=hd.resolve_left (by omega);exact absurd (by rw[k.toNr];exact znp ho) (hL _)
theorem zs2 {c l r:Nat}(h:isNB c=true)(hl:hasL c l)(hr:hasR c r):∃(t:Int) (p:Nat),IsVal c t p/\0<p/\t%2≠0/\IsVal l (redT (t-1) p).1 (redT (t-1) p).2/\IsVal r (redT (t+1) p).1 (redT (t+1) p).2:=by
 obtain⟨t,p,k⟩:=zcq.1 h;have hk:=k;obtain⟨hd,e⟩:=hk;cases p with
 | zero =>
  rw[ziy]at e;rw[e]at hl hr;have a:=zf8 hl;have b:=ze4 hr;omega
 | succ p =>
  have ho:t%2≠0:=hd.resolve_left (by omega);refine⟨t,p+1,k,by omega,ho,?_,?_⟩
  ·rw[k.toNr]at hl
   rw[(zsk _ _).1 _ _ hl (znp ho)];exact zx8 _ _
  ·rw[k.toNr]at hr
   rw[(zsk _ _).2 _ _ hr (zr2 ho)];exact zx8 _ _
theorem zer {N:Nat}:∀(p:Nat) (x:Int),p≤N→(redT x p).1*2^(N-(redT x p).2)=x*2^(N-p):=by
 intro p;induction p with
 | zero=>intro x _;rfl
 | succ p ih =>
  intro x hp;by_cases hx:x%2=0
  ·rw[zb6 hx,ih _ (by omega)]
   obtain⟨k,hk⟩:∃k,N-p=k+1:=⟨N-(p+1),by omega⟩;rw[hk,show N-(p+1)=k from by omega,Int.pow_succ,Int.mul_comm (2^k) 2,←Int.mul_assoc];congr 1
   omega
  ·rw[redT,if_neg hx]
theorem zz0 {x:Int}{N p:Nat}(h:p≤N):redT (x*2^(N-p)) N=redT x p:=by
 have:=zcf (N-p) p x;rw[show p+(N-p)=N from by omega]at this
 exact this
theorem zv5 {t:Int}{p:Nat}(hp:0<p)(ho:t%2≠0)(h1:GoodD (redT (t-1) p).1 (redT (t-1) p).2)(h2:GoodD (redT (t+1) p).1 (redT (t+1) p).2) :
  p≤17/\redT ((redT (t-1) p).1*2^(16-(redT (t-1) p).2)+(redT (t+1) p).1*2^(16-(redT (t+1) p).2)) 17=(t,p):=by
 obtain⟨q,rfl⟩:∃q,p=q+1:=⟨p-1,by omega⟩;rw[zb6 (show(t-1)%2=0 by omega)]at h1 ⊢;rw[zb6 (show(t+1)%2=0 by omega)]at h2 ⊢;by_cases hq:q≤16
 ·refine⟨by omega,?_⟩
  rw[zer q _ hq,zer q _ hq,←Int.add_mul,show(t-1)/2+(t+1)/2=t from by omega];have:=zz0 (x:=t) (N:=17) (p:=q+1) (by omega);rw[show 17-(q+1)=16-q from by omega]at this
  rw[this,zcz (.inr ho)]
 ·have h3:=h1.2.1
  have h4:=h2.2.1;exfalso
  by_cases he:(t-1)/2%2=0
  ·rw[zcz (t:=(t+1)/2) (.inr (by omega))]at h4
   have:((q:Nat):Int)≤16:=h4.2;omega
  ·rw[zcz (t:=(t-1)/2) (.inr he)]at h3
   have:((q:Nat):Int)≤16:=h3.2;omega
theorem zv4 {t:Int}{p:Nat}(hp:0<p)(ho:t%2≠0)(h:GoodD t p):GoodD (redT (t-1) p).1 (redT (t-1) p).2/\GoodD (redT (t+1) p).1 (redT (t+1) p).2:=by
 obtain⟨a,b,c⟩:=h;exact⟨(zp1 (.inr ho) (by omega) hp (by omega) _ (.inl rfl)).1,(zp1 (.inr ho) (by omega) hp (by omega) _ (.inr rfl)).1⟩
def nusL (a:Nat):Nat→List Nat
 | 0=>[]
 | s+1=>nusL a s ++ [if s=0 then a else mkC (nusL a s) (nusL a s)]
def nusS (a s:Nat):Nat:=if s=0 then a else mkC (nusL a s) (nusL a s)
def nusU (a:Nat):Nat→Nat→Nat
 | 0,s=>nusS a s
 | n+1,s=>if n=0/\s=1 then mkC [a,nusS a 1] [a]else mkC [a] [nusU a n (s ^^^ 1)]
def nusD (a:Nat):Nat→Nat→Nat
 | 0,s=>nusS a s
 | n+1,s=>if n=0/\s=1 then mkC [a] [a,nusS a 1]else mkC [nusD a n (s ^^^ 1)] [a]
def nusC (a:Nat)(n:Int)(s:Nat):Nat:=if 0≤n then nusU a n.toNat s else nusD a (-n).toNat s
theorem zsv {a s x:Nat}:x∈nusL a s↔∃k,k<s/\nusS a k=x:=by
 induction s with
 | zero=>exact⟨fun h=>by simp[nusL]at h,fun⟨k,hk,_⟩=>by omega⟩
 | succ s ih =>
  rw[nusL,List.mem_append,ih,List.mem_singleton];constructor
  ·rintro(⟨k,hk,e⟩|e)
   ·exact⟨k,by omega,e⟩
   ·exact⟨s,by omega,e.symm⟩
  ·rintro⟨k,hk,e⟩
   by_cases h:k=s
   ·exact .inr (by rw[←e,h];rfl)
   ·exact .inl ⟨k,by omega,e⟩
theorem zx5 (a s:Nat):nusC a 0 s=nusS a s:=rfl
theorem zf5 (a:Nat):nusC a 0 0=a:=rfl
theorem zce {a s:Nat}(h:0<s):(∀x,hasL (nusC a 0 s) x↔∃k,k<s/\nusC a 0 k=x)/\∀x,hasR (nusC a 0 s) x↔∃k,k<s/\nusC a 0 k=x:=by
 have e:nusC a 0 s=mkC (nusL a s) (nusL a s):=by rw[zx5,nusS,if_neg (by omega)]
 rw[e];exact⟨fun x=>(zac _ _ _).trans zsv,fun x=>(zaf _ _ _).trans zsv⟩
theorem znf {a x:Nat}{R:List Nat}:hasL (mkC [a] R) x↔x=a:=(zac _ _ _).trans List.mem_singleton
theorem zku {a x:Nat}{L:List Nat}:hasR (mkC L [a]) x↔x=a:=(zaf _ _ _).trans List.mem_singleton
theorem zgr {a b x:Nat}:x∈[a,b]↔x=a∨x=b:=by simp
theorem zf0 {a s:Nat}{n:Int}(h:0<n)(h1:¬(n=1/\s=1)):(∀x,hasL (nusC a n s) x↔x=a)/\∀x,hasR (nusC a n s) x↔x=nusC a (n-1) (s ^^^ 1):=by
 obtain⟨m,rfl⟩:∃m:Nat,n=(m:Int)+1:=⟨(n-1).toNat,by omega⟩;have e:nusC a ((m:Int)+1) s=mkC [a] [nusC a (m:Int) (s ^^^ 1)]:=by
  rw[nusC,if_pos (by omega),show((m:Int)+1).toNat=m+1 from by omega,nusU,if_neg (by omega),nusC,if_pos (by omega),Int.toNat_natCast]
 rw[e,show(m:Int)+1-1=m from by omega];exact⟨fun x=>znf,fun x=>zku⟩
theorem zd4 {a s:Nat}{n:Int}(h:n<0)(h1:¬(n=-1/\s=1)):(∀x,hasL (nusC a n s) x↔x=nusC a (n+1) (s ^^^ 1))/\∀x,hasR (nusC a n s) x↔x=a:=by
 obtain⟨m,rfl⟩:∃m:Nat,n=-((m:Int)+1):=⟨(-n-1).toNat,by omega⟩;have e1:nusC a (-((m:Int)+1)+1) (s ^^^ 1)=nusD a m (s ^^^ 1):=by
  by_cases hm:m=0
  ·subst hm;rfl
  ·rw[nusC,if_neg (by omega),show(-(-((m:Int)+1)+1)).toNat=m from by omega]
 have e:nusC a (-((m:Int)+1)) s=mkC [nusD a m (s ^^^ 1)] [a]:=by
  rw[nusC,if_neg (by omega),show(-(-((m:Int)+1))).toNat=m+1 from by omega,nusD,if_neg (by omega)]
 rw[e,e1];exact⟨fun x=>znf,fun x=>zku⟩
theorem zbr (a:Nat):(∀x,hasL (nusC a 1 1) x↔x=a∨x=nusC a 0 1)/\∀x,hasR (nusC a 1 1) x↔x=a:=by
 have e:nusC a 1 1=mkC [a,nusC a 0 1] [a]:=rfl;rw[e];exact⟨fun x=>(zac _ _ _).trans zgr,fun x=>zku⟩
theorem zbb (a:Nat):(∀x,hasL (nusC a (-1) 1) x↔x=a)/\∀x,hasR (nusC a (-1) 1) x↔x=a∨x=nusC a 0 1:=by
 have e:nusC a (-1) 1=mkC [a] [a,nusC a 0 1]:=rfl;rw[e];exact⟨fun x=>znf,fun x=>(zaf _ _ _).trans zgr⟩
theorem zkx {c x:Nat}(hl:hasL c x)(hr:hasR c x):isNB c=false:=by
 cases h:isNB c with
 | false=>rfl
 | true=>have:=zoq h hl hr;rw[zc9]at this;cases this
theorem xor1 (s:Nat):(s ^^^ 1) ^^^ 1=s:=by rw[Nat.xor_assoc,Nat.xor_self,Nat.xor_zero]
theorem zen {s:Nat}(h:s ^^^ 1=0):s=1:=by rw[←xor1 s,h];rfl
theorem zrv {s t:Nat}(h:s ^^^ 1=t ^^^ 1):s=t:=by rw[←xor1 s,h,xor1]
theorem yd1 {a s:Nat}:∀m:Nat,isNB (nusC a ((m:Int)+1) s)=false:=by
 intro m;induction m generalizing s with
 | zero =>
  by_cases h1:s=1
  ·subst h1
   exact zkx (((zbr a).1 a).2 (.inl rfl)) (((zbr a).2 a).2 rfl)
  ·have h:=zf0 (a:=a) (s:=s) (n:=1) (by decide) (by omega)
   have e:((0:Nat):Int)+1=1:=rfl;rw[e];cases hc:isNB (nusC a 1 s)with
   | false=>rfl
   | true =>
    have h2:=znm hc ((h.2 _).2 rfl);have h3:0<s ^^^ 1:=Nat.pos_of_ne_zero fun q=>h1 (zen q)
    have h4:=zce (a:=a) h3;rw[show(1:Int)-1=0 from rfl,zkx ((h4.1 a).2 ⟨0,h3,rfl⟩) ((h4.2 a).2 ⟨0,h3,rfl⟩)]at h2;cases h2
 | succ m ih =>
  have h:=zf0 (a:=a) (s:=s) (n:=((m+1:Nat):Int)+1) (by omega) (by omega);cases hc:isNB (nusC a (((m+1:Nat):Int)+1) s)with
  | false=>rfl
  | true =>
   have h2:=znm hc ((h.2 _).2 rfl);rw[show((m+1:Nat):Int)+1-1=(m:Int)+1 from by omega,ih]at h2;cases h2
theorem yad {a s:Nat}:∀m:Nat,isNB (nusC a (-((m:Int)+1)) s)=false:=by
 intro m;induction m generalizing s with
 | zero =>
  by_cases h1:s=1
  ·subst h1
   exact zkx (((zbb a).1 a).2 rfl) (((zbb a).2 a).2 (.inl rfl))
  ·have h:=zd4 (a:=a) (s:=s) (n:=-1) (by decide) (by omega)
   have e:-(((0:Nat):Int)+1)=-1:=rfl;rw[e];cases hc:isNB (nusC a (-1) s)with
   | false=>rfl
   | true =>
    have h2:=znn hc ((h.1 _).2 rfl);have h3:0<s ^^^ 1:=Nat.pos_of_ne_zero fun q=>h1 (zen q)
    have h4:=zce (a:=a) h3;rw[show(-1:Int)+1=0 from rfl,zkx ((h4.1 a).2 ⟨0,h3,rfl⟩) ((h4.2 a).2 ⟨0,h3,rfl⟩)]at h2;cases h2
 | succ m ih =>
  have h:=zd4 (a:=a) (s:=s) (n:=-(((m+1:Nat):Int)+1)) (by omega) (by omega);cases hc:isNB (nusC a (-(((m+1:Nat):Int)+1)) s)with
  | false=>rfl
  | true =>
   have h2:=znn hc ((h.1 _).2 rfl);rw[show -(((m+1:Nat):Int)+1)+1=-((m:Int)+1)from by omega,ih]at h2;cases h2
theorem zfq {a s:Nat}{n:Int}(h:¬(n=0/\s=0)):isNB (nusC a n s)=false:=by
 by_cases h0:n=0
 ·subst h0
  have hs:0<s:=by omega
  have h4:=zce (a:=a) hs;exact zkx ((h4.1 a).2 ⟨0,hs,rfl⟩) ((h4.2 a).2 ⟨0,hs,rfl⟩)
 ·by_cases hp:0<n
  ·obtain⟨m,rfl⟩:∃m:Nat,n=(m:Int)+1:=⟨(n-1).toNat,by omega⟩
   exact yd1 m
  ·obtain⟨m,rfl⟩:∃m:Nat,n=-((m:Int)+1):=⟨(-n-1).toNat,by omega⟩
   exact yad m
def KL (c:Nat)(b:Bool):Prop:=∃x,hasL c x/\isNB x=b
def KR (c:Nat)(b:Bool):Prop:=∃x,hasR c x/\isNB x=b
open Classical in
noncomputable def zzy (c:Nat):Nat:=if isNB c=true then 16 else (if KL c true then 8 else 0)+(if KL c false then 4 else 0)+(if KR c true then 2 else 0)+(if KR c false then 1 else 0)
def znv (n:Int)(s:Nat):Nat:=if n=0 then (if s=0 then 16 else if s=1 then 10 else 15)else if 0<n then (if n=1/\s=1 then 14 else 9)else if n=-1/\s=1 then 11 else 6
theorem zi5 {c:Nat}{p q r t:Bool}(h:isNB c=false)(h1:KL c true↔p=true)(h2:KL c false↔q=true)(h3:KR c true↔r=true)(h4:KR c false↔t=true) :
  zzy c=(if p=true then 8 else 0)+(if q=true then 4 else 0)+(if r=true then 2 else 0)+(if t=true then 1 else 0):=by
 unfold zzy;rw[if_neg (by rw[h];decide)];simp only[h1,h2,h3,h4]
theorem zt3 {a s:Nat}{n:Int}(ha:isNB a=true):zzy (nusC a n s)=znv n s:=by
 by_cases h:n=0/\s=0
 ·obtain⟨rfl,rfl⟩:=h
  unfold zzy;rw[zf5,if_pos ha];rfl
 ·have hn:=zfq (a:=a) h
  by_cases h0:n=0
  ·subst h0
   have hs:0<s:=by omega
   obtain⟨hl,hr⟩:=zce (a:=a) hs;by_cases h1:s=1
   ·subst h1
    have one:∀x,(∃k,k<1/\nusC a 0 k=x)→isNB x=true:=fun x ⟨k,hk,e⟩=>by
     obtain rfl:k=0:=by omega
     rw[←e];exact ha
    exact zi5 (p:=true) (q:=false) (r:=true) (t:=false) hn ⟨fun _=>rfl,fun _=>⟨a,(hl a).2 ⟨0,by omega,rfl⟩,ha⟩⟩ ⟨fun⟨x,hx,e⟩=>by rw[one x ((hl x).1 hx)]at e;exact e.symm,fun e=>by cases e⟩
     ⟨fun _=>rfl,fun _=>⟨a,(hr a).2 ⟨0,by omega,rfl⟩,ha⟩⟩ ⟨fun⟨x,hx,e⟩=>by rw[one x ((hr x).1 hx)]at e;exact e.symm,fun e=>by cases e⟩
   ·have h2:isNB (nusC a 0 1)=false:=zfq (by omega)
    have e:=zi5 (p:=true) (q:=true) (r:=true) (t:=true) hn ⟨fun _=>rfl,fun _=>⟨a,(hl a).2 ⟨0,by omega,rfl⟩,ha⟩⟩ ⟨fun _=>rfl,fun _=>⟨_,(hl _).2 ⟨1,by omega,rfl⟩,h2⟩⟩
     ⟨fun _=>rfl,fun _=>⟨a,(hr a).2 ⟨0,by omega,rfl⟩,ha⟩⟩ ⟨fun _=>rfl,fun _=>⟨_,(hr _).2 ⟨1,by omega,rfl⟩,h2⟩⟩
    rw[e];unfold znv;rw[if_pos (show(0:Int)=0 from rfl),if_neg (show ¬s=0 by omega),if_neg h1];rfl
  ·by_cases hp:0<n
   ·by_cases h1:n=1/\s=1
    ·obtain⟨rfl,rfl⟩:=h1
     have hu:=zbr a;have h2:isNB (nusC a 0 1)=false:=zfq (by omega);exact zi5 (p:=true) (q:=true) (r:=true) (t:=false) hn ⟨fun _=>rfl,fun _=>⟨a,(hu.1 a).2 (.inl rfl),ha⟩⟩ ⟨fun _=>rfl,fun _=>⟨_,(hu.1 _).2 (.inr rfl),h2⟩⟩
      ⟨fun _=>rfl,fun _=>⟨a,(hu.2 a).2 rfl,ha⟩⟩ ⟨fun⟨x,hx,e⟩=>by rw[(hu.2 x).1 hx,ha]at e;exact e.symm,fun e=>by cases e⟩
    ·have hu:=zf0 (a:=a) hp h1
     have h2:isNB (nusC a (n-1) (s ^^^ 1))=false:=zfq (fun q=>h1 ⟨by omega,zen q.2⟩);have e:=zi5 (p:=true) (q:=false) (r:=false) (t:=true) hn ⟨fun _=>rfl,fun _=>⟨a,(hu.1 a).2 rfl,ha⟩⟩ ⟨fun⟨x,hx,e⟩=>by rw[(hu.1 x).1 hx,ha]at e;exact e.symm,fun e=>by cases e⟩
      ⟨fun⟨x,hx,e⟩=>by rw[(hu.2 x).1 hx,h2]at e;exact e,fun e=>by cases e⟩ ⟨fun _=>rfl,fun _=>⟨_,(hu.2 _).2 rfl,h2⟩⟩
     rw[e,znv,if_neg h0,if_pos hp,if_neg h1];rfl
   ·by_cases h1:n=-1/\s=1
    ·obtain⟨rfl,rfl⟩:=h1
     have hu:=zbb a;have h2:isNB (nusC a 0 1)=false:=zfq (by omega);exact zi5 (p:=true) (q:=false) (r:=true) (t:=true) hn ⟨fun _=>rfl,fun _=>⟨a,(hu.1 a).2 rfl,ha⟩⟩ ⟨fun⟨x,hx,e⟩=>by rw[(hu.1 x).1 hx,ha]at e;exact e.symm,fun e=>by cases e⟩
      ⟨fun _=>rfl,fun _=>⟨a,(hu.2 a).2 (.inl rfl),ha⟩⟩ ⟨fun _=>rfl,fun _=>⟨_,(hu.2 _).2 (.inr rfl),h2⟩⟩
    ·have hu:=zd4 (a:=a) (show n<0 by omega) h1
     have h2:isNB (nusC a (n+1) (s ^^^ 1))=false:=zfq (fun q=>h1 ⟨by omega,zen q.2⟩);have e:=zi5 (p:=false) (q:=true) (r:=true) (t:=false) hn ⟨fun⟨x,hx,e⟩=>by rw[(hu.1 x).1 hx,h2]at e;exact e,fun e=>by cases e⟩ ⟨fun _=>rfl,fun _=>⟨_,(hu.1 _).2 rfl,h2⟩⟩
      ⟨fun _=>rfl,fun _=>⟨a,(hu.2 a).2 rfl,ha⟩⟩ ⟨fun⟨x,hx,e⟩=>by rw[(hu.2 x).1 hx,ha]at e;exact e.symm,fun e=>by cases e⟩
     rw[e,znv,if_neg h0,if_neg hp,if_neg h1];rfl
theorem yca {n m:Int}{s t:Nat}(h:znv n s=znv m t):(n=0/\s=0/\m=0/\t=0)∨(n=0/\0<s/\m=0/\0<t)∨(0<n/\¬(n=1/\s=1)/\0<m/\¬(m=1/\t=1))∨(n=1/\s=1/\m=1/\t=1) ∨
  (n<0/\¬(n=-1/\s=1)/\m<0/\¬(m=-1/\t=1))∨(n=-1/\s=1/\m=-1/\t=1):=by
 unfold znv at h;split at h <;> split at h <;> (try split at h) <;> (try split at h) <;> (try split at h) <;> (try split at h) <;> omega
theorem znh:∀(c a b:Nat) (n m:Int) (s t:Nat),isNB a=true→isNB b=true→c=nusC a n s→c=nusC b m t→a=b/\n=m/\s=t:=by
 intro c;induction c using Nat.strongRecOn with
 | _ c ih =>
  intro a b n m s t ha hb e1 e2;have hk:znv n s=znv m t:=by rw[←zt3 ha,←zt3 hb,←e1,←e2]
  rcases yca hk with ⟨rfl,rfl,rfl,rfl⟩|⟨rfl,hs,rfl,ht⟩|⟨hn,hns,hm,hmt⟩|⟨rfl,rfl,rfl,rfl⟩|⟨hn,hns,hm,hmt⟩|⟨rfl,rfl,rfl,rfl⟩
  ·exact⟨(e1.symm.trans e2:nusC a 0 0=nusC b 0 0),rfl,rfl⟩
  ·have h1:=(zce (a:=a) hs).1
   have h2:=(zce (a:=b) ht).1;rw[←e1]at h1;rw[←e2]at h2;have hab:a=b:=by
    obtain⟨k,hk,e⟩:=(h2 a).1 ((h1 a).2 ⟨0,hs,rfl⟩);by_cases hk0:k=0
    ·rw[hk0]at e;exact e.symm
    ·have:=zfq (a:=b) (n:=0) (s:=k) (by omega)
     rw[e,ha]at this;cases this
   subst hab;have lt:∀ {k s:Nat},hasL c (nusC a 0 k)→(∃j,j<s/\nusC a 0 j=nusC a 0 k)→k<s:=fun {k s} hl ⟨j,hj,e⟩=>by
    have:=(ih _ (zad (.inl hl)) a a 0 0 k j ha ha rfl e.symm).2.2;omega
   refine⟨rfl,rfl,?_⟩;by_cases h:s<t
   ·have hl:=(h2 (nusC a 0 s)).2 ⟨s,h,rfl⟩
    have:=lt hl ((h1 _).1 hl);omega
   ·by_cases h':t<s
    ·have hl:=(h1 (nusC a 0 t)).2 ⟨t,h',rfl⟩
     have:=lt hl ((h2 _).1 hl);omega
    ·omega
  ·have h1:=zf0 (a:=a) hn hns
   have h2:=zf0 (a:=b) hm hmt;rw[←e1]at h1;rw[←e2]at h2;have hab:=(h2.1 a).1 ((h1.1 a).2 rfl);have hr:=(h1.2 _).2 rfl;obtain⟨_,q1,q2⟩:=ih _ (zad (.inr hr)) a b (n-1) (m-1) (s ^^^ 1) (t ^^^ 1) ha hb rfl ((h2.2 _).1 hr);exact⟨hab,by omega,zrv q2⟩
  ·have h1:=zbr a
   have h2:=zbr b;rw[←e1]at h1;rw[←e2]at h2;exact⟨(h2.2 a).1 ((h1.2 a).2 rfl),rfl,rfl⟩
  ·have h1:=zd4 (a:=a) hn hns
   have h2:=zd4 (a:=b) hm hmt;rw[←e1]at h1;rw[←e2]at h2;have hab:=(h2.2 a).1 ((h1.2 a).2 rfl);have hl:=(h1.1 _).2 rfl;obtain⟨_,q1,q2⟩:=ih _ (zad (.inl hl)) a b (n+1) (m+1) (s ^^^ 1) (t ^^^ 1) ha hb rfl ((h2.1 _).1 hl);exact⟨hab,by omega,zrv q2⟩
  ·have h1:=zbb a
   have h2:=zbb b;rw[←e1]at h1;rw[←e2]at h2;exact⟨(h2.1 a).1 ((h1.1 a).2 rfl),rfl,rfl⟩
theorem zyq {c x:Nat}(h:SubC c x):x=c∨∃y,optC c y/\SubC y x:=by
 induction h with
 | root=>exact .inl rfl
 | step _ ho ih =>
  rcases ih with rfl|⟨y,hy,hs⟩
  ·exact .inr ⟨_,ho,.root⟩
  ·exact .inr ⟨y,hy,hs.step ho⟩
end Go.Proofs.YtlapkmhemepcaaaGreatDoor
