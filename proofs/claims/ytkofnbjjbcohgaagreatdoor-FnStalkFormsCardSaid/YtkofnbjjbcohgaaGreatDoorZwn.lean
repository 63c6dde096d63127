import Derived.Test.YtkofnbjjbcohgaaGreatDoorZwb
/- Lemmas. -/
namespace Go.Proofs.YtkofnbjjbcohgaaGreatDoor
set_option linter.unusedVariables false
set_option linter.unusedSimpArgs false
open Go.RowKit
theorem zm4 (s:Int)(P:Nat):nr (2*s) (P+1)=nr s P:=by
 rw[zc2 (by omega),show 2*s/2=s from by omega]
theorem ze0 (s:Int)(P k:Nat):nr (s*2^k) (P+k)=nr s P:=by
 unfold nr;rw[zcn]
theorem ze2 {s:Int}{l:Nat}(h:hasL (intC s) l):0<s/\l=intC (s-1):=by
 by_cases h0:s=0
 ·subst h0;exact absurd h (zym l)
 ·by_cases hp:0<s
  ·rw[zh1 hp,zam]at h
   exact⟨hp,List.mem_singleton.1 h⟩
  ·rw[zh2 (by omega),zam]at h
   simp at h
theorem zcv {s:Int}{r:Nat}(h:hasR (intC s) r):s<0/\r=intC (s+1):=by
 by_cases h0:s=0
 ·subst h0;exact absurd h (zyk r)
 ·by_cases hp:0<s
  ·rw[zh1 hp,zak]at h
   simp at h
  ·rw[zh2 (by omega),zak]at h
   exact⟨by omega,List.mem_singleton.1 h⟩
theorem zp3 {s:Int}(h:0<s):hasL (intC s) (intC (s-1)):=by rw[zh1 h,zam];simp
theorem zp2 {s:Int}(h:s<0):hasR (intC s) (intC (s+1)):=by rw[zh2 h,zak];simp
theorem zeh:∀(P:Nat) (s:Int) (l:Nat),hasL (nr s P) l→∃v,v<s/\l=nr v P:=by
 intro P;induction P with
 | zero =>
  intro s l h;rw[zei]at h;obtain⟨_,e⟩:=ze2 h;exact⟨s-1,by omega,by rw[zei];exact e⟩
 | succ P ih =>
  intro s l h;by_cases he:s%2=0
  ·rw[zc2 he]at h
   obtain⟨v,hv,e⟩:=ih _ _ h;exact⟨2*v,by omega,by rw[zm4];exact e⟩
  ·rw[zgm he,zam]at h
   exact⟨s-1,by omega,by rw[zc2 (by omega)];exact List.mem_singleton.1 h⟩
theorem zd8:∀(P:Nat) (s:Int) (r:Nat),hasR (nr s P) r→∃v,s<v/\r=nr v P:=by
 intro P;induction P with
 | zero =>
  intro s l h;rw[zei]at h;obtain⟨_,e⟩:=zcv h;exact⟨s+1,by omega,by rw[zei];exact e⟩
 | succ P ih =>
  intro s l h;by_cases he:s%2=0
  ·rw[zc2 he]at h
   obtain⟨v,hv,e⟩:=ih _ _ h;exact⟨2*v,by omega,by rw[zm4];exact e⟩
  ·rw[zgm he,zak]at h
   exact⟨s+1,by omega,by rw[zc2 (by omega)];exact List.mem_singleton.1 h⟩
theorem zk6 {s:Int}{P:Nat}(h:s%2≠0):hasL (nr s (P+1)) (nr (s-1) (P+1)):=by
 rw[zgm h,zam,zc2 (by omega)];simp
theorem znm {s:Int}{P:Nat}(h:s%2≠0):hasR (nr s (P+1)) (nr (s+1) (P+1)):=by
 rw[zgm h,zak,zc2 (by omega)];simp
theorem zr4:∀(P:Nat) (s t:Int),s<t→(∃v,s≤v/\v<t/\hasL (nr t P) (nr v P))∨∃v,s<v/\v≤t/\hasR (nr s P) (nr v P):=by
 intro P;induction P with
 | zero =>
  intro s t h;by_cases ht:0<t
  ·exact .inl ⟨t-1,by omega,by omega,by rw[zei,zei];exact zp3 ht⟩
  ·exact .inr ⟨s+1,by omega,by omega,by rw[zei,zei];exact zp2 (by omega)⟩
 | succ P ih =>
  intro s t h;by_cases ht:t%2=0
  ·by_cases hs:s%2=0
   ·rw[zc2 ht,zc2 hs]
    rcases ih (s/2) (t/2) (by omega)with ⟨v,h1,h2,h3⟩|⟨v,h1,h2,h3⟩
    ·exact .inl ⟨2*v,by omega,by omega,by rw[zm4];exact h3⟩
    ·exact .inr ⟨2*v,by omega,by omega,by rw[zm4];exact h3⟩
   ·exact .inr ⟨s+1,by omega,by omega,znm hs⟩
  ·exact .inl ⟨t-1,by omega,by omega,zk6 ht⟩
theorem nr_ge' (P n:Nat):∀s t:Int,nr s P+nr t P<n→(t≤s→geC (nr s P) (nr t P)=true)/\(s<t→geC (nr s P) (nr t P)=false):=by
 induction n with
 | zero=>intro s t h;omega
 | succ n ih =>
  intro s t hn;refine⟨fun h=>ze5 (fun r hr=>?_) fun l hl=>?_,fun h=>?_⟩
  ·have hlt:=zai (.inr hr)
   obtain⟨v,hv,rfl⟩:=zd8 _ _ _ hr;exact(ih t v (by omega)).2 (by omega)
  ·have hlt:=zai (.inl hl)
   obtain⟨v,hv,rfl⟩:=zeh _ _ _ hl;exact(ih v s (by omega)).2 (by omega)
  ·cases e:geC (nr s P) (nr t P)with
   | false=>rfl
   | true =>
    rcases zr4 P s t h with ⟨v,h1,h2,h3⟩|⟨v,h1,h2,h3⟩
    ·have hlt:=zai (.inl h3)
     have:=(ih v s (by omega)).1 h1;rw[zga e h3]at this;cases this
    ·have hlt:=zai (.inr h3)
     have:=(ih t v (by omega)).1 h2;rw[zf2 e h3]at this;cases this
theorem zk7 {s t:Int}{P:Nat}(h:t≤s):geC (nr s P) (nr t P)=true:=(nr_ge' P _ s t (Nat.lt_succ_self _)).1 h
theorem zm5 {s t:Int}{P:Nat}(h:s<t):geC (nr s P) (nr t P)=false:=(nr_ge' P _ s t (Nat.lt_succ_self _)).2 h
theorem zot {s t:Int}{P:Nat}(h:geC (nr s P) (nr t P)=true):t≤s:=by
 refine Int.not_lt.1 fun q=>?_
 rw[zm5 q]at h;cases h
def EqC (a b:Nat):Prop:=geC a b=true/\geC b a=true
theorem EqC.can {a b:Nat}(h:EqC a b):canC a=canC b:=zvz.2 h
theorem ztp (s:Int)(P:Nat):CanC1 (nr s P):=by
 have uniq:∀(P:Nat) (s:Int),(∀l l',hasL (nr s P) l→hasL (nr s P) l'→l=l')/\∀l l',hasR (nr s P) l→hasR (nr s P) l'→l=l':=by
  intro P;induction P with
  | zero =>
   intro s;rw[zei];exact⟨fun l l' h h'=>by rw[(ze2 h).2,(ze2 h').2],fun l l' h h'=>by rw[(zcv h).2,(zcv h').2]⟩
  | succ P ih =>
   intro s;by_cases he:s%2=0
   ·rw[zc2 he];exact ih _
   ·rw[zgm he]
    refine⟨fun l l' h h'=>?_,fun l l' h h'=>?_⟩
    ·rw[zam]at h h'
     rw[List.mem_singleton.1 h,List.mem_singleton.1 h']
    ·rw[zak]at h h'
     rw[List.mem_singleton.1 h,List.mem_singleton.1 h']
 have rev:∀(P:Nat) (s:Int),(∀l r,hasL (nr s P) l→hasR l r→geC (nr s P) r=false)/\∀r l,hasR (nr s P) r→hasL r l→geC l (nr s P)=false:=by
  intro P;induction P with
  | zero =>
   intro s;rw[zei];refine⟨fun l r h h'=>?_,fun l r h h'=>?_⟩
   ·obtain⟨h1,rfl⟩:=ze2 h
    have:=(zcv h').1;omega
   ·obtain⟨h1,rfl⟩:=zcv h
    have:=(ze2 h').1;omega
  | succ P ih =>
   intro s;by_cases he:s%2=0
   ·rw[zc2 he];exact ih _
   ·refine⟨fun l r h h'=>?_,fun l r h h'=>?_⟩
    ·rw[zgm he,zam]at h
     rw[List.mem_singleton.1 h]at h';obtain⟨v,hv,rfl⟩:=zd8 _ _ _ h';rw[←zm4 v P];exact zm5 (by omega)
    ·rw[zgm he,zak]at h
     rw[List.mem_singleton.1 h]at h';obtain⟨v,hv,rfl⟩:=zeh _ _ _ h';rw[←zm4 v P];exact zm5 (by omega)
 exact⟨fun l l' h h' _=>(uniq P s).1 _ _ h' h,fun l l' h h' _=>(uniq P s).2 _ _ h' h,(rev P s).1,(rev P s).2⟩
theorem zos (s:Int)(P:Nat):(∀l l',hasL (nr s P) l→hasL (nr s P) l'→l=l')/\∀l l',hasR (nr s P) l→hasR (nr s P) l'→l=l':=by
 have h:=ztp s P;refine⟨fun l l' a b=>?_,fun l l' a b=>?_⟩
 ·obtain⟨v,_,rfl⟩:=zeh _ _ _ a
  obtain⟨v',_,rfl⟩:=zeh _ _ _ b;by_cases e:v'≤v
  ·exact h.domL _ _ b a (zk7 e)
  ·exact(h.domL _ _ a b (zk7 (by omega))).symm
 ·obtain⟨v,_,rfl⟩:=zd8 _ _ _ a
  obtain⟨v',_,rfl⟩:=zd8 _ _ _ b;by_cases e:v≤v'
  ·exact h.domR _ _ b a (zk7 e)
  ·exact(h.domR _ _ a b (zk7 (by omega))).symm
theorem zyu {s:Int}{P x:Nat}(h:SubC (nr s P) x):∃v,x=nr v P:=by
 induction h with
 | root=>exact⟨s,rfl⟩
 | step _ ho ih =>
  obtain⟨v,rfl⟩:=ih;rcases ho with h|h
  ·obtain⟨u,_,e⟩:=zeh _ _ _ h;exact⟨u,e⟩
  ·obtain⟨u,_,e⟩:=zd8 _ _ _ h;exact⟨u,e⟩
theorem zxa (s:Int)(P:Nat):CanC (nr s P):=fun x hx=>by
 obtain⟨v,rfl⟩:=zyu hx;exact ztp v P
def IsNum (G:Nat):Prop:=∃(P:Nat) (s:Int),EqC G (nr s P)
theorem IsNum.can {c:Nat}(h:IsNum c)(hc:CanC c):∃(P:Nat) (s:Int),c=nr s P:=by
 obtain⟨P,s,k⟩:=h;exact⟨P,s,ztn hc (zxa s P) k.1 k.2⟩
theorem zxr (P:Nat){G:Nat}:∀(n:Nat) (s:Int),nr s P<n→(∀l,hasL G l→geC l (nr s P)=false)→(∀r,hasR G r→geC (nr s P) r=false)→IsNum G:=by
 intro n;induction n with
 | zero=>intro s h;omega
 | succ n ih =>
  intro s hn hl hr;cases h1:geC (nr s P) G with
  | false =>
   rcases zis h1 with ⟨r,h,e⟩|⟨l,h,e⟩
   ·have hlt:=zai (.inr h)
    obtain⟨v,hv,rfl⟩:=zd8 _ _ _ h;refine ih v (by omega) (fun l h'=>?_) fun r h'=>?_
    ·cases q:geC l (nr v P)with
     | false=>rfl
     | true =>
      have:=zan q (zk7 (s:=v) (t:=s) (P:=P) (by omega));rw[hl l h']at this;cases this
    ·cases q:geC (nr v P) r with
     | false=>rfl
     | true =>
      have:=zan e q;rw[zcs h']at this;cases this
   ·rw[hl l h]at e;cases e
  | true =>
   cases h2:geC G (nr s P)with
   | true=>exact⟨P,s,h2,h1⟩
   | false =>
    rcases zis h2 with ⟨r,h,e⟩|⟨l,h,e⟩
    ·rw[hr r h]at e;cases e
    ·have hlt:=zai (.inl h)
     obtain⟨v,hv,rfl⟩:=zeh _ _ _ h;refine ih v (by omega) (fun l h'=>?_) fun r h'=>?_
     ·cases q:geC l (nr v P)with
      | false=>rfl
      | true =>
       have:=zan q e;rw[zdz h']at this;cases this
     ·cases q:geC (nr v P) r with
      | false=>rfl
      | true =>
       have:=zan (zk7 (s:=s) (t:=v) (P:=P) (by omega)) q;rw[hr r h']at this;cases this
def IsVal (c:Nat)(t:Int)(p:Nat):Prop:=Red t p/\c=numC t p
theorem IsVal.toNr {c:Nat}{t:Int}{p:Nat}(h:IsVal c t p):c=nr t p:=by rw[zyv h.1];exact h.2
theorem zor (s:Int)(P:Nat):IsVal (nr s P) (redT s P).1 (redT s P).2:=⟨zch _ _,rfl⟩
theorem zyx {s t:Int}{P:Nat}(h:nr s P=nr t P):s=t:=by
 have h1:=zot (show geC (nr s P) (nr t P)=true by rw[h];exact zbu _);have h2:=zot (show geC (nr t P) (nr s P)=true by rw[h];exact zbu _);omega
theorem IsVal.one {c:Nat}{t s:Int}{p q:Nat}(h:IsVal c t p)(k:IsVal c s q):t=s/\p=q:=by
 have e1:nr (t*2^q) (p+q)=c:=by rw[ze0];exact h.toNr.symm
 have e2:nr (s*2^p) (p+q)=c:=by rw[Nat.add_comm,ze0];exact k.toNr.symm
 have e:=zyx (e1.trans e2.symm);have a:=zcn q p t;rw[e,Nat.add_comm,zcn,zef k.1,zef h.1]at a;have a1:=congrArg Prod.fst a;have a2:=congrArg Prod.snd a;exact⟨a1.symm,a2.symm⟩
open Classical in
noncomputable def isNB (c:Nat):Bool:=decide (∃t p,IsVal c t p)
open Classical in
noncomputable def valT (c:Nat):Int × Nat:=if h:∃d:Int × Nat,IsVal c d.1 d.2 then Classical.choose h else (0,0)
open Classical in
theorem zbs {c:Nat}:isNB c=true↔∃t p,IsVal c t p:=by unfold isNB;rw[decide_eq_true_iff]
theorem IsVal.is {c:Nat}{t:Int}{p:Nat}(h:IsVal c t p):isNB c=true:=zbs.2 ⟨t,p,h⟩
theorem IsVal.val {c:Nat}{t:Int}{p:Nat}(h:IsVal c t p):valT c=(t,p):=by
 have hx:∃d:Int × Nat,IsVal c d.1 d.2:=⟨(t,p),h⟩;unfold valT;rw[dif_pos hx];obtain⟨a,b⟩:=(Classical.choose_spec hx).one h;exact Prod.ext a b
theorem zt1 {c:Nat}(h:isNB c=true):IsVal c (valT c).1 (valT c).2:=by
 obtain⟨t,p,k⟩:=zbs.1 h;rw[k.val];exact k
theorem zt2 (s:Int)(P:Nat):isNB (nr s P)=true:=(zor s P).is
open Classical in
noncomputable def valB (c:Nat):Bool:=isNB c && decide (GoodD (valT c).1 (valT c).2)
noncomputable def valD (c:Nat):Int × Nat:=if valB c=true then valT c else (0,0)
open Classical in
theorem IsVal.good {c:Nat}{t:Int}{p:Nat}(h:IsVal c t p):valB c=true↔GoodD t p:=by
 unfold valB;rw[h.is,h.val,Bool.true_and,decide_eq_true_iff]
theorem zua {c:Nat}(h:valB c=true):isNB c=true:=by
 unfold valB at h;exact(Bool.and_eq_true_iff.1 h).1
theorem zgu {c:Nat}(h:valB c=true):IsVal c (valD c).1 (valD c).2/\GoodD (valD c).1 (valD c).2:=by
 have h1:=zt1 (zua h);unfold valD;rw[if_pos h];exact⟨h1,h1.good.1 h⟩
theorem IsVal.goodD {c:Nat}{t:Int}{p:Nat}(h:IsVal c t p)(hg:GoodD t p):valB c=true/\valD c=(t,p):=by
 have h1:=h.good.2 hg;refine⟨h1,?_⟩;unfold valD;rw[if_pos h1,h.val]
theorem zhb {c:Nat}(h:valB c=false):valD c=(0,0):=by unfold valD;rw[h];rfl
theorem zv3 {c l l':Nat}(h:isNB c=true)(a:hasL c l)(b:hasL c l'):l=l':=by
 obtain⟨t,p,k⟩:=zbs.1 h;rw[k.toNr]at a b;exact(zos _ _).1 _ _ a b
theorem zv2 {c l l':Nat}(h:isNB c=true)(a:hasR c l)(b:hasR c l'):l=l':=by
 obtain⟨t,p,k⟩:=zbs.1 h;rw[k.toNr]at a b;exact(zos _ _).2 _ _ a b
theorem zv1 {c l:Nat}(h:isNB c=true)(a:hasL c l):isNB l=true:=by
 obtain⟨t,p,k⟩:=zbs.1 h;rw[k.toNr]at a;obtain⟨v,_,rfl⟩:=zeh _ _ _ a;exact zt2 _ _
theorem zv0 {c l:Nat}(h:isNB c=true)(a:hasR c l):isNB l=true:=by
 obtain⟨t,p,k⟩:=zbs.1 h;rw[k.toNr]at a;obtain⟨v,_,rfl⟩:=zd8 _ _ _ a;exact zt2 _ _
theorem zsq {c l r:Nat}(h:isNB c=true)(a:hasL c l)(b:hasR c r):geC l r=false:=by
 obtain⟨t,p,k⟩:=zbs.1 h;rw[k.toNr]at a b;obtain⟨v,hv,rfl⟩:=zeh _ _ _ a;obtain⟨u,hu,rfl⟩:=zd8 _ _ _ b;exact zm5 (by omega)
theorem zv4 {c:Nat}(hc:CanC c)(h1:∀l l',hasL c l→hasL c l'→l=l')(h2:∀r r',hasR c r→hasR c r'→r=r')(hL:∀l,hasL c l→isNB l=true)(hR:∀r,hasR c r→isNB r=true)
  (ha:∀l r,hasL c l→hasR c r→geC l r=false):isNB c=true:=by
 have fin:∀(s:Int) (P:Nat),(∀l,hasL c l→geC l (nr s P)=false)→(∀r,hasR c r→geC (nr s P) r=false)→isNB c=true:=fun s P a b=>by
  obtain⟨Q,u,e⟩:=(zxr P _ s (Nat.lt_succ_self _) a b).can hc;rw[e];exact zt2 _ _
 by_cases eL:∃l,hasL c l
 ·obtain⟨l,hl⟩:=eL
  obtain⟨s,P,kl⟩:=zbs.1 (hL l hl);by_cases eR:∃r,hasR c r
  ·obtain⟨r,hr⟩:=eR
   obtain⟨t,Q,kr⟩:=zbs.1 (hR r hr);have e1:l=nr (2*(s*2^Q)) (P+Q+1):=by rw[zm4,ze0];exact kl.toNr
   have e2:r=nr (2*(t*2^P)) (P+Q+1):=by rw[zm4,Nat.add_comm,ze0];exact kr.toNr
   have hlt:s*2^Q<t*2^P:=by
    have h:=ha l r hl hr;rw[e1,e2]at h;refine Int.not_le.1 fun q=>?_
    rw[zk7 (show 2*(t*2^P)≤2*(s*2^Q)by omega)]at h;cases h
   refine fin (2*(s*2^Q)+1) (P+Q+1) (fun l' hl'=>?_) (fun r' hr'=>?_)
   ·rw[h1 _ _ hl' hl,e1];exact zm5 (by omega)
   ·rw[h2 _ _ hr' hr,e2];exact zm5 (by omega)
  ·refine fin (s+1) P (fun l' hl'=>?_) (fun r' hr'=>absurd ⟨r',hr'⟩ eR)
   rw[h1 _ _ hl' hl,kl.toNr];exact zm5 (by omega)
 ·by_cases eR:∃r,hasR c r
  ·obtain⟨r,hr⟩:=eR
   obtain⟨t,Q,kr⟩:=zbs.1 (hR r hr);refine fin (t-1) Q (fun l' hl'=>absurd ⟨l',hl'⟩ eL) (fun r' hr'=>?_);rw[h2 _ _ hr' hr,kr.toNr];exact zm5 (by omega)
  ·exact fin 0 0 (fun l' hl'=>absurd ⟨l',hl'⟩ eL) (fun r' hr'=>absurd ⟨r',hr'⟩ eR)
theorem zu6 {c:Nat}(h:isNB c=true)(hL:∀l,¬hasL c l)(hR:∀r,¬hasR c r):IsVal c 0 0:=by
 obtain⟨t,p,k⟩:=zbs.1 h;have hk:=k;obtain⟨hr,e⟩:=hk;cases p with
 | zero =>
  rw[zgy]at e;by_cases h0:t=0
  ·subst h0;exact k
  ·by_cases hp:0<t
   ·exact absurd (by rw[e];exact zp3 hp) (hL _)
   ·exact absurd (by rw[e];exact zp2 (by omega)) (hR _)
 | succ p =>
  have ho:t%2≠0:=hr.resolve_left (by omega);exact absurd (by rw[k.toNr];exact zk6 ho) (hL _)
theorem zu8 {c l:Nat}(h:isNB c=true)(hl:hasL c l)(hR:∀r,¬hasR c r):∃k:Int,0<k/\IsVal c k 0/\IsVal l (k-1) 0:=by
 obtain⟨t,p,k⟩:=zbs.1 h;have hk:=k;obtain⟨hr,e⟩:=hk;cases p with
 | zero =>
  rw[zgy]at e;rw[e]at hl;obtain⟨h1,h2⟩:=ze2 hl;exact⟨t,h1,k,.inl rfl,h2⟩
 | succ p =>
  have ho:t%2≠0:=hr.resolve_left (by omega);exact absurd (by rw[k.toNr];exact znm ho) (hR _)
theorem zrq {c r:Nat}(h:isNB c=true)(hr:hasR c r)(hL:∀l,¬hasL c l):∃k:Int,k<0/\IsVal c k 0/\IsVal r (k+1) 0:=by
 obtain⟨t,p,k⟩:=zbs.1 h;have hk:=k;obtain⟨hd,e⟩:=hk;cases p with
 | zero =>
  rw[zgy]at e;rw[e]at hr;obtain⟨h1,h2⟩:=zcv hr;exact⟨t,h1,k,.inl rfl,h2⟩
 | succ p =>
  have ho:t%2≠0:=hd.resolve_left (by omega);exact absurd (by rw[k.toNr];exact zk6 ho) (hL _)
theorem zu9 {c l r:Nat}(h:isNB c=true)(hl:hasL c l)(hr:hasR c r):∃(t:Int) (p:Nat),IsVal c t p/\0<p/\t%2≠0/\IsVal l (redT (t-1) p).1 (redT (t-1) p).2/\IsVal r (redT (t+1) p).1 (redT (t+1) p).2:=by
 obtain⟨t,p,k⟩:=zbs.1 h;have hk:=k;obtain⟨hd,e⟩:=hk;cases p with
 | zero =>
  rw[zgy]at e;rw[e]at hl hr;have a:=ze2 hl;have b:=zcv hr;omega
 | succ p =>
  have ho:t%2≠0:=hd.resolve_left (by omega);refine⟨t,p+1,k,by omega,ho,?_,?_⟩
  ·rw[k.toNr]at hl
   rw[(zos _ _).1 _ _ hl (zk6 ho)];exact zor _ _
  ·rw[k.toNr]at hr
   rw[(zos _ _).2 _ _ hr (znm ho)];exact zor _ _
theorem zkx {N:Nat}:∀(p:Nat) (x:Int),p≤N→(redT x p).1*2^(N-(redT x p).2)=x*2^(N-p):=by
 intro p;induction p with
 | zero=>intro x _;rfl
 | succ p ih =>
  intro x hp;by_cases hx:x%2=0
  ·rw[zcr hx,ih _ (by omega)]
   obtain⟨k,hk⟩:∃k,N-p=k+1:=⟨N-(p+1),by omega⟩;rw[hk,show N-(p+1)=k from by omega,Int.pow_succ,Int.mul_comm (2^k) 2,←Int.mul_assoc];congr 1
   omega
  ·rw[redT,if_neg hx]
theorem zuk {x:Int}{N p:Nat}(h:p≤N):redT (x*2^(N-p)) N=redT x p:=by
 have:=zcn (N-p) p x;rw[show p+(N-p)=N from by omega]at this
 exact this
theorem zxc {t:Int}{p:Nat}(hp:0<p)(ho:t%2≠0)(h1:GoodD (redT (t-1) p).1 (redT (t-1) p).2)(h2:GoodD (redT (t+1) p).1 (redT (t+1) p).2) :
  p≤17/\redT ((redT (t-1) p).1*2^(16-(redT (t-1) p).2)+(redT (t+1) p).1*2^(16-(redT (t+1) p).2)) 17=(t,p):=by
 obtain⟨q,rfl⟩:∃q,p=q+1:=⟨p-1,by omega⟩;rw[zcr (show(t-1)%2=0 by omega)]at h1 ⊢;rw[zcr (show(t+1)%2=0 by omega)]at h2 ⊢;by_cases hq:q≤16
 ·refine⟨by omega,?_⟩
  rw[zkx q _ hq,zkx q _ hq,←Int.add_mul,show(t-1)/2+(t+1)/2=t from by omega];have:=zuk (x:=t) (N:=17) (p:=q+1) (by omega);rw[show 17-(q+1)=16-q from by omega]at this
  rw[this,zef (.inr ho)]
 ·have h3:=h1.2.1
  have h4:=h2.2.1;exfalso
  by_cases he:(t-1)/2%2=0
  ·rw[zef (t:=(t+1)/2) (.inr (by omega))]at h4
   have:((q:Nat):Int)≤16:=h4.2;omega
  ·rw[zef (t:=(t-1)/2) (.inr he)]at h3
   have:((q:Nat):Int)≤16:=h3.2;omega
theorem zrp {t:Int}{p:Nat}(hp:0<p)(ho:t%2≠0)(h:GoodD t p):GoodD (redT (t-1) p).1 (redT (t-1) p).2/\GoodD (redT (t+1) p).1 (redT (t+1) p).2:=by
 obtain⟨a,b,c⟩:=h;exact⟨(zmh (.inr ho) (by omega) hp (by omega) _ (.inl rfl)).1,(zmh (.inr ho) (by omega) hp (by omega) _ (.inr rfl)).1⟩
theorem zpa {x y:Nat}(hL:∀l,hasL x l→∃l',hasL y l'∧geC l' l=true)(kL:∀l,hasL y l→∃l',hasL x l'∧geC l' l=true)
  (hR:∀r,hasR x r→∃r',hasR y r'∧geC r r'=true) (kR:∀r,hasR y r→∃r',hasR x r'∧geC r r'=true):EqC x y:=by
 have key:∀a b:Nat,(∀r,hasR a r→∃r',hasR b r'∧geC r r'=true)→(∀l,hasL b l→∃l',hasL a l'∧geC l' l=true)→geC a b=true:=fun a b h1 h2=>by
  refine(zcy a b).2 ⟨fun r hr=>?_,fun l hl=>?_⟩
  ·obtain⟨r',hr',hg⟩:=h1 r hr
   cases hc:geC b r with
   | false=>rfl
   | true =>
    have:=zf2 (zan hc hg) hr';rw[zbu]at this;cases this
  ·obtain⟨l',hl',hg⟩:=h2 l hl
   cases hc:geC l a with
   | false=>rfl
   | true =>
    have:=zga (zan hg hc) hl';rw[zbu]at this;cases this
 exact⟨key x y hR kL,key y x kR hL⟩
structure StC (s:List Bool) (m:Nat) (c:Nat→Nat):Prop where
 left:∀k,k<m→∀x,hasL (c k) x↔∃i,i<k/\s.getD i false=true/\c i=x
 right:∀k,k<m→∀x,hasR (c k) x↔∃i,i<k/\s.getD i false=false/\c i=x
def stS (s:List Bool):Nat→Int × Int × Bool
 | 0=>(0,65536,true)
 | k+1 =>
  let f:=(stS s k).2.2 && (s.getD k false == s.getD 0 false)
  let d:=if f=true then (stS s k).2.1 else (stS s k).2.1/2
  (if s.getD k false=true then (stS s k).1+d else (stS s k).1-d,d,f)
def stV (s:List Bool)(k:Nat):Int:=(stS s k).1
structure Mixed (s:List Bool) (k:Nat) (e:Nat) (x:Int):Prop where
 first:(stS s k).2.2=false
 step:(stS s k).2.1=2^e
 low:17≤e+k
 high:e≤15
 odd:x%2≠0
 val:stV s k=x*2^e
 lo:∃i,i<k/\s.getD i false=true/\stV s i=(x-1)*2^e
 hi:∃i,i<k/\s.getD i false=false/\stV s i=(x+1)*2^e
 los:∀i,i<k→s.getD i false=true→stV s i≤(x-1)*2^e
 his:∀i,i<k→s.getD i false=false→(x+1)*2^e≤stV s i
structure Alike (s:List Bool) (k:Nat) (b:Bool):Prop where
 first:(stS s k).2.2=true
 step:(stS s k).2.1=65536
 all:∀i,i<k→s.getD i false=b
 vals:∀i,i≤k→stV s i=(if b=true then (i:Int)else -(i:Int))*65536
theorem zo9 (s:List Bool)(b:Bool):stV s 0=(if b=true then ((0:Nat):Int)else -((0:Nat):Int))*65536:=by cases b <;> rfl
theorem zud (e:Nat)(h:1≤e):∃d:Int,(2:Int)^e=2*d/\d=2^(e-1)/\(2:Int)^e/2=d:=by
 obtain⟨f,rfl⟩:∃f,e=f+1:=⟨e-1,by omega⟩;refine⟨2^f,by rw[Int.pow_succ];omega,rfl,?_⟩;rw[Int.pow_succ];omega
theorem zrx (s:List Bool):∀k,k≤17→(∃b,Alike s k b/\(0<k→b=s.getD 0 false))∨∃e x,Mixed s k e x:=by
 intro k;induction k with
 | zero=>exact fun _=>.inl ⟨s.getD 0 false,⟨rfl,rfl,fun i h=>by omega,fun i h=>by
  have h0:i=0:=by omega
  subst h0;exact zo9 s _⟩,fun h=>by omega⟩
 | succ k ih =>
  intro hk;rcases ih (by omega)with ⟨b,A,hb⟩|⟨e,x,M⟩
  ·by_cases hs:s.getD k false=s.getD 0 false
   ·have hf:(stS s (k+1)).2.2=true:=by
     show((stS s k).2.2 && (s.getD k false == s.getD 0 false))=true
     rw[A.first,hs];simp
    have hd:(stS s (k+1)).2.1=65536:=by
     show(if (stS s (k+1)).2.2=true then (stS s k).2.1 else (stS s k).2.1/2)=65536
     rw[hf,if_pos rfl,A.step]
    refine .inl ⟨s.getD 0 false,⟨hf,hd,fun i hi=>?_,fun i hi=>?_⟩,fun _=>rfl⟩
    ·rcases Nat.lt_or_ge i k with h|h
     ·rw[A.all i h,hb (by omega)]
     ·obtain rfl:i=k:=by omega
      exact hs
    ·have hbk:b=s.getD 0 false∨k=0:=by
      rcases Nat.eq_zero_or_pos k with h|h
      ·exact .inr h
      ·exact .inl (hb h)
     have hall:∀j,j≤k→stV s j=(if s.getD 0 false=true then (j:Int)else -(j:Int))*65536:=fun j hj=>by
      rcases hbk with h|h
      ·rw[A.vals j hj,h]
      ·have h0:j=0:=by omega
       subst h0;exact zo9 s _
     rcases Nat.lt_or_ge i (k+1)with h|h
     ·exact hall i (by omega)
     ·obtain rfl:i=k+1:=by omega
      have e:stV s (k+1)=if s.getD k false=true then stV s k+(stS s (k+1)).2.1 else stV s k-(stS s (k+1)).2.1:=rfl
      rw[e,hd,hall k (Nat.le_refl _),hs];cases s.getD 0 false <;> simp <;> omega
   ·have hk0:0<k:=Nat.pos_of_ne_zero fun h=>hs (by rw[h])
    have hb:=hb hk0;have hf:(stS s (k+1)).2.2=false:=by
     show((stS s k).2.2 && (s.getD k false == s.getD 0 false))=false
     rw[A.first,Bool.true_and];exact beq_false_of_ne hs
    have hd:(stS s (k+1)).2.1=32768:=by
     show(if (stS s (k+1)).2.2=true then (stS s k).2.1 else (stS s k).2.1/2)=32768
     rw[hf,if_neg (by simp),A.step];rfl
    have e:stV s (k+1)=if s.getD k false=true then stV s k+(stS s (k+1)).2.1 else stV s k-(stS s (k+1)).2.1:=rfl
    rw[hd,A.vals k (Nat.le_refl _)]at e;have hp:(2:Int)^15=32768:=by decide
    cases hb0:b with
    | true =>
     rw[hb0]at hb;have hsk:s.getD k false=false:=by
      cases h:s.getD k false with
      | false=>rfl
      | true=>exact absurd (h.trans hb) hs
     simp only[hb0,hsk,reduceIte,Bool.false_eq_true]at e;have hv:∀i,i≤k→stV s i=(i:Int)*65536:=fun i hi=>by rw[A.vals i hi,hb0,if_pos rfl]
     have ha:∀i,i<k→s.getD i false=true:=fun i hi=>by rw[A.all i hi,hb0]
     refine .inr ⟨15,2*(k:Int)-1,hf,by rw[hd,hp],by omega,by omega,by omega,by rw[hp];omega,⟨k-1,by omega,ha _ (by omega),by rw[hv _ (by omega),hp];omega⟩,⟨k,by omega,hsk,by rw[hv _ (by omega),hp];omega⟩,fun i hi hi'=>?_,fun i hi hi'=>?_⟩
     ·rcases Nat.lt_or_ge i k with h|h
      ·rw[hv i (by omega),hp];omega
      ·obtain rfl:i=k:=by omega
       rw[hsk]at hi';cases hi'
     ·rcases Nat.lt_or_ge i k with h|h
      ·rw[ha i h]at hi';cases hi'
      ·obtain rfl:i=k:=by omega
       rw[hv i (by omega),hp];omega
    | false =>
     rw[hb0]at hb;have hsk:s.getD k false=true:=by
      cases h:s.getD k false with
      | true=>rfl
      | false=>exact absurd (h.trans hb) hs
     simp only[hb0,hsk,reduceIte,Bool.false_eq_true]at e;have hv:∀i,i≤k→stV s i=-(i:Int)*65536:=fun i hi=>by rw[A.vals i hi,hb0,if_neg (by simp)]
     have ha:∀i,i<k→s.getD i false=false:=fun i hi=>by rw[A.all i hi,hb0]
     refine .inr ⟨15,1-2*(k:Int),hf,by rw[hd,hp],by omega,by omega,by omega,by rw[hp];omega,⟨k,by omega,hsk,by rw[hv _ (by omega),hp];omega⟩,⟨k-1,by omega,ha _ (by omega),by rw[hv _ (by omega),hp];omega⟩,fun i hi hi'=>?_,fun i hi hi'=>?_⟩
     ·rcases Nat.lt_or_ge i k with h|h
      ·rw[ha i h]at hi';cases hi'
      ·obtain rfl:i=k:=by omega
       rw[hv i (by omega),hp];omega
     ·rcases Nat.lt_or_ge i k with h|h
      ·rw[hv i (by omega),hp];omega
      ·obtain rfl:i=k:=by omega
       rw[hsk]at hi';cases hi'
  ·have he1:1≤e:=by have:=M.low;omega
   obtain⟨d,hd2,hd,hdiv⟩:=zud e he1;have hf:(stS s (k+1)).2.2=false:=by
    show((stS s k).2.2 && (s.getD k false == s.getD 0 false))=false
    rw[M.first];rfl
   have hst:(stS s (k+1)).2.1=d:=by
    show(if (stS s (k+1)).2.2=true then (stS s k).2.1 else (stS s k).2.1/2)=d
    rw[hf,if_neg (by simp),M.step,hdiv]
   have ev:stV s (k+1)=if s.getD k false=true then stV s k+(stS s (k+1)).2.1 else stV s k-(stS s (k+1)).2.1:=rfl
   rw[hst,M.val,hd2]at ev;have hv:=M.val;rw[hd2]at hv;have hpos:0<d:=by rw[hd];exact Int.pow_pos (by decide)
   obtain⟨i1,h1,h1',h1v⟩:=M.lo;obtain⟨i2,h2,h2',h2v⟩:=M.hi;have los:=M.los;have his:=M.his;rw[hd2]at h1v h2v;cases hsk:s.getD k false with
   | true =>
    simp only[hsk,reduceIte]at ev;refine .inr ⟨e-1,2*x+1,hf,by rw[hst,hd],by have:=M.low;omega,by have:=M.high;omega,by omega,by rw[ev,←hd,Int.add_mul,Int.one_mul,←Int.mul_assoc,Int.mul_comm x 2],⟨k,by omega,hsk,?_⟩,⟨i2,by omega,h2',?_⟩,fun i hi hi'=>?_,fun i hi hi'=>?_⟩
    ·rw[hv,←hd,show 2*x+1-1=2*x by omega,←Int.mul_assoc,Int.mul_comm x 2]
    ·rw[h2v,←hd,show 2*x+1+1=(x+1)*2 by omega,Int.mul_assoc]
    ·rw[←hd,show 2*x+1-1=x*2 by omega,Int.mul_assoc,←hv]
     rcases Nat.lt_or_ge i k with h|h
     ·have:=los i h hi'
      rw[hd2]at this
      rw[hv];have e2:(x-1)*(2*d)=x*(2*d)-2*d:=by rw[Int.sub_mul,Int.one_mul]
      omega
     ·obtain rfl:i=k:=by omega
      exact Int.le_refl _
    ·rw[←hd,show 2*x+1+1=(x+1)*2 by omega,Int.mul_assoc,←hd2]
     rcases Nat.lt_or_ge i k with h|h
     ·exact his i h hi'
     ·obtain rfl:i=k:=by omega
      rw[hsk]at hi';cases hi'
   | false =>
    simp only[hsk,reduceIte,Bool.false_eq_true]at ev;refine .inr ⟨e-1,2*x-1,hf,by rw[hst,hd],by have:=M.low;omega,by have:=M.high;omega,by omega,by rw[ev,←hd,Int.sub_mul,Int.one_mul,←Int.mul_assoc,Int.mul_comm x 2],⟨i1,by omega,h1',?_⟩,⟨k,by omega,hsk,?_⟩,fun i hi hi'=>?_,fun i hi hi'=>?_⟩
    ·rw[h1v,←hd,show 2*x-1-1=(x-1)*2 by omega,Int.mul_assoc]
    ·rw[hv,←hd,show 2*x-1+1=2*x by omega,←Int.mul_assoc,Int.mul_comm x 2]
    ·rw[←hd,show 2*x-1-1=(x-1)*2 by omega,Int.mul_assoc,←hd2]
     rcases Nat.lt_or_ge i k with h|h
     ·exact los i h hi'
     ·obtain rfl:i=k:=by omega
      rw[hsk]at hi';cases hi'
    ·rw[←hd,show 2*x-1+1=x*2 by omega,Int.mul_assoc,←hv]
     rcases Nat.lt_or_ge i k with h|h
     ·have:=his i h hi'
      rw[hd2]at this
      rw[hv];have e2:(x+1)*(2*d)=x*(2*d)+2*d:=by rw[Int.add_mul,Int.one_mul]
      omega
     ·obtain rfl:i=k:=by omega
      exact Int.le_refl _
theorem zfk (k:Int):nr (k*65536) 16=intC k:=by
 have h:=ze0 k 0 16;rw[show(2:Int)^16=65536 from by decide,Nat.zero_add]at h;rw[h,zei]
theorem zv5 {x:Int}{e:Nat}(h:x%2≠0)(he:e≤15):nr (x*2^e) 16=mkC [nr ((x-1)*2^e) 16] [nr ((x+1)*2^e) 16]:=by
 have lv:∀y:Int,nr (y*2^e) 16=nr y (15-e+1):=fun y=>by
  have h:=ze0 y (15-e+1) e;rw[show 15-e+1+e=16 by omega]at h;exact h
 have half:∀y:Int,y%2=0→nr y (15-e+1)=nr (y/2) (15-e):=fun y hy=>by
  have h:=ze0 (y/2) (15-e) 1;rw[show(2:Int)^1=2 from by decide,show y/2*2=y by omega]at h;exact h
 rw[lv,lv,lv,zgm h,half (x-1) (by omega),half (x+1) (by omega)]
theorem zrv {s:List Bool}{m:Nat}{c:Nat→Nat}(hm:m≤18)(S:StC s m c):∀k,k<m→EqC (c k) (nr (stV s k) 16):=by
 intro k;induction k using Nat.strongRecOn with
 | _ k ih =>
  intro hk;have up:∀i,i<k→∀v:Int,stV s i≤v→geC (nr v 16) (c i)=true:=fun i hi v h=>zan (zk7 h) (ih i hi (by omega)).2
  have dn:∀i,i<k→∀v:Int,v≤stV s i→geC (c i) (nr v 16)=true:=fun i hi v h=>zan (ih i hi (by omega)).1 (zk7 h)
  rcases zrx s k (by omega)with ⟨b,A,_⟩|⟨e,x,M⟩
  ·rcases Nat.eq_zero_or_pos k with h0|h0
   ·subst h0
    have hz:nr (stV s 0) 16=zpp:=by
     have:=zfk 0;rw[Int.zero_mul]at this
     exact this.trans zt3
    rw[hz];refine zpa (fun l hl=>?_) (fun l hl=>?_) (fun l hl=>?_) (fun l hl=>?_)
    ·obtain⟨i,hi,_⟩:=(S.left 0 hk l).1 hl;omega
    ·exact absurd hl (zym l)
    ·obtain⟨i,hi,_⟩:=(S.right 0 hk l).1 hl;omega
    ·exact absurd hl (zyk l)
   ·have hv:=A.vals k (Nat.le_refl _)
    cases b with
    | true =>
     rw[if_pos rfl]at hv;have hy:nr (stV s k) 16=mkC [nr (((k-1:Nat):Int)*65536) 16] []:=by rw[hv,zfk,zh1 (by omega),zfk,show((k-1:Nat):Int)=(k:Int)-1 by omega]
     rw[hy];refine zpa (fun l hl=>?_) (fun l hl=>?_) (fun l hl=>?_) (fun l hl=>?_)
     ·obtain⟨i,hi,_,rfl⟩:=(S.left k hk l).1 hl
      exact⟨_,(zam _ _ _).2 List.mem_cons_self,up i hi _ (by rw[A.vals i (by omega),if_pos rfl];omega)⟩
     ·rw[List.mem_singleton.1 ((zam _ _ _).1 hl)]
      exact⟨c (k-1),(S.left k hk _).2 ⟨k-1,by omega,A.all _ (by omega),rfl⟩,dn (k-1) (by omega) _ (by rw[A.vals _ (by omega),if_pos rfl];omega)⟩
     ·obtain⟨i,hi,h,_⟩:=(S.right k hk l).1 hl
      rw[A.all i hi]at h;cases h
     ·exact absurd ((zak _ _ _).1 hl) (by simp)
    | false =>
     rw[if_neg (by simp)]at hv;have hy:nr (stV s k) 16=mkC [] [nr (-((k-1:Nat):Int)*65536) 16]:=by rw[hv,zfk,zh2 (by omega),zfk,show -((k-1:Nat):Int)=-(k:Int)+1 by omega]
     rw[hy];refine zpa (fun l hl=>?_) (fun l hl=>?_) (fun l hl=>?_) (fun l hl=>?_)
     ·obtain⟨i,hi,h,_⟩:=(S.left k hk l).1 hl
      rw[A.all i hi]at h;cases h
     ·exact absurd ((zam _ _ _).1 hl) (by simp)
     ·obtain⟨i,hi,_,rfl⟩:=(S.right k hk l).1 hl
      exact⟨_,(zak _ _ _).2 List.mem_cons_self,dn i hi _ (by rw[A.vals i (by omega),if_neg (by simp)];omega)⟩
     ·rw[List.mem_singleton.1 ((zak _ _ _).1 hl)]
      exact⟨c (k-1),(S.right k hk _).2 ⟨k-1,by omega,A.all _ (by omega),rfl⟩,up (k-1) (by omega) _ (by rw[A.vals _ (by omega),if_neg (by simp)];omega)⟩
  ·rw[M.val,zv5 M.odd M.high]
   refine zpa (fun l hl=>?_) (fun l hl=>?_) (fun l hl=>?_) (fun l hl=>?_)
   ·obtain⟨i,hi,h,rfl⟩:=(S.left k hk l).1 hl
    exact⟨_,(zam _ _ _).2 List.mem_cons_self,up i hi _ (M.los i hi h)⟩
   ·rw[List.mem_singleton.1 ((zam _ _ _).1 hl)]
    obtain⟨i,hi,h,hv⟩:=M.lo;exact⟨c i,(S.left k hk _).2 ⟨i,hi,h,rfl⟩,dn i hi _ (by rw[hv];exact Int.le_refl _)⟩
   ·obtain⟨i,hi,h,rfl⟩:=(S.right k hk l).1 hl
    exact⟨_,(zak _ _ _).2 List.mem_cons_self,dn i hi _ (M.his i hi h)⟩
   ·rw[List.mem_singleton.1 ((zak _ _ _).1 hl)]
    obtain⟨i,hi,h,hv⟩:=M.hi;exact⟨c i,(S.right k hk _).2 ⟨i,hi,h,rfl⟩,up i hi _ (by rw[hv];exact Int.le_refl _)⟩
end Go.Proofs.YtkofnbjjbcohgaaGreatDoor
