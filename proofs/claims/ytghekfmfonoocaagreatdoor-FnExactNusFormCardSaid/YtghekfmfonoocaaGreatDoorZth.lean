import Derived.Test.YtghekfmfonoocaaGreatDoorZtb
import Derived.Test.YtghekfmfonoocaaGreatDoorZtn
/- Lemmas. -/
namespace Go.Proofs.YtghekfmfonoocaaGreatDoor
set_option linter.unusedVariables false
set_option linter.unusedSimpArgs false
open Go.RowKit
theorem zkc (s:Int)(P:Nat):nr (2*s) (P+1)=nr s P:=by
 rw[zbt (by omega),show 2*s/2=s from by omega]
theorem zon (s:Int)(P k:Nat):nr (s*2^k) (P+k)=nr s P:=by
 unfold nr;rw[znn]
theorem zfh {s:Int}{l:Nat}(h:hasL (intC s) l):0<s/\l=intC (s-1):=by
 by_cases h0:s=0
 ·subst h0;exact absurd h (zxc l)
 ·by_cases hp:0<s
  ·rw[zhs hp,zab]at h
   exact⟨hp,List.mem_singleton.1 h⟩
  ·rw[zht (by omega),zab]at h
   simp at h
theorem ze6 {s:Int}{r:Nat}(h:hasR (intC s) r):s<0/\r=intC (s+1):=by
 by_cases h0:s=0
 ·subst h0;exact absurd h (zxb r)
 ·by_cases hp:0<s
  ·rw[zhs hp,zad]at h
   simp at h
  ·rw[zht (by omega),zad]at h
   exact⟨by omega,List.mem_singleton.1 h⟩
theorem zov {s:Int}(h:0<s):hasL (intC s) (intC (s-1)):=by rw[zhs h,zab];simp
theorem zou {s:Int}(h:s<0):hasR (intC s) (intC (s+1)):=by rw[zht h,zad];simp
theorem zd7:∀(P:Nat) (s:Int) (l:Nat),hasL (nr s P) l→∃v,v<s/\l=nr v P:=by
 intro P;induction P with
 | zero =>
  intro s l h;rw[zc4]at h;obtain⟨_,e⟩:=zfh h;exact⟨s-1,by omega,by rw[zc4];exact e⟩
 | succ P ih =>
  intro s l h;by_cases he:s%2=0
  ·rw[zbt he]at h
   obtain⟨v,hv,e⟩:=ih _ _ h;exact⟨2*v,by omega,by rw[zkc];exact e⟩
  ·rw[zhi he,zab]at h
   exact⟨s-1,by omega,by rw[zbt (by omega)];exact List.mem_singleton.1 h⟩
theorem zcb:∀(P:Nat) (s:Int) (r:Nat),hasR (nr s P) r→∃v,s<v/\r=nr v P:=by
 intro P;induction P with
 | zero =>
  intro s l h;rw[zc4]at h;obtain⟨_,e⟩:=ze6 h;exact⟨s+1,by omega,by rw[zc4];exact e⟩
 | succ P ih =>
  intro s l h;by_cases he:s%2=0
  ·rw[zbt he]at h
   obtain⟨v,hv,e⟩:=ih _ _ h;exact⟨2*v,by omega,by rw[zkc];exact e⟩
  ·rw[zhi he,zad]at h
   exact⟨s+1,by omega,by rw[zbt (by omega)];exact List.mem_singleton.1 h⟩
theorem zs7 {s:Int}{P:Nat}(h:s%2≠0):hasL (nr s (P+1)) (nr (s-1) (P+1)):=by
 rw[zhi h,zab,zbt (by omega)];simp
theorem zs6 {s:Int}{P:Nat}(h:s%2≠0):hasR (nr s (P+1)) (nr (s+1) (P+1)):=by
 rw[zhi h,zad,zbt (by omega)];simp
theorem zvf:∀(P:Nat) (s t:Int),s<t→(∃v,s≤v/\v<t/\hasL (nr t P) (nr v P))∨∃v,s<v/\v≤t/\hasR (nr s P) (nr v P):=by
 intro P;induction P with
 | zero =>
  intro s t h;by_cases ht:0<t
  ·exact .inl ⟨t-1,by omega,by omega,by rw[zc4,zc4];exact zov ht⟩
  ·exact .inr ⟨s+1,by omega,by omega,by rw[zc4,zc4];exact zou (by omega)⟩
 | succ P ih =>
  intro s t h;by_cases ht:t%2=0
  ·by_cases hs:s%2=0
   ·rw[zbt ht,zbt hs]
    rcases ih (s/2) (t/2) (by omega)with ⟨v,h1,h2,h3⟩|⟨v,h1,h2,h3⟩
    ·exact .inl ⟨2*v,by omega,by omega,by rw[zkc];exact h3⟩
    ·exact .inr ⟨2*v,by omega,by omega,by rw[zkc];exact h3⟩
   ·exact .inr ⟨s+1,by omega,by omega,zs6 hs⟩
  ·exact .inl ⟨t-1,by omega,by omega,zs7 ht⟩
theorem nr_ge' (P n:Nat):∀s t:Int,nr s P+nr t P<n→(t≤s→geC (nr s P) (nr t P)=true)/\(s<t→geC (nr s P) (nr t P)=false):=by
 induction n with
 | zero=>intro s t h;omega
 | succ n ih =>
  intro s t hn;refine⟨fun h=>zbs (fun r hr=>?_) fun l hl=>?_,fun h=>?_⟩
  ·have hlt:=za5 (.inr hr)
   obtain⟨v,hv,rfl⟩:=zcb _ _ _ hr;exact(ih t v (by omega)).2 (by omega)
  ·have hlt:=za5 (.inl hl)
   obtain⟨v,hv,rfl⟩:=zd7 _ _ _ hl;exact(ih v s (by omega)).2 (by omega)
  ·cases e:geC (nr s P) (nr t P)with
   | false=>rfl
   | true =>
    rcases zvf P s t h with ⟨v,h1,h2,h3⟩|⟨v,h1,h2,h3⟩
    ·have hlt:=za5 (.inl h3)
     have:=(ih v s (by omega)).1 h1;rw[zes e h3]at this;cases this
    ·have hlt:=za5 (.inr h3)
     have:=(ih t v (by omega)).1 h2;rw[zdg e h3]at this;cases this
theorem zfr {s t:Int}{P:Nat}(h:t≤s):geC (nr s P) (nr t P)=true:=(nr_ge' P _ s t (Nat.lt_succ_self _)).1 h
theorem zs8 {s t:Int}{P:Nat}(h:s<t):geC (nr s P) (nr t P)=false:=(nr_ge' P _ s t (Nat.lt_succ_self _)).2 h
theorem zkm {s t:Int}{P:Nat}(h:geC (nr s P) (nr t P)=true):t≤s:=by
 refine Int.not_lt.1 fun q=>?_
 rw[zs8 q]at h;cases h
def EqC (a b:Nat):Prop:=geC a b=true/\geC b a=true
theorem EqC.can {a b:Nat}(h:EqC a b):canC a=canC b:=ycd.2 h
theorem zdq (a:Nat):EqC (canC a) a:=⟨(zga a).2.1,(zga a).2.2⟩
theorem EqC.r {a b:Nat}(h:EqC a b)(z:Nat):geC z a=geC z b:=(zzi h.1 h.2 z).1
theorem EqC.l {a b:Nat}(h:EqC a b)(z:Nat):geC a z=geC b z:=(zzi h.1 h.2 z).2
theorem zxp {x y:Nat}(z:Nat)(h:geC x y=false):geC (sumC x z) (sumC y z)=false:=(sum_ge' _ x y z (Nat.lt_succ_self _)).2 h
theorem zi8 (x y z:Nat):geC (sumC x z) (sumC y z)=geC x y:=by
 cases h:geC x y with
 | true=>exact zpa z h
 | false=>exact zxp z h
theorem ydu:∀(P:Nat) (s t:Int) (l:Nat),hasL (nr (s+t) P) l→∃v,l=nr v P/\((∃u,hasL (nr s P) (nr u P)/\v≤u+t)∨∃u,hasL (nr t P) (nr u P)/\v≤s+u):=by
 intro P;induction P with
 | zero =>
  intro s t l h;rw[zc4]at h;obtain⟨hp,e⟩:=zfh h;refine⟨s+t-1,by rw[zc4];exact e,?_⟩;by_cases hs:0<s
  ·exact .inl ⟨s-1,by rw[zc4,zc4];exact zov hs,by omega⟩
  ·exact .inr ⟨t-1,by rw[zc4,zc4];exact zov (by omega),by omega⟩
 | succ P ih =>
  intro s t l h;by_cases hs:s%2=0
  ·by_cases ht:t%2=0
   ·rw[zbt (by omega),show(s+t)/2=s/2+t/2 from by omega]at h
    obtain⟨v,e,hv⟩:=ih _ _ _ h;refine⟨2*v,by rw[zkc];exact e,?_⟩;rw[zbt hs,zbt ht];rcases hv with ⟨u,h1,h2⟩|⟨u,h1,h2⟩
    ·exact .inl ⟨2*u,by rw[zkc];exact h1,by omega⟩
    ·exact .inr ⟨2*u,by rw[zkc];exact h1,by omega⟩
   ·obtain⟨v,hv,e⟩:=zd7 _ _ _ h
    exact⟨v,e,.inr ⟨t-1,zs7 ht,by omega⟩⟩
  ·obtain⟨v,hv,e⟩:=zd7 _ _ _ h
   exact⟨v,e,.inl ⟨s-1,zs7 hs,by omega⟩⟩
theorem ydt:∀(P:Nat) (s t:Int) (l:Nat),hasR (nr (s+t) P) l→∃v,l=nr v P/\((∃u,hasR (nr s P) (nr u P)/\u+t≤v)∨∃u,hasR (nr t P) (nr u P)/\s+u≤v):=by
 intro P;induction P with
 | zero =>
  intro s t l h;rw[zc4]at h;obtain⟨hp,e⟩:=ze6 h;refine⟨s+t+1,by rw[zc4];exact e,?_⟩;by_cases hs:s<0
  ·exact .inl ⟨s+1,by rw[zc4,zc4];exact zou hs,by omega⟩
  ·exact .inr ⟨t+1,by rw[zc4,zc4];exact zou (by omega),by omega⟩
 | succ P ih =>
  intro s t l h;by_cases hs:s%2=0
  ·by_cases ht:t%2=0
   ·rw[zbt (by omega),show(s+t)/2=s/2+t/2 from by omega]at h
    obtain⟨v,e,hv⟩:=ih _ _ _ h;refine⟨2*v,by rw[zkc];exact e,?_⟩;rw[zbt hs,zbt ht];rcases hv with ⟨u,h1,h2⟩|⟨u,h1,h2⟩
    ·exact .inl ⟨2*u,by rw[zkc];exact h1,by omega⟩
    ·exact .inr ⟨2*u,by rw[zkc];exact h1,by omega⟩
   ·obtain⟨v,hv,e⟩:=zcb _ _ _ h
    exact⟨v,e,.inr ⟨t+1,zs6 ht,by omega⟩⟩
  ·obtain⟨v,hv,e⟩:=zcb _ _ _ h
   exact⟨v,e,.inl ⟨s+1,zs6 hs,by omega⟩⟩
theorem nr_sum' (P n:Nat):∀s t:Int,nr s P+nr t P<n→EqC (sumC (nr s P) (nr t P)) (nr (s+t) P):=by
 induction n with
 | zero=>intro s t h;omega
 | succ n ih =>
  intro s t hn;constructor
  ·refine zbs (fun r hr=>?_) fun l hl=>?_
   ·rcases (zcx _ _ r).1 hr with ⟨b,hb,rfl⟩|⟨b,hb,rfl⟩
    ·have hlt:=za5 (.inr hb)
     obtain⟨v,hv,rfl⟩:=zcb _ _ _ hb;rw[(ih v t (by omega)).r];exact zs8 (by omega)
    ·have hlt:=za5 (.inr hb)
     obtain⟨v,hv,rfl⟩:=zcb _ _ _ hb;rw[(ih s v (by omega)).r];exact zs8 (by omega)
   ·obtain⟨v,rfl,⟨u,hu,hv⟩|⟨u,hu,hv⟩⟩:=ydu P s t l hl
    ·have hlt:=za5 (.inl hu)
     have h1:geC (sumC (nr u P) (nr t P)) (nr v P)=true:=by rw[(ih u t (by omega)).l];exact zfr hv
     exact zau h1 (zbg ((zcy _ _ _).2 (.inl ⟨_,hu,rfl⟩)))
    ·have hlt:=za5 (.inl hu)
     have h1:geC (sumC (nr s P) (nr u P)) (nr v P)=true:=by rw[(ih s u (by omega)).l];exact zfr hv
     exact zau h1 (zbg ((zcy _ _ _).2 (.inr ⟨_,hu,rfl⟩)))
  ·refine zbs (fun r hr=>?_) fun l hl=>?_
   ·obtain⟨v,rfl,⟨u,hu,hv⟩|⟨u,hu,hv⟩⟩:=ydt P s t r hr
    ·have hlt:=za5 (.inr hu)
     have h1:geC (nr v P) (sumC (nr u P) (nr t P))=true:=by rw[(ih u t (by omega)).r];exact zfr hv
     exact zav h1 (zb6 ((zcx _ _ _).2 (.inl ⟨_,hu,rfl⟩)))
    ·have hlt:=za5 (.inr hu)
     have h1:geC (nr v P) (sumC (nr s P) (nr u P))=true:=by rw[(ih s u (by omega)).r];exact zfr hv
     exact zav h1 (zb6 ((zcx _ _ _).2 (.inr ⟨_,hu,rfl⟩)))
   ·rcases (zcy _ _ l).1 hl with ⟨b,hb,rfl⟩|⟨b,hb,rfl⟩
    ·have hlt:=za5 (.inl hb)
     obtain⟨v,hv,rfl⟩:=zd7 _ _ _ hb;rw[(ih v t (by omega)).l];exact zs8 (by omega)
    ·have hlt:=za5 (.inl hb)
     obtain⟨v,hv,rfl⟩:=zd7 _ _ _ hb;rw[(ih s v (by omega)).l];exact zs8 (by omega)
theorem zmi (s t:Int)(P:Nat):EqC (sumC (nr s P) (nr t P)) (nr (s+t) P):=nr_sum' P _ s t (Nat.lt_succ_self _)
theorem ya4 (s:Int)(P:Nat):CanC1 (nr s P):=by
 have uniq:∀(P:Nat) (s:Int),(∀l l',hasL (nr s P) l→hasL (nr s P) l'→l=l')/\∀l l',hasR (nr s P) l→hasR (nr s P) l'→l=l':=by
  intro P;induction P with
  | zero =>
   intro s;rw[zc4];exact⟨fun l l' h h'=>by rw[(zfh h).2,(zfh h').2],fun l l' h h'=>by rw[(ze6 h).2,(ze6 h').2]⟩
  | succ P ih =>
   intro s;by_cases he:s%2=0
   ·rw[zbt he];exact ih _
   ·rw[zhi he]
    refine⟨fun l l' h h'=>?_,fun l l' h h'=>?_⟩
    ·rw[zab]at h h'
     rw[List.mem_singleton.1 h,List.mem_singleton.1 h']
    ·rw[zad]at h h'
     rw[List.mem_singleton.1 h,List.mem_singleton.1 h']
 have rev:∀(P:Nat) (s:Int),(∀l r,hasL (nr s P) l→hasR l r→geC (nr s P) r=false)/\∀r l,hasR (nr s P) r→hasL r l→geC l (nr s P)=false:=by
  intro P;induction P with
  | zero =>
   intro s;rw[zc4];refine⟨fun l r h h'=>?_,fun l r h h'=>?_⟩
   ·obtain⟨h1,rfl⟩:=zfh h
    have:=(ze6 h').1;omega
   ·obtain⟨h1,rfl⟩:=ze6 h
    have:=(zfh h').1;omega
  | succ P ih =>
   intro s;by_cases he:s%2=0
   ·rw[zbt he];exact ih _
   ·refine⟨fun l r h h'=>?_,fun l r h h'=>?_⟩
    ·rw[zhi he,zab]at h
     rw[List.mem_singleton.1 h]at h';obtain⟨v,hv,rfl⟩:=zcb _ _ _ h';rw[←zkc v P];exact zs8 (by omega)
    ·rw[zhi he,zad]at h
     rw[List.mem_singleton.1 h]at h';obtain⟨v,hv,rfl⟩:=zd7 _ _ _ h';rw[←zkc v P];exact zs8 (by omega)
 exact⟨fun l l' h h' _=>(uniq P s).1 _ _ h' h,fun l l' h h' _=>(uniq P s).2 _ _ h' h,(rev P s).1,(rev P s).2⟩
theorem yd0 (s:Int)(P:Nat):(∀l l',hasL (nr s P) l→hasL (nr s P) l'→l=l')/\∀l l',hasR (nr s P) l→hasR (nr s P) l'→l=l':=by
 have h:=ya4 s P;refine⟨fun l l' a b=>?_,fun l l' a b=>?_⟩
 ·obtain⟨v,_,rfl⟩:=zd7 _ _ _ a
  obtain⟨v',_,rfl⟩:=zd7 _ _ _ b;by_cases e:v'≤v
  ·exact h.domL _ _ b a (zfr e)
  ·exact(h.domL _ _ a b (zfr (by omega))).symm
 ·obtain⟨v,_,rfl⟩:=zcb _ _ _ a
  obtain⟨v',_,rfl⟩:=zcb _ _ _ b;by_cases e:v≤v'
  ·exact h.domR _ _ b a (zfr e)
  ·exact(h.domR _ _ a b (zfr (by omega))).symm
theorem ycz {s:Int}{P x:Nat}(h:SubC (nr s P) x):∃v,x=nr v P:=by
 induction h with
 | root=>exact⟨s,rfl⟩
 | step _ ho ih =>
  obtain⟨v,rfl⟩:=ih;rcases ho with h|h
  ·obtain⟨u,_,e⟩:=zd7 _ _ _ h;exact⟨u,e⟩
  ·obtain⟨u,_,e⟩:=zcb _ _ _ h;exact⟨u,e⟩
theorem ya5 (s:Int)(P:Nat):CanC (nr s P):=fun x hx=>by
 obtain⟨v,rfl⟩:=ycz hx;exact ya4 v P
def IsNum (G:Nat):Prop:=∃(P:Nat) (s:Int),EqC G (nr s P)
theorem IsNum.can {c:Nat}(h:IsNum c)(hc:CanC c):∃(P:Nat) (s:Int),c=nr s P:=by
 obtain⟨P,s,k⟩:=h;exact⟨P,s,zsy hc (ya5 s P) k.1 k.2⟩
theorem zyn (P:Nat){G:Nat}:∀(n:Nat) (s:Int),nr s P<n→(∀l,hasL G l→geC l (nr s P)=false)→(∀r,hasR G r→geC (nr s P) r=false)→IsNum G:=by
 intro n;induction n with
 | zero=>intro s h;omega
 | succ n ih =>
  intro s hn hl hr;cases h1:geC (nr s P) G with
  | false =>
   rcases zg4 h1 with ⟨r,h,e⟩|⟨l,h,e⟩
   ·have hlt:=za5 (.inr h)
    obtain⟨v,hv,rfl⟩:=zcb _ _ _ h;refine ih v (by omega) (fun l h'=>?_) fun r h'=>?_
    ·cases q:geC l (nr v P)with
     | false=>rfl
     | true =>
      have:=zae q (zfr (s:=v) (t:=s) (P:=P) (by omega));rw[hl l h']at this;cases this
    ·cases q:geC (nr v P) r with
     | false=>rfl
     | true =>
      have:=zae e q;rw[zb6 h']at this;cases this
   ·rw[hl l h]at e;cases e
  | true =>
   cases h2:geC G (nr s P)with
   | true=>exact⟨P,s,h2,h1⟩
   | false =>
    rcases zg4 h2 with ⟨r,h,e⟩|⟨l,h,e⟩
    ·rw[hr r h]at e;cases e
    ·have hlt:=za5 (.inl h)
     obtain⟨v,hv,rfl⟩:=zd7 _ _ _ h;refine ih v (by omega) (fun l h'=>?_) fun r h'=>?_
     ·cases q:geC l (nr v P)with
      | false=>rfl
      | true =>
       have:=zae q e;rw[zbg h']at this;cases this
     ·cases q:geC (nr v P) r with
      | false=>rfl
      | true =>
       have:=zae (zfr (s:=s) (t:=v) (P:=P) (by omega)) q;rw[hr r h']at this;cases this
theorem zom {G:Nat}(hG:¬IsNum G)(P:Nat)(s:Int):(∃l,hasL G l/\geC l (nr s P)=true)∨geC (nr s P) G=true:=by
 by_cases h:∃l,hasL G l/\geC l (nr s P)=true
 ·exact .inl h
 ·have hl:∀l,hasL G l→geC l (nr s P)=false:=fun l hl=>by
   cases q:geC l (nr s P)with
   | false=>rfl
   | true=>exact absurd ⟨l,hl,q⟩ h
  refine .inr (zbs (fun x hx=>?_) hl);cases q:geC G x with
  | false=>rfl
  | true =>
   obtain⟨v,hv,rfl⟩:=zcb _ _ _ hx;refine absurd (zyn P _ s (Nat.lt_succ_self _) hl fun r hr=>?_) hG;cases q':geC (nr s P) r with
   | false=>rfl
   | true =>
    have:=zae (zae q (zfr (s:=v) (t:=s) (P:=P) (by omega))) q';rw[zb6 hr]at this;cases this
theorem zok {G:Nat}(hG:¬IsNum G)(P:Nat)(s:Int):(∃r,hasR G r/\geC (nr s P) r=true)∨geC G (nr s P)=true:=by
 by_cases h:∃r,hasR G r/\geC (nr s P) r=true
 ·exact .inl h
 ·have hr:∀r,hasR G r→geC (nr s P) r=false:=fun l hl=>by
   cases q:geC (nr s P) l with
   | false=>rfl
   | true=>exact absurd ⟨l,hl,q⟩ h
  refine .inr (zbs hr (fun x hx=>?_));cases q:geC x G with
  | false=>rfl
  | true =>
   obtain⟨v,hv,rfl⟩:=zd7 _ _ _ hx;refine absurd (zyn P _ s (Nat.lt_succ_self _) (fun l hl=>?_) hr) hG;cases q':geC l (nr s P)with
   | false=>rfl
   | true =>
    have:=zae q' (zae (zfr (s:=s) (t:=v) (P:=P) (by omega)) q);rw[zbg hl]at this;cases this
theorem zpt (G:Nat):∀m:Nat,G≤m→geC (posC m) G=true:=by
 induction G using Nat.strongRecOn with
 | _ G ih =>
  intro m hm;refine zbs (fun r hr=>?_) fun l hl=>?_
  ·rw[←zhu]at hr
   have:=(ze6 hr).1;omega
  ·have hlt:=za5 (.inl hl)
   obtain⟨k,rfl⟩:∃k,m=k+1:=⟨m-1,by omega⟩;exact zau (ih l hlt k (by omega)) (zbg (show hasL (mkC [posC k] []) (posC k)from by rw[zab];simp))
theorem zps (G:Nat):∀m:Nat,G≤m→geC G (zfz m)=true:=by
 induction G using Nat.strongRecOn with
 | _ G ih =>
  intro m hm;refine zbs (fun r hr=>?_) fun l hl=>?_
  ·have hlt:=za5 (.inr hr)
   obtain⟨k,rfl⟩:∃k,m=k+1:=⟨m-1,by omega⟩;exact zav (ih r hlt k (by omega)) (zb6 (show hasR (mkC [] [zfz k]) (zfz k)from by rw[zad];simp))
  ·rw[←zg3]at hl
   have:=(zfh hl).1;omega
theorem zkk (m:Int)(P:Nat):nr (m*2^P) P=intC m:=by
 have h:=zon m 0 P;rw[Nat.zero_add]at h;rw[h,zc4]
theorem zsc {L R:List Nat}{i:Nat}(h:i∈L):hasL (mkC L R) i:=(zab _ _ _).2 h
theorem zu4 {L R:List Nat}{i:Nat}(h:i∈R):hasR (mkC L R) i:=(zad _ _ _).2 h
theorem zu5 {a i:Nat}{R:List Nat}(h:hasL (mkC [a] R) i):i=a:=List.mem_singleton.1 ((zab _ _ _).1 h)
theorem zhm {a i:Nat}{L:List Nat}(h:hasR (mkC L [a]) i):i=a:=List.mem_singleton.1 ((zad _ _ _).1 h)
section
variable {s:Int}{P:Nat}(hs:0<s)
include hs
end
def yfc (c:Nat)(t:Int)(p:Nat):Prop:=Red t p/\c=numC t p
open Classical in
noncomputable def isNB (c:Nat):Bool:=decide (∃t p,yfc c t p)
def nusL (a:Nat):Nat→List Nat
 | 0=>[]
 | s+1=>nusL a s ++ [if s=0 then a else mkC (nusL a s) (nusL a s)]
def nusS (a s:Nat):Nat:=if s=0 then a else mkC (nusL a s) (nusL a s)
def nusU (a:Nat):Nat→Nat→Nat
 | 0,s=>nusS a s
 | n+1,s=>if n=0/\s=1 then mkC [a,nusS a 1] [a]else mkC [a] [nusU a n (s ^^^ 1)]
def nusD (a:Nat):Nat→Nat→Nat
 | 0,s=>nusS a s
 | n+1,s=>if n=0/\s=1 then mkC [a] [a,nusS a 1]else mkC [nusD a n (s ^^^ 1)] [a]
def nusC (a:Nat)(n:Int)(s:Nat):Nat:=if 0≤n then nusU a n.toNat s else nusD a (-n).toNat s
theorem zyk (a s:Nat):nusC a 0 s=nusS a s:=rfl
theorem zoi {a x:Nat}{R:List Nat}:hasL (mkC [a] R) x↔x=a:=(zab _ _ _).trans List.mem_singleton
theorem zmf {a x:Nat}{L:List Nat}:hasR (mkC L [a]) x↔x=a:=(zad _ _ _).trans List.mem_singleton
theorem zm1 {a b x:Nat}:x∈[a,b]↔x=a∨x=b:=by simp
theorem zt9 {a s:Nat}{n:Int}(h:0<n)(h1:¬(n=1/\s=1)):(∀x,hasL (nusC a n s) x↔x=a)/\∀x,hasR (nusC a n s) x↔x=nusC a (n-1) (s ^^^ 1):=by
 obtain⟨m,rfl⟩:∃m:Nat,n=(m:Int)+1:=⟨(n-1).toNat,by omega⟩;have e:nusC a ((m:Int)+1) s=mkC [a] [nusC a (m:Int) (s ^^^ 1)]:=by
  rw[nusC,if_pos (by omega),show((m:Int)+1).toNat=m+1 from by omega,nusU,if_neg (by omega),nusC,if_pos (by omega),Int.toNat_natCast]
 rw[e,show(m:Int)+1-1=m from by omega];exact⟨fun x=>zoi,fun x=>zmf⟩
theorem znz {a s:Nat}{n:Int}(h:n<0)(h1:¬(n=-1/\s=1)):(∀x,hasL (nusC a n s) x↔x=nusC a (n+1) (s ^^^ 1))/\∀x,hasR (nusC a n s) x↔x=a:=by
 obtain⟨m,rfl⟩:∃m:Nat,n=-((m:Int)+1):=⟨(-n-1).toNat,by omega⟩;have e1:nusC a (-((m:Int)+1)+1) (s ^^^ 1)=nusD a m (s ^^^ 1):=by
  by_cases hm:m=0
  ·subst hm;rfl
  ·rw[nusC,if_neg (by omega),show(-(-((m:Int)+1)+1)).toNat=m from by omega]
 have e:nusC a (-((m:Int)+1)) s=mkC [nusD a m (s ^^^ 1)] [a]:=by
  rw[nusC,if_neg (by omega),show(-(-((m:Int)+1))).toNat=m+1 from by omega,nusD,if_neg (by omega)]
 rw[e,e1];exact⟨fun x=>zoi,fun x=>zmf⟩
theorem ziv (a:Nat):(∀x,hasL (nusC a 1 1) x↔x=a∨x=nusC a 0 1)/\∀x,hasR (nusC a 1 1) x↔x=a:=by
 have e:nusC a 1 1=mkC [a,nusC a 0 1] [a]:=rfl;rw[e];exact⟨fun x=>(zab _ _ _).trans zm1,fun x=>zmf⟩
theorem zgy (a:Nat):(∀x,hasL (nusC a (-1) 1) x↔x=a)/\∀x,hasR (nusC a (-1) 1) x↔x=a∨x=nusC a 0 1:=by
 have e:nusC a (-1) 1=mkC [a] [a,nusC a 0 1]:=rfl;rw[e];exact⟨fun x=>zoi,fun x=>(zad _ _ _).trans zm1⟩
theorem xor1 (s:Nat):(s ^^^ 1) ^^^ 1=s:=by rw[Nat.xor_assoc,Nat.xor_self,Nat.xor_zero]
def KL (c:Nat)(b:Bool):Prop:=∃x,hasL c x/\isNB x=b
def KR (c:Nat)(b:Bool):Prop:=∃x,hasR c x/\isNB x=b
theorem zyq {G:Nat}(hG:¬IsNum G)(P:Nat):∃(u:Int) (l:Nat),hasL G l/\geC l (nr u P)=true/\geC (nr (u+1) P) G=true:=by
 have key:∀(k:Nat) (u:Int),(G:Int)*2^P≤u+k→(∃l,hasL G l/\geC l (nr u P)=true)→∃(u:Int) (l:Nat),hasL G l/\geC l (nr u P)=true/\geC (nr (u+1) P) G=true:=by
  intro k;induction k with
  | zero =>
   rintro u hu ⟨l,hl,e⟩;have h1:geC (nr u P) (nr ((G:Int)*2^P) P)=true:=zfr (by omega);rw[zkk,zhu]at h1;have:=zae (zae e h1) (zpt G G (Nat.le_refl _));rw[zbg hl]at this;cases this
  | succ k ih =>
   rintro u hu ⟨l,hl,e⟩;rcases zom hG P (u+1)with h|h
   ·exact ih (u+1) (by omega) h
   ·exact⟨u,l,hl,e,h⟩
 obtain⟨hi,hhi⟩:∃hi:Int,hi=(G:Int)*2^P:=⟨_,rfl⟩;obtain⟨lo,hlo⟩:∃lo:Int,lo=-(G:Int)*2^P-1:=⟨_,rfl⟩;refine key (hi-lo).toNat lo (by omega) ((zom hG P lo).resolve_right fun h=>?_);have h1:=zae h (zps G G (Nat.le_refl _));rw[←zg3,←zkk (-(G:Int)) P]at h1;have:=zkm h1;omega
theorem zyp {G:Nat}(hG:¬IsNum G)(P:Nat):∃(u:Int) (r:Nat),hasR G r/\geC (nr u P) r=true/\geC G (nr (u-1) P)=true:=by
 have key:∀(k:Nat) (u:Int),u-k≤-(G:Int)*2^P→(∃r,hasR G r/\geC (nr u P) r=true)→∃(u:Int) (r:Nat),hasR G r/\geC (nr u P) r=true/\geC G (nr (u-1) P)=true:=by
  intro k;induction k with
  | zero =>
   rintro u hu ⟨l,hl,e⟩;have h1:geC (nr (-(G:Int)*2^P) P) (nr u P)=true:=zfr (by omega);rw[zkk,zg3]at h1;have:=zae (zps G G (Nat.le_refl _)) (zae h1 e);rw[zb6 hl]at this;cases this
  | succ k ih =>
   rintro u hu ⟨l,hl,e⟩;rcases zok hG P (u-1)with h|h
   ·exact ih (u-1) (by omega) h
   ·exact⟨u,l,hl,e,h⟩
 obtain⟨hi,hhi⟩:∃hi:Int,hi=(G:Int)*2^P+1:=⟨_,rfl⟩;obtain⟨lo,hlo⟩:∃lo:Int,lo=-(G:Int)*2^P:=⟨_,rfl⟩;refine key (hi-lo).toNat hi (by omega) ((zok hG P hi).resolve_right fun h=>?_);have h1:=zae (zpt G G (Nat.le_refl _)) h;rw[←zhu,←zkk (G:Int) P]at h1;have:=zkm h1;omega
noncomputable def zsb (G x:Nat):Nat:=mkC ((zig G).map fun l=>canC (sumC l x)) ((zey G).map fun r=>canC (sumC r x))
theorem zn9 {G x a:Nat}:hasL (zsb G x) a↔∃l,hasL G l/\canC (sumC l x)=a:=by
 unfold zsb;rw[zab,List.mem_map];exact⟨fun⟨l,h,e⟩=>⟨l,zb7.1 h,e⟩,fun⟨l,h,e⟩=>⟨l,zb7.2 h,e⟩⟩
theorem zn8 {G x a:Nat}:hasR (zsb G x) a↔∃l,hasR G l/\canC (sumC l x)=a:=by
 unfold zsb;rw[zad,List.mem_map];exact⟨fun⟨l,h,e⟩=>⟨l,zaz.1 h,e⟩,fun⟨l,h,e⟩=>⟨l,zaz.2 h,e⟩⟩
theorem ydz {G:Nat}(hG:¬IsNum G)(s:Int)(P:Nat):EqC (zsb G (nr s P)) (sumC G (nr s P)):=by
 constructor
 ·refine zbs (fun r hr=>?_) fun l hl=>?_
  ·obtain⟨b,hb,rfl⟩:=zn8.1 hr
   rw[(zdq _).r];exact zxp _ (zb6 hb)
  ·rcases (zcy _ _ l).1 hl with ⟨b,hb,rfl⟩|⟨b,hb,rfl⟩
   ·rw[←(zdq _).l]
    exact zbg (zn9.2 ⟨b,hb,rfl⟩)
   ·obtain⟨v,hv,rfl⟩:=zd7 _ _ _ hb
    obtain⟨u,l,h1,h2,h3⟩:=zyq hG P;have k1:geC (nr (u+s) P) (sumC G (nr v P))=true:=by
     refine zae (zfr (show u+1+v≤u+s from by omega)) ?_
     rw[←(zmi (u+1) v P).l];exact zpa _ h3
    have k2:geC (sumC l (nr s P)) (nr (u+s) P)=true:=by
     rw[←(zmi u s P).r];exact zpa _ h2
    have k3:=zae k2 k1;rw[←(zdq _).l]at k3;exact zau k3 (zbg (zn9.2 ⟨l,h1,rfl⟩))
 ·refine zbs (fun r hr=>?_) fun l hl=>?_
  ·rcases (zcx _ _ r).1 hr with ⟨b,hb,rfl⟩|⟨b,hb,rfl⟩
   ·rw[←(zdq _).r]
    exact zb6 (zn8.2 ⟨b,hb,rfl⟩)
   ·obtain⟨v,hv,rfl⟩:=zcb _ _ _ hb
    obtain⟨u,l,h1,h2,h3⟩:=zyp hG P;have k1:geC (sumC G (nr v P)) (nr (u+s) P)=true:=by
     refine zae ?_ (zfr (show u+s≤u-1+v from by omega))
     rw[←(zmi (u-1) v P).r];exact zpa _ h3
    have k2:geC (nr (u+s) P) (sumC l (nr s P))=true:=by
     rw[←(zmi u s P).l];exact zpa _ h2
    have k3:=zae k1 k2;rw[←(zdq _).r]at k3;exact zav k3 (zb6 (zn8.2 ⟨l,h1,rfl⟩))
  ·obtain⟨b,hb,rfl⟩:=zn9.1 hl
   rw[(zdq _).l];exact zxp _ (zbg hb)
theorem zsx (a s:Int)(Q P:Nat):∃(L:Nat) (a' s':Int),nr a Q=nr a' L/\nr s P=nr s' L/\canC (sumC (nr a Q) (nr s P))=nr (a'+s') L:=by
 have e1:nr a Q=nr (a*2^P) (P+Q):=by rw[Nat.add_comm];exact(zon a Q P).symm
 have e2:nr s P=nr (s*2^Q) (P+Q):=(zon s P Q).symm;refine⟨P+Q,a*2^P,s*2^Q,e1,e2,?_⟩;rw[e1,e2,(zmi _ _ _).can,zi6 (ya5 _ _)]
theorem ybf (s:Int)(P:Nat):∀(n G:Nat),G<n→CanC G→¬IsNum G→canC (sumC G (nr s P))=zsb G (nr s P):=by
 intro n;induction n with
 | zero=>intro G h;omega
 | succ n ih =>
  intro G hn hc hG;have hE:=ydz hG s P;have k:=hc G .root;have one:CanC1 (zsb G (nr s P)):=by
   refine⟨fun a a' ha ha' e=>?_,fun a a' ha ha' e=>?_,fun a r ha hr=>?_,fun a r ha hr=>?_⟩
   ·obtain⟨l,hl,rfl⟩:=zn9.1 ha
    obtain⟨l',hl',rfl⟩:=zn9.1 ha';rw[(zdq _).l,(zdq _).r,zi8]at e;rw[k.domL l l' hl hl' e]
   ·obtain⟨l,hl,rfl⟩:=zn8.1 ha
    obtain⟨l',hl',rfl⟩:=zn8.1 ha';rw[(zdq _).l,(zdq _).r,zi8]at e;rw[k.domR l l' hl hl' e]
   ·obtain⟨l,hl,rfl⟩:=zn9.1 ha
    rw[hE.l];have hlt:=za5 (.inl hl);by_cases hN:IsNum l
    ·obtain⟨Q,a,rfl⟩:=hN.can (hc.opt (.inl hl))
     obtain⟨L,a',s',e1,e2,e3⟩:=zsx a s Q P;rw[e3]at hr;obtain⟨v,hv,rfl⟩:=zcb _ _ _ hr;cases q:geC (sumC G (nr s P)) (nr v L)with
     | false=>rfl
     | true =>
      have q1:geC G (nr (v-s') L)=true:=by
       rw[←zi8 G _ (nr s P),e2,(zmi (v-s') s' L).r,show v-s'+s'=v from by omega,←e2];exact q
      rcases zom hG L (v-s')with ⟨l',hl',g⟩|g
      ·have g1:geC l' (nr a Q)=true:=by rw[e1];exact zae g (zfr (by omega))
       rw[k.domL _ l' hl hl' g1,e1]at g;have:=zkm g;omega
      ·exact absurd ⟨L,_,q1,g⟩ hG
    ·rw[ih l (by omega) (hc.opt (.inl hl)) hN]at hr
     obtain⟨b,hb,rfl⟩:=zn8.1 hr;rw[(zdq _).r,zi8];exact k.revL l b hl hb
   ·obtain⟨l,hl,rfl⟩:=zn8.1 ha
    rw[hE.r];have hlt:=za5 (.inr hl);by_cases hN:IsNum l
    ·obtain⟨Q,a,rfl⟩:=hN.can (hc.opt (.inr hl))
     obtain⟨L,a',s',e1,e2,e3⟩:=zsx a s Q P;rw[e3]at hr;obtain⟨v,hv,rfl⟩:=zd7 _ _ _ hr;cases q:geC (nr v L) (sumC G (nr s P))with
     | false=>rfl
     | true =>
      have q1:geC (nr (v-s') L) G=true:=by
       rw[←zi8 _ G (nr s P),e2,(zmi (v-s') s' L).l,show v-s'+s'=v from by omega,←e2];exact q
      rcases zok hG L (v-s')with ⟨l',hl',g⟩|g
      ·have g1:geC (nr a Q) l'=true:=by rw[e1];exact zae (zfr (by omega)) g
       rw[k.domR _ l' hl hl' g1,e1]at g;have:=zkm g;omega
      ·exact absurd ⟨L,_,g,q1⟩ hG
    ·rw[ih l (by omega) (hc.opt (.inr hl)) hN]at hr
     obtain⟨b,hb,rfl⟩:=zn9.1 hr;rw[(zdq _).l,zi8];exact k.revR l b hl hb
  refine(zt1 (CanC.mk one fun x hx=>?_) hE.1 hE.2).symm;rcases hx with h|h
  ·obtain⟨l,_,rfl⟩:=zn9.1 h;exact(zga _).1
  ·obtain⟨l,_,rfl⟩:=zn8.1 h;exact(zga _).1
def FewC (c:Nat):Prop:=∀s,SubC c s→(∀A:List Nat,A.Nodup→(∀a∈A,hasL s a)→A.length≤24)/\∀A:List Nat,A.Nodup→(∀a∈A,hasR s a)→A.length≤24
theorem FewC.opt {c x:Nat}(h:FewC c)(ho:optC c x):FewC x:=fun y hy=>h y ((SubC.root.step ho).trans hy)
theorem zyh {A:List Nat}(hA:A.Nodup)(h:∀x∈A,∀y∈A,x=y):A.length≤24:=by
 match A,hA,h with
 | [],_,_=>simp
 | [_],_,_=>simp
 | a::b::l,hA,h =>
  have e:=h a (by simp) b (by simp);rw[List.nodup_cons]at hA;exact absurd (by rw[e];simp) hA.1
theorem yey (s:Int)(P:Nat):FewC (nr s P):=fun x hx=>by
 obtain⟨v,rfl⟩:=ycz hx;exact⟨fun A hA h=>zyh hA fun x hx y hy=>(yd0 v P).1 _ _ (h x hx) (h y hy),fun A hA h=>zyh hA fun x hx y hy=>(yd0 v P).2 _ _ (h x hx) (h y hy)⟩
theorem ztc {c x:Nat}(h:SubC c x):x=c∨∃y,optC c y/\SubC y x:=by
 induction h with
 | root=>exact .inl rfl
 | step _ ho ih =>
  rcases ih with rfl|⟨y,hy,hs⟩
  ·exact .inr ⟨_,ho,.root⟩
  ·exact .inr ⟨y,hy,hs.step ho⟩
theorem zsg (c:Nat):(zig c).Nodup:=List.nodup_range.sublist List.filter_sublist
theorem zph (c:Nat):(zey c).Nodup:=List.nodup_range.sublist List.filter_sublist
theorem yc4 (s:Int)(P:Nat):∀(n G:Nat),G<n→CanC G→FewC G→FewC (canC (sumC G (nr s P))):=by
 intro n;induction n with
 | zero=>intro G h;omega
 | succ n ih =>
  intro G hn hc hf;by_cases hN:IsNum G
  ·obtain⟨Q,a,rfl⟩:=hN.can hc
   obtain⟨L,a',s',_,_,e3⟩:=zsx a s Q P;rw[e3];exact yey _ _
  ·rw[ybf s P _ G (Nat.lt_succ_self _) hc hN]
   intro x hx;rcases ztc hx with rfl|⟨y,hy,hs⟩
   ·obtain⟨f1,f2⟩:=hf G .root
    constructor
    ·intro A hA h
     have h1:=hA.length_le_of_subset (l₂:=(zig G).map fun l=>canC (sumC l (nr s P))) fun z hz=>by
      obtain⟨l,hl,e⟩:=zn9.1 (h z hz);exact List.mem_map.2 ⟨l,zb7.2 hl,e⟩
     rw[List.length_map]at h1;have h2:=f1 (zig G) (zsg G) fun a ha=>zb7.1 ha
     omega
    ·intro A hA h
     have h1:=hA.length_le_of_subset (l₂:=(zey G).map fun l=>canC (sumC l (nr s P))) fun z hz=>by
      obtain⟨l,hl,e⟩:=zn8.1 (h z hz);exact List.mem_map.2 ⟨l,zaz.2 hl,e⟩
     rw[List.length_map]at h1;have h2:=f2 (zey G) (zph G) fun a ha=>zaz.1 ha
     omega
   ·rcases hy with h|h
    ·obtain⟨l,hl,rfl⟩:=zn9.1 h
     have hlt:=za5 (.inl hl);exact ih l (by omega) (hc.opt (.inl hl)) (hf.opt (.inl hl)) x hs
    ·obtain⟨l,hl,rfl⟩:=zn8.1 h
     have hlt:=za5 (.inr hl);exact ih l (by omega) (hc.opt (.inr hl)) (hf.opt (.inr hl)) x hs
theorem zk7 {P L:List Nat}{n:Nat}(hP:P.Nodup)(hL:L.Pairwise (· < ·))(hl:∀x∈L,x<n)(hn:n≤P.length):(za1 P L).Nodup:=by
 unfold za1;refine List.pairwise_map.2 (hL.imp_of_mem ?_);intro a b ha hb hab e;have la:=hl a ha;have lb:=hl b hb;rw[zfm (List.getElem?_eq_getElem (show a<P.length by omega)),zfm (List.getElem?_eq_getElem (show b<P.length by omega))]at e;have:=(List.getElem_inj hP).1 e;omega
theorem zss {c:Nat}(h:zam (zac c)=true):FewC c:=by
 obtain⟨P,hA⟩:=zbi c;have hPl:=hA.book.len;unfold zam at h;rw[decide_eq_true_eq]at h;intro s hs;obtain⟨j,hj,e⟩:=List.getElem_of_mem ((hA.sub s).2 hs);have hj':j<(zac c).length:=by omega
 have ej:=List.getElem?_eq_getElem hj'
 have hcode:=hA.book.code j _ ej;have e':P.getD j 0=s:=zfm (by rw[List.getElem?_eq_getElem hj,e]);rw[e']at hcode;have hl:=h.2.2 _ (List.getElem_mem hj');constructor
 ·intro A hN hA'
  have:=hN.length_le_of_subset (l₂:=za1 P (zac c)[j].1) fun z hz=>by
   have h1:=hA' z hz;rw[hcode,zab]at h1;exact h1
  have e:(za1 P (zac c)[j].1).length=(zac c)[j].1.length:=by simp[za1]
  omega
 ·intro A hN hA'
  have:=hN.length_le_of_subset (l₂:=za1 P (zac c)[j].2) fun z hz=>by
   have h1:=hA' z hz;rw[hcode,zad]at h1;exact h1
  have e:(za1 P (zac c)[j].2).length=(zac c)[j].2.length:=by simp[za1]
  omega
theorem zn1 {c:Nat}(hl:(zac c).length≤120)(h:FewC c):zam (zac c)=true:=by
 obtain⟨P,hA⟩:=zbi c;have hPl:=hA.book.len;have hpos:=(zfy (zbi c)).1;unfold zam;rw[decide_eq_true_eq];refine⟨hl,by omega,fun y hy=>?_⟩;obtain⟨j,hj,rfl⟩:=List.getElem_of_mem hy;have ej:=List.getElem?_eq_getElem hj
 obtain⟨o1,o2⟩:=hA.book.opts j _ ej;obtain⟨u1,u2⟩:=hA.book.up j _ ej;have hcode:=hA.book.code j _ ej;obtain⟨f1,f2⟩:=h (P.getD j 0) ((hA.sub _).1 (zcz (show j<P.length by omega)));constructor
 ·have:=f1 (za1 P (zac c)[j].1) (zk7 hA.book.nodup u1 o1 (by omega)) (fun a ha=>by rw[hcode];exact(zab _ _ _).2 ha)
  simpa [za1] using this
 ·have:=f2 (za1 P (zac c)[j].2) (zk7 hA.book.nodup u2 o2 (by omega)) (fun a ha=>by rw[hcode];exact(zad _ _ _).2 ha)
  simpa [za1] using this
theorem zya {c:Nat}(s:Int)(P:Nat)(hc:CanC c)(hf:zam (zac c)=true)(hs:(zac (sumC c (nr s P))).length≤120):zam (zac (canC (sumC c (nr s P))))=true:=by
 refine zn1 ?_ (yc4 s P _ c (Nat.lt_succ_self _) hc (zss hf))
 have hi:=zga (sumC c (nr s P));have:=ya6 hi.1 hi.2.2 hi.2.1 (zbi (sumC c (nr s P)));omega
end Go.Proofs.YtghekfmfonoocaaGreatDoor
