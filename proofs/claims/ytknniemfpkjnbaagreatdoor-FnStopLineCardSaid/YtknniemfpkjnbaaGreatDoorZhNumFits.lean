import Derived.Test.YtknniemfpkjnbaaGreatDoorZhSumGe
/- What the claim of FnStopLineCard needs of: NumOrd NumVal NumMove NumFits. -/
namespace Go.Proofs.YtknniemfpkjnbaaGreatDoor
set_option linter.unusedVariables false
set_option linter.unusedSimpArgs false
open Go.RowKit
theorem zoh (s:Int)(P:Nat):nr (2*s) (P+1)=nr s P:=by
 rw[zce (by omega),show 2*s/2=s from by omega]
theorem zf0 (s:Int)(P k:Nat):nr (s*2^k) (P+k)=nr s P:=by
 unfold nr;rw[zc0]
theorem ze7 {s:Int}{l:Nat}(h:hasL (intC s) l):0<s/\l=intC (s-1):=by
 by_cases h0:s=0
 ·subst h0;exact absurd h (yce l)
 ·by_cases hp:0<s
  ·rw[zh5 hp,zap]at h
   exact⟨hp,List.mem_singleton.1 h⟩
  ·rw[zh6 (by omega),zap]at h
   simp at h
theorem zd8 {s:Int}{r:Nat}(h:hasR (intC s) r):s<0/\r=intC (s+1):=by
 by_cases h0:s=0
 ·subst h0;exact absurd h (ycd r)
 ·by_cases hp:0<s
  ·rw[zh5 hp,zan]at h
   simp at h
  ·rw[zh6 (by omega),zan]at h
   exact⟨by omega,List.mem_singleton.1 h⟩
theorem zst {s:Int}(h:0<s):hasL (intC s) (intC (s-1)):=by rw[zh5 h,zap];simp
theorem zss {s:Int}(h:s<0):hasR (intC s) (intC (s+1)):=by rw[zh6 h,zan];simp
theorem zf1:∀(P:Nat) (s:Int) (l:Nat),hasL (nr s P) l→∃v,v<s/\l=nr v P:=by
 intro P;induction P with
 | zero =>
  intro s l h;rw[zdq]at h;obtain⟨_,e⟩:=ze7 h;exact⟨s-1,by omega,by rw[zdq];exact e⟩
 | succ P ih =>
  intro s l h;by_cases he:s%2=0
  ·rw[zce he]at h
   obtain⟨v,hv,e⟩:=ih _ _ h;exact⟨2*v,by omega,by rw[zoh];exact e⟩
  ·rw[zgx he,zap]at h
   exact⟨s-1,by omega,by rw[zce (by omega)];exact List.mem_singleton.1 h⟩
theorem zdg:∀(P:Nat) (s:Int) (r:Nat),hasR (nr s P) r→∃v,s<v/\r=nr v P:=by
 intro P;induction P with
 | zero =>
  intro s l h;rw[zdq]at h;obtain⟨_,e⟩:=zd8 h;exact⟨s+1,by omega,by rw[zdq];exact e⟩
 | succ P ih =>
  intro s l h;by_cases he:s%2=0
  ·rw[zce he]at h
   obtain⟨v,hv,e⟩:=ih _ _ h;exact⟨2*v,by omega,by rw[zoh];exact e⟩
  ·rw[zgx he,zan]at h
   exact⟨s+1,by omega,by rw[zce (by omega)];exact List.mem_singleton.1 h⟩
theorem zn5 {s:Int}{P:Nat}(h:s%2≠0):hasL (nr s (P+1)) (nr (s-1) (P+1)):=by
 rw[zgx h,zap,zce (by omega)];simp
theorem zpr {s:Int}{P:Nat}(h:s%2≠0):hasR (nr s (P+1)) (nr (s+1) (P+1)):=by
 rw[zgx h,zan,zce (by omega)];simp
theorem zts:∀(P:Nat) (s t:Int),s<t→(∃v,s≤v/\v<t/\hasL (nr t P) (nr v P))∨∃v,s<v/\v≤t/\hasR (nr s P) (nr v P):=by
 intro P;induction P with
 | zero =>
  intro s t h;by_cases ht:0<t
  ·exact .inl ⟨t-1,by omega,by omega,by rw[zdq,zdq];exact zst ht⟩
  ·exact .inr ⟨s+1,by omega,by omega,by rw[zdq,zdq];exact zss (by omega)⟩
 | succ P ih =>
  intro s t h;by_cases ht:t%2=0
  ·by_cases hs:s%2=0
   ·rw[zce ht,zce hs]
    rcases ih (s/2) (t/2) (by omega)with ⟨v,h1,h2,h3⟩|⟨v,h1,h2,h3⟩
    ·exact .inl ⟨2*v,by omega,by omega,by rw[zoh];exact h3⟩
    ·exact .inr ⟨2*v,by omega,by omega,by rw[zoh];exact h3⟩
   ·exact .inr ⟨s+1,by omega,by omega,zpr hs⟩
  ·exact .inl ⟨t-1,by omega,by omega,zn5 ht⟩
theorem nr_ge' (P n:Nat):∀s t:Int,nr s P+nr t P<n→(t≤s→geC (nr s P) (nr t P)=true)/\(s<t→geC (nr s P) (nr t P)=false):=by
 induction n with
 | zero=>intro s t h;omega
 | succ n ih =>
  intro s t hn;refine⟨fun h=>zcm (fun r hr=>?_) fun l hl=>?_,fun h=>?_⟩
  ·have hlt:=zah (.inr hr)
   obtain⟨v,hv,rfl⟩:=zdg _ _ _ hr;exact(ih t v (by omega)).2 (by omega)
  ·have hlt:=zah (.inl hl)
   obtain⟨v,hv,rfl⟩:=zf1 _ _ _ hl;exact(ih v s (by omega)).2 (by omega)
  ·cases e:geC (nr s P) (nr t P)with
   | false=>rfl
   | true =>
    rcases zts P s t h with ⟨v,h1,h2,h3⟩|⟨v,h1,h2,h3⟩
    ·have hlt:=zah (.inl h3)
     have:=(ih v s (by omega)).1 h1;rw[zgn e h3]at this;cases this
    ·have hlt:=zah (.inr h3)
     have:=(ih t v (by omega)).1 h2;rw[zf4 e h3]at this;cases this
theorem zke {s t:Int}{P:Nat}(h:t≤s):geC (nr s P) (nr t P)=true:=(nr_ge' P _ s t (Nat.lt_succ_self _)).1 h
theorem zn6 {s t:Int}{P:Nat}(h:s<t):geC (nr s P) (nr t P)=false:=(nr_ge' P _ s t (Nat.lt_succ_self _)).2 h
theorem zik {s t:Int}{P:Nat}(h:geC (nr s P) (nr t P)=true):t≤s:=by
 refine Int.not_lt.1 fun q=>?_
 rw[zn6 q]at h;cases h
def EqC (a b:Nat):Prop:=geC a b=true/\geC b a=true
theorem EqC.symm {a b:Nat}(h:EqC a b):EqC b a:=⟨h.2,h.1⟩
theorem EqC.trans {a b c:Nat}(h:EqC a b)(h':EqC b c):EqC a c:=⟨zaf h.1 h'.1,zaf h'.2 h.2⟩
theorem ybz (a:Nat):EqC (canC a) a:=⟨(zic a).2.1,(zic a).2.2⟩
theorem zy4 (s:Int)(P:Nat):CanC1 (nr s P):=by
 have uniq:∀(P:Nat) (s:Int),(∀l l',hasL (nr s P) l→hasL (nr s P) l'→l=l')/\∀l l',hasR (nr s P) l→hasR (nr s P) l'→l=l':=by
  intro P;induction P with
  | zero =>
   intro s;rw[zdq];exact⟨fun l l' h h'=>by rw[(ze7 h).2,(ze7 h').2],fun l l' h h'=>by rw[(zd8 h).2,(zd8 h').2]⟩
  | succ P ih =>
   intro s;by_cases he:s%2=0
   ·rw[zce he];exact ih _
   ·rw[zgx he]
    refine⟨fun l l' h h'=>?_,fun l l' h h'=>?_⟩
    ·rw[zap]at h h'
     rw[List.mem_singleton.1 h,List.mem_singleton.1 h']
    ·rw[zan]at h h'
     rw[List.mem_singleton.1 h,List.mem_singleton.1 h']
 have rev:∀(P:Nat) (s:Int),(∀l r,hasL (nr s P) l→hasR l r→geC (nr s P) r=false)/\∀r l,hasR (nr s P) r→hasL r l→geC l (nr s P)=false:=by
  intro P;induction P with
  | zero =>
   intro s;rw[zdq];refine⟨fun l r h h'=>?_,fun l r h h'=>?_⟩
   ·obtain⟨h1,rfl⟩:=ze7 h
    have:=(zd8 h').1;omega
   ·obtain⟨h1,rfl⟩:=zd8 h
    have:=(ze7 h').1;omega
  | succ P ih =>
   intro s;by_cases he:s%2=0
   ·rw[zce he];exact ih _
   ·refine⟨fun l r h h'=>?_,fun l r h h'=>?_⟩
    ·rw[zgx he,zap]at h
     rw[List.mem_singleton.1 h]at h';obtain⟨v,hv,rfl⟩:=zdg _ _ _ h';rw[←zoh v P];exact zn6 (by omega)
    ·rw[zgx he,zan]at h
     rw[List.mem_singleton.1 h]at h';obtain⟨v,hv,rfl⟩:=zf1 _ _ _ h';rw[←zoh v P];exact zn6 (by omega)
 exact⟨fun l l' h h' _=>(uniq P s).1 _ _ h' h,fun l l' h h' _=>(uniq P s).2 _ _ h' h,(rev P s).1,(rev P s).2⟩
theorem zsc (s:Int)(P:Nat):(∀l l',hasL (nr s P) l→hasL (nr s P) l'→l=l')/\∀l l',hasR (nr s P) l→hasR (nr s P) l'→l=l':=by
 have h:=zy4 s P;refine⟨fun l l' a b=>?_,fun l l' a b=>?_⟩
 ·obtain⟨v,_,rfl⟩:=zf1 _ _ _ a
  obtain⟨v',_,rfl⟩:=zf1 _ _ _ b;by_cases e:v'≤v
  ·exact h.domL _ _ b a (zke e)
  ·exact(h.domL _ _ a b (zke (by omega))).symm
 ·obtain⟨v,_,rfl⟩:=zdg _ _ _ a
  obtain⟨v',_,rfl⟩:=zdg _ _ _ b;by_cases e:v≤v'
  ·exact h.domR _ _ b a (zke e)
  ·exact(h.domR _ _ a b (zke (by omega))).symm
theorem ycn {s:Int}{P x:Nat}(h:SubC (nr s P) x):∃v,x=nr v P:=by
 induction h with
 | root=>exact⟨s,rfl⟩
 | step _ ho ih =>
  obtain⟨v,rfl⟩:=ih;rcases ho with h|h
  ·obtain⟨u,_,e⟩:=zf1 _ _ _ h;exact⟨u,e⟩
  ·obtain⟨u,_,e⟩:=zdg _ _ _ h;exact⟨u,e⟩
theorem ycx (s:Int)(P:Nat):CanC (nr s P):=fun x hx=>by
 obtain⟨v,rfl⟩:=ycn hx;exact zy4 v P
def IsNum (G:Nat):Prop:=∃(P:Nat) (s:Int),EqC G (nr s P)
theorem IsNum.of {a b:Nat}(h:IsNum a)(e:EqC a b):IsNum b:=by
 obtain⟨P,s,k⟩:=h;exact⟨P,s,e.symm.trans k⟩
theorem IsNum.can {c:Nat}(h:IsNum c)(hc:CanC c):∃(P:Nat) (s:Int),c=nr s P:=by
 obtain⟨P,s,k⟩:=h;exact⟨P,s,zrf hc (ycx s P) k.1 k.2⟩
theorem zpq (P:Nat){G:Nat}:∀(n:Nat) (s:Int),nr s P<n→(∀l,hasL G l→geC l (nr s P)=false)→(∀r,hasR G r→geC (nr s P) r=false)→IsNum G:=by
 intro n;induction n with
 | zero=>intro s h;omega
 | succ n ih =>
  intro s hn hl hr;cases h1:geC (nr s P) G with
  | false =>
   rcases zgf h1 with ⟨r,h,e⟩|⟨l,h,e⟩
   ·have hlt:=zah (.inr h)
    obtain⟨v,hv,rfl⟩:=zdg _ _ _ h;refine ih v (by omega) (fun l h'=>?_) fun r h'=>?_
    ·cases q:geC l (nr v P)with
     | false=>rfl
     | true =>
      have:=zaf q (zke (s:=v) (t:=s) (P:=P) (by omega));rw[hl l h']at this;cases this
    ·cases q:geC (nr v P) r with
     | false=>rfl
     | true =>
      have:=zaf e q;rw[zbk h']at this;cases this
   ·rw[hl l h]at e;cases e
  | true =>
   cases h2:geC G (nr s P)with
   | true=>exact⟨P,s,h2,h1⟩
   | false =>
    rcases zgf h2 with ⟨r,h,e⟩|⟨l,h,e⟩
    ·rw[hr r h]at e;cases e
    ·have hlt:=zah (.inl h)
     obtain⟨v,hv,rfl⟩:=zf1 _ _ _ h;refine ih v (by omega) (fun l h'=>?_) fun r h'=>?_
     ·cases q:geC l (nr v P)with
      | false=>rfl
      | true =>
       have:=zaf q e;rw[zc3 h']at this;cases this
     ·cases q:geC (nr v P) r with
      | false=>rfl
      | true =>
       have:=zaf (zke (s:=s) (t:=v) (P:=P) (by omega)) q;rw[hr r h']at this;cases this
theorem zsa {G:Nat}(hG:¬IsNum G)(P:Nat)(s:Int):(∃l,hasL G l/\geC l (nr s P)=true)∨geC (nr s P) G=true:=by
 by_cases h:∃l,hasL G l/\geC l (nr s P)=true
 ·exact .inl h
 ·have hl:∀l,hasL G l→geC l (nr s P)=false:=fun l hl=>by
   cases q:geC l (nr s P)with
   | false=>rfl
   | true=>exact absurd ⟨l,hl,q⟩ h
  refine .inr (zcm (fun x hx=>?_) hl);cases q:geC G x with
  | false=>rfl
  | true =>
   obtain⟨v,hv,rfl⟩:=zdg _ _ _ hx;refine absurd (zpq P _ s (Nat.lt_succ_self _) hl fun r hr=>?_) hG;cases q':geC (nr s P) r with
   | false=>rfl
   | true =>
    have:=zaf (zaf q (zke (s:=v) (t:=s) (P:=P) (by omega))) q';rw[zbk hr]at this;cases this
theorem zs9 {G:Nat}(hG:¬IsNum G)(P:Nat)(s:Int):(∃r,hasR G r/\geC (nr s P) r=true)∨geC G (nr s P)=true:=by
 by_cases h:∃r,hasR G r/\geC (nr s P) r=true
 ·exact .inl h
 ·have hr:∀r,hasR G r→geC (nr s P) r=false:=fun l hl=>by
   cases q:geC (nr s P) l with
   | false=>rfl
   | true=>exact absurd ⟨l,hl,q⟩ h
  refine .inr (zcm hr (fun x hx=>?_));cases q:geC x G with
  | false=>rfl
  | true =>
   obtain⟨v,hv,rfl⟩:=zf1 _ _ _ hx;refine absurd (zpq P _ s (Nat.lt_succ_self _) (fun l hl=>?_) hr) hG;cases q':geC l (nr s P)with
   | false=>rfl
   | true =>
    have:=zaf q' (zaf (zke (s:=s) (t:=v) (P:=P) (by omega)) q);rw[zc3 hl]at this;cases this
theorem zof (G:Nat):∀m:Nat,G≤m→geC (posC m) G=true:=by
 induction G using Nat.strongRecOn with
 | _ G ih =>
  intro m hm;refine zcm (fun r hr=>?_) fun l hl=>?_
  ·rw[←znf]at hr
   have:=(zd8 hr).1;omega
  ·have hlt:=zah (.inl hl)
   obtain⟨k,rfl⟩:∃k,m=k+1:=⟨m-1,by omega⟩;exact zb3 (ih l hlt k (by omega)) (zc3 (show hasL (mkC [posC k] []) (posC k)from by rw[zap];simp))
theorem zoe (G:Nat):∀m:Nat,G≤m→geC G (ztt m)=true:=by
 induction G using Nat.strongRecOn with
 | _ G ih =>
  intro m hm;refine zcm (fun r hr=>?_) fun l hl=>?_
  ·have hlt:=zah (.inr hr)
   obtain⟨k,rfl⟩:∃k,m=k+1:=⟨m-1,by omega⟩;exact zb5 (ih r hlt k (by omega)) (zbk (show hasR (mkC [] [ztt k]) (ztt k)from by rw[zan];simp))
  ·rw[←zkp]at hl
   have:=(ze7 hl).1;omega
theorem zii (m:Int)(P:Nat):nr (m*2^P) P=intC m:=by
 have h:=zf0 m 0 P;rw[Nat.zero_add]at h;rw[h,zdq]
def IsVal (c:Nat)(t:Int)(p:Nat):Prop:=Red t p/\c=numC t p
theorem IsVal.toNr {c:Nat}{t:Int}{p:Nat}(h:IsVal c t p):c=nr t p:=by rw[zx5 h.1];exact h.2
theorem zx4 (s:Int)(P:Nat):IsVal (nr s P) (redT s P).1 (redT s P).2:=⟨zd5 _ _,rfl⟩
theorem ycp {s t:Int}{P:Nat}(h:nr s P=nr t P):s=t:=by
 have h1:=zik (show geC (nr s P) (nr t P)=true by rw[h];exact zck _);have h2:=zik (show geC (nr t P) (nr s P)=true by rw[h];exact zck _);omega
theorem IsVal.one {c:Nat}{t s:Int}{p q:Nat}(h:IsVal c t p)(k:IsVal c s q):t=s/\p=q:=by
 have e1:nr (t*2^q) (p+q)=c:=by rw[zf0];exact h.toNr.symm
 have e2:nr (s*2^p) (p+q)=c:=by rw[Nat.add_comm,zf0];exact k.toNr.symm
 have e:=ycp (e1.trans e2.symm);have a:=zc0 q p t;rw[e,Nat.add_comm,zc0,zcx k.1,zcx h.1]at a;have a1:=congrArg Prod.fst a;have a2:=congrArg Prod.snd a;exact⟨a1.symm,a2.symm⟩
open Classical in
noncomputable def isNB (c:Nat):Bool:=decide (∃t p,IsVal c t p)
open Classical in
noncomputable def valT (c:Nat):Int × Nat:=if h:∃d:Int × Nat,IsVal c d.1 d.2 then Classical.choose h else (0,0)
open Classical in
theorem zcg {c:Nat}:isNB c=true↔∃t p,IsVal c t p:=by unfold isNB;rw[decide_eq_true_iff]
theorem IsVal.is {c:Nat}{t:Int}{p:Nat}(h:IsVal c t p):isNB c=true:=zcg.2 ⟨t,p,h⟩
theorem IsVal.val {c:Nat}{t:Int}{p:Nat}(h:IsVal c t p):valT c=(t,p):=by
 have hx:∃d:Int × Nat,IsVal c d.1 d.2:=⟨(t,p),h⟩;unfold valT;rw[dif_pos hx];obtain⟨a,b⟩:=(Classical.choose_spec hx).one h;exact Prod.ext a b
theorem zr3 {c:Nat}(h:isNB c=true):IsVal c (valT c).1 (valT c).2:=by
 obtain⟨t,p,k⟩:=zcg.1 h;rw[k.val];exact k
theorem zsq (s:Int)(P:Nat):isNB (nr s P)=true:=(zx4 s P).is
open Classical in
noncomputable def valB (c:Nat):Bool:=isNB c && decide (GoodD (valT c).1 (valT c).2)
noncomputable def valD (c:Nat):Int × Nat:=if valB c=true then valT c else (0,0)
open Classical in
theorem IsVal.good {c:Nat}{t:Int}{p:Nat}(h:IsVal c t p):valB c=true↔GoodD t p:=by
 unfold valB;rw[h.is,h.val,Bool.true_and,decide_eq_true_iff]
theorem zfu {c:Nat}(h:valB c=true):isNB c=true:=by
 unfold valB at h;exact(Bool.and_eq_true_iff.1 h).1
theorem zcb {c:Nat}(h:valB c=true):IsVal c (valD c).1 (valD c).2/\GoodD (valD c).1 (valD c).2:=by
 have h1:=zr3 (zfu h);unfold valD;rw[if_pos h];exact⟨h1,h1.good.1 h⟩
theorem IsVal.goodD {c:Nat}{t:Int}{p:Nat}(h:IsVal c t p)(hg:GoodD t p):valB c=true/\valD c=(t,p):=by
 have h1:=h.good.2 hg;refine⟨h1,?_⟩;unfold valD;rw[if_pos h1,h.val]
theorem zda {c:Nat}(h:valB c=false):valD c=(0,0):=by unfold valD;rw[h];rfl
theorem zzk {c l l':Nat}(h:isNB c=true)(a:hasL c l)(b:hasL c l'):l=l':=by
 obtain⟨t,p,k⟩:=zcg.1 h;rw[k.toNr]at a b;exact(zsc _ _).1 _ _ a b
theorem zzi {c l l':Nat}(h:isNB c=true)(a:hasR c l)(b:hasR c l'):l=l':=by
 obtain⟨t,p,k⟩:=zcg.1 h;rw[k.toNr]at a b;exact(zsc _ _).2 _ _ a b
theorem zzh {c l:Nat}(h:isNB c=true)(a:hasL c l):isNB l=true:=by
 obtain⟨t,p,k⟩:=zcg.1 h;rw[k.toNr]at a;obtain⟨v,_,rfl⟩:=zf1 _ _ _ a;exact zsq _ _
theorem zzg {c l:Nat}(h:isNB c=true)(a:hasR c l):isNB l=true:=by
 obtain⟨t,p,k⟩:=zcg.1 h;rw[k.toNr]at a;obtain⟨v,_,rfl⟩:=zdg _ _ _ a;exact zsq _ _
theorem zvz {c l r:Nat}(h:isNB c=true)(a:hasL c l)(b:hasR c r):geC l r=false:=by
 obtain⟨t,p,k⟩:=zcg.1 h;rw[k.toNr]at a b;obtain⟨v,hv,rfl⟩:=zf1 _ _ _ a;obtain⟨u,hu,rfl⟩:=zdg _ _ _ b;exact zn6 (by omega)
theorem zzm {c:Nat}(hc:CanC c)(h1:∀l l',hasL c l→hasL c l'→l=l')(h2:∀r r',hasR c r→hasR c r'→r=r')(hL:∀l,hasL c l→isNB l=true)(hR:∀r,hasR c r→isNB r=true)
  (ha:∀l r,hasL c l→hasR c r→geC l r=false):isNB c=true:=by
 have fin:∀(s:Int) (P:Nat),(∀l,hasL c l→geC l (nr s P)=false)→(∀r,hasR c r→geC (nr s P) r=false)→isNB c=true:=fun s P a b=>by
  obtain⟨Q,u,e⟩:=(zpq P _ s (Nat.lt_succ_self _) a b).can hc;rw[e];exact zsq _ _
 by_cases eL:∃l,hasL c l
 ·obtain⟨l,hl⟩:=eL
  obtain⟨s,P,kl⟩:=zcg.1 (hL l hl);by_cases eR:∃r,hasR c r
  ·obtain⟨r,hr⟩:=eR
   obtain⟨t,Q,kr⟩:=zcg.1 (hR r hr);have e1:l=nr (2*(s*2^Q)) (P+Q+1):=by rw[zoh,zf0];exact kl.toNr
   have e2:r=nr (2*(t*2^P)) (P+Q+1):=by rw[zoh,Nat.add_comm,zf0];exact kr.toNr
   have hlt:s*2^Q<t*2^P:=by
    have h:=ha l r hl hr;rw[e1,e2]at h;refine Int.not_le.1 fun q=>?_
    rw[zke (show 2*(t*2^P)≤2*(s*2^Q)by omega)]at h;cases h
   refine fin (2*(s*2^Q)+1) (P+Q+1) (fun l' hl'=>?_) (fun r' hr'=>?_)
   ·rw[h1 _ _ hl' hl,e1];exact zn6 (by omega)
   ·rw[h2 _ _ hr' hr,e2];exact zn6 (by omega)
  ·refine fin (s+1) P (fun l' hl'=>?_) (fun r' hr'=>absurd ⟨r',hr'⟩ eR)
   rw[h1 _ _ hl' hl,kl.toNr];exact zn6 (by omega)
 ·by_cases eR:∃r,hasR c r
  ·obtain⟨r,hr⟩:=eR
   obtain⟨t,Q,kr⟩:=zcg.1 (hR r hr);refine fin (t-1) Q (fun l' hl'=>absurd ⟨l',hl'⟩ eL) (fun r' hr'=>?_);rw[h2 _ _ hr' hr,kr.toNr];exact zn6 (by omega)
  ·exact fin 0 0 (fun l' hl'=>absurd ⟨l',hl'⟩ eL) (fun r' hr'=>absurd ⟨r',hr'⟩ eR)
theorem zys {c:Nat}(h:isNB c=true)(hL:∀l,¬hasL c l)(hR:∀r,¬hasR c r):IsVal c 0 0:=by
 obtain⟨t,p,k⟩:=zcg.1 h;have hk:=k;obtain⟨hr,e⟩:=hk;cases p with
 | zero =>
  rw[ze6]at e;by_cases h0:t=0
  ·subst h0;exact k
  ·by_cases hp:0<t
   ·exact absurd (by rw[e];exact zst hp) (hL _)
   ·exact absurd (by rw[e];exact zss (by omega)) (hR _)
 | succ p =>
  have ho:t%2≠0:=hr.resolve_left (by omega);exact absurd (by rw[k.toNr];exact zn5 ho) (hL _)
theorem zrs {c l:Nat}(h:isNB c=true)(hl:hasL c l)(hR:∀r,¬hasR c r):∃k:Int,0<k/\IsVal c k 0/\IsVal l (k-1) 0:=by
 obtain⟨t,p,k⟩:=zcg.1 h;have hk:=k;obtain⟨hr,e⟩:=hk;cases p with
 | zero =>
  rw[ze6]at e;rw[e]at hl;obtain⟨h1,h2⟩:=ze7 hl;exact⟨t,h1,k,.inl rfl,h2⟩
 | succ p =>
  have ho:t%2≠0:=hr.resolve_left (by omega);exact absurd (by rw[k.toNr];exact zpr ho) (hR _)
theorem znv {c r:Nat}(h:isNB c=true)(hr:hasR c r)(hL:∀l,¬hasL c l):∃k:Int,k<0/\IsVal c k 0/\IsVal r (k+1) 0:=by
 obtain⟨t,p,k⟩:=zcg.1 h;have hk:=k;obtain⟨hd,e⟩:=hk;cases p with
 | zero =>
  rw[ze6]at e;rw[e]at hr;obtain⟨h1,h2⟩:=zd8 hr;exact⟨t,h1,k,.inl rfl,h2⟩
 | succ p =>
  have ho:t%2≠0:=hd.resolve_left (by omega);exact absurd (by rw[k.toNr];exact zn5 ho) (hL _)
theorem zrt {c l r:Nat}(h:isNB c=true)(hl:hasL c l)(hr:hasR c r):∃(t:Int) (p:Nat),IsVal c t p/\0<p/\t%2≠0/\IsVal l (redT (t-1) p).1 (redT (t-1) p).2/\IsVal r (redT (t+1) p).1 (redT (t+1) p).2:=by
 obtain⟨t,p,k⟩:=zcg.1 h;have hk:=k;obtain⟨hd,e⟩:=hk;cases p with
 | zero =>
  rw[ze6]at e;rw[e]at hl hr;have a:=ze7 hl;have b:=zd8 hr;omega
 | succ p =>
  have ho:t%2≠0:=hd.resolve_left (by omega);refine⟨t,p+1,k,by omega,ho,?_,?_⟩
  ·rw[k.toNr]at hl
   rw[(zsc _ _).1 _ _ hl (zn5 ho)];exact zx4 _ _
  ·rw[k.toNr]at hr
   rw[(zsc _ _).2 _ _ hr (zpr ho)];exact zx4 _ _
theorem zei {N:Nat}:∀(p:Nat) (x:Int),p≤N→(redT x p).1*2^(N-(redT x p).2)=x*2^(N-p):=by
 intro p;induction p with
 | zero=>intro x _;rfl
 | succ p ih =>
  intro x hp;by_cases hx:x%2=0
  ·rw[zbe hx,ih _ (by omega)]
   obtain⟨k,hk⟩:∃k,N-p=k+1:=⟨N-(p+1),by omega⟩;rw[hk,show N-(p+1)=k from by omega,Int.pow_succ,Int.mul_comm (2^k) 2,←Int.mul_assoc];congr 1
   omega
  ·rw[redT,if_neg hx]
theorem zz5 {x:Int}{N p:Nat}(h:p≤N):redT (x*2^(N-p)) N=redT x p:=by
 have:=zc0 (N-p) p x;rw[show p+(N-p)=N from by omega]at this
 exact this
theorem zuu {t:Int}{p:Nat}(hp:0<p)(ho:t%2≠0)(h1:GoodD (redT (t-1) p).1 (redT (t-1) p).2)(h2:GoodD (redT (t+1) p).1 (redT (t+1) p).2) :
  p≤17/\redT ((redT (t-1) p).1*2^(16-(redT (t-1) p).2)+(redT (t+1) p).1*2^(16-(redT (t+1) p).2)) 17=(t,p):=by
 obtain⟨q,rfl⟩:∃q,p=q+1:=⟨p-1,by omega⟩;rw[zbe (show(t-1)%2=0 by omega)]at h1 ⊢;rw[zbe (show(t+1)%2=0 by omega)]at h2 ⊢;by_cases hq:q≤16
 ·refine⟨by omega,?_⟩
  rw[zei q _ hq,zei q _ hq,←Int.add_mul,show(t-1)/2+(t+1)/2=t from by omega];have:=zz5 (x:=t) (N:=17) (p:=q+1) (by omega);rw[show 17-(q+1)=16-q from by omega]at this
  rw[this,zcx (.inr ho)]
 ·have h3:=h1.2.1
  have h4:=h2.2.1;exfalso
  by_cases he:(t-1)/2%2=0
  ·rw[zcx (t:=(t+1)/2) (.inr (by omega))]at h4
   have:((q:Nat):Int)≤16:=h4.2;omega
  ·rw[zcx (t:=(t-1)/2) (.inr he)]at h3
   have:((q:Nat):Int)≤16:=h3.2;omega
theorem zut {t:Int}{p:Nat}(hp:0<p)(ho:t%2≠0)(h:GoodD t p):GoodD (redT (t-1) p).1 (redT (t-1) p).2/\GoodD (redT (t+1) p).1 (redT (t+1) p).2:=by
 obtain⟨a,b,c⟩:=h;exact⟨(zh9 (.inr ho) (by omega) hp (by omega) _ (.inl rfl)).1,(zh9 (.inr ho) (by omega) hp (by omega) _ (.inr rfl)).1⟩
theorem zvy {G:Nat}(hG:¬IsNum G)(P:Nat):∃(u:Int) (l:Nat),hasL G l/\geC l (nr u P)=true/\geC (nr (u+1) P) G=true:=by
 have key:∀(k:Nat) (u:Int),(G:Int)*2^P≤u+k→(∃l,hasL G l/\geC l (nr u P)=true)→∃(u:Int) (l:Nat),hasL G l/\geC l (nr u P)=true/\geC (nr (u+1) P) G=true:=by
  intro k;induction k with
  | zero =>
   rintro u hu ⟨l,hl,e⟩;have h1:geC (nr u P) (nr ((G:Int)*2^P) P)=true:=zke (by omega);rw[zii,znf]at h1;have:=zaf (zaf e h1) (zof G G (Nat.le_refl _));rw[zc3 hl]at this;cases this
  | succ k ih =>
   rintro u hu ⟨l,hl,e⟩;rcases zsa hG P (u+1)with h|h
   ·exact ih (u+1) (by omega) h
   ·exact⟨u,l,hl,e,h⟩
 obtain⟨hi,hhi⟩:∃hi:Int,hi=(G:Int)*2^P:=⟨_,rfl⟩;obtain⟨lo,hlo⟩:∃lo:Int,lo=-(G:Int)*2^P-1:=⟨_,rfl⟩;refine key (hi-lo).toNat lo (by omega) ((zsa hG P lo).resolve_right fun h=>?_);have h1:=zaf h (zoe G G (Nat.le_refl _));rw[←zkp,←zii (-(G:Int)) P]at h1;have:=zik h1;omega
theorem zvx {G:Nat}(hG:¬IsNum G)(P:Nat):∃(u:Int) (r:Nat),hasR G r/\geC (nr u P) r=true/\geC G (nr (u-1) P)=true:=by
 have key:∀(k:Nat) (u:Int),u-k≤-(G:Int)*2^P→(∃r,hasR G r/\geC (nr u P) r=true)→∃(u:Int) (r:Nat),hasR G r/\geC (nr u P) r=true/\geC G (nr (u-1) P)=true:=by
  intro k;induction k with
  | zero =>
   rintro u hu ⟨l,hl,e⟩;have h1:geC (nr (-(G:Int)*2^P) P) (nr u P)=true:=zke (by omega);rw[zii,zkp]at h1;have:=zaf (zoe G G (Nat.le_refl _)) (zaf h1 e);rw[zbk hl]at this;cases this
  | succ k ih =>
   rintro u hu ⟨l,hl,e⟩;rcases zs9 hG P (u-1)with h|h
   ·exact ih (u-1) (by omega) h
   ·exact⟨u,l,hl,e,h⟩
 obtain⟨hi,hhi⟩:∃hi:Int,hi=(G:Int)*2^P+1:=⟨_,rfl⟩;obtain⟨lo,hlo⟩:∃lo:Int,lo=-(G:Int)*2^P:=⟨_,rfl⟩;refine key (hi-lo).toNat hi (by omega) ((zs9 hG P hi).resolve_right fun h=>?_);have h1:=zaf (zof G G (Nat.le_refl _)) h;rw[←znf,←zii (G:Int) P]at h1;have:=zik h1;omega
end Go.Proofs.YtknniemfpkjnbaaGreatDoor
