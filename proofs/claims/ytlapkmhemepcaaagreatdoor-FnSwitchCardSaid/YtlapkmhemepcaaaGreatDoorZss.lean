import Derived.Test.YtlapkmhemepcaaaGreatDoorZs2
/- Lemmas. -/
set_option linter.all false
namespace Go.Proofs.YtlapkmhemepcaaaGreatDoor
open Go.RowKit
theorem zpf (s:Int)(P:Nat):nr (2*s) (P+1)=nr s P:=by rw[zcm (by omega),show 2*s/2=s from by omega]
theorem zdc (s:Int)(P k:Nat):nr (s*2^k) (P+k)=nr s P:=by unfold nr;rw[zc6]
theorem zef {s:Int}{l:Nat}(h:hasL (intC s) l):0<s/\l=intC (s-1):=by by_cases h0:s=0;{subst h0;exact absurd h (yec l)};{by_cases hp:0<s;{rw[zhn hp,zag]at h;exact⟨hp,x4.1 h⟩};{rw[zhp (by omega),zag]at h;simp at h}}
theorem zdf {s:Int}{r:Nat}(h:hasR (intC s) r):s<0/\r=intC (s+1):=by by_cases h0:s=0;{subst h0;exact absurd h (yeb r)};{by_cases hp:0<s;{rw[zhn hp,zaf]at h;simp at h};{rw[zhp (by omega),zaf]at h;exact⟨by omega,x4.1 h⟩}}
theorem zu1 {s:Int}(h:0<s):hasL (intC s) (intC (s-1)):=by rw[zhn h,zag];simp
theorem zu0 {s:Int}(h:s<0):hasR (intC s) (intC (s+1)):=by rw[zhp h,zaf];simp
theorem zfc:∀(P:Nat) (s:Int) (l:Nat),hasL (nr s P) l->∃v,v<s/\l=nr v P:=by intro P;induction P with| zero =>{intro s l h;rw[zf1]at h;obtain⟨_,e⟩:=zef h;exact⟨s-1,by omega,by rw[zf1];exact e⟩}| succ P ih =>{intro s l h;by_cases he:s%2=0;{rw[zcm he]at h;obtain⟨v,hv,e⟩:=ih _ _ h;exact⟨2*v,by omega,by rw[zpf];exact e⟩};{rw[zhd he,zag]at h;exact⟨s-1,by omega,by rw[zcm (by omega)];exact x4.1 h⟩}}
theorem zds:∀(P:Nat) (s:Int) (r:Nat),hasR (nr s P) r->∃v,s<v/\r=nr v P:=by intro P;induction P with| zero =>{intro s l h;rw[zf1]at h;obtain⟨_,e⟩:=zdf h;exact⟨s+1,by omega,by rw[zf1];exact e⟩}| succ P ih =>{intro s l h;by_cases he:s%2=0;{rw[zcm he]at h;obtain⟨v,hv,e⟩:=ih _ _ h;exact⟨2*v,by omega,by rw[zpf];exact e⟩};{rw[zhd he,zaf]at h;exact⟨s+1,by omega,by rw[zcm (by omega)];exact x4.1 h⟩}}
theorem zny {s:Int}{P:Nat}(h:s%2≠0):hasL (nr s (P+1)) (nr (s-1) (P+1)):=by rw[zhd h,zag,zcm (by omega)];simp
theorem zru {s:Int}{P:Nat}(h:s%2≠0):hasR (nr s (P+1)) (nr (s+1) (P+1)):=by rw[zhd h,zaf,zcm (by omega)];simp
theorem zv5:∀(P:Nat) (s t:Int),s<t->(∃v,s<=v/\v<t/\hasL (nr t P) (nr v P))\/∃v,s<v/\v<=t/\hasR (nr s P) (nr v P):=by intro P;induction P with| zero =>{intro s t h;by_cases ht:0<t;{exact .inl ⟨t-1,by omega,by omega,by rw[zf1,zf1];exact zu1 ht⟩};{exact .inr ⟨s+1,by omega,by omega,by rw[zf1,zf1];exact zu0 (by omega)⟩}}| succ P ih =>{intro s t h;by_cases ht:t%2=0;{by_cases hs:s%2=0;{rw[zcm ht,zcm hs];rcases ih (s/2) (t/2) (by omega)with ⟨v,h1,h2,h3⟩|⟨v,h1,h2,h3⟩;{exact .inl ⟨2*v,by omega,by omega,by rw[zpf];exact h3⟩};{exact .inr ⟨2*v,by omega,by omega,by rw[zpf];exact h3⟩}};{exact .inr ⟨s+1,by omega,by omega,zru hs⟩}};{exact .inl ⟨t-1,by omega,by omega,zny ht⟩}}
theorem nr_ge' (P n:Nat):∀s t:Int,nr s P+nr t P<n->(t<=s->geC (nr s P) (nr t P)=true)/\(s<t->geC (nr s P) (nr t P)=false):=by induction n with| zero=>{intro s t h;omega}| succ n ih =>{intro s t hn;refine⟨λh=>zcp (λr hr=>?_) λl hl=>?_,λh=>?_⟩;{have hlt:=zah (.inr hr);obtain⟨v,hv,rfl⟩:=zds _ _ _ hr;exact(ih t v (by omega)).2 (by omega)};{have hlt:=zah (.inl hl);obtain⟨v,hv,rfl⟩:=zfc _ _ _ hl;exact(ih v s (by omega)).2 (by omega)};{cases e:geC (nr s P) (nr t P)with| false=>rfl| true =>{rcases zv5 P s t h with ⟨v,h1,h2,h3⟩|⟨v,h1,h2,h3⟩;{have hlt:=zah (.inl h3);have:=(ih v s (by omega)).1 h1;rw[zfz e h3]at this;cases this};{have hlt:=zah (.inr h3);have:=(ih t v (by omega)).1 h2;rw[zeg e h3]at this;cases this}}}}
theorem zhe {s t:Int}{P:Nat}(h:t<=s):geC (nr s P) (nr t P)=true:=(nr_ge' P _ s t (kZ _)).1 h
theorem znz {s t:Int}{P:Nat}(h:s<t):geC (nr s P) (nr t P)=false:=(nr_ge' P _ s t (kZ _)).2 h
theorem zkb {s t:Int}{P:Nat}(h:geC (nr s P) (nr t P)=true):t<=s:=by refine Int.not_lt.1 λq=>?_;rw[znz q]at h;cases h
def EqC (a b:Nat):Prop:=geC a b=true/\geC b a=true
theorem EqC.symm {a b:Nat}(h:EqC a b):EqC b a:=⟨h.2,h.1⟩
theorem EqC.trans {a b c:Nat}(h:EqC a b)(h':EqC b c):EqC a c:=⟨zae h.1 h'.1,zae h'.2 h.2⟩
theorem ydx (a:Nat):EqC (canC a) a:=⟨(zi0 a).2.1,(zi0 a).2.2⟩
theorem zzh (s:Int)(P:Nat):CanC1 (nr s P):=by have uniq:∀(P:Nat) (s:Int),(∀l l',hasL (nr s P) l->hasL (nr s P) l'->l=l')/\∀l l',hasR (nr s P) l->hasR (nr s P) l'->l=l':=by{intro P;induction P with| zero =>{intro s;rw[zf1];exact⟨λl l' h h'=>by rw[(zef h).2,(zef h').2],λl l' h h'=>by rw[(zdf h).2,(zdf h').2]⟩}| succ P ih =>{intro s;by_cases he:s%2=0;{rw[zcm he];exact ih _};{rw[zhd he];refine⟨λl l' h h'=>?_,λl l' h h'=>?_⟩;{rw[zag]at h h';rw[x4.1 h,x4.1 h']};{rw[zaf]at h h';rw[x4.1 h,x4.1 h']}}}};have rev:∀(P:Nat) (s:Int),(∀l r,hasL (nr s P) l->hasR l r->geC (nr s P) r=false)/\∀r l,hasR (nr s P) r->hasL r l->geC l (nr s P)=false:=by{intro P;induction P with| zero =>{intro s;rw[zf1];refine⟨λl r h h'=>?_,λl r h h'=>?_⟩;{obtain⟨h1,rfl⟩:=zef h;have:=(zdf h').1;omega};{obtain⟨h1,rfl⟩:=zdf h;have:=(zef h').1;omega}}| succ P ih =>{intro s;by_cases he:s%2=0;{rw[zcm he];exact ih _};{refine⟨λl r h h'=>?_,λl r h h'=>?_⟩;{rw[zhd he,zag]at h;rw[x4.1 h]at h';obtain⟨v,hv,rfl⟩:=zds _ _ _ h';rw[<-zpf v P];exact znz (by omega)};{rw[zhd he,zaf]at h;rw[x4.1 h]at h';obtain⟨v,hv,rfl⟩:=zfc _ _ _ h';rw[<-zpf v P];exact znz (by omega)}}}};exact⟨λl l' h h' _=>(uniq P s).1 _ _ h' h,λl l' h h' _=>(uniq P s).2 _ _ h' h,(rev P s).1,(rev P s).2⟩
theorem ztf (s:Int)(P:Nat):(∀l l',hasL (nr s P) l->hasL (nr s P) l'->l=l')/\∀l l',hasR (nr s P) l->hasR (nr s P) l'->l=l':=by have h:=zzh s P;refine⟨λl l' a b=>?_,λl l' a b=>?_⟩;{obtain⟨v,_,rfl⟩:=zfc _ _ _ a;obtain⟨v',_,rfl⟩:=zfc _ _ _ b;by_cases e:v'<=v;{exact h.domL _ _ b a (zhe e)};{exact(h.domL _ _ a b (zhe (by omega))).symm}};{obtain⟨v,_,rfl⟩:=zds _ _ _ a;obtain⟨v',_,rfl⟩:=zds _ _ _ b;by_cases e:v<=v';{exact h.domR _ _ b a (zhe e)};{exact(h.domR _ _ a b (zhe (by omega))).symm}}
theorem yek {s:Int}{P x:Nat}(h:SubC (nr s P) x):∃v,x=nr v P:=by induction h with| root=>exact⟨s,rfl⟩| step _ ho ih =>{obtain⟨v,rfl⟩:=ih;rcases ho with h|h;{obtain⟨u,_,e⟩:=zfc _ _ _ h;exact⟨u,e⟩};{obtain⟨u,_,e⟩:=zds _ _ _ h;exact⟨u,e⟩}}
theorem ycv (s:Int)(P:Nat):CanC (nr s P):=λx hx=>by obtain⟨v,rfl⟩:=yek hx;exact zzh v P
def IsNum (G:Nat):Prop:=∃(P:Nat) (s:Int),EqC G (nr s P)
theorem IsNum.of {a b:Nat}(h:IsNum a)(e:EqC a b):IsNum b:=by obtain⟨P,s,k⟩:=h;exact⟨P,s,e.symm.trans k⟩
theorem IsNum.can {c:Nat}(h:IsNum c)(hc:CanC c):∃(P:Nat) (s:Int),c=nr s P:=by obtain⟨P,s,k⟩:=h;exact⟨P,s,zsh hc (ycv s P) k.1 k.2⟩
theorem zrs (P:Nat){G:Nat}:∀(n:Nat) (s:Int),nr s P<n->(∀l,hasL G l->geC l (nr s P)=false)->(∀r,hasR G r->geC (nr s P) r=false)->IsNum G:=by intro n;induction n with| zero=>{intro s h;omega}| succ n ih =>{intro s hn hl hr;cases h1:geC (nr s P) G with| false =>{rcases zgy h1 with ⟨r,h,e⟩|⟨l,h,e⟩;{have hlt:=zah (.inr h);obtain⟨v,hv,rfl⟩:=zds _ _ _ h;refine ih v (by omega) (λl h'=>?_) λr h'=>?_;{cases q:geC l (nr v P)with| false=>rfl| true =>{have:=zae q (zhe (s:=v) (t:=s) (P:=P) (by omega));rw[hl l h']at this;cases this}};{cases q:geC (nr v P) r with| false=>rfl| true =>{have:=zae e q;rw[zbe h']at this;cases this}}};{rw[hl l h]at e;cases e}}| true =>{cases h2:geC G (nr s P)with| true=>exact⟨P,s,h2,h1⟩| false =>{rcases zgy h2 with ⟨r,h,e⟩|⟨l,h,e⟩;{rw[hr r h]at e;cases e};{have hlt:=zah (.inl h);obtain⟨v,hv,rfl⟩:=zfc _ _ _ h;refine ih v (by omega) (λl h'=>?_) λr h'=>?_;{cases q:geC l (nr v P)with| false=>rfl| true =>{have:=zae q e;rw[zbz h']at this;cases this}};{cases q:geC (nr v P) r with| false=>rfl| true =>{have:=zae (zhe (s:=s) (t:=v) (P:=P) (by omega)) q;rw[hr r h']at this;cases this}}}}}}
theorem ztd {G:Nat}(hG:¬IsNum G)(P:Nat)(s:Int):(∃l,hasL G l/\geC l (nr s P)=true)\/geC (nr s P) G=true:=by
 by_cases h:∃l,hasL G l/\geC l (nr s P)=true
 ·exact .inl h
 ·have hl:∀l,hasL G l->geC l (nr s P)=false:=λl hl=>by
   cases q:geC l (nr s P)with
   | false=>rfl
   | true=>exact absurd ⟨l,hl,q⟩ h
  refine .inr (zcp (λx hx=>?_) hl);cases q:geC G x with
  | false=>rfl
  | true =>
   obtain⟨v,hv,rfl⟩:=zds _ _ _ hx;refine absurd (zrs P _ s (kZ _) hl λr hr=>?_) hG;cases q':geC (nr s P) r with
   | false=>rfl
   | true =>
    have:=zae (zae q (zhe (s:=v) (t:=s) (P:=P) (by omega))) q';rw[zbe hr]at this;cases this
theorem ztc {G:Nat}(hG:¬IsNum G)(P:Nat)(s:Int):(∃r,hasR G r/\geC (nr s P) r=true)\/geC G (nr s P)=true:=by
 by_cases h:∃r,hasR G r/\geC (nr s P) r=true
 ·exact .inl h
 ·have hr:∀r,hasR G r->geC (nr s P) r=false:=λl hl=>by
   cases q:geC (nr s P) l with
   | false=>rfl
   | true=>exact absurd ⟨l,hl,q⟩ h
  refine .inr (zcp hr (λx hx=>?_));cases q:geC x G with
  | false=>rfl
  | true =>
   obtain⟨v,hv,rfl⟩:=zfc _ _ _ hx;refine absurd (zrs P _ s (kZ _) (λl hl=>?_) hr) hG;cases q':geC l (nr s P)with
   | false=>rfl
   | true =>
    have:=zae q' (zae (zhe (s:=s) (t:=v) (P:=P) (by omega)) q);rw[zbz hl]at this;cases this
theorem zpd (G:Nat):∀m:Nat,G<=m->geC (posC m) G=true:=by induction G using Nat.strongRecOn with| _ G ih =>{intro m hm;refine zcp (λr hr=>?_) λl hl=>?_;{rw[<-zhq]at hr;have:=(zdf hr).1;omega};{have hlt:=zah (.inl hl);obtain⟨k,rfl⟩:∃k,m=k+1:=⟨m-1,by omega⟩;exact zb3 (ih l hlt k (by omega)) (zbz (show hasL (mkC [posC k] []) (posC k)from by rw[zag];simp))}}
theorem zpb (G:Nat):∀m:Nat,G<=m->geC G (zfu m)=true:=by induction G using Nat.strongRecOn with| _ G ih =>{intro m hm;refine zcp (λr hr=>?_) λl hl=>?_;{have hlt:=zah (.inr hr);obtain⟨k,rfl⟩:∃k,m=k+1:=⟨m-1,by omega⟩;exact zb5 (ih r hlt k (by omega)) (zbe (show hasR (mkC [] [zfu k]) (zfu k)from by rw[zaf];simp))};{rw[<-zfy]at hl;have:=(zef hl).1;omega}}
theorem zka (m:Int)(P:Nat):nr (m*2^P) P=intC m:=by have h:=zdc m 0 P;rw[Nat.zero_add]at h;rw[h,zf1]
section
variable {s:Int}{P:Nat}(hs:0<s)
include hs
end
def IsVal (c:Nat)(t:Int)(p:Nat):Prop:=Red t p/\c=numC t p
theorem IsVal.toNr {c:Nat}{t:Int}{p:Nat}(h:IsVal c t p):c=nr t p:=by rw[zyf h.1];exact h.2
theorem zye (s:Int)(P:Nat):IsVal (nr s P) (redT s P).1 (redT s P).2:=⟨zdn _ _,rfl⟩
theorem yem {s t:Int}{P:Nat}(h:nr s P=nr t P):s=t:=by have h1:=zkb (show geC (nr s P) (nr t P)=true by rw[h];exact zbv _);have h2:=zkb (show geC (nr t P) (nr s P)=true by rw[h];exact zbv _);omega
theorem IsVal.one {c:Nat}{t s:Int}{p q:Nat}(h:IsVal c t p)(k:IsVal c s q):t=s/\p=q:=by
 have e1:nr (t*2^q) (p+q)=c:=by rw[zdc];exact h.toNr.symm
 have e2:nr (s*2^p) (p+q)=c:=by rw[Nat.add_comm,zdc];exact k.toNr.symm
 have e:=yem (e1.trans e2.symm);have a:=zc6 q p t;rw[e,Nat.add_comm,zc6,zd0 k.1,zd0 h.1]at a;have a1:=congrArg Prod.fst a;have a2:=congrArg Prod.snd a;exact⟨a1.symm,a2.symm⟩
open Classical in
noncomputable def isNB (c:Nat):Bool:=decide (∃t p,IsVal c t p)
open Classical in
noncomputable def valT (c:Nat):Int × Nat:=if h:∃d:Int × Nat,IsVal c d.1 d.2 then Classical.choose h else (0,0)
open Classical in
theorem zcn {c:Nat}:isNB c=true↔∃t p,IsVal c t p:=by unfold isNB;rw[decide_eq_true_iff]
theorem IsVal.is {c:Nat}{t:Int}{p:Nat}(h:IsVal c t p):isNB c=true:=zcn.2 ⟨t,p,h⟩
theorem IsVal.val {c:Nat}{t:Int}{p:Nat}(h:IsVal c t p):valT c=(t,p):=by have hx:∃d:Int × Nat,IsVal c d.1 d.2:=⟨(t,p),h⟩;unfold valT;rw[dif_pos hx];obtain⟨a,b⟩:=(Classical.choose_spec hx).one h;exact Prod.ext a b
theorem zm7 {c:Nat}(h:isNB c=true):IsVal c (valT c).1 (valT c).2:=by obtain⟨t,p,k⟩:=zcn.1 h;rw[k.val];exact k
theorem ztz (s:Int)(P:Nat):isNB (nr s P)=true:=(zye s P).is
open Classical in
noncomputable def valB (c:Nat):Bool:=isNB c && decide (GoodD (valT c).1 (valT c).2)
noncomputable def valD (c:Nat):Int × Nat:=if valB c=true then valT c else (0,0)
open Classical in
theorem IsVal.good {c:Nat}{t:Int}{p:Nat}(h:IsVal c t p):valB c=true↔GoodD t p:=by unfold valB;rw[h.is,h.val,Bool.true_and,decide_eq_true_iff]
theorem zcc {c:Nat}(h:valB c=true):isNB c=true:=by unfold valB at h;exact(Bool.and_eq_true_iff.1 h).1
theorem zby {c:Nat}(h:valB c=true):IsVal c (valD c).1 (valD c).2/\GoodD (valD c).1 (valD c).2:=by have h1:=zm7 (zcc h);unfold valD;rw[if_pos h];exact⟨h1,h1.good.1 h⟩
theorem IsVal.goodD {c:Nat}{t:Int}{p:Nat}(h:IsVal c t p)(hg:GoodD t p):valB c=true/\valD c=(t,p):=by have h1:=h.good.2 hg;refine⟨h1,?_⟩;unfold valD;rw[if_pos h1,h.val]
theorem zcz {c:Nat}(h:valB c=false):valD c=(0,0):=by unfold valD;rw[h];rfl
theorem yb5 {c l l':Nat}(h:isNB c=true)(a:hasL c l)(b:hasL c l'):l=l':=by obtain⟨t,p,k⟩:=zcn.1 h;rw[k.toNr]at a b;exact(ztf _ _).1 _ _ a b
theorem yb4 {c l l':Nat}(h:isNB c=true)(a:hasR c l)(b:hasR c l'):l=l':=by obtain⟨t,p,k⟩:=zcn.1 h;rw[k.toNr]at a b;exact(ztf _ _).2 _ _ a b
theorem zta {c l:Nat}(h:isNB c=true)(a:hasL c l):isNB l=true:=by obtain⟨t,p,k⟩:=zcn.1 h;rw[k.toNr]at a;obtain⟨v,_,rfl⟩:=zfc _ _ _ a;exact ztz _ _
theorem zt9 {c l:Nat}(h:isNB c=true)(a:hasR c l):isNB l=true:=by obtain⟨t,p,k⟩:=zcn.1 h;rw[k.toNr]at a;obtain⟨v,_,rfl⟩:=zds _ _ _ a;exact ztz _ _
theorem zpc {c l r:Nat}(h:isNB c=true)(a:hasL c l)(b:hasR c r):geC l r=false:=by obtain⟨t,p,k⟩:=zcn.1 h;rw[k.toNr]at a b;obtain⟨v,hv,rfl⟩:=zfc _ _ _ a;obtain⟨u,hu,rfl⟩:=zds _ _ _ b;exact znz (by omega)
theorem yb6 {c:Nat}(hc:CanC c)(h1:∀l l',hasL c l->hasL c l'->l=l')(h2:∀r r',hasR c r->hasR c r'->r=r')(hL:∀l,hasL c l->isNB l=true)(hR:∀r,hasR c r->isNB r=true) (ha:∀l r,hasL c l->hasR c r->geC l r=false):isNB c=true:=by have fin:∀(s:Int) (P:Nat),(∀l,hasL c l->geC l (nr s P)=false)->(∀r,hasR c r->geC (nr s P) r=false)->isNB c=true:=λs P a b=>by{obtain⟨Q,u,e⟩:=(zrs P _ s (kZ _) a b).can hc;rw[e];exact ztz _ _};by_cases eL:∃l,hasL c l;{obtain⟨l,hl⟩:=eL;obtain⟨s,P,kl⟩:=zcn.1 (hL l hl);by_cases eR:∃r,hasR c r;{obtain⟨r,hr⟩:=eR;(obtain⟨t,Q,kr⟩:=zcn.1 (hR r hr);have e1:l=nr (2*(s*2^Q)) (P+Q+1):=by rw[zpf,zdc];exact kl.toNr);(have e2:r=nr (2*(t*2^P)) (P+Q+1):=by rw[zpf,Nat.add_comm,zdc];exact kr.toNr);have hlt:s*2^Q<t*2^P:=by{have h:=ha l r hl hr;rw[e1,e2]at h;refine Int.not_le.1 λq=>?_;rw[zhe (show 2*(t*2^P)<=2*(s*2^Q)by omega)]at h;cases h};refine fin (2*(s*2^Q)+1) (P+Q+1) (λl' hl'=>?_) (λr' hr'=>?_);{rw[h1 _ _ hl' hl,e1];exact znz (by omega)};{rw[h2 _ _ hr' hr,e2];exact znz (by omega)}};{refine fin (s+1) P (λl' hl'=>?_) (λr' hr'=>absurd ⟨r',hr'⟩ eR);rw[h1 _ _ hl' hl,kl.toNr];exact znz (by omega)}};{by_cases eR:∃r,hasR c r;{obtain⟨r,hr⟩:=eR;obtain⟨t,Q,kr⟩:=zcn.1 (hR r hr);refine fin (t-1) Q (λl' hl'=>absurd ⟨l',hl'⟩ eL) (λr' hr'=>?_);rw[h2 _ _ hr' hr,kr.toNr];exact znz (by omega)};{exact fin 0 0 (λl' hl'=>absurd ⟨l',hl'⟩ eL) (λr' hr'=>absurd ⟨r',hr'⟩ eR)}}
theorem ya8 {c:Nat}(h:isNB c=true)(hL:∀l,¬hasL c l)(hR:∀r,¬hasR c r):IsVal c 0 0:=by obtain⟨t,p,k⟩:=zcn.1 h;have hk:=k;obtain⟨hr,e⟩:=hk;cases p with| zero =>{rw[zee]at e;by_cases h0:t=0;{subst h0;exact k};{by_cases hp:0<t;{exact absurd (by rw[e];exact zu1 hp) (hL _)};{exact absurd (by rw[e];exact zu0 (by omega)) (hR _)}}}| succ p =>{have ho:t%2≠0:=hr.resolve_left (by omega);exact absurd (by rw[k.toNr];exact zny ho) (hL _)}
theorem zss {c l:Nat}(h:isNB c=true)(hl:hasL c l)(hR:∀r,¬hasR c r):∃k:Int,0<k/\IsVal c k 0/\IsVal l (k-1) 0:=by obtain⟨t,p,k⟩:=zcn.1 h;have hk:=k;obtain⟨hr,e⟩:=hk;cases p with| zero =>{rw[zee]at e;rw[e]at hl;obtain⟨h1,h2⟩:=zef hl;exact⟨t,h1,k,.inl rfl,h2⟩}| succ p =>{have ho:t%2≠0:=hr.resolve_left (by omega);exact absurd (by rw[k.toNr];exact zru ho) (hR _)}
theorem zon {c r:Nat}(h:isNB c=true)(hr:hasR c r)(hL:∀l,¬hasL c l):∃k:Int,k<0/\IsVal c k 0/\IsVal r (k+1) 0:=by obtain⟨t,p,k⟩:=zcn.1 h;have hk:=k;obtain⟨hd,e⟩:=hk;cases p with| zero =>{rw[zee]at e;rw[e]at hr;obtain⟨h1,h2⟩:=zdf hr;exact⟨t,h1,k,.inl rfl,h2⟩}| succ p =>{have ho:t%2≠0:=hd.resolve_left (by omega);exact absurd (by rw[k.toNr];exact zny ho) (hL _)}
theorem zst {c l r:Nat}(h:isNB c=true)(hl:hasL c l)(hr:hasR c r):∃(t:Int) (p:Nat),IsVal c t p/\0<p/\t%2≠0/\IsVal l (redT (t-1) p).1 (redT (t-1) p).2/\IsVal r (redT (t+1) p).1 (redT (t+1) p).2:=by obtain⟨t,p,k⟩:=zcn.1 h;have hk:=k;obtain⟨hd,e⟩:=hk;cases p with| zero =>{rw[zee]at e;rw[e]at hl hr;have a:=zef hl;have b:=zdf hr;omega}| succ p =>{have ho:t%2≠0:=hd.resolve_left (by omega);refine⟨t,p+1,k,by omega,ho,?_,?_⟩;{rw[k.toNr]at hl;rw[(ztf _ _).1 _ _ hl (zny ho)];exact zye _ _};{rw[k.toNr]at hr;rw[(ztf _ _).2 _ _ hr (zru ho)];exact zye _ _}}
theorem zex {N:Nat}:∀(p:Nat) (x:Int),p<=N->(redT x p).1*2^(N-(redT x p).2)=x*2^(N-p):=by intro p;induction p with| zero=>{intro x _;rfl}| succ p ih =>{intro x hp;by_cases hx:x%2=0;{rw[zbc hx,ih _ (by omega)];obtain⟨k,hk⟩:∃k,N-p=k+1:=⟨N-(p+1),by omega⟩;rw[hk,show N-(p+1)=k from by omega,Int.pow_succ,Int.mul_comm (2^k) 2,<-Int.mul_assoc];congr 1;omega};{rw[redT,if_neg hx]}}
theorem yam {x:Int}{N p:Nat}(h:p<=N):redT (x*2^(N-p)) N=redT x p:=by have:=zc6 (N-p) p x;rw[show p+(N-p)=N from by omega]at this;exact this
theorem zvz {t:Int}{p:Nat}(hp:0<p)(ho:t%2≠0)(h1:GoodD (redT (t-1) p).1 (redT (t-1) p).2)(h2:GoodD (redT (t+1) p).1 (redT (t+1) p).2) : p<=17/\redT ((redT (t-1) p).1*2^(16-(redT (t-1) p).2)+(redT (t+1) p).1*2^(16-(redT (t+1) p).2)) 17=(t,p):=by obtain⟨q,rfl⟩:∃q,p=q+1:=⟨p-1,by omega⟩;rw[zbc (show(t-1)%2=0 by omega)]at h1 ⊢;rw[zbc (show(t+1)%2=0 by omega)]at h2 ⊢;by_cases hq:q<=16;{refine⟨by omega,?_⟩;rw[zex q _ hq,zex q _ hq,<-Int.add_mul,show(t-1)/2+(t+1)/2=t from by omega];have:=yam (x:=t) (N:=17) (p:=q+1) (by omega);rw[show 17-(q+1)=16-q from by omega]at this;rw[this,zd0 (.inr ho)]};{have h3:=h1.2.1;have h4:=h2.2.1;exfalso;by_cases he:(t-1)/2%2=0;{rw[zd0 (t:=(t+1)/2) (.inr (by omega))]at h4;have:((q:Nat):Int)<=16:=h4.2;omega};{rw[zd0 (t:=(t-1)/2) (.inr he)]at h3;have:((q:Nat):Int)<=16:=h3.2;omega}}
theorem zvy {t:Int}{p:Nat}(hp:0<p)(ho:t%2≠0)(h:GoodD t p):GoodD (redT (t-1) p).1 (redT (t-1) p).2/\GoodD (redT (t+1) p).1 (redT (t+1) p).2:=by obtain⟨a,b,c⟩:=h;exact⟨(zf4 (.inr ho) (by omega) hp (by omega) _ (.inl rfl)).1,(zf4 (.inr ho) (by omega) hp (by omega) _ (.inr rfl)).1⟩
theorem zyb {G:Nat}(hG:¬IsNum G)(P:Nat):∃(u:Int) (l:Nat),hasL G l/\geC l (nr u P)=true/\geC (nr (u+1) P) G=true:=by have key:∀(k:Nat) (u:Int),(G:Int)*2^P<=u+k->(∃l,hasL G l/\geC l (nr u P)=true)->∃(u:Int) (l:Nat),hasL G l/\geC l (nr u P)=true/\geC (nr (u+1) P) G=true:=by{intro k;induction k with| zero =>{rintro u hu ⟨l,hl,e⟩;have h1:geC (nr u P) (nr ((G:Int)*2^P) P)=true:=zhe (by omega);rw[zka,zhq]at h1;have:=zae (zae e h1) (zpd G G (xW _));rw[zbz hl]at this;cases this}| succ k ih =>{rintro u hu ⟨l,hl,e⟩;rcases ztd hG P (u+1)with h|h;{exact ih (u+1) (by omega) h};{exact⟨u,l,hl,e,h⟩}}};obtain⟨hi,hhi⟩:=eX ((G:Int)*2^P:Int);obtain⟨lo,hlo⟩:=eX (-(G:Int)*2^P-1:Int);refine key (hi-lo).toNat lo (by omega) ((ztd hG P lo).resolve_right λh=>?_);have h1:=zae h (zpb G G (xW _));rw[<-zfy,<-zka (-(G:Int)) P]at h1;have:=zkb h1;omega
theorem zya {G:Nat}(hG:¬IsNum G)(P:Nat):∃(u:Int) (r:Nat),hasR G r/\geC (nr u P) r=true/\geC G (nr (u-1) P)=true:=by have key:∀(k:Nat) (u:Int),u-k<=-(G:Int)*2^P->(∃r,hasR G r/\geC (nr u P) r=true)->∃(u:Int) (r:Nat),hasR G r/\geC (nr u P) r=true/\geC G (nr (u-1) P)=true:=by{intro k;induction k with| zero =>{rintro u hu ⟨l,hl,e⟩;have h1:geC (nr (-(G:Int)*2^P) P) (nr u P)=true:=zhe (by omega);rw[zka,zfy]at h1;have:=zae (zpb G G (xW _)) (zae h1 e);rw[zbe hl]at this;cases this}| succ k ih =>{rintro u hu ⟨l,hl,e⟩;rcases ztc hG P (u-1)with h|h;{exact ih (u-1) (by omega) h};{exact⟨u,l,hl,e,h⟩}}};obtain⟨hi,hhi⟩:=eX ((G:Int)*2^P+1:Int);obtain⟨lo,hlo⟩:=eX (-(G:Int)*2^P:Int);refine key (hi-lo).toNat hi (by omega) ((ztc hG P hi).resolve_right λh=>?_);have h1:=zae (zpd G G (xW _)) h;rw[<-zhq,<-zka (G:Int) P]at h1;have:=zkb h1;omega
def FewC (c:Nat):Prop:=∀s,SubC c s->(∀A:List Nat,A.Nodup->(∀a∈A,hasL s a)->A.length<=24)/\∀A:List Nat,A.Nodup->(∀a∈A,hasR s a)->A.length<=24
theorem FewC.opt {c x:Nat}(h:FewC c)(ho:optC c x):FewC x:=λy hy=>h y ((SubC.root.step ho).trans hy)
theorem yah {c x:Nat}(h:SubC c x):x=c\/∃y,optC c y/\SubC y x:=by induction h with| root=>exact .inl rfl| step _ ho ih =>{rcases ih with rfl|⟨y,hy,hs⟩;{exact .inr ⟨_,ho,.root⟩};{exact .inr ⟨y,hy,hs.step ho⟩}}
theorem ziz {P L:List Nat}{n:Nat}(hP:P.Nodup)(hL:L.Pairwise (· < ·))(hl:∀x∈L,x<n)(hn:n<=P.length):(za3 P L).Nodup:=by unfold za3;refine List.pairwise_map.2 (hL.imp_of_mem ?_);intro a b ha hb hab e;have la:=hl a ha;have lb:=hl b hb;rw[zff (xQ (show a<P.length by omega)),zff (xQ (show b<P.length by omega))]at e;have:=(List.getElem_inj hP).1 e;omega
theorem zsc {c:Nat}(h:zap (za5 c)=true):FewC c:=by(obtain⟨P,hA⟩:=zaq c;have hPl:=hA.book.len;unfold zap at h;rw[kW]at h;intro s hs;obtain⟨j,hj,e⟩:=uK ((hA.sub s).2 hs);have hj':j<(za5 c).length:=by omega);have ej:=xQ hj';have hcode:=hA.book.code j _ ej;have e':P.getD j 0=s:=zff (by rw[xQ hj,e]);rw[e']at hcode;have hl:=h.2.2 _ (vZ hj');constructor;{intro A hN hA';have:=hN.length_le_of_subset (l₂:=za3 P (za5 c)[j].1) λz hz=>by{have h1:=hA' z hz;rw[hcode,zag]at h1;exact h1};(have e:(za3 P (za5 c)[j].1).length=(za5 c)[j].1.length:=by simp[za3]);omega};{intro A hN hA';have:=hN.length_le_of_subset (l₂:=za3 P (za5 c)[j].2) λz hz=>by{have h1:=hA' z hz;rw[hcode,zaf]at h1;exact h1};(have e:(za3 P (za5 c)[j].2).length=(za5 c)[j].2.length:=by simp[za3]);omega}
theorem zsb {c:Nat}(hl:(za5 c).length<=120)(h:FewC c):zap (za5 c)=true:=by obtain⟨P,hA⟩:=zaq c;have hPl:=hA.book.len;have hpos:=(zd1 (zaq c)).1;unfold zap;rw[kW];refine⟨hl,by omega,λy hy=>?_⟩;obtain⟨j,hj,rfl⟩:=uK hy;have ej:=xQ hj;obtain⟨o1,o2⟩:=hA.book.opts j _ ej;obtain⟨u1,u2⟩:=hA.book.up j _ ej;have hcode:=hA.book.code j _ ej;obtain⟨f1,f2⟩:=h (P.getD j 0) ((hA.sub _).1 (zc1 (show j<P.length by omega)));constructor;{have:=f1 (za3 P (za5 c)[j].1) (ziz hA.book.nodup u1 o1 (by omega)) (λa ha=>by rw[hcode];exact(zag _ _ _).2 ha);simpa [za3] using this};{have:=f2 (za3 P (za5 c)[j].2) (ziz hA.book.nodup u2 o2 (by omega)) (λa ha=>by rw[hcode];exact(zaf _ _ _).2 ha);simpa [za3] using this}
