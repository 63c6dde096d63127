import Derived.Test.YtbbbmjiloihajaaGreatDoorZeSumGe
/- What the claim of FnNumberCard needs of: NumOrd TinyLaw NumVal NumMove NumFits. -/
namespace Go.Proofs.YtbbbmjiloihajaaGreatDoor
set_option linter.unusedVariables false
set_option linter.unusedSimpArgs false
open Go.RowKit
theorem nr_up (s:Int)(P:Nat):nr (2*s) (P+1)=nr s P:=by
 rw[nr_even (by omega),show 2*s/2=s from by omega]
theorem nr_level (s:Int)(P k:Nat):nr (s*2^k) (P+k)=nr s P:=by
 unfold nr;rw[redT_scale]
theorem int_left {s:Int}{l:Nat}(h:hasL (intC s) l):0<s∧l=intC (s-1):=by
 by_cases h0:s=0
 ·subst h0;exact absurd h (zeroL l)
 ·by_cases hp:0<s
  ·rw[intC_pos hp,hasL_mk]at h
   exact⟨hp,List.mem_singleton.1 h⟩
  ·rw[intC_neg (by omega),hasL_mk]at h
   simp at h
theorem int_right {s:Int}{r:Nat}(h:hasR (intC s) r):s<0∧r=intC (s+1):=by
 by_cases h0:s=0
 ·subst h0;exact absurd h (zeroR r)
 ·by_cases hp:0<s
  ·rw[intC_pos hp,hasR_mk]at h
   simp at h
  ·rw[intC_neg (by omega),hasR_mk]at h
   exact⟨by omega,List.mem_singleton.1 h⟩
theorem int_hasL {s:Int}(h:0<s):hasL (intC s) (intC (s-1)):=by rw[intC_pos h,hasL_mk];simp
theorem int_hasR {s:Int}(h:s<0):hasR (intC s) (intC (s+1)):=by rw[intC_neg h,hasR_mk];simp
theorem nr_left:∀(P:Nat) (s:Int) (l:Nat),hasL (nr s P) l→∃v,v<s∧l=nr v P:=by
 intro P;induction P with
 | zero =>
  intro s l h;rw[nr_int]at h;obtain⟨_,e⟩:=int_left h;exact⟨s-1,by omega,by rw[nr_int];exact e⟩
 | succ P ih =>
  intro s l h;by_cases he:s%2=0
  ·rw[nr_even he]at h
   obtain⟨v,hv,e⟩:=ih _ _ h;exact⟨2*v,by omega,by rw[nr_up];exact e⟩
  ·rw[nr_odd he,hasL_mk]at h
   exact⟨s-1,by omega,by rw[nr_even (by omega)];exact List.mem_singleton.1 h⟩
theorem nr_right:∀(P:Nat) (s:Int) (r:Nat),hasR (nr s P) r→∃v,s<v∧r=nr v P:=by
 intro P;induction P with
 | zero =>
  intro s l h;rw[nr_int]at h;obtain⟨_,e⟩:=int_right h;exact⟨s+1,by omega,by rw[nr_int];exact e⟩
 | succ P ih =>
  intro s l h;by_cases he:s%2=0
  ·rw[nr_even he]at h
   obtain⟨v,hv,e⟩:=ih _ _ h;exact⟨2*v,by omega,by rw[nr_up];exact e⟩
  ·rw[nr_odd he,hasR_mk]at h
   exact⟨s+1,by omega,by rw[nr_even (by omega)];exact List.mem_singleton.1 h⟩
theorem nr_oddL {s:Int}{P:Nat}(h:s%2≠0):hasL (nr s (P+1)) (nr (s-1) (P+1)):=by
 rw[nr_odd h,hasL_mk,nr_even (by omega)];simp
theorem nr_oddR {s:Int}{P:Nat}(h:s%2≠0):hasR (nr s (P+1)) (nr (s+1) (P+1)):=by
 rw[nr_odd h,hasR_mk,nr_even (by omega)];simp
theorem nr_between:∀(P:Nat) (s t:Int),s<t→(∃v,s≤v∧v<t∧hasL (nr t P) (nr v P))∨∃v,s<v∧v≤t∧hasR (nr s P) (nr v P):=by
 intro P;induction P with
 | zero =>
  intro s t h;by_cases ht:0<t
  ·exact .inl ⟨t-1,by omega,by omega,by rw[nr_int,nr_int];exact int_hasL ht⟩
  ·exact .inr ⟨s+1,by omega,by omega,by rw[nr_int,nr_int];exact int_hasR (by omega)⟩
 | succ P ih =>
  intro s t h;by_cases ht:t%2=0
  ·by_cases hs:s%2=0
   ·rw[nr_even ht,nr_even hs]
    rcases ih (s/2) (t/2) (by omega)with ⟨v,h1,h2,h3⟩|⟨v,h1,h2,h3⟩
    ·exact .inl ⟨2*v,by omega,by omega,by rw[nr_up];exact h3⟩
    ·exact .inr ⟨2*v,by omega,by omega,by rw[nr_up];exact h3⟩
   ·exact .inr ⟨s+1,by omega,by omega,nr_oddR hs⟩
  ·exact .inl ⟨t-1,by omega,by omega,nr_oddL ht⟩
theorem nr_ge' (P n:Nat):∀s t:Int,nr s P+nr t P<n→(t≤s→geC (nr s P) (nr t P)=true)∧(s<t→geC (nr s P) (nr t P)=false):=by
 induction n with
 | zero=>intro s t h;omega
 | succ n ih =>
  intro s t hn;refine⟨fun h=>ge_intro (fun r hr=>?_) fun l hl=>?_,fun h=>?_⟩
  ·have hlt:=optC_lt (.inr hr)
   obtain⟨v,hv,rfl⟩:=nr_right _ _ _ hr;exact(ih t v (by omega)).2 (by omega)
  ·have hlt:=optC_lt (.inl hl)
   obtain⟨v,hv,rfl⟩:=nr_left _ _ _ hl;exact(ih v s (by omega)).2 (by omega)
  ·cases e:geC (nr s P) (nr t P)with
   | false=>rfl
   | true =>
    rcases nr_between P s t h with ⟨v,h1,h2,h3⟩|⟨v,h1,h2,h3⟩
    ·have hlt:=optC_lt (.inl h3)
     have:=(ih v s (by omega)).1 h1;rw[ge_left e h3]at this;cases this
    ·have hlt:=optC_lt (.inr h3)
     have:=(ih t v (by omega)).1 h2;rw[ge_right e h3]at this;cases this
theorem nr_ge {s t:Int}{P:Nat}(h:t≤s):geC (nr s P) (nr t P)=true:=(nr_ge' P _ s t (Nat.lt_succ_self _)).1 h
theorem nr_lt {s t:Int}{P:Nat}(h:s<t):geC (nr s P) (nr t P)=false:=(nr_ge' P _ s t (Nat.lt_succ_self _)).2 h
theorem nr_le_of {s t:Int}{P:Nat}(h:geC (nr s P) (nr t P)=true):t≤s:=by
 refine Int.not_lt.1 fun q=>?_
 rw[nr_lt q]at h;cases h
def EqC (a b:Nat):Prop:=geC a b=true∧geC b a=true
theorem EqC.can {a b:Nat}(h:EqC a b):canC a=canC b:=can_same.2 h
theorem EqC.r {a b:Nat}(h:EqC a b)(z:Nat):geC z a=geC z b:=(ge_same h.1 h.2 z).1
theorem EqC.l {a b:Nat}(h:EqC a b)(z:Nat):geC a z=geC b z:=(ge_same h.1 h.2 z).2
theorem nr_sumL:∀(P:Nat) (s t:Int) (l:Nat),hasL (nr (s+t) P) l→∃v,l=nr v P∧((∃u,hasL (nr s P) (nr u P)∧v≤u+t)∨∃u,hasL (nr t P) (nr u P)∧v≤s+u):=by
 intro P;induction P with
 | zero =>
  intro s t l h;rw[nr_int]at h;obtain⟨hp,e⟩:=int_left h;refine⟨s+t-1,by rw[nr_int];exact e,?_⟩;by_cases hs:0<s
  ·exact .inl ⟨s-1,by rw[nr_int,nr_int];exact int_hasL hs,by omega⟩
  ·exact .inr ⟨t-1,by rw[nr_int,nr_int];exact int_hasL (by omega),by omega⟩
 | succ P ih =>
  intro s t l h;by_cases hs:s%2=0
  ·by_cases ht:t%2=0
   ·rw[nr_even (by omega),show(s+t)/2=s/2+t/2 from by omega]at h
    obtain⟨v,e,hv⟩:=ih _ _ _ h;refine⟨2*v,by rw[nr_up];exact e,?_⟩;rw[nr_even hs,nr_even ht];rcases hv with ⟨u,h1,h2⟩|⟨u,h1,h2⟩
    ·exact .inl ⟨2*u,by rw[nr_up];exact h1,by omega⟩
    ·exact .inr ⟨2*u,by rw[nr_up];exact h1,by omega⟩
   ·obtain⟨v,hv,e⟩:=nr_left _ _ _ h
    exact⟨v,e,.inr ⟨t-1,nr_oddL ht,by omega⟩⟩
  ·obtain⟨v,hv,e⟩:=nr_left _ _ _ h
   exact⟨v,e,.inl ⟨s-1,nr_oddL hs,by omega⟩⟩
theorem nr_sumR:∀(P:Nat) (s t:Int) (l:Nat),hasR (nr (s+t) P) l→∃v,l=nr v P∧((∃u,hasR (nr s P) (nr u P)∧u+t≤v)∨∃u,hasR (nr t P) (nr u P)∧s+u≤v):=by
 intro P;induction P with
 | zero =>
  intro s t l h;rw[nr_int]at h;obtain⟨hp,e⟩:=int_right h;refine⟨s+t+1,by rw[nr_int];exact e,?_⟩;by_cases hs:s<0
  ·exact .inl ⟨s+1,by rw[nr_int,nr_int];exact int_hasR hs,by omega⟩
  ·exact .inr ⟨t+1,by rw[nr_int,nr_int];exact int_hasR (by omega),by omega⟩
 | succ P ih =>
  intro s t l h;by_cases hs:s%2=0
  ·by_cases ht:t%2=0
   ·rw[nr_even (by omega),show(s+t)/2=s/2+t/2 from by omega]at h
    obtain⟨v,e,hv⟩:=ih _ _ _ h;refine⟨2*v,by rw[nr_up];exact e,?_⟩;rw[nr_even hs,nr_even ht];rcases hv with ⟨u,h1,h2⟩|⟨u,h1,h2⟩
    ·exact .inl ⟨2*u,by rw[nr_up];exact h1,by omega⟩
    ·exact .inr ⟨2*u,by rw[nr_up];exact h1,by omega⟩
   ·obtain⟨v,hv,e⟩:=nr_right _ _ _ h
    exact⟨v,e,.inr ⟨t+1,nr_oddR ht,by omega⟩⟩
  ·obtain⟨v,hv,e⟩:=nr_right _ _ _ h
   exact⟨v,e,.inl ⟨s+1,nr_oddR hs,by omega⟩⟩
theorem nr_sum' (P n:Nat):∀s t:Int,nr s P+nr t P<n→EqC (sumC (nr s P) (nr t P)) (nr (s+t) P):=by
 induction n with
 | zero=>intro s t h;omega
 | succ n ih =>
  intro s t hn;constructor
  ·refine ge_intro (fun r hr=>?_) fun l hl=>?_
   ·rcases (hasR_sum _ _ r).1 hr with ⟨b,hb,rfl⟩|⟨b,hb,rfl⟩
    ·have hlt:=optC_lt (.inr hb)
     obtain⟨v,hv,rfl⟩:=nr_right _ _ _ hb;rw[(ih v t (by omega)).r];exact nr_lt (by omega)
    ·have hlt:=optC_lt (.inr hb)
     obtain⟨v,hv,rfl⟩:=nr_right _ _ _ hb;rw[(ih s v (by omega)).r];exact nr_lt (by omega)
   ·obtain⟨v,rfl,⟨u,hu,hv⟩|⟨u,hu,hv⟩⟩:=nr_sumL P s t l hl
    ·have hlt:=optC_lt (.inl hu)
     have h1:geC (sumC (nr u P) (nr t P)) (nr v P)=true:=by rw[(ih u t (by omega)).l];exact nr_ge hv
     exact not_ge_of_le h1 (opt_left ((hasL_sum _ _ _).2 (.inl ⟨_,hu,rfl⟩)))
    ·have hlt:=optC_lt (.inl hu)
     have h1:geC (sumC (nr s P) (nr u P)) (nr v P)=true:=by rw[(ih s u (by omega)).l];exact nr_ge hv
     exact not_ge_of_le h1 (opt_left ((hasL_sum _ _ _).2 (.inr ⟨_,hu,rfl⟩)))
  ·refine ge_intro (fun r hr=>?_) fun l hl=>?_
   ·obtain⟨v,rfl,⟨u,hu,hv⟩|⟨u,hu,hv⟩⟩:=nr_sumR P s t r hr
    ·have hlt:=optC_lt (.inr hu)
     have h1:geC (nr v P) (sumC (nr u P) (nr t P))=true:=by rw[(ih u t (by omega)).r];exact nr_ge hv
     exact not_ge_of_ge h1 (opt_right ((hasR_sum _ _ _).2 (.inl ⟨_,hu,rfl⟩)))
    ·have hlt:=optC_lt (.inr hu)
     have h1:geC (nr v P) (sumC (nr s P) (nr u P))=true:=by rw[(ih s u (by omega)).r];exact nr_ge hv
     exact not_ge_of_ge h1 (opt_right ((hasR_sum _ _ _).2 (.inr ⟨_,hu,rfl⟩)))
   ·rcases (hasL_sum _ _ l).1 hl with ⟨b,hb,rfl⟩|⟨b,hb,rfl⟩
    ·have hlt:=optC_lt (.inl hb)
     obtain⟨v,hv,rfl⟩:=nr_left _ _ _ hb;rw[(ih v t (by omega)).l];exact nr_lt (by omega)
    ·have hlt:=optC_lt (.inl hb)
     obtain⟨v,hv,rfl⟩:=nr_left _ _ _ hb;rw[(ih s v (by omega)).l];exact nr_lt (by omega)
theorem nr_sum (s t:Int)(P:Nat):EqC (sumC (nr s P) (nr t P)) (nr (s+t) P):=nr_sum' P _ s t (Nat.lt_succ_self _)
theorem can_nr1 (s:Int)(P:Nat):CanC1 (nr s P):=by
 have uniq:∀(P:Nat) (s:Int),(∀l l',hasL (nr s P) l→hasL (nr s P) l'→l=l')∧∀l l',hasR (nr s P) l→hasR (nr s P) l'→l=l':=by
  intro P;induction P with
  | zero =>
   intro s;rw[nr_int];exact⟨fun l l' h h'=>by rw[(int_left h).2,(int_left h').2],fun l l' h h'=>by rw[(int_right h).2,(int_right h').2]⟩
  | succ P ih =>
   intro s;by_cases he:s%2=0
   ·rw[nr_even he];exact ih _
   ·rw[nr_odd he]
    refine⟨fun l l' h h'=>?_,fun l l' h h'=>?_⟩
    ·rw[hasL_mk]at h h'
     rw[List.mem_singleton.1 h,List.mem_singleton.1 h']
    ·rw[hasR_mk]at h h'
     rw[List.mem_singleton.1 h,List.mem_singleton.1 h']
 have rev:∀(P:Nat) (s:Int),(∀l r,hasL (nr s P) l→hasR l r→geC (nr s P) r=false)∧∀r l,hasR (nr s P) r→hasL r l→geC l (nr s P)=false:=by
  intro P;induction P with
  | zero =>
   intro s;rw[nr_int];refine⟨fun l r h h'=>?_,fun l r h h'=>?_⟩
   ·obtain⟨h1,rfl⟩:=int_left h
    have:=(int_right h').1;omega
   ·obtain⟨h1,rfl⟩:=int_right h
    have:=(int_left h').1;omega
  | succ P ih =>
   intro s;by_cases he:s%2=0
   ·rw[nr_even he];exact ih _
   ·refine⟨fun l r h h'=>?_,fun l r h h'=>?_⟩
    ·rw[nr_odd he,hasL_mk]at h
     rw[List.mem_singleton.1 h]at h';obtain⟨v,hv,rfl⟩:=nr_right _ _ _ h';rw[←nr_up v P];exact nr_lt (by omega)
    ·rw[nr_odd he,hasR_mk]at h
     rw[List.mem_singleton.1 h]at h';obtain⟨v,hv,rfl⟩:=nr_left _ _ _ h';rw[←nr_up v P];exact nr_lt (by omega)
 exact⟨fun l l' h h' _=>(uniq P s).1 _ _ h' h,fun l l' h h' _=>(uniq P s).2 _ _ h' h,(rev P s).1,(rev P s).2⟩
theorem nr_one (s:Int)(P:Nat):(∀l l',hasL (nr s P) l→hasL (nr s P) l'→l=l')∧∀l l',hasR (nr s P) l→hasR (nr s P) l'→l=l':=by
 have h:=can_nr1 s P;refine⟨fun l l' a b=>?_,fun l l' a b=>?_⟩
 ·obtain⟨v,_,rfl⟩:=nr_left _ _ _ a
  obtain⟨v',_,rfl⟩:=nr_left _ _ _ b;by_cases e:v'≤v
  ·exact h.domL _ _ b a (nr_ge e)
  ·exact(h.domL _ _ a b (nr_ge (by omega))).symm
 ·obtain⟨v,_,rfl⟩:=nr_right _ _ _ a
  obtain⟨v',_,rfl⟩:=nr_right _ _ _ b;by_cases e:v≤v'
  ·exact h.domR _ _ b a (nr_ge e)
  ·exact(h.domR _ _ a b (nr_ge (by omega))).symm
theorem nr_sub {s:Int}{P x:Nat}(h:SubC (nr s P) x):∃v,x=nr v P:=by
 induction h with
 | root=>exact⟨s,rfl⟩
 | step _ ho ih =>
  obtain⟨v,rfl⟩:=ih;rcases ho with h|h
  ·obtain⟨u,_,e⟩:=nr_left _ _ _ h;exact⟨u,e⟩
  ·obtain⟨u,_,e⟩:=nr_right _ _ _ h;exact⟨u,e⟩
theorem can_nr (s:Int)(P:Nat):CanC (nr s P):=fun x hx=>by
 obtain⟨v,rfl⟩:=nr_sub hx;exact can_nr1 v P
def IsNum (G:Nat):Prop:=∃(P:Nat) (s:Int),EqC G (nr s P)
theorem IsNum.can {c:Nat}(h:IsNum c)(hc:CanC c):∃(P:Nat) (s:Int),c=nr s P:=by
 obtain⟨P,s,k⟩:=h;exact⟨P,s,can_one hc (can_nr s P) k.1 k.2⟩
theorem num_fit (P:Nat){G:Nat}:∀(n:Nat) (s:Int),nr s P<n→(∀l,hasL G l→geC l (nr s P)=false)→(∀r,hasR G r→geC (nr s P) r=false)→IsNum G:=by
 intro n;induction n with
 | zero=>intro s h;omega
 | succ n ih =>
  intro s hn hl hr;cases h1:geC (nr s P) G with
  | false =>
   rcases ge_not h1 with ⟨r,h,e⟩|⟨l,h,e⟩
   ·have hlt:=optC_lt (.inr h)
    obtain⟨v,hv,rfl⟩:=nr_right _ _ _ h;refine ih v (by omega) (fun l h'=>?_) fun r h'=>?_
    ·cases q:geC l (nr v P)with
     | false=>rfl
     | true =>
      have:=ge_trans q (nr_ge (s:=v) (t:=s) (P:=P) (by omega));rw[hl l h']at this;cases this
    ·cases q:geC (nr v P) r with
     | false=>rfl
     | true =>
      have:=ge_trans e q;rw[opt_right h']at this;cases this
   ·rw[hl l h]at e;cases e
  | true =>
   cases h2:geC G (nr s P)with
   | true=>exact⟨P,s,h2,h1⟩
   | false =>
    rcases ge_not h2 with ⟨r,h,e⟩|⟨l,h,e⟩
    ·rw[hr r h]at e;cases e
    ·have hlt:=optC_lt (.inl h)
     obtain⟨v,hv,rfl⟩:=nr_left _ _ _ h;refine ih v (by omega) (fun l h'=>?_) fun r h'=>?_
     ·cases q:geC l (nr v P)with
      | false=>rfl
      | true =>
       have:=ge_trans q e;rw[opt_left h']at this;cases this
     ·cases q:geC (nr v P) r with
      | false=>rfl
      | true =>
       have:=ge_trans (nr_ge (s:=s) (t:=v) (P:=P) (by omega)) q;rw[hr r h']at this;cases this
section
variable {s:Int}{P:Nat}(hs:0<s)
include hs
end
def IsVal (c:Nat)(t:Int)(p:Nat):Prop:=Red t p∧c=numC t p
theorem IsVal.toNr {c:Nat}{t:Int}{p:Nat}(h:IsVal c t p):c=nr t p:=by rw[nr_of h.1];exact h.2
theorem nr_val (s:Int)(P:Nat):IsVal (nr s P) (redT s P).1 (redT s P).2:=⟨redT_red _ _,rfl⟩
theorem nr_inj {s t:Int}{P:Nat}(h:nr s P=nr t P):s=t:=by
 have h1:=nr_le_of (show geC (nr s P) (nr t P)=true by rw[h];exact ge_refl _);have h2:=nr_le_of (show geC (nr t P) (nr s P)=true by rw[h];exact ge_refl _);omega
theorem IsVal.one {c:Nat}{t s:Int}{p q:Nat}(h:IsVal c t p)(k:IsVal c s q):t=s∧p=q:=by
 have e1:nr (t*2^q) (p+q)=c:=by rw[nr_level];exact h.toNr.symm
 have e2:nr (s*2^p) (p+q)=c:=by rw[Nat.add_comm,nr_level];exact k.toNr.symm
 have e:=nr_inj (e1.trans e2.symm);have a:=redT_scale q p t;rw[e,Nat.add_comm,redT_scale,redT_of k.1,redT_of h.1]at a;have a1:=congrArg Prod.fst a;have a2:=congrArg Prod.snd a;exact⟨a1.symm,a2.symm⟩
open Classical in
noncomputable def isNB (c:Nat):Bool:=decide (∃t p,IsVal c t p)
open Classical in
noncomputable def valT (c:Nat):Int × Nat:=if h:∃d:Int × Nat,IsVal c d.1 d.2 then Classical.choose h else (0,0)
open Classical in
theorem isN_iff {c:Nat}:isNB c=true↔∃t p,IsVal c t p:=by unfold isNB;rw[decide_eq_true_iff]
theorem IsVal.is {c:Nat}{t:Int}{p:Nat}(h:IsVal c t p):isNB c=true:=isN_iff.2 ⟨t,p,h⟩
theorem IsVal.val {c:Nat}{t:Int}{p:Nat}(h:IsVal c t p):valT c=(t,p):=by
 have hx:∃d:Int × Nat,IsVal c d.1 d.2:=⟨(t,p),h⟩;unfold valT;rw[dif_pos hx];obtain⟨a,b⟩:=(Classical.choose_spec hx).one h;exact Prod.ext a b
theorem isN_val {c:Nat}(h:isNB c=true):IsVal c (valT c).1 (valT c).2:=by
 obtain⟨t,p,k⟩:=isN_iff.1 h;rw[k.val];exact k
theorem isN_nr (s:Int)(P:Nat):isNB (nr s P)=true:=(nr_val s P).is
open Classical in
noncomputable def valB (c:Nat):Bool:=isNB c && decide (GoodD (valT c).1 (valT c).2)
noncomputable def valD (c:Nat):Int × Nat:=if valB c=true then valT c else (0,0)
open Classical in
theorem IsVal.good {c:Nat}{t:Int}{p:Nat}(h:IsVal c t p):valB c=true↔GoodD t p:=by
 unfold valB;rw[h.is,h.val,Bool.true_and,decide_eq_true_iff]
theorem valB_num {c:Nat}(h:valB c=true):isNB c=true:=by
 unfold valB at h;exact(Bool.and_eq_true_iff.1 h).1
theorem valB_val {c:Nat}(h:valB c=true):IsVal c (valD c).1 (valD c).2∧GoodD (valD c).1 (valD c).2:=by
 have h1:=isN_val (valB_num h);unfold valD;rw[if_pos h];exact⟨h1,h1.good.1 h⟩
theorem IsVal.goodD {c:Nat}{t:Int}{p:Nat}(h:IsVal c t p)(hg:GoodD t p):valB c=true∧valD c=(t,p):=by
 have h1:=h.good.2 hg;refine⟨h1,?_⟩;unfold valD;rw[if_pos h1,h.val]
theorem valB_no {c:Nat}(h:valB c=false):valD c=(0,0):=by unfold valD;rw[h];rfl
theorem num_oneL {c l l':Nat}(h:isNB c=true)(a:hasL c l)(b:hasL c l'):l=l':=by
 obtain⟨t,p,k⟩:=isN_iff.1 h;rw[k.toNr]at a b;exact(nr_one _ _).1 _ _ a b
theorem num_oneR {c l l':Nat}(h:isNB c=true)(a:hasR c l)(b:hasR c l'):l=l':=by
 obtain⟨t,p,k⟩:=isN_iff.1 h;rw[k.toNr]at a b;exact(nr_one _ _).2 _ _ a b
theorem num_optL {c l:Nat}(h:isNB c=true)(a:hasL c l):isNB l=true:=by
 obtain⟨t,p,k⟩:=isN_iff.1 h;rw[k.toNr]at a;obtain⟨v,_,rfl⟩:=nr_left _ _ _ a;exact isN_nr _ _
theorem num_optR {c l:Nat}(h:isNB c=true)(a:hasR c l):isNB l=true:=by
 obtain⟨t,p,k⟩:=isN_iff.1 h;rw[k.toNr]at a;obtain⟨v,_,rfl⟩:=nr_right _ _ _ a;exact isN_nr _ _
theorem num_apart {c l r:Nat}(h:isNB c=true)(a:hasL c l)(b:hasR c r):geC l r=false:=by
 obtain⟨t,p,k⟩:=isN_iff.1 h;rw[k.toNr]at a b;obtain⟨v,hv,rfl⟩:=nr_left _ _ _ a;obtain⟨u,hu,rfl⟩:=nr_right _ _ _ b;exact nr_lt (by omega)
theorem num_know {c:Nat}(hc:CanC c)(h1:∀l l',hasL c l→hasL c l'→l=l')(h2:∀r r',hasR c r→hasR c r'→r=r')(hL:∀l,hasL c l→isNB l=true)(hR:∀r,hasR c r→isNB r=true)
  (ha:∀l r,hasL c l→hasR c r→geC l r=false):isNB c=true:=by
 have fin:∀(s:Int) (P:Nat),(∀l,hasL c l→geC l (nr s P)=false)→(∀r,hasR c r→geC (nr s P) r=false)→isNB c=true:=fun s P a b=>by
  obtain⟨Q,u,e⟩:=(num_fit P _ s (Nat.lt_succ_self _) a b).can hc;rw[e];exact isN_nr _ _
 by_cases eL:∃l,hasL c l
 ·obtain⟨l,hl⟩:=eL
  obtain⟨s,P,kl⟩:=isN_iff.1 (hL l hl);by_cases eR:∃r,hasR c r
  ·obtain⟨r,hr⟩:=eR
   obtain⟨t,Q,kr⟩:=isN_iff.1 (hR r hr);have e1:l=nr (2*(s*2^Q)) (P+Q+1):=by rw[nr_up,nr_level];exact kl.toNr
   have e2:r=nr (2*(t*2^P)) (P+Q+1):=by rw[nr_up,Nat.add_comm,nr_level];exact kr.toNr
   have hlt:s*2^Q<t*2^P:=by
    have h:=ha l r hl hr;rw[e1,e2]at h;refine Int.not_le.1 fun q=>?_
    rw[nr_ge (show 2*(t*2^P)≤2*(s*2^Q)by omega)]at h;cases h
   refine fin (2*(s*2^Q)+1) (P+Q+1) (fun l' hl'=>?_) (fun r' hr'=>?_)
   ·rw[h1 _ _ hl' hl,e1];exact nr_lt (by omega)
   ·rw[h2 _ _ hr' hr,e2];exact nr_lt (by omega)
  ·refine fin (s+1) P (fun l' hl'=>?_) (fun r' hr'=>absurd ⟨r',hr'⟩ eR)
   rw[h1 _ _ hl' hl,kl.toNr];exact nr_lt (by omega)
 ·by_cases eR:∃r,hasR c r
  ·obtain⟨r,hr⟩:=eR
   obtain⟨t,Q,kr⟩:=isN_iff.1 (hR r hr);refine fin (t-1) Q (fun l' hl'=>absurd ⟨l',hl'⟩ eL) (fun r' hr'=>?_);rw[h2 _ _ hr' hr,kr.toNr];exact nr_lt (by omega)
  ·exact fin 0 0 (fun l' hl'=>absurd ⟨l',hl'⟩ eL) (fun r' hr'=>absurd ⟨r',hr'⟩ eR)
theorem val_none {c:Nat}(h:isNB c=true)(hL:∀l,¬hasL c l)(hR:∀r,¬hasR c r):IsVal c 0 0:=by
 obtain⟨t,p,k⟩:=isN_iff.1 h;have hk:=k;obtain⟨hr,e⟩:=hk;cases p with
 | zero =>
  rw[numC_int]at e;by_cases h0:t=0
  ·subst h0;exact k
  ·by_cases hp:0<t
   ·exact absurd (by rw[e];exact int_hasL hp) (hL _)
   ·exact absurd (by rw[e];exact int_hasR (by omega)) (hR _)
 | succ p =>
  have ho:t%2≠0:=hr.resolve_left (by omega);exact absurd (by rw[k.toNr];exact nr_oddL ho) (hL _)
theorem val_left {c l:Nat}(h:isNB c=true)(hl:hasL c l)(hR:∀r,¬hasR c r):∃k:Int,0<k∧IsVal c k 0∧IsVal l (k-1) 0:=by
 obtain⟨t,p,k⟩:=isN_iff.1 h;have hk:=k;obtain⟨hr,e⟩:=hk;cases p with
 | zero =>
  rw[numC_int]at e;rw[e]at hl;obtain⟨h1,h2⟩:=int_left hl;exact⟨t,h1,k,.inl rfl,h2⟩
 | succ p =>
  have ho:t%2≠0:=hr.resolve_left (by omega);exact absurd (by rw[k.toNr];exact nr_oddR ho) (hR _)
theorem val_right {c r:Nat}(h:isNB c=true)(hr:hasR c r)(hL:∀l,¬hasL c l):∃k:Int,k<0∧IsVal c k 0∧IsVal r (k+1) 0:=by
 obtain⟨t,p,k⟩:=isN_iff.1 h;have hk:=k;obtain⟨hd,e⟩:=hk;cases p with
 | zero =>
  rw[numC_int]at e;rw[e]at hr;obtain⟨h1,h2⟩:=int_right hr;exact⟨t,h1,k,.inl rfl,h2⟩
 | succ p =>
  have ho:t%2≠0:=hd.resolve_left (by omega);exact absurd (by rw[k.toNr];exact nr_oddL ho) (hL _)
theorem val_both {c l r:Nat}(h:isNB c=true)(hl:hasL c l)(hr:hasR c r):∃(t:Int) (p:Nat),IsVal c t p∧0<p∧t%2≠0∧IsVal l (redT (t-1) p).1 (redT (t-1) p).2∧IsVal r (redT (t+1) p).1 (redT (t+1) p).2:=by
 obtain⟨t,p,k⟩:=isN_iff.1 h;have hk:=k;obtain⟨hd,e⟩:=hk;cases p with
 | zero =>
  rw[numC_int]at e;rw[e]at hl hr;have a:=int_left hl;have b:=int_right hr;omega
 | succ p =>
  have ho:t%2≠0:=hd.resolve_left (by omega);refine⟨t,p+1,k,by omega,ho,?_,?_⟩
  ·rw[k.toNr]at hl
   rw[(nr_one _ _).1 _ _ hl (nr_oddL ho)];exact nr_val _ _
  ·rw[k.toNr]at hr
   rw[(nr_one _ _).2 _ _ hr (nr_oddR ho)];exact nr_val _ _
theorem red_scale {N:Nat}:∀(p:Nat) (x:Int),p≤N→(redT x p).1*2^(N-(redT x p).2)=x*2^(N-p):=by
 intro p;induction p with
 | zero=>intro x _;rfl
 | succ p ih =>
  intro x hp;by_cases hx:x%2=0
  ·rw[redT_even hx,ih _ (by omega)]
   obtain⟨k,hk⟩:∃k,N-p=k+1:=⟨N-(p+1),by omega⟩;rw[hk,show N-(p+1)=k from by omega,Int.pow_succ,Int.mul_comm (2^k) 2,←Int.mul_assoc];congr 1
   omega
  ·rw[redT,if_neg hx]
theorem red_tell {x:Int}{N p:Nat}(h:p≤N):redT (x*2^(N-p)) N=redT x p:=by
 have:=redT_scale (N-p) p x;rw[show p+(N-p)=N from by omega]at this
 exact this
theorem val_mid {t:Int}{p:Nat}(hp:0<p)(ho:t%2≠0)(h1:GoodD (redT (t-1) p).1 (redT (t-1) p).2)(h2:GoodD (redT (t+1) p).1 (redT (t+1) p).2) :
  p≤17∧redT ((redT (t-1) p).1*2^(16-(redT (t-1) p).2)+(redT (t+1) p).1*2^(16-(redT (t+1) p).2)) 17=(t,p):=by
 obtain⟨q,rfl⟩:∃q,p=q+1:=⟨p-1,by omega⟩;rw[redT_even (show(t-1)%2=0 by omega)]at h1 ⊢;rw[redT_even (show(t+1)%2=0 by omega)]at h2 ⊢;by_cases hq:q≤16
 ·refine⟨by omega,?_⟩
  rw[red_scale q _ hq,red_scale q _ hq,←Int.add_mul,show(t-1)/2+(t+1)/2=t from by omega];have:=red_tell (x:=t) (N:=17) (p:=q+1) (by omega);rw[show 17-(q+1)=16-q from by omega]at this
  rw[this,redT_of (.inr ho)]
 ·have h3:=h1.2.1
  have h4:=h2.2.1;exfalso
  by_cases he:(t-1)/2%2=0
  ·rw[redT_of (t:=(t+1)/2) (.inr (by omega))]at h4
   have:((q:Nat):Int)≤16:=h4.2;omega
  ·rw[redT_of (t:=(t-1)/2) (.inr he)]at h3
   have:((q:Nat):Int)≤16:=h3.2;omega
theorem val_sides {t:Int}{p:Nat}(hp:0<p)(ho:t%2≠0)(h:GoodD t p):GoodD (redT (t-1) p).1 (redT (t-1) p).2∧GoodD (redT (t+1) p).1 (redT (t+1) p).2:=by
 obtain⟨a,b,c⟩:=h;exact⟨(good_side (.inr ho) (by omega) hp (by omega) _ (.inl rfl)).1,(good_side (.inr ho) (by omega) hp (by omega) _ (.inr rfl)).1⟩
end Go.Proofs.YtbbbmjiloihajaaGreatDoor
