import Derived.Test.YtghekfmfonoocaaGreatDoorZul
/- Lemmas. -/
set_option linter.all false
namespace Go.Proofs.YtghekfmfonoocaaGreatDoor
open Go.RowKit
theorem zme {b:List PL}(a:zbh (i2 b)):ze1 (i2 [([],[])]) (i2 b)=true:=by refine zbv.2 ⟨yf4,a,?_,?_⟩;{obtain⟨_,c,_⟩:=zcd a;rw[zck,zck];show 1*b.length<=1600;omega};{rw[zbe,zbe];unfold sumN;rw[yo2,zoc,zi0 a];have:=a.1;rw[zhc]at this;exact this}
theorem yay {F G:List PL}(h:ze1 (i2 F) (i2 G)=true):ze1 (i2 G) (i2 F)=true:=by obtain⟨h1,h2,h3,h4⟩:=zbv.1 h;exact zbv.2 ⟨h2,h1,by rw[Nat.mul_comm];exact h3,by rw[ycv];exact h4⟩
theorem zu2 {T:Int}{p:Nat}(a:zah (numN T p)=true):zbh (i2 (numN T p)):=(zhz (zbd (numC T p)) a).1
theorem ye6 {T:Int}{p:Nat}(c:Red T p)(e:zah (numN T p)=true):zgr false (some [([],[])]) (i2 (numN T p))=some (numN T p):=by have b:=zu2 e;have a:=zhd (chk:=false) (Fs:=[([],[])]) b (by rw[zxp c];exact zme b) (λf=>by cases f);obtain⟨d,_⟩:=zpm a;rw[a,d,zxp c]
theorem ycm {n:Int}{s:Nat}(a:n.natAbs<=12)(b:s<=15):csC (i2 (za8 (uqC n s)))=za8 (uqC n s):=by unfold csC canN;rw[zbe,zb5,zfp (zvb a b)]
theorem ymt {T:Int}{p:Nat}{n:Int}{s:Nat}(d:Red T p)(f:zah (numN T p)=true)(a:n.natAbs<=12)(b:s<=15)(chk:Bool) : csR chk [i2 (numN T p),i2 (za8 (uqC n s))]=if ze1 (i2 (numN T p)) (i2 (za8 (uqC n s)))=true then some (za8 (nusC (numC T p) n s))else none:=by have h:csR chk [i2 (numN T p),i2 (za8 (uqC n s))]=csR false [i2 (numN T p),i2 (za8 (uqC n s))]:=by{cases chk with| false=>rfl| true=>exact yhb _ d};rw[h];unfold csR;rw[if_pos (by simp)];unfold csF;rw[List.foldl_cons,List.foldl_cons,List.foldl_nil,ye6 d f];have g:=zo7 a b;by_cases c:ze1 (i2 (numN T p)) (i2 (za8 (uqC n s)))=true;{rw[if_pos c,zhd g (by rw[ycm a b];exact c) (λe=>by cases e)];congr 1;unfold canN csS sumN;rw[zb5,ycm a b];show za8 (canC (sumC (zas (za8 (numC T p))) (zas (za8 (uqC n s)))))=_;rw[zb5,zb5,znm,<-zsu d,yhc T p _ n s (vW _) a b]};{rw[if_neg c,ziz (λe=>c (by have:=e.2.1;rw[ycm a b]at this;exact this))]}
theorem yhd {T:Int}{p:Nat}{n:Int}{s:Nat}(f:Red T p)(c:zah (numN T p)=true)(d:n.natAbs<=12)(g:s<=15)(a:T=0\/(n=0/\s=0)):ze1 (i2 (numN T p)) (i2 (za8 (uqC n s)))=true:=by
 rcases a with rfl|⟨rfl,rfl⟩
 ·have e:p=0:=by
   rcases f with a|a
   ·exact a
   ·exact absurd (by decide:(0:Int)%2=0) a
  subst e;have b:numN 0 0=[([],[])]:=by
   unfold numN;have:numC 0 0=zar:=by rw[<-zsu (show Red 0 0 from .inl rfl)];rfl
   rw[this];exact zo3
  rw[b];exact zme (zo7 d g)
 ·have b:za8 (uqC 0 0)=[([],[])]:=by rw[zya];exact zo3
  rw[b];exact yay (zme (zu2 c))
def zni (x:(Int × Nat) × Int × Nat):Prop:=GoodD x.1.1 x.1.2/\zah (numN x.1.1 x.1.2)=true/\x.2.1.natAbs<=12/\x.2.2<=15/\ze1 (i2 (numN x.1.1 x.1.2)) (i2 (za8 (uqC x.2.1 x.2.2)))=true
noncomputable def nsV (chk ok:Bool)(N:List PL)(c:Nat):Option (List PL):=if ok=true then csR chk [i2 N,i2 (za8 c)]else none
def NsOk (T P n s:Int)(ok:Bool):Prop:=ok=true↔GoodD T P/\zah (numN T P.toNat)=true∧-12<=n/\n<=12/\0<=s/\s<=15
theorem yit {l:List (List (List Int × List Int))}{k:Nat}:∀b,csF true (l.take k)=some b->zah b=true:=by induction k with| zero =>{intro b a;rw[List.take_zero]at a;obtain rfl:[([],[])]=b:=yY a;decide}| succ k f =>{intro b a;by_cases g:k<l.length;{rw[yfp g]at a;cases e:csF true (l.take k)with| none=>rw[e]at a;cases a| some d =>{rw[e]at a;by_cases c:zbh l[k]/\ze1 (i2 d) (i2 (csC l[k]))=true/\(true=true->zah (canN (csS d l[k]))=true);{rw[zhd c.1 c.2.1 c.2.2]at a;obtain rfl:=yY a;exact c.2.2 rfl};{rw[ziz c]at a;cases a}}};{rw[List.take_of_length_le (by omega)]at a f;exact f b a}}
theorem yhk {ok:Bool}{N Fs:List PL}{c:Nat}(a:nsV true ok N c=some Fs):zah Fs=true:=by unfold nsV at a;cases ok with| false=>cases a| true =>{rw[if_pos rfl]at a;unfold csR at a;rw[if_pos (by simp)]at a;exact yit (l:=[i2 N,i2 (za8 c)]) (k:=2) Fs a}
theorem yhm {T P n s:Int}{ok:Bool}(f:NsOk T P n s ok)(d:ok=true):∃(a c:Nat),P=a/\s=c/\Red T a/\GoodD T a/\zah (numN T a)=true/\n.natAbs<=12/\c<=15:=by obtain⟨b,e,h,i,j,k⟩:=f.1 d;obtain⟨a,rfl,l,g,m⟩:=b.nat;exact⟨a,s.toNat,rfl,by omega,g,b,e,by omega,by omega⟩
theorem ymv {T n:Int}{p t:Nat}{ok:Bool}(h:NsOk T p n t ok)(chk:Bool):(zni ((T,p),n,t)/\nsV chk ok (numN T p) (uqC n t)=some (za8 (nusC (numC T p) n t)))\/(¬zni ((T,p),n,t)/\nsV chk ok (numN T p) (uqC n t)=none):=by cases g:ok with| false =>{refine .inr ⟨λe=>?_,rfl⟩;obtain⟨f,b,a,c,_⟩:=e;have:=h.2 ⟨f,b,by simp only at a;omega,by simp only at a;omega,by omega,by simp only at c;omega⟩;rw[g]at this;cases this}| true =>{(obtain⟨k,l,m,o,j,f,b,a,c⟩:=yhm h g;obtain rfl:p=k:=by omega);(obtain rfl:t=l:=by omega);have i:=ymt j b a c chk;unfold nsV;rw[if_pos rfl,i];by_cases d:ze1 (i2 (numN T p)) (i2 (za8 (uqC n t)))=true;{rw[if_pos d];exact .inl ⟨⟨f,b,a,c,d⟩,rfl⟩};{rw[if_neg d];exact .inr ⟨λe=>d e.2.2.2.2,rfl⟩}}
def NsT (c:Nat)(x:(Int × Nat) × Int × Nat)(ok:Bool):Prop:=(ok=true/\NusAt c x/\zni x)\/(ok=false/\x=((0,0),0,0)/\∀a,NusAt c a->¬zni a)
theorem NsT.one {c:Nat}{x y:(Int × Nat) × Int × Nat}{ok g:Bool}(j:NsT c x ok)(e:NsT c y g):x=y/\ok=g:=by rcases j with ⟨a,f,k⟩|⟨a,h,m⟩;{rcases e with ⟨b,d,_⟩|⟨_,_,l⟩;{exact⟨f.same d,a.trans b.symm⟩};{exact absurd k (l x f)}};{rcases e with ⟨_,d,n⟩|⟨b,i,_⟩;{exact absurd n (m y d)};{exact⟨h.trans i.symm,a.trans b.symm⟩}}
def NsIs (g:Bool)(a:List (List Int × List Int))(x:(Int × Nat) × Int × Nat)(ok:Bool):Prop:=(g=true/\NsT (canC (zas (natF a))) x ok)\/(g=false/\ok=false/\x=((0,0),0,0))
theorem NsIs.one {g ok h:Bool}{e:List (List Int × List Int)}{x y:(Int × Nat) × Int × Nat}(i:NsIs g e x ok)(f:NsIs g e y h):x=y/\ok=h:=by rcases i with ⟨b,c⟩|⟨b,c,j⟩;{rcases f with ⟨_,d⟩|⟨a,_⟩;{exact c.one d};{rw[b]at a;cases a}};{rcases f with ⟨a,_⟩|⟨_,d,k⟩;{rw[b]at a;cases a};{exact⟨j.trans k.symm,c.trans d.symm⟩}}
theorem yhf {c:Nat}{x:(Int × Nat) × Int × Nat}(e:NusAt c x):c=nusC (numC x.1.1 x.1.2) x.2.1 x.2.2/\GoodD x.1.1 x.1.2/\Red x.1.1 x.1.2:=by obtain⟨j,⟨f,g⟩,h⟩:=e;obtain⟨⟨a,b⟩,d⟩:=zcp f;rw[h]at a b d;exact⟨by rw[g];exact congrArg (λi=>nusC i x.2.1 x.2.2) b,d,a⟩
