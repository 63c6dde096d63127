import Derived.Test.YtcalpapdkmnblaaGreatDoorZl17
/- Lemmas. -/
namespace Go.Proofs.YtcalpapdkmnblaaGreatDoor
set_option linter.unusedVariables false
set_option linter.unusedSimpArgs false
open Go.RowKit
theorem zu0 {c:Nat}{U:List Nat}(hU:∀x,SubC c x→x∈U)(hl:U.length≤120)(hf:FewC c):zb6 (zb9 c)=true:=by
 have h:DF U (zb9 c):=⟨c,rfl,hU⟩;exact zoy (by have:=h.props.2.1;omega) hf
def zgr:Nat→List Nat
 | 0=>[]
 | n+1=>zgr n ++ [mkC (zgr n) (zgr n)]
def zam (n:Nat):Nat:=mkC (zgr n) (zgr n)
theorem zsr (n:Nat):(zgr n).length=n:=by
 induction n with
 | zero=>rfl
 | succ n ih=>rw[zgr,List.length_append,ih];rfl
theorem zpa (n:Nat):zgr n=(List.range n).map zam:=by
 induction n with
 | zero=>rfl
 | succ n ih=>rw[List.range_succ,List.map_append,←ih];rfl
theorem znd {n x:Nat}:x∈zgr n↔∃k,k<n/\zam k=x:=by
 rw[zpa,List.mem_map];exact⟨fun⟨k,hk,e⟩=>⟨k,List.mem_range.1 hk,e⟩,fun⟨k,hk,e⟩=>⟨k,List.mem_range.2 hk,e⟩⟩
theorem zb1 {n x:Nat}:hasL (zam n) x↔∃k,k<n/\zam k=x:=(zau _ _ _).trans znd
theorem zb0 {n x:Nat}:hasR (zam n) x↔∃k,k<n/\zam k=x:=(zas _ _ _).trans znd
theorem zp8 {n x:Nat}(h:optC (zam n) x):∃k,k<n/\zam k=x:=h.elim zb1.1 zb0.1
theorem zc6 {m n:Nat}(h:m≠n):geC (zam m) (zam n)=false:=by
 by_cases h1:m<n
 ·exact zcy (zb1.2 ⟨m,h1,rfl⟩)
 ·exact zca (zb0.2 ⟨n,by omega,rfl⟩)
theorem zm0 {m n:Nat}(h:zam m=zam n):m=n:=by
 by_cases e:m=n
 ·exact e
 ·have h1:=zc6 e
  rw[h,zcr]at h1;cases h1
theorem zv2 (n:Nat):CanC (zam n):=by
 induction n using Nat.strongRecOn with
 | _ n ih =>
  refine CanC.mk ⟨fun l l' hl hl' h=>?_,fun r r' hr hr' h=>?_,fun l r hl hr=>?_,fun r l hr hl=>?_⟩ (fun x hx=>?_)
  ·obtain⟨j,_,rfl⟩:=zb1.1 hl
   obtain⟨k,_,rfl⟩:=zb1.1 hl';by_cases e:k=j
   ·rw[e]
   ·rw[zc6 e]at h;cases h
  ·obtain⟨j,_,rfl⟩:=zb0.1 hr
   obtain⟨k,_,rfl⟩:=zb0.1 hr';by_cases e:j=k
   ·rw[e]
   ·rw[zc6 e]at h;cases h
  ·obtain⟨j,hj,rfl⟩:=zb1.1 hl
   obtain⟨k,hk,rfl⟩:=zb0.1 hr;exact zc6 (by omega)
  ·obtain⟨j,hj,rfl⟩:=zb0.1 hr
   obtain⟨k,hk,rfl⟩:=zb1.1 hl;exact zc6 (by omega)
  ·obtain⟨k,hk,rfl⟩:=zp8 hx
   exact ih k hk
theorem zkz {n x:Nat}(h:SubC (zam n) x):∃k,k≤n/\zam k=x:=by
 induction h with
 | root=>exact⟨n,Nat.le_refl _,rfl⟩
 | step _ ho ih =>
  obtain⟨k,hk,rfl⟩:=ih;obtain⟨j,hj,e⟩:=zp8 ho;exact⟨j,by omega,e⟩
theorem zsq {n k:Nat}(h:k≤n):SubC (zam n) (zam k):=by
 by_cases e:k=n
 ·rw[e];exact .root
 ·exact .step .root (.inl (zb1.2 ⟨k,by omega,rfl⟩))
theorem zxv:∀a:Fin 8,∀b:Fin 8,∀k:Fin 8,k.1<a.1 ^^^ b.1→(k.1 ^^^ b.1<a.1/\(k.1 ^^^ b.1) ^^^ b.1=k.1)∨(a.1 ^^^ k.1<b.1/\a.1 ^^^ (a.1 ^^^ k.1)=k.1):=by decide
theorem zxm:∀a:Fin 8,∀b:Fin 8,∀k:Fin 8,k≠a→k.1 ^^^ b.1≠a.1 ^^^ b.1/\b.1 ^^^ k.1≠b.1 ^^^ a.1:=by decide
theorem zxn:∀a:Fin 8,∀b:Fin 8,a.1 ^^^ b.1<8:=by decide
def zp5 (a b:Nat):Prop:=geC (sumC (zam a) (zam b)) (zam (a ^^^ b))=true/\geC (zam (a ^^^ b)) (sumC (zam a) (zam b))=true
theorem star_sum' (n:Nat):∀a b,a+b<n→a<8→b<8→zp5 a b:=by
 induction n with
 | zero=>intro a b h;omega
 | succ n ih =>
  intro a b hn ha hb;have hx:=zxn ⟨a,ha⟩ ⟨b,hb⟩;have low:=fun k (hk:k<a ^^^ b)=>zxv ⟨a,ha⟩ ⟨b,hb⟩ ⟨k,Nat.lt_trans hk hx⟩ hk
  have I1:∀k,k<a→zp5 k b:=fun k hk=>ih k b (by omega) (by omega) hb
  have I2:∀k,k<b→zp5 a k:=fun k hk=>ih a k (by omega) ha (by omega)
  have n1:∀k,k<a→k ^^^ b≠a ^^^ b:=fun k hk=>(zxm ⟨a,ha⟩ ⟨b,hb⟩ ⟨k,by omega⟩ (fun e=>by have:=congrArg Fin.val e;simp only at this;omega)).1
  have n2:∀k,k<b→a ^^^ k≠a ^^^ b:=fun k hk=>(zxm ⟨b,hb⟩ ⟨a,ha⟩ ⟨k,by omega⟩ (fun e=>by have:=congrArg Fin.val e;simp only at this;omega)).2
  have no:∀ {x:Bool},(x=true→False)→x=false:=fun {x} h=>by cases x;rfl;exact(h rfl).elim
  refine⟨zdx (fun r hr=>no fun h=>?_) (fun l hl=>no fun h=>?_),zdx (fun r hr=>no fun h=>?_) (fun l hl=>no fun h=>?_)⟩
  ·rcases (zfi _ _ _).1 hr with ⟨l,hl,rfl⟩|⟨l,hl,rfl⟩
   ·obtain⟨k,hk,rfl⟩:=zb0.1 hl
    have:=zav h (I1 k hk).1;rw[zc6 (n1 k hk).symm]at this;cases this
   ·obtain⟨k,hk,rfl⟩:=zb0.1 hl
    have:=zav h (I2 k hk).1;rw[zc6 (n2 k hk).symm]at this;cases this
  ·obtain⟨k,hk,rfl⟩:=zb1.1 hl
   rcases low k hk with ⟨q1,q2⟩|⟨q1,q2⟩
   ·have h1:=(I1 _ q1).1
    simp only at q2;rw[q2,zf1 h ((zfk _ _ _).2 (.inl ⟨_,zb1.2 ⟨_,q1,rfl⟩,rfl⟩))]at h1;cases h1
   ·have h1:=(I2 _ q1).1
    simp only at q2;rw[q2,zf1 h ((zfk _ _ _).2 (.inr ⟨_,zb1.2 ⟨_,q1,rfl⟩,rfl⟩))]at h1;cases h1
  ·obtain⟨k,hk,rfl⟩:=zb0.1 hr
   rcases low k hk with ⟨q1,q2⟩|⟨q1,q2⟩
   ·have h1:=(I1 _ q1).2
    simp only at q2;rw[q2,zdv h ((zfi _ _ _).2 (.inl ⟨_,zb0.2 ⟨_,q1,rfl⟩,rfl⟩))]at h1;cases h1
   ·have h1:=(I2 _ q1).2
    simp only at q2;rw[q2,zdv h ((zfi _ _ _).2 (.inr ⟨_,zb0.2 ⟨_,q1,rfl⟩,rfl⟩))]at h1;cases h1
  ·rcases (zfk _ _ _).1 hl with ⟨l',hl',rfl⟩|⟨l',hl',rfl⟩
   ·obtain⟨k,hk,rfl⟩:=zb1.1 hl'
    have:=zav (I1 k hk).2 h;rw[zc6 (n1 k hk)]at this;cases this
   ·obtain⟨k,hk,rfl⟩:=zb1.1 hl'
    have:=zav (I2 k hk).2 h;rw[zc6 (n2 k hk)]at this;cases this
theorem zv0 {a b:Nat}(ha:a<8)(hb:b<8):canC (sumC (zam a) (zam b))=zam (a ^^^ b) :=
 have h:=star_sum' _ a b (Nat.lt_succ_self _) ha hb
 (zua (zv2 _) h.2 h.1).symm
theorem zhd {a b x:Nat}(h:SubC (sumC (zam a) (zam b)) x):∃i j,i≤a/\j≤b/\sumC (zam i) (zam j)=x:=by
 induction h with
 | root=>exact⟨a,b,Nat.le_refl _,Nat.le_refl _,rfl⟩
 | step _ ho ih =>
  obtain⟨i,j,hi,hj,rfl⟩:=ih;rcases ho with ho|ho
  ·rcases (zfk _ _ _).1 ho with ⟨l,hl,e⟩|⟨l,hl,e⟩
   ·obtain⟨k,hk,rfl⟩:=zb1.1 hl
    exact⟨k,j,by omega,hj,e⟩
   ·obtain⟨k,hk,rfl⟩:=zb1.1 hl
    exact⟨i,k,hi,by omega,e⟩
  ·rcases (zfi _ _ _).1 ho with ⟨l,hl,e⟩|⟨l,hl,e⟩
   ·obtain⟨k,hk,rfl⟩:=zb0.1 hl
    exact⟨k,j,by omega,hj,e⟩
   ·obtain⟨k,hk,rfl⟩:=zb0.1 hl
    exact⟨i,k,hi,by omega,e⟩
theorem zmu {a b:Nat}(h:a+b≤24):FewC (sumC (zam a) (zam b)):=fun x hx=>by
 obtain⟨i,j,hi,hj,rfl⟩:=zhd hx;have key:∀A:List Nat,A.Nodup→(∀x∈A,∃k,(k<i/\sumC (zam k) (zam j)=x)∨(k<j/\sumC (zam i) (zam k)=x))→A.length≤24:=fun A hA h'=>by
  have h1:=hA.length_le_of_subset (l₂:=((List.range i).map fun k=>sumC (zam k) (zam j))++(List.range j).map fun k=>sumC (zam i) (zam k)) fun z hz=>by
   obtain⟨k,⟨hk,e⟩|⟨hk,e⟩⟩:=h' z hz
   ·exact List.mem_append_left _ (List.mem_map.2 ⟨k,List.mem_range.2 hk,e⟩)
   ·exact List.mem_append_right _ (List.mem_map.2 ⟨k,List.mem_range.2 hk,e⟩)
  rw[List.length_append,List.length_map,List.length_map,List.length_range,List.length_range]at h1;omega
 refine⟨fun A hA hA'=>key A hA fun x hx=>?_,fun A hA hA'=>key A hA fun x hx=>?_⟩
 ·rcases (zfk _ _ _).1 (hA' x hx)with ⟨l,hl,e⟩|⟨l,hl,e⟩
  ·obtain⟨k,hk,rfl⟩:=zb1.1 hl
   exact⟨k,.inl ⟨hk,e⟩⟩
  ·obtain⟨k,hk,rfl⟩:=zb1.1 hl
   exact⟨k,.inr ⟨hk,e⟩⟩
 ·rcases (zfi _ _ _).1 (hA' x hx)with ⟨l,hl,e⟩|⟨l,hl,e⟩
  ·obtain⟨k,hk,rfl⟩:=zb0.1 hl
   exact⟨k,.inl ⟨hk,e⟩⟩
  ·obtain⟨k,hk,rfl⟩:=zb0.1 hl
   exact⟨k,.inr ⟨hk,e⟩⟩
theorem zv1 {n:Nat}(h:n≤24):FewC (zam n):=fun x hx=>by
 obtain⟨i,hi,rfl⟩:=zkz hx;have key:∀A:List Nat,A.Nodup→(∀x∈A,∃k,k<i/\zam k=x)→A.length≤24:=fun A hA h'=>by
  have h1:=hA.length_le_of_subset (l₂:=(List.range i).map zam) fun z hz=>by
   obtain⟨k,hk,e⟩:=h' z hz;exact List.mem_map.2 ⟨k,List.mem_range.2 hk,e⟩
  rw[List.length_map,List.length_range]at h1;omega
 exact⟨fun A hA hA'=>key A hA fun x hx=>zb1.1 (hA' x hx),fun A hA hA'=>key A hA fun x hx=>zb0.1 (hA' x hx)⟩
theorem zmx {n:Nat}(h:n≤24):zb6 (zb9 (zam n))=true :=
 zu0 (U:=(List.range (n+1)).map zam) (fun x hx=>by
  obtain⟨k,hk,e⟩:=zkz hx;exact List.mem_map.2 ⟨k,List.mem_range.2 (by omega),e⟩) (by rw[List.length_map,List.length_range];omega) (zv1 h)
theorem zky {a b:Nat}(ha:a<8)(hb:b<8):zb6 (zb9 (sumC (zam a) (zam b)))=true :=
 zu0 (U:=(List.range (a+1)).flatMap fun i=>(List.range (b+1)).map fun j=>sumC (zam i) (zam j)) (fun x hx=>by
  obtain⟨i,j,hi,hj,e⟩:=zhd hx;exact List.mem_flatMap.2 ⟨i,List.mem_range.2 (by omega),List.mem_map.2 ⟨j,List.mem_range.2 (by omega),e⟩⟩) (by
   rw[List.length_flatMap];simp only[List.length_map,List.length_range,List.map_const',List.sum_replicate_nat];have:(a+1)*(b+1)≤8*8:=Nat.mul_le_mul (by omega) (by omega);omega) (zmu (by omega))
structure OneSt (U:List Nat) (pb sb:Nat) (mo mc ms:Value) (w0:World) (V0:List PL) (M0 I0:Nat→Prop) (W:World) (lv:Value) (cs:List Nat) (V:List PL) (BV:List Nat) (M I:Nat→Prop) (f:Nat→Option Nat) (L:List Nat):Prop where
 st:PSt encN NegMO U pb sb mo mc ms (.map (some sb)) W V BV M I f
 nx:PNx sb w0 V0 M0 I0 W V M I
 rl:NRow w0.heap.size W lv L
 cl:RowC V L cs
 sl:∀q,lv.ownBlock=some q→¬M q/\¬I q/\q≠sb
section
variable {U:List Nat}{pb sb:Nat}{mo mc ms:Value}{w0 W W' Wa:World}{V0 V V':List PL}{BV BV' cs L:List Nat}{M0 I0 M I M' I':Nat→Prop}{f f':Nat→Option Nat}{lv v':Value}{x c:Nat}
theorem OneSt.call (h:OneSt U pb sb mo mc ms w0 V0 M0 I0 W lv cs V BV M I f L)(st:PSt encN NegMO U pb sb mo mc ms (.map (some sb)) W' V' BV' M' I' f')(nx:PNx sb W V M I W' V' M' I') :
  OneSt U pb sb mo mc ms w0 V0 M0 I0 W' lv cs V' BV' M' I' f' L:=by
 refine⟨st,h.nx.trans nx,h.rl.fr nx.fr (fun q hq e=>e.elim (h.sl q hq).1 (h.sl q hq).2.2),h.cl.mono nx.pre,fun q hq=>?_⟩;have hl:=(h.rl.own.lt q hq).2;obtain⟨a,b,c⟩:=h.sl q hq;exact⟨fun e=>(nx.mM q e).elim a (fun z=>by omega),fun e=>(nx.mI q e).elim b (fun z=>by omega),c⟩
theorem OneSt.fr0 (h:OneSt U pb sb mo mc ms w0 V0 M0 I0 W lv cs V BV M I f L)(hf:Fr NoM W W'):OneSt U pb sb mo mc ms w0 V0 M0 I0 W' lv cs V BV M I f L:=h.call (h.st.fr0 hf) (PNx.of0 hf)
theorem OneSt.push (h:OneSt U pb sb mo mc ms w0 V0 M0 I0 W lv cs V BV M I f L)(ha:Fr NoM W Wa)(ho:W'.ownsRow w0.heap.size 3 1 v' (L.length+1) (L.map encN ++ [encN x]))(hf:Fr (Own1 lv) Wa W')
  (hq:v'.ownBlock=lv.ownBlock∨∃b,v'.ownBlock=some b/\Wa.heap.size≤b) (hx:x<V.length) (hc:(za0 V).getD x 0=c) :
  OneSt U pb sb mo mc ms w0 V0 M0 I0 W' v' (cs ++ [c]) V BV M I f (L ++ [x]):=by
 have h:=h.fr0 ha;refine⟨h.st.fr hf (fun q hq'=>⟨(h.sl q hq').1,(h.sl q hq').2.1,(h.sl q hq').2.2⟩),h.nx.own hf (fun q hq'=>(h.rl.own.lt q hq').1),NRow.snoc ho,h.cl.snoc hx hc,fun q e=>?_⟩;have nw:lv.ownBlock=some q∨Wa.heap.size≤q:=by
  rcases hq with h1|⟨b,h1,h2⟩
  ·exact .inl (h1 ▸ e)
  ·rw[h1]at e;cases e;exact .inr h2
 rcases nw with e'|e'
 ·exact h.sl q e'
 ·refine⟨fun z=>?_,fun z=>?_,fun z=>?_⟩
  ·have:=(h.st.mlt q z).1;omega
  ·have:=(h.st.ilt q z).1;omega
  ·have:=h.st.map.lt;omega
theorem OneSt.start (h:PSt encN NegMO U pb sb mo mc ms (.map (some sb)) W V BV M I f):OneSt U pb sb mo mc ms W V M I (W.alloc (.cells #[] 3)) (.slice (some ⟨W.heap.size,0,none⟩) 0 0) [] V BV M I f []:=by
 have hs:=h.map.lt;refine⟨h.fr0 ((Fr.refl NoM W).alloc _),PNx.of0 ((Fr.refl NoM W).alloc _),NRow.made W,RowC.nil _,fun q hq=>?_⟩;have e:W.heap.size=q:=Option.some.inj hq;refine⟨fun z=>?_,fun z=>?_,fun z=>?_⟩
 ·have:=(h.mlt q z).1;omega
 ·have:=(h.ilt q z).1;omega
 ·omega
end
set_option maxRecDepth 8000 in
set_option maxHeartbeats 8000000 in
theorem zp9 {U:List Nat}(hUl:U.length<1000000)(pb sb:Nat)(mo mc ms:Value)(n:Nat)(hn:n≤1000)(hU:∀k,k≤n→zam k∈U)(V:List PL)(BV:List Nat)(M I:Nat→Prop)(f:Nat→Option Nat)(w:World)(hst:PSt encN NegMO U pb sb mo mc ms (.map (some sb)) w V BV M I f) :
  Calls Tryz.prog 107 #[.pointer (some ⟨pb,0,none⟩),.int .i64 (n:Int)] w fun e w'=>zp6 U pb sb mo mc ms w V M I (zam n) e w':=by
 obtain⟨w1,hw1⟩:∃w1,w1=w.alloc (.cells #[] 3):=⟨_,rfl⟩;have hs:=OneSt.start hst;rw[←hw1]at hs;have HS:=Hh hs;have HUl:=Hh hUl;have HU:=Hh hU;clear hst hs hUl hU;obtain⟨q1,hq1⟩:∃q1,q1=Value.slice (some ⟨w.heap.size,0,none⟩) 0 0:=⟨_,rfl⟩;go_enter Tryz.func107,Tryz.ntmps107;go_wp2_with fail;rw[←hw1,←hq1];rw[←hq1]at HS;clear hw1 hq1;go_loopw [5,8] (fun v5 t W=>∃(k:Nat) (lv:Value) (V1:List PL) (B1:List Nat) (M1 I1:Nat→Prop) (f1:Nat→Option Nat) (L:List Nat),lv=v5/\t=.int .i64 k/\k≤n/\OneSt U pb sb mo mc ms w V M I W lv (zgr k) V1 B1 M1 I1 f1 L) (fun _ t _=>n-(intOf t).toNat)
 case atStart=>exact⟨0,_,V,BV,M,I,f,[],rfl,rfl,Nat.zero_le _,HS.out⟩
 case round =>
  obtain⟨k,lv,V1,B1,M1,I1,f1,L,rfl,rfl,hk,hs⟩:=hrel;obtain⟨w7,rfl⟩:∃w7,w7=wr:=⟨_,rfl⟩;obtain⟨lb,lc,rfl⟩:=hs.rl.shape;have hl:L.length=k:=by rw[hs.cl.len,zsr]
  have HNd:=Hh (ztf (U:=U) HUl.out (some ⟨lb,0,none⟩) (some ⟨lb,0,none⟩) L.length L.length lc lc rfl rfl hs.st hs.rl.nats hs.rl.nats hs.cl hs.cl (show mkC (zgr k) (zgr k)∈U from HU.out k hk) (by omega) (by omega));have HS:=Hh hs;have HL:=Hh hl;clear hs hl;by_cases hkn:k<n
  ·go_wp2_with fail
   (with_reducible refine HNd.out.mono ?_);rintro e w8 ⟨i,V2,B2,M2,I2,f2,rfl,st2,nx2,hi2,hc2⟩;have HS8:=Hh (HS.out.call st2 nx2);have HI2:=Hh hi2;have HC2:=Hh hc2;clear st2 nx2 hi2 hc2;go_wp2_with (at_builtin;refine zad (enc:=encN) _ rfl (.tmp 10) (.tmp 15) 63 rfl w.heap.size 3 (.int .i64 0) 8 Tryz.underlying63 za8 rfl (.slice (some ⟨lb,0,none⟩) L.length lc) L.length (L.map encN) rfl (HS8.out.fr0 ((Fr.refl NoM w8).alloc _)).rl.own (.slice (some ⟨w8.heap.size,0,none⟩) 1 1) rfl [i] (SliceOf.one encN w8 i 3) (fun _=>rfl) (by have:=HL.out;simp only[List.length_singleton];omega) (by decide) (by have:=HS8.out.nx.fr.size;rw[World.size_alloc];omega) ?_);intro v9 w9 h9 f9 q9;have HS9:=Hh (HS8.out.push ((Fr.refl NoM w8).alloc _) h9 f9 (by rw[World.size_alloc];exact q9) HI2.out HC2.out);clear h9 f9 q9;go_wp2;go_roundw
   case rel=>exact⟨k+1,v9,V2,B2,M2,I2,f2,L ++ [i],rfl,by go_num,by omega,HS9.out⟩
   case measure=>simp[intOf];omega
  ·obtain rfl:k=n:=by omega
   go_wp2_with fail;(with_reducible refine HNd.out.mono ?_);rintro e w8 ⟨i,V2,B2,M2,I2,f2,rfl,st2,nx2,hi2,hc2⟩;have HE:=Hh (show zp6 U pb sb mo mc ms w V M I (zam k) (.returned (.int .i64 (i:Int))) w8 from⟨i,V2,B2,M2,I2,f2,rfl,st2,HS.out.nx.trans nx2,hi2,hc2⟩);clear st2 nx2 hi2 hc2;go_wp2;go_ret;exact HE.out
end Go.Proofs.YtcalpapdkmnblaaGreatDoor
