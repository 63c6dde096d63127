import Derived.Test.YtcalpapdkmnblaaGreatDoorZly
/- Lemmas. -/
namespace Go.Proofs.YtcalpapdkmnblaaGreatDoor
set_option linter.unusedVariables false
set_option linter.unusedSimpArgs false
open Go.RowKit
structure PSt {κ:Type}(ek:κ→Value) (MO:List PL→(κ→Option Nat)→Prop) (U:List Nat) (pb sb:Nat) (mo mc ms mn:Value) (W:World) (V:List PL) (BV:List Nat) (M I:Nat→Prop) (f:κ→Option Nat):Prop where
 pool:PoolS M I W pb V BV mo mc ms mn
 ok:PoolOK V BV
 inU:∀x,x<V.length→(za0 V).getD x 0∈U
 map:MapF ek encN W sb f
 memo:MO V f
 mlt:∀q,M q→q<W.heap.size/\q≠sb
 ilt:∀q,I q→q<W.heap.size/\q≠sb
structure PNx (sb:Nat) (W:World) (V:List PL) (M I:Nat→Prop) (W':World) (V':List PL) (M' I':Nat→Prop):Prop where
 pre:V <+: V'
 mM:∀q,M' q→M q∨W.heap.size≤q
 mI:∀q,I' q→I q∨W.heap.size≤q
 fr:Fr (fun q=>M q∨q=sb) W W'
section
variable {κ:Type}{ek:κ→Value}{MO:List PL→(κ→Option Nat)→Prop}{U:List Nat}{pb sb:Nat}{mo mc ms mn:Value}{W W' W1 W2:World}{V V' V1 V2:List PL}{BV BV':List Nat}{M I M' I' M1 I1 M2 I2 X:Nat→Prop}{f f':κ→Option Nat}
theorem PoolS.sep (h:PoolS M I W pb V BV mo mc ms mn):∀q,M q→¬I q:=by
 obtain⟨lv,rv,bv,fb,LS,RS,_,_,_,_,_,_,_,_,m,_⟩:=h;exact m
theorem PSt.fr (h:PSt ek MO U pb sb mo mc ms mn W V BV M I f)(hf:Fr X W W')(hx:∀q,X q→¬M q/\¬I q/\q≠sb):PSt ek MO U pb sb mo mc ms mn W' V BV M I f :=
 ⟨h.pool.fr hf (fun q hq hX=>(hx q hX).1 hq) (fun q hq hX=>(hx q hX).2.1 hq),h.ok,h.inU,h.map.fr hf (fun hX=>(hx sb hX).2.2 rfl),h.memo,fun q hq=>⟨Nat.lt_of_lt_of_le (h.mlt q hq).1 hf.size,(h.mlt q hq).2⟩,fun q hq=>⟨Nat.lt_of_lt_of_le (h.ilt q hq).1 hf.size,(h.ilt q hq).2⟩⟩
theorem PSt.fr0 (h:PSt ek MO U pb sb mo mc ms mn W V BV M I f)(hf:Fr NoM W W'):PSt ek MO U pb sb mo mc ms mn W' V BV M I f:=h.fr hf (fun _ q=>q.elim)
theorem PSt.len (h:PSt ek MO U pb sb mo mc ms mn W V BV M I f):V.length≤U.length:=zex h.ok h.inU
theorem PNx.of0 (hf:Fr NoM W W'):PNx sb W V M I W' V M I:=⟨List.prefix_refl _,fun _ h=>.inl h,fun _ h=>.inl h,hf.any⟩
theorem PNx.trans (h:PNx sb W V M I W1 V1 M1 I1)(h':PNx sb W1 V1 M1 I1 W2 V2 M2 I2):PNx sb W V M I W2 V2 M2 I2 :=
 ⟨h.pre.trans h'.pre,fun q hq=>(h'.mM q hq).elim (h.mM q) (fun z=>.inr (Nat.le_trans h.fr.size z)),fun q hq=>(h'.mI q hq).elim (h.mI q) (fun z=>.inr (Nat.le_trans h.fr.size z)),
  h.fr.trans h'.fr (fun k hk q=>q.elim (fun q=>(h.mM k q).elim .inl (fun z=>by omega)) .inr)⟩
theorem PNx.own {v:Value}(h:PNx sb W V M I W1 V1 M1 I1)(hf:Fr (Own1 v) W1 W2)(hv:∀q,v.ownBlock=some q→W.heap.size≤q):PNx sb W V M I W2 V1 M1 I1 :=
 ⟨h.pre,h.mM,h.mI,h.fr.trans hf (fun k hk q=>by have:=hv k q;omega)⟩
theorem PSt.node {L R cs ds:List Nat}(hMO:∀ {V V' f},MO V f→V <+: V'→MO V' f)(h:PSt ek MO U pb sb mo mc ms mn W V BV M I f)(hL:RowC V L cs)(hR:RowC V R ds)(hc:mkC cs ds∈U)
  (p:PoolS M' I' W' pb (za4 V BV L R).1 (za4 V BV L R).2.1 mo mc ms mn) (hM:∀q,M' q→M q∨W.heap.size≤q) (hI:∀q,I' q→I q∨W.heap.size≤q) (hf:Fr M W W') :
  PSt ek MO U pb sb mo mc ms mn W' (za4 V BV L R).1 (za4 V BV L R).2.1 (fun q=>M' q/\q<W'.heap.size) (fun q=>I' q/\q<W'.heap.size) f ∧
   PNx sb W V M I W' (za4 V BV L R).1 (fun q=>M' q/\q<W'.heap.size) (fun q=>I' q/\q<W'.heap.size)/\(za4 V BV L R).2.2<(za4 V BV L R).1.length/\(za0 (za4 V BV L R).1).getD (za4 V BV L R).2.2 0=mkC cs ds:=by
 obtain⟨q1,q2,q3,q4⟩:=zeg h.ok hL hR;have hsb:=h.map.lt;exact⟨⟨p.low,q1,zgz h.inU (by rw[q4];exact hc),h.map.fr hf (fun e=>(h.mlt sb e).2 rfl),hMO h.memo q2,fun q hq=>⟨hq.2,fun e=>by
   rcases hM q hq.1 with h1|h1
   ·exact(h.mlt q h1).2 e
   ·omega⟩,fun q hq=>⟨hq.2,fun e=>by
   rcases hI q hq.1 with h1|h1
   ·exact(h.ilt q h1).2 e
   ·omega⟩⟩,⟨q2,fun q hq=>hM q hq.1,fun q hq=>hI q hq.1,hf.mono (fun _ _ q=>.inl q)⟩,q3,q4⟩
theorem PSt.store (h:PSt ek MO U pb sb mo mc ms mn W V BV M I f)(hf:Fr (fun q=>q=sb) W W')(hm:MapF ek encN W' sb f')(ho:MO V f'):PSt ek MO U pb sb mo mc ms mn W' V BV M I f'∧PNx sb W V M I W' V M I :=
 ⟨⟨h.pool.fr hf (fun q hq e=>(h.mlt q hq).2 e) (fun q hq e=>(h.ilt q hq).2 e),h.ok,h.inU,hm,ho,fun q hq=>⟨Nat.lt_of_lt_of_le (h.mlt q hq).1 hf.size,(h.mlt q hq).2⟩,fun q hq=>⟨Nat.lt_of_lt_of_le (h.ilt q hq).1 hf.size,(h.ilt q hq).2⟩⟩,
  ⟨List.prefix_refl _,fun _ h=>.inl h,fun _ h=>.inl h,hf.mono (fun _ _ q=>.inr q)⟩⟩
end
structure SumSt {κ:Type}(ek:κ→Value) (MO:List PL→(κ→Option Nat)→Prop) (U:List Nat) (pb sb:Nat) (mo mc ms mn:Value) (w0:World) (V0:List PL) (M0 I0:Nat→Prop) (TL TR:List Nat)
  (W:World) (lv rv va:Value) (i j:Nat) (la:List Nat) (V:List PL) (BV:List Nat) (M I:Nat→Prop) (f:κ→Option Nat) (L R:List Nat):Prop where
 st:PSt ek MO U pb sb mo mc ms mn W V BV M I f
 nx:PNx sb w0 V0 M0 I0 W V M I
 rl:NRow w0.heap.size W lv L
 rr:NRow w0.heap.size W rv R
 cl:RowC V L (TL.take i)
 cr:RowC V R (TR.take j)
 sl:∀q,lv.ownBlock=some q→¬M q/\¬I q/\q≠sb/\rv.ownBlock≠some q
 sr:∀q,rv.ownBlock=some q→¬M q/\¬I q/\q≠sb
 src:Nats W va la
 ss:la≠[]→∀q,va.ownBlock=some q→¬M q/\q≠sb/\lv.ownBlock≠some q/\rv.ownBlock≠some q
section
variable {κ:Type}{ek:κ→Value}{MO:List PL→(κ→Option Nat)→Prop}{U:List Nat}{pb sb:Nat}{mo mc ms mn:Value}{w0 W W' Wa:World}{V0 V V':List PL}{BV BV' TL TR la L R:List Nat}{M0 I0 M I M' I':Nat→Prop}{f f':κ→Option Nat}{lv rv va v':Value}{i j x c:Nat}
theorem SumSt.call (h:SumSt ek MO U pb sb mo mc ms mn w0 V0 M0 I0 TL TR W lv rv va i j la V BV M I f L R)(st:PSt ek MO U pb sb mo mc ms mn W' V' BV' M' I' f')(nx:PNx sb W V M I W' V' M' I') :
  SumSt ek MO U pb sb mo mc ms mn w0 V0 M0 I0 TL TR W' lv rv va i j la V' BV' M' I' f' L R:=by
 have kM:∀q,q<W.heap.size→¬M q→¬M' q:=fun q hq hm e=>(nx.mM q e).elim hm (fun z=>by omega)
 have kI:∀q,q<W.heap.size→¬I q→¬I' q:=fun q hq hm e=>(nx.mI q e).elim hm (fun z=>by omega)
 refine⟨st,h.nx.trans nx,h.rl.fr nx.fr (fun q hq e=>e.elim (h.sl q hq).1 (h.sl q hq).2.2.1),h.rr.fr nx.fr (fun q hq e=>e.elim (h.sr q hq).1 (h.sr q hq).2.2),h.cl.mono nx.pre,h.cr.mono nx.pre,fun q hq=>?_,fun q hq=>?_,h.src.fr nx.fr (fun hne q hq e=>e.elim (h.ss hne q hq).1 (h.ss hne q hq).2.1),fun hne q hq=>?_⟩
 ·have hl:=(h.rl.own.lt q hq).2
  obtain⟨a,b,c,d⟩:=h.sl q hq;exact⟨kM q hl a,kI q hl b,c,d⟩
 ·have hl:=(h.rr.own.lt q hq).2
  obtain⟨a,b,c⟩:=h.sr q hq;exact⟨kM q hl a,kI q hl b,c⟩
 ·obtain⟨b,hb,hl⟩:=h.src.block hne
  rw[hq]at hb;cases hb
  obtain⟨a,b,c,d⟩:=h.ss hne q hq;exact⟨kM q hl a,b,c,d⟩
theorem SumSt.fr0 (h:SumSt ek MO U pb sb mo mc ms mn w0 V0 M0 I0 TL TR W lv rv va i j la V BV M I f L R)(hf:Fr NoM W W'):SumSt ek MO U pb sb mo mc ms mn w0 V0 M0 I0 TL TR W' lv rv va i j la V BV M I f L R :=
 h.call (h.st.fr0 hf) (PNx.of0 hf)
theorem SumSt.pushL (h:SumSt ek MO U pb sb mo mc ms mn w0 V0 M0 I0 TL TR W lv rv va i j la V BV M I f L R)(ha:Fr NoM W Wa)(ho:W'.ownsRow w0.heap.size 3 1 v' (L.length+1) (L.map encN ++ [encN x]))(hf:Fr (Own1 lv) Wa W')
  (hq:v'.ownBlock=lv.ownBlock∨∃b,v'.ownBlock=some b/\Wa.heap.size≤b) (hi:TL[i]?=some c) (hx:x<V.length) (hc:(za0 V).getD x 0=c) :
  SumSt ek MO U pb sb mo mc ms mn w0 V0 M0 I0 TL TR W' v' rv va (i+1) j la V BV M I f (L ++ [x]) R:=by
 have h:=h.fr0 ha;have nw:∀q,v'.ownBlock=some q→lv.ownBlock=some q∨Wa.heap.size≤q:=fun q e=>by
  rcases hq with h1|⟨b,h1,h2⟩
  ·exact .inl (h1 ▸ e)
  ·rw[h1]at e;cases e;exact .inr h2
 refine⟨h.st.fr hf (fun q hq'=>⟨(h.sl q hq').1,(h.sl q hq').2.1,(h.sl q hq').2.2.1⟩),h.nx.own hf (fun q hq'=>(h.rl.own.lt q hq').1),NRow.snoc ho,h.rr.fr hf (fun q hq' e=>(h.sl q e).2.2.2 hq'),h.cl.next hi hx hc,h.cr,fun q e=>?_,h.sr,h.src.fr hf (fun hne q hq' e=>(h.ss hne q hq').2.2.1 e),fun hne q hq'=>?_⟩
 ·rcases nw q e with e'|e'
  ·exact h.sl q e'
  ·refine⟨fun z=>?_,fun z=>?_,fun z=>?_,fun z=>?_⟩
   ·have:=(h.st.mlt q z).1;omega
   ·have:=(h.st.ilt q z).1;omega
   ·have:=h.st.map.lt;omega
   ·have:=(h.rr.own.lt q z).2;omega
 ·obtain⟨a,b,c,d⟩:=h.ss hne q hq'
  refine⟨a,b,fun e=>?_,d⟩;rcases nw q e with e'|e'
  ·exact c e'
  ·obtain⟨b',hb,hl⟩:=h.src.block hne
   rw[hq']at hb;cases hb;omega
theorem SumSt.pushR (h:SumSt ek MO U pb sb mo mc ms mn w0 V0 M0 I0 TL TR W lv rv va i j la V BV M I f L R)(ha:Fr NoM W Wa)(ho:W'.ownsRow w0.heap.size 3 1 v' (R.length+1) (R.map encN ++ [encN x]))(hf:Fr (Own1 rv) Wa W')
  (hq:v'.ownBlock=rv.ownBlock∨∃b,v'.ownBlock=some b/\Wa.heap.size≤b) (hi:TR[j]?=some c) (hx:x<V.length) (hc:(za0 V).getD x 0=c) :
  SumSt ek MO U pb sb mo mc ms mn w0 V0 M0 I0 TL TR W' lv v' va i (j+1) la V BV M I f L (R ++ [x]):=by
 have h:=h.fr0 ha;have nw:∀q,v'.ownBlock=some q→rv.ownBlock=some q∨Wa.heap.size≤q:=fun q e=>by
  rcases hq with h1|⟨b,h1,h2⟩
  ·exact .inl (h1 ▸ e)
  ·rw[h1]at e;cases e;exact .inr h2
 refine⟨h.st.fr hf (fun q hq'=>⟨(h.sr q hq').1,(h.sr q hq').2.1,(h.sr q hq').2.2⟩),h.nx.own hf (fun q hq'=>(h.rr.own.lt q hq').1),h.rl.fr hf (fun q hq' e=>(h.sl q hq').2.2.2 e),NRow.snoc ho,h.cl,h.cr.next hi hx hc,fun q e=>?_,fun q e=>?_,h.src.fr hf (fun hne q hq' e=>(h.ss hne q hq').2.2.2 e),fun hne q hq'=>?_⟩
 ·obtain⟨a,b,c,d⟩:=h.sl q e
  refine⟨a,b,c,fun z=>?_⟩;rcases nw q z with z|z
  ·exact d z
  ·have:=(h.rl.own.lt q e).2;omega
 ·rcases nw q e with e'|e'
  ·exact h.sr q e'
  ·refine⟨fun z=>?_,fun z=>?_,fun z=>?_⟩
   ·have:=(h.st.mlt q z).1;omega
   ·have:=(h.st.ilt q z).1;omega
   ·have:=h.st.map.lt;omega
 ·obtain⟨a,b,c,d⟩:=h.ss hne q hq'
  refine⟨a,b,c,fun e=>?_⟩;rcases nw q e with e'|e'
  ·exact d e'
  ·obtain⟨b',hb,hl⟩:=h.src.block hne
   rw[hq']at hb;cases hb;omega
theorem SumSt.look {va':Value}{la':List Nat}(h:SumSt ek MO U pb sb mo mc ms mn w0 V0 M0 I0 TL TR W lv rv va i j la V BV M I f L R)(hn:Nats W va' la')(hI:la'≠[]→∀q,va'.ownBlock=some q→I q) :
  SumSt ek MO U pb sb mo mc ms mn w0 V0 M0 I0 TL TR W lv rv va' i j la' V BV M I f L R :=
 ⟨h.st,h.nx,h.rl,h.rr,h.cl,h.cr,h.sl,h.sr,hn,fun hne q hq=>⟨fun e=>h.st.pool.sep q e (hI hne q hq),(h.st.ilt q (hI hne q hq)).2,fun e=>(h.sl q e).2.1 (hI hne q hq),fun e=>(h.sr q e).2.1 (hI hne q hq)⟩⟩
theorem SumSt.start {g1 g2:Nat}(h:PSt ek MO U pb sb mo mc ms mn w0 V0 BV M0 I0 f)(hf:Fr NoM w0 W)(r1:NRow w0.heap.size W (.slice (some ⟨g1,0,none⟩) 0 0) [])(r2:NRow w0.heap.size W (.slice (some ⟨g2,0,none⟩) 0 0) [])(h1:w0.heap.size≤g1)(h2:w0.heap.size≤g2)(h12:g1≠g2)(va:Value)(la:List Nat)
  (hn:Nats W va la) (hI:la≠[]→∀q,va.ownBlock=some q→I0 q) :
  SumSt ek MO U pb sb mo mc ms mn w0 V0 M0 I0 TL TR W (.slice (some ⟨g1,0,none⟩) 0 0) (.slice (some ⟨g2,0,none⟩) 0 0) va 0 0 la V0 BV M0 I0 f [] []:=by
 have hs:=h.map.lt;have base:SumSt ek MO U pb sb mo mc ms mn w0 V0 M0 I0 TL TR W (.slice (some ⟨g1,0,none⟩) 0 0) (.slice (some ⟨g2,0,none⟩) 0 0) (.slice none 0 0) 0 0 [] V0 BV M0 I0 f [] []:=by
  refine⟨h.fr0 hf,PNx.of0 hf,r1,r2,RowC.nil _,RowC.nil _,fun q hq=>?_,fun q hq=>?_,SliceOf.nil _ _,fun hne=>absurd rfl hne⟩
  ·have e:g1=q:=Option.some.inj hq
   subst e;refine⟨fun z=>?_,fun z=>?_,fun z=>?_,fun z=>h12 (Option.some.inj z).symm⟩
   ·have:=(h.mlt _ z).1;omega
   ·have:=(h.ilt _ z).1;omega
   ·omega
  ·have e:g2=q:=Option.some.inj hq
   subst e;refine⟨fun z=>?_,fun z=>?_,fun z=>?_⟩
   ·have:=(h.mlt _ z).1;omega
   ·have:=(h.ilt _ z).1;omega
   ·omega
 exact base.look hn hI
end
def NegMO (V:List PL)(f:Nat→Option Nat):Prop:=∀k i,f k=some i→k<V.length/\i<V.length/\(za0 V).getD i 0=negC ((za0 V).getD k 0)
theorem NegMO.mono {V V':List PL}{f:Nat→Option Nat}(h:NegMO V f)(hp:V <+: V'):NegMO V' f:=fun k i e=>by
 obtain⟨a,b,c⟩:=h k i e;have:=hp.length_le;exact⟨by omega,by omega,by rw[zah hp b,zah hp a];exact c⟩
theorem NegMO.none (V:List PL):NegMO V (fun _=>none):=fun _ _ h=>by cases h
def zp6 (U:List Nat)(pb sb:Nat)(mo mc ms:Value)(w:World)(V:List PL)(M I:Nat→Prop)(c:Nat)(e:Ending)(w':World):Prop :=
 ∃(i:Nat) (V':List PL) (BV':List Nat) (M' I':Nat→Prop) (f':Nat→Option Nat),e=.returned (.int .i64 (i:Int)) ∧
   PSt encN NegMO U pb sb mo mc ms (.map (some sb)) w' V' BV' M' I' f'∧PNx sb w V M I w' V' M' I'∧i<V'.length/\(za0 V').getD i 0=c
def SumMO (V:List PL)(f:Nat × Nat→Option Nat):Prop:=∀k i,f k=some i→k.1<V.length/\k.2<V.length/\i<V.length/\(za0 V).getD i 0=sumC ((za0 V).getD k.1 0) ((za0 V).getD k.2 0)
theorem SumMO.mono {V V':List PL}{f:Nat × Nat→Option Nat}(h:SumMO V f)(hp:V <+: V'):SumMO V' f:=fun k i e=>by
 obtain⟨a,b,c,d⟩:=h k i e;have:=hp.length_le;exact⟨by omega,by omega,by omega,by rw[zah hp c,zah hp a,zah hp b];exact d⟩
theorem SumMO.upd {V:List PL}{f:Nat × Nat→Option Nat}{x y i:Nat}(h:SumMO V f)(hx:x<V.length)(hy:y<V.length)(hi:i<V.length)(hc:(za0 V).getD i 0=sumC ((za0 V).getD x 0) ((za0 V).getD y 0)):SumMO V (upd f (x,y) i):=fun k j e=>by
 unfold Go.Proofs.YtcalpapdkmnblaaGreatDoor.upd at e;split at e
 ·rename_i ek;subst ek;cases e;exact⟨hx,hy,hi,hc⟩
 ·exact h k j e
theorem SumMO.none (V:List PL):SumMO V (fun _=>none):=fun _ _ h=>by cases h
def sTL (C:List Nat)(X Y:PL)(cx cy:Nat):List Nat:=(za3 C X.1).map (fun l=>sumC l cy)++(za3 C Y.1).map fun l=>sumC cx l
def sTR (C:List Nat)(X Y:PL)(cx cy:Nat):List Nat:=(za3 C X.2).map (fun l=>sumC l cy)++(za3 C Y.2).map fun l=>sumC cx l
theorem zm5 (C:List Nat)(X Y:PL)(cx cy:Nat):(sTL C X Y cx cy).length=X.1.length+Y.1.length:=by simp[sTL,za3]
theorem zm4 (C:List Nat)(X Y:PL)(cx cy:Nat):(sTR C X Y cx cy).length=X.2.length+Y.2.length:=by simp[sTR,za3]
def zui (U:List Nat)(pb sb:Nat)(mo mc mn:Value)(w:World)(V:List PL)(M I:Nat→Prop)(c:Nat)(e:Ending)(w':World):Prop :=
 ∃(i:Nat) (V':List PL) (BV':List Nat) (M' I':Nat→Prop) (f':Nat × Nat→Option Nat),e=.returned (.int .i64 (i:Int)) ∧
   PSt encP SumMO U pb sb mo mc (.map (some sb)) mn w' V' BV' M' I' f'∧PNx sb w V M I w' V' M' I'∧i<V'.length/\(za0 V').getD i 0=c
def zz8 (U:List Nat)(pb sb:Nat)(mo mc mn:Value)(x y:Nat):Prop:=∀(V:List PL) (BV:List Nat) (M I:Nat→Prop) (f:Nat × Nat→Option Nat) (w:World),PSt encP SumMO U pb sb mo mc (.map (some sb)) mn w V BV M I f→x<V.length→y<V.length →
  (∀a b,SubC ((za0 V).getD x 0) a→SubC ((za0 V).getD y 0) b→sumC a b∈U) →
  Calls Tryz.prog 150 #[.pointer (some ⟨pb,0,none⟩),.int .i64 (x:Int),.int .i64 (y:Int)] w fun e w'=>zui U pb sb mo mc mn w V M I (sumC ((za0 V).getD x 0) ((za0 V).getD y 0)) e w'
set_option maxRecDepth 8000 in
set_option maxHeartbeats 16000000 in
theorem zxy {U:List Nat}(hUl:U.length<1000000)(pb sb:Nat)(mo mc mn:Value):∀n x y,x+y<n→zz8 U pb sb mo mc mn x y:=by
 intro n;induction n with
 | zero=>intro x y h;omega
 | succ n ih =>
  intro x y hn V BV M I f w hst hx hy hU;have hVl:=hst.len;have HIh:=Hh ih;have hbd:=zkq (x:Int) (y:Int);obtain⟨w1,hw1⟩:∃w1,w1=w.alloc (.cells #[.int .i64 (x:Int),.int .i64 (y:Int)] 209):=⟨_,rfl⟩;have hf1:Fr NoM w w1:=by rw[hw1];exact(Fr.refl NoM w).alloc _
  have hs1:w1.heap.size=w.heap.size+1:=by rw[hw1];simp
  have hb1:w1.heap[w.heap.size]?=some (.cells #[.int .i64 (x:Int),.int .i64 (y:Int)] 209 (0,0)):=by rw[hw1];exact heap_alloc_new w _
  have hst1:=hst.fr0 hf1;have hkb:¬(M w.heap.size∨w.heap.size=sb):=fun e=>by
   rcases e with e|e
   ·have:=(hst.mlt _ e).1;omega
   ·have:=hst.map.lt;omega
  have HK:=Hh (fun(W:World) (f:Fr (fun q=>M q∨q=sb) w1 W)=>show W.cell? ⟨w.heap.size,0,none⟩=some (.int .i64 (x:Int))/\W.cell? ⟨w.heap.size,1,none⟩=some (.int .i64 (y:Int))from by
   have h:=f.heap hb1 hkb;exact⟨by rw[cell_of_row W _ 0 _ _ _ h];rfl,by rw[cell_of_row W _ 1 _ _ _ h];rfl⟩)
  have HW01:=Hh (PNx.of0 (sb:=sb) (V:=V) (M:=M) (I:=I) hf1);have HSt:=Hh hst1;obtain⟨X,hX⟩:∃X,X=za5 V x:=⟨_,rfl⟩;obtain⟨Y,hY⟩:∃Y,Y=za5 V y:=⟨_,rfl⟩;obtain⟨C,hC⟩:∃C,C=za0 V:=⟨_,rfl⟩;obtain⟨cx,hcx⟩:∃cx,cx=C.getD x 0:=⟨_,rfl⟩;obtain⟨cy,hcy⟩:∃cy,cy=C.getD y 0:=⟨_,rfl⟩;have kX:=hst.ok.book.code x _ (za6 hx);have kY:=hst.ok.book.code y _ (za6 hy);obtain⟨u1,u2⟩:=hst.ok.opts x _ (za6 hx);obtain⟨v1,v2⟩:=hst.ok.opts y _ (za6 hy);obtain⟨z1,z2⟩:=hst.ok.lens (n:=V.length+1) (Nat.lt_succ_self _) _ (List.mem_of_getElem? (za6 hx));obtain⟨z3,z4⟩:=hst.ok.lens (n:=V.length+1) (Nat.lt_succ_self _) _ (List.mem_of_getElem? (za6 hy));rw[←hX,←hC]at kX;rw[←hcx]at kX;rw[←hY,←hC]at kY;rw[←hcy]at kY;rw[←hX]at u1 u2 z1 z2;rw[←hY]at v1 v2 z3 z4;rw[←hC,←hcx,←hcy]at hU ⊢;have HU:=Hh hU;have HKX:=Hh kX;have HKY:=Hh kY;have HU1:=Hh u1;have HU2:=Hh u2;have HV1:=Hh v1;have HV2:=Hh v2;have HZ:=Hh (show V.length<1000000/\X.1.length≤V.length/\X.2.length≤V.length/\Y.1.length≤V.length/\Y.2.length≤V.length from⟨by omega,by omega,by omega,by omega,by omega⟩);have HX:=Hh hx;have HY:=Hh hy;have Hn:=Hh hn;have HXe:=Hh hX;have HYe:=Hh hY;have HCe:=Hh hC;have HCx:=Hh hcx;have HCy:=Hh hcy;have HUl:=Hh hUl;have HS1:=Hh hs1;have HF1:=Hh hf1
  -- games that stand in a longer pool
  have HTo:=Hh (fun(V1:List PL) (hp:V <+: V1)=>(⟨hp.length_le,fun j hj=>by rw[hC];exact zah hp hj⟩:V.length≤V1.length/\∀j,j<V.length→(za0 V1).getD j 0=C.getD j 0));have HNo:=Hh (fun(V1:List PL) (hp:V <+: V1)=>(⟨by rw[hX];exact zd1 hp hx,by rw[hY];exact zd1 hp hy⟩:za5 V1 x=X/\za5 V1 y=Y));have HSx:=Hh (fun l (hl:l∈X.1∨l∈X.2) a b (ha:SubC (C.getD l 0) a) (hb:SubC cy b)=>show sumC a b∈U from hU a b ((SubC.root.step (show optC cx (C.getD l 0)from by
   rw[kX];exact hl.imp (fun h=>(zau _ _ _).2 (za7.2 ⟨l,h,rfl⟩)) (fun h=>(zas _ _ _).2 (za7.2 ⟨l,h,rfl⟩)))).trans ha) hb)
  have HSy:=Hh (fun l (hl:l∈Y.1∨l∈Y.2) a b (ha:SubC cx a) (hb:SubC (C.getD l 0) b)=>show sumC a b∈U from hU a b ha ((SubC.root.step (show optC cy (C.getD l 0)from by
   rw[kY];exact hl.imp (fun h=>(zau _ _ _).2 (za7.2 ⟨l,h,rfl⟩)) (fun h=>(zas _ _ _).2 (za7.2 ⟨l,h,rfl⟩)))).trans hb))
  clear hst hst1 hU kX kY u1 u2 v1 v2 z1 z2 z3 z4 hx hy hn hX hY hC hcx hcy hUl hs1 hf1 hb1 hkb hVl ih;go_enter Tryz.func150,Tryz.ntmps150;go_wp2_with fail;rw[←hw1];clear hbd hw1;have hd:∀n,Fr NoM w1 (w1.drewN n):=fun n=>⟨rfl,rfl,rfl,Nat.le_refl _,fun _ _ _=>rfl⟩
  have hlook:∀n,(Instr.lookup 118 (.map (some sb)) (.agg #[.int .i64 (x:Int),.int .i64 (y:Int)]) true).run Tryz.prog (w1.drewN n)=.ok (.tuple #[((f (x,y)).map encN).getD (.int .i64 0),.bool (f (x,y)).isSome]) (w1.drewN n):=fun n =>
   MapF.look (w:=w1.drewN n) (HSt.out.map.fr (hd n) (fun q=>q)) zh5 Tryz.underlying118 (Tryz.zeroValue3 _) (x,y) true
  obtain⟨k0,k1⟩:=HK.out w1 (Fr.refl _ _);obtain⟨_,_,_,_,_,_,_,_,p6,_⟩:=HSt.out.pool.rd;have HD:=Hh hd;clear hd;cases hfx:f (x,y)with
  | some a =>
   rw[hfx]at hlook;have hlook:∀n,(Instr.lookup 118 (.map (some sb)) (.agg #[.int .i64 (x:Int),.int .i64 (y:Int)]) true).run Tryz.prog (w1.drewN n)=.ok (.tuple #[.int .i64 (a:Int),.bool true]) (w1.drewN n):=hlook;have ha:=HSt.out.memo _ _ hfx;have HA:=Hh ha;clear hfx ha;go_quiet (fail);go_wp2_with fail;go_ret;exact⟨a,V,BV,M,I,f,rfl,HSt.out.fr0 (HD.out _),HW01.out.trans (PNx.of0 (HD.out _)),HA.out.2.2.1,by rw[HA.out.2.2.2,HCx.out,HCy.out,HCe.out]⟩
  | none =>
   rw[hfx]at hlook;have hlook:∀n,(Instr.lookup 118 (.map (some sb)) (.agg #[.int .i64 (x:Int),.int .i64 (y:Int)]) true).run Tryz.prog (w1.drewN n)=.ok (.tuple #[.int .i64 0,.bool false]) (w1.drewN n):=hlook;clear hfx;go_quiet (fail);obtain⟨w2,hw2⟩:∃w2,w2=w1.drewN nq:=⟨_,rfl⟩;have hf2:Fr NoM w1 w2:=by rw[hw2];exact HD.out nq
   rw[←hw2];clear hlook k0 k1 p6 hw2 HD;go_upto_region 6 with fail;obtain⟨w3,hw3⟩:∃w3,w3=(w2.alloc (.cells #[] 3)).alloc (.cells #[] 3):=⟨_,rfl⟩;have hf3:Fr NoM w2 w3:=by rw[hw3];exact((Fr.refl NoM w2).alloc _).alloc _
   have r1:NRow w1.heap.size w3 (.slice (some ⟨w2.heap.size,0,none⟩) 0 0) []:=by
    rw[hw3];have h:=(NRow.made w2).fr ((Fr.refl NoM _).alloc (.cells #[] 3)) (fun _ _ q=>q);exact⟨zar h.own hf2.size,h.shape⟩
   have r2:NRow w1.heap.size w3 (.slice (some ⟨w2.heap.size+1,0,none⟩) 0 0) []:=by
    rw[hw3];have h:=NRow.made (w2.alloc (.cells #[] 3));rw[World.size_alloc]at h;exact⟨zar h.own (by have:=hf2.size;omega),h.shape⟩
   rw[←hw3];have HA0:=Hh (SumSt.start (TL:=sTL C X Y cx cy) (TR:=sTR C X Y cx cy) HSt.out (hf2.trans hf3 (fun _ _ q=>q)) r1 r2 hf2.size (by have:=hf2.size;omega) (by omega) (.slice none 0 0) [] (SliceOf.nil _ _) (fun h=>absurd rfl h));clear hw3 hf2 hf3 r1 r2 HSt;obtain⟨q1,hq1⟩:∃q1,q1=Value.slice (some ⟨w2.heap.size,0,none⟩) 0 0:=⟨_,rfl⟩;obtain⟨q2,hq2⟩:∃q2,q2=Value.slice (some ⟨w2.heap.size+1,0,none⟩) 0 0:=⟨_,rfl⟩;rw[←hq1,←hq2]at HA0 ⊢;clear hq1 hq2;obtain⟨pl1,plc1,pr1,prc1,p0,p1,_,_,_,_,hls,hrs⟩:=HA0.out.st.pool.rd;have hle:=(HTo.out V HA0.out.nx.pre).1;have hpV:x<V.length:=by have:=HX.out;omega
   obtain⟨gb1,go1,gv1,rfl,c4,n4,i4⟩:=hls x hpV;rw[(HNo.out V HA0.out.nx.pre).1]at n4 i4;have ix4:=zc9 (some ⟨gb1,go1,none⟩) V.length plc1 x gb1 go1 hpV rfl;obtain⟨ua1,uc1,rfl,zz⟩:=id n4;clear zz;have HB1:=Hh (HA0.out.look n4 i4);have hz9:X.1.length≤9223372036854775807:=by have:=HZ.out;omega
   clear hls hrs n4 i4 hle hpV;go_wp2_with fail;clear p0 p1 c4 ix4;go_loopw [10,45] (fun v5 t W=>∃(k:Nat) (v:Value) (V1:List PL) (B1:List Nat) (M1 I1:Nat→Prop) (f1:Nat × Nat→Option Nat) (L1:List Nat),v=v5/\t=.int .i64 k/\k≤X.1.length/\SumSt encP SumMO U pb sb mo mc (.map (some sb)) mn w1 V M I (sTL C X Y cx cy) (sTR C X Y cx cy) W v q2 (.slice ua1 X.1.length uc1) (k) 0 X.1 V1 B1 M1 I1 f1 L1 []) (fun _ t _=>X.1.length-(intOf t).toNat)
   case atStart=>exact⟨0,_,V,BV,M,I,f,[],rfl,rfl,Nat.zero_le _,HB1.out⟩
   case round =>
    obtain⟨k,va1,Va1,Ba1,Ma1,Ia1,fa1,La1,rfl,rfl,hk,hs⟩:=hrel;obtain⟨wa1,rfl⟩:∃w7,w7=wr:=⟨_,rfl⟩;have HS:=Hh hs;by_cases hkl:k<X.1.length
    ·obtain⟨l,hl⟩:∃l,X.1[k]?=some l:=⟨_,List.getElem?_eq_getElem hkl⟩
     have hlx:=HU1.out l (List.mem_of_getElem? hl);obtain⟨hle,hco⟩:=HTo.out Va1 hs.nx.pre;obtain⟨_,_,ee,_,_,hcc⟩:=id hs.src;cases ee
     obtain⟨b3,o3,ha3,c3⟩:=hcc k l hl;unfold encN at c3;have ix3:=za9 ua1 X.1.length uc1 k b3 o3 hkl ha3;have hX0:=HX.out;have hY0:=HY.out;have hn0:=Hn.out;have e1:(za0 Va1).getD l 0=C.getD l 0:=hco l (by omega);have e2:(za0 Va1).getD y 0=cy:=by rw[hco y hY0,HCy.out]
     have hcall:=HIh.out l y (by omega) Va1 Ba1 Ma1 Ia1 fa1 wa1 hs.st (by omega) (by omega) (by rw[e1,e2];exact HSx.out l (.inl (List.mem_of_getElem? hl)));rw[e1,e2]at hcall;have HC:=Hh hcall;have HL:=Hh hl;clear hl hcc ha3 hs hcall e1 e2 hco hle hX0 hY0 hn0;go_wp2_with fail;refine HC.out.mono ?_
     rintro e w8 ⟨i,V2,B2,M2,I2,f2,rfl,st2,nx2,hi2,hc2⟩;have HS8:=Hh (HS.out.call st2 nx2);have HI2:=Hh hi2;have HC2:=Hh hc2;clear st2 nx2 hi2 hc2 c3 ix3;go_wp2_with (at_builtin;refine zad (enc:=encN) _ rfl (.tmp 49) (.tmp 54) 63 rfl w1.heap.size 3 (.int .i64 0) 8 Tryz.underlying63 za8 rfl va1 La1.length (La1.map encN) rfl (HS8.out.fr0 ((Fr.refl NoM w8).alloc _)).rl.own (.slice (some ⟨w8.heap.size,0,none⟩) 1 1) rfl [i] (SliceOf.one encN w8 i 3) (fun _=>rfl) (by have h1:=HS8.out.cl.len;have h2:=HZ.out;rw[List.length_take,zm5]at h1;simp only[List.length_singleton];omega) (by decide) (by have:=HS8.out.nx.fr.size;rw[World.size_alloc];omega) ?_);intro v9 w9 h9 f9 q9;have HS9:=Hh (HS8.out.pushL ((Fr.refl NoM w8).alloc _) h9 f9 (by rw[World.size_alloc];exact q9) (zku HL.out) HI2.out HC2.out);clear h9 f9 q9;go_wp2;go_roundw
     case rel=>exact⟨k+1,v9,V2,B2,M2,I2,f2,La1 ++ [i],rfl,by go_num,by omega,HS9.out⟩
     case measure=>simp[intOf];omega
    ·obtain rfl:k=X.1.length:=by omega
     have HA1:=HS;clear hs HS hk hkl HB1;obtain⟨pl2,plc2,pr2,prc2,p0,p1,_,_,_,_,hls,hrs⟩:=HA1.out.st.pool.rd;have hle:=(HTo.out Va1 HA1.out.nx.pre).1;have hpV:y<Va1.length:=by have:=HY.out;omega
     obtain⟨gb2,go2,gv2,rfl,c4,n4,i4⟩:=hls y hpV;rw[(HNo.out Va1 HA1.out.nx.pre).2]at n4 i4;have ix4:=zc9 (some ⟨gb2,go2,none⟩) Va1.length plc2 y gb2 go2 hpV rfl;obtain⟨ua2,uc2,rfl,zz⟩:=id n4;clear zz;have HB2:=Hh (HA1.out.look n4 i4);have hz9:Y.1.length≤9223372036854775807:=by have:=HZ.out;omega
     clear hls hrs n4 i4 hle hpV;go_wp2_with fail;clear p0 p1 c4 ix4;go_loopw [10,65] (fun v5 t W=>∃(k:Nat) (v:Value) (V1:List PL) (B1:List Nat) (M1 I1:Nat→Prop) (f1:Nat × Nat→Option Nat) (L1:List Nat),v=v5/\t=.int .i64 k/\k≤Y.1.length/\SumSt encP SumMO U pb sb mo mc (.map (some sb)) mn w1 V M I (sTL C X Y cx cy) (sTR C X Y cx cy) W v q2 (.slice ua2 Y.1.length uc2) (X.1.length+k) 0 Y.1 V1 B1 M1 I1 f1 L1 []) (fun _ t _=>Y.1.length-(intOf t).toNat)
     case atStart=>exact⟨0,_,Va1,Ba1,Ma1,Ia1,fa1,La1,rfl,rfl,Nat.zero_le _,HB2.out⟩
     case round =>
      obtain⟨k,va2,Va2,Ba2,Ma2,Ia2,fa2,La2,rfl,rfl,hk,hs⟩:=hrel;obtain⟨wa2,rfl⟩:∃w7,w7=wr:=⟨_,rfl⟩;have HS:=Hh hs;by_cases hkl:k<Y.1.length
      ·obtain⟨l,hl⟩:∃l,Y.1[k]?=some l:=⟨_,List.getElem?_eq_getElem hkl⟩
       have hlx:=HV1.out l (List.mem_of_getElem? hl);obtain⟨hle,hco⟩:=HTo.out Va2 hs.nx.pre;obtain⟨_,_,ee,_,_,hcc⟩:=id hs.src;cases ee
       obtain⟨b3,o3,ha3,c3⟩:=hcc k l hl;unfold encN at c3;have ix3:=za9 ua2 Y.1.length uc2 k b3 o3 hkl ha3;have hX0:=HX.out;have hY0:=HY.out;have hn0:=Hn.out;have e1:(za0 Va2).getD x 0=cx:=by rw[hco x hX0,HCx.out]
       have e2:(za0 Va2).getD l 0=C.getD l 0:=hco l (by omega);have hcall:=HIh.out x l (by omega) Va2 Ba2 Ma2 Ia2 fa2 wa2 hs.st (by omega) (by omega) (by rw[e1,e2];exact HSy.out l (.inl (List.mem_of_getElem? hl)));rw[e1,e2]at hcall;have HC:=Hh hcall;have HL:=Hh hl;clear hl hcc ha3 hs hcall e1 e2 hco hle hX0 hY0 hn0;go_wp2_with fail;refine HC.out.mono ?_
       rintro e w8 ⟨i,V2,B2,M2,I2,f2,rfl,st2,nx2,hi2,hc2⟩;have HS8:=Hh (HS.out.call st2 nx2);have HI2:=Hh hi2;have HC2:=Hh hc2;clear st2 nx2 hi2 hc2 c3 ix3;go_wp2_with (at_builtin;refine zad (enc:=encN) _ rfl (.tmp 69) (.tmp 74) 63 rfl w1.heap.size 3 (.int .i64 0) 8 Tryz.underlying63 za8 rfl va2 La2.length (La2.map encN) rfl (HS8.out.fr0 ((Fr.refl NoM w8).alloc _)).rl.own (.slice (some ⟨w8.heap.size,0,none⟩) 1 1) rfl [i] (SliceOf.one encN w8 i 3) (fun _=>rfl) (by have h1:=HS8.out.cl.len;have h2:=HZ.out;rw[List.length_take,zm5]at h1;simp only[List.length_singleton];omega) (by decide) (by have:=HS8.out.nx.fr.size;rw[World.size_alloc];omega) ?_);intro v9 w9 h9 f9 q9;have HS9:=Hh (HS8.out.pushL ((Fr.refl NoM w8).alloc _) h9 f9 (by rw[World.size_alloc];exact q9) (zht HL.out) HI2.out HC2.out);clear h9 f9 q9;go_wp2;go_roundw
       case rel=>exact⟨k+1,v9,V2,B2,M2,I2,f2,La2 ++ [i],rfl,by go_num,by omega,HS9.out⟩
       case measure=>simp[intOf];omega
      ·obtain rfl:k=Y.1.length:=by omega
       have HA2:=HS;clear hs HS hk hkl HB2;obtain⟨pl3,plc3,pr3,prc3,p0,p1,_,_,_,_,hls,hrs⟩:=HA2.out.st.pool.rd;have hle:=(HTo.out Va2 HA2.out.nx.pre).1;have hpV:x<Va2.length:=by have:=HX.out;omega
       obtain⟨gb3,go3,gv3,rfl,c4,n4,i4⟩:=hrs x hpV;rw[(HNo.out Va2 HA2.out.nx.pre).1]at n4 i4;have ix4:=zc9 (some ⟨gb3,go3,none⟩) Va2.length prc3 x gb3 go3 hpV rfl;obtain⟨ua3,uc3,rfl,zz⟩:=id n4;clear zz;have HB3:=Hh (HA2.out.look n4 i4);have hz9:X.2.length≤9223372036854775807:=by have:=HZ.out;omega
       clear hls hrs n4 i4 hle hpV;go_wp2_with fail;clear p0 p1 c4 ix4;go_loopw [11,85] (fun v5 t W=>∃(k:Nat) (v:Value) (V1:List PL) (B1:List Nat) (M1 I1:Nat→Prop) (f1:Nat × Nat→Option Nat) (L1:List Nat),v=v5/\t=.int .i64 k/\k≤X.2.length/\SumSt encP SumMO U pb sb mo mc (.map (some sb)) mn w1 V M I (sTL C X Y cx cy) (sTR C X Y cx cy) W va2 v (.slice ua3 X.2.length uc3) (X.1.length+Y.1.length) (k) X.2 V1 B1 M1 I1 f1 La2 L1) (fun _ t _=>X.2.length-(intOf t).toNat)
       case atStart=>exact⟨0,_,Va2,Ba2,Ma2,Ia2,fa2,[],rfl,rfl,Nat.zero_le _,HB3.out⟩
       case round =>
        obtain⟨k,va3,Va3,Ba3,Ma3,Ia3,fa3,Ra3,rfl,rfl,hk,hs⟩:=hrel;obtain⟨wa3,rfl⟩:∃w7,w7=wr:=⟨_,rfl⟩;have HS:=Hh hs;by_cases hkl:k<X.2.length
        ·obtain⟨l,hl⟩:∃l,X.2[k]?=some l:=⟨_,List.getElem?_eq_getElem hkl⟩
         have hlx:=HU2.out l (List.mem_of_getElem? hl);obtain⟨hle,hco⟩:=HTo.out Va3 hs.nx.pre;obtain⟨_,_,ee,_,_,hcc⟩:=id hs.src;cases ee
         obtain⟨b3,o3,ha3,c3⟩:=hcc k l hl;unfold encN at c3;have ix3:=za9 ua3 X.2.length uc3 k b3 o3 hkl ha3;have hX0:=HX.out;have hY0:=HY.out;have hn0:=Hn.out;have e1:(za0 Va3).getD l 0=C.getD l 0:=hco l (by omega);have e2:(za0 Va3).getD y 0=cy:=by rw[hco y hY0,HCy.out]
         have hcall:=HIh.out l y (by omega) Va3 Ba3 Ma3 Ia3 fa3 wa3 hs.st (by omega) (by omega) (by rw[e1,e2];exact HSx.out l (.inr (List.mem_of_getElem? hl)));rw[e1,e2]at hcall;have HC:=Hh hcall;have HL:=Hh hl;clear hl hcc ha3 hs hcall e1 e2 hco hle hX0 hY0 hn0;go_wp2_with fail;refine HC.out.mono ?_
         rintro e w8 ⟨i,V2,B2,M2,I2,f2,rfl,st2,nx2,hi2,hc2⟩;have HS8:=Hh (HS.out.call st2 nx2);have HI2:=Hh hi2;have HC2:=Hh hc2;clear st2 nx2 hi2 hc2 c3 ix3;go_wp2_with (at_builtin;refine zad (enc:=encN) _ rfl (.tmp 89) (.tmp 94) 63 rfl w1.heap.size 3 (.int .i64 0) 8 Tryz.underlying63 za8 rfl va3 Ra3.length (Ra3.map encN) rfl (HS8.out.fr0 ((Fr.refl NoM w8).alloc _)).rr.own (.slice (some ⟨w8.heap.size,0,none⟩) 1 1) rfl [i] (SliceOf.one encN w8 i 3) (fun _=>rfl) (by have h1:=HS8.out.cr.len;have h2:=HZ.out;rw[List.length_take,zm4]at h1;simp only[List.length_singleton];omega) (by decide) (by have:=HS8.out.nx.fr.size;rw[World.size_alloc];omega) ?_);intro v9 w9 h9 f9 q9;have HS9:=Hh (HS8.out.pushR ((Fr.refl NoM w8).alloc _) h9 f9 (by rw[World.size_alloc];exact q9) (zku HL.out) HI2.out HC2.out);clear h9 f9 q9;go_wp2;go_roundw
         case rel=>exact⟨k+1,v9,V2,B2,M2,I2,f2,Ra3 ++ [i],rfl,by go_num,by omega,HS9.out⟩
         case measure=>simp[intOf];omega
        ·obtain rfl:k=X.2.length:=by omega
         have HA3:=HS;clear hs HS hk hkl HB3;obtain⟨pl4,plc4,pr4,prc4,p0,p1,_,_,_,_,hls,hrs⟩:=HA3.out.st.pool.rd;have hle:=(HTo.out Va3 HA3.out.nx.pre).1;have hpV:y<Va3.length:=by have:=HY.out;omega
         obtain⟨gb4,go4,gv4,rfl,c4,n4,i4⟩:=hrs y hpV;rw[(HNo.out Va3 HA3.out.nx.pre).2]at n4 i4;have ix4:=zc9 (some ⟨gb4,go4,none⟩) Va3.length prc4 y gb4 go4 hpV rfl;obtain⟨ua4,uc4,rfl,zz⟩:=id n4;clear zz;have HB4:=Hh (HA3.out.look n4 i4);have hz9:Y.2.length≤9223372036854775807:=by have:=HZ.out;omega
         clear hls hrs n4 i4 hle hpV;go_wp2_with fail;clear p0 p1 c4 ix4;go_loopw [11,105] (fun v5 t W=>∃(k:Nat) (v:Value) (V1:List PL) (B1:List Nat) (M1 I1:Nat→Prop) (f1:Nat × Nat→Option Nat) (L1:List Nat),v=v5/\t=.int .i64 k/\k≤Y.2.length/\SumSt encP SumMO U pb sb mo mc (.map (some sb)) mn w1 V M I (sTL C X Y cx cy) (sTR C X Y cx cy) W va2 v (.slice ua4 Y.2.length uc4) (X.1.length+Y.1.length) (X.2.length+k) Y.2 V1 B1 M1 I1 f1 La2 L1) (fun _ t _=>Y.2.length-(intOf t).toNat)
         case atStart=>exact⟨0,_,Va3,Ba3,Ma3,Ia3,fa3,Ra3,rfl,rfl,Nat.zero_le _,HB4.out⟩
         case round =>
          obtain⟨k,va4,Va4,Ba4,Ma4,Ia4,fa4,Ra4,rfl,rfl,hk,hs⟩:=hrel;obtain⟨wa4,rfl⟩:∃w7,w7=wr:=⟨_,rfl⟩;have HS:=Hh hs;by_cases hkl:k<Y.2.length
          ·obtain⟨l,hl⟩:∃l,Y.2[k]?=some l:=⟨_,List.getElem?_eq_getElem hkl⟩
           have hlx:=HV2.out l (List.mem_of_getElem? hl);obtain⟨hle,hco⟩:=HTo.out Va4 hs.nx.pre;obtain⟨_,_,ee,_,_,hcc⟩:=id hs.src;cases ee
           obtain⟨b3,o3,ha3,c3⟩:=hcc k l hl;unfold encN at c3;have ix3:=za9 ua4 Y.2.length uc4 k b3 o3 hkl ha3;have hX0:=HX.out;have hY0:=HY.out;have hn0:=Hn.out;have e1:(za0 Va4).getD x 0=cx:=by rw[hco x hX0,HCx.out]
           have e2:(za0 Va4).getD l 0=C.getD l 0:=hco l (by omega);have hcall:=HIh.out x l (by omega) Va4 Ba4 Ma4 Ia4 fa4 wa4 hs.st (by omega) (by omega) (by rw[e1,e2];exact HSy.out l (.inr (List.mem_of_getElem? hl)));rw[e1,e2]at hcall;have HC:=Hh hcall;have HL:=Hh hl;clear hl hcc ha3 hs hcall e1 e2 hco hle hX0 hY0 hn0;go_wp2_with fail;refine HC.out.mono ?_
           rintro e w8 ⟨i,V2,B2,M2,I2,f2,rfl,st2,nx2,hi2,hc2⟩;have HS8:=Hh (HS.out.call st2 nx2);have HI2:=Hh hi2;have HC2:=Hh hc2;clear st2 nx2 hi2 hc2 c3 ix3;go_wp2_with (at_builtin;refine zad (enc:=encN) _ rfl (.tmp 109) (.tmp 114) 63 rfl w1.heap.size 3 (.int .i64 0) 8 Tryz.underlying63 za8 rfl va4 Ra4.length (Ra4.map encN) rfl (HS8.out.fr0 ((Fr.refl NoM w8).alloc _)).rr.own (.slice (some ⟨w8.heap.size,0,none⟩) 1 1) rfl [i] (SliceOf.one encN w8 i 3) (fun _=>rfl) (by have h1:=HS8.out.cr.len;have h2:=HZ.out;rw[List.length_take,zm4]at h1;simp only[List.length_singleton];omega) (by decide) (by have:=HS8.out.nx.fr.size;rw[World.size_alloc];omega) ?_);intro v9 w9 h9 f9 q9;have HS9:=Hh (HS8.out.pushR ((Fr.refl NoM w8).alloc _) h9 f9 (by rw[World.size_alloc];exact q9) (zht HL.out) HI2.out HC2.out);clear h9 f9 q9;go_wp2;go_roundw
           case rel=>exact⟨k+1,v9,V2,B2,M2,I2,f2,Ra4 ++ [i],rfl,by go_num,by omega,HS9.out⟩
           case measure=>simp[intOf];omega
          ·obtain rfl:k=Y.2.length:=by omega
           have HA4:=HS;clear hs HS hk hkl HB4;obtain⟨lb,lc,hlb⟩:=HA4.out.rl.shape;obtain⟨rb,rc,hrb⟩:=HA4.out.rr.shape;subst hlb;subst hrb;have hcl:=HA4.out.cl;rw[List.take_of_length_le (by rw[zm5];exact Nat.le_refl _)]at hcl;have hcr:=HA4.out.cr;rw[List.take_of_length_le (by rw[zm4];exact Nat.le_refl _)]at hcr;have hmk:mkC (sTL C X Y cx cy) (sTR C X Y cx cy)=sumC cx cy:=zxp HKX.out HKY.out;have hlen:=HA4.out.st.len;have hul:=HUl.out;have hz:=HZ.out;have l1:=hcl.len;have l2:=hcr.len;rw[zm5]at l1;rw[zm4]at l2;have hnd:=zm9 pb Va4 Ba4 La2 Ra4 mo mc (.map (some sb)) mn lb 0 lc rb 0 rc wa4 HA4.out.st.pool HA4.out.rl.nats HA4.out.rr.nats hcl.1 hcr.1 (by omega) (by omega) (by omega) (fun q hq=>by have:=(zf7 HA4.out.st.ok).lt Va4.length (Nat.le_refl _) q hq;omega);have hin:mkC (sTL C X Y cx cy) (sTR C X Y cx cy)∈U:=by rw[hmk];exact HU.out cx cy .root .root
           have HND:=Hh hnd;have HCL:=Hh hcl;have HCR:=Hh hcr;have HMk:=Hh hmk;have HIn:=Hh hin;clear hcl hcr hmk hlen hul hz l1 l2 hnd hin;go_wp2_with fail;refine HND.out.mono ?_
           rintro e w5 ⟨rfl,M5,I5,p5,hM5,hI5,f5⟩;obtain⟨st5,nx5,hr5,hc5⟩:=HA4.out.st.node (fun h hp=>h.mono hp) HCL.out HCR.out HIn.out p5 hM5 hI5 f5;rw[HMk.out]at hc5;have nx15:=HA4.out.nx.trans nx5;obtain⟨V5,hV5⟩:∃V5,V5=(za4 Va4 Ba4 La2 Ra4).1:=⟨_,rfl⟩;obtain⟨B5,hB5⟩:∃B5,B5=(za4 Va4 Ba4 La2 Ra4).2.1:=⟨_,rfl⟩;obtain⟨r5,hr5e⟩:∃r5,r5=(za4 Va4 Ba4 La2 Ra4).2.2:=⟨_,rfl⟩;rw[←hV5,←hB5]at st5;rw[←hV5]at nx15 hr5 hc5;rw[←hr5e]at hr5 hc5 ⊢;obtain⟨k0,k1⟩:=HK.out w5 nx15.fr;obtain⟨_,_,_,_,_,_,_,_,p6,_⟩:=st5.pool.rd;obtain⟨hle5,hco5⟩:=HTo.out V5 nx15.pre;have hX0:=HX.out;have hY0:=HY.out;obtain⟨w9,hrun,hm9,hf9⟩:=MapF.store (P:=Tryz.prog) (w:=w5.drew) (st5.map.fr ((Fr.refl NoM w5).drew) (fun q=>q)) zh5 Tryz.underlying118 (x,y) r5;have hrun:(Instr.mapUpdate 118 (.map (some sb)) (.agg #[.int .i64 (x:Int),.int .i64 (y:Int)]) (.int .i64 (r5:Int))).run Tryz.prog w5.drew=.ok () w9:=hrun;obtain⟨st9,nx9⟩:=st5.store (((Fr.refl NoM w5).drew.any).trans hf9 (fun _ _ q=>q)) hm9 (st5.memo.upd (show x<V5.length from by omega) (show y<V5.length from by omega) hr5 (by rw[hc5,hco5 x hX0,hco5 y hY0,HCx.out,HCy.out]));have HEnd:=Hh (And.intro st9 (And.intro (HW01.out.trans (nx15.trans nx9)) (And.intro hr5 hc5)));clear st9 nx9 hr5 hc5 hm9 hf9 hle5 hco5 hX0 hY0 nx15 st5 nx5 p5 hM5 hI5 f5 hV5 hB5 hr5e;go_upto_region 27 with fail;go_cut []from 121 (fun wx=>wx=w9)
           case first =>
            go_region_law (fail);all_goals
             go_wp2_with fail;go_meet
             case rel=>rfl
           case rest =>
            subst hcut;clear hrun k0 k1 p6;go_wp2_with fail;go_ret;exact⟨r5,V5,B5,_,_,_,rfl,HEnd.out.1,HEnd.out.2.1,HEnd.out.2.2.1,HEnd.out.2.2.2⟩
end Go.Proofs.YtcalpapdkmnblaaGreatDoor
