import Derived.Test.YtlapkmhemepcaaaGreatDoorZic
import Derived.Test.YtlapkmhemepcaaaGreatDoorZiq
/- Lemmas. -/
set_option linter.all false
namespace Go.Proofs.YtlapkmhemepcaaaGreatDoor
open Go.RowKit
section
variable {κ:Type}{ek:κ->Value}{MO:List PL->(κ->Option Nat)->Prop}{U:List Nat}{pb sb:Nat}{mo mc ms mn:Value}{W W' W1 W2:World}{V V' V1 V2:List PL}{BV BV':List Nat}{M I M' I' M1 I1 M2 I2 X:Nat->Prop}{f f':κ->Option Nat}
theorem PNx.own {v:Value}(h:PNx sb W V M I W1 V1 M1 I1)(hf:Fr (Own1 v) W1 W2)(hv:∀q,v.ownBlock=some q->W.heap.size<=q):PNx sb W V M I W2 V1 M1 I1 :=
 ⟨h.pre,h.mM,h.mI,h.fr.trans hf (λk hk q=>by have:=hv k q;omega)⟩
theorem PSt.store (h:PSt ek MO U pb sb mo mc ms mn W V BV M I f)(hf:Fr (λq=>q=sb) W W')(hm:MapF ek encN W' sb f')(ho:MO V f'):PSt ek MO U pb sb mo mc ms mn W' V BV M I f'/\PNx sb W V M I W' V M I :=
 ⟨⟨h.pool.fr hf (λq hq e=>(h.mlt q hq).2 e) (λq hq e=>(h.ilt q hq).2 e),h.ok,h.inU,hm,ho,λq hq=>⟨vJ (h.mlt q hq).1 hf.size,(h.mlt q hq).2⟩,λq hq=>⟨vJ (h.ilt q hq).1 hf.size,(h.ilt q hq).2⟩⟩,
  ⟨List.prefix_refl _,λ_ h=>.inl h,λ_ h=>.inl h,hf.mono (λ_ _ q=>.inr q)⟩⟩
end
structure SumSt {κ:Type}(ek:κ->Value) (MO:List PL->(κ->Option Nat)->Prop) (U:List Nat) (pb sb:Nat) (mo mc ms mn:Value) (w0:World) (V0:List PL) (M0 I0:Nat->Prop) (TL TR:List Nat)
  (W:World) (lv rv va:Value) (i j:Nat) (la:List Nat) (V:List PL) (BV:List Nat) (M I:Nat->Prop) (f:κ->Option Nat) (L R:List Nat):Prop where
 st:PSt ek MO U pb sb mo mc ms mn W V BV M I f
 nx:PNx sb w0 V0 M0 I0 W V M I
 rl:NRow w0.heap.size W lv L
 rr:NRow w0.heap.size W rv R
 cl:RowC V L (TL.take i)
 cr:RowC V R (TR.take j)
 sl:∀q,lv.ownBlock=some q->¬M q/\¬I q/\q≠sb/\rv.ownBlock≠some q
 sr:∀q,rv.ownBlock=some q->¬M q/\¬I q/\q≠sb
 src:Nats W va la
 ss:la≠[]->∀q,va.ownBlock=some q->¬M q/\q≠sb/\lv.ownBlock≠some q/\rv.ownBlock≠some q
section
variable {κ:Type}{ek:κ->Value}{MO:List PL->(κ->Option Nat)->Prop}{U:List Nat}{pb sb:Nat}{mo mc ms mn:Value}{w0 W W' Wa:World}{V0 V V':List PL}{BV BV' TL TR la L R:List Nat}{M0 I0 M I M' I':Nat->Prop}{f f':κ->Option Nat}{lv rv va v':Value}{i j x c:Nat}
theorem SumSt.call (h:SumSt ek MO U pb sb mo mc ms mn w0 V0 M0 I0 TL TR W lv rv va i j la V BV M I f L R)(st:PSt ek MO U pb sb mo mc ms mn W' V' BV' M' I' f')(nx:PNx sb W V M I W' V' M' I') : SumSt ek MO U pb sb mo mc ms mn w0 V0 M0 I0 TL TR W' lv rv va i j la V' BV' M' I' f' L R:=by have kM:∀q,q<W.heap.size->¬M q->¬M' q:=λq hq hm e=>(nx.mM q e).elim hm (λz=>by omega);have kI:∀q,q<W.heap.size->¬I q->¬I' q:=λq hq hm e=>(nx.mI q e).elim hm (λz=>by omega);refine⟨st,h.nx.trans nx,h.rl.fr nx.fr (λq hq e=>e.elim (h.sl q hq).1 (h.sl q hq).2.2.1),h.rr.fr nx.fr (λq hq e=>e.elim (h.sr q hq).1 (h.sr q hq).2.2),h.cl.mono nx.pre,h.cr.mono nx.pre,λq hq=>?_,λq hq=>?_,h.src.fr nx.fr (λhne q hq e=>e.elim (h.ss hne q hq).1 (h.ss hne q hq).2.1),λhne q hq=>?_⟩;{have hl:=(h.rl.own.lt q hq).2;obtain⟨a,b,c,d⟩:=h.sl q hq;exact⟨kM q hl a,kI q hl b,c,d⟩};{have hl:=(h.rr.own.lt q hq).2;obtain⟨a,b,c⟩:=h.sr q hq;exact⟨kM q hl a,kI q hl b,c⟩};{obtain⟨b,hb,hl⟩:=h.src.block hne;rw[hq]at hb;cases hb;obtain⟨a,b,c,d⟩:=h.ss hne q hq;exact⟨kM q hl a,b,c,d⟩}
theorem SumSt.fr0 (h:SumSt ek MO U pb sb mo mc ms mn w0 V0 M0 I0 TL TR W lv rv va i j la V BV M I f L R)(hf:Fr NoM W W'):SumSt ek MO U pb sb mo mc ms mn w0 V0 M0 I0 TL TR W' lv rv va i j la V BV M I f L R :=
 h.call (h.st.fr0 hf) (PNx.of0 hf)
theorem SumSt.pushL (h:SumSt ek MO U pb sb mo mc ms mn w0 V0 M0 I0 TL TR W lv rv va i j la V BV M I f L R)(ha:Fr NoM W Wa)(ho:W'.ownsRow w0.heap.size 3 1 v' (L.length+1) (L.map encN ++ [encN x]))(hf:Fr (Own1 lv) Wa W') (hq:v'.ownBlock=lv.ownBlock\/∃b,v'.ownBlock=some b/\Wa.heap.size<=b) (hi:TL[i]?=some c) (hx:x<V.length) (hc:(za0 V).getD x 0=c) : SumSt ek MO U pb sb mo mc ms mn w0 V0 M0 I0 TL TR W' v' rv va (i+1) j la V BV M I f (L ++ [x]) R:=by have h:=h.fr0 ha;have nw:∀q,v'.ownBlock=some q->lv.ownBlock=some q\/Wa.heap.size<=q:=λq e=>by{rcases hq with h1|⟨b,h1,h2⟩;{exact .inl (h1 ▸ e)};{rw[h1]at e;cases e;exact .inr h2}};refine⟨h.st.fr hf (λq hq'=>⟨(h.sl q hq').1,(h.sl q hq').2.1,(h.sl q hq').2.2.1⟩),h.nx.own hf (λq hq'=>(h.rl.own.lt q hq').1),NRow.snoc ho,h.rr.fr hf (λq hq' e=>(h.sl q e).2.2.2 hq'),h.cl.next hi hx hc,h.cr,λq e=>?_,h.sr,h.src.fr hf (λhne q hq' e=>(h.ss hne q hq').2.2.1 e),λhne q hq'=>?_⟩;{rcases nw q e with e'|e';{exact h.sl q e'};{refine⟨λz=>?_,λz=>?_,λz=>?_,λz=>?_⟩;{have:=(h.st.mlt q z).1;omega};{have:=(h.st.ilt q z).1;omega};{have:=h.st.map.lt;omega};{have:=(h.rr.own.lt q z).2;omega}}};{obtain⟨a,b,c,d⟩:=h.ss hne q hq';refine⟨a,b,λe=>?_,d⟩;rcases nw q e with e'|e';{exact c e'};{obtain⟨b',hb,hl⟩:=h.src.block hne;rw[hq']at hb;cases hb;omega}}
theorem SumSt.pushR (h:SumSt ek MO U pb sb mo mc ms mn w0 V0 M0 I0 TL TR W lv rv va i j la V BV M I f L R)(ha:Fr NoM W Wa)(ho:W'.ownsRow w0.heap.size 3 1 v' (R.length+1) (R.map encN ++ [encN x]))(hf:Fr (Own1 rv) Wa W') (hq:v'.ownBlock=rv.ownBlock\/∃b,v'.ownBlock=some b/\Wa.heap.size<=b) (hi:TR[j]?=some c) (hx:x<V.length) (hc:(za0 V).getD x 0=c) : SumSt ek MO U pb sb mo mc ms mn w0 V0 M0 I0 TL TR W' lv v' va i (j+1) la V BV M I f L (R ++ [x]):=by have h:=h.fr0 ha;have nw:∀q,v'.ownBlock=some q->rv.ownBlock=some q\/Wa.heap.size<=q:=λq e=>by{rcases hq with h1|⟨b,h1,h2⟩;{exact .inl (h1 ▸ e)};{rw[h1]at e;cases e;exact .inr h2}};refine⟨h.st.fr hf (λq hq'=>⟨(h.sr q hq').1,(h.sr q hq').2.1,(h.sr q hq').2.2⟩),h.nx.own hf (λq hq'=>(h.rr.own.lt q hq').1),h.rl.fr hf (λq hq' e=>(h.sl q hq').2.2.2 e),NRow.snoc ho,h.cl,h.cr.next hi hx hc,λq e=>?_,λq e=>?_,h.src.fr hf (λhne q hq' e=>(h.ss hne q hq').2.2.2 e),λhne q hq'=>?_⟩;{obtain⟨a,b,c,d⟩:=h.sl q e;refine⟨a,b,c,λz=>?_⟩;rcases nw q z with z|z;{exact d z};{have:=(h.rl.own.lt q e).2;omega}};{rcases nw q e with e'|e';{exact h.sr q e'};{refine⟨λz=>?_,λz=>?_,λz=>?_⟩;{have:=(h.st.mlt q z).1;omega};{have:=(h.st.ilt q z).1;omega};{have:=h.st.map.lt;omega}}};{obtain⟨a,b,c,d⟩:=h.ss hne q hq';refine⟨a,b,c,λe=>?_⟩;rcases nw q e with e'|e';{exact d e'};{obtain⟨b',hb,hl⟩:=h.src.block hne;rw[hq']at hb;cases hb;omega}}
theorem SumSt.look {va':Value}{la':List Nat}(h:SumSt ek MO U pb sb mo mc ms mn w0 V0 M0 I0 TL TR W lv rv va i j la V BV M I f L R)(hn:Nats W va' la')(hI:la'≠[]->∀q,va'.ownBlock=some q->I q) :
  SumSt ek MO U pb sb mo mc ms mn w0 V0 M0 I0 TL TR W lv rv va' i j la' V BV M I f L R :=
 ⟨h.st,h.nx,h.rl,h.rr,h.cl,h.cr,h.sl,h.sr,hn,λhne q hq=>⟨λe=>h.st.pool.sep q e (hI hne q hq),(h.st.ilt q (hI hne q hq)).2,λe=>(h.sl q e).2.1 (hI hne q hq),λe=>(h.sr q e).2.1 (hI hne q hq)⟩⟩
theorem SumSt.start {g1 g2:Nat}(h:PSt ek MO U pb sb mo mc ms mn w0 V0 BV M0 I0 f)(hf:Fr NoM w0 W)(r1:NRow w0.heap.size W (.slice (some ⟨g1,0,none⟩) 0 0) [])(r2:NRow w0.heap.size W (.slice (some ⟨g2,0,none⟩) 0 0) [])(h1:w0.heap.size<=g1)(h2:w0.heap.size<=g2)(h12:g1≠g2)(va:Value)(la:List Nat) (hn:Nats W va la) (hI:la≠[]->∀q,va.ownBlock=some q->I0 q) : SumSt ek MO U pb sb mo mc ms mn w0 V0 M0 I0 TL TR W (.slice (some ⟨g1,0,none⟩) 0 0) (.slice (some ⟨g2,0,none⟩) 0 0) va 0 0 la V0 BV M0 I0 f [] []:=by have hs:=h.map.lt;have base:SumSt ek MO U pb sb mo mc ms mn w0 V0 M0 I0 TL TR W (.slice (some ⟨g1,0,none⟩) 0 0) (.slice (some ⟨g2,0,none⟩) 0 0) (.slice none 0 0) 0 0 [] V0 BV M0 I0 f [] []:=by{refine⟨h.fr0 hf,PNx.of0 hf,r1,r2,RowC.nil _,RowC.nil _,λq hq=>?_,λq hq=>?_,SliceOf.nil _ _,λhne=>absurd rfl hne⟩;{have e:g1=q:=yK hq;subst e;refine⟨λz=>?_,λz=>?_,λz=>?_,λz=>h12 (yK z).symm⟩;{have:=(h.mlt _ z).1;omega};{have:=(h.ilt _ z).1;omega};{omega}};{have e:g2=q:=yK hq;subst e;refine⟨λz=>?_,λz=>?_,λz=>?_⟩;{have:=(h.mlt _ z).1;omega};{have:=(h.ilt _ z).1;omega};{omega}}};exact base.look hn hI
end
