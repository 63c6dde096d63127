import Derived.Test.YtkofnbjjbcohgaaGreatDoorZwb
import Derived.Test.YtkofnbjjbcohgaaGreatDoorZwo
/- Lemmas. -/
namespace Go.Proofs.YtkofnbjjbcohgaaGreatDoor
set_option linter.unusedVariables false
set_option linter.unusedSimpArgs false
open Go.RowKit
def CanMO (V:List PL)(f:Nat→Option Nat):Prop:=∀k i,f k=some i→k<V.length/\i<V.length/\IsCan ((za0 V).getD i 0) ((za0 V).getD k 0)
theorem CanMO.mono {V V':List PL}{f:Nat→Option Nat}(h:CanMO V f)(hp:V <+: V'):CanMO V' f:=fun k i e=>by
 obtain⟨a,b,c⟩:=h k i e;have:=hp.length_le;exact⟨by omega,by omega,by rw[zbk hp b,zbk hp a];exact c⟩
theorem CanMO.upd {V:List PL}{f:Nat→Option Nat}{x i:Nat}(h:CanMO V f)(hx:x<V.length)(hi:i<V.length)(hc:IsCan ((za0 V).getD i 0) ((za0 V).getD x 0)):CanMO V (upd f x i):=fun k j e=>by
 unfold Go.Proofs.YtkofnbjjbcohgaaGreatDoor.upd at e;split at e
 ·rename_i ek;subst ek;cases e;exact⟨hx,hi,hc⟩
 ·exact h k j e
theorem CanMO.none (V:List PL):CanMO V (fun _=>none):=fun _ _ h=>by cases h
structure CSt (U:List Nat) (pb ob sb:Nat) (ms mn:Value) (W:World) (V:List PL) (BV:List Nat) (M I:Nat→Prop) (fo:Nat × Nat→Option Bool) (fc:Nat→Option Nat):Prop where
 pool:PoolS M I W pb V BV (.map (some ob)) (.map (some sb)) ms mn
 ok:PoolOK V BV
 inU:∀x,x<V.length→(za0 V).getD x 0∈U
 ord:MapF encP encB W ob fo
 ordOK:OrdF (za0 V) fo
 can:MapF encN encN W sb fc
 canOK:CanMO V fc
 mlt:∀q,M q→q<W.heap.size/\q≠ob/\q≠sb
 ilt:∀q,I q→q<W.heap.size/\q≠ob/\q≠sb
 os:ob≠sb
structure CNx (ob sb:Nat) (W:World) (V:List PL) (M I:Nat→Prop) (W':World) (V':List PL) (M' I':Nat→Prop):Prop where
 pre:V <+: V'
 mM:∀q,M' q→M q∨W.heap.size≤q
 mI:∀q,I' q→I q∨W.heap.size≤q
 fr:Fr (fun q=>M q∨q=ob∨q=sb) W W'
section
variable {U:List Nat}{pb ob sb:Nat}{ms mn:Value}{W W' W1 W2:World}{V V' V1 V2:List PL}{BV BV':List Nat}{M I M' I' M1 I1 M2 I2 X:Nat→Prop}{fo fo':Nat × Nat→Option Bool}{fc fc':Nat→Option Nat}
theorem CSt.fr (h:CSt U pb ob sb ms mn W V BV M I fo fc)(hf:Fr X W W')(hx:∀q,X q→¬M q/\¬I q/\q≠ob/\q≠sb):CSt U pb ob sb ms mn W' V BV M I fo fc :=
 ⟨h.pool.fr hf (fun q hq hX=>(hx q hX).1 hq) (fun q hq hX=>(hx q hX).2.1 hq),h.ok,h.inU,h.ord.fr hf (fun hX=>(hx ob hX).2.2.1 rfl),h.ordOK,h.can.fr hf (fun hX=>(hx sb hX).2.2.2 rfl),h.canOK,fun q hq=>⟨Nat.lt_of_lt_of_le (h.mlt q hq).1 hf.size,(h.mlt q hq).2⟩,fun q hq=>⟨Nat.lt_of_lt_of_le (h.ilt q hq).1 hf.size,(h.ilt q hq).2⟩,h.os⟩
theorem CSt.fr0 (h:CSt U pb ob sb ms mn W V BV M I fo fc)(hf:Fr NoM W W'):CSt U pb ob sb ms mn W' V BV M I fo fc:=h.fr hf (fun _ q=>q.elim)
theorem CSt.len (h:CSt U pb ob sb ms mn W V BV M I fo fc):V.length≤U.length:=zm1 h.ok h.inU
theorem CNx.refl (ob sb:Nat)(W:World)(V:List PL)(M I:Nat→Prop):CNx ob sb W V M I W V M I:=⟨List.prefix_refl _,fun _ h=>.inl h,fun _ h=>.inl h,Fr.refl _ _⟩
theorem CNx.of0 (hf:Fr NoM W W'):CNx ob sb W V M I W' V M I:=⟨List.prefix_refl _,fun _ h=>.inl h,fun _ h=>.inl h,hf.any⟩
theorem CNx.trans (h:CNx ob sb W V M I W1 V1 M1 I1)(h':CNx ob sb W1 V1 M1 I1 W2 V2 M2 I2):CNx ob sb W V M I W2 V2 M2 I2 :=
 ⟨h.pre.trans h'.pre,fun q hq=>(h'.mM q hq).elim (h.mM q) (fun z=>.inr (Nat.le_trans h.fr.size z)),fun q hq=>(h'.mI q hq).elim (h.mI q) (fun z=>.inr (Nat.le_trans h.fr.size z)),
  h.fr.trans h'.fr (fun k hk q=>q.elim (fun q=>(h.mM k q).elim .inl (fun z=>by omega)) .inr)⟩
theorem CNx.own {Y:Nat→Prop}(h:CNx ob sb W V M I W1 V1 M1 I1)(hf:Fr Y W1 W2)(hv:∀q,Y q→W.heap.size≤q):CNx ob sb W V M I W2 V1 M1 I1 :=
 ⟨h.pre,h.mM,h.mI,h.fr.trans hf (fun k hk q=>by have:=hv k q;omega)⟩
theorem CSt.ords (h:CSt U pb ob sb ms mn W V BV M I fo fc)(hf:Fr (fun q=>q=ob) W W')(hm:MapF encP encB W' ob fo')(ho:OrdF (za0 V) fo'):CSt U pb ob sb ms mn W' V BV M I fo' fc/\CNx ob sb W V M I W' V M I :=
 ⟨⟨h.pool.fr hf (fun q hq e=>(h.mlt q hq).2.1 e) (fun q hq e=>(h.ilt q hq).2.1 e),h.ok,h.inU,hm,ho,h.can.fr hf (fun e=>h.os e.symm),h.canOK,fun q hq=>⟨Nat.lt_of_lt_of_le (h.mlt q hq).1 hf.size,(h.mlt q hq).2⟩,fun q hq=>⟨Nat.lt_of_lt_of_le (h.ilt q hq).1 hf.size,(h.ilt q hq).2⟩,h.os⟩,
  ⟨List.prefix_refl _,fun _ h=>.inl h,fun _ h=>.inl h,hf.mono (fun _ _ q=>.inr (.inl q))⟩⟩
theorem CSt.store (h:CSt U pb ob sb ms mn W V BV M I fo fc)(hf:Fr (fun q=>q=sb) W W')(hm:MapF encN encN W' sb fc')(ho:CanMO V fc'):CSt U pb ob sb ms mn W' V BV M I fo fc'∧CNx ob sb W V M I W' V M I :=
 ⟨⟨h.pool.fr hf (fun q hq e=>(h.mlt q hq).2.2 e) (fun q hq e=>(h.ilt q hq).2.2 e),h.ok,h.inU,h.ord.fr hf (fun e=>h.os e),h.ordOK,hm,ho,fun q hq=>⟨Nat.lt_of_lt_of_le (h.mlt q hq).1 hf.size,(h.mlt q hq).2⟩,fun q hq=>⟨Nat.lt_of_lt_of_le (h.ilt q hq).1 hf.size,(h.ilt q hq).2⟩,h.os⟩,
  ⟨List.prefix_refl _,fun _ h=>.inl h,fun _ h=>.inl h,hf.mono (fun _ _ q=>.inr (.inr q))⟩⟩
theorem CSt.node {L R cs ds:List Nat}(h:CSt U pb ob sb ms mn W V BV M I fo fc)(hL:RowC V L cs)(hR:RowC V R ds)(hc:mkC cs ds∈U)
  (p:PoolS M' I' W' pb (za3 V BV L R).1 (za3 V BV L R).2.1 (.map (some ob)) (.map (some sb)) ms mn) (hM:∀q,M' q→M q∨W.heap.size≤q) (hI:∀q,I' q→I q∨W.heap.size≤q) (hf:Fr M W W') :
  CSt U pb ob sb ms mn W' (za3 V BV L R).1 (za3 V BV L R).2.1 (fun q=>M' q/\q<W'.heap.size) (fun q=>I' q/\q<W'.heap.size) fo fc ∧
   CNx ob sb W V M I W' (za3 V BV L R).1 (fun q=>M' q/\q<W'.heap.size) (fun q=>I' q/\q<W'.heap.size)/\(za3 V BV L R).2.2<(za3 V BV L R).1.length/\(za0 (za3 V BV L R).1).getD (za3 V BV L R).2.2 0=mkC cs ds:=by
 obtain⟨q1,q2,q3,q4⟩:=zsc h.ok hL hR;have h1:=h.ord.lt;have h2:=h.can.lt;refine⟨⟨p.low,q1,zin h.inU (by rw[q4];exact hc),h.ord.fr hf (fun e=>(h.mlt ob e).2.1 rfl),h.ordOK.mono (zdh q2),h.can.fr hf (fun e=>(h.mlt sb e).2.2 rfl),h.canOK.mono q2,fun q hq=>⟨hq.2,fun e=>?_,fun e=>?_⟩,fun q hq=>⟨hq.2,fun e=>?_,fun e=>?_⟩,h.os⟩,⟨q2,fun q hq=>hM q hq.1,fun q hq=>hI q hq.1,hf.mono (fun _ _ q=>.inl q)⟩,q3,q4⟩
 ·exact(hM q hq.1).elim (fun z=>(h.mlt q z).2.1 e) (fun z=>by omega)
 ·exact(hM q hq.1).elim (fun z=>(h.mlt q z).2.2 e) (fun z=>by omega)
 ·exact(hI q hq.1).elim (fun z=>(h.ilt q z).2.1 e) (fun z=>by omega)
 ·exact(hI q hq.1).elim (fun z=>(h.ilt q z).2.2 e) (fun z=>by omega)
end
structure RSt (U:List Nat) (pb ob sb mb:Nat) (ms mn:Value) (w0:World) (V0:List PL) (M0 I0:Nat→Prop) (W:World) (qv kv va:Value) (Q Kp la:List Nat) (fs:Nat→Option Bool) (V:List PL) (BV:List Nat) (M I:Nat→Prop) (fo:Nat × Nat→Option Bool) (fc:Nat→Option Nat):Prop where
 st:CSt U pb ob sb ms mn W V BV M I fo fc
 nx:CNx ob sb w0 V0 M0 I0 W V M I
 rq:W.ownsRow w0.heap.size 3 1 qv Q.length (Q.map encN)
 rk:W.ownsRow w0.heap.size 3 1 kv Kp.length (Kp.map encN)
 sq:∀q,qv.ownBlock=some q→¬M q/\¬I q/\q≠ob/\q≠sb/\q≠mb/\kv.ownBlock≠some q
 sk:∀q,kv.ownBlock=some q→¬M q/\¬I q/\q≠ob/\q≠sb/\q≠mb
 smap:MapF encN encB W mb fs
 sm:¬M mb/\¬I mb/\mb≠ob/\mb≠sb/\w0.heap.size≤mb
 src:Nats W va la
 ss:la≠[]→∀q,va.ownBlock=some q→¬M q/\q≠ob/\q≠sb/\q≠mb/\qv.ownBlock≠some q/\kv.ownBlock≠some q
section
variable {U:List Nat}{pb ob sb mb:Nat}{ms mn:Value}{w0 W W' Wa:World}{V0 V V':List PL}{BV BV' Q Kp la L:List Nat}{M0 I0 M I M' I':Nat→Prop}{fo fo':Nat × Nat→Option Bool}{fc fc':Nat→Option Nat}{fs fs':Nat→Option Bool}{qv kv va v':Value}
theorem RSt.call (h:RSt U pb ob sb mb ms mn w0 V0 M0 I0 W qv kv va Q Kp la fs V BV M I fo fc)(st:CSt U pb ob sb ms mn W' V' BV' M' I' fo' fc')(nx:CNx ob sb W V M I W' V' M' I') :
  RSt U pb ob sb mb ms mn w0 V0 M0 I0 W' qv kv va Q Kp la fs V' BV' M' I' fo' fc':=by
 have kM:∀q,q<W.heap.size→¬M q→¬M' q:=fun q hq hm e=>(nx.mM q e).elim hm (fun z=>by omega)
 have kI:∀q,q<W.heap.size→¬I q→¬I' q:=fun q hq hm e=>(nx.mI q e).elim hm (fun z=>by omega)
 have hml:=h.smap.lt;refine⟨st,h.nx.trans nx,za2 h.rq nx.fr (fun q hq e=>?_),za2 h.rk nx.fr (fun q hq e=>?_),fun q hq=>?_,fun q hq=>?_,h.smap.fr nx.fr (fun e=>?_),⟨kM mb hml h.sm.1,kI mb hml h.sm.2.1,h.sm.2.2⟩,h.src.fr nx.fr (fun hne q hq e=>?_),fun hne q hq=>?_⟩
 ·obtain⟨a,b,c,d,_⟩:=h.sq q hq
  rcases e with e|e|e
  ·exact a e
  ·exact c e
  ·exact d e
 ·obtain⟨a,b,c,d,_⟩:=h.sk q hq
  rcases e with e|e|e
  ·exact a e
  ·exact c e
  ·exact d e
 ·obtain⟨a,b,c⟩:=h.sq q hq
  have hl:=(h.rq.lt q hq).2;exact⟨kM q hl a,kI q hl b,c⟩
 ·obtain⟨a,b,c⟩:=h.sk q hq
  have hl:=(h.rk.lt q hq).2;exact⟨kM q hl a,kI q hl b,c⟩
 ·rcases e with e|e|e
  ·exact h.sm.1 e
  ·exact h.sm.2.2.1 e
  ·exact h.sm.2.2.2.1 e
 ·obtain⟨a,b,c,_⟩:=h.ss hne q hq
  rcases e with e|e|e
  ·exact a e
  ·exact b e
  ·exact c e
 ·obtain⟨b,hb,hl⟩:=h.src.block hne
  rw[hq]at hb;cases hb
  obtain⟨a,c⟩:=h.ss hne q hq;exact⟨kM q hl a,c⟩
theorem RSt.fr0 (h:RSt U pb ob sb mb ms mn w0 V0 M0 I0 W qv kv va Q Kp la fs V BV M I fo fc)(hf:Fr NoM W W'):RSt U pb ob sb mb ms mn w0 V0 M0 I0 W' qv kv va Q Kp la fs V BV M I fo fc :=
 h.call (h.st.fr0 hf) (CNx.of0 hf)
theorem RSt.pushQ (h:RSt U pb ob sb mb ms mn w0 V0 M0 I0 W qv kv va Q Kp la fs V BV M I fo fc)(ha:Fr NoM W Wa)(ho:W'.ownsRow w0.heap.size 3 1 v' (Q.length+L.length) (Q.map encN++L.map encN))(hf:Fr (Own1 qv) Wa W')
  (hq:v'.ownBlock=qv.ownBlock∨∃b,v'.ownBlock=some b/\Wa.heap.size≤b):RSt U pb ob sb mb ms mn w0 V0 M0 I0 W' v' kv va (Q++L) Kp la fs V BV M I fo fc:=by
 have h:=h.fr0 ha;have nw:∀q,v'.ownBlock=some q→qv.ownBlock=some q∨Wa.heap.size≤q:=fun q e=>by
  rcases hq with h1|⟨b,h1,h2⟩
  ·exact .inl (h1 ▸ e)
  ·rw[h1]at e;cases e;exact .inr h2
 have h1:=h.st.ord.lt;have h2:=h.st.can.lt;have h3:=h.smap.lt;refine⟨h.st.fr hf (fun q hq'=>⟨(h.sq q hq').1,(h.sq q hq').2.1,(h.sq q hq').2.2.1,(h.sq q hq').2.2.2.1⟩),h.nx.own hf (fun q hq'=>(h.rq.lt q hq').1),by rw[List.length_append,List.map_append];exact ho,za2 h.rk hf (fun q hq' e=>(h.sq q e).2.2.2.2.2 hq'),fun q e=>?_,h.sk,h.smap.fr hf (fun e=>(h.sq mb e).2.2.2.2.1 rfl),h.sm,h.src.fr hf (fun hne q hq' e=>(h.ss hne q hq').2.2.2.2.1 e),fun hne q hq'=>?_⟩
 ·rcases nw q e with e'|e'
  ·exact h.sq q e'
  ·refine⟨fun z=>?_,fun z=>?_,fun z=>by omega,fun z=>by omega,fun z=>by omega,fun z=>?_⟩
   ·have:=(h.st.mlt q z).1;omega
   ·have:=(h.st.ilt q z).1;omega
   ·have:=(h.rk.lt q z).2;omega
 ·obtain⟨a,b,c,d,e,f⟩:=h.ss hne q hq'
  refine⟨a,b,c,d,fun e'=>?_,f⟩;rcases nw q e' with e'|e'
  ·exact e e'
  ·obtain⟨b',hb,hl⟩:=h.src.block hne
   rw[hq']at hb;cases hb;omega
theorem RSt.pushK {i:Nat}(h:RSt U pb ob sb mb ms mn w0 V0 M0 I0 W qv kv va Q Kp la fs V BV M I fo fc)(ha:Fr NoM W Wa)(ho:W'.ownsRow w0.heap.size 3 1 v' (Kp.length+1) (Kp.map encN ++ [i].map encN))(hf:Fr (Own1 kv) Wa W')
  (hq:v'.ownBlock=kv.ownBlock∨∃b,v'.ownBlock=some b/\Wa.heap.size≤b):RSt U pb ob sb mb ms mn w0 V0 M0 I0 W' qv v' va Q (Kp ++ [i]) la fs V BV M I fo fc:=by
 have h:=h.fr0 ha;have nw:∀q,v'.ownBlock=some q→kv.ownBlock=some q∨Wa.heap.size≤q:=fun q e=>by
  rcases hq with h1|⟨b,h1,h2⟩
  ·exact .inl (h1 ▸ e)
  ·rw[h1]at e;cases e;exact .inr h2
 have h1:=h.st.ord.lt;have h2:=h.st.can.lt;have h3:=h.smap.lt;refine⟨h.st.fr hf (fun q hq'=>⟨(h.sk q hq').1,(h.sk q hq').2.1,(h.sk q hq').2.2.1,(h.sk q hq').2.2.2.1⟩),h.nx.own hf (fun q hq'=>(h.rk.lt q hq').1),za2 h.rq hf (fun q hq' e=>(h.sq q hq').2.2.2.2.2 e),by rw[List.length_append,List.map_append];exact ho,fun q e=>?_,fun q e=>?_,h.smap.fr hf (fun e=>(h.sk mb e).2.2.2.2 rfl),h.sm,h.src.fr hf (fun hne q hq' e=>(h.ss hne q hq').2.2.2.2.2 e),fun hne q hq'=>?_⟩
 ·obtain⟨a,b,c,d,e1,f⟩:=h.sq q e
  refine⟨a,b,c,d,e1,fun z=>?_⟩;rcases nw q z with z|z
  ·exact f z
  ·have:=(h.rq.lt q e).2;omega
 ·rcases nw q e with e'|e'
  ·exact h.sk q e'
  ·refine⟨fun z=>?_,fun z=>?_,fun z=>by omega,fun z=>by omega,fun z=>by omega⟩
   ·have:=(h.st.mlt q z).1;omega
   ·have:=(h.st.ilt q z).1;omega
 ·obtain⟨a,b,c,d,e,f⟩:=h.ss hne q hq'
  refine⟨a,b,c,d,e,fun e'=>?_⟩;rcases nw q e' with e'|e'
  ·exact f e'
  ·obtain⟨b',hb,hl⟩:=h.src.block hne
   rw[hq']at hb;cases hb;omega
theorem RSt.see (h:RSt U pb ob sb mb ms mn w0 V0 M0 I0 W qv kv va Q Kp la fs V BV M I fo fc)(hf:Fr (fun q=>q=mb) W W')(hm:MapF encN encB W' mb fs'):RSt U pb ob sb mb ms mn w0 V0 M0 I0 W' qv kv va Q Kp la fs' V BV M I fo fc :=
 ⟨h.st.fr hf (fun q e=>by subst e;exact⟨h.sm.1,h.sm.2.1,h.sm.2.2.1,h.sm.2.2.2.1⟩),h.nx.own hf (fun q e=>by rw[e];exact h.sm.2.2.2.2),za2 h.rq hf (fun q hq e=>(h.sq q hq).2.2.2.2.1 e),za2 h.rk hf (fun q hq e=>(h.sk q hq).2.2.2.2 e),h.sq,h.sk,hm,h.sm,h.src.fr hf (fun hne q hq e=>(h.ss hne q hq).2.2.2.1 e),h.ss⟩
theorem RSt.look {va':Value}{la':List Nat}(h:RSt U pb ob sb mb ms mn w0 V0 M0 I0 W qv kv va Q Kp la fs V BV M I fo fc)(hn:Nats W va' la')(hI:la'≠[]→∀q,va'.ownBlock=some q→I q):RSt U pb ob sb mb ms mn w0 V0 M0 I0 W qv kv va' Q Kp la' fs V BV M I fo fc :=
 ⟨h.st,h.nx,h.rq,h.rk,h.sq,h.sk,h.smap,h.sm,hn,fun hne q hq=>⟨fun e=>h.st.pool.sep q e (hI hne q hq),(h.st.ilt q (hI hne q hq)).2.1,(h.st.ilt q (hI hne q hq)).2.2,fun e=>h.sm.2.1 (e ▸ hI hne q hq),fun e=>(h.sq q e).2.1 (hI hne q hq),fun e=>(h.sk q e).2.1 (hI hne q hq)⟩⟩
theorem RSt.pop {i g c:Nat}(h:RSt U pb ob sb mb ms mn w0 V0 M0 I0 W (.slice (some ⟨g,0,none⟩) (Q.length+1) c) kv va (Q ++ [i]) Kp la fs V BV M I fo fc):RSt U pb ob sb mb ms mn w0 V0 M0 I0 W (.slice (some ⟨g,0,none⟩) Q.length c) kv va Q Kp la fs V BV M I fo fc:=by
 refine⟨h.st,h.nx,⟨by simp,?_⟩,h.rk,fun q e=>h.sq q e,h.sk,h.smap,h.sm,h.src,fun hne q hq=>h.ss hne q hq⟩;have hr:=h.rq.2;rw[List.length_append]at hr;rcases hr with ⟨e,_⟩|⟨g',cap,cur,e,hb,hg,hn,hc,hs,ht⟩
 ·cases e
 ·cases e
  refine .inr ⟨g,c,cur,rfl,hb,hg,by simp at hn;omega,hc,hs,?_⟩;have ht2:=congrArg (fun l=>l.take (Q.length*1)) ht;simp only[List.take_take,List.map_append]at ht2;rw[List.length_singleton,Nat.mul_one,Nat.mul_one,Nat.min_eq_left (by omega)]at ht2;rw[Nat.mul_one,ht2,List.take_left' (by simp)]
end
end Go.Proofs.YtkofnbjjbcohgaaGreatDoor
