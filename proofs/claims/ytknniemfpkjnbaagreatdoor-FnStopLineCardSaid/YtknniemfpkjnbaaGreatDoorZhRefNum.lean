import Derived.Test.YtknniemfpkjnbaaGreatDoorZhRefGood
/- What the claim of FnStopLineCard needs of: BkKit RefSum RefNeg RefNum. -/
namespace Go.Proofs.YtknniemfpkjnbaaGreatDoor
set_option linter.unusedVariables false
set_option linter.unusedSimpArgs false
open Go.RowKit
structure BkSt (w1 W:World) (bb:Nat) (V:List PL) (BV:List Nat) (S:Nat→Prop) (v1:Value) (A1 c1:List Nat) (v2:Value) (A2 c2:List Nat) (v3:Value) (A3 c3:List Nat):Prop where
 book:BookS S W bb V BV
 ok:PoolOK V BV
 sub:∀q,S q→w1.heap.size≤q/\q<W.heap.size
 o1:W.ownsRow w1.heap.size 3 1 v1 A1.length (A1.map encN)
 o2:W.ownsRow w1.heap.size 3 1 v2 A2.length (A2.map encN)
 o3:W.ownsRow w1.heap.size 3 1 v3 A3.length (A3.map encN)
 n1:∀b,v1.ownBlock=some b→¬S b
 n2:∀b,v2.ownBlock=some b→¬S b
 n3:∀b,v3.ownBlock=some b→¬S b
 s12:∀b,v1.ownBlock=some b→v2.ownBlock≠some b
 s13:∀b,v1.ownBlock=some b→v3.ownBlock≠some b
 s23:∀b,v2.ownBlock=some b→v3.ownBlock≠some b
 r1:RowC V A1 c1
 r2:RowC V A2 c2
 r3:RowC V A3 c3
 fr:Fr NoM w1 W
section
variable {w1 W W' Wa:World}{bb:Nat}{V:List PL}{BV:List Nat}{S S':Nat→Prop}{v1 v2 v3 v4:Value}{A1 c1 A2 c2 A3 c3:List Nat}{x c:Nat}
theorem BkSt.fr0 (h:BkSt w1 W bb V BV S v1 A1 c1 v2 A2 c2 v3 A3 c3)(hf:Fr NoM W W'):BkSt w1 W' bb V BV S v1 A1 c1 v2 A2 c2 v3 A3 c3 :=
 ⟨h.book.fr0 hf,h.ok,fun q hq=>⟨(h.sub q hq).1,Nat.lt_of_lt_of_le (h.sub q hq).2 hf.size⟩,za1 h.o1 hf (fun _ _ q=>q),za1 h.o2 hf (fun _ _ q=>q),za1 h.o3 hf (fun _ _ q=>q),h.n1,h.n2,h.n3,h.s12,h.s13,h.s23,h.r1,h.r2,h.r3,h.fr.trans hf (fun _ _ q=>q)⟩
theorem BkSt.app (h:BkSt w1 W bb V BV S v1 A1 c1 v2 A2 c2 v3 A3 c3)(ha:Fr NoM W Wa)(ho:W'.ownsRow w1.heap.size 3 1 v4 (A1.length+1) (A1.map encN ++ [x].map encN))(hf:Fr (Own1 v1) Wa W')(hq:v4.ownBlock=v1.ownBlock∨∃b,v4.ownBlock=some b/\Wa.heap.size≤b)(hx:x<V.length)(hc:(za0 V).getD x 0=c) :
  BkSt w1 W' bb V BV S v4 (A1 ++ [x]) (c1 ++ [c]) v2 A2 c2 v3 A3 c3:=by
 have h:=h.fr0 ha;have hlt:∀b,v4.ownBlock=some b→v1.ownBlock=some b∨Wa.heap.size≤b:=fun b hb=>by
  rcases hq with h1|⟨b',h1,h2⟩
  ·rw[h1]at hb;exact .inl hb
  ·rw[h1]at hb;cases hb;exact .inr h2
 exact⟨h.book.fr hf (fun k hk e=>h.n1 k e hk),h.ok,fun q hq=>⟨(h.sub q hq).1,Nat.lt_of_lt_of_le (h.sub q hq).2 hf.size⟩,by rw[List.length_append,List.map_append];exact ho,za1 h.o2 hf (fun b hb e=>h.s12 b e hb),za1 h.o3 hf (fun b hb e=>h.s13 b e hb),
  fun b hb hS=>by
   rcases hlt b hb with h1|h1
   ·exact h.n1 b h1 hS
   ·have:=(h.sub b hS).2;omega,
  h.n2,h.n3,fun b hb hu=>by
   rcases hlt b hb with h1|h1
   ·exact h.s12 b h1 hu
   ·have:=(h.o2.lt b hu).2;omega,fun b hb hu=>by
   rcases hlt b hb with h1|h1
   ·exact h.s13 b h1 hu
   ·have:=(h.o3.lt b hu).2;omega,h.s23,h.r1.snoc hx hc,h.r2,h.r3,
  h.fr.trans hf (fun q hq e=>by have:=(h.o1.lt q e).1;omega)⟩
theorem BkSt.nats1 (h:BkSt w1 W bb V BV S v1 A1 c1 v2 A2 c2 v3 A3 c3):Nats W v1 A1:=SliceOf.of_owns h.o1 rfl
end
structure BkN (U:List Nat) (S:Nat→Prop) (W:World) (bb:Nat) (V:List PL) (BV:List Nat):Prop where
 book:BookS S W bb V BV
 ok:PoolOK V BV
 lt:∀q,S q→q<W.heap.size
 inU:∀x,x<V.length→(za0 V).getD x 0∈U
def BkPost (U:List Nat)(bb:Nat)(w:World)(S:Nat→Prop)(V:List PL)(c:Nat)(e:Ending)(w':World):Prop :=
 ∃(i:Nat) (V':List PL) (BV':List Nat) (S':Nat→Prop),e=.returned (.int .i64 (i:Int))/\BkN U S' w' bb V' BV'∧V <+: V'∧(∀q,S' q→S q∨w.heap.size≤q)/\Fr S w w'∧i<V'.length/\(za0 V').getD i 0=c
section
variable {U:List Nat}{S:Nat→Prop}{w w':World}{bb:Nat}{V:List PL}{BV:List Nat}
theorem BkN.fr0 (h:BkN U S w bb V BV)(hf:Fr NoM w w'):BkN U S w' bb V BV:=⟨h.book.fr0 hf,h.ok,fun q hq=>Nat.lt_of_lt_of_le (h.lt q hq) hf.size,h.inU⟩
theorem BkN.len (h:BkN U S w bb V BV):V.length≤U.length:=zkb h.ok h.inU
theorem BkN.start {W:World}(h:W.heap[bb]?=some (.cells #[.slice none 0 0,.slice none 0 0] 112 (0,0))):BkN U (fun q=>q=bb) W bb [] [] :=
 ⟨BookS.made h,PoolOK.nil,fun q hq=>by
  have:=(Array.getElem?_eq_some_iff.1 h).1;rw[hq];exact this,fun x hx=>by simp at hx⟩
theorem BkPost.of0 {w0:World}{c:Nat}{e:Ending}(hf:Fr NoM w0 w)(h:BkPost U bb w S V c e w'):BkPost U bb w0 S V c e w':=by
 obtain⟨i,V',BV',S',h1,h2,h3,h4,h5,h6⟩:=h;exact⟨i,V',BV',S',h1,h2,h3,fun q hq=>(h4 q hq).imp_right (Nat.le_trans hf.size),hf.any.trans h5 (fun _ _ q=>q),h6⟩
theorem zz9 (lv rv:Value)(L R cs ds:List Nat)(h:BkN U S w bb V BV)(hL:Nats w lv L)(hR:Nats w rv R)(rL:RowC V L cs)(rR:RowC V R ds)(hin:mkC cs ds∈U)(hUl:U.length<1000000)(ll:L.length<1000000000)(lr:R.length<1000000000) :
  Calls Tryz.prog 141 #[.pointer (some ⟨bb,0,none⟩),lv,rv] w fun e w'=>BkPost U bb w S V (mkC cs ds) e w':=by
 have hlen:=h.len;refine(zhq bb lv rv V BV L R w h.book hL hR (fun j x hx=>rL.1 x (List.mem_of_getElem? hx)) (fun j x hx=>rR.1 x (List.mem_of_getElem? hx)) ll lr (by omega) (fun x hx=>by have:=(zf6 h.ok).lt V.length (Nat.le_refl _) x hx;omega)).mono ?_
 rintro e w' ⟨rfl,hb,hf⟩;obtain⟨q1,q2,q3,q4⟩:=zff h.ok rL rR;rw[zcd h.ok]at hb ⊢;have hm:=h.book.m;refine⟨(za5 V BV L R).2.2,(za5 V BV L R).1,(za5 V BV L R).2.1,_,rfl,⟨hb.cut,q1,fun q hq=>hq.2,zht h.inU (by rw[q4];exact hin)⟩,q2,fun q hq=>hq.1,hf.mono (fun k _ z=>hm k z),q3,q4⟩
end
end Go.Proofs.YtknniemfpkjnbaaGreatDoor
