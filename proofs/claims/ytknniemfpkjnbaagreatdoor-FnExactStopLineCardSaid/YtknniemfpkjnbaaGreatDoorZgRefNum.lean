import Derived.Test.YtknniemfpkjnbaaGreatDoorZgRefGood
/- What the claim of FnExactStopLineCard needs of: BkKit RefSum RefNeg RefNum. -/
namespace Go.Proofs.YtknniemfpkjnbaaGreatDoor
set_option linter.unusedVariables false
set_option linter.unusedSimpArgs false
open Go.RowKit
structure BkSt (w1 W:World) (bb:Nat) (V:List PL) (BV:List Nat) (S:Nat→Prop) (v1:Value) (A1 c1:List Nat) (v2:Value) (A2 c2:List Nat) (v3:Value) (A3 c3:List Nat):Prop where
 book:BookS S W bb V BV
 ok:PoolOK V BV
 sub:∀q,S q→w1.heap.size≤q/\q<W.heap.size
 o1:W.ownsRow w1.heap.size 3 1 v1 A1.length (A1.map encN)
 o2:W.ownsRow w1.heap.size 3 1 v2 A2.length (A2.map encN)
 o3:W.ownsRow w1.heap.size 3 1 v3 A3.length (A3.map encN)
 n1:∀b,v1.ownBlock=some b→¬S b
 n2:∀b,v2.ownBlock=some b→¬S b
 n3:∀b,v3.ownBlock=some b→¬S b
 s12:∀b,v1.ownBlock=some b→v2.ownBlock≠some b
 s13:∀b,v1.ownBlock=some b→v3.ownBlock≠some b
 s23:∀b,v2.ownBlock=some b→v3.ownBlock≠some b
 r1:RowC V A1 c1
 r2:RowC V A2 c2
 r3:RowC V A3 c3
 fr:Fr NoM w1 W
section
variable {w1 W W' Wa:World}{bb:Nat}{V:List PL}{BV:List Nat}{S S':Nat→Prop}{v1 v2 v3 v4:Value}{A1 c1 A2 c2 A3 c3:List Nat}{x c:Nat}
theorem BkSt.fr0 (h:BkSt w1 W bb V BV S v1 A1 c1 v2 A2 c2 v3 A3 c3)(hf:Fr NoM W W'):BkSt w1 W' bb V BV S v1 A1 c1 v2 A2 c2 v3 A3 c3 :=
 ⟨h.book.fr0 hf,h.ok,fun q hq=>⟨(h.sub q hq).1,Nat.lt_of_lt_of_le (h.sub q hq).2 hf.size⟩,za1 h.o1 hf (fun _ _ q=>q),za1 h.o2 hf (fun _ _ q=>q),za1 h.o3 hf (fun _ _ q=>q),h.n1,h.n2,h.n3,h.s12,h.s13,h.s23,h.r1,h.r2,h.r3,h.fr.trans hf (fun _ _ q=>q)⟩
theorem BkSt.app (h:BkSt w1 W bb V BV S v1 A1 c1 v2 A2 c2 v3 A3 c3)(ha:Fr NoM W Wa)(ho:W'.ownsRow w1.heap.size 3 1 v4 (A1.length+1) (A1.map encN ++ [x].map encN))(hf:Fr (Own1 v1) Wa W')(hq:v4.ownBlock=v1.ownBlock∨∃b,v4.ownBlock=some b/\Wa.heap.size≤b)(hx:x<V.length)(hc:(za0 V).getD x 0=c) :
  BkSt w1 W' bb V BV S v4 (A1 ++ [x]) (c1 ++ [c]) v2 A2 c2 v3 A3 c3:=by
 have h:=h.fr0 ha;have hlt:∀b,v4.ownBlock=some b→v1.ownBlock=some b∨Wa.heap.size≤b:=fun b hb=>by
  rcases hq with h1|⟨b',h1,h2⟩
  ·rw[h1]at hb;exact .inl hb
  ·rw[h1]at hb;cases hb;exact .inr h2
 exact⟨h.book.fr hf (fun k hk e=>h.n1 k e hk),h.ok,fun q hq=>⟨(h.sub q hq).1,Nat.lt_of_lt_of_le (h.sub q hq).2 hf.size⟩,by rw[List.length_append,List.map_append];exact ho,za1 h.o2 hf (fun b hb e=>h.s12 b e hb),za1 h.o3 hf (fun b hb e=>h.s13 b e hb),
  fun b hb hS=>by
   rcases hlt b hb with h1|h1
   ·exact h.n1 b h1 hS
   ·have:=(h.sub b hS).2;omega,
  h.n2,h.n3,fun b hb hu=>by
   rcases hlt b hb with h1|h1
   ·exact h.s12 b h1 hu
   ·have:=(h.o2.lt b hu).2;omega,fun b hb hu=>by
   rcases hlt b hb with h1|h1
   ·exact h.s13 b h1 hu
   ·have:=(h.o3.lt b hu).2;omega,h.s23,h.r1.snoc hx hc,h.r2,h.r3,
  h.fr.trans hf (fun q hq e=>by have:=(h.o1.lt q e).1;omega)⟩
theorem BkSt.nats1 (h:BkSt w1 W bb V BV S v1 A1 c1 v2 A2 c2 v3 A3 c3):Nats W v1 A1:=SliceOf.of_owns h.o1 rfl
end
section
variable {U:List Nat}{S:Nat→Prop}{w w':World}{bb:Nat}{V:List PL}{BV:List Nat}
end
end Go.Proofs.YtknniemfpkjnbaaGreatDoor
