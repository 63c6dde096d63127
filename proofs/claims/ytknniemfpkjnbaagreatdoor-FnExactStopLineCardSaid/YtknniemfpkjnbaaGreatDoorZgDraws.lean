import Derived.OpenShut
import Derived.WalkSmall
import Derived.IntWalk
import Derived.Test.YtknniemfpkjnbaaGreatDoorZgRefGood
/- What the claim of FnExactStopLineCard needs of: Draws. -/
namespace Go.Proofs.YtknniemfpkjnbaaGreatDoor
set_option linter.unusedVariables false
set_option linter.unusedSimpArgs false
open Go.RowKit
theorem NodeRow.nodeOf {T R:Nat→Prop}{base:Nat}{w:World}{v:Value}{LL:List PL}(h:NodeRow T base w v LL)(hR:∀b,v.ownBlock=some b→R b)(hT:∀b,T b→R b):NodeL R encN w v LL:=by
 obtain⟨NV,h1,h2,h3⟩:=h;obtain⟨a,c,rfl,h4,h5,h6⟩:=Pairs.of_owns h1;rw[h2]at h4 hR ⊢;refine⟨a,c,rfl,h4,h5,fun j y hy=>?_⟩;have hj:=(List.getElem?_eq_some_iff.1 hy).1;obtain⟨x,hx⟩:∃x,NV[j]?=some x:=⟨NV[j]'(by rw[h2];exact hj),List.getElem?_eq_getElem _⟩;obtain⟨b,off,rfl,c1,c2⟩:=h6 j x hx;obtain⟨s1,s2,t1,t2⟩:=h3 j x y hx hy;exact⟨b,off,x.1,x.2,rfl,hR b rfl,c1,c2,s1,s2,fun hne q hq=>hT q (t1 hne q hq),fun hne q hq=>hT q (t2 hne q hq)⟩
def NodeT (D:Nat)(T:Nat→Prop)(w:World)(v:Value)(LL:List PL):Prop:=∃T0:Nat→Prop,NodeRow T0 D w v LL/\(∀q,T0 q→T q)/\∀q,v.ownBlock=some q→T q/\¬T0 q
section
variable {D:Nat}{T T':Nat→Prop}{w w':World}{v:Value}{LL:List PL}
theorem NodeT.nodeL (h:NodeT D T w v LL):NodeL T encN w v LL:=by
 obtain⟨T0,h1,h2,h3⟩:=h;exact h1.nodeOf (fun b hb=>(h3 b hb).1) h2
theorem NodeOwn.nodeT (h:NodeOwn D w v LL):NodeT D (fun q=>D≤q/\q<w.heap.size) w v LL:=by
 obtain⟨T0,base,h1,h2,h3,h4⟩:=h;obtain⟨NV,o1,o2,o3⟩:=h1.mono (T':=fun q=>T0 q/\q<w.heap.size) (fun b hb hl=>⟨hb,hl⟩);exact⟨_,⟨NV,zbn o1 h2,o2,o3⟩,fun q hq=>⟨h3 q hq.1,hq.2⟩,fun q hq=>⟨⟨Nat.le_trans h2 (o1.lt q hq).1,(o1.lt q hq).2⟩,fun e=>h4 q hq e.1⟩⟩
end
section
variable {D:Nat}{W W' Wa:World}{v v' nv:Value}{VS:List Value}{FSs:List (List PL)}{T T':Nat→Prop}{Fm:List PL}
end
section
variable {D:Nat}{W W':World}{b:Nat}{nv:Value}{U U':List Nat}{Fm:List PL}
end
theorem NodeT.val {D:Nat}{T:Nat→Prop}{w:World}{v:Value}{LL:List PL}(h:NodeT D T w v LL):∃a c,v=.slice a LL.length c:=by
 obtain⟨a,c,e,_⟩:=h.nodeL;exact⟨a,c,e⟩
section
variable {m:Nat}{W W':World}{b n:Nat}{cur:Array Value}{Z Z':Nat→Prop}
end
end Go.Proofs.YtknniemfpkjnbaaGreatDoor
