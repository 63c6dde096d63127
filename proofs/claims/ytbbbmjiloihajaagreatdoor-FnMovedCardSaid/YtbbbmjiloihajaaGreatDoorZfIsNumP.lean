import Derived.Test.YtbbbmjiloihajaaGreatDoorZfNumFits
import Derived.Test.YtbbbmjiloihajaaGreatDoorZfPoolGe
import Derived.StillTailTactics
/- What the claim of FnMovedCard needs of: IsNumP. -/
namespace Go.Proofs.YtbbbmjiloihajaaGreatDoor
set_option linter.unusedVariables false
set_option linter.unusedSimpArgs false
open Go.RowKit
theorem yd0 {V:List PL}{C:List Nat}(B:BookC V C){x:Nat}(hx:x<V.length) :
  (∀L,L=(za5 V x).1→(∀a b,a∈L→b∈L→C.getD a 0=C.getD b 0→a=b)/\L.Pairwise (· < ·))/\∀L,L=(za5 V x).2→(∀a b,a∈L→b∈L→C.getD a 0=C.getD b 0→a=b)/\L.Pairwise (· < ·):=by
 obtain⟨o1,o2⟩:=B.opts x _ (za6 hx);obtain⟨u1,u2⟩:=B.up x _ (za6 hx);have inj:∀a b,a<x→b<x→C.getD a 0=C.getD b 0→a=b:=fun a b ha hb e=>by
  have hl:=B.len;rw[List.getD_eq_getElem?_getD,List.getD_eq_getElem?_getD,List.getElem?_eq_getElem (show a<C.length by omega),List.getElem?_eq_getElem (show b<C.length by omega)]at e;exact(List.getElem_inj B.nodup).1 e
 exact⟨fun L e=>⟨fun a b ha hb h=>inj a b (o1 a (e ▸ ha)) (o1 b (e ▸ hb)) h,e ▸ u1⟩,fun L e=>⟨fun a b ha hb h=>inj a b (o2 a (e ▸ ha)) (o2 b (e ▸ hb)) h,e ▸ u2⟩⟩
theorem zye {L:List Nat}(hu:L.Pairwise (· < ·))(h:∀a∈L,∀b∈L,a=b):L.length≤1:=by
 match L,hu,h with
 | [],_,_=>simp
 | [_],_,_=>simp
 | a::b::l,hu,h =>
  have h1:=List.rel_of_pairwise_cons hu (show b∈b::l by simp);have h2:=h a (by simp) b (by simp);omega
theorem zxy {L:List Nat}(h:L.length≤1):∀a∈L,∀b∈L,a=b:=by
 match L,h with
 | [],_=>simp
 | [_],_=>simp
 | a::b::l,h=>simp at h
theorem ybi {V:List PL}{C:List Nat}(B:BookC V C){x:Nat}(hx:x<V.length)(hc:CanC (C.getD x 0)) :
  isNB (C.getD x 0)=true↔(za5 V x).1.length≤1/\(za5 V x).2.length≤1/\(∀l∈(za5 V x).1,isNB (C.getD l 0)=true)/\(∀r∈(za5 V x).2,isNB (C.getD r 0)=true)/\∀l∈(za5 V x).1,∀r∈(za5 V x).2,geV C l r=false:=by
 obtain⟨oL,oR⟩:=zba B hx;obtain⟨rL,rR⟩:=yd0 B hx;obtain⟨iL,pL⟩:=rL _ rfl;obtain⟨iR,pR⟩:=rR _ rfl;constructor
 ·intro h
  refine⟨zye pL fun a ha b hb=>iL a b ha hb (yb3 h ((oL _).2 ⟨a,ha,rfl⟩) ((oL _).2 ⟨b,hb,rfl⟩)),zye pR fun a ha b hb=>iR a b ha hb (yb2 h ((oR _).2 ⟨a,ha,rfl⟩) ((oR _).2 ⟨b,hb,rfl⟩)),
   fun l hl=>yb1 h ((oL _).2 ⟨l,hl,rfl⟩),fun r hr=>yb0 h ((oR _).2 ⟨r,hr,rfl⟩),fun l hl r hr=>zy3 h ((oL _).2 ⟨l,hl,rfl⟩) ((oR _).2 ⟨r,hr,rfl⟩)⟩
 ·rintro⟨h1,h2,h3,h4,h5⟩
  refine yb4 hc (fun l l' a b=>?_) (fun l l' a b=>?_) (fun l a=>?_) (fun l a=>?_) (fun l r a b=>?_)
  ·obtain⟨y,hy,rfl⟩:=(oL _).1 a
   obtain⟨z,hz,rfl⟩:=(oL _).1 b;rw[zxy h1 y hy z hz]
  ·obtain⟨y,hy,rfl⟩:=(oR _).1 a
   obtain⟨z,hz,rfl⟩:=(oR _).1 b;rw[zxy h2 y hy z hz]
  ·obtain⟨y,hy,rfl⟩:=(oL _).1 a
   exact h3 y hy
  ·obtain⟨y,hy,rfl⟩:=(oR _).1 a
   exact h4 y hy
  ·obtain⟨y,hy,rfl⟩:=(oL _).1 a
   obtain⟨z,hz,rfl⟩:=(oR _).1 b;exact h5 y hy z hz
theorem zt4 (w:World)(n:Nat):Fr NoM w (w.drewN n):=⟨rfl,rfl,rfl,Nat.le_refl _,fun _ _ _=>rfl⟩
end Go.Proofs.YtbbbmjiloihajaaGreatDoor
