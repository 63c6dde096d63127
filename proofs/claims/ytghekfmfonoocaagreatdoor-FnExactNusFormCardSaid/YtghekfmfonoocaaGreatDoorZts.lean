import Derived.Test.YtghekfmfonoocaaGreatDoorZtr
/- Lemmas. -/
namespace Go.Proofs.YtghekfmfonoocaaGreatDoor
set_option linter.unusedVariables false
set_option linter.unusedSimpArgs false
open Go.RowKit
def uqC (n:Int)(s:Nat):Nat:=nusC zar n s
def mvR (n:Int)(s:Nat):List (Int × Nat):=if n=0 then (List.range s).map (fun k=>(0,k))else if 0<n then [(n-1,s ^^^ 1)]else if n=-1/\s=1 then [(0,0),(0,1)]else [(0,0)]
def mvL (n:Int)(s:Nat):List (Int × Nat):=(mvR (-n) s).map fun p=>(-p.1,p.2)
theorem zhc {α:Type}{a b x:α}:x∈[a,b]↔x=a∨x=b:=by simp
theorem zf7 (s:Nat):uqC 0 s=zbb s:=by unfold uqC;rw[zyk,zce]
theorem zt8 (n:Int)(s x:Nat):hasR (uqC n s) x↔∃p∈mvR n s,uqC p.1 p.2=x:=by
 unfold mvR;by_cases h0:n=0
 ·subst h0
  rw[if_pos rfl,zf7,zd5];constructor
  ·rintro⟨k,hk,e⟩
   exact⟨(0,k),List.mem_map.2 ⟨k,List.mem_range.2 hk,rfl⟩,by rw[zf7];exact e⟩
  ·rintro⟨p,hp,e⟩
   obtain⟨k,hk,rfl⟩:=List.mem_map.1 hp;exact⟨k,List.mem_range.1 hk,by rw[zf7]at e;exact e⟩
 ·rw[if_neg h0]
  by_cases hp:0<n
  ·rw[if_pos hp]
   have e:hasR (uqC n s) x↔x=uqC (n-1) (s ^^^ 1):=by
    by_cases h1:n=1/\s=1
    ·obtain⟨rfl,rfl⟩:=h1
     exact(ziv zar).2 x
    ·exact(zt9 hp h1).2 x
   rw[e];exact⟨fun h=>⟨_,List.mem_singleton.2 rfl,h.symm⟩,fun⟨p,hp,h⟩=>by rw[List.mem_singleton.1 hp]at h;exact h.symm⟩
  ·rw[if_neg hp]
   by_cases h1:n=-1/\s=1
   ·rw[if_pos h1]
    obtain⟨rfl,rfl⟩:=h1;refine((zgy zar).2 x).trans ⟨fun h=>?_,fun⟨p,hp,h⟩=>?_⟩
    ·rcases h with h|h
     ·exact⟨(0,0),by simp,h.symm⟩
     ·exact⟨(0,1),by simp,h.symm⟩
    ·rcases zhc.1 hp with e|e
     ·rw[e]at h;exact .inl h.symm
     ·rw[e]at h;exact .inr h.symm
   ·rw[if_neg h1]
    refine((znz (a:=zar) (s:=s) (n:=n) (by omega) h1).2 x).trans ⟨fun h=>⟨(0,0),by simp,h.symm⟩,fun⟨p,hp,h⟩=>?_⟩;rw[List.mem_singleton.1 hp]at h;exact h.symm
theorem zxf (n:Int)(s x:Nat):hasL (uqC n s) x↔∃p∈mvL n s,uqC p.1 p.2=x:=by
 unfold mvL mvR;by_cases h0:n=0
 ·subst h0
  rw[if_pos (by decide),zf7,zcs,List.map_map];constructor
  ·rintro⟨k,hk,e⟩
   exact⟨(0,k),List.mem_map.2 ⟨k,List.mem_range.2 hk,rfl⟩,by rw[zf7];exact e⟩
  ·rintro⟨p,hp,e⟩
   obtain⟨k,hk,rfl⟩:=List.mem_map.1 hp;exact⟨k,List.mem_range.1 hk,by
    have e:uqC 0 k=x:=e;rw[zf7]at e;exact e⟩
 ·rw[if_neg (by omega)]
  by_cases hp:0<n
  ·rw[if_neg (by omega)]
   by_cases h1:n=1/\s=1
   ·rw[if_pos ⟨by omega,h1.2⟩]
    obtain⟨rfl,rfl⟩:=h1;refine((ziv zar).1 x).trans ⟨fun h=>?_,fun⟨p,hp,h⟩=>?_⟩
    ·rcases h with h|h
     ·exact⟨(0,0),by simp,h.symm⟩
     ·exact⟨(0,1),by simp,h.symm⟩
    ·rcases zhc.1 (show p∈[((0:Int),0),(0,1)]from hp)with e|e
     ·rw[e]at h;exact .inl h.symm
     ·rw[e]at h;exact .inr h.symm
   ·rw[if_neg (fun q=>h1 ⟨by omega,q.2⟩)]
    refine((zt9 (a:=zar) hp h1).1 x).trans ⟨fun h=>⟨(0,0),by simp,h.symm⟩,fun⟨p,hp,h⟩=>?_⟩;rw[List.mem_singleton.1 hp]at h;exact h.symm
  ·rw[if_pos (by omega)]
   have e:hasL (uqC n s) x↔x=uqC (n+1) (s ^^^ 1):=by
    by_cases h1:n=-1/\s=1
    ·obtain⟨rfl,rfl⟩:=h1
     exact(zgy zar).1 x
    ·exact(znz (by omega) h1).1 x
   have e2:uqC (-(-n-1)) (s ^^^ 1)=uqC (n+1) (s ^^^ 1):=by rw[show -(-n-1)=n+1 by omega]
   rw[e];refine⟨fun h=>⟨_,List.mem_singleton.2 rfl,e2.trans h.symm⟩,fun⟨p,hp,h⟩=>?_⟩;rw[List.mem_singleton.1 (show p∈[(-(-n-1),s ^^^ 1)]from hp)]at h;exact h.symm.trans e2
theorem yc5 {x:Nat}{A B:List Nat}(hA:∀y,hasL x y→y∈A)(hB:∀y,hasR x y→y∈B)(lA:A.length≤24)(lB:B.length≤24) :
  (∀L:List Nat,L.Nodup→(∀a∈L,hasL x a)→L.length≤24)/\∀L:List Nat,L.Nodup→(∀a∈L,hasR x a)→L.length≤24 :=
 ⟨fun L hL h=>Nat.le_trans (hL.length_le_of_subset fun y hy=>hA y (h y hy)) lA,fun L hL h=>Nat.le_trans (hL.length_le_of_subset fun y hy=>hB y (h y hy)) lB⟩
def zhb (n:Int)(s:Nat):List (Int × Nat):=((List.range 16).map fun k=>((0:Int),k))++(List.range n.natAbs).map fun(i:Nat)=>(if 0<n then (i:Int)+1 else -((i:Int)+1),s ^^^ ((n.natAbs-1-i)%2))
theorem yei (n:Int)(s:Nat):(zhb n s).length=16+n.natAbs:=by unfold zhb;rw[List.length_append,List.length_map,List.length_map,List.length_range,List.length_range]
theorem zh1 {n:Int}{s k:Nat}(h:k≤15):((0:Int),k)∈zhb n s:=List.mem_append_left _ (List.mem_map.2 ⟨k,List.mem_range.2 (by omega),rfl⟩)
theorem yd8 {n:Int}{s i:Nat}{x:Int}{t:Nat}(hi:i<n.natAbs)(hx:x=if 0<n then (i:Int)+1 else -((i:Int)+1))(ht:t=s ^^^ ((n.natAbs-1-i)%2)):(x,t)∈zhb n s:=by
 subst hx ht;exact List.mem_append_right _ (List.mem_map.2 ⟨i,List.mem_range.2 hi,rfl⟩)
theorem yf7 {s a:Nat}(h:s≤15):s ^^^ (a%2)≤15:=by
 rcases Nat.mod_two_eq_zero_or_one a with e|e
 ·rw[e,Nat.xor_zero];exact h
 ·rw[e];exact zkx h
theorem yd9 (s a:Nat):(s ^^^ (a%2)) ^^^ 1=s ^^^ ((a+1)%2):=by
 rcases Nat.mod_two_eq_zero_or_one a with e|e
 ·rw[e,show(a+1)%2=1 by omega,Nat.xor_zero]
 ·rw[e,show(a+1)%2=0 by omega,xor1,Nat.xor_zero]
theorem yeh {n:Int}{s:Nat}(hs:s≤15):(n,s)∈zhb n s:=by
 by_cases h0:n=0
 ·subst h0;exact zh1 hs
 ·refine yd8 (i:=n.natAbs-1) (by omega) ?_ ?_
  ·split <;> omega
  ·rw[show n.natAbs-1-(n.natAbs-1)=0 by omega];simp
theorem ycu {n:Int}{s:Nat}{p:Int × Nat}(h:p∈zhb n s):(p.1=0/\p.2≤15)∨∃i,i<n.natAbs/\p.1=(if 0<n then (i:Int)+1 else -((i:Int)+1))/\p.2=s ^^^ ((n.natAbs-1-i)%2):=by
 rcases List.mem_append.1 h with h|h
 ·obtain⟨k,hk,rfl⟩:=List.mem_map.1 h
  exact .inl ⟨rfl,by have:=List.mem_range.1 hk;show k≤15;omega⟩
 ·obtain⟨i,hi,rfl⟩:=List.mem_map.1 h
  exact .inr ⟨i,List.mem_range.1 hi,rfl,rfl⟩
theorem zo6 {n:Int}{s:Nat}(hs:s≤15){p:Int × Nat}(h:p∈zhb n s):(mvR p.1 p.2).length≤24/\∀q∈mvR p.1 p.2,q∈zhb n s:=by
 rcases ycu h with ⟨e,hk⟩|⟨i,hi,e,ht⟩
 ·unfold mvR
  rw[if_pos e];refine⟨by rw[List.length_map,List.length_range];omega,fun q hq=>?_⟩;obtain⟨k,hk',rfl⟩:=List.mem_map.1 hq;exact zh1 (by have:=List.mem_range.1 hk';omega)
 ·have hp:p.2≤15:=by rw[ht];exact yf7 hs
  unfold mvR;by_cases h0:0<n
  ·rw[if_pos h0]at e
   rw[if_neg (by omega),if_pos (by omega)];refine⟨by simp,fun q hq=>?_⟩;rw[List.mem_singleton.1 hq];by_cases hi0:i=0
   ·rw[show p.1-1=0 by omega];exact zh1 (zkx hp)
   ·refine yd8 (i:=i-1) (by omega) ?_ ?_
    ·rw[if_pos h0];omega
    ·rw[ht,yd9,show n.natAbs-1-i+1=n.natAbs-1-(i-1)by omega]
  ·rw[if_neg h0]at e
   rw[if_neg (by omega),if_neg (by omega)];split
   ·refine⟨by simp,fun q hq=>?_⟩
    rcases zhc.1 hq with e'|e'
    ·rw[e'];exact zh1 (by omega)
    ·rw[e'];exact zh1 (by omega)
   ·refine⟨by simp,fun q hq=>?_⟩
    rw[List.mem_singleton.1 hq];exact zh1 (by omega)
theorem yct {n:Int}{s:Nat}{p:Int × Nat}(h:p∈zhb n s):(-p.1,p.2)∈zhb (-n) s:=by
 rcases ycu h with ⟨e,hk⟩|⟨i,hi,e,ht⟩
 ·rw[e];exact zh1 hk
 ·refine yd8 (i:=i) (by omega) ?_ (by rw[ht,show(-n).natAbs=n.natAbs by omega])
  split at e <;> split <;> omega
theorem zxd {n:Int}{s:Nat}(hs:s≤15){p:Int × Nat}(h:p∈zhb n s):(mvL p.1 p.2).length≤24/\∀q∈mvL p.1 p.2,q∈zhb n s:=by
 obtain⟨h1,h2⟩:=zo6 hs (yct h);unfold mvL;refine⟨by rw[List.length_map];exact h1,fun q hq=>?_⟩;obtain⟨r,hr,rfl⟩:=List.mem_map.1 hq;have:=yct (h2 r hr);rwa [Int.neg_neg]at this
theorem ycs {n:Int}{s x:Nat}(hs:s≤15)(h:SubC (uqC n s) x):∃p∈zhb n s,uqC p.1 p.2=x:=by
 induction h with
 | root=>exact⟨_,yeh hs,rfl⟩
 | step _ ho ih =>
  obtain⟨p,hp,rfl⟩:=ih;rcases ho with ho|ho
  ·obtain⟨q,hq,e⟩:=(zxf _ _ _).1 ho
   exact⟨q,(zxd hs hp).2 q hq,e⟩
  ·obtain⟨q,hq,e⟩:=(zt8 _ _ _).1 ho
   exact⟨q,(zo6 hs hp).2 q hq,e⟩
theorem zrq {n:Int}{s:Nat}(hn:n.natAbs≤12)(hs:s≤15):zam (zac (uqC n s))=true:=by
 refine zzt (U:=(zhb n s).map fun p=>uqC p.1 p.2) (fun x hx=>?_) (by rw[List.length_map,yei];omega) (fun x hx=>?_)
 ·obtain⟨p,hp,e⟩:=ycs hs hx
  exact List.mem_map.2 ⟨p,hp,e⟩
 ·obtain⟨p,hp,rfl⟩:=ycs hs hx
  refine yc5 (A:=(mvL p.1 p.2).map fun q=>uqC q.1 q.2) (B:=(mvR p.1 p.2).map fun q=>uqC q.1 q.2) (fun y hy=>?_) (fun y hy=>?_) (by rw[List.length_map];exact(zxd hs hp).1) (by rw[List.length_map];exact(zo6 hs hp).1)
  ·obtain⟨q,hq,e⟩:=(zxf _ _ _).1 hy
   exact List.mem_map.2 ⟨q,hq,e⟩
  ·obtain⟨q,hq,e⟩:=(zt8 _ _ _).1 hy
   exact List.mem_map.2 ⟨q,hq,e⟩
end Go.Proofs.YtghekfmfonoocaaGreatDoor
