import Derived.Test.YtknniemfpkjnbaaGreatDoorZhRefOf7
import Derived.Test.YtknniemfpkjnbaaGreatDoorZhRefCan
/- What the claim of FnStopLineCard needs of: RefNumOf PartOrd RefRoot. -/
namespace Go.Proofs.YtknniemfpkjnbaaGreatDoor
set_option linter.unusedVariables false
set_option linter.unusedSimpArgs false
open Go.RowKit
theorem zg6 {V:List PL}{C:List Nat}(B:BookC V C):∀j,j<V.length→C.getD j 0=(za0 V).getD j 0:=by
 intro j;induction j using Nat.strongRecOn with
 | _ j ih =>
  intro hj;have ej:=List.getElem?_eq_getElem hj
  obtain⟨o1,o2⟩:=B.opts j _ ej;have e1:∀L:List Nat,(∀x∈L,x<j)→za3 C L=za3 (za0 V) L:=fun L hL=>List.map_congr_left fun x hx=>ih x (hL x hx) (by have:=hL x hx;omega)
  rw[B.code j _ ej,zc8 V B.opts j _ ej,e1 _ o1,e1 _ o2]
theorem yak {Fs:List PL}(hg:zbv (i2 Fs))(c:Nat)(hc:c=canC (zaq Fs)) :
  BookC (zad c) (za0 (zad c))/\0<(zad c).length/\(zad c).length≤120/\(∀x,x<(zad c).length→CanC ((za0 (zad c)).getD x 0))/\(za0 (zad c)).getD ((zad c).length-1) 0=c:=by
 obtain⟨hp,ho,hu,hk,_,hcode⟩:=zfi (zbu c);have hB:=(zey ho hu (zdm ho hk)).book;have hcc:CanC c:=by rw[hc];exact(zic (zaq Fs)).1
 refine⟨hB,hp,?_,fun x hx=>?_,hcode⟩
 ·have h1:(zad (canC (zaq Fs))).length≤Fs.length:=zy5 (zic (zaq Fs)).1 (zic (zaq Fs)).2.2 (zic (zaq Fs)).2.1 (zkq hg)
  rw[←hc]at h1;have h2:=(zaz hg).2.1;omega
 ·obtain⟨P,hA⟩:=zbu c
  have hPl:=hA.book.len;rw[←zg6 hA.book x hx];have hs:=(hA.sub _).1 (zbs (C:=P) (i:=x) (by omega));exact fun y hy=>hcc y (hs.trans hy)
theorem znq (φ:Nat→Nat):∀(a b:List Nat),(∀u∈a,∀v∈b,(u<v→φ u<φ v)/\(v<u→φ v<φ u))→cmpL (a.map φ) (b.map φ)=cmpL a b
 | [],[],_=>rfl
 | [],_::_,_=>rfl
 | _::_,[],_=>rfl
 | x::a,y::b,h=>by
  obtain⟨h1,h2⟩:=h x List.mem_cons_self y List.mem_cons_self;rw[List.map_cons,List.map_cons];unfold cmpL;by_cases e:x=y
  ·subst e
   rw[if_pos rfl,if_pos rfl];exact znq φ a b fun u hu v hv=>h u (List.mem_cons_of_mem _ hu) v (List.mem_cons_of_mem _ hv)
  ·by_cases q:x<y
   ·have:=h1 q
    rw[if_neg (by omega),if_neg e,if_pos this,if_pos q]
   ·have:=h2 (by omega)
    rw[if_neg (by omega),if_neg e,if_neg (by omega),if_neg q]
def zb9 (P P':List Nat)(u:Nat):Nat:=P'.idxOf (P.getD u 0)
theorem ze2 {P P':List Nat}{u:Nat}(h:P.getD u 0∈P'):zb9 P P' u<P'.length/\P'.getD (zb9 P P' u) 0=P.getD u 0:=by
 have h1:=List.idxOf_lt_length_of_mem h;refine⟨h1,?_⟩;unfold zb9;rw[List.getD_eq_getElem?_getD,List.getElem?_eq_getElem h1];exact List.getElem_idxOf h1
theorem zxb {L M:List Nat}{φ:Nat→Nat}(hL:L.Pairwise (· < ·))(hM:M.Pairwise (· < ·))(hm:∀u∈L,∀v∈L,u<v→φ u<φ v)(h:∀z,z∈M↔∃u∈L,φ u=z):M=L.map φ :=
 zga hM (List.pairwise_map.2 (hL.imp_of_mem fun {a b} ha hb hab=>hm a ha b hb hab)) fun z=>by rw[h,List.mem_map]
theorem zpd {F F':List PL}{P P':List Nat}(B:BookC F P)(B':BookC F' P'){i i':Nat}(hi:i<F.length)(hi':i'<F'.length)(e:P.getD i 0=P'.getD i' 0)
  (hm:∀u v,v<i→u<v→P.getD u 0∈P'→P.getD v 0∈P'→zb9 P P' u<zb9 P P' v) :
  (za2 F' i').1=(za2 F i).1.map (zb9 P P')/\(za2 F' i').2=(za2 F i).2.map (zb9 P P')/\(∀u,u∈(za2 F i).1∨u∈(za2 F i).2→P.getD u 0∈P'):=by
 obtain⟨oL,oR⟩:=zax B hi;obtain⟨pL,pR⟩:=zax B' hi';rw[←e]at pL pR;obtain⟨o1,o2⟩:=B.opts _ _ (za4 hi);obtain⟨p1,p2⟩:=B'.opts _ _ (za4 hi');obtain⟨u1,u2⟩:=B.up _ _ (za4 hi);obtain⟨v1,v2⟩:=B'.up _ _ (za4 hi');have hl':=B'.len;have mL:∀u∈(za2 F i).1,P.getD u 0∈P':=fun u hu=>by
  obtain⟨z,hz,ez⟩:=(pL _).1 ((oL _).2 ⟨u,hu,rfl⟩);rw[←ez];exact zbs (by have:=p1 z hz;omega)
 have mR:∀u∈(za2 F i).2,P.getD u 0∈P':=fun u hu=>by
  obtain⟨z,hz,ez⟩:=(pR _).1 ((oR _).2 ⟨u,hu,rfl⟩);rw[←ez];exact zbs (by have:=p2 z hz;omega)
 refine⟨zxb u1 v1 (fun u hu v hv huv=>hm u v (o1 v hv) huv (mL u hu) (mL v hv)) fun z=>?_,zxb u2 v2 (fun u hu v hv huv=>hm u v (o2 v hv) huv (mR u hu) (mR v hv)) fun z=>?_,fun u hu=>hu.elim (mL u) (mR u)⟩
 ·constructor
  ·intro hz
   obtain⟨u,hu,eu⟩:=(oL _).1 ((pL _).2 ⟨z,hz,rfl⟩);obtain⟨w1,w2⟩:=ze2 (mL u hu);exact⟨u,hu,zbd B'.nodup w1 (by have:=p1 z hz;omega) (w2.trans eu)⟩
  ·rintro⟨u,hu,rfl⟩
   obtain⟨w1,w2⟩:=ze2 (mL u hu);obtain⟨z,hz,ez⟩:=(pL _).1 ((oL _).2 ⟨u,hu,rfl⟩);rw[zbd B'.nodup w1 (by have:=p1 z hz;omega) (w2.trans ez.symm)];exact hz
 ·constructor
  ·intro hz
   obtain⟨u,hu,eu⟩:=(oR _).1 ((pR _).2 ⟨z,hz,rfl⟩);obtain⟨w1,w2⟩:=ze2 (mR u hu);exact⟨u,hu,zbd B'.nodup w1 (by have:=p2 z hz;omega) (w2.trans eu)⟩
  ·rintro⟨u,hu,rfl⟩
   obtain⟨w1,w2⟩:=ze2 (mR u hu);obtain⟨z,hz,ez⟩:=(pR _).1 ((oR _).2 ⟨u,hu,rfl⟩);rw[zbd B'.nodup w1 (by have:=p2 z hz;omega) (w2.trans ez.symm)];exact hz
theorem ztm {c c':Nat}{F F':List PL}{P P':List Nat}(A:FormAt c F P)(A':FormAt c' F' P'):∀n u v,v<n→v<P.length→u<v→P.getD u 0∈P'→P.getD v 0∈P'→zb9 P P' u<zb9 P P' v:=by
 intro n;induction n with
 | zero=>intro u v h;omega
 | succ n ih =>
  intro u v hn hv huv mu mv;have hl:=A.book.len;have hl':=A'.book.len;obtain⟨wu,eu⟩:=ze2 mu;obtain⟨wv,ev⟩:=ze2 mv;have hm:∀i,i≤v→∀a b,b<i→a<b→P.getD a 0∈P'→P.getD b 0∈P'→zb9 P P' a<zb9 P P' b:=fun i hi a b hb hab ma mb=>ih a b (by omega) (by omega) hab ma mb
  obtain⟨r1,r2,r3⟩:=zpd A.book A'.book (i:=u) (i':=zb9 P P' u) (by omega) (by omega) eu.symm (hm u (by omega));obtain⟨t1,t2,t3⟩:=zpd A.book A'.book (i:=v) (i':=zb9 P P' v) (by omega) (by omega) ev.symm (hm v (Nat.le_refl _));obtain⟨o1,o2⟩:=A.book.opts _ _ (za4 (show u<F.length by omega));obtain⟨q1,q2⟩:=A.book.opts _ _ (za4 (show v<F.length by omega));have hne:zb9 P P' u≠zb9 P P' v:=fun e=>by
   rw[e,ev]at eu;have:=zbd A.book.nodup (by omega) (by omega) eu;omega
  refine Nat.not_le.1 fun hle=>?_
  have k1:=A.up u v _ _ huv (za4 (show u<F.length by omega)) (za4 (show v<F.length by omega));have k2:=A'.up _ _ _ _ (show zb9 P P' v<zb9 P P' u by omega) (za4 (show zb9 P P' v<F'.length by omega)) (za4 (show zb9 P P' u<F'.length by omega));rw[eu,ev]at k2;have c1:cmpL (za2 F' (zb9 P P' u)).1 (za2 F' (zb9 P P' v)).1=cmpL (za2 F u).1 (za2 F v).1:=by
   rw[r1,t1];exact znq _ _ _ fun a ha b hb=>⟨fun h=>hm v (Nat.le_refl _) a b (q1 b hb) h (r3 a (.inl ha)) (t3 b (.inl hb)),fun h=>hm v (Nat.le_refl _) b a (by have:=o1 a ha;omega) h (t3 b (.inl hb)) (r3 a (.inl ha))⟩
  have c2:cmpL (za2 F' (zb9 P P' u)).2 (za2 F' (zb9 P P' v)).2=cmpL (za2 F u).2 (za2 F v).2:=by
   rw[r2,t2];exact znq _ _ _ fun a ha b hb=>⟨fun h=>hm v (Nat.le_refl _) a b (q2 b hb) h (r3 a (.inr ha)) (t3 b (.inr hb)),fun h=>hm v (Nat.le_refl _) b a (by have:=o2 a ha;omega) h (t3 b (.inr hb)) (r3 a (.inr ha))⟩
  have c3:zam (za2 F' (zb9 P P' u)) (za2 F' (zb9 P P' v))=zam (za2 F u) (za2 F v):=by unfold zam;rw[c1,c2]
  rcases k1 with k1|⟨e1,k1⟩
  ·rcases k2 with k2|⟨e2,_⟩ <;> omega
  ·rcases k2 with k2|⟨_,k2⟩
   ·omega
   ·rw[←c3]at k1
    rw[zfs k1]at k2;cases k2
theorem zo9 {c c':Nat}{F F':List PL}{P P':List Nat}(A:FormAt c F P)(A':FormAt c' F' P'){i i':Nat}(hi:i<F.length)(hi':i'<F'.length)(e:P.getD i 0=P'.getD i' 0) :
  za3 P' (za2 F' i').1=za3 P (za2 F i).1/\za3 P' (za2 F' i').2=za3 P (za2 F i).2:=by
 have hl:=A.book.len;obtain⟨r1,r2,r3⟩:=zpd A.book A'.book hi hi' e (fun u v hv huv=>ztm A A' (v+1) u v (Nat.lt_succ_self _) (by omega) huv);unfold za3;rw[r1,r2,List.map_map,List.map_map];exact⟨List.map_congr_left fun u hu=>(ze2 (r3 u (.inl hu))).2,List.map_congr_left fun u hu=>(ze2 (r3 u (.inr hu))).2⟩
theorem zgs {F:List PL}(hg:zbv (i2 F)){k c:Nat}(hk:k<F.length)(hc:c=(za0 F).getD k 0):zbv (i2 (zad c))/\zaq (zad c)=c ∧
  za3 (za0 (zad c)) (za2 (zad c) ((zad c).length-1)).1=za3 (za0 F) (za2 F k).1/\za3 (za0 (zad c)) (za2 (zad c) ((zad c).length-1)).2=za3 (za0 F) (za2 F k).2:=by
 obtain⟨P,A⟩:=zkq hg;obtain⟨P',A'⟩:=zbu c;obtain⟨hp',_,_,_,_,hcode⟩:=zfi (zbu c);obtain⟨F',hF'⟩:∃F',F'=zad c:=⟨_,rfl⟩;rw[←hF']at A' hp' hcode ⊢;have hl:=A.book.len;have hl':=A'.book.len;have e1:P.getD k 0=c:=by rw[hc];exact zg6 A.book k hk
 have e2:P'.getD (F'.length-1) 0=c:=(zg6 A'.book _ (by omega)).trans hcode;have hsub:∀x,x∈P'→x∈P:=fun x hx=>(A.sub x).2 (((A.sub c).1 (by rw[←e1];exact zbs (by omega))).trans ((A'.sub x).1 hx))
 obtain⟨_,h120,h24,_⟩:=zaz hg;have hlen:F'.length≤120:=by
  have:=A'.book.nodup.length_le_of_subset hsub;omega
 have hfit:zcp F'=true:=by
  unfold zcp;rw[decide_eq_true_eq];refine⟨hlen,hp',fun y hy=>?_⟩;obtain⟨j,hj,rfl⟩:=List.getElem_of_mem hy;obtain⟨i,hi,ei⟩:=zg0 (hsub (P'.getD j 0) (zbs (by omega)));obtain⟨r1,r2⟩:=zo9 A A' (show i<F.length by omega) hj ei;have ey:F'[j]=za2 F' j:=Option.some.inj ((List.getElem?_eq_getElem hj).symm.trans (za4 hj));have hm:=h24 _ (List.mem_of_getElem? (za4 (show i<F.length by omega)));rw[ey];have l1:=congrArg List.length r1;have l2:=congrArg List.length r2;unfold za3 at l1 l2;rw[List.length_map,List.length_map]at l1 l2;omega
 have cong:∀ {G:List PL}{Q:List Nat}(B:BookC G Q) (L:List Nat),(∀i∈L,i<G.length)→za3 (za0 G) L=za3 Q L:=fun {G Q} B L h=>by
  unfold za3;exact List.map_congr_left fun i hi=>(zg6 B i (h i hi)).symm
 obtain⟨r1,r2⟩:=zo9 A A' hk (show F'.length-1<F'.length by omega) (e1.trans e2.symm);obtain⟨o1,o2⟩:=A.book.opts _ _ (za4 hk);obtain⟨p1,p2⟩:=A'.book.opts _ _ (za4 (show F'.length-1<F'.length by omega));refine⟨(zxv (by rw[hF'];exact zbu c) hfit).1,hcode,?_,?_⟩
 ·rw[cong A'.book _ (fun i hi=>by have:=p1 i hi;omega),cong A.book _ (fun i hi=>by have:=o1 i hi;omega)];exact r1
 ·rw[cong A'.book _ (fun i hi=>by have:=p2 i hi;omega),cong A.book _ (fun i hi=>by have:=o2 i hi;omega)];exact r2
section
variable {U:List Nat}{S:Nat→Prop}{w w':World}{bb:Nat}{V:List PL}{BV:List Nat}
end
end Go.Proofs.YtknniemfpkjnbaaGreatDoor
