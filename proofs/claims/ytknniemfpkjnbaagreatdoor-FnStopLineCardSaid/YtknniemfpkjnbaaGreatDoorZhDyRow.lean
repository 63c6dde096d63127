import Derived.Test.YtknniemfpkjnbaaGreatDoorZhValLaw
/- What the claim of FnStopLineCard needs of: StopLaw StopRows LessP DyRow. -/
namespace Go.Proofs.YtknniemfpkjnbaaGreatDoor
set_option linter.unusedVariables false
set_option linter.unusedSimpArgs false
open Go.RowKit
noncomputable def xAt (F:List PL)(k:Nat):Nat:=canC ((za0 F).getD k 0)
def znk (x y:Int × Nat):Bool:=decide (x.1*2^(16-x.2)<y.1*2^(16-y.2))
def zf5 (gr:Bool)(s y:Int × Nat):Bool:=if gr=true then znk s y else znk y s
def zfq (gr:Bool)(s y:Int × Nat):Int × Nat:=if zf5 gr s y=true then y else s
def zdh (gr:Bool):List (Int × Nat)→Int × Nat
 | []=>(0,0)
 | x::l=>l.foldl (zfq gr) x
theorem zy0 (x:Int × Nat):znk x x=false:=by unfold znk;exact decide_eq_false (Int.lt_irrefl _)
theorem zrb (gr:Bool)(x:Int × Nat):zf5 gr x x=false:=by unfold zf5;rw[zy0];split <;> rfl
theorem zuh (gr:Bool)(l:List (Int × Nat))(y:Int × Nat)(h:l≠[]):zdh gr (l ++ [y])=zfq gr (zdh gr l) y:=by
 cases l with
 | nil=>exact absurd rfl h
 | cons x l=>show(l ++ [y]).foldl (zfq gr) x=_;rw[List.foldl_append];rfl
theorem zug (gr:Bool)(x:Int × Nat):zfq gr x x=x:=by unfold zfq;rw[zrb];rfl
theorem zyy {α:Type}(f:Nat→α)(L:List Nat)(k x:Nat)(h:L[k]?=some x):(L.take (k+1)).map f=(L.take k).map f ++ [f x]:=by
 rw[List.take_add_one,h,Option.toList_some,List.map_append];rfl
theorem zi1 (gr:Bool)(f:Nat→Int × Nat)(L:List Nat)(k x:Nat)(h:L[k]?=some x):zdh gr ((L.take (k+1)).map f)=if k=0 then f x else zfq gr (zdh gr ((L.take k).map f)) (f x):=by
 rw[zyy f L k x h];split
 ·rename_i e;subst e;rw[List.take_zero];rfl
 ·rename_i e
  refine zuh gr _ _ (fun z=>?_);have h1:=congrArg List.length z;have h2:=(List.getElem?_eq_some_iff.1 h).1;rw[List.length_map,List.length_take,List.length_nil]at h1;omega
theorem ya9 (gr:Bool):∀(l:List (Int × Nat)) (x:Int × Nat),l.foldl (zfq gr) x=x∨l.foldl (zfq gr) x∈l:=by
 intro l;induction l with
 | nil=>intro x;exact .inl rfl
 | cons y l ih =>
  intro x;rw[List.foldl_cons];rcases ih (zfq gr x y)with h|h
  ·rw[h]
   unfold zfq;split
   ·exact .inr (List.mem_cons_self ..)
   ·exact .inl rfl
  ·exact .inr (List.mem_cons_of_mem _ h)
theorem zhg (gr:Bool)(l:List (Int × Nat))(h:l≠[]):zdh gr l∈l:=by
 cases l with
 | nil=>exact absurd rfl h
 | cons x l =>
  rcases ya9 gr l x with e|e
  ·show l.foldl (zfq gr) x∈_
   rw[e];exact List.mem_cons_self ..
  ·exact List.mem_cons_of_mem _ e
abbrev DyP:=(Int × Nat) × (Int × Nat)
noncomputable def zv3 (F:List PL)(A:List DyP)(k:Nat):DyP :=
 if isNB (xAt F k)=true then (valD (xAt F k),valD (xAt F k))
 else (zdh true ((za2 F k).1.map fun l=>(A.getD l ((0,0),(0,0))).2),zdh false ((za2 F k).2.map fun l=>(A.getD l ((0,0),(0,0))).1))
noncomputable def stL (F:List PL):Nat→List DyP
 | 0=>[]
 | k+1=>stL F k ++ [zv3 F (stL F k) k]
noncomputable def sL (F:List PL)(k:Nat):Int × Nat:=(zv3 F (stL F k) k).1
noncomputable def sR (F:List PL)(k:Nat):Int × Nat:=(zv3 F (stL F k) k).2
theorem zpb (F:List PL)(n:Nat):(stL F n).length=n:=by
 induction n with
 | zero=>rfl
 | succ n ih=>unfold stL;rw[List.length_append,ih];rfl
theorem zv6 (F:List PL){n j:Nat}(h:j<n):(stL F n).getD j ((0,0),(0,0))=(sL F j,sR F j):=by
 induction n with
 | zero=>omega
 | succ n ih =>
  unfold stL;rw[List.getD_eq_getElem?_getD];by_cases e:j<n
  ·rw[List.getElem?_append_left (by rw[zpb];exact e),←List.getD_eq_getElem?_getD]
   exact ih e
  ·have e:j=n:=by omega
   subst e;rw[List.getElem?_append_right (by rw[zpb];exact Nat.le_refl _),zpb,Nat.sub_self];rfl
theorem zva {F:List PL}{k:Nat}(h:isNB (xAt F k)=true):sL F k=valD (xAt F k)/\sR F k=valD (xAt F k):=by
 unfold sL sR zv3;rw[if_pos h];exact⟨rfl,rfl⟩
theorem s_no {F:List PL}{k:Nat}(h:isNB (xAt F k)=false)(ho:(∀i∈(za2 F k).1,i<k)/\∀i∈(za2 F k).2,i<k):sL F k=zdh true ((za2 F k).1.map (sR F))/\sR F k=zdh false ((za2 F k).2.map (sL F)):=by
 unfold sL sR zv3;rw[if_neg (by rw[h];decide)];constructor
 ·show zdh true _=_
  congr 1
  refine List.map_congr_left fun l hl=>?_
  rw[zv6 F (ho.1 l hl)];rfl
 ·show zdh false _=_
  congr 1
  refine List.map_congr_left fun l hl=>?_
  rw[zv6 F (ho.2 l hl)];rfl
def okTo (F:List PL)(n:Nat):Prop:=∀k,k<n→isNB (xAt F k)=true→valB (xAt F k)=true
theorem okTo.next {F:List PL}{n:Nat}(h:okTo F n)(hn:isNB (xAt F n)=true→valB (xAt F n)=true):okTo F (n+1):=fun k hk=>by
 by_cases e:k<n
 ·exact h k e
 ·rw[show k=n by omega];exact hn
theorem zmm {F:List PL}{n:Nat}(ho:OptsOK F)(hn:n≤F.length)(h:okTo F n):∀k,k<n→GoodD (sL F k).1 (sL F k).2/\GoodD (sR F k).1 (sR F k).2:=by
 have z:GoodD ((0,0):Int × Nat).1 (((0,0):Int × Nat).2:Nat):=⟨⟨by decide,by decide⟩,⟨by decide,by decide⟩,.inl rfl⟩;intro k;induction k using Nat.strongRecOn with
 | _ k ih =>
  intro hk;cases hb:isNB (xAt F k)with
  | true =>
   rw[(zva hb).1,(zva hb).2];have:=(zcb (h k hk hb)).2;exact⟨this,this⟩
  | false =>
   obtain⟨o1,o2⟩:=ho k _ (za4 (by omega));rw[(s_no hb ⟨o1,o2⟩).1,(s_no hb ⟨o1,o2⟩).2];have key:∀(gr:Bool) (L:List Nat) (f:Nat→Int × Nat),(∀i∈L,GoodD (f i).1 (f i).2)→GoodD (zdh gr (L.map f)).1 (zdh gr (L.map f)).2:=fun gr L f hf=>by
    by_cases e:L=[]
    ·subst e;exact z
    ·obtain⟨i,hi,e1⟩:=List.mem_map.1 (zhg gr (L.map f) (fun q=>e (List.map_eq_nil_iff.1 q)))
     rw[←e1];exact hf i hi
   exact⟨key _ _ _ fun i hi=>(ih i (o1 i hi) (by have:=o1 i hi;omega)).2,key _ _ _ fun i hi=>(ih i (o2 i hi) (by have:=o2 i hi;omega)).1⟩
theorem zps {F:List PL}{C:List Nat}(B:BookC F C)(hC:C=za0 F){k:Nat}(hk:k<F.length)(h:isNB (xAt F k)=false):(za2 F k).1≠[]/\(za2 F k).2≠[]:=by
 subst hC;have hn:¬IsNum ((za0 F).getD k 0):=fun q=>by
  obtain⟨P,s,e⟩:=(q.of (ybz _).symm).can (zic _).1;have h1:=zsq s P;rw[←e]at h1;unfold xAt at h;rw[h]at h1;cases h1
 obtain⟨oL,oR⟩:=zax B hk;constructor
 ·obtain⟨_,l,hl,_⟩:=zvy hn 0
  obtain⟨i,hi,_⟩:=(oL l).1 hl;intro e;rw[e]at hi;cases hi
 ·obtain⟨_,l,hl,_⟩:=zvx hn 0
  obtain⟨i,hi,_⟩:=(oR l).1 hl;intro e;rw[e]at hi;cases hi
def zfc (F:List PL)(k:Nat)(left:Bool):List Nat:=if left=true then (za2 F k).1 else (za2 F k).2
noncomputable def sOf (F:List PL)(left:Bool)(k:Nat):Int × Nat:=if left=true then sL F k else sR F k
open Classical in
noncomputable def ixOf (F:List PL)(k:Nat)(left:Bool):Nat:=(zfc F k left).findIdx fun o=>decide (sOf F (!left) o=sOf F left k)
noncomputable def zm1 (F:List PL):Nat→Nat→Bool→List Nat
 | 0,_,_=>[]
 | f+1,k,left=>if isNB (xAt F k)=true then []else ixOf F k left::zm1 F f ((zfc F k left).getD (ixOf F k left) 0) (!left)
noncomputable def zdu (F:List PL)(k:Nat)(left:Bool):List Nat:=zm1 F (k+1) k left
theorem zh0 {F:List PL}(ho:OptsOK F){k:Nat}(hk:k<F.length)(left:Bool):∀i∈zfc F k left,i<k:=by
 obtain⟨o1,o2⟩:=ho k _ (za4 hk);unfold zfc;split
 ·exact o1
 ·exact o2
theorem zfm {F:List PL}{C:List Nat}(B:BookC F C)(hC:C=za0 F){k:Nat}(hk:k<F.length)(h:isNB (xAt F k)=false)(left:Bool) :
  ∃x,(zfc F k left)[ixOf F k left]?=some x/\x<k/\sOf F (!left) x=sOf F left k/\∀j y,j<ixOf F k left→(zfc F k left)[j]?=some y→sOf F (!left) y≠sOf F left k:=by
 have ho:OptsOK F:=B.opts;obtain⟨n1,n2⟩:=zps B hC hk h;obtain⟨e1,e2⟩:=s_no h (ho k _ (za4 hk));have hex:∃x∈zfc F k left,sOf F (!left) x=sOf F left k:=by
  unfold zfc sOf;cases left with
  | true =>
   rw[if_pos rfl,if_pos rfl,e1];obtain⟨i,hi,e⟩:=List.mem_map.1 (zhg true ((za2 F k).1.map (sR F)) (fun q=>n1 (List.map_eq_nil_iff.1 q)));exact⟨i,hi,e⟩
  | false =>
   rw[if_neg (by decide),if_neg (by decide),e2];obtain⟨i,hi,e⟩:=List.mem_map.1 (zhg false ((za2 F k).2.map (sL F)) (fun q=>n2 (List.map_eq_nil_iff.1 q)));exact⟨i,hi,e⟩
 obtain⟨x0,hx0,ex0⟩:=hex;have hlt:ixOf F k left<(zfc F k left).length:=by
  unfold ixOf;exact List.findIdx_lt_length_of_exists ⟨x0,hx0,decide_eq_true ex0⟩
 refine⟨(zfc F k left)[ixOf F k left],List.getElem?_eq_getElem hlt,zh0 ho hk left _ (List.getElem_mem hlt),?_,fun j y hj hy e=>?_⟩
 ·have:=List.findIdx_getElem (p:=fun o=>decide (sOf F (!left) o=sOf F left k)) (xs:=zfc F k left) (w:=hlt)
  exact of_decide_eq_true this
 ·have h1:=List.not_of_lt_findIdx (p:=fun o=>decide (sOf F (!left) o=sOf F left k)) (xs:=zfc F k left) hj
  obtain⟨hj',ey⟩:=List.getElem?_eq_some_iff.1 hy
  rw[ey,decide_eq_true e]at h1;cases h1
theorem zxc {F:List PL}{C:List Nat}(B:BookC F C)(hC:C=za0 F):∀k,k<F.length→∀f g left,k<f→k<g→zm1 F f k left=zm1 F g k left:=by
 intro k;induction k using Nat.strongRecOn with
 | _ k ih =>
  intro hk f g left hf hg;obtain⟨f,rfl⟩:∃m,f=m+1:=⟨f-1,by omega⟩;obtain⟨g,rfl⟩:∃m,g=m+1:=⟨g-1,by omega⟩;unfold zm1;cases h:isNB (xAt F k)with
  | true=>rfl
  | false =>
   obtain⟨x,hx,hxk,_,_⟩:=zfm B hC hk h left;rw[if_neg (by decide),if_neg (by decide),List.getD_eq_getElem?_getD,hx];show _::zm1 F f x _=_::zm1 F g x _
   rw[ih x hxk (by omega) f g (!left) (by omega) (by omega)]
theorem ziq {F:List PL}{k:Nat}(h:isNB (xAt F k)=true)(left:Bool):zdu F k left=[]:=by unfold zdu zm1;rw[if_pos h]
theorem zdt {F:List PL}{C:List Nat}(B:BookC F C)(hC:C=za0 F){k x:Nat}(hk:k<F.length)(h:isNB (xAt F k)=false)(left:Bool)(hx:(zfc F k left)[ixOf F k left]?=some x)(hxk:x<k) :
  zdu F k left=ixOf F k left::zdu F x (!left):=by
 have e1:zdu F k left=ixOf F k left::zm1 F k x (!left):=by
  unfold zdu;rw[zm1,if_neg (by rw[h];decide),List.getD_eq_getElem?_getD,hx];rfl
 rw[e1,zxc B hC x (by omega) k (x+1) (!left) hxk (by omega)];rfl
theorem zn8 {F:List PL}{C:List Nat}(B:BookC F C)(hC:C=za0 F):∀k,k<F.length→∀left,(zdu F k left).length≤k:=by
 intro k;induction k using Nat.strongRecOn with
 | _ k ih =>
  intro hk left;cases h:isNB (xAt F k)with
  | true=>rw[ziq h];exact Nat.zero_le _
  | false =>
   obtain⟨x,hx,hxk,_,_⟩:=zfm B hC hk h left;rw[zdt B hC hk h left hx hxk,List.length_cons];have:=ih x hxk (by omega) (!left);omega
def dyL (f:Nat→Int × Nat)(n:Nat):List (Value × Value):=(List.range n).map fun j=>(.int .i64 (f j).1,.int .i64 ((f j).2:Int))
theorem zfp (f:Nat→Int × Nat)(n:Nat):(dyL f n).length=n:=by unfold dyL;rw[List.length_map,List.length_range]
theorem zi0 (f:Nat→Int × Nat){n j:Nat}(h:j<n):(dyL f n)[j]?=some (.int .i64 (f j).1,.int .i64 ((f j).2:Int)):=by unfold dyL;rw[List.getElem?_map,List.getElem?_range h];rfl
theorem yad (f:Nat→Int × Nat)(k:Nat):dyL f (k+1)=dyL f k ++ [(.int .i64 (f k).1,.int .i64 ((f k).2:Int))]:=by unfold dyL;rw[List.range_succ,List.map_append];rfl
noncomputable def numL (F:List PL)(n:Nat):List Bool:=(List.range n).map fun j=>isNB (xAt F j)
theorem zgv (F:List PL)(n:Nat):(numL F n).length=n:=by unfold numL;rw[List.length_map,List.length_range]
theorem zsb (F:List PL){n j:Nat}(h:j<n):(numL F n)[j]?=some (isNB (xAt F j)):=by unfold numL;rw[List.getElem?_map,List.getElem?_range h];rfl
theorem zx1 (F:List PL)(k:Nat):numL F (k+1)=numL F k ++ [isNB (xAt F k)]:=by unfold numL;rw[List.range_succ,List.map_append];rfl
theorem zot (f:Nat→Int × Nat)(k:Nat):zau (dyL f (k+1))=zau (dyL f k) ++ [.int .i64 (f k).1,.int .i64 ((f k).2:Int)]:=by rw[yad];simp[zau]
def zyr (F:List PL)(ok:Bool)(w:World)(e:Ending)(w':World):Prop:=∃(la:Option Addr) (l1 l2:Nat) (ra:Option Addr) (r1 r2:Nat) (ba:Option Addr) (b1 b2:Nat),e=.returned (.tuple #[.agg #[.slice la l1 l2,.slice ra r1 r2,.slice ba b1 b2],.bool ok]) ∧
 (ok=true→Pairs w' (.slice la l1 l2) (dyL (sL F) F.length)/\Pairs w' (.slice ra r1 r2) (dyL (sR F) F.length)/\SliceOf encB w' (.slice ba b1 b2) (numL F F.length))/\(∀q,(Value.slice la l1 l2).ownBlock=some q→w.heap.size≤q)/\(∀q,(Value.slice ra r1 r2).ownBlock=some q→w.heap.size≤q)/\Fr NoM w w'
set_option maxRecDepth 4000 in
set_option maxHeartbeats 4000000 in
theorem zge (a b:Int)(p q:Nat)(w:World)(hga:GoodD a p)(hgb:GoodD b q)(res:Bool)(hres:res=znk (a,p) (b,q)) :
  Calls Tryz.prog 65 #[.agg #[.int .i64 a,.int .i64 (p:Int)],.agg #[.int .i64 b,.int .i64 (q:Int)]] w fun e w'=>e=.returned (.bool res)/\Fr NoM w w':=by
 obtain⟨w1,hw1⟩:∃w1,w1=(w.alloc (.cells #[.int .i64 a,.int .i64 (p:Int)] 43)).alloc (.cells #[.int .i64 b,.int .i64 (q:Int)] 43):=⟨_,rfl⟩;have f1:Fr NoM w w1:=by rw[hw1];exact((Fr.refl NoM w).alloc _).alloc _
 have e0:w1.heap[w.heap.size]?=some (.cells #[.int .i64 a,.int .i64 (p:Int)] 43 (0,0)):=by rw[hw1];exact((Fr.refl NoM _).alloc _).heap (heap_alloc_new w _) (fun q=>q)
 have e1:w1.heap[w.heap.size+1]?=some (.cells #[.int .i64 b,.int .i64 (q:Int)] 43 (0,0)):=by
  have h:=heap_alloc_new (w.alloc (.cells #[.int .i64 a,.int .i64 (p:Int)] 43)) (.cells #[.int .i64 b,.int .i64 (q:Int)] 43);rw[World.size_alloc]at h;rw[hw1];exact h
 obtain⟨s1,hs1⟩:∃s1,s1=a*2^(16-p):=⟨_,rfl⟩;obtain⟨s2,hs2⟩:∃s2,s2=b*2^(16-q):=⟨_,rfl⟩;have hd:res=decide (s1<s2):=by rw[hres,hs1,hs2];rfl
 have hp:p≤16:=by have:=hga.2.1;omega
 have hq:q≤16:=by have:=hgb.2.1;omega
 have H1:=Hh (fun(W:World)=>show Calls Tryz.prog 60 #[.agg #[.int .i64 a,.int .i64 (p:Int)]] W fun e w'=>e=.returned (.int .i64 s1)/\Fr NoM W w' from by rw[hs1];exact zcv a p W hp hga.1);have H2:=Hh (fun(W:World)=>show Calls Tryz.prog 60 #[.agg #[.int .i64 b,.int .i64 (q:Int)]] W fun e w'=>e=.returned (.int .i64 s2)/\Fr NoM W w' from by rw[hs2];exact zcv b q W hq hgb.1);have HK:=Hh (fun(W:World) (f:Fr NoM w1 W)=>show W.cell? ⟨w.heap.size,0,none⟩=some (.int .i64 a)/\W.cell? ⟨w.heap.size,1,none⟩=some (.int .i64 (p:Int))/\W.cell? ⟨w.heap.size+1,0,none⟩=some (.int .i64 b)/\W.cell? ⟨w.heap.size+1,1,none⟩=some (.int .i64 (q:Int))from by
  have h0:=f.heap e0 (fun q=>q);have h1:=f.heap e1 (fun q=>q);exact⟨by rw[cell_of_row W _ 0 _ _ _ h0];rfl,by rw[cell_of_row W _ 1 _ _ _ h0];rfl,by rw[cell_of_row W _ 0 _ _ _ h1];rfl,by rw[cell_of_row W _ 1 _ _ _ h1];rfl⟩)
 have F1:=Hh f1;have HD:=Hh hd;clear f1 e0 e1 hs1 hs2 hres hd hp hq hga hgb;obtain⟨k0,k1,k2,k3⟩:=HK.out w1 (Fr.refl _ _);go_enter Tryz.func65,Tryz.ntmps65;go_upto_region 1 with fail;rw[←hw1];clear hw1;have K0:Fr NoM w1 w1.drew:=(Fr.refl NoM w1).drew;go_region_law (first
  | (go_simp;first
   | (go_at_call 60;(with_reducible refine(H1.out _).mono ?_);rintro e wc ⟨rfl,fc⟩;have kc:Fr NoM w1 wc:=Fr.trans (by assumption) fc (fun _ _ q=>q);obtain⟨i0,i1,i2,i3⟩:=HK.out wc kc)
   | (go_at_call 60;(with_reducible refine(H2.out _).mono ?_);rintro e wd ⟨rfl,fd⟩;have kd:Fr NoM w1 wd:=Fr.trans (by assumption) fd (fun _ _ q=>q);obtain⟨j0,j1,j2,j3⟩:=HK.out wd kd)
   | fail)
  | fail)
 all_goals
  have KD:=Hh kd;go_wp2;go_ret;exact⟨by rw[HD.out];rfl,F1.out.trans KD.out (fun _ _ q=>q)⟩
theorem zuc (g n c k:Nat)(hk:k<n)(w:World):(Instr.indexAt 66 (.slice (some ⟨g,0,none⟩) n c) (.int .i64 (k:Int))).run Tryz.prog w=.ok (.pointer (some ⟨g,k*2,none⟩)) w:=by
 go_simp
theorem ycr (n:Nat)(W:World)(hn:n<1000000000):(Instr.makeSlice 66 (.int .i64 (n:Int)) (.int .i64 (n:Int))).run Tryz.prog W=.ok (.slice (some ⟨W.heap.size,0,none⟩) n n) (W.alloc (.cells (zca encI 0 (2*n)) 43)):=by
 obtain⟨i0,hi,hz0,hz1,hz2⟩:=info_parts zmk;have h:=run_make (P:=Tryz.prog) W 66 43 i0 _ Tryz.underlying66 hi hz0 .i64 .i64 n n (by omega) (by omega) (by rw[hz2];omega) (by omega);rw[h,hz1,Int.toNat_natCast];have:madeCells (Value.cells (.agg #[.int .i64 0,.int .i64 0])) (n*2)=zca encI 0 (2*n):=by
  apply Array.ext'
  unfold zca;rw[List.toList_toArray,madeCells,Array.toList_map,Array.toList_range];refine(List.eq_replicate_iff.2 ⟨by simp[Nat.mul_comm],fun b hb=>?_⟩:_=List.replicate (2*n) (Value.int .i64 0)).trans (by simp[encI]);obtain⟨y,_,rfl⟩:=List.mem_map.1 hb;have h2:y%2=0∨y%2=1:=by omega
  rcases h2 with e|e <;> simp[Value.cells,e]
 rw[this]
theorem zzr (n:Nat)(hn:n<1000000000)(W:World):(Instr.makeSlice 67 (.int .i64 (n:Int)) (.int .i64 (n:Int))).run Tryz.prog W=.ok (.slice (some ⟨W.heap.size,0,none⟩) n n) (W.alloc (.cells (zca encB false n) 4)):=by
 obtain⟨i0,hi,hz0,hz1,hz2⟩:=info_parts zbh;have h:=run_make (P:=Tryz.prog) W 67 4 i0 (.bool false) Tryz.underlying67 hi hz0 .i64 .i64 (n:Int) (n:Int) (by omega) (by omega) (by rw[hz2];omega) (by omega);rw[h,hz1,show((n:Int)).toNat=n from by omega,Nat.mul_one];have:madeCells (Value.cells (.bool false)) n=(zca encB false n):=by
  apply Array.ext'
  unfold zca;rw[List.toList_toArray,madeCells,Array.toList_map,Array.toList_range];refine(List.eq_replicate_iff.2 ⟨by simp,fun b hb=>?_⟩:_=List.replicate n (Value.bool false)).trans (by simp[encB]);obtain⟨i,_,rfl⟩:=List.mem_map.1 hb;show(Value.cells (.bool false))[i%(Value.cells (.bool false)).size]! = .bool false
  rw[show(Value.cells (.bool false)).size=1 from rfl,Nat.mod_one];rfl
 rw[this]
def RowE (W:World)(g n k:Nat)(f:Nat→Int × Nat)(o:Option (Int × Nat)):Prop :=
 ∃A:List Int,RowIs 43 encI W g A/\A.length=2*n/\(∀j,j<k→A[j*2]?=some (f j).1/\A[j*2+1]?=some ((f j).2:Int))/\∀x,o=some x→A[k*2]?=some x.1/\A[k*2+1]?=some (x.2:Int)
section
variable {W W':World}{g n k:Nat}{f:Nat→Int × Nat}{o:Option (Int × Nat)}{M:Nat→Prop}
theorem RowE.fr (h:RowE W g n k f o)(hf:Fr M W W')(hm:¬M g):RowE W' g n k f o:=by
 obtain⟨A,a,b⟩:=h;exact⟨A,a.fr hf hm,b⟩
theorem RowE.frozen (h:RowE W g n k f o)(i:Nat):W.frozen? ⟨g,i,none⟩=false:=by
 obtain⟨A,a,_⟩:=h;exact a.frozen i
theorem zig {e:TypeId}{A:List Int}(h:RowIs e encI W g A){i:Nat}{x:Int}(hx:A[i]?=some x):W.cell? ⟨g,i,none⟩=some (.int .i64 x):=by
 obtain⟨hi,e1⟩:=List.getElem?_eq_some_iff.1 hx
 rw[h.cell i hi,e1];rfl
theorem RowE.cell (h:RowE W g n k f o){j:Nat}(hj:j<k):W.cell? ⟨g,j*2,none⟩=some (.int .i64 (f j).1)/\W.cell? ⟨g,j*2+1,none⟩=some (.int .i64 ((f j).2:Int)):=by
 obtain⟨A,a,_,c,_⟩:=h;exact⟨zig a (c j hj).1,zig a (c j hj).2⟩
theorem RowE.cur {x:Int × Nat}(h:RowE W g n k f (some x)):W.cell? ⟨g,k*2,none⟩=some (.int .i64 x.1)/\W.cell? ⟨g,k*2+1,none⟩=some (.int .i64 (x.2:Int)):=by
 obtain⟨A,a,_,_,c⟩:=h;exact⟨zig a (c x rfl).1,zig a (c x rfl).2⟩
theorem RowE.has (h:RowE W g n k f o){i:Nat}(hi:i<2*n):∃v,W.cell? ⟨g,i,none⟩=some v:=by
 obtain⟨A,a,b,_⟩:=h;exact⟨_,a.cell i (by omega)⟩
theorem RowE.set (h:RowE W g n k f o)(hk:k<n)(x:Int × Nat):RowE ((W.setCell ⟨g,k*2,none⟩ (.int .i64 x.1)).setCell ⟨g,k*2+1,none⟩ (.int .i64 (x.2:Int))) g n k f (some x):=by
 obtain⟨A,a,b,c,_⟩:=h;refine⟨(A.set (k*2) x.1).set (k*2+1) (x.2:Int),(a.set (k*2) x.1).set (k*2+1) (x.2:Int),by simp[b],fun j hj=>?_,fun y hy=>?_⟩
 ·obtain⟨c1,c2⟩:=c j hj
  rw[List.getElem?_set_ne (by omega),List.getElem?_set_ne (by omega),List.getElem?_set_ne (by omega),List.getElem?_set_ne (by omega)];exact⟨c1,c2⟩
 ·cases hy
  rw[List.getElem?_set_ne (by omega),List.getElem?_set_self (by omega),List.getElem?_set_self (by rw[List.length_set];omega)];exact⟨rfl,rfl⟩
theorem RowE.next (h:RowE W g n k f (some (f k))):RowE W g n (k+1) f none:=by
 obtain⟨A,a,b,c,d⟩:=h;refine⟨A,a,b,fun j hj=>?_,fun x e=>by cases e⟩;by_cases e:j<k
 ·exact c j e
 ·rw[show j=k by omega];exact d _ rfl
theorem RowE.of0 (h:W.heap[g]?=some (.cells (zca encI 0 (2*n)) 43 (0,0))):RowE W g n 0 f none :=
 ⟨List.replicate (2*n) 0,h,by simp,fun j hj=>absurd hj (Nat.not_lt_zero _),fun x e=>by cases e⟩
theorem RowE.pairs (h:RowE W g n n f o)(hn:n≤1000000):Pairs W (.slice (some ⟨g,0,none⟩) n n) (dyL f n):=by
 refine⟨some ⟨g,0,none⟩,n,by rw[zfp],by rw[zfp];exact Nat.le_refl _,by omega,fun j x hx=>?_⟩;have hj:j<n:=by have:=(List.getElem?_eq_some_iff.1 hx).1;rw[zfp]at this;exact this
 rw[zi0 f hj]at hx;cases hx
 exact⟨g,0,rfl,by rw[Nat.zero_add];exact(h.cell hj).1,by rw[Nat.zero_add];exact(h.cell hj).2⟩
end
def zcs (gr:Bool)(f:Nat→Int × Nat)(L:List Nat)(j:Nat):Option (Int × Nat):=if j=0 then none else some (zdh gr ((L.take j).map f))
theorem zoc {gr:Bool}{f:Nat→Int × Nat}{L:List Nat}{x:Nat}(h:L[0]?=some x):zcs gr f L 1=some (f x):=by
 unfold zcs;rw[if_neg (by decide),zi1 gr f L 0 x h,if_pos rfl]
theorem zmd {gr:Bool}{f:Nat→Int × Nat}{L:List Nat}{j x:Nat}(h:L[j]?=some x)(hj:j≠0):zcs gr f L (j+1)=some (zfq gr (zdh gr ((L.take j).map f)) (f x)):=by
 unfold zcs;rw[if_neg (by omega),zi1 gr f L j x h,if_neg hj]
theorem zod {gr:Bool}{f:Nat→Int × Nat}{L:List Nat}(h:L≠[]):zcs gr f L L.length=some (zdh gr (L.map f)):=by
 unfold zcs;rw[if_neg (fun e=>h (List.length_eq_zero_iff.1 e)),List.take_length]
theorem zmq {gr:Bool}{f:Nat→Int × Nat}{L:List Nat}(h:L≠[])(hg:∀i∈L,GoodD (f i).1 (f i).2):GoodD (zdh gr (L.map f)).1 (zdh gr (L.map f)).2:=by
 obtain⟨i,hi,e⟩:=List.mem_map.1 (zhg gr (L.map f) (fun q=>h (List.map_eq_nil_iff.1 q)));rw[←e];exact hg i hi
def RowN (W:World)(g n k:Nat)(F:List PL):Prop :=
 ∃A:List Bool,RowIs 4 encB W g A/\A.length=n/\(∀j,j<k→A[j]?=some (isNB (xAt F j)))/\∀j,k≤j→j<n→A[j]?=some false
section
variable {W W':World}{g n k:Nat}{F:List PL}{M:Nat→Prop}
theorem RowN.fr (h:RowN W g n k F)(hf:Fr M W W')(hm:¬M g):RowN W' g n k F:=by
 obtain⟨A,a,b⟩:=h;exact⟨A,a.fr hf hm,b⟩
theorem RowN.frozen (h:RowN W g n k F)(i:Nat):W.frozen? ⟨g,i,none⟩=false:=by
 obtain⟨A,a,_⟩:=h;exact a.frozen i
theorem RowN.has (h:RowN W g n k F){i:Nat}(hi:i<n):∃v,W.cell? ⟨g,i,none⟩=some v:=by
 obtain⟨A,a,b,_⟩:=h;exact⟨_,a.cell i (by omega)⟩
theorem RowN.skip (h:RowN W g n k F)(hk:k<n)(hn:isNB (xAt F k)=false):RowN W g n (k+1) F:=by
 obtain⟨A,a,b,c,d⟩:=h;refine⟨A,a,b,fun j hj=>?_,fun j hj=>d j (by omega)⟩;by_cases e:j<k
 ·exact c j e
 ·rw[show j=k by omega,hn];exact d k (Nat.le_refl _) hk
theorem RowN.set (h:RowN W g n k F)(hk:k<n)(hn:isNB (xAt F k)=true):RowN (W.setCell ⟨g,k,none⟩ (.bool true)) g n (k+1) F:=by
 obtain⟨A,a,b,c,d⟩:=h;refine⟨A.set k true,a.set k true,by simp[b],fun j hj=>?_,fun j hj hjn=>?_⟩
 ·by_cases e:j<k
  ·rw[List.getElem?_set_ne (by omega)];exact c j e
  ·rw[show j=k by omega,List.getElem?_set_self (by omega),hn]
 ·rw[List.getElem?_set_ne (by omega)];exact d j (by omega) hjn
theorem RowN.of0 (h:W.heap[g]?=some (.cells (zca encB false n) 4 (0,0))):RowN W g n 0 F :=
 ⟨List.replicate n false,h,by simp,fun j hj=>absurd hj (Nat.not_lt_zero _),fun j _ hj=>by rw[List.getElem?_replicate_of_lt hj]⟩
theorem RowN.bools (h:RowN W g n n F)(hn:n≤1000000):SliceOf encB W (.slice (some ⟨g,0,none⟩) n n) (numL F n):=by
 obtain⟨A,a,b,c,_⟩:=h;have e:A=numL F n:=by
  refine List.ext_getElem? fun j=>?_
  by_cases hj:j<n
  ·rw[c j hj,zsb F hj]
  ·rw[List.getElem?_eq_none (by omega),List.getElem?_eq_none (by rw[zgv];omega)]
 subst e;have h1:=a.slice (by omega);rw[zgv]at h1;exact h1
end
end Go.Proofs.YtknniemfpkjnbaaGreatDoor
