import Derived.Test.YtlapkmhemepcaaaGreatDoorZmm
import Derived.Test.YtlapkmhemepcaaaGreatDoorZmy
/- Lemmas. -/
namespace Go.Proofs.YtlapkmhemepcaaaGreatDoor
set_option linter.unusedVariables false
set_option linter.unusedSimpArgs false
open Go.RowKit
set_option maxRecDepth 4000 in
set_option maxHeartbeats 2000000 in
theorem znu (T P:Int)(w:World)(g:Bool)(hg:g=true↔GoodD T P)(y1 y2:Int)(hy:(g=true→y1=T/\y2=P)/\(g=false→y1=0/\y2=0)) :
  Calls Tryz.prog 195 #[.agg #[.int .i64 T,.int .i64 P]] w fun e w'=>e=.returned (.tuple #[.agg #[.int .i64 y1,.int .i64 y2],.bool g])/\Fr NoM w w':=by
 obtain⟨w1,hw1⟩:∃w1,w1=(w.alloc (.cells #[.int .i64 T,.int .i64 P] 29)).alloc (.cells #[.int .i64 0,.int .i64 0] 29):=⟨_,rfl⟩;have f1:Fr NoM w w1:=by rw[hw1];exact((Fr.refl NoM w).alloc _).alloc _
 have e0:w1.heap[w.heap.size]?=some (.cells #[.int .i64 T,.int .i64 P] 29 (0,0)):=by rw[hw1];exact((Fr.refl NoM _).alloc _).heap (heap_alloc_new w _) (fun q=>q)
 have e1:w1.heap[w.heap.size+1]?=some (.cells #[.int .i64 0,.int .i64 0] 29 (0,0)):=by
  have h:=heap_alloc_new (w.alloc (.cells #[.int .i64 T,.int .i64 P] 29)) (.cells #[.int .i64 0,.int .i64 0] 29);rw[World.size_alloc]at h;rw[hw1];exact h
 have HK:=Hh (fun(W:World) (f:Fr NoM w1 W)=>show W.cell? ⟨w.heap.size,0,none⟩=some (.int .i64 T)/\W.cell? ⟨w.heap.size,1,none⟩=some (.int .i64 P)/\W.cell? ⟨w.heap.size+1,0,none⟩=some (.int .i64 0)/\W.cell? ⟨w.heap.size+1,1,none⟩=some (.int .i64 0)/\W.frozen? ⟨w.heap.size+1,0,none⟩=false/\W.frozen? ⟨w.heap.size+1,1,none⟩=false from by
  have h0:=f.heap e0 (fun q=>q);have h1:=f.heap e1 (fun q=>q);exact⟨by rw[cell_of_row W _ 0 _ _ _ h0];rfl,by rw[cell_of_row W _ 1 _ _ _ h0];rfl,by rw[cell_of_row W _ 0 _ _ _ h1];rfl,by rw[cell_of_row W _ 1 _ _ _ h1];rfl,by simp[World.frozen?,h1],by simp[World.frozen?,h1]⟩)
 have HF:=Hh (fun(W:World) (f:Fr NoM w1 W)=>(((f1.trans f (fun _ _ q=>q)).setCell ⟨w.heap.size+1,0,none⟩ (.int .i64 y1) (fun h=>by have h:w.heap.size+1<w.heap.size:=h;omega)).setCell ⟨w.heap.size+1,1,none⟩ (.int .i64 y2) (fun h=>by have h:w.heap.size+1<w.heap.size:=h;omega):Fr NoM w ((W.setCell ⟨w.heap.size+1,0,none⟩ (.int .i64 y1)).setCell ⟨w.heap.size+1,1,none⟩ (.int .i64 y2))));have HG:=Hh (zun T P w1 g hg);have HY:=Hh hy;clear f1 e0 e1 hg hy;obtain⟨k0,k1,k2,k3,z1,z2⟩:=HK.out w1 (Fr.refl _ _);go_enter Tryz.func195,Tryz.ntmps195;go_wp2_with fail;rw[←hw1];clear hw1;(with_reducible refine HG.out.mono ?_);rintro e w2 ⟨rfl,f2⟩;clear k0 k1 k2 k3 z1 z2;obtain⟨k0,k1,k2,k3,z1,z2⟩:=HK.out w2 f2;have HR:=Hh (HF.out w2 f2);clear f2;cases g with
 | false =>
  obtain⟨rfl,rfl⟩:=HY.out.2 rfl;go_wp2;refine bodyPost_ret (v:=.tuple #[.agg #[.int .i64 0,.int .i64 0],.bool false]) (by simp[results,Tryz.results195,go_sem,k2,k3,z1,z2]) rfl ?_
  exact⟨rfl,HR.out⟩
 | true =>
  obtain⟨rfl,rfl⟩:=HY.out.1 rfl;go_wp2;refine bodyPost_ret (v:=.tuple #[.agg #[.int .i64 y1,.int .i64 y2],.bool true]) (by simp[results,Tryz.results195,go_sem,k2,k3,z1,z2]) rfl ?_
  exact⟨rfl,HR.out⟩
set_option maxRecDepth 4000 in
set_option maxHeartbeats 4000000 in
theorem zex (a b:Int)(p q:Nat)(w:World)(hp:p≤24)(hq:q≤24)(ha:-1073741824≤a/\a≤1073741824)(hb:-1073741824≤b/\b≤1073741824)(res:Bool)(hres:res=decide (a*2^(24-p)<b*2^(24-q))) :
  Calls Tryz.prog 91 #[.agg #[.int .i64 a,.int .i64 (p:Int)],.agg #[.int .i64 b,.int .i64 (q:Int)]] w fun e w'=>e=.returned (.bool res)/\Fr NoM w w':=by
 obtain⟨w1,hw1⟩:∃w1,w1=(w.alloc (.cells #[.int .i64 a,.int .i64 (p:Int)] 29)).alloc (.cells #[.int .i64 b,.int .i64 (q:Int)] 29):=⟨_,rfl⟩;have f1:Fr NoM w w1:=by rw[hw1];exact((Fr.refl NoM w).alloc _).alloc _
 have e0:w1.heap[w.heap.size]?=some (.cells #[.int .i64 a,.int .i64 (p:Int)] 29 (0,0)):=by rw[hw1];exact((Fr.refl NoM _).alloc _).heap (heap_alloc_new w _) (fun q=>q)
 have e1:w1.heap[w.heap.size+1]?=some (.cells #[.int .i64 b,.int .i64 (q:Int)] 29 (0,0)):=by
  have h:=heap_alloc_new (w.alloc (.cells #[.int .i64 a,.int .i64 (p:Int)] 29)) (.cells #[.int .i64 b,.int .i64 (q:Int)] 29);rw[World.size_alloc]at h;rw[hw1];exact h
 obtain⟨s1,hs1⟩:∃s1,s1=a*2^(24-p):=⟨_,rfl⟩;obtain⟨s2,hs2⟩:∃s2,s2=b*2^(24-q):=⟨_,rfl⟩;rw[←hs1,←hs2]at hres;have H1:=Hh (fun(W:World)=>show Calls Tryz.prog 139 #[.agg #[.int .i64 a,.int .i64 (p:Int)]] W fun e w'=>e=.returned (.int .i64 s1)/\Fr NoM W w' from by rw[hs1];exact zbv a p W hp ha);have H2:=Hh (fun(W:World)=>show Calls Tryz.prog 139 #[.agg #[.int .i64 b,.int .i64 (q:Int)]] W fun e w'=>e=.returned (.int .i64 s2)/\Fr NoM W w' from by rw[hs2];exact zbv b q W hq hb);have HK:=Hh (fun(W:World) (f:Fr NoM w1 W)=>show W.cell? ⟨w.heap.size,0,none⟩=some (.int .i64 a)/\W.cell? ⟨w.heap.size,1,none⟩=some (.int .i64 (p:Int))/\W.cell? ⟨w.heap.size+1,0,none⟩=some (.int .i64 b)/\W.cell? ⟨w.heap.size+1,1,none⟩=some (.int .i64 (q:Int))from by
  have h0:=f.heap e0 (fun q=>q);have h1:=f.heap e1 (fun q=>q);exact⟨by rw[cell_of_row W _ 0 _ _ _ h0];rfl,by rw[cell_of_row W _ 1 _ _ _ h0];rfl,by rw[cell_of_row W _ 0 _ _ _ h1];rfl,by rw[cell_of_row W _ 1 _ _ _ h1];rfl⟩)
 have F1:=Hh f1;have HRes:=Hh hres;clear f1 e0 e1 hs1 hs2 hp hq ha hb hres;obtain⟨k0,k1,k2,k3⟩:=HK.out w1 (Fr.refl _ _);go_enter Tryz.func91,Tryz.ntmps91;go_upto_region 1 with fail;rw[←hw1];clear hw1;have K0:Fr NoM w1 w1.drew:=(Fr.refl NoM w1).drew;go_region_law (first
  | (go_simp;first
   | (go_at_call 139;(with_reducible refine(H1.out _).mono ?_);rintro e wa ⟨rfl,fa⟩;have ka:Fr NoM w1 wa:=Fr.trans (by assumption) fa (fun _ _ q=>q);obtain⟨i0,i1,i2,i3⟩:=HK.out wa ka)
   | (go_at_call 139;(with_reducible refine(H2.out _).mono ?_);rintro e wb ⟨rfl,fb⟩;have kb:Fr NoM w1 wb:=Fr.trans (by assumption) fb (fun _ _ q=>q);obtain⟨j0,j1,j2,j3⟩:=HK.out wb kb)
   | fail)
  | fail)
 all_goals
  have hf:=F1.out.trans (show Fr NoM w1 _ by first|exact kb|exact ka) (fun _ _ q=>q);go_wp2;go_ret;exact⟨by rw[HRes.out];rfl,hf⟩
theorem zvq:∀(p:Nat) (x:Int),redT (-x) p=(-(redT x p).1,(redT x p).2):=by
 intro p;induction p with
 | zero=>intro x;rfl
 | succ p ih =>
  intro x;by_cases hx:x%2=0
  ·rw[zb6 hx,zb6 (show -x%2=0 by omega),show -x/2=-(x/2)from by omega,ih]
  ·rw[redT,if_neg (show ¬ -x%2=0 by omega),redT,if_neg hx]
theorem zz1 {x:Int}(h:0≤x):∀(p:Nat),0≤(redT x p).1:=by
 intro p;induction p generalizing x with
 | zero=>exact h
 | succ p ih =>
  by_cases hx:x%2=0
  ·rw[zb6 hx];exact ih (by omega)
  ·rw[redT,if_neg hx];exact h
theorem zvp {x:Int}(h:0<x):∀(p:Nat),0<(redT x p).1:=by
 intro p;induction p generalizing x with
 | zero=>exact h
 | succ p ih =>
  by_cases hx:x%2=0
  ·rw[zb6 hx];exact ih (by omega)
  ·rw[redT,if_neg hx];exact h
theorem zyz:∀(p:Nat),redT 0 p=(0,0):=by
 intro p;induction p with
 | zero=>rfl
 | succ p ih=>rw[zb6 (by decide)];exact ih
theorem yci {X D:Int}(hX:X%2=0)(hD:D%2=0)(h0:0<D):X+2≤(X/D+1)*D:=by
 have h1:=Int.emod_add_mul_ediv X D;have h2:=Int.emod_nonneg X (show D≠0 by omega);have h3:=Int.emod_lt_of_pos X h0;obtain⟨k,hk⟩:∃k,k=D/2:=⟨_,rfl⟩;have hd:D=2*k:=by omega
 have e:(X/D+1)*D=D*(X/D)+D:=by rw[Int.add_mul,Int.one_mul,Int.mul_comm]
 obtain⟨z,hz⟩:∃z,z=k*(X/D):=⟨_,rfl⟩;have ez:D*(X/D)=2*z:=by rw[hz,←Int.mul_assoc,←hd]
 rw[e];rw[ez]at h1 ⊢;omega
theorem zvx {p j N:Nat}(h:j≤p)(hp:p≤N):(2:Int)^(N-j)=2^(p-j)*2^(N-p):=by
 rw[←Int.pow_add];congr 1;omega
theorem zz6 {n:Nat}(h:0<n):(2:Int)^n%2=0:=by
 obtain⟨k,rfl⟩:∃k,n=k+1:=⟨n-1,by omega⟩;rw[Int.pow_succ];omega
theorem zdr (n:Nat):(0:Int)<2^n:=Int.pow_pos (by decide)
theorem zn5 {t:Int}{p j:Nat}(ho:t%2≠0)(hj:j<p)(hp:p≤24):¬(((t-1)*2^(24-p)/2^(24-j)+1)*2^(24-j)<(t+1)*2^(24-p)):=by
 rw[zvx (Nat.le_of_lt hj) hp];have hE:=zdr (24-p);rw[Int.mul_ediv_mul_of_pos_left _ _ hE];have h:=yci (X:=t-1) (D:=2^(p-j)) (by omega) (zz6 (by omega)) (zdr _);have h2:=Int.mul_le_mul_of_nonneg_right h (Int.le_of_lt hE);rw[Int.mul_assoc]at h2;rw[show t-1+2=t+1 from by omega]at h2;omega
theorem yaq {t:Int}{p:Nat}:(t-1)*2^(24-p)/2^(24-p)+1=t/\t*2^(24-p)<(t+1)*2^(24-p):=by
 have hE:=zdr (24-p);rw[Int.mul_ediv_cancel _ (by omega),Int.add_mul,Int.one_mul];omega
theorem zvf {t:Int}{p:Nat}(hp:0<p)(ho:t%2≠0)(h1:GoodD (redT (t-1) p).1 (redT (t-1) p).2)(h2:GoodD (redT (t+1) p).1 (redT (t+1) p).2):-2000001≤t/\t≤2000001:=by
 obtain⟨q,rfl⟩:∃q,p=q+1:=⟨p-1,by omega⟩;rw[zb6 (show(t-1)%2=0 by omega)]at h1;rw[zb6 (show(t+1)%2=0 by omega)]at h2;have a1:=h1.1;have a2:=h2.1;by_cases he:(t-1)/2%2=0
 ·rw[zcz (t:=(t+1)/2) (.inr (by omega))]at a2
  have a2:-1000000≤(t+1)/2/\(t+1)/2≤1000000:=a2;omega
 ·rw[zcz (t:=(t-1)/2) (.inr he)]at a1
  have a1:-1000000≤(t-1)/2/\(t-1)/2≤1000000:=a1;omega
def btwY (t:Int)(p:Nat):Int × Int:=if p≤16 then (t,p)else (0,17)
set_option maxRecDepth 4000 in
set_option maxHeartbeats 8000000 in
theorem zy5 (t a1 b1:Int)(p p1 p2:Nat)(w:World)(h0:0<t)(ho:t%2≠0)(hp:0<p)(h17:p≤17)(ha:redT (t-1) p=(a1,p1))(hb:redT (t+1) p=(b1,p2))(hga:GoodD a1 p1)(hgb:GoodD b1 p2)(y1 y2:Int)(hy:btwY t p=(y1,y2)) :
  Calls Tryz.prog 196 #[.agg #[.int .i64 a1,.int .i64 (p1:Int)],.agg #[.int .i64 b1,.int .i64 (p2:Int)]] w fun e w'=>e=.returned (.agg #[.int .i64 y1,.int .i64 y2])/\Fr NoM w w':=by
 have ht:=zvf hp ho (by rw[ha];exact hga) (by rw[hb];exact hgb);have a0:0≤a1:=by have:=zz1 (x:=t-1) (by omega) p;rw[ha]at this;exact this
 have b0:0<b1:=by have:=zvp (x:=t+1) (by omega) p;rw[hb]at this;exact this
 have hp1:p1≤16:=by have:=hga.2.1;omega
 have hp2:p2≤16:=by have:=hgb.2.1;omega
 have ra:=zer (N:=24) p (t-1) (by omega);have rb:=zer (N:=24) p (t+1) (by omega);rw[ha]at ra;rw[hb]at rb;have ra:a1*2^(24-p1)=(t-1)*2^(24-p):=ra;have rb:b1*2^(24-p2)=(t+1)*2^(24-p):=rb;obtain⟨w1,hw1⟩:∃w1,w1=((w.alloc (.cells #[.int .i64 a1,.int .i64 (p1:Int)] 29)).alloc (.cells #[.int .i64 b1,.int .i64 (p2:Int)] 29)).alloc (.cells #[.int .i64 0,.int .i64 0] 29):=⟨_,rfl⟩;have f1:Fr NoM w w1:=by rw[hw1];exact(((Fr.refl NoM w).alloc _).alloc _).alloc _
 have e0:w1.heap[w.heap.size]?=some (.cells #[.int .i64 a1,.int .i64 (p1:Int)] 29 (0,0)):=by rw[hw1];exact(((Fr.refl NoM _).alloc _).alloc _).heap (heap_alloc_new w _) (fun q=>q)
 have e1:w1.heap[w.heap.size+1]?=some (.cells #[.int .i64 b1,.int .i64 (p2:Int)] 29 (0,0)):=by
  have h:=heap_alloc_new (w.alloc (.cells #[.int .i64 a1,.int .i64 (p1:Int)] 29)) (.cells #[.int .i64 b1,.int .i64 (p2:Int)] 29);rw[World.size_alloc]at h;rw[hw1];exact((Fr.refl NoM _).alloc _).heap h (fun q=>q)
 have e2:w1.heap[w.heap.size+1+1]?=some (.cells #[.int .i64 0,.int .i64 0] 29 (0,0)):=by
  have h:=heap_alloc_new ((w.alloc (.cells #[.int .i64 a1,.int .i64 (p1:Int)] 29)).alloc (.cells #[.int .i64 b1,.int .i64 (p2:Int)] 29)) (.cells #[.int .i64 0,.int .i64 0] 29);rw[World.size_alloc,World.size_alloc]at h;rw[hw1];exact h
 have HK:=Hh (fun(W:World) (f:Fr NoM w1 W)=>show W.cell? ⟨w.heap.size,0,none⟩=some (.int .i64 a1)/\W.cell? ⟨w.heap.size,1,none⟩=some (.int .i64 (p1:Int))/\W.cell? ⟨w.heap.size+1,0,none⟩=some (.int .i64 b1)/\W.cell? ⟨w.heap.size+1,1,none⟩=some (.int .i64 (p2:Int))from by
  have h0:=f.heap e0 (fun q=>q);have h1:=f.heap e1 (fun q=>q);exact⟨by rw[cell_of_row W _ 0 _ _ _ h0];rfl,by rw[cell_of_row W _ 1 _ _ _ h0];rfl,by rw[cell_of_row W _ 0 _ _ _ h1];rfl,by rw[cell_of_row W _ 1 _ _ _ h1];rfl⟩)
 have HR:=Hh (fun(W:World) (f:Fr NoM w1 W)=>show W.cell? ⟨w.heap.size+1+1,0,none⟩=some (.int .i64 0)/\W.cell? ⟨w.heap.size+1+1,1,none⟩=some (.int .i64 0)/\W.frozen? ⟨w.heap.size+1+1,0,none⟩=false/\W.frozen? ⟨w.heap.size+1+1,1,none⟩=false from by
  have h0:=f.heap e2 (fun q=>q);exact⟨by rw[cell_of_row W _ 0 _ _ _ h0];rfl,by rw[cell_of_row W _ 1 _ _ _ h0];rfl,by simp[World.frozen?,h0],by simp[World.frozen?,h0]⟩)
 have HF:=Hh (fun(W:World) (f:Fr NoM w1 W)=>(((f1.trans f (fun _ _ q=>q)).setCell ⟨w.heap.size+1+1,0,none⟩ (.int .i64 y1) (fun h=>by have h:w.heap.size+1+1<w.heap.size:=h;omega)).setCell ⟨w.heap.size+1+1,1,none⟩ (.int .i64 y2) (fun h=>by have h:w.heap.size+1+1<w.heap.size:=h;omega):Fr NoM w ((W.setCell ⟨w.heap.size+1+1,0,none⟩ (.int .i64 y1)).setCell ⟨w.heap.size+1+1,1,none⟩ (.int .i64 y2))));have hlb:=fun(W:World)=>zex b1 0 p2 0 W (by omega) (by omega) (by have:=hgb.1;omega) (by omega) false (by
  have:=zdr (24-p2);have h:=Int.mul_pos b0 this
  rw[eq_comm,decide_eq_false_iff_not,Int.zero_mul];omega)
 rw[show((0:Nat):Int)=0 from rfl]at hlb;have HLb:=Hh hlb;have hla:=fun(W:World)=>zex a1 0 p1 0 W (by omega) (by omega) (by have:=hga.1;omega) (by omega) false (by
  have:=zdr (24-p1);have h:=Int.mul_nonneg a0 (Int.le_of_lt this);rw[eq_comm,decide_eq_false_iff_not,Int.zero_mul];omega)
 rw[show((0:Nat):Int)=0 from rfl]at hla;have HLa:=Hh hla;obtain⟨n1,hn1⟩:∃n1:Nat,a1=(n1:Int):=⟨a1.toNat,by omega⟩;obtain⟨fl,hfl⟩:∃fl,fl=n1/2^p1:=⟨_,rfl⟩;have hfle:fl≤n1:=by rw[hfl];exact Nat.div_le_self _ _
 have HFl:=Hh (fun(W:World)=>show Calls Tryz.prog 187 #[.agg #[.int .i64 a1,.int .i64 (p1:Int)]] W fun e w'=>e=.returned (.int .i64 (fl:Int))/\Fr NoM W w' from by rw[hfl,hn1];exact zrf n1 p1 W (by omega) (by have:=hga.1;omega));have hln:=fun(W:World)=>zex ((fl:Int)+1) b1 0 p2 W (by omega) (by omega) (by have:=hga.1;omega) (by have:=hgb.1;omega) false (by
  have h:=zn5 (t:=t) (p:=p) (j:=0) ho hp (by omega);rw[←ra,←rb,hn1,Nat.sub_zero,zm6 (by omega),←hfl]at h;rw[eq_comm,decide_eq_false_iff_not,Nat.sub_zero];exact h)
 rw[show((0:Nat):Int)=0 from rfl]at hln;have HLn:=Hh hln;obtain⟨sa,hsa⟩:∃sa,sa=(t-1)*2^(24-p):=⟨_,rfl⟩;obtain⟨sb,hsb⟩:∃sb,sb=(t+1)*2^(24-p):=⟨_,rfl⟩;have HSa:=Hh (fun(W:World)=>show Calls Tryz.prog 139 #[.agg #[.int .i64 a1,.int .i64 (p1:Int)]] W fun e w'=>e=.returned (.int .i64 sa)/\Fr NoM W w' from by rw[hsa,←ra];exact zbv a1 p1 W (by omega) (by have:=hga.1;omega));have HSb:=Hh (fun(W:World)=>show Calls Tryz.prog 139 #[.agg #[.int .i64 b1,.int .i64 (p2:Int)]] W fun e w'=>e=.returned (.int .i64 sb)/\Fr NoM W w' from by rw[hsb,←rb];exact zbv b1 p2 W (by omega) (by have:=hgb.1;omega));have HCo:=Hh (fun(j:Nat) (hj:j<p)=>show ¬((sa/2^(24-j)+1)*2^(24-j)<sb)from by rw[hsa,hsb];exact zn5 ho hj (by omega));have HFi:=Hh (show sa/2^(24-p)+1=t/\t*2^(24-p)<sb from by rw[hsa,hsb];exact yaq);have HMk:=Hh (fun(W:World)=>show Calls Tryz.prog 87 #[.int .i64 t,.int .i64 (p:Int)] W fun e w'=>e=.returned (.agg #[.int .i64 t,.int .i64 (p:Int)])/\Fr NoM W w' from by have h:=zmz t p W (by omega) (by omega);rw[zcz (.inr ho)]at h;exact h);have hba:=zfk (T:=a1) (p:=p1) (by omega) (by have:=hga.1;omega);rw[ra,←hsa]at hba;have hsa0:0≤sa:=by rw[hsa];exact Int.mul_nonneg (by omega) (Int.le_of_lt (zdr _))
 have HSa0:=Hh hsa0;clear hsa0;have hbb:=b0;have hb10:(b1 == 0)=false:=by rw[beq_eq_false_iff_ne];omega
 have HB:=Hh hba;have HY:=Hh hy;have HFl2:=Hh (show fl≤1000000 from by have:=hga.1;omega);have HPp:=Hh (And.intro hp h17);have hsw:IntKind.i64.wrap ((fl:Int)+1)=(fl:Int)+1:=by rw[IntKind.wrap_i64];have:=HFl2.out;omega
 clear f1 e0 e1 e2 hga hgb hy ha hb ra rb hlb hla hln hfl hsa hsb hba hn1 hfle a0 h0 ho ht;obtain⟨k0,k1,k2,k3⟩:=HK.out w1 (Fr.refl _ _);go_enter Tryz.func196,Tryz.ntmps196;go_wp2_with fail;rw[←hw1];clear hw1;(with_reducible refine(HLb.out _).mono ?_);rintro e w2 ⟨rfl,f2⟩;have F2:=Hh f2;clear f2 k0 k1 k2 k3;obtain⟨k0,k1,k2,k3⟩:=HK.out w2 F2.out;go_wp2_with fail;(with_reducible refine(HLa.out _).mono ?_);rintro e w3 ⟨rfl,f3⟩;have F3:=Hh (F2.out.trans f3 (fun _ _ q=>q));clear f3 k0 k1 k2 k3;obtain⟨k0,k1,k2,k3⟩:=HK.out w3 F3.out;go_wp2_with fail;(with_reducible refine(HFl.out _).mono ?_);rintro e w4 ⟨rfl,f4⟩;go_upto_region 6 with fail;obtain⟨W4,hW4⟩:∃W4,W4=w4.alloc (.cells #[.int .i64 ((fl:Int)+1),.int .i64 0] 29):=⟨_,rfl⟩;have g4:Fr NoM w4 W4:=by rw[hW4];exact(Fr.refl NoM w4).alloc _
 have en:W4.heap[w4.heap.size]?=some (.cells #[.int .i64 ((fl:Int)+1),.int .i64 0] 29 (0,0)):=by rw[hW4];exact heap_alloc_new w4 _
 have q0:W4.cell? ⟨w4.heap.size,0,none⟩=some (.int .i64 ((fl:Int)+1)):=by rw[cell_of_row W4 _ 0 _ _ _ en];rfl
 have q1:W4.cell? ⟨w4.heap.size,1,none⟩=some (.int .i64 0):=by rw[cell_of_row W4 _ 1 _ _ _ en];rfl
 have F4:=Hh (F3.out.trans (f4.trans g4 (fun _ _ q=>q)) (fun _ _ q=>q));rw[←hW4];clear hW4 f4 g4 en k0 k1 k2 k3;obtain⟨k0,k1,k2,k3⟩:=HK.out W4 F4.out;go_wp2_with fail;(with_reducible refine(HLn.out _).mono ?_);rintro e w5 ⟨rfl,f5⟩;have F5:=Hh (F4.out.trans f5 (fun _ _ q=>q));clear f5 k0 k1 k2 k3 q0 q1;go_wp2_with fail;go_loopw [6] (fun t W=>∃j:Nat,t=.int .i64 (j:Int)/\1≤j/\j≤17/\j≤p/\Fr NoM w5 W) (fun t _=>18-(intOf t).toNat)
 case atStart=>exact⟨1,rfl,by omega,by omega,by have:=HPp.out;omega,Fr.refl _ _⟩
 case round =>
  obtain⟨j,rfl,j1,j17,jp,hf⟩:=hrel;obtain⟨w6,rfl⟩:∃w6,w6=wr:=⟨_,rfl⟩;have F6:=Hh (F5.out.trans hf (fun _ _ q=>q));have F56:=Hh hf;clear hf;by_cases hj:j≤16
  ·obtain⟨k0,k1,k2,k3⟩:=HK.out w6 F6.out
   have e1:(24-(j:Int)).toNat=24-j:=by omega
   have hF1:(1:Int)≤2^(24-j):=by have:=zdr (24-j);omega
   have hF2:(2:Int)^(24-j)≤16777216:=by
    have:=Nat.pow_le_pow_right (n:=2) (by decide) (show 24-j≤24 by omega);have e:((2^(24-j):Nat):Int)=(2:Int)^(24-j):=by simp
    omega
   have hd:=Int.emod_add_mul_ediv sa (2^(24-j));have hm1:=Int.emod_nonneg sa (show(2:Int)^(24-j)≠0 by omega);have hm2:=Int.emod_lt_of_pos sa (show(0:Int)<2^(24-j)by omega);have hq0:=Int.ediv_nonneg HSa0.out (show(0:Int)≤2^(24-j)by omega);have hq1:=Int.ediv_le_self (2^(24-j)) HSa0.out;have hm3:(sa/2^(24-j)+1)*2^(24-j)=2^(24-j)*(sa/2^(24-j))+2^(24-j):=by rw[Int.add_mul,Int.one_mul,Int.mul_comm]
   have hw1:wrap64 (sa/2^(24-j)+1)=sa/2^(24-j)+1:=by
    have:=HB.out;unfold wrap64;omega
   have hw2:wrap64 ((sa/2^(24-j)+1)*2^(24-j))=(sa/2^(24-j)+1)*2^(24-j):=by
    have:=HB.out;rw[hm3];unfold wrap64;omega
   clear hF1 hF2 hd hm1 hm2 hq0 hq1 hm3;by_cases hjp:j<p
   ·have hlt:=HCo.out j hjp
    go_wp2_with fail;(with_reducible refine(HSa.out _).mono ?_);rintro e w7 ⟨rfl,f7⟩;have F7:=Hh (F6.out.trans f7 (fun _ _ q=>q));have F57:=Hh (F56.out.trans f7 (fun _ _ q=>q));clear f7 k0 k1 k2 k3;obtain⟨k0,k1,k2,k3⟩:=HK.out w7 F7.out;go_wp2_with fail;(with_reducible refine(HSb.out _).mono ?_);rintro e w8 ⟨rfl,f8⟩;have F8:=Hh (F7.out.trans f8 (fun _ _ q=>q));have F58:=Hh (F57.out.trans f8 (fun _ _ q=>q));clear f8 k0 k1 k2 k3;go_wp2_with fail;go_roundw
    case rel=>exact⟨j+1,by go_num,by omega,by omega,by omega,F58.out⟩
    case measure=>simp[intOf];omega
   ·obtain rfl:j=p:=by omega
    obtain⟨hf1,hlt⟩:=HFi.out;rw[hf1]at hw1 hw2;have hy:=HY.out;unfold btwY at hy;rw[if_pos hj]at hy;obtain⟨rfl,rfl⟩:y1=t/\y2=(j:Int):=⟨(congrArg Prod.fst hy).symm,(congrArg Prod.snd hy).symm⟩;clear hy;go_wp2_with fail;(with_reducible refine(HSa.out _).mono ?_);rintro e w7 ⟨rfl,f7⟩;have F7:=Hh (F6.out.trans f7 (fun _ _ q=>q));clear f7 k0 k1 k2 k3;obtain⟨k0,k1,k2,k3⟩:=HK.out w7 F7.out;go_wp2_with fail;(with_reducible refine(HSb.out _).mono ?_);rintro e w8 ⟨rfl,f8⟩;have F8:=Hh (F7.out.trans f8 (fun _ _ q=>q));clear f8 k0 k1 k2 k3;go_wp2_with fail;(with_reducible refine(HMk.out _).mono ?_);rintro e w9 ⟨rfl,f9⟩;have F9:=Hh (F8.out.trans f9 (fun _ _ q=>q));have HM:=Hh (HF.out w9 F9.out);obtain⟨r0,r1,r2,r3⟩:=HR.out w9 F9.out;clear f9;go_wp2_with fail;refine bodyPost_ret (v:=.agg #[.int .i64 y1,.int .i64 (j:Int)]) (by simp[results,Tryz.results196,go_sem,r0,r1,r2,r3]) rfl ?_
    exact⟨rfl,HM.out⟩
  ·obtain rfl:j=17:=by omega
   have hpe:p=17:=by have:=HPp.out;omega
   have hy:=HY.out;rw[hpe]at hy;obtain⟨rfl,rfl⟩:y1=0/\y2=17:=⟨(congrArg Prod.fst hy).symm,(congrArg Prod.snd hy).symm⟩;have HM:=Hh (HF.out w6 F6.out);obtain⟨r0,r1,r2,r3⟩:=HR.out w6 F6.out;clear hy;go_wp2_with fail;refine bodyPost_ret (v:=.agg #[.int .i64 0,.int .i64 17]) (by simp[results,Tryz.results196,go_sem,r0,r1,r2,r3]) rfl ?_
   exact⟨rfl,HM.out⟩
set_option maxRecDepth 4000 in
set_option maxHeartbeats 8000000 in
theorem ycv (t a1 b1:Int)(p p1 p2:Nat)(w:World)(ho:t%2≠0)(hp:0<p)(h17:p≤17)(ha:redT (t-1) p=(a1,p1))(hb:redT (t+1) p=(b1,p2))(hga:GoodD a1 p1)(hgb:GoodD b1 p2)(y1 y2:Int)(hy:btwY t p=(y1,y2)) :
  Calls Tryz.prog 196 #[.agg #[.int .i64 a1,.int .i64 (p1:Int)],.agg #[.int .i64 b1,.int .i64 (p2:Int)]] w fun e w'=>e=.returned (.agg #[.int .i64 y1,.int .i64 y2])/\Fr NoM w w':=by
 by_cases h0:0<t
 ·exact zy5 t a1 b1 p p1 p2 w h0 ho hp h17 ha hb hga hgb y1 y2 hy
 ·have hneg:t<0:=by omega
  obtain⟨na,hna⟩:∃na,na=-a1:=⟨_,rfl⟩;obtain⟨nb,hnb⟩:∃nb,nb=-b1:=⟨_,rfl⟩;have ha2:redT (-t+1) p=(na,p1):=by rw[show -t+1=-(t-1)from by omega,zvq,ha,hna]
  have hb2:redT (-t-1) p=(nb,p2):=by rw[show -t-1=-(t+1)from by omega,zvq,hb,hnb]
  have hgan:GoodD na p1:=by rw[hna];obtain⟨x,y,z⟩:=hga;exact⟨by omega,y,by omega⟩
  have hgbn:GoodD nb p2:=by rw[hnb];obtain⟨x,y,z⟩:=hgb;exact⟨by omega,y,by omega⟩
  obtain⟨z1,hz1⟩:∃z1,z1=-y1:=⟨_,rfl⟩;have hy2:btwY (-t) p=(z1,y2):=by
   unfold btwY at hy ⊢;by_cases h16:p≤16
   ·rw[if_pos h16]at hy ⊢
    obtain⟨u,v⟩:=Prod.mk.inj hy;rw[hz1,←u,←v]
   ·rw[if_neg h16]at hy ⊢
    obtain⟨u,v⟩:=Prod.mk.inj hy;rw[hz1,←u,←v];rfl
  have H3:=Hh (fun(W:World)=>zy5 (-t) nb na p p2 p1 W (by omega) (by omega) hp h17 hb2 ha2 hgbn hgan z1 y2 hy2);have H1:=Hh (fun(W:World)=>show Calls Tryz.prog 189 #[.agg #[.int .i64 b1,.int .i64 (p2:Int)]] W fun e w'=>e=.returned (.agg #[.int .i64 nb,.int .i64 (p2:Int)])/\Fr NoM W w' from by rw[hnb];exact zfv b1 p2 W (by have:=hgb.1;omega));have H2:=Hh (fun(W:World)=>show Calls Tryz.prog 189 #[.agg #[.int .i64 a1,.int .i64 (p1:Int)]] W fun e w'=>e=.returned (.agg #[.int .i64 na,.int .i64 (p1:Int)])/\Fr NoM W w' from by rw[hna];exact zfv a1 p1 W (by have:=hga.1;omega));have hyb:-2000001≤y1/\y1≤2000001:=by
   have ht:=zvf hp ho (by rw[ha];exact hga) (by rw[hb];exact hgb);unfold btwY at hy;by_cases h16:p≤16
   ·rw[if_pos h16]at hy
    obtain⟨u,v⟩:=Prod.mk.inj hy;rw[←u];exact ht
   ·rw[if_neg h16]at hy
    obtain⟨u,v⟩:=Prod.mk.inj hy;rw[←u];decide
  have H4:=Hh (fun(W:World)=>show Calls Tryz.prog 189 #[.agg #[.int .i64 z1,.int .i64 y2]] W fun e w'=>e=.returned (.agg #[.int .i64 y1,.int .i64 y2])/\Fr NoM W w' from by
   have h:=zfv z1 y2 W (by omega);rw[hz1,Int.neg_neg]at h;rw[hz1];exact h)
  have hp2:p2≤16:=by have:=hgb.2.1;omega
  have hbz:(t=-1/\b1=0/\p2=0)∨b1<0:=by
   by_cases h1:t=-1
   ·left
    rw[h1,show(-1:Int)+1=0 from rfl,zyz]at hb;exact⟨h1,(congrArg Prod.fst hb).symm,(congrArg Prod.snd hb).symm⟩
   ·right
    have:=zvp (x:=-t-1) (by omega) p;rw[hb2]at this
    have:0<nb:=this
    omega
  obtain⟨w1,hw1⟩:∃w1,w1=((w.alloc (.cells #[.int .i64 a1,.int .i64 (p1:Int)] 29)).alloc (.cells #[.int .i64 b1,.int .i64 (p2:Int)] 29)).alloc (.cells #[.int .i64 0,.int .i64 0] 29):=⟨_,rfl⟩;have f1:Fr NoM w w1:=by rw[hw1];exact(((Fr.refl NoM w).alloc _).alloc _).alloc _
  have e0:w1.heap[w.heap.size]?=some (.cells #[.int .i64 a1,.int .i64 (p1:Int)] 29 (0,0)):=by rw[hw1];exact(((Fr.refl NoM _).alloc _).alloc _).heap (heap_alloc_new w _) (fun q=>q)
  have e1:w1.heap[w.heap.size+1]?=some (.cells #[.int .i64 b1,.int .i64 (p2:Int)] 29 (0,0)):=by
   have h:=heap_alloc_new (w.alloc (.cells #[.int .i64 a1,.int .i64 (p1:Int)] 29)) (.cells #[.int .i64 b1,.int .i64 (p2:Int)] 29);rw[World.size_alloc]at h;rw[hw1];exact((Fr.refl NoM _).alloc _).heap h (fun q=>q)
  have e2:w1.heap[w.heap.size+1+1]?=some (.cells #[.int .i64 0,.int .i64 0] 29 (0,0)):=by
   have h:=heap_alloc_new ((w.alloc (.cells #[.int .i64 a1,.int .i64 (p1:Int)] 29)).alloc (.cells #[.int .i64 b1,.int .i64 (p2:Int)] 29)) (.cells #[.int .i64 0,.int .i64 0] 29);rw[World.size_alloc,World.size_alloc]at h;rw[hw1];exact h
  have HK:=Hh (fun(W:World) (f:Fr NoM w1 W)=>show W.cell? ⟨w.heap.size,0,none⟩=some (.int .i64 a1)/\W.cell? ⟨w.heap.size,1,none⟩=some (.int .i64 (p1:Int))/\W.cell? ⟨w.heap.size+1,0,none⟩=some (.int .i64 b1)/\W.cell? ⟨w.heap.size+1,1,none⟩=some (.int .i64 (p2:Int))from by
   have h0:=f.heap e0 (fun q=>q);have h1:=f.heap e1 (fun q=>q);exact⟨by rw[cell_of_row W _ 0 _ _ _ h0];rfl,by rw[cell_of_row W _ 1 _ _ _ h0];rfl,by rw[cell_of_row W _ 0 _ _ _ h1];rfl,by rw[cell_of_row W _ 1 _ _ _ h1];rfl⟩)
  have HR:=Hh (fun(W:World) (f:Fr NoM w1 W)=>show W.cell? ⟨w.heap.size+1+1,0,none⟩=some (.int .i64 0)/\W.cell? ⟨w.heap.size+1+1,1,none⟩=some (.int .i64 0)/\W.frozen? ⟨w.heap.size+1+1,0,none⟩=false/\W.frozen? ⟨w.heap.size+1+1,1,none⟩=false from by
   have h0:=f.heap e2 (fun q=>q);exact⟨by rw[cell_of_row W _ 0 _ _ _ h0];rfl,by rw[cell_of_row W _ 1 _ _ _ h0];rfl,by simp[World.frozen?,h0],by simp[World.frozen?,h0]⟩)
  have HF:=Hh (fun(W:World) (f:Fr NoM w1 W)=>(((f1.trans f (fun _ _ q=>q)).setCell ⟨w.heap.size+1+1,0,none⟩ (.int .i64 y1) (fun h=>by have h:w.heap.size+1+1<w.heap.size:=h;omega)).setCell ⟨w.heap.size+1+1,1,none⟩ (.int .i64 y2) (fun h=>by have h:w.heap.size+1+1<w.heap.size:=h;omega):Fr NoM w ((W.setCell ⟨w.heap.size+1+1,0,none⟩ (.int .i64 y1)).setCell ⟨w.heap.size+1+1,1,none⟩ (.int .i64 y2))));have hlb:=fun(W:World)=>zex b1 0 p2 0 W (by omega) (by omega) (by have:=hgb.1;omega) (by omega) (decide (b1<0)) (by
   have hE:=zdr (24-p2);rw[Int.zero_mul];by_cases hb0:b1<0
   ·have h:=Int.mul_neg_of_neg_of_pos hb0 hE
    simp[hb0,h]
   ·have h:=Int.mul_nonneg (show 0≤b1 by omega) (Int.le_of_lt hE)
    have h':¬b1*2^(24-p2)<0:=by omega
    simp only[decide_eq_false hb0,decide_eq_false h'])
  rw[show((0:Nat):Int)=0 from rfl]at hlb;have HLb:=Hh hlb;clear f1 e0 e1 e2 hga hgb hy ha hb hlb hna hnb ha2 hb2 hgan hgbn hz1 hy2 hyb h0 hneg ho;rcases hbz with ⟨_,rfl,rfl⟩|hb0
  ·have HLb:=Hh (fun(W:World)=>show Calls Tryz.prog 91 #[.agg #[.int .i64 0,.int .i64 0],.agg #[.int .i64 0,.int .i64 0]] W fun e w'=>e=.returned (.bool false)/\Fr NoM W w' from HLb.out W)
   have H1:=Hh (fun(W:World)=>show Calls Tryz.prog 189 #[.agg #[.int .i64 0,.int .i64 0]] W fun e w'=>e=.returned (.agg #[.int .i64 nb,.int .i64 0])/\Fr NoM W w' from H1.out W);have H3:=Hh (fun(W:World)=>show Calls Tryz.prog 196 #[.agg #[.int .i64 nb,.int .i64 0],.agg #[.int .i64 na,.int .i64 (p1:Int)]] W fun e w'=>e=.returned (.agg #[.int .i64 z1,.int .i64 y2])/\Fr NoM W w' from H3.out W);have hw1:w1=((w.alloc (.cells #[.int .i64 a1,.int .i64 (p1:Int)] 29)).alloc (.cells #[.int .i64 0,.int .i64 0] 29)).alloc (.cells #[.int .i64 0,.int .i64 0] 29):=hw1;have HK:=Hh (fun(W:World) (f:Fr NoM w1 W)=>show W.cell? ⟨w.heap.size,0,none⟩=some (.int .i64 a1)/\W.cell? ⟨w.heap.size,1,none⟩=some (.int .i64 (p1:Int))/\W.cell? ⟨w.heap.size+1,0,none⟩=some (.int .i64 0)/\W.cell? ⟨w.heap.size+1,1,none⟩=some (.int .i64 0)from HK.out W f);obtain⟨k0,k1,k2,k3⟩:=HK.out w1 (Fr.refl _ _);go_enter Tryz.func196,Tryz.ntmps196;go_wp2_with fail;rw[←hw1];clear hw1;(with_reducible refine(HLb.out _).mono ?_);rintro e w2 ⟨rfl,f2⟩;have F2:=Hh f2;clear f2 k0 k1 k2 k3;obtain⟨k0,k1,k2,k3⟩:=HK.out w2 F2.out;go_upto_region 2 with fail;have K0:Fr NoM w1 w2.drew:=F2.out.drew;go_region_law (first
    | (go_simp;first
     | (go_at_call 189;(with_reducible refine(H1.out _).mono ?_);rintro e wa ⟨rfl,fa⟩;have ka:Fr NoM w1 wa:=Fr.trans (by assumption) fa (fun _ _ q=>q);obtain⟨i0,i1,i2,i3⟩:=HK.out wa ka)
     | (go_at_call 189;(with_reducible refine(H2.out _).mono ?_);rintro e wb ⟨rfl,fb⟩;have kb:Fr NoM w1 wb:=Fr.trans (by assumption) fb (fun _ _ q=>q);obtain⟨j0,j1,j2,j3⟩:=HK.out wb kb)
     | (go_at_call 196;(with_reducible refine(H3.out _).mono ?_);rintro e wc ⟨rfl,fc⟩;have kc:Fr NoM w1 wc:=Fr.trans (by assumption) fc (fun _ _ q=>q))
     | (go_at_call 189;(with_reducible refine(H4.out _).mono ?_);rintro e wd ⟨rfl,fd⟩;have kd:Fr NoM w1 wd:=Fr.trans (by assumption) fd (fun _ _ q=>q);obtain⟨r0,r1,r2,r3⟩:=HR.out wd kd)
     | fail)
    | fail)
   all_goals
    have HM:=Hh (HF.out wd kd);go_wp2_with fail;refine bodyPost_ret (v:=.agg #[.int .i64 y1,.int .i64 y2]) (by simp[results,Tryz.results196,go_sem,r0,r1,r2,r3]) rfl ?_
    exact⟨rfl,HM.out⟩
  ·have HLb:=Hh (fun(W:World)=>by have h:=HLb.out W;rw[decide_eq_true hb0]at h;exact h)
   obtain⟨k0,k1,k2,k3⟩:=HK.out w1 (Fr.refl _ _);go_enter Tryz.func196,Tryz.ntmps196;go_wp2_with fail;rw[←hw1];clear hw1;(with_reducible refine(HLb.out _).mono ?_);rintro e w2 ⟨rfl,f2⟩;have F2:=Hh f2;clear f2 k0 k1 k2 k3;obtain⟨k0,k1,k2,k3⟩:=HK.out w2 F2.out;go_upto_region 2 with fail;have K0:Fr NoM w1 w2.drew:=F2.out.drew;go_region_law (first
    | (go_simp;first
     | (go_at_call 189;(with_reducible refine(H1.out _).mono ?_);rintro e wa ⟨rfl,fa⟩;have ka:Fr NoM w1 wa:=Fr.trans (by assumption) fa (fun _ _ q=>q);obtain⟨i0,i1,i2,i3⟩:=HK.out wa ka)
     | (go_at_call 189;(with_reducible refine(H2.out _).mono ?_);rintro e wb ⟨rfl,fb⟩;have kb:Fr NoM w1 wb:=Fr.trans (by assumption) fb (fun _ _ q=>q);obtain⟨j0,j1,j2,j3⟩:=HK.out wb kb)
     | (go_at_call 196;(with_reducible refine(H3.out _).mono ?_);rintro e wc ⟨rfl,fc⟩;have kc:Fr NoM w1 wc:=Fr.trans (by assumption) fc (fun _ _ q=>q))
     | (go_at_call 189;(with_reducible refine(H4.out _).mono ?_);rintro e wd ⟨rfl,fd⟩;have kd:Fr NoM w1 wd:=Fr.trans (by assumption) fd (fun _ _ q=>q);obtain⟨r0,r1,r2,r3⟩:=HR.out wd kd)
     | fail)
    | fail)
   all_goals
    have HM:=Hh (HF.out wd kd);go_wp2_with fail;refine bodyPost_ret (v:=.agg #[.int .i64 y1,.int .i64 y2]) (by simp[results,Tryz.results196,go_sem,r0,r1,r2,r3]) rfl ?_
    exact⟨rfl,HM.out⟩
end Go.Proofs.YtlapkmhemepcaaaGreatDoor
