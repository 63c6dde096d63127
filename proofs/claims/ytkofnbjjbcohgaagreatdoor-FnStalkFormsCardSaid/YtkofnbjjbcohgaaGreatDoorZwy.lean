import Derived.Deep.CutRange
import Derived.Deep.RegionHeld3
import Derived.Test.YtkofnbjjbcohgaaGreatDoorZw15
/- Lemmas. -/
namespace Go.Proofs.YtkofnbjjbcohgaaGreatDoor
set_option linter.unusedVariables false
set_option linter.unusedSimpArgs false
open Go.RowKit
theorem zxe (T:Int):T.tmod 2=0↔T%2=0:=by
 rw[←Int.dvd_iff_tmod_eq_zero,←Int.dvd_iff_emod_eq_zero]
theorem zz7 {T:Int}(h:T%2=0):T.tdiv 2=T/2:=by
 have h1:T=2*(T/2):=by omega
 rw[h1,Int.mul_tdiv_cancel_left _ (by decide)];omega
theorem zta (T P:Int):GoodD T P↔-1000000≤T/\T≤1000000/\0≤P/\P≤16/\(P=0∨T.tmod 2≠0):=by
 unfold GoodD;rw[Ne,Ne,zxe];constructor
 ·rintro⟨⟨a,b⟩,⟨c,d⟩,e⟩;exact⟨a,b,c,d,e⟩
 ·rintro⟨a,b,c,d,e⟩;exact⟨⟨a,b⟩,⟨c,d⟩,e⟩
set_option maxHeartbeats 2000000 in
theorem zbt (T P:Int)(w:World)(g:Bool)(hg:g=true↔GoodD T P):Calls Tryz.prog 40 #[.agg #[.int .i64 T,.int .i64 P]] w fun e w'=>e=.returned (.bool g)/\Fr NoM w w':=by
 rw[zta]at hg;have HG:=Hh hg;clear hg;go_enter Tryz.func40,Tryz.ntmps40;go_wp2;all_goals
  go_ret;refine⟨congrArg (fun b=>Ending.returned (Value.bool b)) (Bool.eq_iff_iff.2 (Iff.trans ?_ HG.out.symm)),(Fr.refl _ _).alloc _⟩;simp;omega
def lowT (t:Int)(p:Nat)(g:Bool):Value:=if g=true then .agg #[.int .i64 (redT t p).1,.int .i64 ((redT t p).2:Int)]else .agg #[.int .i64 0,.int .i64 0]
set_option maxRecDepth 4000 in
set_option maxHeartbeats 4000000 in
theorem zg7 (t:Int)(p:Nat)(w:World)(ht:-1000000000000≤t/\t≤1000000000000)(hp:p<1000)(g:Bool)(hg:g=true↔GoodD (redT t p).1 (redT t p).2) :
  Calls Tryz.prog 22 #[.int .i64 t,.int .i64 (p:Int)] w fun e w'=>e=.returned (.tuple #[lowT t p g,.bool g])/\Fr NoM w w':=by
 obtain⟨w1,hw1⟩:∃w1,w1=w.alloc (.cells #[.int .i64 0,.int .i64 0] 32):=⟨_,rfl⟩;have f1:Fr NoM w w1:=by rw[hw1];exact(Fr.refl NoM w).alloc _
 have hs1:w1.heap.size=w.heap.size+1:=by rw[hw1];simp
 have e1:w1.heap[w.heap.size]?=some (.cells #[.int .i64 0,.int .i64 0] 32 (0,0)):=by rw[hw1];exact heap_alloc_new w _
 have F1:=Hh f1;have HS1:=Hh hs1;have HG:=Hh hg;have E1:=Hh e1;obtain⟨x,hx⟩:∃x,x=redT t p:=⟨_,rfl⟩;have HX:=Hh hx;clear f1 hs1 e1 hg hx;go_enter Tryz.func22,Tryz.ntmps22;go_upto_region 1 with fail;rw[←hw1];clear hw1;go_loopw [0,1] (fun v0 v1 W=>∃(a:Int) (q:Nat),v0=.int .i64 a/\v1=.int .i64 (q:Int)/\q≤p/\(-1000000000000≤a/\a≤1000000000000)/\redT a q=x/\W=w1) (fun _ v1 _=>(intOf v1).toNat)
 case atStart=>exact⟨t,p,rfl,rfl,Nat.le_refl _,ht,HX.out.symm,rfl⟩
 case round =>
  obtain⟨a,q,rfl,rfl,hq,ha,hr,hw⟩:=hrel;have hwr:=hw.symm;subst hwr;clear hw;have HR:=Hh hr;clear hr;by_cases hq0:0<q
  ·by_cases he:a%2=0
   ·have e1:a.tmod 2=0:=(zxe a).2 he
    have e2:a.tdiv 2=a/2:=zz7 he;have HE:=Hh he;have hb:-1000000000000≤a/2/\a/2≤1000000000000:=by omega
    obtain⟨r,rfl⟩:∃r,q=r+1:=⟨q-1,by omega⟩;clear he;go_wp2;go_roundw
    case rel=>exact⟨a/2,r,rfl,by go_num,by omega,hb,by rw[←HR.out,zcr HE.out];exact⟨rfl,trivial⟩⟩
    case measure=>simp[intOf]
   ·have e1:¬a.tmod 2=0:=fun e=>he ((zxe a).1 e)
    have e3:redT a q=(a,q):=zef (.inr he);have HE:=Hh e3;clear e3 he;go_wp2_with fail;have HX':=Hh (show x=(a,q)from by rw[←HR.out];exact HE.out);obtain⟨w2,hw2⟩:∃w2,w2=w1.alloc (.cells #[.int .i64 a,.int .i64 (q:Int)] 32):=⟨_,rfl⟩;have f2:Fr NoM w1 w2:=by rw[hw2];exact(Fr.refl NoM w1).alloc _
    have b2:w2.heap[w1.heap.size]?=some (.cells #[.int .i64 a,.int .i64 (q:Int)] 32 (0,0)):=by rw[hw2];exact heap_alloc_new w1 _
    have hg:=HG.out;rw[←HX.out,HX'.out]at hg;rw[←hw2];have HGd:=Hh (zbt a q w2 g hg);have F2:=Hh f2;have B2:=Hh b2;clear hw2 f2 b2 hg;(with_reducible refine HGd.out.mono ?_);rintro e w3 ⟨rfl,f3⟩;have F3:=Hh (F2.out.trans f3 (fun _ _ q=>q));have b3:=f3.heap B2.out (fun q=>q);have b1:=F3.out.heap E1.out (fun q=>q);have hne:w1.heap.size≠w.heap.size:=by have:=HS1.out;omega
    have k30:w3.cell? ⟨w1.heap.size,0,none⟩=some (.int .i64 a):=by rw[cell_of_row w3 _ 0 _ _ _ b3];rfl
    have k31:w3.cell? ⟨w1.heap.size,1,none⟩=some (.int .i64 (q:Int)):=by rw[cell_of_row w3 _ 1 _ _ _ b3];rfl
    have k10:w3.cell? ⟨w.heap.size,0,none⟩=some (.int .i64 0):=by rw[cell_of_row w3 _ 0 _ _ _ b1];rfl
    have k11:w3.cell? ⟨w.heap.size,1,none⟩=some (.int .i64 0):=by rw[cell_of_row w3 _ 1 _ _ _ b1];rfl
    have z1:w3.frozen? ⟨w.heap.size,0,none⟩=false:=by simp[World.frozen?,b1]
    have z2:w3.frozen? ⟨w.heap.size,1,none⟩=false:=by simp[World.frozen?,b1]
    clear f3 b3 b1 HGd;have HFin:=Hh (fun(v:Value) (u1 u2:Value)=>(((F1.out.trans F3.out (fun _ _ q=>q)).setCell ⟨w.heap.size,0,none⟩ u1 (fun h=>absurd h (Nat.lt_irrefl _))).setCell ⟨w.heap.size,1,none⟩ u2 (fun h=>absurd h (Nat.lt_irrefl _)):Fr NoM w ((w3.setCell ⟨w.heap.size,0,none⟩ u1).setCell ⟨w.heap.size,1,none⟩ u2)));cases g with
    | false =>
     go_wp2_with fail;refine bodyPost_ret (v:=.tuple #[.agg #[.int .i64 0,.int .i64 0],.bool false]) (by simp[results,Tryz.results22,go_sem,k10,k11,z1,z2]) rfl ?_
     exact⟨rfl,HFin.out (.int .i64 0) _ _⟩
    | true =>
     go_wp2_with fail;refine bodyPost_ret (v:=.tuple #[.agg #[.int .i64 a,.int .i64 (q:Int)],.bool true]) (by simp[results,Tryz.results22,go_sem,k10,k11,z1,z2]) rfl ?_
     refine⟨?_,HFin.out (.int .i64 0) _ _⟩;unfold lowT;rw[←HX.out,HX'.out];rfl
  ·have HE:=Hh (show redT a q=(a,q)from zef (.inl (by omega)))
   go_wp2_with fail;have HX':=Hh (show x=(a,q)from by rw[←HR.out];exact HE.out);obtain⟨w2,hw2⟩:∃w2,w2=w1.alloc (.cells #[.int .i64 a,.int .i64 (q:Int)] 32):=⟨_,rfl⟩;have f2:Fr NoM w1 w2:=by rw[hw2];exact(Fr.refl NoM w1).alloc _
   have b2:w2.heap[w1.heap.size]?=some (.cells #[.int .i64 a,.int .i64 (q:Int)] 32 (0,0)):=by rw[hw2];exact heap_alloc_new w1 _
   have hg:=HG.out;rw[←HX.out,HX'.out]at hg;rw[←hw2];have HGd:=Hh (zbt a q w2 g hg);have F2:=Hh f2;have B2:=Hh b2;clear hw2 f2 b2 hg;(with_reducible refine HGd.out.mono ?_);rintro e w3 ⟨rfl,f3⟩;have F3:=Hh (F2.out.trans f3 (fun _ _ q=>q));have b3:=f3.heap B2.out (fun q=>q);have b1:=F3.out.heap E1.out (fun q=>q);have hne:w1.heap.size≠w.heap.size:=by have:=HS1.out;omega
   have k30:w3.cell? ⟨w1.heap.size,0,none⟩=some (.int .i64 a):=by rw[cell_of_row w3 _ 0 _ _ _ b3];rfl
   have k31:w3.cell? ⟨w1.heap.size,1,none⟩=some (.int .i64 (q:Int)):=by rw[cell_of_row w3 _ 1 _ _ _ b3];rfl
   have k10:w3.cell? ⟨w.heap.size,0,none⟩=some (.int .i64 0):=by rw[cell_of_row w3 _ 0 _ _ _ b1];rfl
   have k11:w3.cell? ⟨w.heap.size,1,none⟩=some (.int .i64 0):=by rw[cell_of_row w3 _ 1 _ _ _ b1];rfl
   have z1:w3.frozen? ⟨w.heap.size,0,none⟩=false:=by simp[World.frozen?,b1]
   have z2:w3.frozen? ⟨w.heap.size,1,none⟩=false:=by simp[World.frozen?,b1]
   clear f3 b3 b1 HGd;have HFin:=Hh (fun(v:Value) (u1 u2:Value)=>(((F1.out.trans F3.out (fun _ _ q=>q)).setCell ⟨w.heap.size,0,none⟩ u1 (fun h=>absurd h (Nat.lt_irrefl _))).setCell ⟨w.heap.size,1,none⟩ u2 (fun h=>absurd h (Nat.lt_irrefl _)):Fr NoM w ((w3.setCell ⟨w.heap.size,0,none⟩ u1).setCell ⟨w.heap.size,1,none⟩ u2)));cases g with
   | false =>
    go_wp2_with fail;refine bodyPost_ret (v:=.tuple #[.agg #[.int .i64 0,.int .i64 0],.bool false]) (by simp[results,Tryz.results22,go_sem,k10,k11,z1,z2]) rfl ?_
    exact⟨rfl,HFin.out (.int .i64 0) _ _⟩
   | true =>
    go_wp2_with fail;refine bodyPost_ret (v:=.tuple #[.agg #[.int .i64 a,.int .i64 (q:Int)],.bool true]) (by simp[results,Tryz.results22,go_sem,k10,k11,z1,z2]) rfl ?_
    refine⟨?_,HFin.out (.int .i64 0) _ _⟩;unfold lowT;rw[←HX.out,HX'.out];rfl
theorem zdk {T:Int}{p:Nat}(hT:-1000000≤T/\T≤1000000):-65536000000≤T*2^(16-p)/\T*2^(16-p)≤65536000000:=by
 have h1:(1:Int)≤2^(16-p):=by
  have:=Nat.one_le_two_pow (n:=16-p);have e:((2^(16-p):Nat):Int)=(2:Int)^(16-p):=by simp
  omega
 have h2:(2:Int)^(16-p)≤65536:=by
  have:=Nat.pow_le_pow_right (n:=2) (by decide) (show 16-p≤16 by omega);have e:((2^(16-p):Nat):Int)=(2:Int)^(16-p):=by simp
  omega
 obtain⟨m,hm⟩:∃m:Int,m=2^(16-p):=⟨_,rfl⟩;rw[←hm]at h1 h2 ⊢;have a1:=Int.mul_le_mul_of_nonneg_right hT.1 (show(0:Int)≤m by omega);have a2:=Int.mul_le_mul_of_nonneg_right hT.2 (show(0:Int)≤m by omega);omega
set_option maxHeartbeats 2000000 in
theorem zdu (T:Int)(p:Nat)(w:World)(hp:p≤16)(hT:-1000000≤T/\T≤1000000):Calls Tryz.prog 50 #[.agg #[.int .i64 T,.int .i64 (p:Int)]] w fun e w'=>e=.returned (.int .i64 (T*2^(16-p)))/\Fr NoM w w':=by
 have e1:(16-(p:Int)).toNat=16-p:=by omega
 have HB:=Hh (zdk (p:=p) hT);go_enter Tryz.func50,Tryz.ntmps50;go_wp2;go_ret;have hb:=HB.out;have hw:wrap64 (T*2^(16-p))=T*2^(16-p):=by unfold wrap64;omega
 exact⟨congrArg (fun x=>Ending.returned (Value.int .i64 x)) hw,(Fr.refl _ _).alloc _⟩
set_option maxRecDepth 4000 in
set_option maxHeartbeats 4000000 in
theorem zg0 (a b:Int)(p q:Nat)(w:World)(hga:GoodD a p)(hgb:GoodD b q)(g:Bool)(y1 y2:Int)(hg:g=true↔GoodD (redT (a*2^(16-p)+b*2^(16-q)) 16).1 (redT (a*2^(16-p)+b*2^(16-q)) 16).2)
  (hy:lowT (a*2^(16-p)+b*2^(16-q)) 16 g=.agg #[.int .i64 y1,.int .i64 y2]) :
  Calls Tryz.prog 49 #[.agg #[.int .i64 a,.int .i64 (p:Int)],.agg #[.int .i64 b,.int .i64 (q:Int)]] w fun e w'=>e=.returned (.tuple #[.agg #[.int .i64 y1,.int .i64 y2],.bool g])/\Fr NoM w w':=by
 obtain⟨w1,hw1⟩:∃w1,w1=((w.alloc (.cells #[.int .i64 a,.int .i64 (p:Int)] 32)).alloc (.cells #[.int .i64 b,.int .i64 (q:Int)] 32)).alloc (.cells #[.int .i64 0,.int .i64 0] 32):=⟨_,rfl⟩;have f1:Fr NoM w w1:=by rw[hw1];exact(((Fr.refl NoM w).alloc _).alloc _).alloc _
 have e0:w1.heap[w.heap.size]?=some (.cells #[.int .i64 a,.int .i64 (p:Int)] 32 (0,0)):=by rw[hw1];exact(((Fr.refl NoM _).alloc _).alloc _).heap (heap_alloc_new w _) (fun q=>q)
 have e1:w1.heap[w.heap.size+1]?=some (.cells #[.int .i64 b,.int .i64 (q:Int)] 32 (0,0)):=by
  have h:=heap_alloc_new (w.alloc (.cells #[.int .i64 a,.int .i64 (p:Int)] 32)) (.cells #[.int .i64 b,.int .i64 (q:Int)] 32);rw[World.size_alloc]at h;rw[hw1];exact((Fr.refl NoM _).alloc _).heap h (fun q=>q)
 have e2:w1.heap[w.heap.size+1+1]?=some (.cells #[.int .i64 0,.int .i64 0] 32 (0,0)):=by
  have h:=heap_alloc_new ((w.alloc (.cells #[.int .i64 a,.int .i64 (p:Int)] 32)).alloc (.cells #[.int .i64 b,.int .i64 (q:Int)] 32)) (.cells #[.int .i64 0,.int .i64 0] 32);rw[World.size_alloc,World.size_alloc]at h;rw[hw1];exact h
 obtain⟨s1,hs1⟩:∃s1,s1=a*2^(16-p):=⟨_,rfl⟩;obtain⟨s2,hs2⟩:∃s2,s2=b*2^(16-q):=⟨_,rfl⟩;have b1:=zdk (p:=p) hga.1;have b2:=zdk (p:=q) hgb.1;rw[←hs1,←hs2]at hg hy;rw[←hs1]at b1;rw[←hs2]at b2;have hp:p≤16:=by have:=hga.2.1;omega
 have hq:q≤16:=by have:=hgb.2.1;omega
 have G1:=Hh (fun(W:World)=>zbt a (p:Int) W true (by simp[hga]));have G2:=Hh (fun(W:World)=>zbt b (q:Int) W true (by simp[hgb]));have H1:=Hh (fun(W:World)=>show Calls Tryz.prog 50 #[.agg #[.int .i64 a,.int .i64 (p:Int)]] W fun e w'=>e=.returned (.int .i64 s1)/\Fr NoM W w' from by rw[hs1];exact zdu a p W hp hga.1);have H2:=Hh (fun(W:World)=>show Calls Tryz.prog 50 #[.agg #[.int .i64 b,.int .i64 (q:Int)]] W fun e w'=>e=.returned (.int .i64 s2)/\Fr NoM W w' from by rw[hs2];exact zdu b q W hq hgb.1);have H3:=Hh (fun(W:World)=>show Calls Tryz.prog 22 #[.int .i64 (s1+s2),.int .i64 16] W fun e w'=>e=.returned (.tuple #[.agg #[.int .i64 y1,.int .i64 y2],.bool g])/\Fr NoM W w' from by have h:=zg7 (s1+s2) 16 W (by omega) (by decide) g hg;rw[hy]at h;exact h);have HK:=Hh (fun(W:World) (f:Fr NoM w1 W)=>show W.cell? ⟨w.heap.size,0,none⟩=some (.int .i64 a)/\W.cell? ⟨w.heap.size,1,none⟩=some (.int .i64 (p:Int))/\W.cell? ⟨w.heap.size+1,0,none⟩=some (.int .i64 b)/\W.cell? ⟨w.heap.size+1,1,none⟩=some (.int .i64 (q:Int))from by
  have h0:=f.heap e0 (fun q=>q);have h1:=f.heap e1 (fun q=>q);exact⟨by rw[cell_of_row W _ 0 _ _ _ h0];rfl,by rw[cell_of_row W _ 1 _ _ _ h0];rfl,by rw[cell_of_row W _ 0 _ _ _ h1];rfl,by rw[cell_of_row W _ 1 _ _ _ h1];rfl⟩)
 have HR:=Hh (fun(W:World) (f:Fr NoM w1 W)=>show W.cell? ⟨w.heap.size+1+1,0,none⟩=some (.int .i64 0)/\W.cell? ⟨w.heap.size+1+1,1,none⟩=some (.int .i64 0)/\W.frozen? ⟨w.heap.size+1+1,0,none⟩=false/\W.frozen? ⟨w.heap.size+1+1,1,none⟩=false from by
  have h0:=f.heap e2 (fun q=>q);exact⟨by rw[cell_of_row W _ 0 _ _ _ h0];rfl,by rw[cell_of_row W _ 1 _ _ _ h0];rfl,by simp[World.frozen?,h0],by simp[World.frozen?,h0]⟩)
 have HW:=Hh (show IntKind.i64.wrap (s1+s2)=s1+s2 from by rw[IntKind.wrap_i64];omega);have F1:=Hh f1;clear f1 e0 e1 e2 hs1 hs2 hg hy hp hq hga hgb b1 b2;obtain⟨k0,k1,k2,k3⟩:=HK.out w1 (Fr.refl _ _);go_enter Tryz.func49,Tryz.ntmps49;go_upto_region 1 with fail;rw[←hw1];clear hw1;go_wp2_with fail;(with_reducible refine(G1.out _).mono ?_);rintro e wa ⟨rfl,fa⟩;clear k0 k1 k2 k3;have FA:=Hh fa;clear fa;obtain⟨k0,k1,k2,k3⟩:=HK.out wa FA.out;go_wp2_with fail;(with_reducible refine(G2.out _).mono ?_);rintro e wb ⟨rfl,fb⟩;clear k0 k1 k2 k3;have FB:=Hh (FA.out.trans fb (fun _ _ q=>q));clear fb;go_upto_region 3 with fail;obtain⟨k0,k1,k2,k3⟩:=HK.out wb FB.out;have K0:Fr NoM w1 wb.drew:=FB.out.drew;go_region_law (first
  | (go_simp;first
   | (go_at_call 50;(with_reducible refine(H1.out _).mono ?_);rintro e wc ⟨rfl,fc⟩;have kc:Fr NoM w1 wc:=Fr.trans (by assumption) fc (fun _ _ q=>q);obtain⟨i0,i1,i2,i3⟩:=HK.out wc kc)
   | (go_at_call 50;(with_reducible refine(H2.out _).mono ?_);rintro e wd ⟨rfl,fd⟩;have kd:Fr NoM w1 wd:=Fr.trans (by assumption) fd (fun _ _ q=>q);obtain⟨j0,j1,j2,j3⟩:=HK.out wd kd)
   | (go_at_call 22;rw[HW.out];(with_reducible refine(H3.out _).mono ?_);rintro e we ⟨rfl,fe⟩;have ke:Fr NoM w1 we:=Fr.trans (by assumption) fe (fun _ _ q=>q);obtain⟨r0,r1,r2,r3⟩:=HR.out we ke)
   | fail)
  | fail)
 all_goals
  have hf:=((F1.out.trans ke (fun _ _ q=>q)).setCell ⟨w.heap.size+1+1,0,none⟩ (.int .i64 y1) (fun h=>by have h:w.heap.size+1+1<w.heap.size:=h;omega)).setCell ⟨w.heap.size+1+1,1,none⟩ (.int .i64 y2) (fun h=>by have h:w.heap.size+1+1<w.heap.size:=h;omega);have HF:=Hh hf;clear hf;go_wp2;refine bodyPost_ret (v:=.tuple #[.agg #[.int .i64 y1,.int .i64 y2],.bool g]) (by simp[results,Tryz.results49,go_sem,r0,r1,r2,r3]) rfl ?_
  exact⟨rfl,HF.out⟩
end Go.Proofs.YtkofnbjjbcohgaaGreatDoor
