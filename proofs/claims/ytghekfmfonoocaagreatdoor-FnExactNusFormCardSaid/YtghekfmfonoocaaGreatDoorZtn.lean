import Derived.Deep.CutRange
import Derived.Test.YtghekfmfonoocaaGreatDoorZt0
/- Lemmas. -/
namespace Go.Proofs.YtghekfmfonoocaaGreatDoor
set_option linter.unusedVariables false
set_option linter.unusedSimpArgs false
open Go.RowKit
theorem zxk (T:Int):T.tmod 2=0↔T%2=0:=by
 rw[←Int.dvd_iff_tmod_eq_zero,←Int.dvd_iff_emod_eq_zero]
theorem yep {T:Int}(h:T%2=0):T.tdiv 2=T/2:=by
 have h1:T=2*(T/2):=by omega
 rw[h1,Int.mul_tdiv_cancel_left _ (by decide)];omega
theorem zr5 (T P:Int):GoodD T P↔-1000000≤T/\T≤1000000/\0≤P/\P≤16/\(P=0∨T.tmod 2≠0):=by
 unfold GoodD;rw[Ne,Ne,zxk];constructor
 ·rintro⟨⟨a,b⟩,⟨c,d⟩,e⟩;exact⟨a,b,c,d,e⟩
 ·rintro⟨a,b,c,d,e⟩;exact⟨⟨a,b⟩,⟨c,d⟩,e⟩
set_option maxHeartbeats 2000000 in
theorem ze7 (T P:Int)(w:World)(g:Bool)(hg:g=true↔GoodD T P):Calls Tryz.prog 104 #[.agg #[.int .i64 T,.int .i64 P]] w fun e w'=>e=.returned (.bool g)/\Fr NoM w w':=by
 rw[zr5]at hg;have HG:=Hh hg;clear hg;go_enter Tryz.func104,Tryz.ntmps104;go_wp2;all_goals
  go_ret;refine⟨congrArg (fun b=>Ending.returned (Value.bool b)) (Bool.eq_iff_iff.2 (Iff.trans ?_ HG.out.symm)),(Fr.refl _ _).alloc _⟩;simp;omega
def lowT (t:Int)(p:Nat)(g:Bool):Value:=if g=true then .agg #[.int .i64 (redT t p).1,.int .i64 ((redT t p).2:Int)]else .agg #[.int .i64 0,.int .i64 0]
set_option maxRecDepth 4000 in
set_option maxHeartbeats 4000000 in
theorem zns (t:Int)(p:Nat)(w:World)(ht:-1000000000000≤t/\t≤1000000000000)(hp:p<1000)(g:Bool)(hg:g=true↔GoodD (redT t p).1 (redT t p).2) :
  Calls Tryz.prog 146 #[.int .i64 t,.int .i64 (p:Int)] w fun e w'=>e=.returned (.tuple #[lowT t p g,.bool g])/\Fr NoM w w':=by
 obtain⟨w1,hw1⟩:∃w1,w1=w.alloc (.cells #[.int .i64 0,.int .i64 0] 29):=⟨_,rfl⟩;have f1:Fr NoM w w1:=by rw[hw1];exact(Fr.refl NoM w).alloc _
 have hs1:w1.heap.size=w.heap.size+1:=by rw[hw1];simp
 have e1:w1.heap[w.heap.size]?=some (.cells #[.int .i64 0,.int .i64 0] 29 (0,0)):=by rw[hw1];exact heap_alloc_new w _
 have F1:=Hh f1;have HS1:=Hh hs1;have HG:=Hh hg;have E1:=Hh e1;obtain⟨x,hx⟩:∃x,x=redT t p:=⟨_,rfl⟩;have HX:=Hh hx;clear f1 hs1 e1 hg hx;go_enter Tryz.func146,Tryz.ntmps146;go_upto_region 1 with fail;rw[←hw1];clear hw1;go_loopw [0,1] (fun v0 v1 W=>∃(a:Int) (q:Nat),v0=.int .i64 a/\v1=.int .i64 (q:Int)/\q≤p/\(-1000000000000≤a/\a≤1000000000000)/\redT a q=x/\W=w1) (fun _ v1 _=>(intOf v1).toNat)
 case atStart=>exact⟨t,p,rfl,rfl,Nat.le_refl _,ht,HX.out.symm,rfl⟩
 case round =>
  obtain⟨a,q,rfl,rfl,hq,ha,hr,hw⟩:=hrel;have hwr:=hw.symm;subst hwr;clear hw;have HR:=Hh hr;clear hr;by_cases hq0:0<q
  ·by_cases he:a%2=0
   ·have e1:a.tmod 2=0:=(zxk a).2 he
    have e2:a.tdiv 2=a/2:=yep he;have HE:=Hh he;have hb:-1000000000000≤a/2/\a/2≤1000000000000:=by omega
    obtain⟨r,rfl⟩:∃r,q=r+1:=⟨q-1,by omega⟩;clear he;go_wp2;go_roundw
    case rel=>exact⟨a/2,r,rfl,by go_num,by omega,hb,by rw[←HR.out,zft HE.out];exact⟨rfl,trivial⟩⟩
    case measure=>simp[intOf]
   ·have e1:¬a.tmod 2=0:=fun e=>he ((zxk a).1 e)
    have e3:redT a q=(a,q):=zm9 (.inr he);have HE:=Hh e3;clear e3 he;go_wp2_with fail;have HX':=Hh (show x=(a,q)from by rw[←HR.out];exact HE.out);obtain⟨w2,hw2⟩:∃w2,w2=w1.alloc (.cells #[.int .i64 a,.int .i64 (q:Int)] 29):=⟨_,rfl⟩;have f2:Fr NoM w1 w2:=by rw[hw2];exact(Fr.refl NoM w1).alloc _
    have b2:w2.heap[w1.heap.size]?=some (.cells #[.int .i64 a,.int .i64 (q:Int)] 29 (0,0)):=by rw[hw2];exact heap_alloc_new w1 _
    have hg:=HG.out;rw[←HX.out,HX'.out]at hg;rw[←hw2];have HGd:=Hh (ze7 a q w2 g hg);have F2:=Hh f2;have B2:=Hh b2;clear hw2 f2 b2 hg;(with_reducible refine HGd.out.mono ?_);rintro e w3 ⟨rfl,f3⟩;have F3:=Hh (F2.out.trans f3 (fun _ _ q=>q));have b3:=f3.heap B2.out (fun q=>q);have b1:=F3.out.heap E1.out (fun q=>q);have hne:w1.heap.size≠w.heap.size:=by have:=HS1.out;omega
    have k30:w3.cell? ⟨w1.heap.size,0,none⟩=some (.int .i64 a):=by rw[cell_of_row w3 _ 0 _ _ _ b3];rfl
    have k31:w3.cell? ⟨w1.heap.size,1,none⟩=some (.int .i64 (q:Int)):=by rw[cell_of_row w3 _ 1 _ _ _ b3];rfl
    have k10:w3.cell? ⟨w.heap.size,0,none⟩=some (.int .i64 0):=by rw[cell_of_row w3 _ 0 _ _ _ b1];rfl
    have k11:w3.cell? ⟨w.heap.size,1,none⟩=some (.int .i64 0):=by rw[cell_of_row w3 _ 1 _ _ _ b1];rfl
    have z1:w3.frozen? ⟨w.heap.size,0,none⟩=false:=by simp[World.frozen?,b1]
    have z2:w3.frozen? ⟨w.heap.size,1,none⟩=false:=by simp[World.frozen?,b1]
    clear f3 b3 b1 HGd;have HFin:=Hh (fun(v:Value) (u1 u2:Value)=>(((F1.out.trans F3.out (fun _ _ q=>q)).setCell ⟨w.heap.size,0,none⟩ u1 (fun h=>absurd h (Nat.lt_irrefl _))).setCell ⟨w.heap.size,1,none⟩ u2 (fun h=>absurd h (Nat.lt_irrefl _)):Fr NoM w ((w3.setCell ⟨w.heap.size,0,none⟩ u1).setCell ⟨w.heap.size,1,none⟩ u2)));cases g with
    | false =>
     go_wp2_with fail;refine bodyPost_ret (v:=.tuple #[.agg #[.int .i64 0,.int .i64 0],.bool false]) (by simp[results,Tryz.results146,go_sem,k10,k11,z1,z2]) rfl ?_
     exact⟨rfl,HFin.out (.int .i64 0) _ _⟩
    | true =>
     go_wp2_with fail;refine bodyPost_ret (v:=.tuple #[.agg #[.int .i64 a,.int .i64 (q:Int)],.bool true]) (by simp[results,Tryz.results146,go_sem,k10,k11,z1,z2]) rfl ?_
     refine⟨?_,HFin.out (.int .i64 0) _ _⟩;unfold lowT;rw[←HX.out,HX'.out];rfl
  ·have HE:=Hh (show redT a q=(a,q)from zm9 (.inl (by omega)))
   go_wp2_with fail;have HX':=Hh (show x=(a,q)from by rw[←HR.out];exact HE.out);obtain⟨w2,hw2⟩:∃w2,w2=w1.alloc (.cells #[.int .i64 a,.int .i64 (q:Int)] 29):=⟨_,rfl⟩;have f2:Fr NoM w1 w2:=by rw[hw2];exact(Fr.refl NoM w1).alloc _
   have b2:w2.heap[w1.heap.size]?=some (.cells #[.int .i64 a,.int .i64 (q:Int)] 29 (0,0)):=by rw[hw2];exact heap_alloc_new w1 _
   have hg:=HG.out;rw[←HX.out,HX'.out]at hg;rw[←hw2];have HGd:=Hh (ze7 a q w2 g hg);have F2:=Hh f2;have B2:=Hh b2;clear hw2 f2 b2 hg;(with_reducible refine HGd.out.mono ?_);rintro e w3 ⟨rfl,f3⟩;have F3:=Hh (F2.out.trans f3 (fun _ _ q=>q));have b3:=f3.heap B2.out (fun q=>q);have b1:=F3.out.heap E1.out (fun q=>q);have hne:w1.heap.size≠w.heap.size:=by have:=HS1.out;omega
   have k30:w3.cell? ⟨w1.heap.size,0,none⟩=some (.int .i64 a):=by rw[cell_of_row w3 _ 0 _ _ _ b3];rfl
   have k31:w3.cell? ⟨w1.heap.size,1,none⟩=some (.int .i64 (q:Int)):=by rw[cell_of_row w3 _ 1 _ _ _ b3];rfl
   have k10:w3.cell? ⟨w.heap.size,0,none⟩=some (.int .i64 0):=by rw[cell_of_row w3 _ 0 _ _ _ b1];rfl
   have k11:w3.cell? ⟨w.heap.size,1,none⟩=some (.int .i64 0):=by rw[cell_of_row w3 _ 1 _ _ _ b1];rfl
   have z1:w3.frozen? ⟨w.heap.size,0,none⟩=false:=by simp[World.frozen?,b1]
   have z2:w3.frozen? ⟨w.heap.size,1,none⟩=false:=by simp[World.frozen?,b1]
   clear f3 b3 b1 HGd;have HFin:=Hh (fun(v:Value) (u1 u2:Value)=>(((F1.out.trans F3.out (fun _ _ q=>q)).setCell ⟨w.heap.size,0,none⟩ u1 (fun h=>absurd h (Nat.lt_irrefl _))).setCell ⟨w.heap.size,1,none⟩ u2 (fun h=>absurd h (Nat.lt_irrefl _)):Fr NoM w ((w3.setCell ⟨w.heap.size,0,none⟩ u1).setCell ⟨w.heap.size,1,none⟩ u2)));cases g with
   | false =>
    go_wp2_with fail;refine bodyPost_ret (v:=.tuple #[.agg #[.int .i64 0,.int .i64 0],.bool false]) (by simp[results,Tryz.results146,go_sem,k10,k11,z1,z2]) rfl ?_
    exact⟨rfl,HFin.out (.int .i64 0) _ _⟩
   | true =>
    go_wp2_with fail;refine bodyPost_ret (v:=.tuple #[.agg #[.int .i64 a,.int .i64 (q:Int)],.bool true]) (by simp[results,Tryz.results146,go_sem,k10,k11,z1,z2]) rfl ?_
    refine⟨?_,HFin.out (.int .i64 0) _ _⟩;unfold lowT;rw[←HX.out,HX'.out];rfl
def dyV (x:Int × Nat):Value:=.agg #[.int .i64 x.1,.int .i64 (x.2:Int)]
set_option maxRecDepth 4000 in
set_option maxHeartbeats 4000000 in
theorem zvt (t:Int)(p:Nat)(w:World)(ht:-1152921504606846976≤t/\t≤1152921504606846976)(hp:p<1000) :
  Calls Tryz.prog 42 #[.int .i64 t,.int .i64 (p:Int)] w fun e w'=>e=.returned (dyV (redT t p))/\Fr NoM w w':=by
 obtain⟨w1,hw1⟩:∃w1,w1=w.alloc (.cells #[.int .i64 0,.int .i64 0] 29):=⟨_,rfl⟩;have f1:Fr NoM w w1:=by rw[hw1];exact(Fr.refl NoM w).alloc _
 have hs1:w1.heap.size=w.heap.size+1:=by rw[hw1];simp
 have e1:w1.heap[w.heap.size]?=some (.cells #[.int .i64 0,.int .i64 0] 29 (0,0)):=by rw[hw1];exact heap_alloc_new w _
 have F1:=Hh f1;have HS1:=Hh hs1;have E1:=Hh e1;obtain⟨x,hx⟩:∃x,x=redT t p:=⟨_,rfl⟩;have HX:=Hh hx;clear f1 hs1 e1 hx;go_enter Tryz.func42,Tryz.ntmps42;go_upto_region 1 with fail;rw[←hw1];clear hw1;go_loopw [0,1] (fun v0 v1 W=>∃(a:Int) (q:Nat),v0=.int .i64 a/\v1=.int .i64 (q:Int)/\q≤p/\(-1152921504606846976≤a/\a≤1152921504606846976)/\redT a q=x/\W=w1) (fun _ v1 _=>(intOf v1).toNat)
 case atStart=>exact⟨t,p,rfl,rfl,Nat.le_refl _,ht,HX.out.symm,rfl⟩
 case round =>
  obtain⟨a,q,rfl,rfl,hq,ha,hr,hw⟩:=hrel;have hwr:=hw.symm;subst hwr;clear hw;have HR:=Hh hr;clear hr;by_cases hq0:0<q
  ·by_cases he:a%2=0
   ·have e1:a.tmod 2=0:=(zxk a).2 he
    have e2:a.tdiv 2=a/2:=yep he;have HE:=Hh he;have hb:-1152921504606846976≤a/2/\a/2≤1152921504606846976:=by omega
    obtain⟨r,rfl⟩:∃r,q=r+1:=⟨q-1,by omega⟩;clear he;go_wp2;go_roundw
    case rel=>exact⟨a/2,r,rfl,by go_num,by omega,hb,by rw[←HR.out,zft HE.out];exact⟨rfl,trivial⟩⟩
    case measure=>simp[intOf]
   ·have e1:¬a.tmod 2=0:=fun e=>he ((zxk a).1 e)
    have e3:redT a q=(a,q):=zm9 (.inr he);have HE:=Hh e3;clear e3 he;have k10:w1.cell? ⟨w.heap.size,0,none⟩=some (.int .i64 0):=by rw[cell_of_row w1 _ 0 _ _ _ E1.out];rfl
    have k11:w1.cell? ⟨w.heap.size,1,none⟩=some (.int .i64 0):=by rw[cell_of_row w1 _ 1 _ _ _ E1.out];rfl
    have z1:w1.frozen? ⟨w.heap.size,0,none⟩=false:=by simp[World.frozen?,E1.out]
    have z2:w1.frozen? ⟨w.heap.size,1,none⟩=false:=by simp[World.frozen?,E1.out]
    go_wp2_with fail;have hx':redT t p=(a,q):=by rw[←HX.out,←HR.out];exact HE.out
    rw[hx'];have hf:=(F1.out.setCell ⟨w.heap.size,0,none⟩ (.int .i64 a) (fun h=>absurd h (Nat.lt_irrefl _))).setCell ⟨w.heap.size,1,none⟩ (.int .i64 (q:Int)) (fun h=>absurd h (Nat.lt_irrefl _));refine bodyPost_ret (v:=.agg #[.int .i64 a,.int .i64 (q:Int)]) (by simp[results,Tryz.results42,go_sem,k10,k11,z1,z2]) rfl ?_
    exact⟨rfl,hf⟩
  ·have HE:=Hh (show redT a q=(a,q)from zm9 (.inl (by omega)))
   have k10:w1.cell? ⟨w.heap.size,0,none⟩=some (.int .i64 0):=by rw[cell_of_row w1 _ 0 _ _ _ E1.out];rfl
   have k11:w1.cell? ⟨w.heap.size,1,none⟩=some (.int .i64 0):=by rw[cell_of_row w1 _ 1 _ _ _ E1.out];rfl
   have z1:w1.frozen? ⟨w.heap.size,0,none⟩=false:=by simp[World.frozen?,E1.out]
   have z2:w1.frozen? ⟨w.heap.size,1,none⟩=false:=by simp[World.frozen?,E1.out]
   go_wp2_with fail;have hx':redT t p=(a,q):=by rw[←HX.out,←HR.out];exact HE.out
   rw[hx'];have hf:=(F1.out.setCell ⟨w.heap.size,0,none⟩ (.int .i64 a) (fun h=>absurd h (Nat.lt_irrefl _))).setCell ⟨w.heap.size,1,none⟩ (.int .i64 (q:Int)) (fun h=>absurd h (Nat.lt_irrefl _));refine bodyPost_ret (v:=.agg #[.int .i64 a,.int .i64 (q:Int)]) (by simp[results,Tryz.results42,go_sem,k10,k11,z1,z2]) rfl ?_
   exact⟨rfl,hf⟩
set_option maxHeartbeats 2000000 in
theorem zvu (T P:Int)(w:World)(g:Bool)(hg:g=true↔GoodD T P):Calls Tryz.prog 53 #[.agg #[.int .i64 T,.int .i64 P]] w fun e w'=>e=.returned (.bool g)/\Fr NoM w w':=by
 rw[zr5]at hg;obtain⟨w1,hw1⟩:∃w1,w1=w.alloc (.cells #[.int .i64 T,.int .i64 P] 29):=⟨_,rfl⟩;have f1:Fr NoM w w1:=by rw[hw1];exact(Fr.refl NoM w).alloc _
 have e1:w1.heap[w.heap.size]?=some (.cells #[.int .i64 T,.int .i64 P] 29 (0,0)):=by rw[hw1];exact heap_alloc_new w _
 have k0:w1.cell? ⟨w.heap.size,0,none⟩=some (.int .i64 T):=by rw[cell_of_row w1 _ 0 _ _ _ e1];rfl
 have k1:w1.cell? ⟨w.heap.size,1,none⟩=some (.int .i64 P):=by rw[cell_of_row w1 _ 1 _ _ _ e1];rfl
 have F1:=Hh f1;have HG:=Hh hg;clear f1 e1 hg;obtain⟨b1,hb1⟩:∃b1,b1=betw T (-1000000) 1000000:=⟨_,rfl⟩;obtain⟨b2,hb2⟩:∃b2,b2=betw P 0 16:=⟨_,rfl⟩;have HB1:=Hh hb1;have HB2:=Hh hb2;have H1:=Hh (show Calls Tryz.prog 55 #[.int .i64 T,.int .i64 (-1000000),.int .i64 1000000] w1 fun e w'=>e=.returned (.bool b1)/\w1=w' from by rw[hb1];exact zfg _ _ _ w1);have H2:=Hh (show Calls Tryz.prog 55 #[.int .i64 P,.int .i64 0,.int .i64 16] w1 fun e w'=>e=.returned (.bool b2)/\w1=w' from by rw[hb2];exact zfg _ _ _ w1);clear hb1 hb2;go_enter Tryz.func53,Tryz.ntmps53;go_wp2_with fail;rw[←hw1];clear hw1;(with_reducible refine H1.out.mono ?_);rintro e w2 ⟨rfl,rfl⟩;cases b1 with
 | false =>
  have hb1:=HB1.out;unfold betw at hb1;rw[eq_comm,decide_eq_false_iff_not]at hb1;have HB1':=Hh hb1;clear hb1;go_wp2;all_goals
   go_ret;refine⟨congrArg (fun b=>Ending.returned (Value.bool b)) (Bool.eq_iff_iff.2 (Iff.trans ?_ HG.out.symm)),F1.out⟩;have:=HB1'.out;simp;omega
 | true =>
  have hb1:=HB1.out;unfold betw at hb1;rw[eq_comm,decide_eq_true_eq]at hb1;have HB1':=Hh hb1;clear hb1;go_wp2_with fail;(with_reducible refine H2.out.mono ?_);rintro e w2 ⟨rfl,rfl⟩;cases b2 with
  | false =>
   have hb2:=HB2.out;unfold betw at hb2;rw[eq_comm,decide_eq_false_iff_not]at hb2;have HB2':=Hh hb2;clear hb2;go_wp2;all_goals
    go_ret;refine⟨congrArg (fun b=>Ending.returned (Value.bool b)) (Bool.eq_iff_iff.2 (Iff.trans ?_ HG.out.symm)),F1.out⟩;have:=HB2'.out;simp;omega
  | true =>
   have hb2:=HB2.out;unfold betw at hb2;rw[eq_comm,decide_eq_true_eq]at hb2;have HB2':=Hh hb2;clear hb2;go_wp2;all_goals
    go_ret;refine⟨congrArg (fun b=>Ending.returned (Value.bool b)) (Bool.eq_iff_iff.2 (Iff.trans ?_ HG.out.symm)),F1.out⟩;have h1:=HB1'.out;have h2:=HB2'.out;simp;omega
set_option maxHeartbeats 2000000 in
theorem zz8 (T P:Int)(w:World)(hT:-9223372036854775808<T/\T≤9223372036854775807):Calls Tryz.prog 122 #[.agg #[.int .i64 T,.int .i64 P]] w fun e w'=>e=.returned (.agg #[.int .i64 (-T),.int .i64 P])/\Fr NoM w w':=by
 obtain⟨w2,hw2⟩:∃w2,w2=(w.alloc (.cells #[.int .i64 T,.int .i64 P] 29)).alloc (.cells #[.int .i64 (-T),.int .i64 P] 29):=⟨_,rfl⟩;have f2:Fr NoM w w2:=by rw[hw2];exact((Fr.refl NoM w).alloc _).alloc _
 have e2:w2.heap[w.heap.size+1]?=some (.cells #[.int .i64 (-T),.int .i64 P] 29 (0,0)):=by
  have h:=heap_alloc_new (w.alloc (.cells #[.int .i64 T,.int .i64 P] 29)) (.cells #[.int .i64 (-T),.int .i64 P] 29);rw[World.size_alloc]at h;rw[hw2];exact h
 have k0:w2.cell? ⟨w.heap.size+1,0,none⟩=some (.int .i64 (-T)):=by rw[cell_of_row w2 _ 0 _ _ _ e2];rfl
 have k1:w2.cell? ⟨w.heap.size+1,1,none⟩=some (.int .i64 P):=by rw[cell_of_row w2 _ 1 _ _ _ e2];rfl
 have F2:=Hh f2;have K0:=Hh k0;have K1:=Hh k1;clear f2 e2 k0 k1;go_enter Tryz.func122,Tryz.ntmps122;go_wp2;rw[←hw2];refine bodyPost_ret (v:=.agg #[.int .i64 (-T),.int .i64 P]) (by simp[results,Tryz.results122,go_sem,K0.out,K1.out]) rfl ?_
 exact⟨rfl,F2.out⟩
theorem zhe {T:Int}{p:Nat}(hp:p≤24)(hT:-1073741824≤T/\T≤1073741824):-18014398509481984≤T*2^(24-p)/\T*2^(24-p)≤18014398509481984:=by
 have h1:(1:Int)≤2^(24-p):=by
  have:=Nat.one_le_two_pow (n:=24-p);have e:((2^(24-p):Nat):Int)=(2:Int)^(24-p):=by simp
  omega
 have h2:(2:Int)^(24-p)≤16777216:=by
  have:=Nat.pow_le_pow_right (n:=2) (by decide) (show 24-p≤24 by omega);have e:((2^(24-p):Nat):Int)=(2:Int)^(24-p):=by simp
  omega
 obtain⟨m,hm⟩:∃m:Int,m=2^(24-p):=⟨_,rfl⟩;rw[←hm]at h1 h2 ⊢;have a1:=Int.mul_le_mul_of_nonneg_right hT.1 (show(0:Int)≤m by omega);have a2:=Int.mul_le_mul_of_nonneg_right hT.2 (show(0:Int)≤m by omega);omega
set_option maxHeartbeats 2000000 in
theorem zg2 (T:Int)(p:Nat)(w:World)(hp:p≤24)(hT:-1073741824≤T/\T≤1073741824):Calls Tryz.prog 155 #[.agg #[.int .i64 T,.int .i64 (p:Int)]] w fun e w'=>e=.returned (.int .i64 (T*2^(24-p)))/\Fr NoM w w':=by
 have e1:(24-(p:Int)).toNat=24-p:=by omega
 have HB:=Hh (zhe hp hT);go_enter Tryz.func155,Tryz.ntmps155;go_wp2;go_ret;have hb:=HB.out;have hw:wrap64 (T*2^(24-p))=T*2^(24-p):=by unfold wrap64;omega
 exact⟨congrArg (fun x=>Ending.returned (Value.int .i64 x)) hw,(Fr.refl _ _).alloc _⟩
set_option maxRecDepth 4000 in
set_option maxHeartbeats 4000000 in
theorem zz9 (a b:Int)(p q:Nat)(w:World)(hp:p≤24)(hq:q≤24)(ha:-1073741824≤a/\a≤1073741824)(hb:-1073741824≤b/\b≤1073741824) :
  Calls Tryz.prog 121 #[.agg #[.int .i64 a,.int .i64 (p:Int)],.agg #[.int .i64 b,.int .i64 (q:Int)]] w fun e w'=>e=.returned (dyV (redT (a*2^(24-p)+b*2^(24-q)) 24))/\Fr NoM w w':=by
 obtain⟨w1,hw1⟩:∃w1,w1=((w.alloc (.cells #[.int .i64 a,.int .i64 (p:Int)] 29)).alloc (.cells #[.int .i64 b,.int .i64 (q:Int)] 29)).alloc (.cells #[.int .i64 0,.int .i64 0] 29):=⟨_,rfl⟩;have f1:Fr NoM w w1:=by rw[hw1];exact(((Fr.refl NoM w).alloc _).alloc _).alloc _
 have e0:w1.heap[w.heap.size]?=some (.cells #[.int .i64 a,.int .i64 (p:Int)] 29 (0,0)):=by rw[hw1];exact(((Fr.refl NoM _).alloc _).alloc _).heap (heap_alloc_new w _) (fun q=>q)
 have e1:w1.heap[w.heap.size+1]?=some (.cells #[.int .i64 b,.int .i64 (q:Int)] 29 (0,0)):=by
  have h:=heap_alloc_new (w.alloc (.cells #[.int .i64 a,.int .i64 (p:Int)] 29)) (.cells #[.int .i64 b,.int .i64 (q:Int)] 29);rw[World.size_alloc]at h;rw[hw1];exact((Fr.refl NoM _).alloc _).heap h (fun q=>q)
 have e2:w1.heap[w.heap.size+1+1]?=some (.cells #[.int .i64 0,.int .i64 0] 29 (0,0)):=by
  have h:=heap_alloc_new ((w.alloc (.cells #[.int .i64 a,.int .i64 (p:Int)] 29)).alloc (.cells #[.int .i64 b,.int .i64 (q:Int)] 29)) (.cells #[.int .i64 0,.int .i64 0] 29);rw[World.size_alloc,World.size_alloc]at h;rw[hw1];exact h
 obtain⟨s1,hs1⟩:∃s1,s1=a*2^(24-p):=⟨_,rfl⟩;obtain⟨s2,hs2⟩:∃s2,s2=b*2^(24-q):=⟨_,rfl⟩;have b1:=zhe hp ha;have b2:=zhe hq hb;rw[←hs1]at b1 ⊢;rw[←hs2]at b2 ⊢;have H1:=Hh (fun(W:World)=>show Calls Tryz.prog 155 #[.agg #[.int .i64 a,.int .i64 (p:Int)]] W fun e w'=>e=.returned (.int .i64 s1)/\Fr NoM W w' from by rw[hs1];exact zg2 a p W hp ha);have H2:=Hh (fun(W:World)=>show Calls Tryz.prog 155 #[.agg #[.int .i64 b,.int .i64 (q:Int)]] W fun e w'=>e=.returned (.int .i64 s2)/\Fr NoM W w' from by rw[hs2];exact zg2 b q W hq hb);obtain⟨⟨y1,y2⟩,hx⟩:∃x,x=redT (s1+s2) 24:=⟨_,rfl⟩;have H3:=Hh (fun(W:World)=>show Calls Tryz.prog 42 #[.int .i64 (s1+s2),.int .i64 24] W fun e w'=>e=.returned (.agg #[.int .i64 y1,.int .i64 (y2:Int)])/\Fr NoM W w' from by have h:=zvt (s1+s2) 24 W (by omega) (by decide);rw[←hx]at h;exact h);rw[←hx];have HK:=Hh (fun(W:World) (f:Fr NoM w1 W)=>show W.cell? ⟨w.heap.size,0,none⟩=some (.int .i64 a)/\W.cell? ⟨w.heap.size,1,none⟩=some (.int .i64 (p:Int))/\W.cell? ⟨w.heap.size+1,0,none⟩=some (.int .i64 b)/\W.cell? ⟨w.heap.size+1,1,none⟩=some (.int .i64 (q:Int))from by
  have h0:=f.heap e0 (fun q=>q);have h1:=f.heap e1 (fun q=>q);exact⟨by rw[cell_of_row W _ 0 _ _ _ h0];rfl,by rw[cell_of_row W _ 1 _ _ _ h0];rfl,by rw[cell_of_row W _ 0 _ _ _ h1];rfl,by rw[cell_of_row W _ 1 _ _ _ h1];rfl⟩)
 have HR:=Hh (fun(W:World) (f:Fr NoM w1 W)=>show W.cell? ⟨w.heap.size+1+1,0,none⟩=some (.int .i64 0)/\W.cell? ⟨w.heap.size+1+1,1,none⟩=some (.int .i64 0)/\W.frozen? ⟨w.heap.size+1+1,0,none⟩=false/\W.frozen? ⟨w.heap.size+1+1,1,none⟩=false from by
  have h0:=f.heap e2 (fun q=>q);exact⟨by rw[cell_of_row W _ 0 _ _ _ h0];rfl,by rw[cell_of_row W _ 1 _ _ _ h0];rfl,by simp[World.frozen?,h0],by simp[World.frozen?,h0]⟩)
 have HW:=Hh (show IntKind.i64.wrap (s1+s2)=s1+s2 from by rw[IntKind.wrap_i64];omega);have F1:=Hh f1;clear f1 e0 e1 e2 hs1 hs2 hx hp hq ha hb;obtain⟨k0,k1,k2,k3⟩:=HK.out w1 (Fr.refl _ _);go_enter Tryz.func121,Tryz.ntmps121;go_upto_region 1 with fail;rw[←hw1];clear hw1;have K0:Fr NoM w1 w1.drew:=(Fr.refl NoM w1).drew;go_region_law (first
  | (go_simp;first
   | (go_at_call 155;(with_reducible refine(H1.out _).mono ?_);rintro e wa ⟨rfl,fa⟩;have ka:Fr NoM w1 wa:=Fr.trans (by assumption) fa (fun _ _ q=>q);obtain⟨i0,i1,i2,i3⟩:=HK.out wa ka)
   | (go_at_call 155;(with_reducible refine(H2.out _).mono ?_);rintro e wb ⟨rfl,fb⟩;have kb:Fr NoM w1 wb:=Fr.trans (by assumption) fb (fun _ _ q=>q);obtain⟨j0,j1,j2,j3⟩:=HK.out wb kb)
   | (go_at_call 42;rw[HW.out];(with_reducible refine(H3.out _).mono ?_);rintro e wc ⟨rfl,fc⟩;have kc:Fr NoM w1 wc:=Fr.trans (by assumption) fc (fun _ _ q=>q);obtain⟨r0,r1,r2,r3⟩:=HR.out wc kc)
   | fail)
  | fail)
 all_goals
  have hf:=((F1.out.trans kc (fun _ _ q=>q)).setCell ⟨w.heap.size+1+1,0,none⟩ (.int .i64 y1) (fun h=>by have h:w.heap.size+1+1<w.heap.size:=h;omega)).setCell ⟨w.heap.size+1+1,1,none⟩ (.int .i64 (y2:Int)) (fun h=>by have h:w.heap.size+1+1<w.heap.size:=h;omega);have HF:=Hh hf;clear hf;go_wp2;refine bodyPost_ret (v:=.agg #[.int .i64 y1,.int .i64 (y2:Int)]) (by simp[results,Tryz.results121,go_sem,r0,r1,r2,r3]) rfl ?_
  exact⟨rfl,HF.out⟩
end Go.Proofs.YtghekfmfonoocaaGreatDoor
