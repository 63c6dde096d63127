import Derived.Test.YtlapkmhemepcaaaGreatDoorZsy
/- Lemmas. -/
set_option linter.all false
set_option maxHeartbeats 8000000
set_option maxRecDepth 8000
namespace Go.Proofs.YtlapkmhemepcaaaGreatDoor
open Go.RowKit
def swC (T1 P1 T2 P2:Int):Nat:=mkC [numC T1 P1.toNat] [numC T2 P2.toNat]
noncomputable def swOk (g1 g2:Bool)(T1 P1 T2 P2:Int):Bool:=g1 && (g2 && (swGe (T1,P1.toNat) (T2,P2.toNat) && zap (za5 (swC T1 P1 T2 P2))))
theorem zt7 {c d:Nat}(ho:optC c d)(h:zap (za5 c)=true):zap (za5 d)=true:=by have hf:=(zsc h).opt ho;obtain⟨Pc,hAc⟩:=zaq c;obtain⟨Pd,hAd⟩:=zaq d;have hlen:(za5 d).length<=(za5 c).length:=by{rw[<-hAc.book.len,<-hAd.book.len];exact List.Nodup.length_le_of_subset hAd.book.nodup (λx hx=>(hAc.sub x).2 ((SubC.root.step ho).trans ((hAd.sub x).1 hx)))};have h2:=h;unfold zap at h2;rw[kW]at h2;exact zsb (by have:=h2.1;omega) hf
theorem zx9 {T1 P1 T2 P2:Int}(h:zap (za5 (swC T1 P1 T2 P2))=true):zap (numN T1 P1.toNat)=true/\zap (numN T2 P2.toNat)=true :=
 ⟨zt7 (.inl ((zag _ _ _).2 (by simp))) h,zt7 (.inr ((zaf _ _ _).2 (by simp))) h⟩
theorem zvq (T1 P1 T2 P2:Int)(w:World)(g1 g2:Bool)(hg1:g1=true↔GoodD T1 P1)(hg2:g2=true↔GoodD T2 P2)(res:Int)(hres:res=if (g1 && g2)=true then cmpD (T1,P1.toNat) (T2,P2.toNat)else 0) : Calls Tryz.prog 15 #[.agg #[.int .i64 T1,.int .i64 P1],.agg #[.int .i64 T2,.int .i64 P2]] w λe w'=>e=.returned (.tuple #[.int .i64 res,.bool (g1 && g2)])/\Fr NoM w w':=by cases hgg:(g1 && g2)with| true =>{rw[Bool.and_eq_true]at hgg;obtain⟨rfl,rfl⟩:=hgg;have h1:=hg1.1 rfl;have h2:=hg2.1 rfl;obtain⟨p,rfl,_,_,_⟩:=h1.nat;obtain⟨q,rfl,_,_,_⟩:=h2.nat;exact zgz T1 T2 p q w h1 h2 res (by rw[hres];rfl)}| false =>{(rw[hgg,if_neg (by decide)]at hres;subst hres;obtain⟨w1,hw1⟩:=eX ((w.alloc (.cells #[.int .i64 T1,.int .i64 P1] 29)).alloc (.cells #[.int .i64 T2,.int .i64 P2] 29));have f1:Fr NoM w w1:=by rw[hw1];exact((nW w).alloc _).alloc _);(have e0:w1.heap[w.heap.size]?=some (.cells #[.int .i64 T1,.int .i64 P1] 29 (0,0)):=by rw[hw1];exact((nW _).alloc _).heap (xJ w _) id);have e1:w1.heap[w.heap.size+1]?=some (.cells #[.int .i64 T2,.int .i64 P2] 29 (0,0)):=by{have h:=xJ (w.alloc (.cells #[.int .i64 T1,.int .i64 P1] 29)) (.cells #[.int .i64 T2,.int .i64 P2] 29);rw[xZ]at h;rw[hw1];exact h};have HK:=Hh (λW (f:Fr NoM w1 W)=>show W.cell? ⟨w.heap.size,0,none⟩=some (.int .i64 T1)/\W.cell? ⟨w.heap.size,1,none⟩=some (.int .i64 P1)/\W.cell? ⟨w.heap.size+1,0,none⟩=some (.int .i64 T2)/\W.cell? ⟨w.heap.size+1,1,none⟩=some (.int .i64 P2)from by{have h0:=f.heap e0 id;have h1:=f.heap e1 id;exact⟨by rw[xX W _ 0 _ _ _ h0];rfl,by rw[xX W _ 1 _ _ _ h0];rfl,by rw[xX W _ 0 _ _ _ h1];rfl,by rw[xX W _ 1 _ _ _ h1];rfl⟩});have G1:=Hh (λ(W:World)=>zb2 T1 P1 W g1 hg1);have G2:=Hh (λ(W:World)=>zb2 T2 P2 W g2 hg2);have F1:=Hh f1;have Hgg:=Hh hgg;clear f1 e0 e1 hg1 hg2 hgg;obtain⟨k0,k1,k2,k3⟩:=HK.out w1 (Fr.refl _ _);go_enter Tryz.func15,Tryz.ntmps15;go_upto_region 1 with fail;rw[<-hw1];clear hw1;go_wp2_with fail;(with_reducible refine(G1.out _).mono ?_);rintro e wa ⟨rfl,fa⟩;clear k0 k1 k2 k3;have FA:=Hh fa;clear fa;cases g1 with| false =>{go_wp2;go_ret2;exact⟨rfl,F1.out.trans FA.out (λ_ _ q=>q)⟩}| true =>{(have hg2f:g2=false:=by have h:=Hgg.out;simpa using h);subst hg2f;obtain⟨k0,k1,k2,k3⟩:=HK.out wa FA.out;go_wp2_with fail;(with_reducible refine(G2.out _).mono ?_);rintro e wb ⟨rfl,fb⟩;clear k0 k1 k2 k3;have FB:=Hh (FA.out.trans fb (λ_ _ q=>q));clear fb;go_wp2;go_ret2;exact⟨rfl,F1.out.trans FB.out (λ_ _ q=>q)⟩}}
def zuk (ok:Bool)(c:Nat)(w:World)(e:Ending)(w':World):Prop:=∃v',e=.returned (.tuple #[.agg #[v'],.bool ok])/\NodesS w.heap.size w' v' (if ok=true then za5 c else [])/\Fr NoM w w'
theorem zkq (T1 P1 T2 P2:Int)(w:World)(g1 g2:Bool)(hg1:g1=true↔GoodD T1 P1)(hg2:g2=true↔GoodD T2 P2)(ok:Bool)(hok:ok=swOk g1 g2 T1 P1 T2 P2) :
  Calls Tryz.prog 41 #[.agg #[.int .i64 T1,.int .i64 P1],.agg #[.int .i64 T2,.int .i64 P2]] w λe w'=>zuk ok (swC T1 P1 T2 P2) w e w':=by
 obtain⟨w1,hw1⟩:=eX (((w.alloc (.cells #[.int .i64 T1,.int .i64 P1] 29)).alloc (.cells #[.int .i64 T2,.int .i64 P2] 29)).alloc (.cells #[.slice none 0 0] 26));have f1:Fr NoM w w1:=by rw[hw1];exact(((nW w).alloc _).alloc _).alloc _
 have hs1:w1.heap.size=w.heap.size+3:=by rw[hw1];simp
 have e0:w1.heap[w.heap.size]?=some (.cells #[.int .i64 T1,.int .i64 P1] 29 (0,0)):=by rw[hw1];exact(((nW _).alloc _).alloc _).heap (xJ w _) id
 have e1:w1.heap[w.heap.size+1]?=some (.cells #[.int .i64 T2,.int .i64 P2] 29 (0,0)):=by
  have h:=xJ (w.alloc (.cells #[.int .i64 T1,.int .i64 P1] 29)) (.cells #[.int .i64 T2,.int .i64 P2] 29);rw[xZ]at h;rw[hw1];exact((nW _).alloc _).heap h id
 have e2:w1.heap[w.heap.size+1+1]?=some (.cells #[.slice none 0 0] 26 (0,0)):=by
  have h:=xJ ((w.alloc (.cells #[.int .i64 T1,.int .i64 P1] 29)).alloc (.cells #[.int .i64 T2,.int .i64 P2] 29)) (.cells #[.slice none 0 0] 26);rw[xZ,xZ]at h;rw[hw1];exact h
 have HK:=Hh (λW (f:Fr (λq=>w1.heap.size<=q) w1 W)=>(by
  have h0:=f.heap e0 (λq=>by omega);have h1:=f.heap e1 (λq=>by omega);have h2:=f.heap e2 (λq=>by omega);exact⟨by rw[xX W _ 0 _ _ _ h0];rfl,by rw[xX W _ 1 _ _ _ h0];rfl,by rw[xX W _ 0 _ _ _ h1];rfl,by rw[xX W _ 1 _ _ _ h1];rfl,by rw[xX W _ 0 _ _ _ h2];rfl,by simp[World.frozen?,h2]⟩:W.cell? ⟨w.heap.size,0,none⟩=some (.int .i64 T1)/\W.cell? ⟨w.heap.size,1,none⟩=some (.int .i64 P1)/\W.cell? ⟨w.heap.size+1,0,none⟩=some (.int .i64 T2)/\W.cell? ⟨w.heap.size+1,1,none⟩=some (.int .i64 P2)/\W.cell? ⟨w.heap.size+1+1,0,none⟩=some (.slice none 0 0)/\W.frozen? ⟨w.heap.size+1+1,0,none⟩=false))
 obtain⟨res,hres⟩:=eX (if (g1 && g2)=true then cmpD (T1,P1.toNat) (T2,P2.toNat)else 0)
 have HCm:=Hh (λ(W:World)=>zvq T1 P1 T2 P2 W g1 g2 hg1 hg2 res hres);obtain⟨gg,hgg⟩:=eX ((g1 && g2));rw[<-hgg]at HCm hres;have F1:=Hh f1;have HS1:=Hh hs1;have HG1:=Hh hg1;have HG2:=Hh hg2;have HOk:=Hh hok;have HRe:=Hh hres;have HGg:=Hh hgg;have HBad:=Hh (λW (f:Fr (λq=>w1.heap.size<=q) w1 W) (h:ok=false)=>show zuk ok (swC T1 P1 T2 P2) w (.returned (.tuple #[.agg #[.slice none 0 0],.bool false])) (W.setCell ⟨w.heap.size+1+1,0,none⟩ (.slice none 0 0))from by
  subst h;exact⟨_,rfl,NodesS.nil _ _,(f1.trans f (λk hk h=>by have h:w1.heap.size<=k:=h;omega)).setCell _ _ (λh=>by have h:w.heap.size+1+1<w.heap.size:=h;omega)⟩)
 clear f1 hs1 e0 e1 e2 hg1 hg2 hok hres hgg;obtain⟨k0,k1,k2,k3,k4,k5⟩:=HK.out w1 (Fr.refl _ _);go_enter Tryz.func41,Tryz.ntmps41;go_upto_region 1 with fail;rw[<-hw1];clear hw1;go_wp2_with fail;(with_reducible refine(HCm.out w1).mono ?_);rintro e w2 ⟨rfl,f2⟩;have F2:=Hh f2;clear f2 k0 k1 k2 k3 k4 k5;obtain⟨k0,k1,k2,k3,k4,k5⟩:=HK.out w2 F2.out.any;cases gg with
 | false =>
  have HE:=Hh (HBad.out w2 F2.out.any (by rw[HOk.out];unfold swOk;have h:=HGg.out;cases g1 <;> cases g2 <;> simp at h ⊢));go_wp2_with fail;refine yJ (v:=.tuple #[.agg #[.slice none 0 0],.bool false]) (by simp[results,Tryz.results41,go_sem,k4,k5]) rfl ?_
  exact HE.out
 | true =>
 by_cases hr0:res<0
 ·have HR0:=Hh hr0
  have HE:=Hh (HBad.out w2 F2.out.any (by 
    obtain⟨rfl,rfl⟩:g1=true/\g2=true:=by have h:=HGg.out;cases g1 <;> cases g2 <;> simp at h ⊢
    obtain⟨p,rfl,hp,_,_⟩:=(HG1.out.1 (by simp)).nat;obtain⟨q,rfl,hq,_,_⟩:=(HG2.out.1 (by simp)).nat;have h:=HRe.out;rw[if_pos rfl]at h;have h2:=(zzf (x:=(T1,p)) (y:=(T2,q)) hp hq).1 (by have h3:=HR0.out;rw[h]at h3;exact h3);rw[HOk.out];unfold swOk;show(true && (true && (swGe (T1,p) (T2,q) && _)))=false
    rw[h2];rfl))
  go_wp2_with fail;refine yJ (v:=.tuple #[.agg #[.slice none 0 0],.bool false]) (by simp[results,Tryz.results41,go_sem,k4,k5]) rfl ?_
  exact HE.out
 obtain⟨rfl,rfl⟩:g1=true/\g2=true:=by have h:=HGg.out;cases g1 <;> cases g2 <;> simp at h ⊢
 have HOk2:=Hh (show ok=zap (za5 (swC T1 P1 T2 P2))from by
  obtain⟨p,rfl,hp,_,_⟩:=(HG1.out.1 (by simp)).nat;obtain⟨q,rfl,hq,_,_⟩:=(HG2.out.1 (by simp)).nat;have h:=HRe.out;rw[if_pos rfl]at h;have h2:swGe (T1,p) (T2,q)=true:=eq_true_of_ne_false λe=>hr0 (by rw[h];exact(zzf (x:=(T1,p)) (y:=(T2,q)) hp hq).2 e)
  rw[HOk.out];unfold swOk;show(true && (true && (swGe (T1,p) (T2,q) && _)))=_
  rw[h2];rfl)
 have HNo:=Hh (λ(h:zap (numN T1 P1.toNat)=false\/zap (numN T2 P2.toNat)=false)=>show ok=false from by
  rw[HOk2.out];refine eq_false_of_ne_true λe=>?_
  obtain⟨h1,h2⟩:=zx9 e;rcases h with h|h
  ·rw[h]at h1;cases h1
  ·rw[h]at h2;cases h2)
 go_wp2_with fail;(with_reducible refine(zh3 w2).mono ?_);rintro e w3 ⟨rfl,hp3,hmaps,f3⟩;obtain⟨pb,hpb⟩:=eX (w2.heap.size+5);obtain⟨sb,hsb⟩:=eX (w2.heap.size+4);have hmap:=hmaps 4 (by omega);rw[<-hsb]at hmap hp3;rw[<-hpb]at hp3 ⊢;obtain⟨mo,hmo⟩:=eX (Value.map (some (w2.heap.size+1)));obtain⟨mc,hmc⟩:=eX (Value.map (some (w2.heap.size+2)));obtain⟨ms,hms⟩:=eX (Value.map (some (w2.heap.size+3)));rw[<-hmo,<-hmc,<-hms]at hp3;clear hmaps hmo hmc hms;obtain⟨U,hU⟩:=eX ((numU T1 P1.toNat 121++numU T2 P2.toNat 121) ++ [swC T1 P1 T2 P2]);have hUl:U.length<2000:=by
  obtain⟨p,rfl,hp,_⟩:=(HG1.out.1 (by simp)).nat;obtain⟨q,rfl,hq,_⟩:=(HG2.out.1 (by simp)).nat;rw[hU,yX,yX,znx,znx];have e:(p:Int).toNat=p:=rfl;have e':(q:Int).toNat=q:=rfl;simp only[List.length_cons,List.length_nil];omega
 have hU1:true=true->T1.natAbs/2^P1.toNat<120->∀a,SubC (numC T1 P1.toNat) a->a∈U:=λ_ h2 a ha=>by
  obtain⟨p,rfl,hp,hr,_⟩:=(HG1.out.1 (by simp)).nat;rw[hU];exact vJ _ (vJ _ (zrt hr h2 a ha))
 have hU2:true=true->T2.natAbs/2^P2.toNat<120->∀a,SubC (numC T2 P2.toNat) a->a∈U:=λ_ h2 a ha=>by
  obtain⟨p,rfl,hp,hr,_⟩:=(HG2.out.1 (by simp)).nat;rw[hU];exact vJ _ (List.mem_append_right _ (zrt hr h2 a ha))
 have hU3:swC T1 P1 T2 P2∈U:=by rw[hU];simp
 have hlo:=hp3.low;have hst:PSt encN NegMO U pb sb mo mc ms (.map (some sb)) w3 [] [] (λq=>(q=w2.heap.size\/q=pb)/\q<w3.heap.size) (λq=>NoM q/\q<w3.heap.size) (λ_=>none) :=
  ⟨hlo,PoolOK.nil,λx hx=>by simp at hx,⟨#[],0,hmap,by simp,by simp,by simp⟩,NegMO.none [],λq hq=>⟨hq.2,by rcases hq.1 with h|h <;> omega⟩,λq hq=>⟨hq.2,hq.1.elim⟩⟩
 have HNd:=Hh (zit (U:=U) (by omega) pb sb mo mc ms T1 P1 true ⟨λ_=>HG1.out.1 (by simp),λ_=>rfl⟩ hU1 [] [] _ _ _ w3 hst);have HNe:=Hh (λ(V:List PL) (BV:List Nat) (M I:Nat->Prop) (f:Nat->Option Nat) (W:World) (h:PSt encN NegMO U pb sb mo mc ms (.map (some sb)) W V BV M I f)=>zit (U:=U) (by omega) pb sb mo mc ms T2 P2 true ⟨λ_=>HG2.out.1 (by simp),λ_=>rfl⟩ hU2 V BV M I f W h);have HUm:=Hh (And.intro hUl hU3);have HPb:=Hh (And.intro hpb hsb);have F3:=Hh (F2.out.trans f3 (λ_ _ q=>q));have HS2:=Hh (show w1.heap.size<=w2.heap.size from F2.out.size);clear hp3 hlo hst hmap hU hUl hU1 hU2 hU3 f3 hpb hsb hr0 k0 k1 k2 k3 k4 k5;obtain⟨k0,k1,k2,k3,k4,k5⟩:=HK.out w3 F3.out.any;go_wp2_with fail;(with_reducible refine HNd.out.mono ?_);rintro e w4 ⟨i,ok1,V4,B4,M4,I4,f4',rfl,st4,nx4,hy4,hn4⟩;have F4:=Hh (F3.out.any.trans nx4.fr (λk _ h=>by
  have:=HPb.out;have:=HS2.out;rcases h with h|h
  ·rcases h.1 with h|h <;> omega
  ·omega):Fr (λq=>w1.heap.size<=q) w1 w4)
 have HY4:=Hh hy4;have HN4:=Hh hn4;have HNe4:=Hh (HNe.out V4 B4 M4 I4 f4' w4 st4);have HMl:=Hh (λq (h:M4 q)=>nx4.mM q h);clear st4 nx4 hy4 hn4 k0 k1 k2 k3 k4 k5;obtain⟨k0,k1,k2,k3,k4,k5⟩:=HK.out w4 F4.out;go_wp2_with fail;(with_reducible refine HNe4.out.mono ?_);rintro e w5 ⟨j,ok2,V5,B5,M5,I5,f5',rfl,st5,nx5,hy5,hn5⟩;have F5:=Hh (F4.out.trans nx5.fr (λk _ h=>by
  have h0:=HPb.out;have h2:=HS2.out;rcases h with h|h
  ·rcases HMl.out k h with h3|h3
   ·rcases h3.1 with h|h <;> omega
   ·have:=F3.out.size;omega
  ·omega):Fr (λq=>w1.heap.size<=q) w1 w5)
 have HSt5:=Hh st5;have HNx5:=Hh nx5;have HY5:=Hh hy5;have HN5:=Hh hn5;have HM5:=Hh (λq (h:M5 q)=>show w1.heap.size<=q from by
  have h0:=HPb.out;have h2:=HS2.out;have h6:=F3.out.size;have h7:=F4.out.size;rcases nx5.mM q h with h1|h1
  ·rcases HMl.out q h1 with h3|h3
   ·rcases h3.1 with h|h <;> omega
   ·omega
  ·omega)
 clear st5 nx5 hy5 hn5 k0 k1 k2 k3 k4 k5;obtain⟨k0,k1,k2,k3,k4,k5⟩:=HK.out w5 F5.out;cases ok1 with
 | false =>
  have HE:=Hh (HBad.out w5 F5.out (by exact HNo.out (.inl (by have h:=HN4.out;simpa using h))));go_wp2_with fail;refine yJ (v:=.tuple #[.agg #[.slice none 0 0],.bool false]) (by simp[results,Tryz.results41,go_sem,k4,k5]) rfl ?_
  exact HE.out
 | true =>
 cases ok2 with
 | false =>
  have HE:=Hh (HBad.out w5 F5.out (by exact HNo.out (.inr (by have h:=HN5.out;simpa using h))));go_wp2_with fail;refine yJ (v:=.tuple #[.agg #[.slice none 0 0],.bool false]) (by simp[results,Tryz.results41,go_sem,k4,k5]) rfl ?_
  exact HE.out
 | true =>
 obtain⟨hi4,hc4⟩:i<V4.length/\(za0 V4).getD i 0=numC T1 P1.toNat:=by have h:=HY4.out;simp only[true_implies,forall_const]at h;exact h.2
 obtain⟨hj5,hd5⟩:j<V5.length/\(za0 V5).getD j 0=numC T2 P2.toNat:=by have h:=HY5.out;simp only[true_implies,forall_const]at h;exact h.2
 have hi5:i<V5.length:=kQ hi4 HNx5.out.pre.length_le;have hc5:(za0 V5).getD i 0=numC T1 P1.toNat:=by rw[zan HNx5.out.pre hi4];exact hc4
 obtain⟨w6,hw6⟩:=eX ((w5.alloc (.cells #[.int .i64 (i:Int)] 3)).alloc (.cells #[.int .i64 (j:Int)] 3));have g6:Fr NoM w5 w6:=by rw[hw6];exact((nW w5).alloc _).alloc _
 have n6:Nats w6 (.slice (some ⟨w5.heap.size,0,none⟩) 1 1) [i]:=by rw[hw6];exact(SliceOf.one encN w5 i 3).fr0 ((nW _).alloc _)
 have n7:Nats w6 (.slice (some ⟨w5.heap.size+1,0,none⟩) 1 1) [j]:=by
  have h:=SliceOf.one encN (w5.alloc (.cells #[.int .i64 (i:Int)] 3)) j 3;rw[xZ]at h;rw[hw6];exact h
 have HNo6:=Hh (show Calls Tryz.prog 89 #[.pointer (some ⟨pb,0,none⟩),.slice (some ⟨w5.heap.size,0,none⟩) 1 1,.slice (some ⟨w5.heap.size+1,0,none⟩) 1 1] w6 λe w'=>NegPost U pb sb mo mc ms w6 V5 M5 I5 (swC T1 P1 T2 P2) e w' from zft (U:=U) (by have:=HUm.out.1;omega) (some ⟨w5.heap.size,0,none⟩) (some ⟨w5.heap.size+1,0,none⟩) 1 1 1 1 rfl rfl (HSt5.out.fr0 g6) n6 n7 ((RowC.nil V5).snoc hi5 hc5) ((RowC.nil V5).snoc hj5 hd5) HUm.out.2 (by simp) (by simp));have F6:=Hh (F5.out.trans g6 (λ_ _ q=>q.elim));clear hi4 hc4 hj5 hd5 hi5 hc5 g6 n6 n7 HNx5 HY4 HY5 HN4 HN5;go_wp2_with fail;rw[<-hw6];clear hw6;(with_reducible refine HNo6.out.mono ?_);rintro e w8 ⟨r,V8,B8,M8,I8,f8',rfl,st8,nx8,lr,qr⟩;have F8:=Hh (F6.out.trans nx8.fr (λk _ h=>by
  have h0:=HPb.out;have h2:=HS2.out;rcases h with h|h
  ·exact HM5.out k h
  ·omega):Fr (λq=>w1.heap.size<=q) w1 w8)
 have hlen:=st8.len;have HFm:=Hh (zy3 pb r V8 B8 mo mc ms (.map (some sb)) w8 st8.pool st8.ok lr (by have:=HUm.out.1;omega));have hfo:=zgm st8.ok lr qr;have HRs:=Hh (λ(okf:Bool) (FR:List PL) (hres:FormRes V8 B8 r okf FR)=>(by
  obtain⟨h1,h2⟩:=FormRes.is st8.ok lr hres;rw[hfo]at h1 h2;have hk:ok=okf:=by rw[HOk2.out,h1]
  refine⟨hk.symm,?_⟩;rw[h2,hk]:okf=ok/\FR=(if ok=true then za5 (swC T1 P1 T2 P2)else [])))
 clear st8 nx8 lr qr hlen hfo k0 k1 k2 k3 k4 k5;go_wp2_with fail;(with_reducible refine HFm.out.mono ?_);rintro e w9 ⟨nv,okf,FR,rfl,hres,hns,f9⟩;obtain⟨e1,e2⟩:=HRs.out okf FR hres;subst e1;have F9:=Hh (F8.out.trans f9 (λ_ _ q=>q.elim));have HNs:=Hh hns;have HFr:=Hh e2;have HZz:=Hh (show w.heap.size+3<=w8.heap.size from by have:=F8.out.size;have:=HS1.out;omega);obtain⟨an,cn,rfl,zz⟩:=id hns.nodeL;clear zz hns f9 hres e2;obtain⟨k0,k1,k2,k3,k4,k5⟩:=HK.out w9 F9.out;go_wp2;refine yJ (v:=.tuple #[.agg #[.slice an FR.length cn],.bool okf]) (by simp[results,Tryz.results41,go_sem,k4,k5]) rfl ?_
 refine⟨_,rfl,?_,(F1.out.trans F9.out (λk hk h=>by have h:w1.heap.size<=k:=h;have:=HS1.out;omega)).setCell _ _ (λh=>by have h:w.heap.size+1+1<w.heap.size:=h;omega)⟩;rw[<-HFr.out];exact(HNs.out.fr (Fr.set w9 ⟨w.heap.size+1+1,0,none⟩ (.slice an FR.length cn)) (λq hq _ e=>by have e:q=w.heap.size+1+1:=e;have:=HZz.out;omega)).base (D':=w.heap.size) (by have:=HZz.out;omega)
 end Go.Proofs.YtlapkmhemepcaaaGreatDoor
