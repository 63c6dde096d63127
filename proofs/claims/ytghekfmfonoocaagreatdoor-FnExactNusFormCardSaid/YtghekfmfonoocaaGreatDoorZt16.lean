import Derived.Test.YtghekfmfonoocaaGreatDoorZt14
/- Lemmas. -/
namespace Go.Proofs.YtghekfmfonoocaaGreatDoor
set_option linter.unusedVariables false
set_option linter.unusedSimpArgs false
open Go.RowKit
theorem ya2 (FN:List PL)(h:∀y∈FN,y.1.length≤24/\y.2.length≤24):cntF FN≤48*FN.length:=by
 induction FN with
 | nil=>simp[cntF]
 | cons y l ih =>
  have h1:=h y List.mem_cons_self;have h2:=ih fun z hz=>h z (List.mem_cons_of_mem _ hz)
  rw[zrd,List.length_cons];omega
set_option maxRecDepth 8000 in
set_option maxHeartbeats 16000000 in
theorem nusFormLaw_any (T P n s:Int)(W:World) :
  Calls Tryz.prog 3 #[.agg #[.int .i64 T,.int .i64 P],.int .i64 n,.int .i64 s] W fun e W'=>e=.returned (.bool true)/\Fr NoM W W':=by
 obtain⟨W1,hW1⟩:∃W1,W1=W.alloc (.cells #[.int .i64 T,.int .i64 P] 23):=⟨_,rfl⟩;have f1:Fr NoM W W1:=by rw[hW1];exact(Fr.refl NoM W).alloc _
 have e1:W1.heap[W.heap.size]?=some (.cells #[.int .i64 T,.int .i64 P] 23 (0,0)):=by rw[hW1];exact heap_alloc_new W _
 have HIn:=Hh (fun(w:World) (f:Fr NoM W1 w)=>(⟨by rw[cell_of_row w _ 0 _ _ _ (f.heap e1 (fun q=>q))];rfl,by rw[cell_of_row w _ 1 _ _ _ (f.heap e1 (fun q=>q))];rfl⟩:w.cell? ⟨W.heap.size,0,none⟩=some (.int .i64 T)/\w.cell? ⟨W.heap.size,1,none⟩=some (.int .i64 P)));obtain⟨okn,hokn⟩:=yba T P n s;obtain⟨mr,hmr⟩:∃mr,mr=nsV true okn (numN T P.toNat) (uqC n s.toNat):=⟨_,rfl⟩;have hmr2:mr=nsV false okn (numN T P.toNat) (uqC n s.toNat):=by rw[hmr];exact yb8 hokn
 obtain⟨ok,hok⟩:∃ok:Bool,ok=mr.isSome:=⟨_,rfl⟩;obtain⟨FN,hFN⟩:∃FN,FN=mr.getD []:=⟨_,rfl⟩;have hlen:FN.length≤120/\cntF FN≤10000:=by
  rw[hFN];cases hc:mr with
  | none=>exact⟨by simp,by simp[cntF]⟩
  | some Fs =>
   have hf:=yb9 (ok:=okn) (N:=numN T P.toNat) (Fs:=Fs) (c:=uqC n s.toNat) (by rw[←hmr,hc]);unfold zam at hf;rw[decide_eq_true_eq]at hf;have:=ya2 _ hf.2.2;exact⟨hf.1,by have:=hf.1;show cntF Fs≤10000;omega⟩
 have HR:=Hh (fun(w:World)=>show Calls Tryz.prog 6 #[.agg #[.int .i64 T,.int .i64 P],.int .i64 n,.int .i64 s] w fun e w'=>∃v',e=.returned (.tuple #[.agg #[v'],.bool ok])/\NodeL (fun b=>w.heap.size≤b) encN w' v' FN/\Fr NoM w w' from by rw[hFN,hok];exact zpp T P n s w okn hokn mr hmr2);have HP:=Hh (fun(w:World)=>show Calls Tryz.prog 8 #[.agg #[.int .i64 T,.int .i64 P],.int .i64 n,.int .i64 s] w fun e w'=>∃v',e=.returned (.tuple #[.agg #[v'],.bool ok])/\NodesS w.heap.size w' v' FN/\Fr NoM w w' from by rw[hFN,hok];exact zpq T P n s w okn hokn mr hmr);have HDy:=Hh (fun(w:World)=>zp7 T P w);have HLen:=Hh hlen;obtain⟨m,hm⟩:∃m:Nat,m=1+cntF FN:=⟨_,rfl⟩;have HM:=Hh hm;have hm1:1≤m:=by omega
 have HEq:=Hh (fun(av bv:Value) (w:World) (R S:Nat→Prop) (hA:NodeL R encN w av FN) (hB:NodeL S encN w bv FN)=>show Calls Tryz.prog 9 #[.agg #[av],.agg #[bv]] w fun e w'=>e=.returned (.bool true)/\Fr NoM w w' from by
  have h:=zx2 av bv FN FN w hA hB;rw[decide_eq_true (rfl:FN=FN)]at h;exact h)
 have F1:=Hh f1;clear f1 e1 hFN hmr hmr2 hok hlen hm hokn;obtain⟨c0,c1⟩:=HIn.out W1 (Fr.refl _ _);go_enter Tryz.func3,Tryz.ntmps3;go_upto_region 1 with fail;rw[←hW1];clear hW1;go_wp2_with fail;(with_reducible refine(HDy.out W1).mono ?_);rintro e w2 ⟨rfl,f2⟩;go_wp2_with fail;(with_reducible refine(HR.out w2).mono ?_);rintro e w3 ⟨wv,rfl,n3,f3⟩;obtain⟨aw,cw,rfl,z⟩:=id n3;obtain⟨b6,hb6⟩:∃b,b=w3.heap.size:=⟨_,rfl⟩;obtain⟨w5,hw5⟩:∃w,w=w3.alloc (.cells #[.slice aw FN.length cw] 26):=⟨_,rfl⟩;have g5:Fr NoM w3 w5:=by rw[hw5];exact(Fr.refl NoM w3).alloc _
 have hb5:w5.heap[b6]?=some (.cells #[.slice aw FN.length cw] 26 (0,0)):=by rw[hw5,hb6];exact heap_alloc_new w3 _
 have nw1:=(n3.fr0 g5).low;have H0:=Hh (fun(w:World) (f:Fr NoM w5 w)=>(⟨by rw[cell_of_row w _ 0 _ _ _ (f.heap hb5 (fun q=>q))];rfl,nw1.fr0 f⟩:w.cell? ⟨b6,0,none⟩=some (.slice aw FN.length cw)/\NodeL (· < w5.heap.size) encN w (.slice aw FN.length cw) FN));have F5:=Hh ((f2.trans f3 (fun _ _ q=>q)).trans g5 (fun _ _ q=>q));clear z n3 f2 f3 g5 hb5 nw1 c0 c1;go_upto_region 2 with fail;rw[←hw5,←hb6];clear hw5 hb6;obtain⟨c0,c1⟩:=HIn.out w5 F5.out;go_wp2_with fail;(with_reducible refine(HDy.out w5).mono ?_);rintro e w6 ⟨rfl,f6⟩;go_wp2_with fail;(with_reducible refine(HP.out w6).mono ?_);rintro e w7 ⟨gv,rfl,⟨NG,n7⟩,f7⟩;obtain⟨ag,cg,rfl,z⟩:=id (NodesS.nodeL ⟨NG,n7⟩);obtain⟨b9,hb9⟩:∃b,b=w7.heap.size:=⟨_,rfl⟩;obtain⟨w9,hw9⟩:∃w,w=w7.alloc (.cells #[.slice ag FN.length cg] 26):=⟨_,rfl⟩;have g9:Fr NoM w7 w9:=by rw[hw9];exact(Fr.refl NoM w7).alloc _
 have h9:w9.heap[b9]?=some (.cells #[.slice ag FN.length cg] 26 (0,0)):=by rw[hw9,hb9];exact heap_alloc_new w7 _
 obtain⟨D,hD⟩:∃D,D=w6.heap.size:=⟨_,rfl⟩;rw[←hD]at n7;have n9:=n7.fr g9 (fun _ _ _ q=>q);obtain⟨PB,hP⟩:∃PB:Nat→Prop,PB=fun q=>q∈zas NG:=⟨_,rfl⟩
 have hlo:∀q,PB q→w5.heap.size≤q/\q≠b9:=fun q hq=>by
  rw[hP]at hq;have h1:=n7.blk q hq;have h2:=f6.size;exact⟨by omega,by omega⟩
 have f59:Fr NoM w5 w9:=(f6.trans f7 (fun _ _ q=>q)).trans g9 (fun _ _ q=>q);have HK:=Hh (fun(w:World) (f:Fr PB w9 w)=>(by
  have g5:Fr NoM w5 w:=f59.trans f (fun q hq h=>by have:=(hlo q h).1;omega);exact⟨(H0.out w g5).1,by rw[cell_of_row w _ 0 _ _ _ (f.heap h9 (fun h=>(hlo _ h).2 rfl))];rfl,(H0.out w g5).2,F5.out.trans g5 (fun _ _ q=>q)⟩:w.cell? ⟨b6,0,none⟩=some (.slice aw FN.length cw)/\w.cell? ⟨b9,0,none⟩=some (.slice ag FN.length cg)/\NodeL (· < w5.heap.size) encN w (.slice aw FN.length cw) FN/\Fr NoM W1 w))
 have HN9:=Hh n9;have HPq:=Hh hP;have HS9:=Hh (show NodesS D w9 (.slice ag FN.length cg) FN from⟨NG,n9⟩);clear z n7 n9 f6 f7 g9 h9 hlo f59 hD hP c0 c1;go_upto_region 3 with fail;rw[←hw9,←hb9];clear hw9 hb9;obtain⟨d2,d3,nw9,_⟩:=HK.out w9 (Fr.refl _ _);go_wp2_with fail;(with_reducible refine(HEq.out _ _ w9 _ _ HS9.out.nodeL nw9).mono ?_);rintro e w14 ⟨rfl,f14⟩;have F14P:=Hh (f14.any:Fr PB w9 w14);have N14:=Hh (HN9.out.fr f14 (fun _ _ _ q=>q));clear f14 d2 d3 nw9;obtain⟨d2,d3,_,_⟩:=HK.out w14 F14P.out;have HMk:=Hh (show Calls Tryz.prog 10 #[.agg #[.slice ag FN.length cg],.int .i64 1] w14 fun e w'=>e=.returned (.int .i64 (m:Int))/\NodesN D w' (.slice ag FN.length cg) (zed 1 FN) NG/\Fr (fun q=>q∈zas NG) w14 w' from by
  rw[HM.out];exact zpz D (.slice ag FN.length cg) FN NG 1 w14 N14.out (by have:=HLen.out;omega) (by have:=HLen.out;omega))
 have HHd:=Hh (fun(w:World) (h:NodesN D w (.slice ag FN.length cg) (zed 1 FN) NG)=>show Calls Tryz.prog 11 #[.agg #[.slice ag FN.length cg],.int .i64 1] w fun e w'=>e=.returned (.int .i64 (m:Int))/\Fr NoM w w' from by
  rw[HM.out];exact zr3 D (.slice ag FN.length cg) FN NG 1 w h (by have:=HLen.out;omega) (by have:=HLen.out;omega))
 go_wp2_with fail;(with_reducible refine HMk.out.mono ?_);rintro e w15 ⟨rfl,n15,f15⟩;have F15P:=Hh (F14P.out.trans f15 (fun q _ h=>by rw[HPq.out];exact h));have N15:=Hh n15;clear f15 n15 d2 d3 HMk;obtain⟨d2,d3,_,_⟩:=HK.out w15 F15P.out;go_wp2_with fail;(with_reducible refine(HHd.out w15 N15.out).mono ?_);rintro e w16 ⟨rfl,f16⟩;have F16P:=Hh (F15P.out.trans f16 (fun _ _ q=>q.elim));have N16:=Hh (N15.out.fr f16 (fun _ _ _ q=>q));clear f16 d2 d3;obtain⟨_,_,_,z16⟩:=HK.out w16 F16P.out;obtain⟨c0,c1⟩:=HIn.out w16 z16;clear z16;go_wp2_with fail;(with_reducible refine(HDy.out w16).mono ?_);rintro e w17 ⟨rfl,f17⟩;go_wp2_with fail;(with_reducible refine(HP.out w17).mono ?_);rintro e w18 ⟨hv,rfl,n18',f18⟩;have n18:=n18'.nodeL;obtain⟨ah,ch,rfl,z⟩:=id n18;obtain⟨b19,hb19⟩:∃b,b=w18.heap.size:=⟨_,rfl⟩;obtain⟨w19,hw19⟩:∃w,w=w18.alloc (.cells #[.slice ah FN.length ch] 26):=⟨_,rfl⟩;have g19:Fr NoM w18 w19:=by rw[hw19];exact(Fr.refl NoM w18).alloc _
 have d19:w19.cell? ⟨b19,0,none⟩=some (.slice ah FN.length ch):=by rw[cell_of_row w19 _ 0 _ _ _ (show w19.heap[b19]?=some (.cells #[.slice ah FN.length ch] 26 (0,0))by rw[hw19,hb19];exact heap_alloc_new w18 _)];rfl
 have f69:Fr NoM w16 w19:=(f17.trans f18 (fun _ _ q=>q)).trans g19 (fun _ _ q=>q);have F19P:=Hh (F16P.out.trans f69 (fun _ _ q=>q.elim));have NG19:=Hh (N16.out.fr f69 (fun _ _ _ q=>q));have HNh:=Hh (n18.fr0 g19);clear z n18 n18' f17 f18 g19 f69 c0 c1;go_upto_region 14 with fail;rw[←hw19,←hb19];clear hw19 hb19;obtain⟨d2,d3,nw,_⟩:=HK.out w19 F19P.out;go_wp2_with fail;(with_reducible refine(HEq.out _ _ w19 _ _ HNh.out nw).mono ?_);rintro e w20 ⟨rfl,f20⟩;have F20P:=Hh (F19P.out.trans f20 (fun _ _ q=>q.elim));have NG20:=Hh (NG19.out.fr f20 (fun _ _ _ q=>q));clear f20 d2 d3 nw d19;obtain⟨d2,d3,_,_⟩:=HK.out w20 F20P.out;go_wp2_with fail;(with_reducible refine(HHd.out w20 NG20.out).mono ?_);rintro e w21 ⟨rfl,f21⟩;have F21P:=Hh (F20P.out.trans f21 (fun _ _ q=>q.elim));clear f21 d2 d3;obtain⟨_,_,_,z⟩:=HK.out w21 F21P.out;have FZ:=Hh (F1.out.trans z (fun _ _ q=>q));clear z;go_wp2;go_ret;exact⟨rfl,FZ.out⟩
end Go.Proofs.YtghekfmfonoocaaGreatDoor
