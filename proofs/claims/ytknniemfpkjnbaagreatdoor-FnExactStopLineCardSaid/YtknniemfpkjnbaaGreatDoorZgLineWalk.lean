import Derived.Test.YtknniemfpkjnbaaGreatDoorZgLineP
import Derived.Test.YtknniemfpkjnbaaGreatDoorZgLineR
import Derived.Test.YtknniemfpkjnbaaGreatDoorZgLawMark
/- What the claim of FnExactStopLineCard needs of: LineWalk. -/
namespace Go.Proofs.YtknniemfpkjnbaaGreatDoor
set_option linter.unusedVariables false
set_option linter.unusedSimpArgs false
open Go.RowKit
theorem NRow.rowB {B:Nat}{W:World}{v:Value}{L:List Nat}(h:NRow B W v L):∀q,v.ownBlock=some q→RowB W q:=fun q hq=>by
 rcases h.own.2 with ⟨e,_⟩|⟨g,cap,cur,e,_,hg,_⟩
 ·rw[e]at hq;cases hq
 ·rw[e]at hq
  obtain rfl:g=q:=Option.some.inj hq;exact⟨_,hg⟩
set_option maxRecDepth 8000 in
set_option maxHeartbeats 8000000 in
theorem lineLaw_any {R:Nat→Prop}(left:Bool)(v:Value)(Fi:List IL)(W:World)(hN:NodeL R encI W v Fi):Calls Tryz.prog 3 #[.agg #[v],.bool left] W fun e W'=>e=.returned (.bool true)/\Fr NoM W W':=by
 obtain⟨W1,hW1⟩:∃W1,W1=W.alloc (.cells #[v] 24):=⟨_,rfl⟩;have f1:Fr NoM W W1:=by rw[hW1];exact(Fr.refl NoM W).alloc _
 have hs1:W1.heap.size=W.heap.size+1:=by rw[hW1];simp
 have e1:W1.heap[W.heap.size]?=some (.cells #[v] 24 (0,0)):=by rw[hW1];exact heap_alloc_new W _
 obtain⟨va,vc,rfl,z⟩:=id hN;clear z;have HIn:=Hh (fun(w:World) (f:Fr NoM W1 w)=>(⟨by rw[cell_of_row w _ 0 _ _ _ (f.heap e1 (fun q=>q))];rfl,hN.fr0 (f1.trans f (fun _ _ q=>q))⟩:w.cell? ⟨W.heap.size,0,none⟩=some (.slice va Fi.length vc)/\NodeL R encI w (.slice va Fi.length vc) Fi));have HSz:=Hh (zse (.slice va Fi.length vc) Fi 1048576 W1 (hN.fr0 f1) (Nat.le_refl _));have F1:=Hh f1;have HS1:=Hh hs1;have c0:=(HIn.out W1 (Fr.refl _ _)).1;clear hN f1 hs1 e1;by_cases hbig:1048576<Fi.length+cntI Fi
 ·have hsz:=HSz.out
  rw[if_pos hbig]at hsz;have HZ:=Hh hsz;clear hsz HSz;go_enter Tryz.func3,Tryz.ntmps3;go_wp2_with fail;rw[←hW1];refine HZ.out.mono ?_
  rintro e w2 ⟨rfl,f2⟩;go_wp2_with fail;go_ret;exact⟨rfl,F1.out.trans f2 (fun _ _ q=>q)⟩
 ·obtain⟨g,hg⟩:∃g:Bool,(g=true↔zdc Fi):=by
   by_cases h:zdc Fi
   ·exact⟨true,by simp[h]⟩
   ·exact⟨false,by simp[h]⟩
  obtain⟨k0,hk0⟩:∃k0:Nat,k0=1048576-(Fi.length+cntI Fi):=⟨_,rfl⟩;have hsz:=HSz.out;rw[if_neg hbig,←hk0]at hsz;obtain⟨ok,hok⟩:∃ok,ok=zm8 g Fi:=⟨_,rfl⟩;obtain⟨N,hNl⟩:∃N,N=zhh g Fi left:=⟨_,rfl⟩;have hlen:N.length≤120:=by
   rw[hNl];unfold zhh;split
   ·rename_i e
    unfold zm8 at e;cases g with
    | false=>cases e
    | true =>
     obtain⟨Fs,rfl⟩:=zgm (hg.1 rfl);obtain⟨p1,p2,_,p4,_,_⟩:=zbd (hg.1 rfl);rw[zh3,zbp];have:=zmc p4.book rfl (Fs.length-1) (by omega) left;omega
   ·simp
  have HR:=Hh (fun(w:World) (S:Nat→Prop) (nv:Value) (h:NodeL S encI w nv Fi)=>zm2 nv Fi left w h g hg ok hok N hNl);have HP:=Hh (fun(w:World) (S:Nat→Prop) (nv:Value) (h:NodeL S encI w nv Fi)=>zm3 nv Fi left w h g hg ok hok N hNl);have HTo:=Hh (fun(w:World) (f:Fr NoM W1 w)=>zsc (.slice va Fi.length vc) Fi w (HIn.out w f).2 (by omega) (fun y hy=>by
   obtain⟨j,hj,rfl⟩:=List.getElem_of_mem hy;have:=zyc (List.getElem?_eq_getElem hj);omega))
  have HLen:=Hh hlen;have HZ:=Hh hsz;have HBig:=Hh (show Fi.length+cntI Fi≤1048576 from by omega);obtain⟨m,hm⟩:∃m:Nat,m=1+N.length:=⟨_,rfl⟩;have HMm:=Hh hm;have hm1:1≤m:=by omega
  have HEq:=Hh (fun(av bv:Value) (w:World) (hA:Nats w av N) (hB:Nats w bv N)=>show Calls Tryz.prog 12 #[av,bv] w fun e w'=>e=.returned (.bool true)/\Fr NoM w w' from by
   have h:=zpa av bv N N w hA hB;rw[decide_eq_true (rfl:N=N)]at h;exact h.mono fun e w' h=>⟨h.1,by obtain⟨q,hq⟩:=h.2;rw[hq];exact zab w q⟩)
  have HEqI:=Hh (fun(av bv:Value) (w:World) (R S:Nat→Prop) (hA:NodeL R encI w av Fi) (hB:NodeL S encI w bv Fi)=>show Calls Tryz.prog 13 #[.agg #[av],.agg #[bv]] w fun e w'=>e=.returned (.bool true)/\Fr NoM w w' from by
   have h:=zpb av bv Fi Fi w hA hB;rw[decide_eq_true (rfl:Fi=Fi)]at h;exact h)
  have HHd:=Hh (fun(v:Value) (w:World) (h:Nats w v (List.range' 1 N.length))=>show Calls Tryz.prog 16 #[v,.int .i64 1] w fun e w'=>e=.returned (.int .i64 (m:Int))/\w'=w from by
   rw[hm];exact zns v N.length 1 w h (by omega))
  clear hok hNl hlen HSz hsz hbig hk0 hm hg;go_enter Tryz.func3,Tryz.ntmps3;go_wp2_with fail;rw[←hW1];clear hW1;refine HZ.out.mono ?_
  rintro e w2 ⟨rfl,f2⟩;have F2:=Hh f2;clear f2 c0;have c2:=(HIn.out w2 F2.out).1;go_wp2_with fail;refine(HTo.out w2 F2.out).mono ?_
  rintro e w3 ⟨v3,N3,rfl,n3,f3⟩;have F3:=Hh (F2.out.trans f3 (fun _ _ q=>q));have h3:=HR.out w3 _ v3 n3.nodeL;obtain⟨a3,c3,rfl,z⟩:=id n3.nodeL;have H3:=Hh h3;clear z n3 f3 h3 c2;go_wp2_with fail;refine H3.out.mono ?_
  rintro e w4 ⟨wv,rfl,nw,f4⟩;obtain⟨bw,cw,rfl⟩:=id nw.shape;have HNw:=Hh nw;have F4:=Hh (F3.out.trans f4 (fun _ _ q=>q));have HBw:=Hh (nw.own.lt bw rfl);clear nw f4 H3;have c4:=(HIn.out w4 F4.out).1;go_wp2_with fail;refine(HTo.out w4 F4.out).mono ?_
  rintro e w6 ⟨x0,NX,rfl,n6,f6⟩;obtain⟨ax,cx,rfl,z⟩:=id n6.nodeL;have HN6:=Hh n6;have F46:=Hh f6;clear z n6 f6 c4;go_upto_region 7 with fail;obtain⟨w7,hw7⟩:∃w7,w7=w6.alloc (.cells #[.slice ax Fi.length cx] 31):=⟨_,rfl⟩;have f7:Fr NoM w6 w7:=by rw[hw7];exact(Fr.refl NoM w6).alloc _
  have hs7:w7.heap.size=w6.heap.size+1:=by rw[hw7];simp
  have hb7:w7.heap[w6.heap.size]?=some (.cells #[.slice ax Fi.length cx] 31 (0,0)):=by rw[hw7];exact heap_alloc_new w6 _
  rw[←hw7];have HX:=Hh (fun(w:World) (f:Fr NoM w7 w)=>(⟨by rw[cell_of_row w _ 0 _ _ _ (f.heap hb7 (fun q=>q))];rfl,(HN6.out.fr0 f7).fr0 f⟩:w.cell? ⟨w6.heap.size,0,none⟩=some (.slice ax Fi.length cx)/\NodesI w4.heap.size w (.slice ax Fi.length cx) Fi NX));have F47:=Hh (F46.out.trans f7 (fun _ _ q=>q));have HS7:=Hh hs7;have HXb:=Hh HN6.out.blk;clear hw7 f7 hs7;have c7:=(HX.out w7 (Fr.refl _ _)).1;have Hb7:=Hh hb7;clear hb7;go_wp2_with fail;refine(HP.out w7 _ _ (HX.out w7 (Fr.refl _ _)).2.nodeL).mono ?_
  rintro e w8 ⟨gv,rfl,n8,f8⟩;obtain⟨bg,cg,rfl⟩:=id n8.shape;have HN8:=Hh n8;have F78:=Hh f8;have HBg:=Hh (n8.own.lt bg rfl);clear n8 f8 c7;obtain⟨P,hP⟩:∃P:Nat→Prop,P=fun q=>q∈zan NX∨q=bg:=⟨_,rfl⟩
  have hlo:∀q,P q→w4.heap.size≤q/\q≠w6.heap.size/\q<w8.heap.size:=fun q hq=>by
   have h1:=HS7.out;have h2:=F78.out.size;have h3:=F46.out.size;rw[hP]at hq;rcases hq with h|h
   ·have:=HXb.out q h
    exact⟨this.1,by omega,by omega⟩
   ·have:=HBg.out
    subst h;exact⟨by omega,by omega,by omega⟩
  have f48:Fr NoM w4 w8:=F47.out.trans F78.out (fun _ _ q=>q);have HK:=Hh (fun(w:World) (f:Fr P w8 w)=>(by
   have g4:Fr NoM w4 w:=f48.trans f (fun q hq h=>by have:=(hlo q h).1;omega);have g1:Fr NoM W1 w:=F4.out.trans g4 (fun _ _ q=>q);exact⟨(HIn.out w g1).1,by rw[cell_of_row w _ 0 _ _ _ (f.heap (F78.out.heap Hb7.out (fun q=>q)) (fun h=>by have:=(hlo _ h).2.1;omega))];rfl,(HNw.out.fr g4 (fun _ _ q=>q)).nats,g1⟩:w.cell? ⟨W.heap.size,0,none⟩=some (.slice va Fi.length vc)/\w.cell? ⟨w6.heap.size,0,none⟩=some (.slice ax Fi.length cx)/\Nats w (.slice (some ⟨bw,0,none⟩) N.length cw) N/\Fr NoM W1 w))
  have HX8:=Hh (fun(w:World) (f:Fr NoM w8 w)=>HX.out w (F78.out.trans f (fun _ _ q=>q)));have HG8:=Hh (fun(w:World) (f:Fr (fun q=>q∈zan NX) w8 w)=>HN8.out.fr f (fun q hq e=>by have h1:=(HXb.out q e).2.1;have h2:=HS7.out;have h3:=HBg.out.1;have h4:bg=q:=Option.some.inj hq;omega));have HPq:=Hh hP;clear hlo f48 HX HN8 HN6;obtain⟨d1,d2,nw8,_⟩:=HK.out w8 (Fr.refl _ _);go_wp2_with fail;refine(HEq.out _ _ w8 (HG8.out w8 (Fr.refl _ _)).nats nw8).mono ?_
  rintro e w10 ⟨rfl,f10⟩;have F10:=Hh f10;clear f10 d1 d2 nw8;obtain⟨d1,dx,nw10,z⟩:=HK.out w10 F10.out.any;clear z nw10;go_upto_region 10 with fail;have K0:Fr NoM w10 w10.drew:=(Fr.refl NoM w10).drew;go_cut [49]from 45 to 49 (fun c W=>c=.bool false/\Fr NoM w10 W)
  case first =>
   go_region_held3 (fun(w:World)=>w.cell? ⟨W.heap.size,0,none⟩=some (.slice va Fi.length vc)/\w.cell? ⟨w6.heap.size,0,none⟩=some (.slice ax Fi.length cx))
    (first|exact⟨(HK.out _ (F10.out.trans (by assumption) (fun _ _ q=>q)).any).1,(HX8.out _ (F10.out.trans (by assumption) (fun _ _ q=>q))).1⟩)
    (first
     | (go_at_call 10;(with_reducible refine(HTo.out _ (HK.out _ (F10.out.trans (by assumption) (fun _ _ q=>q)).any).2.2.2).mono ?_);rintro e wa ⟨va',na',rfl,hna,fa⟩;have ka:Fr NoM w10 wa:=Fr.trans (by assumption) fa (fun _ _ q=>q))
     | (go_at_call 13;(with_reducible refine(HEqI.out _ _ _ _ _ (HX8.out _ (F10.out.trans (by assumption) (fun _ _ q=>q))).2.nodeL hna.nodeL).mono ?_);rintro e wb ⟨rfl,fb⟩;have kb:Fr NoM w10 wb:=Fr.trans (by assumption) fb (fun _ _ q=>q))
     | fail)
   all_goals
    go_wp2_with fail;go_meet
    case rel=>exact⟨rfl,by assumption⟩
  case rest =>
  obtain⟨rfl,fc⟩:=hcut;have F12:=Hh (F10.out.trans fc (fun _ _ q=>q));clear fc K0 d1 dx;have dx:=(HX8.out wc F12.out).1;have HMk:=Hh (zmb w4.heap.size (.slice ax Fi.length cx) Fi NX 1 wc (HX8.out wc F12.out).2 (by have:=HBig.out;omega) (by have:=HBig.out;omega));have hk1:¬(((1+cntI Fi:Nat):Int)<0):=by omega
  obtain⟨m1,hm1'⟩:∃m1,m1=1+cntI Fi:=⟨_,rfl⟩;rw[←hm1']at HMk hk1;clear hm1';go_wp2_with fail;refine HMk.out.mono ?_
  rintro e w13 ⟨rfl,f13⟩;have F13:=Hh (F12.out.any.trans f13 (fun _ _ q=>q));clear f13 dx HMk;have F13P:=Hh (F13.out.mono (M':=P) (fun q _ h=>by rw[HPq.out];exact .inl h));obtain⟨d1,d2,nw,z⟩:=HK.out w13 F13P.out;go_wp2_with fail;refine(HEq.out _ _ w13 (HG8.out w13 F13.out).nats nw).mono ?_
  rintro e w14 ⟨rfl,f14⟩;have F14P:=Hh (F13P.out.trans f14 (fun _ _ q=>q.elim));have HG14:=Hh ((HG8.out w13 F13.out).fr f14 (fun _ _ q=>q));clear f14 d1 d2 nw z;obtain⟨d1,d2,_,_⟩:=HK.out w14 F14P.out;have HMk:=Hh (show Calls Tryz.prog 15 #[.slice (some ⟨bg,0,none⟩) N.length cg,.int .i64 1] w14 fun e w'=>e=.returned (.int .i64 (m:Int))/\Nats w' (.slice (some ⟨bg,0,none⟩) N.length cg) (List.range' 1 N.length)/\(∀q,(Value.slice (some ⟨bg,0,none⟩) N.length cg).ownBlock=some q→RowB w' q)/\Fr (Own1 (.slice (some ⟨bg,0,none⟩) N.length cg)) w14 w' from by
   rw[HMm.out];exact znm _ N 1 w14 HG14.out.nats HG14.out.rowB (by have:=HLen.out;omega))
  go_wp2_with fail;refine HMk.out.mono ?_
  rintro e w15 ⟨rfl,n15,_,f15⟩;have F15P:=Hh (F14P.out.trans f15 (fun q _ h=>by rw[HPq.out];exact .inr (Option.some.inj h).symm));have N15:=Hh n15;clear f15 n15 d1 d2 HMk;go_wp2_with fail;refine(HHd.out _ w15 N15.out).mono ?_
  rintro e w16 ⟨rfl,hw16⟩;subst hw16;obtain⟨d1,d2,_,z⟩:=HK.out w16 F15P.out;go_wp2_with fail;refine(HTo.out w16 z).mono ?_
  rintro e w17 ⟨v17,N17,rfl,n17,f17⟩;have F17P:=Hh (F15P.out.trans f17 (fun _ _ q=>q.elim));have NG17:=Hh (N15.out.fr0 f17);have h17:=HP.out w17 _ v17 n17.nodeL;obtain⟨a17,c17,rfl,z'⟩:=id n17.nodeL;have H17:=Hh h17;clear z z' n17 f17 h17 d1 d2;go_wp2_with fail;refine H17.out.mono ?_
  rintro e w18 ⟨hv,rfl,hS,f18⟩;obtain⟨bh,ch,rfl⟩:=id hS.shape;have F18P:=Hh (F17P.out.trans f18 (fun _ _ q=>q.elim));have NG18:=Hh (NG17.out.fr0 f18);have HS18:=Hh hS.nats;clear hS f18 H17;obtain⟨d1,d2,nw,_⟩:=HK.out w18 F18P.out;go_wp2_with fail;refine(HEq.out _ _ w18 HS18.out nw).mono ?_
  rintro e w20 ⟨rfl,f20⟩;have F20P:=Hh (F18P.out.trans f20 (fun _ _ q=>q.elim));have NG20:=Hh (NG18.out.fr0 f20);clear f20 d1 d2 nw;go_wp2_with fail;refine(HHd.out _ w20 NG20.out).mono ?_
  rintro e w21 ⟨rfl,hw21⟩;subst hw21;obtain⟨_,_,_,z⟩:=HK.out w21 F20P.out;go_wp2;go_ret;exact⟨rfl,F1.out.trans z (fun _ _ q=>q)⟩
end Go.Proofs.YtknniemfpkjnbaaGreatDoor
