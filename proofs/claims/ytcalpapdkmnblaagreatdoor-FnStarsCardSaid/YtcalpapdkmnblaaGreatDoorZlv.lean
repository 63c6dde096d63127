import Derived.Test.YtcalpapdkmnblaaGreatDoorZlu
import Derived.Test.YtcalpapdkmnblaaGreatDoorZlk
/- Lemmas. -/
namespace Go.Proofs.YtcalpapdkmnblaaGreatDoor
set_option linter.unusedVariables false
set_option linter.unusedSimpArgs false
open Go.RowKit
theorem BookS.nv {S:Nat→Prop}{w:World}{bb:Nat}{V:List PL}{BV:List Nat}(h:BookS S w bb V BV):∃v,w.cell? ⟨bb,0,none⟩=some v/\NodeL AnyB encN w v V:=by
 obtain⟨nv,bv,NV,hBA,_⟩:=h;exact⟨nv,by rw[cell_of_row _ _ 0 _ _ _ hBA.blk];rfl,hBA.nodeL⟩
theorem OrdR.node {w:World}{ob bb kb r:Nat}{NL:List PL}{K:List Nat}(h:OrdR w ob bb kb NL K)(hr:r<NL.length):∃(na:Option Addr) (nc b1 o1:Nat) (l r':Value),na=some ⟨b1,o1,none⟩/\(∀W,Fr (fun q=>q=kb) w W→W.cell? ⟨bb,0,none⟩=some (.slice na NL.length nc)/\W.cell? ⟨b1,o1+r*2,none⟩=some l/\W.cell? ⟨b1,o1+r*2+1,none⟩=some r') ∧
  (∀W,Fr (fun q=>q=kb) w W→Nats W l (za5 NL r).1/\Nats W r' (za5 NL r).2)/\((za5 NL r).1≠[]→∀q,l.ownBlock=some q→q≠kb)/\((za5 NL r).2≠[]→∀q,r'.ownBlock=some q→q≠kb):=by
 obtain⟨bv,hbv,hNb⟩:=h.nv;obtain⟨na,nc,rfl,_,_,hnn⟩:=hNb;obtain⟨b1,o1,l,r',hna,hb1,c1,c2,s1,s2,q1,q2⟩:=hnn _ _ (za6 hr);exact⟨na,nc,b1,o1,l,r',hna,fun W f=>⟨f.cell hbv h.n2,f.cell c1 hb1,f.cell c2 hb1⟩,fun W f=>⟨s1.fr f q1,s2.fr f q2⟩,q1,q2⟩
theorem zv6 {V:List PL}{BV:List Nat}{L R:List Nat}(hL:L.Pairwise (· < ·))(hR:R.Pairwise (· < ·)):za5 (za4 V BV L R).1 (za4 V BV L R).2.2=(L,R):=by
 have e1:zaa L=L:=zft (zcv L) hL (zax L);have e2:zaa R=R:=zft (zcv R) hR (zax R);unfold za4 za5;rw[e1,e2];split
 ·rename_i h
  rw[List.getD_eq_getElem?_getD,List.getElem?_eq_getElem (List.idxOf_lt_length_of_mem h),List.getElem_idxOf];rfl
 ·simp
def zxh (S:Nat→Prop)(bb:Nat)(V:List PL)(c:Nat)(w:World)(e:Ending)(w':World):Prop :=
 ∃(i:Nat) (V':List PL) (BV':List Nat) (S':Nat→Prop),e=.returned (.int .i64 (i:Int))/\BookS S' w' bb V' BV'∧PoolOK V' BV'∧(∀q,S' q→(S q∨w.heap.size≤q)/\q<w'.heap.size)/\Fr S w w'∧V <+: V'∧V'.length≤V.length+3/\i<V'.length/\IsCan ((za0 V').getD i 0) c
set_option maxRecDepth 8000 in
set_option maxHeartbeats 16000000 in
theorem zs5 {S:Nat→Prop}(bb:Nat)(lv rv:Value)(V:List PL)(BV L R cs ds:List Nat)(w:World)(hB:BookS S w bb V BV)(hOK:PoolOK V BV)(hSl:∀q,S q→q<w.heap.size)(hL:Nats w lv L)(hR:Nats w rv R)(cL:RowC V L cs)(cR:RowC V R ds)(kL:∀c∈cs,CanC c)(kR:∀c∈ds,CanC c)
  (hn:V.length<900) (ll:L.length<1000000) (lr:R.length<1000000) :
  Calls Tryz.prog 159 #[.pointer (some ⟨bb,0,none⟩),lv,rv] w fun e w'=>zxh S bb V (mkC cs ds) w e w':=by
 have hput:=zgv bb lv rv V BV L R w hB hL hR (fun j x hx=>cL.1 x (List.mem_of_getElem? hx)) (fun j x hx=>cR.1 x (List.mem_of_getElem? hx)) (by omega) (by omega) (by omega) (fun x hx=>by have:=(zfr hOK).lt V.length (Nat.le_refl _) x hx;omega);rw[zch hOK]at hput;obtain⟨ok1,pre1,lt1,cd1⟩:=zeg hOK cL cR;have len1:=(zcn V BV L R).2.1;have hbm:=hB.m;obtain⟨V1,hV1⟩:∃V1,V1=(za4 V BV L R).1:=⟨_,rfl⟩;obtain⟨B1,hB1⟩:∃B1,B1=(za4 V BV L R).2.1:=⟨_,rfl⟩;obtain⟨r1,hr1⟩:∃r1,r1=(za4 V BV L R).2.2:=⟨_,rfl⟩;rw[←hV1,←hB1,←hr1]at hput;rw[←hV1,←hB1]at ok1;rw[←hV1]at pre1 len1;rw[←hV1,←hr1]at lt1 cd1;have HPut:=Hh hput;have Ok1:=Hh ok1;have Pre1:=Hh pre1;have Lt1:=Hh lt1;have Cd1:=Hh cd1;have Len1:=Hh (show V1.length≤901/\V1.length≤V.length+1 from⟨by omega,len1⟩);have HVn:=Hh hn;have HBm:=Hh hbm;have HSl:=Hh hSl;have KL:=Hh kL;have KR:=Hh kR;clear hput ok1 pre1 lt1 cd1 len1 hbm hSl hB hOK hL hR cL cR kL kR hn ll lr hV1 hB1 hr1;go_enter Tryz.func159,Tryz.ntmps159;go_wp2_with fail;(with_reducible refine HPut.out.mono ?_);rintro e w1 ⟨rfl,p1,pf1⟩;obtain⟨v1,hv1,hn1⟩:=p1.nv;have HO1:=Hh (zpz bb v1 V1 w1 hv1 hn1 (by have:=Len1.out.1;omega));have P1:=Hh p1.cut;have F1:=Hh (pf1.mono (fun q _ h=>HBm.out q h):Fr S w w1);clear hv1 hn1 p1 pf1 HPut;go_wp2_with fail;(with_reducible refine HO1.out.mono ?_);rintro e w2 ⟨ob,kb,rfl,hob,hkb,hO,f2⟩;have hkb2:kb<w2.heap.size:=(Array.getElem?_eq_some_iff.1 hO.row).1;obtain⟨na,nc,b1,o1,xl,xr,hna,hcell,hrow,_,_⟩:=hO.node Lt1.out;have ix:=zbc na V1.length nc r1 b1 o1 Lt1.out hna;have o0:=hO.o0;have hoc:=zbb Ok1.out.book Lt1.out;rw[Cd1.out]at hoc;have hcl:∀l∈(za5 V1 r1).1,CanC ((za0 V1).getD l 0):=fun l hl=>KL.out _ ((zau _ _ _).1 ((hoc.1 _).2 ⟨l,hl,rfl⟩))
 have hcr:∀l∈(za5 V1 r1).2,CanC ((za0 V1).getD l 0):=fun l hl=>KR.out _ ((zas _ _ _).1 ((hoc.2 _).2 ⟨l,hl,rfl⟩))
 have hup:=Ok1.out.up _ _ (za6 Lt1.out);have h2:=hrow w2 (Fr.refl _ _);obtain⟨la,lc,rfl,zz⟩:=id h2.1;clear zz;obtain⟨ra,rc,rfl,zz⟩:=id h2.2;clear zz;have HOL:=Hh (fun(W:World) (f:Fr NoM w2 W)=>zoq Ok1.out.book ob bb kb r1 (by have:=Len1.out.1;omega) Lt1.out _ _ _ W (hO.fr0 f) (KOK.start _ _ _ _) (hrow W f.any).1 (QL.node Ok1.out Lt1.out hcl) (zcu hup.1));have HOR:=Hh (fun(W:World) (K:List Nat) (f:Fr (fun q=>q=kb) w2 W) (hO:OrdR W ob bb kb V1 K) (hK:KOK (za0 V1) V1.length (2*V1.length) K)=>zop Ok1.out.book ob bb kb r1 (by have:=Len1.out.1;omega) Lt1.out _ _ _ W hO hK (hrow W f).2 (QR.node Ok1.out Lt1.out hcr) (zcu hup.2));have HCell:=Hh hcell;have HKb:=Hh hkb;have HKb2:=Hh hkb2;have F2:=Hh f2;have HB2:=Hh (fun(W:World) (f:Fr (fun q=>q=kb) w2 W)=>(P1.out.fr0 f2).fr f (fun q hq e=>by have:=hq.2;omega));have HP2:=Hh (fun(W:World) (f:Fr (fun q=>q=kb) w2 W) (v3 v4:Value) (A D:List Nat) (nA:Nats W v3 A) (nD:Nats W v4 D) (tA:∀x∈A,x<V1.length) (tD:∀x∈D,x<V1.length) (uA:A.Pairwise (· < ·)) (uD:D.Pairwise (· < ·))=>(by
  have hl:=Len1.out.1;have h:=zgv bb v3 v4 V1 B1 A D W (HB2.out W f) nA nD (fun j x hx=>tA x (List.mem_of_getElem? hx)) (fun j x hx=>tD x (List.mem_of_getElem? hx)) (by have:=zb7 (zcu uA) tA;omega) (by have:=zb7 (zcu uD) tD;omega) (by omega) (fun x hx=>by have:=(zfr Ok1.out).lt V1.length (Nat.le_refl _) x hx;omega);rw[zch Ok1.out]at h;exact h:Calls Tryz.prog 166 #[.pointer (some ⟨bb,0,none⟩),v3,v4] W fun e w'=>e=.returned (.int .i64 ((za4 V1 B1 A D).2.2:Nat))/\BookS (fun k=>((S k∨w.heap.size≤k)/\k<w1.heap.size)∨W.heap.size≤k) w' bb (za4 V1 B1 A D).1 (za4 V1 B1 A D).2.1/\Fr (zcf W bb) W w'))
 have hx:=hcell w2 (Fr.refl _ _);clear hO hob hkb hkb2 hcell hrow hoc hcl hcr hup h2 f2 HO1 hna;go_upto_region 3 with fail;go_cut [7]from 16 to 39 (fun x W=>∃(r2:Nat) (V2:List PL) (B2:List Nat) (S2:Nat→Prop) (A2 D2:List Nat),x=.int .i64 (r2:Int)/\BookS S2 W bb V2 B2/\PoolOK V2 B2/\(∀q,S2 q→(S q∨w.heap.size≤q)/\q<W.heap.size)/\Fr S w W/\V <+: V2/\V2.length≤V.length+2/\r2<V2.length/\za5 V2 r2=(A2,D2)/\RedL (mkC cs ds) (za3 (za0 V2) (zac A2 (domB (gL (za0 V2)) A2)))/\RedR (mkC cs ds) (za3 (za0 V2) (zac D2 (domB (gR (za0 V2)) D2))))
 case first =>
  have F0:Fr NoM w2 w2.drew:=(Fr.refl NoM w2).drew;have G0:Fr (fun q=>q=kb) w2 w2.drew:=F0.any;obtain⟨j0,j1,j2⟩:=HCell.out _ G0;go_region_law (first
   | (go_simp;first
    | (go_at_call 209;(with_reducible refine(HOL.out _ (by assumption)).mono ?_);rintro e w8 ⟨v8,A2,K8,rfl,n8,s8,up8,lt8,q8,oo8,k8,ff8⟩;have G8:Fr (fun q=>q=kb) w2 w8:=G0.trans ff8 (fun _ _ q=>q);obtain⟨j3,j4,j5⟩:=HCell.out _ G8)
    | (go_at_call 209;(with_reducible refine(HOR.out w8 K8 G8 oo8 k8).mono ?_);rintro e w9 ⟨v9,D2,K9,rfl,n9,s9,up9,lt9,q9,oo9,k9,ff9⟩;have G9:Fr (fun q=>q=kb) w2 w9:=G8.trans ff9 (fun _ _ q=>q))
    | (go_at_call 166;have N8:Nats w9 v8 A2:=n8.fr ff9 (fun _ q hq e=>by { have h1:=(s8 q hq).1;have h2:=HKb2.out;rw[World.size_drew]at h1;omega });(with_reducible refine(HP2.out w9 G9 v8 v9 A2 D2 N8 n9 lt8 lt9 up8 up9).mono ?_);rintro e w12 ⟨rfl,p12,pf12⟩)
    | fail)
   | fail)
  all_goals
   obtain⟨ok3,pre3,lt3,cd3⟩:=zeg Ok1.out (L:=A2) (R:=D2) ⟨lt8,rfl⟩ ⟨lt9,rfl⟩;have ln3:=(zcn V1 B1 A2 D2).2.1;have nd3:=zv6 (V:=V1) (BV:=B1) up8 up9;obtain⟨S8,q8⟩:=q8;obtain⟨S9,q9⟩:=q9;have rd1:=(QL.mono Ok1.out.book q8 pre3).done ok3.book;have rd2:=(QR.mono Ok1.out.book q9 pre3).done ok3.book;rw[Cd1.out]at rd1 rd2;have hm:=(HB2.out w9 G9).m;have hsz1:=F1.out.size;have hsz2:=F2.out.size;have hsz9:=G9.size;have hkb:=HKb.out;have fr12:Fr S w w12:=((F1.out.trans F2.out (fun _ _ q=>q.elim)).trans G9 (fun q hq e=>by omega)).trans pf12 (fun q hq e=>((hm q e).1).elim id (fun z=>by omega));have HE:=Hh (show ∃(r2:Nat) (V2:List PL) (B2:List Nat) (S2:Nat→Prop) (A4 D4:List Nat),((za4 V1 B1 A2 D2).2.2:Int)=(r2:Int)/\BookS S2 w12 bb V2 B2/\PoolOK V2 B2/\(∀q,S2 q→(S q∨w.heap.size≤q)/\q<w12.heap.size)/\Fr S w w12/\V <+: V2/\V2.length≤V.length+2/\r2<V2.length/\za5 V2 r2=(A4,D4)/\RedL (mkC cs ds) (za3 (za0 V2) (zac A4 (domB (gL (za0 V2)) A4)))/\RedR (mkC cs ds) (za3 (za0 V2) (zac D4 (domB (gR (za0 V2)) D4)))from
    ⟨_,_,_,_,A2,D2,rfl,p12.cut,ok3,fun q hq=>⟨hq.1.elim (fun z=>z.1) (fun z=>.inr (by omega)),hq.2⟩,fr12,Pre1.out.trans pre3,by have:=Len1.out.2;omega,lt3,nd3,rd1,rd2⟩)
   clear hm hsz1 hsz2 hsz9 hkb fr12 p12 pf12 n8 s8 oo8 k8 ff8 n9 s9 oo9 k9 ff9 N8 ok3 pre3 lt3 cd3 ln3 nd3 q8 q9 rd1 rd2;go_wp2_with fail;go_meet
   case rel =>
    obtain⟨r2,V2,B2,S2,A4,D4,e1,hrest⟩:=HE.out;exact⟨r2,V2,B2,S2,A4,D4,by rw[e1],hrest⟩
 case rest =>
  obtain⟨r2,V2,B2,S2,A2,D2,rfl,p5,ok2,sb2,fr2,pre2,len2,lt2,nd2,rd1,rd2⟩:=hcut;obtain⟨w5,rfl⟩:∃w7,w7=wc:=⟨_,rfl⟩;obtain⟨v5,hv5,hn5⟩:=p5.nv;have HO5:=Hh (zpz bb v5 V2 w5 hv5 hn5 (by have:=HVn.out;omega));have P5:=Hh p5;have Ok2:=Hh ok2;have Sb2:=Hh sb2;have Fr2:=Hh fr2;have Pre2:=Hh pre2;have Len2:=Hh len2;have Lt2:=Hh lt2;have Nd2:=Hh nd2;have Rd1:=Hh rd1;have Rd2:=Hh rd2;have HV2:=Hh (show V2.length<1000 from by have:=HVn.out;omega);clear hv5 hn5 p5 ok2 sb2 fr2 pre2 len2 lt2 nd2 rd1 rd2 HOL HOR HP2 hx o0 ix;go_wp2_with fail;(with_reducible refine HO5.out.mono ?_);rintro e w6 ⟨oc,kc,rfl,hoc,hkc,hO,f6⟩;have hkc6:kc<w6.heap.size:=(Array.getElem?_eq_some_iff.1 hO.row).1;obtain⟨na2,nc2,b2,o2,xl,xr,hna2,hcell2,hrow2,hq1,hq2⟩:=hO.node Lt2.out;rw[Nd2.out]at hrow2 hq1 hq2;dsimp only at hrow2 hq1 hq2
  have ix2:=zbc na2 V2.length nc2 r2 b2 o2 Lt2.out hna2;have h2:=hrow2 w6 (Fr.refl _ _);obtain⟨la2,lc2,rfl,zz⟩:=id h2.1;clear zz;obtain⟨ra2,rc2,rfl,zz⟩:=id h2.2;clear zz;have hup:=Ok2.out.up _ _ (za6 Lt2.out);have hop:=Ok2.out.opts _ _ (za6 Lt2.out);rw[Nd2.out]at hup hop;dsimp only at hup hop
  have hA:∀x∈A2,x<V2.length:=fun x hx=>by have:=hop.1 x hx;have:=Lt2.out;omega
  have hD:∀x∈D2,x<V2.length:=fun x hx=>by have:=hop.2 x hx;have:=Lt2.out;omega
  have hAl:=zb7 (zcu hup.1) hA;have hDl:=zb7 (zcu hup.2) hD;obtain⟨y0,y1,y2⟩:=hcell2 w6 (Fr.refl _ _);obtain⟨w7,hw7⟩:∃w7,w7=w6.alloc (.cells #[.slice la2 A2.length lc2,.slice ra2 D2.length rc2] 110):=⟨_,rfl⟩;have f7:Fr NoM w6 w7:=by rw[hw7];exact(Fr.refl NoM w6).alloc _
  have e7:w7.heap[w6.heap.size]?=some (.cells #[.slice la2 A2.length lc2,.slice ra2 D2.length rc2] 110 (0,0)):=by rw[hw7];exact heap_alloc_new w6 _
  have HX:=Hh (fun(W:World) (f:Fr (fun q=>q=kc) w7 W)=>(by
   have h:=f.heap e7 (fun e=>by omega);exact⟨by rw[cell_of_row _ _ 0 _ _ _ h];rfl,by rw[cell_of_row _ _ 1 _ _ _ h];rfl⟩:W.cell? ⟨w6.heap.size,0,none⟩=some (.slice la2 A2.length lc2)/\W.cell? ⟨w6.heap.size,1,none⟩=some (.slice ra2 D2.length rc2)))
  have HRw:=Hh (fun(W:World) (f:Fr (fun q=>q=kc) w7 W)=>hrow2 W (f7.any.trans f (fun _ _ q=>q)));have HB7:=Hh (fun(W:World) (f:Fr (fun q=>q=kc) w7 W)=>((P5.out.fr0 f6).fr0 f7).fr f (fun q hq e=>by have:=(Sb2.out q hq).2;omega));have HO7:=Hh (fun(W:World) (f:Fr NoM w7 W)=>(hO.fr0 f7).fr0 f);have HDL:=Hh (fun(W:World) (f:Fr NoM w7 W)=>zs7 Ok2.out.book oc bb kc HV2.out (.slice la2 A2.length lc2) A2 (List.replicate (V2.length*V2.length) 0) W ((hO.fr0 f7).fr0 f) (KOK.start _ _ _ _) (hrow2 W (f7.any.trans f.any (fun _ _ q=>q))).1 hq1 hA (by have:=HV2.out;omega));have HDR:=Hh (fun(W:World) (K:List Nat) (hO:OrdR W oc bb kc V2 K) (hK:KOK (za0 V2) V2.length (2*V2.length) K) (f:Fr (fun q=>q=kc) w7 W)=>zs6 Ok2.out.book oc bb kc HV2.out (.slice ra2 D2.length rc2) D2 K W hO hK (hrow2 W (f7.any.trans f (fun _ _ q=>q))).2 hq2 hD (by have:=HV2.out;omega));obtain⟨A3,hA3⟩:∃A3,A3=zac A2 (domB (gL (za0 V2)) A2):=⟨_,rfl⟩;obtain⟨D3,hD3⟩:∃D3,D3=zac D2 (domB (gR (za0 V2)) D2):=⟨_,rfl⟩;have tA:∀x∈A3,x<V2.length:=fun x hx=>by rw[hA3]at hx;exact hA x (zbq hx)
  have tD:∀x∈D3,x<V2.length:=fun x hx=>by rw[hD3]at hx;exact hD x (zbq hx)
  have hA3l:A3.length<1000:=by have h1:=zcc A2 (domB (gL (za0 V2)) A2);rw[←hA3]at h1;have:=HV2.out;omega
  have hD3l:D3.length<1000:=by have h1:=zcc D2 (domB (gR (za0 V2)) D2);rw[←hD3]at h1;have:=HV2.out;omega
  obtain⟨ok3,pre3,lt3,cd3⟩:=zeg Ok2.out (L:=A3) (R:=D3) ⟨tA,rfl⟩ ⟨tD,rfl⟩;have ln3:=(zcn V2 B2 A3 D3).2.1;have hcan:=zt3 Rd1.out Rd2.out;rw[←hA3,←hD3,←cd3]at hcan;have hP3:=(fun(W:World) (f:Fr (fun q=>q=kc) w7 W) (v3 v4:Value) (nA:Nats W v3 A3) (nD:Nats W v4 D3)=>(by
   have hl:=HV2.out;have h:=zgv bb v3 v4 V2 B2 A3 D3 W (HB7.out W f) nA nD (fun j x hx=>tA x (List.mem_of_getElem? hx)) (fun j x hx=>tD x (List.mem_of_getElem? hx)) (by omega) (by omega) (by omega) (fun x hx=>by have:=(zfr Ok2.out).lt V2.length (Nat.le_refl _) x hx;omega);rw[zch Ok2.out]at h;exact h:Calls Tryz.prog 166 #[.pointer (some ⟨bb,0,none⟩),v3,v4] W fun e w'=>e=.returned (.int .i64 ((za4 V2 B2 A3 D3).2.2:Nat))/\BookS (fun k=>S2 k∨W.heap.size≤k) w' bb (za4 V2 B2 A3 D3).1 (za4 V2 B2 A3 D3).2.1/\Fr (zcf W bb) W w'))
  obtain⟨V3,hV3⟩:∃V3,V3=(za4 V2 B2 A3 D3).1:=⟨_,rfl⟩;obtain⟨B3,hB3⟩:∃B3,B3=(za4 V2 B2 A3 D3).2.1:=⟨_,rfl⟩;obtain⟨r3,hr3⟩:∃r3,r3=(za4 V2 B2 A3 D3).2.2:=⟨_,rfl⟩;rw[←hV3,←hB3,←hr3]at hP3;rw[←hV3,←hB3]at ok3;rw[←hV3,←hr3]at lt3 hcan;rw[←hV3]at pre3 ln3;have HP3:=Hh hP3;have HA3:=Hh hA3;have HD3:=Hh hD3;have HF:=Hh (And.intro ok3 (And.intro (Pre2.out.trans pre3) (And.intro (show V3.length≤V.length+3 from by have:=Len2.out;omega) (And.intro lt3 hcan))));clear hP3 tA tD ok3 pre3 lt3 cd3 ln3 hcan hV3 hB3 hr3 hA3 hD3 hA3l hD3l;have HA:=Hh hA;have HD:=Hh hD;have HAl:=Hh hAl;have HDl:=Hh hDl;have HKc:=Hh hkc;have HKc6:=Hh hkc6;have F6:=Hh f6;have F7:=Hh f7;clear hO hoc hkc hkc6 hcell2 hrow2 hq1 hq2 h2 hup hop hA hD hAl hDl e7 f6 f7 hna2 HO5;go_upto_region 6 with fail;rw[←hw7];clear hw7 y0 y1 y2 ix2;go_cut [6]from 49 to 64 (fun x W=>x=.int .i64 (r3:Int)/\∃(S3:Nat→Prop),BookS S3 W bb V3 B3/\(∀q,S3 q→(S q∨w.heap.size≤q)/\q<W.heap.size)/\Fr S w W)
  case first =>
   have F0:Fr NoM w7 w7.drew:=(Fr.refl NoM w7).drew;have G0:Fr (fun q=>q=kc) w7 w7.drew:=F0.any;obtain⟨j0,j1⟩:=HX.out _ G0;go_region_law (first
    | (go_simp;first
     | (go_at_call 211;(with_reducible refine(HDL.out _ (by assumption)).mono ?_);rintro e w8 ⟨v8,K8,rfl,n8,s8,oo8,k8,ff8⟩;have G8:Fr (fun q=>q=kc) w7 w8:=G0.trans ff8 (fun _ _ q=>q);obtain⟨j3,j4⟩:=HX.out _ G8)
     | (go_at_call 210;(with_reducible refine(zgd (.slice la2 A2.length lc2) v8 A2 (domB (gL (za0 V2)) A2) w8 (HRw.out w8 G8).1 n8 (by have:=HAl.out;have:=HV2.out;omega)).mono ?_);rintro e w9 ⟨v9,rfl,o9,ff9⟩;rw[←HA3.out]at o9;have G9:Fr (fun q=>q=kc) w7 w9:=G8.trans ff9 (fun _ _ q=>q.elim);obtain⟨j5,j6⟩:=HX.out _ G9;have oo9:=oo8.fr0 ff9)
     | (go_at_call 211;(with_reducible refine(HDR.out w9 K8 oo9 k8 G9).mono ?_);rintro e w10 ⟨v10,K10,rfl,n10,s10,oo10,k10,ff10⟩;have G10:Fr (fun q=>q=kc) w7 w10:=G9.trans ff10 (fun _ _ q=>q);obtain⟨j7,j8⟩:=HX.out _ G10)
     | (go_at_call 210;(with_reducible refine(zgd (.slice ra2 D2.length rc2) v10 D2 (domB (gR (za0 V2)) D2) w10 (HRw.out w10 G10).2 n10 (by have:=HDl.out;have:=HV2.out;omega)).mono ?_);rintro e w11 ⟨v11,rfl,o11,ff11⟩;rw[←HD3.out]at o11;have G11:Fr (fun q=>q=kc) w7 w11:=G10.trans ff11 (fun _ _ q=>q.elim))
     | (go_at_call 166;have N9:Nats w9 v9 A3:=SliceOf.of_owns o9 rfl;have N11:Nats w11 v11 D3:=SliceOf.of_owns o11 rfl;have N9':Nats w11 v9 A3:=(N9.fr ff10 (fun _ q hq e=>by { have h1:=(o9.lt q hq).1;have h2:=HKc6.out;have h3:=F7.out.size;have h4:=G8.size;omega })).fr0 ff11;(with_reducible refine(HP3.out w11 G11 v9 v11 N9' N11).mono ?_);rintro e w12 ⟨rfl,p12,pf12⟩)
     | fail)
    | fail)
   all_goals
    have hm:=(HB7.out w11 G11).m;have hsz5:=Fr2.out.size;have hsz6:=F6.out.size;have hsz7:=F7.out.size;have hsz11:=G11.size;have hkc:=HKc.out;have fr12:Fr S w w12:=(((Fr2.out.trans F6.out (fun _ _ q=>q.elim)).trans F7.out (fun _ _ q=>q.elim)).trans G11 (fun q hq e=>by omega)).trans pf12 (fun q hq e=>(Sb2.out q (hm q e)).1.elim id (fun z=>by omega));have HE:=Hh (show ∃(S3:Nat→Prop),BookS S3 w12 bb V3 B3/\(∀q,S3 q→(S q∨w.heap.size≤q)/\q<w12.heap.size)/\Fr S w w12 from
     ⟨_,p12.cut,fun q hq=>⟨hq.1.elim (fun z=>(Sb2.out q z).1) (fun z=>.inr (by omega)),hq.2⟩,fr12⟩)
    clear hm hsz5 hsz6 hsz7 hsz11 hkc fr12 p12 pf12 n8 s8 oo8 k8 ff8 o9 ff9 oo9 n10 s10 oo10 k10 ff10 o11 ff11 N9 N11 N9';go_wp2_with fail;go_meet
    case rel=>exact⟨rfl,HE.out⟩
  case rest =>
   obtain⟨rfl,S3,h1,h2,h3⟩:=hcut;have HE:=Hh (And.intro h1 (And.intro h2 h3));clear h1 h2 h3;go_wp2_with fail;go_ret;exact⟨r3,V3,B3,S3,rfl,HE.out.1,HF.out.1,HE.out.2.1,HE.out.2.2,HF.out.2.1,HF.out.2.2.1,HF.out.2.2.2.1,HF.out.2.2.2.2⟩
theorem zxu {CF A L:List Nat}{i:Nat}(hL:∀x∈L,x<i)(hi:i≤CF.length):za3 ((CF.map canC).take i) L=(za3 CF L).map canC:=by
 unfold za3;rw[List.map_map];refine List.map_congr_left fun x hx=>?_
 have hl:=hL x hx;simp[List.getD_eq_getElem?_getD,List.getElem?_take,hl,List.getElem?_map,List.getElem?_eq_getElem (show x<CF.length by omega)]
theorem zyk {CF L R:List Nat}{c a i:Nat}(hc:∀j,j<i→IsCan (canC (CF.getD j 0)) (CF.getD j 0))(hL:∀x∈L,x<i)(hR:∀x∈R,x<i)(ha:a=mkC (za3 CF L) (za3 CF R))(h:IsCan c (mkC ((za3 CF L).map canC) ((za3 CF R).map canC))):IsCan c a:=by
 have key:∀(L:List Nat),(∀x∈L,x<i)→∀(j c l:Nat),((za3 CF L).map canC)[j]?=some c→(za3 CF L)[j]?=some l→IsCan c l:=fun L hL j c l h1 h2=>by
  rw[List.getElem?_map,h2]at h1;obtain rfl:canC l=c:=Option.some.inj h1;obtain⟨x,hx,rfl⟩:=za7.1 (List.mem_of_getElem? h2);exact hc x (hL x hx)
 obtain⟨h1,h2⟩:=zx8 (L:=za3 CF L) (R:=za3 CF R) ((za3 CF L).map canC) ((za3 CF R).map canC) (by simp) (by simp) (key L hL) (key R hR);rw[ha];exact h.step h1 h2
theorem zrk {CF L:List Nat}{i:Nat}(hc:∀j,j<i→IsCan (canC (CF.getD j 0)) (CF.getD j 0))(hL:∀x∈L,x<i):∀c∈(za3 CF L).map canC,CanC c:=fun c h=>by
 obtain⟨a,ha,rfl⟩:=List.mem_map.1 h;obtain⟨x,hx,rfl⟩:=za7.1 ha;exact(hc x (hL x hx)).1
theorem BkSt.grow {w1 W W':World}{bb:Nat}{V V':List PL}{BV BV':List Nat}{S S':Nat→Prop}{v1 v2 v3:Value}{A1 c1 A2 c2 A3 c3:List Nat}(h:BkSt w1 W bb V BV S v1 A1 c1 v2 A2 c2 v3 A3 c3)(hb:BookS S' W' bb V' BV')(ok:PoolOK V' BV')(hS:∀q,S' q→(S q∨W.heap.size≤q)/\q<W'.heap.size)(hf:Fr S W W')(hp:V <+: V') :
  BkSt w1 W' bb V' BV' S' v1 A1 c1 v2 A2 c2 v3 A3 c3:=by
 have hsz:=h.fr.size;exact⟨hb,ok,fun q hq=>⟨(hS q hq).1.elim (fun e=>(h.sub q e).1) (fun e=>by omega),(hS q hq).2⟩,za2 h.o1 hf (fun b e z=>h.n1 b e z),za2 h.o2 hf (fun b e z=>h.n2 b e z),za2 h.o3 hf (fun b e z=>h.n3 b e z),
  fun b e z=>(hS b z).1.elim (h.n1 b e) (fun k=>by have:=(h.o1.lt b e).2;omega),fun b e z=>(hS b z).1.elim (h.n2 b e) (fun k=>by have:=(h.o2.lt b e).2;omega),fun b e z=>(hS b z).1.elim (h.n3 b e) (fun k=>by have:=(h.o3.lt b e).2;omega),
  h.s12,h.s13,h.s23,h.r1.mono hp,h.r2.mono hp,h.r3.mono hp,h.fr.trans hf (fun q hq z=>by have:=(h.sub q z).1;omega)⟩
set_option maxRecDepth 8000 in
set_option maxHeartbeats 16000000 in
theorem zor {R:Nat→Prop}(v1:Value)(Fs:List PL)(w:World)(h1:NodeL R encN w v1 Fs)(oF:OptsOK Fs)(lF:∀y∈Fs,y.1.length≤24/\y.2.length≤24)(pF:0<Fs.length)(hFl:Fs.length≤120) :
  Calls Tryz.prog 94 #[.agg #[v1]] w fun e w'=>∃v',e=.returned (.agg #[v'])/\NodeL (fun b=>w.heap.size≤b) encN w' v' (zb9 (canC (zak Fs)))/\Fr NoM w w':=by
 obtain⟨w3,hw3⟩:∃w3,w3=(w.alloc (.cells #[v1] 26)).alloc (.cells #[.slice none 0 0] 26):=⟨_,rfl⟩;have f3:Fr NoM w w3:=by rw[hw3];exact((Fr.refl NoM w).alloc _).alloc _
 have hs3:w3.heap.size=w.heap.size+2:=by rw[hw3];simp
 have e0:w3.heap[w.heap.size]?=some (.cells #[v1] 26 (0,0)):=by rw[hw3];exact((Fr.refl NoM _).alloc _).heap (heap_alloc_new w _) (fun q=>q)
 have e2:w3.heap[w.heap.size+1]?=some (.cells #[.slice none 0 0] 26 (0,0)):=by
  have h:=heap_alloc_new (w.alloc (.cells #[v1] 26)) (.cells #[.slice none 0 0] 26);rw[World.size_alloc]at h;rw[hw3];exact h
 obtain⟨bb,hbb⟩:∃bb,bb=w.heap.size+1+1:=⟨_,rfl⟩;obtain⟨q0,hq0⟩:∃q0,q0=Value.slice (some ⟨w.heap.size+1+1+1,0,none⟩) 0 0:=⟨_,rfl⟩;obtain⟨w4,hw4⟩:∃w4,w4=w3.alloc (.cells #[.slice none 0 0,.slice none 0 0] 163):=⟨_,rfl⟩;have f4:Fr NoM w3 w4:=by rw[hw4];exact(Fr.refl NoM w3).alloc _
 have hs4:w4.heap.size=w.heap.size+3:=by rw[hw4];simp[hs3]
 have e4:w4.heap[bb]?=some (.cells #[.slice none 0 0,.slice none 0 0] 163 (0,0)):=by rw[hw4,hbb,show w.heap.size+1+1=w3.heap.size from by omega];exact heap_alloc_new w3 _
 obtain⟨w5,hw5⟩:∃w5,w5=w4.alloc (.cells #[] 3):=⟨_,rfl⟩;have f5:Fr NoM w4 w5:=by rw[hw5];exact(Fr.refl NoM w4).alloc _
 have hs5:w5.heap.size=w.heap.size+4:=by rw[hw5];simp[hs4]
 have m5:w5.ownsRow (w.heap.size+3) 3 1 (.slice (some ⟨w.heap.size+3,0,none⟩) 0 0) 0 []:=by
  have h:(w4.alloc (.cells #[] 3)).ownsRow w4.heap.size 3 1 (.slice (some ⟨w4.heap.size,0,none⟩) 0 0) 0 []:=World.ownsRow_made w4 #[] 0 (Nat.le_refl _) (by decide) (by simp);rw[hs4,←hw5]at h;exact h
 obtain⟨nF,hnF⟩:∃nF,nF=Fs.length:=⟨_,rfl⟩;obtain⟨Tb,hTb⟩:∃Tb,Tb=(za0 Fs).map canC:=⟨_,rfl⟩;have hst:BkSt w3 w5 bb [] [] (fun q=>q=bb) q0 [] (Tb.take 0) (.slice none 0 0) [] [] (.slice none 0 0) [] [] :=
  ⟨(BookS.made e4).fr0 f5,PoolOK.nil,fun q hq=>⟨by rw[hq];omega,by rw[hq];omega⟩,(by rw[hq0];exact zar m5 (by omega)),World.ownsRow_nil _ _ _ _,World.ownsRow_nil _ _ _ _,fun b e hq=>by
   rw[hq0]at e;have e:w.heap.size+3=b:=Option.some.inj e;omega,(fun b hb=>by cases hb),(fun b hb=>by cases hb),(fun b _ hb=>by cases hb),(fun b _ hb=>by cases hb),(fun b hb=>by cases hb),RowC.nil _,RowC.nil _,RowC.nil _,f4.trans f5 (fun _ _ q=>q)⟩
 have H1:=Hh (h1.fr0 f3);obtain⟨na1,nc1,rfl,z⟩:=id h1;clear z;have HK:=Hh (fun(W:World) (f:Fr NoM w3 W)=>show W.cell? ⟨w.heap.size,0,none⟩=some (.slice na1 Fs.length nc1)/\W.cell? ⟨w.heap.size+1,0,none⟩=some (.slice none 0 0)/\W.frozen? ⟨w.heap.size+1,0,none⟩=false from by
  have k0:=f.heap e0 (fun q=>q);have k2:=f.heap e2 (fun q=>q);exact⟨by rw[cell_of_row W _ 0 _ _ _ k0];rfl,by rw[cell_of_row W _ 0 _ _ _ k2];rfl,by simp[World.frozen?,k2]⟩)
 rw[←hnF]at HK;have HSt:=Hh hst;have HF3:=Hh f3;have HS3:=Hh hs3;have OF:=Hh oF;have LF:=Hh lF;have PF:=Hh pF;have HnF:=Hh hnF;have HTb:=Hh hTb;have HNb:=Hh (show nF≤120 from by omega);rw[←hnF]at hw3 ⊢;clear h1 oF lF pF hFl hst hs3 e0 e2 e4 f3 f4 f5 m5 hnF hTb;obtain⟨k0,k2,k3⟩:=HK.out w5 HSt.out.fr;go_enter Tryz.func94,Tryz.ntmps94;go_upto_region 3 with fail;rw[←hw3,←hw4,←hw5,←hq0,←hbb];clear hw3 hw4 hw5 hbb hq0 hs4 hs5;go_wp2_with fail;clear k0 k2 k3;go_loopw [4,5] (fun v7 t W=>∃(i:Nat) (va:Value) (V:List PL) (BV:List Nat) (S:Nat→Prop) (A:List Nat),va=v7/\t=.int .i64 i/\i≤nF/\BkSt w3 W bb V BV S va A (Tb.take i) (.slice none 0 0) [] [] (.slice none 0 0) [] []/\V.length≤3*i/\∀j,j<i→IsCan (canC ((za0 Fs).getD j 0)) ((za0 Fs).getD j 0)) (fun _ t _=>nF-(intOf t).toNat)
 case atStart=>exact⟨0,_,[],[],_,[],rfl,rfl,Nat.zero_le _,HSt.out,Nat.zero_le _,fun j h=>by omega⟩
 case round =>
  obtain⟨i,va,V,BV,S,A,rfl,rfl,hi,hs,hV,hcj⟩:=hrel;obtain⟨w7,rfl⟩:∃w7,w7=wr:=⟨_,rfl⟩;have HS:=Hh hs;have HV:=Hh hV;have HCj:=Hh hcj;clear hcj;obtain⟨k0,k2,k3⟩:=HK.out w7 hs.fr;by_cases hlt:i<nF
  ·have hiF:i<Fs.length:=by have:=HnF.out;omega
   obtain⟨X,hX⟩:∃X,Fs[i]?=some X:=⟨_,List.getElem?_eq_getElem hiF⟩;obtain⟨_,_,ee,_,_,hnn⟩:=id H1.out;obtain⟨rfl,hz,rfl⟩:=Value.slice.inj ee;clear ee hz;obtain⟨b1,o1,xl,xr,ha1,hR1,d1,d2,n1,n2,m1,m2⟩:=hnn i X hX;have ixn1:=zbc na1 nF nc1 i b1 o1 hlt ha1;have HC:=Hh (fun(W:World) (f:Fr NoM w3 W)=>(⟨(HK.out W f).1,f.cell d1 (fun q=>q),f.cell d2 (fun q=>q)⟩:W.cell? ⟨w.heap.size,0,none⟩=some (.slice na1 nF nc1)/\W.cell? ⟨b1,o1+i*2,none⟩=some xl/\W.cell? ⟨b1,o1+i*2+1,none⟩=some xr));have HN1:=Hh (fun(W:World) (f:Fr NoM w7 W)=>(n1.fr0 hs.fr).fr0 f);have HN2:=Hh (fun(W:World) (f:Fr NoM w7 W)=>(n2.fr0 hs.fr).fr0 f);have HV7:=Hh (fun(W:World) (f:Fr NoM w7 W)=>(hs.nats1.fr0 f:Nats W va A));obtain⟨xla,xlc,rfl,z⟩:=id n1;clear z;obtain⟨xra,xrc,rfl,z⟩:=id n2;clear z;obtain⟨p1,p2⟩:=OF.out i X hX;obtain⟨l1,l2⟩:=LF.out X (List.mem_of_getElem? hX);have hnb:=HNb.out;have hTl:Tb.length=Fs.length:=by rw[HTb.out,List.length_map,za1]
   have hAl:A.length=i:=by
    have h:=hs.r1.len;rw[List.length_take]at h;omega
   have rL:=hs.r1.at (L:=X.1) (fun x hx=>by rw[hAl];exact p1 x hx);have rR:=hs.r1.at (L:=X.2) (fun x hx=>by rw[hAl];exact p2 x hx);rw[HTb.out,zxu (A:=A) p1 (by rw[za1];omega)]at rL;rw[HTb.out,zxu (A:=A) p2 (by rw[za1];omega)]at rR;obtain⟨cs,hcs⟩:∃cs,cs=(za3 (za0 Fs) X.1).map canC:=⟨_,rfl⟩;obtain⟨ds,hds⟩:∃ds,ds=(za3 (za0 Fs) X.2).map canC:=⟨_,rfl⟩;have kL:=zrk HCj.out p1;have kR:=zrk HCj.out p2;have hmk:=fun(c:Nat) (h:IsCan c (mkC ((za3 (za0 Fs) X.1).map canC) ((za3 (za0 Fs) X.2).map canC)))=>zyk HCj.out p1 p2 (zc5 Fs OF.out i X hX) h
   rw[←hcs]at rL kL hmk;rw[←hds]at rR kR hmk;have HRL:=Hh rL;have HRR:=Hh rR;have HMk:=Hh hmk;have HKL:=Hh kL;have HKR:=Hh kR;have HTn:=Hh (show Tb[i]?=some (canC ((za0 Fs).getD i 0))from by
    rw[HTb.out,List.getElem?_map,List.getD_eq_getElem?_getD,List.getElem?_eq_getElem (show i<(za0 Fs).length by rw[za1];exact hiF)];rfl)
   have HX1:=Hh (show ∀(j x:Nat),X.1[j]?=some x→x<A.length from fun j x hx=>by rw[hAl];exact p1 x (List.mem_of_getElem? hx));have HX2:=Hh (show ∀(j x:Nat),X.2[j]?=some x→x<A.length from fun j x hx=>by rw[hAl];exact p2 x (List.mem_of_getElem? hx));have HY1:=Hh (show X.1.length<1000000000000 by omega);have HY2:=Hh (show X.2.length<1000000000000 by omega);have HP3:=Hh (show(za3 A X.1).length<1000000 by simp[za3];omega);have HP4:=Hh (show(za3 A X.2).length<1000000 by simp[za3];omega);have HP5:=Hh (show V.length<900 by omega);have HA:=Hh hAl;have HW:=Hh (fun(W:World) (f:Fr NoM w7 W)=>(hs.fr.trans f (fun _ _ q=>q):Fr NoM w3 W));have hc:=HC.out w7 hs.fr;have F0:Fr NoM w7 w7.drew:=(Fr.refl NoM w7).drew;have G0:Fr NoM w3 w7.drew:=HW.out _ F0;clear hX hnn ha1 hR1 d1 d2 n1 n2 m1 m2 p1 p2 l1 l2 hTl hAl rL rR hmk kL kR hcs hds hs hV hiF k2 k3;go_wp2_with fail;go_region_held3 (fun(W:World)=>W.cell? ⟨w.heap.size,0,none⟩=some (.slice na1 nF nc1)/\W.cell? ⟨b1,o1+i*2,none⟩=some (.slice xla X.1.length xlc)/\W.cell? ⟨b1,o1+i*2+1,none⟩=some (.slice xra X.2.length xrc))
    (first|exact HC.out _ (by assumption)|exact HC.out _ (Fr.alloc (by assumption) _))
    (first
     | (go_at_call 160;with_reducible refine(zfg _ (.slice xra X.2.length xrc) A X.2 _ (HV7.out _ (by assumption)) (HN2.out _ (by assumption)) HX2.out HY2.out).mono ?_;rintro e wa ⟨va1,rfl,t1,fa⟩;have z2:Nats wa va1 (za3 A X.2):=zde t1;clear t1;have ga:Fr NoM w7 wa:=Fr.trans (by assumption) fa (fun _ _ q=>q);have ka:Fr NoM w3 wa:=HW.out _ ga;try (have z1:=SliceOf.fr0 (L:=za3 A X.1) (by assumption) fa))
     | (go_at_call 160;with_reducible refine(zfg _ (.slice xla X.1.length xlc) A X.1 _ (HV7.out _ (by assumption)) (HN1.out _ (by assumption)) HX1.out HY1.out).mono ?_;rintro e wb ⟨vb1,rfl,t2,fb⟩;have z1:Nats wb vb1 (za3 A X.1):=zde t2;clear t2;have gb:Fr NoM w7 wb:=Fr.trans (by assumption) fb (fun _ _ q=>q);have kb:Fr NoM w3 wb:=HW.out _ gb;try (have z2:=SliceOf.fr0 (L:=za3 A X.2) (by assumption) fb))
     | (go_at_call 159;(with_reducible refine(zs5 bb _ _ V BV (za3 A X.1) (za3 A X.2) cs ds _ (HS.out.fr0 (by assumption)).book HS.out.ok (fun q hq=>((HS.out.fr0 (by assumption)).sub q hq).2) (by assumption) (by assumption) HRL.out HRR.out HKL.out HKR.out HP5.out HP3.out HP4.out).mono ?_);rintro e wc ⟨ri,V2,B2,S2,rfl,p1,p2,p3,p4,p5,p6,p7,p8⟩;have st:=(HS.out.fr0 (by assumption)).grow p1 p2 p3 p4 p5;have hcd:=HMk.out _ p8;have HST:=Hh st;have HR:=Hh p7;have HCD:=Hh hcd;have HLN:=Hh p6;have kc:Fr NoM w3 wc:=st.fr;clear st p1 p2 p3 p4 p5 p6 p7 p8 hcd)
     | (refine zbd (enc:=encN) rfl (.tmp 16) (.tmp 35) 63 rfl w3.heap.size 3 (.int .i64 0) 8 Tryz.underlying63 za8 rfl va A.length (A.map encN) rfl (za2 HST.out.o1 ((Fr.refl NoM wc).alloc _) (fun _ _ q=>q)) (.slice (some ⟨wc.heap.size,0,none⟩) 1 1) rfl [ri] (SliceOf.one encN wc _ 3) (fun _=>rfl) (by have:=HA.out;have:=HNb.out;simp only[List.length_singleton];omega) (by decide) (by have:=kc.size;rw[World.size_alloc];omega) ?_;intro v4 wd h4 f4 q4;have hap:=HST.out.app ((Fr.refl NoM wc).alloc _) h4 f4 (by first|exact q4|(rw[World.size_alloc];exact q4)) HR.out HCD.out.eq;rw[zf9 HTn.out]at hap;have HAp:=Hh hap;have kd:Fr NoM w3 wd:=hap.fr;clear hap h4 f4 q4)
     | fail)
   all_goals
    go_wp2;go_roundw
    case rel=>exact⟨i+1,v4,_,_,_,_,rfl,by go_num,by omega,HAp.out,by have h1:=HLN.out;have h2:=HV.out;omega,fun j hj=>by
     by_cases e:j=i
     ·rw[e,←HCD.out.eq];exact HCD.out
     ·exact HCj.out j (by omega)⟩
    case measure=>simp[intOf];omega
  ·obtain rfl:i=nF:=by omega
   have hn2:=HnF.out;have hpf:0<i:=by have:=PF.out;omega
   have hTl:Tb.length=i:=by rw[HTb.out,List.length_map,za1];omega
   have hnb:=HNb.out;have hAl:A.length=i:=by
    have h:=hs.r1.len;rw[List.length_take]at h;omega
   obtain⟨x,hx,hxl,hxc⟩:=hs.r1.get (p:=i-1) (c:=canC ((za0 Fs).getD (i-1) 0)) (by omega) (by
    rw[HTb.out,List.getElem?_map,List.getD_eq_getElem?_getD,List.getElem?_eq_getElem (show i-1<(za0 Fs).length by rw[za1];omega)];rfl)
   obtain⟨p,hp⟩:∃p,i=p+1:=⟨i-1,by omega⟩;rw[show i-1=p from by omega]at hx;obtain⟨aa,ac,rfl,_,_,hac⟩:=hs.nats1;obtain⟨b4,o4,ha4,c4⟩:=hac p x hx;unfold encN at c4;have ix4:=za9 aa A.length ac p b4 o4 (by omega) ha4;have hcast:((A.length:Int)-1)=(p:Int):=by omega
   have hpb:p<1600:=by omega
   have hAb:A.length<1000000:=by omega
   have hlen:=hs.ok.lens (n:=100000000) (by omega);have HFo:=Hh (zmg bb x V BV w7 hs.book (zfr hs.ok) hxl (by omega) hlen);have hfo:=zgi hs.ok hxl hxc;have HFe:=Hh (show zd3 V BV x=zb9 (canC (zak Fs))from by
    rw[hfo];unfold zak;rw[hn2])
   clear hx hxl hxc hac ha4 hlen hfo hAl hp hpf hi hlt hn2 hTl hs hV k2 k3;go_wp2_with fail;refine HFo.out.mono ?_
   rintro e w11 ⟨v',rfl,hn',f11⟩;rw[HFe.out]at hn';obtain⟨k0',k2',k3'⟩:=HK.out w11 (HS.out.fr.trans f11 (fun _ _ q=>q));have HFn:=Hh hn';have F11:=Hh (HS.out.fr.trans f11 (fun _ _ q=>q));have HSz:=Hh (show w.heap.size+2≤w7.heap.size from by have:=HS.out.fr.size;have:=HS3.out;omega);obtain⟨va',vc',rfl,zz⟩:=id hn';clear zz hn' f11 k0' k0 c4 ix4;go_wp2;refine bodyPost_ret (v:=.agg #[.slice va' (zb9 (canC (zak Fs))).length vc']) (by simp[results,Tryz.results94,go_sem,k2']) rfl ?_
   refine⟨_,rfl,?_,(HF3.out.trans F11.out (fun _ _ q=>q)).setCell _ _ (fun h=>by have h:w.heap.size+1<w.heap.size:=h;omega)⟩;exact(HFn.out.fr (Fr.set w11 ⟨w.heap.size+1,0,none⟩ _) (fun q hq e=>by have e:q=w.heap.size+1:=e;have:=HSz.out;omega)).mono (fun q hq=>by have:=HSz.out;omega)
end Go.Proofs.YtcalpapdkmnblaaGreatDoor
