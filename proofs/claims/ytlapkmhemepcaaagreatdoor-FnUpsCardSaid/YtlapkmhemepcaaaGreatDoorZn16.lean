import Derived.Test.YtlapkmhemepcaaaGreatDoorZn15
/- Lemmas. -/
namespace Go.Proofs.YtlapkmhemepcaaaGreatDoor
set_option linter.unusedVariables false
set_option linter.unusedSimpArgs false
open Go.RowKit
theorem yea (w:World){n:Int}{s:Nat}(hn:n.natAbs≤3)(hs:s<4):Calls Tryz.prog 34 #[.int .i64 n,.int .i64 (s:Int)] w fun e w'=>FormPost true (i2 (za6 (uqC n s))) w e w' :=
 (zr6 w n (by omega) (by omega) s (by omega) (zgv (by omega) hs)).mono fun e w' h=>FormPost.ofP rfl h
theorem yf1 (w:World){n:Int}{s:Nat}(hn:n.natAbs≤3)(hs:s<4):Calls Tryz.prog 35 #[.int .i64 n,.int .i64 (s:Int)] w fun e w'=>FormPost true (i2 (za6 (uqC n s))) w e w' :=
 (zoh n s w hn hs).mono fun e w' h=>FormPost.ofR rfl h
theorem ye3:∀a:Fin 4,∀b:Fin 4,bits BinOp.xor IntKind.i64 (a.1:Int) (b.1:Int)=((a.1 ^^^ b.1:Nat):Int):=by decide
set_option maxRecDepth 16000 in
set_option maxHeartbeats 16000000 in
theorem fnUps_any (cv:Value)(L:List Int)(W0:World)(h:CodeOK W0 cv L):Calls Tryz.prog 7 #[cv] W0 fun e W'=>e=.returned (.bool true)/\Fr NoM W0 W':=by
 obtain⟨big,hbig⟩:∃big,big=decide (65536<L.length):=⟨_,rfl⟩;have hv:=zzb cv L W0 h;rw[←hbig]at hv;have HV:=Hh hv;have HC:=Hh h;have HBig:=Hh (fun(e:big=false)=>(by rw[hbig,decide_eq_false_iff_not]at e;omega:L.length≤65536));have G0:=Hh (Fr.refl NoM W0);obtain⟨ca,cc,rfl,zz⟩:=id h.1;clear zz h hbig hv;go_enter Tryz.func7,Tryz.ntmps7;go_wp2_with fail;(with_reducible refine HV.out.mono ?_);rintro e x0 ⟨rfl,hx⟩;have hx:=hx.symm;subst hx;cases big with
 | true =>
  go_wp2_with fail;go_ret;exact⟨rfl,G0.out⟩
 | false =>
  have HLb:=Hh (HBig.out rfl);clear HBig;have hat0:=fun(W:World) (f:Fr NoM W0 W)=>znh _ L W (HC.out.fr0 f) HLb.out 0 (by omega)
  rw[show((0:Nat):Int)=0 from rfl]at hat0;have hat1:=fun(W:World) (f:Fr NoM W0 W)=>znh _ L W (HC.out.fr0 f) HLb.out 1 (by omega)
  rw[show((1:Nat):Int)=1 from rfl]at hat1;have hat2:=fun(W:World) (f:Fr NoM W0 W)=>znh _ L W (HC.out.fr0 f) HLb.out 2 (by omega)
  rw[show((2:Nat):Int)=2 from rfl]at hat2;have hat3:=fun(W:World) (f:Fr NoM W0 W)=>znh _ L W (HC.out.fr0 f) HLb.out 3 (by omega)
  rw[show((3:Nat):Int)=3 from rfl]at hat3;have HAt0:=Hh (hat0 W0 (Fr.refl _ _));have HAt1:=Hh hat1;have HAt2:=Hh hat2;have HAt3:=Hh hat3;clear hat0 hat1 hat2 hat3;go_wp2_with fail;(with_reducible refine HAt0.out.mono ?_);rintro e x1 ⟨y0,rfl,hy0,f1⟩;obtain⟨n,hn⟩:∃n:Int,n=y0.tmod 7-3:=⟨_,rfl⟩;have hn3:n.natAbs≤3:=by have:=hy0.1;rw[Int.tmod_eq_emod_of_nonneg this]at hn;omega
  have HN3:=Hh hn3;have HWn:=Hh (show IntKind.i64.wrap (y0.tmod 7-3)=n/\wrap64 (y0.tmod 7-3)=n/\y0.tmod 7-3=n from⟨by rw[←hn,IntKind.wrap_i64];omega,by rw[←hn];unfold wrap64;omega,hn.symm⟩);have F1:=Hh f1;have HAt1:=Hh (HAt1.out x1 f1);clear hy0 f1 HAt0 hn hn3;go_wp2_with fail;try rw[HWn.out.1]
  try rw[HWn.out.2.1]
  try rw[HWn.out.2.2]
  (with_reducible refine HAt1.out.mono ?_);rintro e x2 ⟨y1,rfl,hy1,f2⟩;obtain⟨s,hs⟩:∃s:Nat,(s:Int)=y1.tmod 4:=⟨(y1.tmod 4).toNat,by have:=hy1.1;rw[Int.tmod_eq_emod_of_nonneg this];omega⟩;have hs4:s<4:=by have:=hy1.1;rw[Int.tmod_eq_emod_of_nonneg this]at hs;omega
  have HS4:=Hh hs4;have HSe:=Hh hs;have F2:=Hh (F1.out.trans f2 (fun _ _ q=>q));have HAt2:=Hh (HAt2.out x2 F2.out);clear hy1 f2 HAt1 hs hs4 HWn;go_wp2_with fail;try rw[←HSe.out]
  (with_reducible refine HAt2.out.mono ?_);rintro e x3 ⟨y2,rfl,hy2,f3⟩;obtain⟨m,hm⟩:∃m:Int,m=y2.tmod 7-3:=⟨_,rfl⟩;have hm3:m.natAbs≤3:=by have:=hy2.1;rw[Int.tmod_eq_emod_of_nonneg this]at hm;omega
  have HM3:=Hh hm3;have HWm:=Hh (show IntKind.i64.wrap (y2.tmod 7-3)=m/\wrap64 (y2.tmod 7-3)=m/\y2.tmod 7-3=m from⟨by rw[←hm,IntKind.wrap_i64];omega,by rw[←hm];unfold wrap64;omega,hm.symm⟩);have F3:=Hh (F2.out.trans f3 (fun _ _ q=>q));have HAt3:=Hh (HAt3.out x3 F3.out);clear hy2 f3 HAt2 hm hm3 HSe;go_wp2_with fail;try rw[HWm.out.1]
  try rw[HWm.out.2.1]
  try rw[HWm.out.2.2]
  (with_reducible refine HAt3.out.mono ?_);rintro e x4 ⟨y3,rfl,hy3,f4⟩;obtain⟨t,ht⟩:∃t:Nat,(t:Int)=y3.tmod 4:=⟨(y3.tmod 4).toNat,by have:=hy3.1;rw[Int.tmod_eq_emod_of_nonneg this];omega⟩;have ht4:t<4:=by have:=hy3.1;rw[Int.tmod_eq_emod_of_nonneg this]at ht;omega
  have HT4:=Hh ht4;have HTe:=Hh ht;have F4:=Hh (F3.out.trans f4 (fun _ _ q=>q));clear hy3 f4 HAt3 ht ht4 HWm;go_upto_region 5 with fail;try rw[←HTe.out]
  clear HTe F1 F2 F3 G0;obtain⟨FA,hFA⟩:∃FA,FA=i2 (za6 (uqC n s)):=⟨_,rfl⟩;obtain⟨FB,hFB⟩:∃FB,FB=i2 (za6 (uqC m t)):=⟨_,rfl⟩;obtain⟨FC,hFC⟩:∃FC,FC=i2 (za6 (uqC (n+m) (s ^^^ t))):=⟨_,rfl⟩;have HFA:=Hh hFA;have HFB:=Hh hFB;have HFC:=Hh hFC;obtain⟨W2,rfl⟩:∃W,W=x4:=⟨_,rfl⟩;have G2:=Hh F4.out;have hfa:=fun W=>yea W HN3.out HS4.out
  rw[←hFA]at hfa;have hfb:=fun W=>yea W HM3.out HT4.out
  rw[←hFB]at hfb;have hfr:=fun W=>yf1 W HN3.out HS4.out
  rw[←hFA]at hfr;have HFp:=Hh hfa;have HFq:=Hh hfb;have HFr:=Hh hfr;have HXor:=Hh (show bits BinOp.xor IntKind.i64 (s:Int) (t:Int)=((s ^^^ t:Nat):Int)from ye3 ⟨s,HS4.out⟩ ⟨t,HT4.out⟩);have HX4:=Hh (ybr HN3.out HM3.out HS4.out HT4.out).2;clear hFA hFB hFC F4 hfa hfb hfr;go_wp2_with fail;(with_reducible refine(HFp.out W2).mono ?_);rintro e w3 ⟨v3,rfl,q3,f3⟩;obtain⟨a3,c3,rfl,zz⟩:=id q3;obtain⟨W3,hW3⟩:∃W3,W3=w3.alloc (.cells #[.slice a3 FA.length c3] 26):=⟨_,rfl⟩;have g3:Fr NoM W2 W3:=f3.trans (show Fr NoM w3 W3 by rw[hW3];exact(Fr.refl NoM w3).alloc _) (fun _ _ q=>q);have B3:=Hh (BoxI.made q3 hW3);have G3:=Hh (G2.out.trans g3 (fun _ _ q=>q));clear q3 f3 g3 zz;go_upto_region 6 with fail;rw[←hW3];clear hW3;go_wp2_with fail;(with_reducible refine(HFq.out W3).mono ?_);rintro e w4 ⟨v4,rfl,q4,f4⟩;obtain⟨a4,c4,rfl,zz⟩:=id q4;obtain⟨W4,hW4⟩:∃W4,W4=w4.alloc (.cells #[.slice a4 FB.length c4] 26):=⟨_,rfl⟩;have g4:Fr NoM W3 W4:=f4.trans (show Fr NoM w4 W4 by rw[hW4];exact(Fr.refl NoM w4).alloc _) (fun _ _ q=>q);have B3:=Hh (B3.out.fr0 g4);have B4:=Hh (BoxI.made q4 hW4);have G4:=Hh (G3.out.trans g4 (fun _ _ q=>q));clear q4 f4 g4 zz;go_upto_region 7 with fail;rw[←hW4];clear hW4;go_wp2_with fail;(with_reducible refine(HFr.out W4).mono ?_);rintro e w5 ⟨v5,rfl,q5,f5⟩;obtain⟨a5,c5,rfl,zz⟩:=id q5;obtain⟨W5,hW5⟩:∃W5,W5=w5.alloc (.cells #[.slice a5 FA.length c5] 26):=⟨_,rfl⟩;have g5:Fr NoM W4 W5:=f5.trans (show Fr NoM w5 W5 by rw[hW5];exact(Fr.refl NoM w5).alloc _) (fun _ _ q=>q);have B3:=Hh (B3.out.fr0 g5);have B4:=Hh (B4.out.fr0 g5);have B5:=Hh (BoxI.made q5 hW5);have G5:=Hh (G4.out.trans g5 (fun _ _ q=>q));clear q5 f5 g5 zz;go_upto_region 8 with fail;rw[←hW5];clear hW5;have k3:=B3.out.cell;have k5:=B5.out.cell;have HVs:=Hh (zuc _ _ FA FA W5 B3.out.node B5.out.node rfl);go_wp2_with fail;(with_reducible refine HVs.out.mono ?_);rintro e w6 ⟨rfl,f6⟩;have B3:=Hh (B3.out.fr0 f6);have B4:=Hh (B4.out.fr0 f6);have G6:=Hh (G5.out.trans f6 (fun _ _ q=>q));have HOf:=Hh (zmv _ FA w6 B3.out.node true (by rw[HFA.out];simp[zf4 (n:=n) (by have:=HN3.out;omega) HS4.out]));clear f6 k3 k5 HVs B5;have k3:=B3.out.cell;go_wp2_with fail;(with_reducible refine HOf.out.mono ?_);rintro e w7 ⟨n1,s1,ok1,rfl,hu,f7⟩;rw[HFA.out]at hu;obtain⟨e1,e2,e3⟩:=hu.at (by have:=HN3.out;omega) HS4.out;subst e1 e2 e3;have B3:=Hh (B3.out.fr0 f7);have B4:=Hh (B4.out.fr0 f7);have G7:=Hh (G6.out.trans f7 (fun _ _ q=>q));clear hu f7 k3 HOf;have k3:=B3.out.cell;have k4:=B4.out.cell;obtain⟨W8,hW8⟩:∃W8,W8=w7.alloc (.cells #[.slice a3 FA.length c3,.slice a4 FB.length c4] 26):=⟨_,rfl⟩;have f8:Fr NoM w7 W8:=by rw[hW8];exact(Fr.refl NoM w7).alloc _
  have HCs:=Hh (show Calls Tryz.prog 37 #[.slice (some ⟨w7.heap.size,0,none⟩) 2 2] W8 fun e w'=>FormPost true FC W8 e w' from by
   have h:=zsc _ [FA,FB] W8 (ydi B3.out.node B4.out.node hW8) (csR true [FA,FB]) rfl;have e:csR true [FA,FB]=some (za6 (uqC (n1+m) (s ^^^ t))):=by rw[HFA.out,HFB.out];exact ye9 HN3.out HM3.out HS4.out HT4.out
   rw[e]at h;exact h.mono fun e w' h=>FormPost.ofP HFC.out h)
  have B3:=Hh (B3.out.fr0 f8);have HW8:=Hh hW8;have G8:=Hh (G7.out.trans f8 (fun _ _ q=>q));clear hW8 f8 B4;go_wp2_with fail;rw[←HW8.out];clear HW8;(with_reducible refine HCs.out.mono ?_);rintro e w9 ⟨v9,rfl,q9,f9⟩;clear HCs;obtain⟨a9,c9,rfl,zz⟩:=id q9;obtain⟨W9,hW9⟩:∃W9,W9=w9.alloc (.cells #[.slice a9 FC.length c9] 26):=⟨_,rfl⟩;have g9:Fr NoM W8 W9:=f9.trans (show Fr NoM w9 W9 by rw[hW9];exact(Fr.refl NoM w9).alloc _) (fun _ _ q=>q);have B3:=Hh (B3.out.fr0 g9);have B9:=Hh (BoxI.made q9 hW9);have G9:=Hh (G8.out.trans g9 (fun _ _ q=>q));clear q9 f9 g9 zz;clear k3 k4;go_upto_region 12 with fail;rw[←hW9];clear hW9;have k9:=B9.out.cell;have HOg:=Hh (zmv _ FC W9 B9.out.node true (by rw[HFC.out];simp[zf4 (n:=n1+m) (by have:=HN3.out;have:=HM3.out;omega) HX4.out]));go_wp2_with fail;(with_reducible refine HOg.out.mono ?_);rintro e w10 ⟨n2,s2,ok2,rfl,hu,f10⟩;rw[HFC.out]at hu;obtain⟨e1,e2,e3⟩:=hu.at (by have:=HN3.out;have:=HM3.out;omega) HX4.out;subst e1 e2 e3;have B3:=Hh (B3.out.fr0 f10);have G10:=Hh (G9.out.trans f10 (fun _ _ q=>q));clear hu f10 k9 HOg B9;have k3:=B3.out.cell;have HOu:=Hh (show Calls Tryz.prog 38 #[.agg #[.slice a3 FA.length c3]] w10 fun e w'=>e=.returned (.tuple #[.int .i64 (zb8 n1 s),.bool true])/\Fr NoM w10 w' from by
   have hb:=B3.out.node;rw[HFA.out]at hb;have h:=zp2 _ (za6 (uqC n1 s)) w10 hb (zf4 (by have:=HN3.out;omega) HS4.out);rw[ye4 (by have:=HN3.out;omega) HS4.out]at h;rw[HFA.out];exact h)
  have HSml:=Hh (fun(W:World) (f:Fr NoM w10 W)=>show Calls Tryz.prog 39 #[.agg #[.slice a3 FA.length c3]] W fun e w'=>e=.returned (.tuple #[.bool true,.bool true])/\Fr NoM W w' from by
   have hb:=B3.out.node.fr0 f;rw[HFA.out]at hb ⊢;exact zod _ (za6 (uqC n1 s)) W hb (zf4 (by have:=HN3.out;omega) HS4.out) (fun x hx=>by
    rw[zak,zr5 (by have:=HN3.out;omega) HS4.out]at hx;exact zze (by have:=HN3.out;omega) HS4.out hx))
  have HNm:=Hh (show IntKind.i64.wrap (n1+m)=n1+m/\wrap64 (n1+m)=n1+m from by
   have h1:=HN3.out;have h2:=HM3.out;exact⟨by rw[IntKind.wrap_i64];omega,by unfold wrap64;omega⟩)
  go_wp2_with fail;(with_reducible refine HOu.out.mono ?_);rintro e w11 ⟨rfl,f11⟩;have B3:=Hh (B3.out.fr0 f11);have G11:=Hh (G10.out.trans f11 (fun _ _ q=>q));have HSm:=Hh (HSml.out w11 f11);clear f11 k3 HOu HSml;have k3:=B3.out.cell;by_cases hc:2≤n1
  ·have hR:zb8 n1 s=1:=by unfold zb8;rw[if_pos (.inl hc)]
   rw[hR];clear hR;have d0:n1≥2:=hc
   (try clear hc);(try clear hc2);(try clear hc1);(try clear hc3);(try clear hs1);(try clear hc4)
   obtain⟨x1,x2⟩:=HNm.out;have x3:bits BinOp.xor IntKind.i64 (s:Int) (t:Int)=((s ^^^ t:Nat):Int):=HXor.out;go_wp2_with fail;(with_reducible refine HSm.out.mono ?_);rintro e w12 ⟨rfl,f12⟩;have G12:=Hh (G11.out.trans f12 (fun _ _ q=>q));clear f12 k3;go_wp2;go_ret;exact⟨rfl,G12.out⟩
  ·by_cases hc1:n1=1
   ·by_cases hs1:s=1
    ·have hR:zb8 n1 s=3:=by unfold zb8;rw[if_neg (by omega),if_neg (by omega),if_neg (by omega)]
     rw[hR];clear hR;subst hc1;subst hs1
     (try clear hc);(try clear hc2);(try clear hc1);(try clear hc3);(try clear hs1);(try clear hc4)
     obtain⟨x1,x2⟩:=HNm.out;have x3:bits BinOp.xor IntKind.i64 1 (t:Int)=((1 ^^^ t:Nat):Int):=HXor.out;go_wp2_with fail;(with_reducible refine HSm.out.mono ?_);rintro e w12 ⟨rfl,f12⟩;have G12:=Hh (G11.out.trans f12 (fun _ _ q=>q));clear f12 k3;go_wp2;go_ret;exact⟨rfl,G12.out⟩
    ·have hR:zb8 n1 s=1:=by unfold zb8;rw[if_pos (.inr ⟨hc1,hs1⟩)]
     rw[hR];clear hR;have d0:¬s=1:=hs1;have d1:¬(s:Int)=1:=by omega
     have d2:((s:Int) == 1)=false:=by rw[beq_eq_false_iff_ne];omega
     subst hc1
     (try clear hc);(try clear hc2);(try clear hc1);(try clear hc3);(try clear hs1);(try clear hc4)
     obtain⟨x1,x2⟩:=HNm.out;have x3:bits BinOp.xor IntKind.i64 (s:Int) (t:Int)=((s ^^^ t:Nat):Int):=HXor.out;go_wp2_with fail;(with_reducible refine HSm.out.mono ?_);rintro e w12 ⟨rfl,f12⟩;have G12:=Hh (G11.out.trans f12 (fun _ _ q=>q));clear f12 k3;go_wp2;go_ret;exact⟨rfl,G12.out⟩
   ·by_cases hc2:n1≤-2
    ·have hR:zb8 n1 s=2:=by unfold zb8;rw[if_neg (by omega),if_pos (.inl hc2)]
     rw[hR];clear hR;have d0:¬n1≥2:=hc;have d1:(n1 == 1)=false:=by rw[beq_eq_false_iff_ne];exact hc1
     have d2:n1≤-2:=hc2
     (try clear hc);(try clear hc2);(try clear hc1);(try clear hc3);(try clear hs1);(try clear hc4)
     obtain⟨x1,x2⟩:=HNm.out;have x3:bits BinOp.xor IntKind.i64 (s:Int) (t:Int)=((s ^^^ t:Nat):Int):=HXor.out;go_wp2_with fail;(with_reducible refine HSm.out.mono ?_);rintro e w12 ⟨rfl,f12⟩;have G12:=Hh (G11.out.trans f12 (fun _ _ q=>q));clear f12 k3;go_wp2;go_ret;exact⟨rfl,G12.out⟩
    ·by_cases hc3:n1=-1
     ·by_cases hs1:s=1
      ·have hR:zb8 n1 s=3:=by unfold zb8;rw[if_neg (by omega),if_neg (by omega),if_neg (by omega)]
       rw[hR];clear hR;subst hc3;subst hs1
       (try clear hc);(try clear hc2);(try clear hc1);(try clear hc3);(try clear hs1);(try clear hc4)
       obtain⟨x1,x2⟩:=HNm.out;have x3:bits BinOp.xor IntKind.i64 1 (t:Int)=((1 ^^^ t:Nat):Int):=HXor.out;go_wp2_with fail;(with_reducible refine HSm.out.mono ?_);rintro e w12 ⟨rfl,f12⟩;have G12:=Hh (G11.out.trans f12 (fun _ _ q=>q));clear f12 k3;go_wp2;go_ret;exact⟨rfl,G12.out⟩
      ·have hR:zb8 n1 s=2:=by unfold zb8;rw[if_neg (by omega),if_pos (.inr ⟨hc3,hs1⟩)]
       rw[hR];clear hR;have d0:¬s=1:=hs1;have d1:¬(s:Int)=1:=by omega
       have d2:((s:Int) == 1)=false:=by rw[beq_eq_false_iff_ne];omega
       subst hc3
       (try clear hc);(try clear hc2);(try clear hc1);(try clear hc3);(try clear hs1);(try clear hc4)
       obtain⟨x1,x2⟩:=HNm.out;have x3:bits BinOp.xor IntKind.i64 (s:Int) (t:Int)=((s ^^^ t:Nat):Int):=HXor.out;go_wp2_with fail;(with_reducible refine HSm.out.mono ?_);rintro e w12 ⟨rfl,f12⟩;have G12:=Hh (G11.out.trans f12 (fun _ _ q=>q));clear f12 k3;go_wp2;go_ret;exact⟨rfl,G12.out⟩
     ·have hc4:n1=0:=by omega
      by_cases hs1:s=0
      ·have hR:zb8 n1 s=4:=by unfold zb8;rw[if_neg (by omega),if_neg (by omega),if_pos ⟨hc4,hs1⟩]
       rw[hR];clear hR;subst hc4;subst hs1
       (try clear hc);(try clear hc2);(try clear hc1);(try clear hc3);(try clear hs1);(try clear hc4)
       have x1:-3≤m:=by have:=HM3.out;omega
       have x2:m≤3:=by have:=HM3.out;omega
       have x3:bits BinOp.xor IntKind.i64 0 (t:Int)=((0 ^^^ t:Nat):Int):=HXor.out;go_wp2_with fail;(with_reducible refine HSm.out.mono ?_);rintro e w12 ⟨rfl,f12⟩;have G12:=Hh (G11.out.trans f12 (fun _ _ q=>q));clear f12 k3;go_wp2;go_ret;exact⟨rfl,G12.out⟩
      ·have hR:zb8 n1 s=3:=by unfold zb8;rw[if_neg (by omega),if_neg (by omega),if_neg (by omega)]
       rw[hR];clear hR;have d0:((s:Int) == 0)=false:=by rw[beq_eq_false_iff_ne];omega
       subst hc4
       (try clear hc);(try clear hc2);(try clear hc1);(try clear hc3);(try clear hs1);(try clear hc4)
       have x1:-3≤m:=by have:=HM3.out;omega
       have x2:m≤3:=by have:=HM3.out;omega
       have x3:bits BinOp.xor IntKind.i64 (s:Int) (t:Int)=((s ^^^ t:Nat):Int):=HXor.out;go_wp2_with fail;(with_reducible refine HSm.out.mono ?_);rintro e w12 ⟨rfl,f12⟩;have G12:=Hh (G11.out.trans f12 (fun _ _ q=>q));clear f12 k3;go_wp2;go_ret;exact⟨rfl,G12.out⟩
end Go.Proofs.YtlapkmhemepcaaaGreatDoor
