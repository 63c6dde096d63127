import Derived.Test.YtkofnbjjbcohgaaGreatDoorZwe
import Derived.Test.YtkofnbjjbcohgaaGreatDoorZw12
import Derived.Test.YtkofnbjjbcohgaaGreatDoorZw14
/- Lemmas. -/
namespace Go.Proofs.YtkofnbjjbcohgaaGreatDoor
set_option linter.unusedVariables false
set_option linter.unusedSimpArgs false
open Go.RowKit
theorem zsy (s:ByteArray):∃g:Bool,(g=true↔zcb s/\s.size≤16):=by
 by_cases h:zcb s/\s.size≤16
 ·exact⟨true,by simp[h]⟩
 ·exact⟨false,by simp[h]⟩
set_option maxRecDepth 8000 in
set_option maxHeartbeats 16000000 in
theorem fnStalk_any (cv:Value)(L:List Int)(W0:World)(h:CodeOK W0 cv L):Calls Tryz.prog 3 #[cv] W0 fun e W'=>e=.returned (.bool true)/\Fr NoM W0 W':=by
 obtain⟨big,hbig⟩:∃big,big=decide (65536<L.length):=⟨_,rfl⟩;have hv:=zup cv L W0 h;rw[←hbig]at hv;have HV:=Hh hv;have HD:=Hh (fun(W:World) (f:Fr NoM W0 W)=>zih cv L W (h.fr0 f));have G0:=Hh (Fr.refl NoM W0);obtain⟨ca,cc,rfl,zz⟩:=id h.1;clear zz h hbig hv;go_enter Tryz.func3,Tryz.ntmps3;go_wp2_with fail;(with_reducible refine HV.out.mono ?_);rintro e x0 ⟨rfl,hx⟩;have hx:=hx.symm;subst hx;cases big with
 | true =>
  go_wp2_with fail;go_ret;exact⟨rfl,G0.out⟩
 | false =>
 have HD0:=Hh (HD.out _ G0.out);clear HD HV;go_wp2_with fail;(with_reducible refine HD0.out.mono ?_);rintro e x1 ⟨s,rfl,hs,f1⟩;obtain⟨g,hg⟩:=zsy s;obtain⟨FF,hFF⟩:∃F,F=i2 (if g=true then stF (zf6 s) (s.size+1)else []):=⟨_,rfl⟩;have HFP:=Hh (fun(w:World)=>show Calls Tryz.prog 6 #[.string s] w fun e w'=>FormPost g FF w e w' from(zi9 s w (by omega) g hg).mono fun e w' h=>FormPost.ofP hFF h);have HFR:=Hh (fun(w:World)=>show Calls Tryz.prog 7 #[.string s] w fun e w'=>FormPost g FF w e w' from(zi8 s w (by omega) g hg).mono fun e w' h=>FormPost.ofR hFF h);have HSv:=Hh (fun(w:World)=>zhg s w (by omega) g hg);have HNm:=Hh (fun(e:g=true)=>(by
  obtain⟨_,h16⟩:=hg.1 e;rw[hFF,e,if_pos rfl];exact⟨zt8 (zf6 s) s.size (by omega),fun h=>zpr h16 h⟩:zeb FF/\(okOf true FF=true→znk true FF=redT (stV (zf6 s) s.size) 16)))
 have F1:=Hh f1;clear f1 hg hs hFF HD0;go_wp2_with fail;(with_reducible refine(HFP.out _).mono ?_);rintro e x2 ⟨v2,rfl,q2,f2⟩;obtain⟨a2,c2,rfl,zz⟩:=id q2;obtain⟨W2,hW2⟩:∃W,W=x2.alloc (.cells #[.slice a2 FF.length c2] 27):=⟨_,rfl⟩;obtain⟨y2,hy2⟩:∃b,b=x2.heap.size:=⟨_,rfl⟩;have g2:Fr NoM x1 W2:=f2.trans (show Fr NoM x2 W2 by rw[hW2];exact(Fr.refl NoM x2).alloc _) (fun _ _ q=>q);have B2:=Hh (show BoxI W2 y2 _ _ _ from by rw[hy2];exact BoxI.made q2 hW2);have G2:=Hh (F1.out.trans g2 (fun _ _ q=>q));clear f2 g2 q2 zz;go_upto_region 5 with fail;rw[←hW2,←hy2];clear hW2 hy2;go_wp2_with fail;(with_reducible refine(HFR.out _).mono ?_);rintro e x3 ⟨v3,rfl,q3,f3⟩;obtain⟨a3,c3,rfl,zz⟩:=id q3;obtain⟨W3,hW3⟩:∃W,W=x3.alloc (.cells #[.slice a3 FF.length c3] 27):=⟨_,rfl⟩;obtain⟨y3,hy3⟩:∃b,b=x3.heap.size:=⟨_,rfl⟩;have g3:Fr NoM W2 W3:=f3.trans (show Fr NoM x3 W3 by rw[hW3];exact(Fr.refl NoM x3).alloc _) (fun _ _ q=>q);have B3:=Hh (show BoxI W3 y3 _ _ _ from by rw[hy3];exact BoxI.made q3 hW3);have B2:=Hh (B2.out.fr0 g3);have G3:=Hh (G2.out.trans g3 (fun _ _ q=>q));clear f3 g3 q3 zz;go_upto_region 6 with fail;rw[←hW3,←hy3];clear hW3 hy3;have k4:=B2.out.cell;have k5:=B3.out.cell;go_wp2_with fail;(with_reducible refine(zpy _ _ FF FF W3 B2.out.node B3.out.node rfl).mono ?_);rintro e W4 ⟨rfl,g4⟩;have B2:=Hh (B2.out.fr0 g4);have G4:=Hh (G3.out.trans g4 (fun _ _ q=>q));clear g4 k4 k5 B3;cases g with
 | false =>
  go_wp2_with fail;go_ret;exact⟨rfl,G4.out⟩
 | true =>
 have HNq:=Hh (HNm.out rfl);clear HNm;go_wp2_with fail;(with_reducible refine(HSv.out _).mono ?_);rintro e x5 ⟨T,P,okX,rfl,hval,f5⟩;obtain⟨W5,hW5⟩:∃W,W=x5.alloc (.cells #[.int .i64 T,.int .i64 P] 32):=⟨_,rfl⟩;obtain⟨y5,hy5⟩:∃b,b=x5.heap.size:=⟨_,rfl⟩;have g5:Fr NoM W4 W5:=f5.trans (show Fr NoM x5 W5 by rw[hW5];exact(Fr.refl NoM x5).alloc _) (fun _ _ q=>q);have D5:=Hh (show DyBox W5 y5 T P from by rw[hy5];exact DyBox.made hW5);have B2:=Hh (B2.out.fr0 g5);have G5:=Hh (G4.out.trans g5 (fun _ _ q=>q));have HVl:=Hh hval;clear f5 g5 hval;go_upto_region 11 with fail;rw[←hW5,←hy5];clear hW5 hy5;obtain⟨okD,hokD⟩:∃o,o=okOf true FF:=⟨_,rfl⟩;obtain⟨⟨NT,NP⟩,hNN⟩:∃o,o=znk true FF:=⟨_,rfl⟩;obtain⟨NPi,hNPi⟩:∃p:Int,p=(NP:Int):=⟨_,rfl⟩;have HNo:=Hh (fun(R:Nat→Prop) (W:World) (v:Value) (h:NodeL R encI W v FF)=>zk5 v FF W h true (by simp[HNq.out.1]) okD hokD NT NPi (by rw[←hNN]) (by rw[←hNN];exact hNPi));have HEq:=Hh (fun(h1:okX=true) (h2:okD=true)=>(by
  have e1:=HVl.out (by simp) h1;have e2:=HNq.out.2 (by rw[←hokD];exact h2);rw[←hNN]at e2;rw[←e2]at e1;exact⟨e1.1,hNPi.trans e1.2.symm⟩:T=NT/\NPi=P))
 clear hokD hNN hNPi;have k4:=B2.out.cell;go_wp2_with fail;(with_reducible refine(HNo.out _ _ _ B2.out.node).mono ?_);rintro e x6 ⟨rfl,f6⟩;obtain⟨W6,hW6⟩:∃W,W=x6.alloc (.cells #[.int .i64 NT,.int .i64 NPi] 32):=⟨_,rfl⟩;obtain⟨y6,hy6⟩:∃b,b=x6.heap.size:=⟨_,rfl⟩;have g6:Fr NoM W5 W6:=f6.trans (show Fr NoM x6 W6 by rw[hW6];exact(Fr.refl NoM x6).alloc _) (fun _ _ q=>q);have D6:=Hh (show DyBox W6 y6 NT NPi from by rw[hy6];exact DyBox.made hW6);have D5:=Hh (D5.out.fr0 g6);have G6:=Hh (G5.out.trans g6 (fun _ _ q=>q));clear f6 g6 k4;go_upto_region 12 with fail;rw[←hW6,←hy6];clear hW6 hy6;obtain⟨k0,k1⟩:=D5.out;obtain⟨k2,k3⟩:=D6.out;cases okX with
 | false =>
  go_wp2_with fail;go_ret;exact⟨rfl,G6.out⟩
 | true =>
 cases okD with
 | false =>
  go_wp2_with fail;go_ret;exact⟨rfl,G6.out⟩
 | true =>
 obtain⟨e1,e2⟩:=HEq.out (by simp) (by simp);subst e1 e2;clear HEq;go_wp2_with fail;go_ret;exact⟨by simp,G6.out⟩
end Go.Proofs.YtkofnbjjbcohgaaGreatDoor
