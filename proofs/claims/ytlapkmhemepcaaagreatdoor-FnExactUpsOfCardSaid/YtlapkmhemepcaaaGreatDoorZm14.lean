import Derived.Test.YtlapkmhemepcaaaGreatDoorZmt
import Derived.Test.YtlapkmhemepcaaaGreatDoorZm11
import Derived.Test.YtlapkmhemepcaaaGreatDoorZm13
/- Lemmas. -/
namespace Go.Proofs.YtlapkmhemepcaaaGreatDoor
set_option linter.unusedVariables false
set_option linter.unusedSimpArgs false
open Go.RowKit
def UpsT (c:Nat)(n s:Int)(ok:Bool):Prop :=
 (ok=true/\∃t:Nat,s=t∧-12≤n/\n≤12/\t≤15/\c=nusC zai n t)∨(ok=false/\n=0/\s=0/\∀(m:Int) (t:Nat),-12≤m→m≤12→t≤15→c≠nusC zai m t)
def ztp (c:Nat)(w:World)(e:Ending)(w':World):Prop:=∃(n s:Int) (ok:Bool),e=.returned (.tuple #[.int .i64 n,.int .i64 s,.bool ok])/\UpsT c n s ok/\Fr NoM w w'
theorem ziu {c:Nat}{w w':World}(h:∀(m:Int) (t:Nat),c=nusC zai m t→-12≤m→m≤12→t≤15→False)(f:Fr NoM w w'):ztp c w (.returned (.tuple #[.int .i64 0,.int .i64 0,.bool false])) w' :=
 ⟨0,0,false,rfl,.inr ⟨rfl,rfl,rfl,fun m t h1 h2 h3 e=>h m t e h1 h2 h3⟩,f⟩
theorem zni {c:Nat}{m:Int}{t:Nat}(e:c=nusC zai m t):nusX c=(true,(0,0),m,t):=by
 have h:=zc8 (show IsNus c zai m t from⟨zd7.1,e⟩);rw[zd7.2]at h;exact h
set_option maxRecDepth 8000 in
set_option maxHeartbeats 8000000 in
theorem zrb {R:Nat→Prop}(c:Nat)(nv:Value)(w:World)(h:NodeL R encN w nv (zb8 c))(b1:BookC (zb8 c) (za0 (zb8 c)))(b2:0<(zb8 c).length)(b3:(zb8 c).length≤120)(b4:∀x,x<(zb8 c).length→CanC ((za0 (zb8 c)).getD x 0))(b5:(za0 (zb8 c)).getD ((zb8 c).length-1) 0=c) :
  Calls Tryz.prog 73 #[.agg #[nv]] w fun e w'=>ztp c w e w':=by
 obtain⟨w1,hw1⟩:∃w1,w1=w.alloc (.cells #[nv] 26):=⟨_,rfl⟩;have f1:Fr NoM w w1:=by rw[hw1];exact(Fr.refl NoM w).alloc _
 have e0:w1.heap[w.heap.size]?=some (.cells #[nv] 26 (0,0)):=by rw[hw1];exact heap_alloc_new w _
 have k0:w1.cell? ⟨w.heap.size,0,none⟩=some nv:=by rw[cell_of_row w1 _ 0 _ _ _ e0];rfl
 have HAl:=Hh (zxg b1 nv w1 (h.fr0 f1) (by omega) b4);have HLast:=Hh (fun(n:Nat) (hn:n=(zb8 c).length)=>show(allX (za0 (zb8 c)) n)[n-1]?=some (nusX c)from by
  have h1:=ztn (za0 (zb8 c)) (k:=n) (j:=n-1) (by omega);rw[h1,hn,b5])
 have F1:=Hh f1;have HLn:=Hh (And.intro b2 b3);obtain⟨na,nc,rfl,zz⟩:=id h;clear zz h b1 b2 b3 b4 b5 f1 e0;obtain⟨n,hn⟩:∃n,n=(zb8 c).length:=⟨_,rfl⟩;have HLa:=Hh (HLast.out n hn);rw[←hn]at hw1 HAl HLn k0 ⊢;clear hn HLast;go_enter Tryz.func73,Tryz.ntmps73;go_upto_region 1 with fail;rw[←hw1];clear hw1;go_wp2_with fail;(with_reducible refine HAl.out.mono ?_);rintro e w2 ⟨v2,rfl,h2,f2⟩;obtain⟨a2,c2,rfl,_,_,hc2⟩:=id h2;obtain⟨b,o,ha,z0,z1,z2,z3,z4⟩:=hc2 (n-1) _ HLa.out;rw[zo7]at *;have hn0:0<n:=HLn.out.1;have hn9:n≤120:=HLn.out.2;have ix:=ixNX a2 n c2 (n-1) b o (by omega) ha;rw[show((n-1:Nat):Int)=(n:Int)-1 by omega]at ix;have hwr:IntKind.i64.wrap ((n:Int)-1)=(n:Int)-1:=(by rw[IntKind.wrap_i64];omega);obtain⟨x,hx⟩:∃x,x=nusX c:=⟨_,rfl⟩;rw[←hx]at z0 z1 z2 z3 z4;have hsm:x.2.2.1.natAbs≤1000000000∨True:=.inr trivial;have HX:=Hh hx;have HOr:=Hh (znk c);obtain⟨xg,⟨xT,xP⟩,xn,xs⟩:=x
 (try simp only at z0 z1 z2 z3 z4)
 obtain⟨W3,hW3⟩:∃W3,W3=w2.alloc (.cells #[.bool xg,.int .i64 xT,.int .i64 (xP:Int),.int .i64 xn,.int .i64 (xs:Int)] 151):=⟨_,rfl⟩;obtain⟨xb,hxb⟩:∃xb,xb=w2.heap.size:=⟨_,rfl⟩;have F3:=Hh ((F1.out.trans f2 (fun _ _ q=>q)).trans (show Fr NoM w2 W3 by rw[hW3];exact(Fr.refl NoM w2).alloc _) (fun _ _ q=>q));have e3:W3.heap[xb]?=some (.cells #[.bool xg,.int .i64 xT,.int .i64 (xP:Int),.int .i64 xn,.int .i64 (xs:Int)] 151 (0,0)):=by rw[hW3,hxb];exact heap_alloc_new w2 _
 have HB5:=Hh (box5 (y:=(xg,(xT,xP),xn,xs)) e3 (Fr.refl _ _));clear hc2 ha h2 f2 e3 hx hsm hn0;go_upto_region 3 with fail;rw[←hW3,←hxb];clear hW3 hxb z0 z1 z2 z3 z4 ix k0 hwr hn9;obtain⟨⟨x0,x1,x2,x3,x4⟩,_⟩:=HB5.out
 (try simp only at x0 x1 x2 x3 x4)
 cases xg with
 | false =>
  have HNo:=Hh (fun(m:Int) (t:Nat) (e:c=nusC zai m t)=>show False from by
   have h:=HX.out.trans (zni e);cases h)
  go_wp2;go_ret3;exact ziu (fun m t e _ _ _=>HNo.out m t e) F3.out
 | true =>
  obtain⟨q,hq⟩:∃q:Bool,q=decide (¬(xT,xP)=((0:Int),(0:Nat))):=⟨_,rfl⟩;have hne:∀W:World,(binOp .neq 29 (.agg #[.int .i64 xT,.int .i64 (xP:Int)]) (.agg #[.int .i64 0,.int .i64 0])).run Tryz.prog W=.ok (.bool q) W:=fun W=>by rw[hq];exact yd8 xT 0 xP 0 W
  have HQ:=Hh (show q=true↔¬(xT,xP)=((0:Int),(0:Nat))from by rw[hq,decide_eq_true_iff]);clear hq;cases q with
  | true =>
   have HNo:=Hh (fun(m:Int) (t:Nat) (e:c=nusC zai m t)=>show False from by
    have h:=HX.out.trans (zni e);cases h
    exact HQ.out.1 rfl rfl)
   go_wp2;go_ret3;exact ziu (fun m t e _ _ _=>HNo.out m t e) F3.out
  | false =>
   have hTP:(xT,xP)=((0:Int),(0:Nat)):=Classical.byContradiction fun h=>by have:=HQ.out.2 h;cases this
   have HC:=Hh (show c=nusC zai xn xs from by
    obtain⟨a,ia,da⟩:=zi1 HX.out.symm;have e:=zbp ia.1 zd7.1 (da.trans (by rw[zd7.2];exact hTP));rw[ia.2,e])
   have HOne:=Hh (fun(m:Int) (t:Nat) (e:c=nusC zai m t)=>show m=xn/\t=xs from by
    have h:=HX.out.trans (zni e);simp only[Prod.mk.injEq]at h;exact⟨h.2.2.1.symm,h.2.2.2.symm⟩)
   obtain⟨rfl,rfl⟩:=Prod.mk.inj hTP;clear hTP HQ;obtain⟨bq,hbq⟩:∃bq,bq=betw xn (-12) 12:=⟨_,rfl⟩;have HBq:=Hh (show bq=true↔-12≤xn/\xn≤12 from by rw[hbq];unfold betw;simp);have HIn:=Hh (fun(W:World)=>show Calls Tryz.prog 80 #[.int .i64 xn,.int .i64 (-12),.int .i64 12] W fun e w'=>e=.returned (.bool bq)/\W=w' from by rw[hbq];exact zgd xn (-12) 12 W);clear hbq;go_wp2_with fail;(with_reducible refine(HIn.out _).mono ?_);rintro e w5 ⟨rfl,rfl⟩;cases bq with
   | false =>
    have HNo:=Hh (fun(m:Int) (t:Nat) (e:c=nusC zai m t) (h1:-12≤m) (h2:m≤12)=>show False from by
     obtain⟨e1,_⟩:=HOne.out m t e;have:=HBq.out.2 ⟨by omega,by omega⟩;cases this)
    go_wp2;go_ret3;exact ziu (fun m t e h1 h2 _=>HNo.out m t e h1 h2) F3.out
   | true =>
    by_cases hs:xs≤15
    ·have a1:¬(xs:Int)>15:=by omega
     have HS:=Hh hs;clear hs;go_wp2_with fail;go_quiet (fail);go_wp2;go_ret3;exact⟨xn,(xs:Int),true,rfl,.inl ⟨rfl,xs,rfl,(HBq.out.1 (by simp)).1,(HBq.out.1 (by simp)).2,HS.out,HC.out⟩,F3.out.trans (zdb _ _) (fun _ _ q=>q)⟩
    ·have a1:(xs:Int)>15:=by omega
     have HS:=Hh hs;clear hs;go_wp2;go_ret3;exact ziu (fun m t e _ _ h3=>HS.out (by rw[←(HOne.out m t e).2];exact h3)) F3.out
set_option maxRecDepth 4000 in
set_option maxHeartbeats 4000000 in
theorem ztx {R:Nat→Prop}(nv:Value)(Fi:List (List Int × List Int))(w:World)(h:NodeL R encI w nv Fi)(g:Bool)(hg:g=true↔zfh Fi) :
  Calls Tryz.prog 29 #[.agg #[nv]] w fun e w'=>zyf g Fi w e w':=by
 obtain⟨w1,hw1⟩:∃w1,w1=w.alloc (.cells #[nv] 26):=⟨_,rfl⟩;have f1:Fr NoM w w1:=by rw[hw1];exact(Fr.refl NoM w).alloc _
 have e0:w1.heap[w.heap.size]?=some (.cells #[nv] 26 (0,0)):=by rw[hw1];exact heap_alloc_new w _
 have hgood:=zuk nv Fi w1 (h.fr0 f1);have HN:=Hh (fun(W:World) (f:Fr NoM w1 W)=>(h.fr0 f1).fr0 f);have HK:=Hh (fun(W:World) (f:Fr NoM w1 W)=>show W.cell? ⟨w.heap.size,0,none⟩=some nv from by
  have h0:=f.heap e0 (fun q=>q);rw[cell_of_row _ _ 0 _ _ _ h0];rfl)
 obtain⟨a,c,rfl,z⟩:=id h;have HW:=Hh hw1;have F1:=Hh f1;have HG:=Hh hg;have HGood:=Hh hgood;clear z h hw1 f1 e0 hg hgood;have k0:=HK.out w1 (Fr.refl _ _);go_enter Tryz.func29,Tryz.ntmps29;go_wp2_with fail;rw[←HW.out];refine HGood.out.mono ?_
 rintro e w2 ⟨b,rfl,hb,f2⟩;obtain rfl:b=g:=by
  have h:=HG.out;cases b <;> cases g <;> simp_all
 clear k0;have k0:=HK.out w2 f2;have F2:=Hh f2;have HB:=Hh hb;clear f2 hb;cases b with
 | false =>
  go_wp2;go_ret3;exact⟨0,0,false,rfl,.inr ⟨rfl,rfl,rfl,fun m t e=>by cases e⟩,F1.out.trans F2.out (fun _ _ q=>q)⟩
 | true =>
  have hgd:=HB.out.1 rfl;obtain⟨Fs,rfl⟩:=zp2 hgd;obtain⟨q1,q2,q3,q4,_⟩:=zgy hgd;have HSm:=Hh (zre _ Fs w2 (HN.out w2 F2.out).ofI q4.opts q3 q1 q2);obtain⟨cc,hcc⟩:∃cc,cc=canC (zct Fs):=⟨_,rfl⟩;obtain⟨b1,b2,b3,b4,b5⟩:=yan hgd cc hcc;rw[←hcc]at HSm;have HUp:=Hh (fun(R':Nat→Prop) (v:Value) (W:World) (hN:NodeL R' encN W v (zb8 cc))=>zrb cc v W hN b1 b2 b3 b4 b5);have HCc:=Hh hcc;clear hgd q1 q2 q3 q4 b1 b2 b3 b4 b5 hcc;go_wp2_with fail;(with_reducible refine HSm.out.mono ?_);rintro e w3 ⟨v3,rfl,n3,f3⟩;have HSt:=Hh (HUp.out _ v3 w3 n3);have F3:=Hh (F2.out.trans f3 (fun _ _ q=>q));clear n3 f3 k0;go_wp2_with fail;(with_reducible refine HSt.out.mono ?_);rintro e w4 ⟨n,s,ok,rfl,ht,f4⟩;have F4:=Hh (F1.out.trans (F3.out.trans f4 (fun _ _ q=>q)) (fun _ _ q=>q));have HT:=Hh ht;clear f4 ht;go_wp2;go_ret3;refine⟨n,s,ok,rfl,?_,F4.out⟩;unfold IsUps;rw[zns,←HCc.out];rcases HT.out with ⟨e1,t,e2,h1,h2,h3,h4⟩|⟨e1,e2,e3,h⟩
  ·exact .inl ⟨e1,rfl,t,e2,h1,h2,h3,h4⟩
  ·exact .inr ⟨e1,e2,e3,fun m t _ h1 h2 h3=>h m t h1 h2 h3⟩
end Go.Proofs.YtlapkmhemepcaaaGreatDoor
