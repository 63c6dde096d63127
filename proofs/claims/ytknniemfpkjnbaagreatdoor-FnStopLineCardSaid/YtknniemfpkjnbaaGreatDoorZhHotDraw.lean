import Derived.Test.YtknniemfpkjnbaaGreatDoorZhDyDraw
/- What the claim of FnStopLineCard needs of: RefUp RefHot HotDraw. -/
namespace Go.Proofs.YtknniemfpkjnbaaGreatDoor
set_option linter.unusedVariables false
set_option linter.unusedSimpArgs false
open Go.RowKit
theorem zt5 {w:World}{b i:Nat}{u:Value}(h:w.cell? ⟨b,i,none⟩=some u):b<w.heap.size:=by
 by_cases hb:b<w.heap.size
 ·exact hb
 ·have hn:w.heap[b]?=none:=Array.getElem?_eq_none_iff.2 (by omega)
  simp[World.cell?,hn]at h
theorem NodeL.cap {α:Type}{R:Nat→Prop}{enc:α→Value}{w:World}{v:Value}{NL:List (List α × List α)}(h:NodeL R enc w v NL):NodeL (fun q=>R q/\q<w.heap.size) enc w v NL:=by
 obtain⟨a,c,rfl,h1,h2,h3⟩:=h;refine⟨a,c,rfl,h1,h2,fun j y hy=>?_⟩;obtain⟨b,off,lv,rv,e,hb,c1,c2,s1,s2,q1,q2⟩:=h3 j y hy;have key:∀ {u:Value}{L:List α},SliceOf enc w u L→L≠[]→∀q,u.ownBlock=some q→q<w.heap.size:=by
  intro u L ⟨a',c',e',_,_,hc⟩ hL q hq;cases L with
  | nil=>exact absurd rfl hL
  | cons x l =>
   obtain⟨b',off',ha',hc'⟩:=hc 0 x rfl;rw[e',ha']at hq;have e2:b'=q:=Option.some.inj hq;subst e2;exact zt5 hc'
 exact⟨b,off,lv,rv,e,⟨hb,zt5 c1⟩,c1,c2,s1,s2,fun hn q hq=>⟨q1 hn q hq,key s1 hn q hq⟩,fun hn q hq=>⟨q2 hn q hq,key s2 hn q hq⟩⟩
theorem zur:zhu [] []=[([],[])]:=by decide
theorem zv4:zhu [[([],[])]] [[([],[])]]=zg7 2:=by decide
theorem zhk:DF [nn1] [([],[])]/\zaq [([],[])]=nn1:=by
 have h:=zin (U:=[]) (FL:=[]) (FR:=[]) (by simp) (by simp);rw[zur]at h;exact h
theorem zn0:DF [nn1,nn4] (zg7 2)/\zaq (zg7 2)=nn4:=by
 have h:=zin (U:=[nn1]) (FL:=[[([],[])]]) (FR:=[[([],[])]]) (fun Fm h=>by rw[List.mem_singleton.1 h];exact zhk.1) (fun Fm h=>by rw[List.mem_singleton.1 h];exact zhk.1);rw[zv4,List.map_singleton,zhk.2]at h;exact h
def upL:List PL:=zhu [[([],[])]] [zg7 2]
theorem up_df:DF [nn1,nn4,nn5] upL:=by
 have h:=zin (U:=[nn1,nn4]) (FL:=[[([],[])]]) (FR:=[zg7 2]) (fun Fm h=>by rw[List.mem_singleton.1 h];exact zhk.1.mono (by simp)) (fun Fm h=>by rw[List.mem_singleton.1 h];exact zn0.1);rw[List.map_singleton,List.map_singleton,zhk.2,zn0.2]at h;exact h.1
def hotN:List Nat:=((List.range 13).map fun(i:Nat)=>intC ((i:Int)-6))++(List.range 6).map fun(i:Nat)=>nr (2*(i:Int)-5) 1
def hotC:List Nat:=hotN ++ [nn1,nn4,nn5,nn9]
theorem ya2:hotC.length=23:=by simp[hotC,hotN]
def HotU (U:List Nat)(i:Nat):Prop:=∃E,U=hotC++E/\E.length=i
theorem HotU.len {U:List Nat}{i:Nat}(h:HotU U i):U.length=23+i:=by
 obtain⟨E,rfl,rfl⟩:=h;rw[List.length_append,ya2]
theorem HotU.snoc {U:List Nat}{i:Nat}(h:HotU U i)(c:Nat):HotU (U ++ [c]) (i+1):=by
 obtain⟨E,rfl,rfl⟩:=h;exact⟨E ++ [c],by rw[List.append_assoc],by simp⟩
theorem ya1 {k:Int}(h1:-6≤k)(h2:k≤6):intC k∈hotN:=by
 refine List.mem_append_left _ (List.mem_map.2 ⟨(k+6).toNat,List.mem_range.2 (by omega),?_⟩);rw[show(((k+6).toNat:Nat):Int)-6=k from by omega]
theorem zxp {s:Int}(h1:-5≤s)(h2:s≤5)(h:s%2≠0):nr s 1∈hotN:=by
 refine List.mem_append_right _ (List.mem_map.2 ⟨((s+5)/2).toNat,List.mem_range.2 (by omega),?_⟩);rw[show 2*((((s+5)/2).toNat:Nat):Int)-5=s from by omega]
theorem ya0 {t:Int}{p:Nat}(hr:Red t p)(hp:p≤1)(ht:-6≤t/\t≤6){x:Nat}(h:SubC (numC t p) x):x∈hotN:=by
 have key:(∃k:Int,-6≤k/\k≤6/\x=intC k)∨(∃s:Int,-5≤s/\s≤5/\s%2≠0/\x=nr s 1):=by
  induction h with
  | root =>
   rcases Nat.eq_zero_or_pos p with h0|h0
   ·subst h0
    exact .inl ⟨t,ht.1,ht.2,by rw[←zx5 hr,zdq]⟩
   ·obtain rfl:p=1:=by omega
    have h2:t%2≠0:=hr.resolve_left (by decide);exact .inr ⟨t,by omega,by omega,h2,by rw[zx5 hr]⟩
  | step _ ho ih =>
   rcases ih with ⟨k,h1,h2,rfl⟩|⟨s,h1,h2,h3,rfl⟩
   ·exact .inl (zr4 h1 h2 ho)
   ·rw[zgx h3]at ho
    rcases zs8 ho with h|h
    ·rw[List.mem_singleton.1 h,zdq];exact .inl ⟨_,by omega,by omega,rfl⟩
    ·rw[List.mem_singleton.1 h,zdq];exact .inl ⟨_,by omega,by omega,rfl⟩
 rcases key with ⟨k,h1,h2,rfl⟩|⟨s,h1,h2,h3,rfl⟩
 ·exact ya1 h1 h2
 ·exact zxp h1 h2 h3
theorem ybr {t:Int}{p:Nat}(hr:Red t p)(hp:p≤1)(ht:-6≤t/\t≤6):DF hotC (zm6 t p):=by
 have hb:¬ 120≤numB t p:=by
  unfold numB;have:t.natAbs/2^p≤t.natAbs:=Nat.div_le_self _ _;split <;> omega
 unfold zm6;rw[if_neg hb];exact⟨_,rfl,fun x hx=>List.mem_append_left _ (ya0 hr hp ht hx)⟩
theorem yd2:DF hotC (zg7 2):=zn0.1.mono (by simp[hotC])
theorem upH:DF hotC upL:=up_df.mono (by simp[hotC])
set_option maxRecDepth 4000 in
set_option maxHeartbeats 4000000 in
theorem zzu (w:World):Calls Tryz.prog 103 #[] w fun e w'=>∃v',e=.returned (.agg #[v'])/\NodeL (fun b=>w.heap.size≤b) encN w' v' upL/\Fr NoM w w':=by
 obtain⟨w1,hw1⟩:∃w1,w1=w.alloc (.cells #[.slice none 0 0] 31):=⟨_,rfl⟩;have f1:Fr NoM w w1:=by rw[hw1];exact(Fr.refl NoM w).alloc _
 have hs1:w1.heap.size=w.heap.size+1:=by rw[hw1];simp
 have e1:w1.heap[w.heap.size]?=some (.cells #[.slice none 0 0] 31 (0,0)):=by rw[hw1];exact heap_alloc_new w _
 have HRs:=Hh (fun(W:World) (f:Fr NoM w1 W)=>show W.cell? ⟨w.heap.size,0,none⟩=some (.slice none 0 0)/\W.frozen? ⟨w.heap.size,0,none⟩=false from by
  have h1:=f.heap e1 (fun q=>q);exact⟨by rw[cell_of_row W _ 0 _ _ _ h1];rfl,by simp[World.frozen?,h1]⟩)
 have F1:=Hh f1;have HS1:=Hh hs1;clear f1 hs1 e1;go_enter Tryz.func103,Tryz.ntmps103;go_upto_region 1 with fail;rw[←hw1];clear hw1;go_wp2_with fail;(with_reducible refine(zu3 w1).mono ?_);rintro e w2 ⟨v2,rfl,n2,f2⟩;obtain⟨a2,c2,rfl,z⟩:=id n2;clear z;obtain⟨w3,hw3⟩:∃w3,w3=w2.alloc (.cells #[.slice a2 1 c2] 31):=⟨_,rfl⟩;have f3:Fr NoM w2 w3:=by rw[hw3];exact(Fr.refl NoM w2).alloc _
 have hF3:FormsL (fun q=>w1.heap.size≤q/\q<w3.heap.size) w3 (.slice (some ⟨w2.heap.size,0,none⟩) 1 1) [[([],[])]]:=by rw[hw3];exact(ze8 rfl n2.cap).mono (fun q hq=>⟨hq.1,by rw[World.size_alloc];omega⟩)
 have HF3:=Hh hF3;have F3:=Hh (f2.trans f3 (fun _ _ q=>q));have HW3:=Hh hw3;have hst:=zmf 1 (by decide) w3;rw[show((1:Nat):Int)=1 from rfl,hw3]at hst;have HSt:=Hh hst;clear n2 f2 f3 hF3 hst;have hl1:List.length [(([]:List Nat),([]:List Nat))]=1:=rfl;go_wp2_with fail;(with_reducible refine HSt.out.mono ?_);rintro e w4 ⟨v4,rfl,n4,f4⟩;rw[←HW3.out]at f4;obtain⟨a4,c4,rfl,z⟩:=id n4;clear z;have f34:Fr NoM w1 w4:=F3.out.trans f4 (fun _ _ q=>q);have h4:=HF3.out.fr0 f4;have h5:=ze8 (R:=fun q=>w1.heap.size≤q/\q<w4.heap.size) (a:=w4.heap.size) rfl (n4.cap.mono (fun q hq=>⟨by have:=F3.out.size;have h:(w2.alloc (.cells #[.slice a2 1 c2] 31)).heap.size≤q:=hq.1;rw[←HW3.out]at h;omega,hq.2⟩));have h6:=(h4.fr0 ((Fr.refl NoM w4).alloc (.cells #[.slice a4 (zg7 (1+1)).length c4] 31))).mono (R':=fun q=>w1.heap.size≤q/\q<w4.heap.size) (fun q hq=>⟨hq.1,by have:=f4.size;omega⟩);have HMk:=Hh (zu6 (R:=fun q=>w1.heap.size≤q/\q<w4.heap.size) _ _ _ _ _ h6 h5 (fun Fm h=>by rw[List.mem_singleton.1 h];exact zhk.1.good (by decide)) (fun Fm h=>by rw[List.mem_singleton.1 h];exact zn0.1.good (by decide)) (by decide) (by decide));have F4:=Hh f34;clear n4 f4 f34 h4 h5 h6 HSt;go_wp2_with fail;(with_reducible refine HMk.out.mono ?_);rintro e w5 ⟨v5,rfl,n5,f5⟩;have f45:Fr NoM w1 w5:=F4.out.trans (((Fr.refl NoM w4).alloc _).trans f5 (fun _ _ q=>q)) (fun _ _ q=>q);obtain⟨k0,k1⟩:=HRs.out w5 f45;obtain⟨a5,c5,rfl,z⟩:=id n5;clear z;have F5:=Hh f45;have HN5:=Hh n5;have F45:=Hh f5;clear f45 n5 f5 HMk;go_wp2;refine bodyPost_ret (v:=.agg #[.slice a5 (zhu [[([],[])]] [zg7 2]).length c5]) (by simp[results,Tryz.results103,go_sem,k0]) rfl ?_
 refine⟨_,rfl,?_,?_⟩
 ·exact(HN5.out.mono (fun b hb=>by have h:(w4.alloc _).heap.size≤b:=hb;rw[World.size_alloc]at h;have:=F4.out.size;have:=HS1.out;exact(show w1.heap.size≤b by omega))).fr (Fr.set w5 ⟨w.heap.size,0,none⟩ _) (fun q hq e=>by have e:q=w.heap.size:=e;have hq:w1.heap.size≤q:=hq;have:=HS1.out;omega) |>.mono (fun b hb=>by have hq:w1.heap.size≤b:=hb;have:=HS1.out;show w.heap.size≤b;omega)
 ·exact(F1.out.trans F5.out (fun _ _ q=>q)).setCell _ _ (fun h=>by have h:w.heap.size<w.heap.size:=h;omega)
def zyf (R:Nat→Prop)(cb n k:Nat)(FSs:List (List PL))(w:World)(e:Ending)(w':World):Prop :=
 ∃(v:Value) (VS:List Value) (FL:List (List PL)),e=.returned v/\FRow w.heap.size w' v VS FL R/\FL.length≤k/\(∀Fm∈FL,Fm∈FSs)/\CurS w' cb (n+2+2*k)/\Fr (fun q=>q=cb) w w'
set_option maxRecDepth 4000 in
set_option maxHeartbeats 4000000 in
theorem zo0 {R:Nat→Prop}(cb n k:Nat)(lv:Value)(FSs:List (List PL))(w:World)(h:CurS w cb n)(hL:FormsL R w lv FSs)(hv:∀q,lv.ownBlock=some q→q≠cb)(hR:∀q,R q→q≠cb/\q<w.heap.size)(hp:0<FSs.length)(hl:FSs.length≤1000)(hk:k≤10)(hn:n<1000000) :
  Calls Tryz.prog 104 #[.pointer (some ⟨cb,0,none⟩),lv,.int .i64 (k:Int)] w fun e w'=>zyf R cb n k FSs w e w':=by
 have hcl:=h.lt;obtain⟨LVS,hls,hll,hln⟩:=id hL;have HLv:=Hh (fun(W:World) (f:Fr (fun q=>q=cb) w W)=>hls.fr f (fun _ q hq=>hv q hq));have HNd:=Hh (fun(W:World) (f:Fr (fun q=>q=cb) w W) (j:Nat) (nv:Value) (Fm:List PL) (h1:LVS[j]?=some nv) (h2:FSs[j]?=some Fm)=>(hln j nv Fm h1 h2).fr f (fun q hq=>(hR q hq).1));have HR:=Hh hR;have HCl:=Hh hcl;have HLl:=Hh hll;have HP:=Hh hp;have HFl:=Hh hl;have HN:=Hh hn;have HK:=Hh hk;obtain⟨la,lc,rfl,z⟩:=id hls;clear z;obtain⟨w1,hw1⟩:∃w1,w1=w.alloc (.cells #[] 31):=⟨_,rfl⟩;have f1:Fr NoM w w1:=by rw[hw1];exact(Fr.refl NoM w).alloc _
 have hr1:FRow w.heap.size w1 (.slice (some ⟨w.heap.size,0,none⟩) 0 0) [] [] R:=by rw[hw1];exact FRow.made w R (fun q hq=>(hR q hq).2)
 have HPk:=Hh (zc2 cb n ((k:Int)+1) w1 (h.fr0 f1) (by omega) ⟨by omega,by omega⟩);have F1:=Hh f1;have HR1:=Hh hr1;clear h hL hls hll hln hv hR hcl hp hl hn f1 hr1;go_enter Tryz.func104,Tryz.ntmps104;go_upto_region 2 with fail;rw[←hw1];clear hw1;go_wp2_with fail;(with_reducible refine HPk.out.mono ?_);rintro e w2 ⟨m,rfl,m0,m1,c2,f2⟩;have hm:m≤(k:Int):=by omega
 have F2:=Hh (F1.out.any.trans f2 (fun _ _ q=>q));have HC2:=Hh c2;have HR2:=Hh (HR1.out.fr f2 (fun q hq e=>by have h1:=(HR1.out.row.lt q hq).1;have e:q=cb:=e;have:=HCl.out;omega) (fun q hq=>(HR.out q hq).1));clear m1 c2 f2;go_wp2_with fail;go_loopw [7,9] (fun v7 t W=>∃(i:Nat) (va:Value) (VS:List Value) (FL:List (List PL)),va=v7/\t=.int .i64 i/\(i:Int)≤m/\FRow w.heap.size W va VS FL R/\FL.length=i/\(∀Fm∈FL,Fm∈FSs)/\CurS W cb (n+2+2*i)/\Fr (fun q=>q=cb) w W) (fun _ t _=>m.toNat-(intOf t).toNat)
 case atStart=>exact⟨0,_,[],[],rfl,rfl,m0,HR2.out,rfl,by simp,HC2.out,F2.out⟩
 case round =>
  obtain⟨i,va,VS,FL,rfl,rfl,hi,hr,hfl,hmem,hc,hf⟩:=hrel;obtain⟨w7,rfl⟩:∃w7,w7=wr:=⟨_,rfl⟩;by_cases hlt:(i:Int)<m
  ·have HPi:=Hh (zc2 cb (n+2+2*i) (LVS.length:Int) w7 hc (by have:=HN.out;have:=HK.out;omega) ⟨by omega,by have:=HFl.out;have:=HLl.out;omega⟩)
   have HRo:=Hh hr;have HMem:=Hh hmem;have HF:=Hh hf;have HLn:=Hh hfl;clear hr hfl hmem hc hf;obtain⟨va',hva⟩:∃va',va'=va:=⟨_,rfl⟩;go_wp2_with fail;(with_reducible refine HPi.out.mono ?_);rintro e w8 ⟨b,rfl,b0,b1,c8,f8⟩;obtain⟨x,rfl⟩:∃x:Nat,b=(x:Int):=⟨b.toNat,by omega⟩;have hx:x<LVS.length:=by have:=HP.out;have:=HLl.out;omega
   obtain⟨nv,hnv⟩:∃nv,LVS[x]?=some nv:=⟨_,List.getElem?_eq_getElem hx⟩;obtain⟨Fm,hFm⟩:∃Fm,FSs[x]?=some Fm:=⟨_,List.getElem?_eq_getElem (by have:=HLl.out;omega)⟩;have g8:Fr (fun q=>q=cb) w w8:=HF.out.trans f8 (fun _ _ q=>q);obtain⟨_,_,ee,_,_,hcc⟩:=HLv.out w8 g8;obtain⟨rfl,hz,rfl⟩:=Value.slice.inj ee;obtain⟨b2,o2,ha,hc2⟩:=hcc x nv hnv;have ix:=zd1 la LVS.length lc x b2 o2 hx ha;unfold encV at hc2;have HNv:=Hh (HNd.out w8 g8 x nv Fm hnv hFm);have HMm:=Hh (List.mem_of_getElem? hFm);have HC8:=Hh c8;have F8:=Hh f8;have G8:=Hh g8;have HRo8:=Hh (HRo.out.fr f8 (fun q hq e=>by have:=(HRo.out.row.lt q hq).1;have:=HCl.out;omega) (fun q hq=>(HR.out q hq).1));obtain⟨na,nc,rfl,zz⟩:=id HNv.out;clear b0 b1 hnv hFm hcc ee hz ha c8 f8 g8 zz;go_wp2_with (at_builtin;refine za8 rfl (.tmp 20) (.tmp 28) 46 rfl w.heap.size 31 _ 1 24 Tryz.underlying46 zd6 rfl (by decide) va VS.length VS rfl (by exact za1 HRo8.out.row ((Fr.refl NoM w8).alloc (.cells #[.slice na Fm.length nc] 31)) (fun _ _ q=>q)) w8.heap.size rfl [.slice na Fm.length nc] 31 (heap_alloc_new w8 _) rfl (by intro u hu;simp at hu;subst hu;rfl) (by have:=HRo8.out.len;have:=HLn.out;have:=HK.out;omega) (by decide) (by have:=G8.out.size;rw[World.size_alloc];omega) ?_);intro v9 w9 h9 f9 q9;have hsn:=HRo8.out.snoc (Wa:=w8.alloc (.cells #[.slice na Fm.length nc] 31)) (T':=R) (Fm:=Fm) ((Fr.refl NoM w8).alloc _) h9 f9 (by rw[World.size_alloc];exact q9) (HNv.out.fr0 ((Fr.refl NoM w8).alloc _)) (fun q hq=>hq) (fun q hq=>⟨by rw[World.size_alloc];have:=(HR.out q hq).2;have:=G8.out.size;omega,(HRo8.out.sep q hq).2⟩);have k9:Fr (fun q=>q=cb) w w9:=(G8.out.trans ((Fr.refl NoM w8).alloc _).any (fun _ _ q=>q)).trans f9 (fun q hq e=>by have:=(HRo8.out.row.lt q e).1;omega);have c9:CurS w9 cb (n+2+2*i+2):=(HC8.out.fr0 ((Fr.refl NoM w8).alloc (.cells #[.slice na Fm.length nc] 31))).fr f9 (fun q hq e=>by have:=(HRo8.out.row.lt q e).1;have:=HCl.out;omega);have HSn:=Hh hsn;have K9:=Hh k9;have HC9:=Hh c9;clear h9 f9 q9 hsn k9 c9;go_wp2;go_roundw
   case rel=>exact⟨i+1,v9,_,_,rfl,by go_num,by omega,HSn.out,by have:=HLn.out;simp;omega,fun G hG=>by
    rcases List.mem_append.1 hG with h|h
    ·exact HMem.out G h
    ·rw[List.mem_singleton.1 h];exact HMm.out,HC9.out,K9.out⟩
   case measure=>simp[intOf];omega
  ·have HRo:=Hh hr;have HMem:=Hh hmem;have HF:=Hh hf;have HLn:=Hh hfl;have HC:=Hh hc
   clear hr hfl hmem hc hf;have hik:i≤k:=by omega
   go_wp2_with fail;go_ret;exact⟨va,VS,FL,rfl,HRo.out,by have:=HLn.out;omega,HMem.out,HC.out.mono (by omega),HF.out⟩
theorem zp9 {P:Program}{w:World}{ops:Array Oper}{rest:List Oper}{o:Oper}{a:Act}{Q:Exit→Act→World→Prop}(hg:o.guard=none)(s x:Operand)(t:TypeId)
  (hop:o.op=Op.call { callee:=Callee.builtin Builtin.append,args:=#[s,x],argTypes:=#[t,t] }) (base:Nat) (e:TypeId) (z:Value) (size bytes:Nat) (ht:P.underlying t=some (.slice e))
  (hi:(P.info? e).map (fun i=>(i.zero,i.size,i.bytes))=some (some z,size,bytes)) (hz:z.cells.size=size) (hs0:0<size) (v:Value) (n:Nat) (xs:List Value) (hs:a.eval s=v) (hown:w.ownsRow base e size v n xs)
  (b m:Nat) (hx:a.eval x=.slice (some ⟨b,0,none⟩) m m) (news:List Value) (e':TypeId) (hb':w.heap[b]?=some (.cells news.toArray e' (0,0))) (hl:news.length=m*size) (h1:∀u∈news,u.oneCell'=true) (hn:(n+m)*bytes≤140737488355328) (hb1:0<bytes) (hb:base≤w.heap.size)
  (hK:∀(v':Value) (w':World),w'.ownsRow base e size v' (n+m) (xs++news)→Fr (Own1 v) w w'→(v'.ownBlock=v.ownBlock∨∃b,v'.ownBlock=some b/\w.heap.size≤b)→wpList P ops Q rest (a.put o.dst v') w') :
  wpList P ops Q (o::rest) a w:=by
 refine wpList_plain hg fun K' hK'=>?_
 obtain⟨i0,hi,hz0,hz1,hz2⟩:=info_parts hi;have hnn:n+m≤140737488355328:=Nat.le_trans (by have:=Nat.mul_le_mul_left (n+m) hb1;omega) hn;have hnews:∀(j:Nat) (u:Value),news[j]?=some u→w.cell? ((⟨b,0,none⟩:Addr).add j)=some u:=by
  intro j u hj;have hadd:(⟨b,0,none⟩:Addr).add j=⟨b,0+j,none⟩:=by unfold Addr.add;split <;> simp_all
  rw[hadd,Nat.zero_add,cell_of_row w b j _ _ _ hb'];simpa using hj
 obtain⟨v',w',hr,h2,h3,_,h5⟩:=run_append_own_at (P:=P) w base t o.type e i0 z size bytes ht hi hz0 hz1 hz2 hz hs0 v n xs hown ⟨b,0,none⟩ m m news hl hnews h1 (by unfold maxLen;omega) hn hb;unfold Oper.wp execOp;simp only[hop,resolve,invoke,builtin,Sem.run_bind,Sem.run_pure,Result.andThen_ok,List.map_toArray,List.map_cons,List.map_nil,hs,hx,hr];refine hK' _ _ (hK v' w' h2 ((Fr.refl (Own1 v) w).grown h3 (fun k hk _=>hk)) ?_);rcases h5 with h5|h5
 ·exact .inl h5
 ·exact .inr ⟨_,h5,Nat.le_refl _⟩
theorem FRow.two {B:Nat}{W Wa W':World}{v v' nv mv:Value}{VS:List Value}{FSs:List (List PL)}{T T':Nat→Prop}{Fm Gm:List PL}(h:FRow B W v VS FSs T)(ha:Fr NoM W Wa)(ho:W'.ownsRow B 31 1 v' (VS.length+2) (VS ++ [nv,mv]))(hf:Fr (Own1 v) Wa W')
  (hq:v'.ownBlock=v.ownBlock∨∃b,v'.ownBlock=some b/\Wa.heap.size≤b) (hn:NodeL T' encN Wa nv Fm) (hm:NodeL T' encN Wa mv Gm) (hTT:∀q,T q→T' q) (hT':∀q,T' q→q<Wa.heap.size/\v.ownBlock≠some q):FRow B W' v' (VS ++ [nv,mv]) (FSs ++ [Fm,Gm]) T':=by
 refine⟨by rw[List.length_append];exact ho,by simp[h.len],fun j u G h1 h2=>?_,fun q hq'=>⟨Nat.lt_of_lt_of_le (hT' q hq').1 hf.size,fun e=>?_⟩⟩
 ·by_cases hj:j<VS.length
  ·rw[List.getElem?_append_left hj]at h1
   rw[List.getElem?_append_left (by rw[←h.len];exact hj)]at h2;exact((h.nodes j u G h1 h2).fr (ha.any.trans hf (fun q _ e=>e)) (fun q hT e=>(h.sep q hT).2 e)).mono hTT
  ·rw[List.getElem?_append_right (by omega)]at h1
   rw[List.getElem?_append_right (by have:=h.len;omega),←h.len]at h2;have hc:j-VS.length=0∨j-VS.length=1:=by
    have hl:=(List.getElem?_eq_some_iff.1 h1).1;simp at hl;omega
   rcases hc with hc|hc
   ·rw[hc]at h1 h2
    have e1:nv=u:=by simpa using h1
    have e2:Fm=G:=by simpa using h2
    subst e1;subst e2;exact hn.fr hf (fun q hT e=>(hT' q hT).2 e)
   ·rw[hc]at h1 h2
    have e1:mv=u:=by simpa using h1
    have e2:Gm=G:=by simpa using h2
    subst e1;subst e2;exact hm.fr hf (fun q hT e=>(hT' q hT).2 e)
 ·rcases hq with h1|⟨b,h1,h2⟩
  ·rw[h1]at e;exact(hT' q hq').2 e
  ·rw[h1]at e;cases e
   have:=(hT' q hq').1;omega
theorem NodeL.len_val {R:Nat→Prop}{w:World}{v:Value}{LL:List PL}(h:NodeL R encN w v LL):∃a c,v=.slice a LL.length c:=by
 obtain⟨a,c,e,_⟩:=h;exact⟨a,c,e⟩
def ycc (cb n k:Nat)(w:World)(e:Ending)(w':World):Prop :=
 ∃(v:Value) (Fm:List PL) (U:List Nat),e=.returned (.agg #[v])/\NodeL (fun q=>w.heap.size≤q/\q<w'.heap.size) encN w' v Fm/\DF U Fm/\HotU U k/\CurS w' cb (n+16+12*k)/\Fr (fun q=>q=cb) w w'
set_option maxRecDepth 8000 in
set_option maxHeartbeats 8000000 in
theorem ybq (cb n k:Nat)(w:World)(h:CurS w cb n)(hk:k≤20)(hn:n<100000) :
  Calls Tryz.prog 55 #[.pointer (some ⟨cb,0,none⟩),.int .i64 (k:Int)] w fun e w'=>ycc cb n k w e w':=by
 obtain⟨w1,hw1⟩:∃w1,w1=w.alloc (.cells #[.slice none 0 0] 31):=⟨_,rfl⟩;have f1:Fr NoM w w1:=by rw[hw1];exact(Fr.refl NoM w).alloc _
 have hs1:w1.heap.size=w.heap.size+1:=by rw[hw1];simp
 have e1:w1.heap[w.heap.size]?=some (.cells #[.slice none 0 0] 31 (0,0)):=by rw[hw1];exact heap_alloc_new w _
 obtain⟨w2,hw2⟩:∃w2,w2=w1.alloc (.cells #[] 31):=⟨_,rfl⟩;have f2:Fr NoM w1 w2:=by rw[hw2];exact(Fr.refl NoM w1).alloc _
 have hr2:FRow w1.heap.size w2 (.slice (some ⟨w1.heap.size,0,none⟩) 0 0) [] [] (fun _=>False):=by rw[hw2];exact FRow.made w1 _ (fun q hq=>hq.elim)
 have HCl:=Hh h.lt;have HKe:=Hh (fun(W:World) (f:Fr (fun q=>q=cb) w1 W)=>(⟨by rw[cell_of_row W _ 0 _ _ _ (f.heap e1 (fun e=>by have:=HCl.out;omega))];rfl,by simp[World.frozen?,f.heap e1 (fun e=>by have:=HCl.out;omega)]⟩:W.cell? ⟨w.heap.size,0,none⟩=some (.slice none 0 0)/\W.frozen? ⟨w.heap.size,0,none⟩=false));have HC2:=Hh ((h.fr0 f1).fr0 f2);have F1:=Hh f1;have F2:=Hh f2;have HS1:=Hh hs1;have HN:=Hh hn;have HK:=Hh hk;have HR2:=Hh hr2;have HIn:=Hh (fun(W:World)=>(show Ints (W.alloc (.cells #[.int .i64 0,.int .i64 0,.int .i64 1] 3)) (.slice (some ⟨W.heap.size,0,none⟩) 3 3) [0,0,1]from ybm W [0,0,1] rfl (by decide)));clear h f1 e1 f2 hr2 hn;go_enter Tryz.func55,Tryz.ntmps55;go_upto_region 2 with fail;rw[←hw1,←hs1,←hw2];clear hw1 hw2 hs1;go_wp2_with fail;go_loopw [5,6] (fun v5 t W=>∃(i:Nat) (va:Value) (VS:List Value) (FSs:List (List PL)) (Tb:Nat→Prop),va=v5/\t=.int .i64 i/\i≤4/\FRow w1.heap.size W va VS FSs Tb/\(∀q,Tb q→w1.heap.size≤q)/\(∀Fm∈FSs,DF hotC Fm)/\FSs.length=i/\CurS W cb (n+4*i)/\Fr (fun q=>q=cb) w1 W) (fun _ t _=>4-(intOf t).toNat)
 case atStart=>exact⟨0,_,_,_,_,rfl,rfl,Nat.zero_le _,HR2.out,fun q hq=>hq.elim,by simp,rfl,HC2.out,F2.out.any⟩
 case round =>
  obtain⟨i,va,VS,FSs,Tb,rfl,rfl,hi,hg,ht,hd,hl,hc,hf⟩:=hrel;obtain⟨w7,rfl⟩:∃w7,w7=wr:=⟨_,rfl⟩;have HT:=Hh (fun(q:Nat) (hq:Tb q)=>(by have h1:=hg.sep q hq;have h2:=HCl.out;have h3:=HS1.out;have h4:=ht q hq;exact⟨by omega,h1.1,h4⟩:q≠cb/\q<w7.heap.size/\w1.heap.size≤q));have HV:=Hh (fun(q:Nat) (hq:va.ownBlock=some q)=>(by have h1:=(hg.row.lt q hq);have h2:=HCl.out;have h3:=HS1.out;exact⟨by omega,h1.1,h1.2⟩:q≠cb/\w1.heap.size≤q/\q<w7.heap.size));have HZ7:=Hh (by have h1:=hf.size;have h2:=HS1.out;omega:w.heap.size<w7.heap.size);obtain⟨va1,vc1,rfl,z⟩:=id hg.cell;clear z;have HLe:=Hh hg.len;by_cases hlt:i<4
  ·have HPi:=Hh (zc2 cb (n+4*i) 13 w7 hc (by have:=HN.out;omega) ⟨by omega,by omega⟩)
   have HG:=Hh hg;have HD:=Hh hd;have HL:=Hh hl;have HF:=Hh hf;clear hg hd hl hc hf ht;go_wp2_with fail;(with_reducible refine HPi.out.mono ?_);rintro e w8 ⟨y,rfl,y0,y1,c8,f8⟩;have y13:y<13:=by omega
   have HC8:=Hh c8;have F8:=Hh f8;clear c8 f8 y1 HPi;go_wp2_with fail;(with_reducible refine(zp5 cb (n+4*i+2) _ [0,0,1] _ (by exact HC8.out.fr0 ((Fr.refl NoM w8).alloc _)) (by exact HIn.out w8) (fun q hq=>by exact yci hq (by have h1:=HCl.out;have h2:=HZ7.out;have h3:=F8.out.size;omega)) (by simp) (by simp) (by have:=HN.out;omega)).mono ?_);rintro e w9 ⟨z,rfl,zm,c9,f9⟩;obtain⟨p,rfl,hp⟩:∃p:Nat,z=(p:Int)/\p≤1:=by
    simp only[List.mem_cons,List.not_mem_nil,or_false]at zm;exact⟨z.toNat,by omega,by omega⟩
   have F9:=Hh (F8.out.trans (((Fr.refl (fun q=>q=cb) w8).alloc _).trans f9 (fun _ _ q=>q)) (fun _ _ q=>q));have HC9:=Hh c9;clear zm c9 f9;obtain⟨T1,hT1⟩:∃T1,T1=(redT (y-6) p).1:=⟨_,rfl⟩;obtain⟨P1,hP1⟩:∃P1,P1=(redT (y-6) p).2:=⟨_,rfl⟩;have HMk:=Hh (zhx (y-6) p w9 ⟨by omega,by omega⟩ (by omega));have hmk:=HMk.out;unfold dyV at hmk;rw[←hT1,←hP1]at hmk;have HMk:=Hh hmk;have HRd:=Hh (by rw[hT1,hP1];exact zd5 p (y-6):Red T1 P1);have HTb:=Hh (by rw[hT1];exact zs3 p (y-6):T1.natAbs≤(y-6).natAbs);have HPb:=Hh (by rw[hP1];exact zvh p (y-6):P1≤p);clear hmk hT1 hP1;go_wp2_with fail;(with_reducible refine HMk.out.mono ?_);rintro e wa ⟨rfl,fa⟩;have FA:=Hh (F9.out.trans fa (fun _ _ q=>q.elim));have HCa:=Hh (HC9.out.fr0 fa);have HFo:=Hh (ztz T1 P1 wa HRd.out (by have:=HTb.out;omega) (by have:=HPb.out;omega));have HDf:=Hh (ybr HRd.out (by have:=HPb.out;omega) (by have:=HTb.out;omega));clear fa HMk;go_wp2_with fail;(with_reducible refine HFo.out.mono ?_);rintro e wb ⟨vb,rfl,nb,fb⟩;obtain⟨Fm,hFm⟩:∃Fm,Fm=zm6 T1 P1:=⟨_,rfl⟩;have HDm:=Hh (by rw[hFm];exact HDf.out:DF hotC Fm);rw[←hFm]at nb;clear hFm HDf HFo;obtain⟨na,nc,rfl⟩:=nb.len_val;have HNb:=Hh nb.cap;have FB:=Hh (FA.out.trans fb (fun _ _ q=>q.elim));have HCb:=Hh (HCa.out.fr0 fb);have HZb:=Hh (And.intro FA.out.size fb.size);have HGb:=Hh (HG.out.fr FB.out (fun q hq=>(HV.out q hq).1) (fun q hq=>(HT.out q hq).1));clear nb fb;go_wp2_with (at_builtin;refine za8 rfl (.tmp 15) (.tmp 24) 46 rfl w1.heap.size 31 _ 1 24 Tryz.underlying46 zd6 rfl (by decide) (.slice va1 VS.length vc1) VS.length VS rfl (by exact za1 HGb.out.row ((Fr.refl NoM wb).alloc (.cells #[.slice na Fm.length nc] 31)) (fun _ _ q=>q)) wb.heap.size rfl [.slice na Fm.length nc] 31 (heap_alloc_new wb _) rfl (by intro u hu;simp at hu;subst hu;rfl) (by have:=HLe.out;have:=HL.out;omega) (by decide) (by have:=HF.out.size;have:=FB.out.size;rw[World.size_alloc];omega) ?_);intro vc wc hcc fc qc;have hsn:=HGb.out.snoc (Wa:=wb.alloc (.cells #[.slice na Fm.length nc] 31)) (T':=fun q=>Tb q∨wa.heap.size≤q/\q<wb.heap.size) (Fm:=Fm) ((Fr.refl NoM wb).alloc _) hcc fc (by rw[World.size_alloc];exact qc)
    ((HNb.out.fr0 ((Fr.refl NoM wb).alloc _)).mono (fun q hq=>.inr hq)) (fun q hq=>.inl hq) (fun q hq=>by
     rw[World.size_alloc];rcases hq with hq|hq
     ·have h1:=HGb.out.sep q hq;exact⟨by omega,h1.2⟩
     ·exact⟨by omega,fun e=>by have h1:=(HV.out q e).2.2;have h2:=HZb.out.1;omega⟩)
   have kc:Fr (fun q=>q=cb) w1 wc:=((HF.out.trans FB.out (fun _ _ q=>q)).trans ((Fr.refl NoM wb).alloc _) (fun _ _ q=>q.elim)).trans fc (fun q hq e=>by have h1:=(HV.out q e).2.1;omega);have cc:CurS wc cb (n+4*i+2+2):=(HCb.out.fr0 ((Fr.refl NoM wb).alloc (.cells #[.slice na Fm.length nc] 31))).fr fc (fun q hq e=>by have h1:=(HV.out q e).2.1;have:=HCl.out;have:=HS1.out;omega);have HSn:=Hh hsn;have KC:=Hh kc;have HCc:=Hh (cc.mono (show n+4*i+2+2≤n+4*(i+1)by omega));have HTn:=Hh (fun(q:Nat) (hq:Tb q∨wa.heap.size≤q/\q<wb.heap.size)=>(by
    rcases hq with hq|hq
    ·exact(HT.out q hq).2.2
    ·have h1:=HF.out.size;have h2:=HZb.out.1;omega:w1.heap.size≤q))
   clear hcc fc qc hsn kc cc;go_wp2;go_roundw
   case rel=>exact⟨i+1,vc,_,_,_,rfl,by go_num,by omega,HSn.out,HTn.out,fun G hG=>by
    rcases List.mem_append.1 hG with h|h
    ·exact HD.out G h
    ·rw[List.mem_singleton.1 h];exact HDm.out,by have:=HL.out;simp;omega,HCc.out,KC.out⟩
   case measure=>simp[intOf];omega
  ·obtain rfl:i=4:=by omega
   have HG:=Hh hg;have HD:=Hh hd;have HL:=Hh hl;have HF:=Hh hf;have HC7:=Hh hc;have HVl:=Hh (by have:=HLe.out;omega:VS.length=4);clear hg hd hl hc hf ht hi;have hst:=zmf 1 (by decide) w7;rw[show((1:Nat):Int)=1 from rfl]at hst;have HSt:=Hh hst;clear hst;go_wp2_with fail;(with_reducible refine HSt.out.mono ?_);rintro e w8 ⟨v8,rfl,n8,f8⟩;obtain⟨sa,sc,rfl⟩:=n8.len_val;have HN8:=Hh n8.cap;have F8:=Hh f8;clear n8 f8 HSt;go_wp2_with fail;(with_reducible refine(zzu w8).mono ?_);rintro e w9 ⟨v9,rfl,n9,f9⟩;obtain⟨ua,uc,rfl⟩:=n9.len_val;have HN9:=Hh n9.cap;have F9:=Hh (F8.out.trans f9 (fun _ _ q=>q));have HZ9:=Hh (And.intro F8.out.size f9.size);have HN8':=Hh (HN8.out.fr0 f9);clear n9 f9;obtain⟨Sl,hSl⟩:∃Sl,Sl=zg7 (1+1):=⟨_,rfl⟩;obtain⟨Ul,hUl⟩:∃Ul,Ul=upL:=⟨_,rfl⟩;rw[←hSl,←hUl];have h8:=HN8'.out;have h9:=HN9.out;rw[←hSl]at h8;rw[←hUl]at h9;have HN8:=Hh h8;have HN9:=Hh h9;have HDs:=Hh (by rw[hSl];exact yd2:DF hotC Sl);have HDu:=Hh (by rw[hUl];exact upH:DF hotC Ul);clear h8 h9 hSl hUl HN8';have HG9:=Hh (HG.out.fr0 F9.out);go_wp2_with (at_builtin;refine zp9 rfl (.tmp 26) (.tmp 29) 46 rfl w1.heap.size 31 _ 1 24 Tryz.underlying46 zd6 rfl (by decide) (.slice va1 VS.length vc1) VS.length VS rfl (by exact za1 HG9.out.row ((Fr.refl NoM w9).alloc (.cells #[.slice sa Sl.length sc,.slice ua Ul.length uc] 31)) (fun _ _ q=>q)) w9.heap.size 2 rfl [.slice sa Sl.length sc,.slice ua Ul.length uc] 31 (heap_alloc_new w9 _) rfl (by intro u hu;simp at hu;rcases hu with rfl|rfl <;> rfl) (by have:=HVl.out;omega) (by decide) (by have:=HF.out.size;have:=F9.out.size;rw[World.size_alloc];omega) ?_);intro vc wc hcc fc qc;have hsn:=HG9.out.two (Wa:=w9.alloc (.cells #[.slice sa Sl.length sc,.slice ua Ul.length uc] 31)) (T':=fun q=>Tb q∨w7.heap.size≤q/\q<w9.heap.size) (Fm:=Sl) (Gm:=Ul) ((Fr.refl NoM w9).alloc _) hcc fc (by rw[World.size_alloc];exact qc)
    ((HN8.out.fr0 ((Fr.refl NoM w9).alloc _)).mono (fun q hq=>.inr ⟨hq.1,by have:=HZ9.out.2;have h:=hq.2;omega⟩)) ((HN9.out.fr0 ((Fr.refl NoM w9).alloc _)).mono (fun q hq=>.inr ⟨by have:=HZ9.out.1;have h:=hq.1;omega,hq.2⟩)) (fun q hq=>.inl hq) (fun q hq=>by
     rw[World.size_alloc];rcases hq with hq|hq
     ·have h1:=HG9.out.sep q hq;exact⟨by omega,h1.2⟩
     ·exact⟨by omega,fun e=>by have h1:=(HV.out q e).2.2;omega⟩)
   have kc:Fr (fun q=>q=cb) w1 wc:=((HF.out.trans F9.out (fun _ _ q=>q.elim)).trans ((Fr.refl NoM w9).alloc _) (fun _ _ q=>q.elim)).trans fc (fun q hq e=>by have h1:=(HV.out q e).2.1;omega);have cc:CurS wc cb (n+4*4):=((HC7.out.fr0 F9.out).fr0 ((Fr.refl NoM w9).alloc (.cells #[.slice sa Sl.length sc,.slice ua Ul.length uc] 31))).fr fc (fun q hq e=>by have h1:=(HV.out q e).2.1;have:=HCl.out;have:=HS1.out;omega);have HSn:=Hh hsn;have KC:=Hh kc;have HCc:=Hh (cc.mono (show n+4*4≤n+16+12*0 by omega));have HTn:=Hh (fun(q:Nat) (hq:Tb q∨w7.heap.size≤q/\q<w9.heap.size)=>(by
    rcases hq with hq|hq
    ·exact(HT.out q hq).2.2
    ·have h1:=HF.out.size;omega:w1.heap.size≤q))
   have HDn:=Hh (fun G (hG:G∈FSs ++ [Sl,Ul])=>(by
    rcases List.mem_append.1 hG with h|h
    ·exact HD.out G h
    ·simp only[List.mem_cons,List.not_mem_nil,or_false]at h
     rcases h with rfl|rfl
     ·exact HDs.out
     ·exact HDu.out:DF hotC G))
   have HLn:=Hh (by have:=HL.out;simp;omega:(FSs ++ [Sl,Ul]).length=6+0);clear hcc fc qc hsn kc cc HVl HV HT HG HG9 HD HL HLe HF HN8 HN9 F8 F9 HZ9 HZ7 HC7 hlt;go_wp2_with fail;go_loopw [5,7] (fun v5 t W=>∃(i:Nat) (va:Value) (VS:List Value) (FSs:List (List PL)) (U:List Nat) (Tb:Nat→Prop),va=v5/\t=.int .i64 i/\i≤k/\FRow w1.heap.size W va VS FSs Tb/\(∀q,Tb q→w1.heap.size≤q)/\(∀Fm∈FSs,DF U Fm)/\HotU U i/\FSs.length=6+i/\CurS W cb (n+16+12*i)/\Fr (fun q=>q=cb) w1 W) (fun _ t _=>k-(intOf t).toNat)
   case atStart=>exact⟨0,_,_,_,hotC,_,rfl,rfl,Nat.zero_le _,HSn.out,HTn.out,HDn.out,⟨[],by rw[List.append_nil],rfl⟩,HLn.out,HCc.out,KC.out⟩
   case round =>
    obtain⟨i,va,VS,FSs,U,Tb,rfl,rfl,hi,hg,ht,hd,hu,hl,hc,hf⟩:=hrel;obtain⟨w7,rfl⟩:∃w7,w7=wr:=⟨_,rfl⟩;have HT:=Hh (fun(q:Nat) (hq:Tb q)=>(by have h1:=hg.sep q hq;have h2:=HCl.out;have h3:=HS1.out;have h4:=ht q hq;exact⟨by omega,h1.1,h4⟩:q≠cb/\q<w7.heap.size/\w1.heap.size≤q));have HV:=Hh (fun(q:Nat) (hq:va.ownBlock=some q)=>(by have h1:=(hg.row.lt q hq);have h2:=HCl.out;have h3:=HS1.out;exact⟨by omega,h1.1,h1.2⟩:q≠cb/\w1.heap.size≤q/\q<w7.heap.size));have HZ7:=Hh (by have h1:=hf.size;have h2:=HS1.out;omega:w.heap.size<w7.heap.size);obtain⟨va1,vc1,rfl,z⟩:=id hg.cell;clear z;have HLe:=Hh hg.len;have HUl:=Hh hu.len;by_cases hlt:i<k
    ·have HGr:=Hh (fun(W:World) (f:Fr (fun q=>q=cb∨w7.heap.size≤q) w7 W)=>hg.fr f (fun q hq e=>by have:=HV.out q hq;omega) (fun q hq e=>by have:=HT.out q hq;omega))
     have HD:=Hh hd;have HU:=Hh hu;have HL:=Hh (by have:=HLe.out;omega:VS.length=6+i/\i<k);have HF:=Hh hf;have HCw7:=Hh hc;have FSw7:=Hh (Fr.refl (fun q=>q=cb∨w7.heap.size≤q) w7);clear hg hd hu hl hc hf ht;have hsox:=zo0 (R:=Tb) cb (n+16+12*i) 1 (.slice va1 VS.length vc1) FSs w7 HCw7.out (HGr.out w7 FSw7.out).forms (fun q hq=>(HV.out q hq).1) (fun q hq=>⟨(HT.out q hq).1,by have:=(HT.out q hq).2.1;have:=FSw7.out.size;omega⟩) (by have:=HL.out;have:=HLe.out;omega) (by have:=HL.out;have:=HLe.out;have:=HK.out;omega) (by omega) (by have:=HN.out;have:=HK.out;omega);rw[show((1:Nat):Int)=1 from rfl]at hsox;have HSox:=Hh hsox;clear hsox;go_wp2_with fail;(with_reducible refine HSox.out.mono ?_);rintro e w8 ⟨v8x,V8x,L8x,rfl,r8x,n8x,m8x,c8x,f8x⟩;obtain⟨a8x,k8x,rfl,z⟩:=id r8x.cell;clear z;have FSw8:=Hh (FSw7.out.trans f8x (fun q _ e=>.inl e));have HPix:=Hh (zc2 cb (n+16+12*i+2+2*1) (VS.length:Int) w8 c8x (by have:=HN.out;have:=HK.out;omega) ⟨by omega,by have:=HL.out;have:=HK.out;omega⟩);have HRw8:=Hh r8x;have HMw8:=Hh (And.intro n8x m8x);have HZw8:=Hh (And.intro f8x.size FSw7.out.size);have FTw8:=Hh (show Fr (fun q=>q=cb∨w7.heap.size≤q) w7 w8 from(Fr.refl _ w7).trans f8x (fun q _ e=>.inl e));clear r8x n8x m8x c8x f8x HSox;go_wp2_with fail;(with_reducible refine HPix.out.mono ?_);rintro e w8b ⟨yx,rfl,y0,y1,c9,f9⟩;obtain⟨xx,rfl⟩:∃x:Nat,yx=(x:Int):=⟨yx.toNat,by omega⟩;have hxx:xx<VS.length:=by have:=HL.out;omega
     have FSw8b:=Hh (FSw8.out.trans f9 (fun q _ e=>.inl e));have FTw8b:=Hh (FTw8.out.trans f9 (fun q _ e=>.inl e));obtain⟨nvx,hnv⟩:∃nv,VS[xx]?=some nv:=⟨_,List.getElem?_eq_getElem hxx⟩;obtain⟨Fmx,hFm⟩:∃Fm,FSs[xx]?=some Fm:=⟨_,List.getElem?_eq_getElem (by have:=HLe.out;omega)⟩;have g9:=HGr.out w8b FSw8b.out;obtain⟨_,_,ee,hcc⟩:=g9.cell;obtain⟨rfl,hz,rfl⟩:=Value.slice.inj ee;obtain⟨b2x,o2x,hax,hc2x⟩:=hcc xx nvx hnv;have ixx:=zd1 va1 VS.length vc1 xx b2x o2x hxx hax;have HNdx:=Hh (g9.nodes xx nvx Fmx hnv hFm);have HMmx:=Hh (List.mem_of_getElem? hFm);obtain⟨nax,ncx,rfl⟩:=HNdx.out.len_val;have HCw8b:=Hh c9;have HRw8b:=Hh (HRw8.out.fr f9 (fun q hq e=>by have h1:=(HRw8.out.row.lt q hq).1;have e:q=cb:=e;have h2:=HCl.out;have h3:=HZw8.out.2;have h4:=HZ7.out;omega) (fun q hq=>(HT.out q hq).1));have HZw8b:=Hh f9.size;clear y0 y1 hnv hFm hcc ee hz hax c9 f9 g9;go_wp2_with (at_builtin;refine za8 rfl (.tmp 38) (.tmp 46) 46 rfl w7.heap.size 31 _ 1 24 Tryz.underlying46 zd6 rfl (by decide) (.slice a8x V8x.length k8x) V8x.length V8x rfl (by exact za1 HRw8b.out.row ((Fr.refl NoM w8b).alloc (.cells #[.slice nax Fmx.length ncx] 31)) (fun _ _ q=>q)) w8b.heap.size rfl [.slice nax Fmx.length ncx] 31 (heap_alloc_new w8b _) rfl (by intro u hu;simp at hu;subst hu;rfl) (by have:=HRw8.out.len;have:=HMw8.out.1;omega) (by decide) (by have:=HZw8.out.1;have:=HZw8b.out;rw[World.size_alloc];omega) ?_);intro vex wA he fe qe;have hsn:=HRw8b.out.snoc (Wa:=w8b.alloc (.cells #[.slice nax Fmx.length ncx] 31)) (T':=Tb) (Fm:=Fmx) ((Fr.refl NoM w8b).alloc _) he fe (by rw[World.size_alloc];exact qe) (HNdx.out.fr0 ((Fr.refl NoM w8b).alloc _)) (fun q hq=>hq) (fun q hq=>⟨by rw[World.size_alloc];have:=(HRw8b.out.sep q hq).1;omega,(HRw8b.out.sep q hq).2⟩);have FSwA:=Hh ((FSw8b.out.trans ((Fr.refl NoM w8b).alloc _).any (fun _ _ q=>q)).trans fe (fun q hq e=>.inr (by have h1:=(HRw8b.out.row.lt q e).1;have h3:=HZw8.out.2;omega)));have FTwA:=Hh ((FTw8b.out.trans ((Fr.refl NoM w8b).alloc _).any (fun _ _ q=>q)).trans fe (fun q hq e=>.inr (HRw8b.out.row.lt q e).1));have HCwA:=Hh ((HCw8b.out.fr0 ((Fr.refl NoM w8b).alloc (.cells #[.slice nax Fmx.length ncx] 31))).fr fe (fun q hq e=>by have h1:=(HRw8b.out.row.lt q e).1;have h3:=HZw8.out.2;have h4:=HZ7.out;have h2:=HCl.out;omega));have HSnx:=Hh hsn;have HZwA:=Hh (by have h:=fe.size;rw[World.size_alloc]at h;exact h:w8b.heap.size+1≤wA.heap.size);obtain⟨eax,enx,ecx,rfl⟩:∃a N c,vex=.slice a N c:=by obtain⟨a,c,e,_⟩:=hsn.cell;exact⟨a,_,c,e⟩
     clear he fe qe hsn;have hsoy:=zo0 (R:=Tb) cb (n+16+12*i+2+2*1+2) 1 (.slice va1 VS.length vc1) FSs wA HCwA.out (HGr.out wA FSwA.out).forms (fun q hq=>(HV.out q hq).1) (fun q hq=>⟨(HT.out q hq).1,by have:=(HT.out q hq).2.1;have:=FSwA.out.size;omega⟩) (by have:=HL.out;have:=HLe.out;omega) (by have:=HL.out;have:=HLe.out;have:=HK.out;omega) (by omega) (by have:=HN.out;have:=HK.out;omega);rw[show((1:Nat):Int)=1 from rfl]at hsoy;have HSoy:=Hh hsoy;clear hsoy;go_wp2_with fail;(with_reducible refine HSoy.out.mono ?_);rintro e w9 ⟨v8y,V8y,L8y,rfl,r8y,n8y,m8y,c8y,f8y⟩;obtain⟨a8y,k8y,rfl,z⟩:=id r8y.cell;clear z;have FSw9:=Hh (FSwA.out.trans f8y (fun q _ e=>.inl e));have HPiy:=Hh (zc2 cb (n+16+12*i+2+2*1+2+2+2*1) (VS.length:Int) w9 c8y (by have:=HN.out;have:=HK.out;omega) ⟨by omega,by have:=HL.out;have:=HK.out;omega⟩);have HRw9:=Hh r8y;have HMw9:=Hh (And.intro n8y m8y);have HZw9:=Hh (And.intro f8y.size FSwA.out.size);have FTw9:=Hh (show Fr (fun q=>q=cb∨wA.heap.size≤q) wA w9 from(Fr.refl _ wA).trans f8y (fun q _ e=>.inl e));clear r8y n8y m8y c8y f8y HSoy;go_wp2_with fail;(with_reducible refine HPiy.out.mono ?_);rintro e w9b ⟨yy,rfl,y0,y1,c9,f9⟩;obtain⟨xy,rfl⟩:∃x:Nat,yy=(x:Int):=⟨yy.toNat,by omega⟩;have hxy:xy<VS.length:=by have:=HL.out;omega
     have FSw9b:=Hh (FSw9.out.trans f9 (fun q _ e=>.inl e));have FTw9b:=Hh (FTw9.out.trans f9 (fun q _ e=>.inl e));obtain⟨nvy,hnv⟩:∃nv,VS[xy]?=some nv:=⟨_,List.getElem?_eq_getElem hxy⟩;obtain⟨Fmy,hFm⟩:∃Fm,FSs[xy]?=some Fm:=⟨_,List.getElem?_eq_getElem (by have:=HLe.out;omega)⟩;have g9:=HGr.out w9b FSw9b.out;obtain⟨_,_,ee,hcc⟩:=g9.cell;obtain⟨rfl,hz,rfl⟩:=Value.slice.inj ee;obtain⟨b2y,o2y,hay,hc2y⟩:=hcc xy nvy hnv;have ixy:=zd1 va1 VS.length vc1 xy b2y o2y hxy hay;have HNdy:=Hh (g9.nodes xy nvy Fmy hnv hFm);have HMmy:=Hh (List.mem_of_getElem? hFm);obtain⟨nay,ncy,rfl⟩:=HNdy.out.len_val;have HCw9b:=Hh c9;have HRw9b:=Hh (HRw9.out.fr f9 (fun q hq e=>by have h1:=(HRw9.out.row.lt q hq).1;have e:q=cb:=e;have h2:=HCl.out;have h3:=HZw9.out.2;have h4:=HZ7.out;omega) (fun q hq=>(HT.out q hq).1));have HZw9b:=Hh f9.size;clear y0 y1 hnv hFm hcc ee hz hay c9 f9 g9;go_wp2_with (at_builtin;refine za8 rfl (.tmp 50) (.tmp 58) 46 rfl wA.heap.size 31 _ 1 24 Tryz.underlying46 zd6 rfl (by decide) (.slice a8y V8y.length k8y) V8y.length V8y rfl (by exact za1 HRw9b.out.row ((Fr.refl NoM w9b).alloc (.cells #[.slice nay Fmy.length ncy] 31)) (fun _ _ q=>q)) w9b.heap.size rfl [.slice nay Fmy.length ncy] 31 (heap_alloc_new w9b _) rfl (by intro u hu;simp at hu;subst hu;rfl) (by have:=HRw9.out.len;have:=HMw9.out.1;omega) (by decide) (by have:=HZw9.out.1;have:=HZw9b.out;rw[World.size_alloc];omega) ?_);intro vey wB he fe qe;have hsn:=HRw9b.out.snoc (Wa:=w9b.alloc (.cells #[.slice nay Fmy.length ncy] 31)) (T':=Tb) (Fm:=Fmy) ((Fr.refl NoM w9b).alloc _) he fe (by rw[World.size_alloc];exact qe) (HNdy.out.fr0 ((Fr.refl NoM w9b).alloc _)) (fun q hq=>hq) (fun q hq=>⟨by rw[World.size_alloc];have:=(HRw9b.out.sep q hq).1;omega,(HRw9b.out.sep q hq).2⟩);have FSwB:=Hh ((FSw9b.out.trans ((Fr.refl NoM w9b).alloc _).any (fun _ _ q=>q)).trans fe (fun q hq e=>.inr (by have h1:=(HRw9b.out.row.lt q e).1;have h3:=HZw9.out.2;omega)));have FTwB:=Hh ((FTw9b.out.trans ((Fr.refl NoM w9b).alloc _).any (fun _ _ q=>q)).trans fe (fun q hq e=>.inr (HRw9b.out.row.lt q e).1));have HCwB:=Hh ((HCw9b.out.fr0 ((Fr.refl NoM w9b).alloc (.cells #[.slice nay Fmy.length ncy] 31))).fr fe (fun q hq e=>by have h1:=(HRw9b.out.row.lt q e).1;have h3:=HZw9.out.2;have h4:=HZ7.out;have h2:=HCl.out;omega));have HSny:=Hh hsn;have HZwB:=Hh (by have h:=fe.size;rw[World.size_alloc]at h;exact h:w9b.heap.size+1≤wB.heap.size);obtain⟨eay,eny,ecy,rfl⟩:∃a N c,vey=.slice a N c:=by obtain⟨a,c,e,_⟩:=hsn.cell;exact⟨a,_,c,e⟩
     clear he fe qe hsn;have hfl:FormsL Tb wB (.slice eax enx ecx) (L8x ++ [Fmx]):=HSnx.out.forms.fr FTwB.out (fun q hq e=>by have h1:=HSnx.out.row.lt q hq;have h2:=FSwA.out.size;have h3:=HZ7.out;have h4:=HCl.out;omega) (fun q hq e=>by have h1:=HT.out q hq;have h2:=FSwA.out.size;omega);have hgB:=HGr.out wB FSwB.out;have HMk:=Hh (zcf (R:=Tb) U (.slice eax enx ecx) (.slice eay eny ecy) (L8x ++ [Fmx]) (L8y ++ [Fmy]) wB hfl HSny.out.forms (fun Fm hm=>by
       rcases List.mem_append.1 hm with h|h
       ·exact HD.out Fm (HMw8.out.2 Fm h)
       ·rw[List.mem_singleton.1 h];exact HD.out Fmx HMmx.out) (fun Fm hm=>by
       rcases List.mem_append.1 hm with h|h
       ·exact HD.out Fm (HMw9.out.2 Fm h)
       ·rw[List.mem_singleton.1 h];exact HD.out Fmy HMmy.out) (by have:=HUl.out;have:=HL.out;have:=HK.out;omega) (by have:=HMw8.out.1;simp;omega) (by have:=HMw9.out.1;simp;omega))
     have HGB:=Hh hgB;clear hfl hgB;go_wp2_with fail;(with_reducible refine HMk.out.mono ?_);rintro e wC ⟨va2,Fm,rfl,o10,d10,_,f10⟩;obtain⟨c,hc⟩:∃c,c=mkC ((L8x ++ [Fmx]).map zaq) ((L8y ++ [Fmy]).map zaq):=⟨_,rfl⟩;rw[←hc]at d10;clear hc;obtain⟨na,nc,rfl⟩:=o10.nodeL.len_val;have HO:=Hh o10.nodeL.cap;have HDn:=Hh d10;have FC:=Hh f10;have HGC:=Hh (HGB.out.fr0 f10);have HCC:=Hh (HCwB.out.fr0 f10);have HZC:=Hh (And.intro FSwB.out.size f10.size);clear o10 d10 f10 HMk;go_wp2_with (at_builtin;refine za8 rfl (.tmp 60) (.tmp 64) 46 rfl w1.heap.size 31 _ 1 24 Tryz.underlying46 zd6 rfl (by decide) (.slice va1 VS.length vc1) VS.length VS rfl (by exact za1 HGC.out.row ((Fr.refl NoM wC).alloc (.cells #[.slice na Fm.length nc] 31)) (fun _ _ q=>q)) wC.heap.size rfl [.slice na Fm.length nc] 31 (heap_alloc_new wC _) rfl (by intro u hu;simp at hu;subst hu;rfl) (by have:=HL.out;have:=HK.out;omega) (by decide) (by have:=HF.out.size;have:=HZC.out;rw[World.size_alloc];omega) ?_);intro vd wd hdd fd qd;have hsn:=HGC.out.snoc (Wa:=wC.alloc (.cells #[.slice na Fm.length nc] 31)) (T':=fun q=>Tb q∨wB.heap.size≤q/\q<wC.heap.size) (Fm:=Fm) ((Fr.refl NoM wC).alloc _) hdd fd (by rw[World.size_alloc];exact qd)
      ((HO.out.fr0 ((Fr.refl NoM wC).alloc _)).mono (fun q hq=>.inr hq)) (fun q hq=>.inl hq) (fun q hq=>by
       rw[World.size_alloc];rcases hq with hq|hq
       ·have h1:=HGC.out.sep q hq;exact⟨by omega,h1.2⟩
       ·exact⟨by omega,fun e=>by have h1:=(HV.out q e).2.2;have h2:=HZC.out.1;omega⟩)
     have kd:Fr (fun q=>q=cb) w1 wd:=(((HF.out.trans FSwB.out (fun q hq e=>by have h1:=HF.out.size;omega)).trans FC.out (fun _ _ q=>q.elim)).trans ((Fr.refl NoM wC).alloc _) (fun _ _ q=>q.elim)).trans fd (fun q hq e=>by have h1:=(HV.out q e).2.1;omega);have cd:CurS wd cb (n+16+12*i+2+2*1+2+2+2*1+2):=(HCC.out.fr0 ((Fr.refl NoM wC).alloc (.cells #[.slice na Fm.length nc] 31))).fr fd (fun q hq e=>by have h1:=(HV.out q e).2.1;have:=HCl.out;have:=HS1.out;omega);have HSn:=Hh hsn;have KD:=Hh kd;have HCd:=Hh (cd.mono (show n+16+12*i+2+2*1+2+2+2*1+2≤n+16+12*(i+1)by omega));have HTn:=Hh (fun(q:Nat) (hq:Tb q∨wB.heap.size≤q/\q<wC.heap.size)=>(by
      rcases hq with hq|hq
      ·exact(HT.out q hq).2.2
      ·have h1:=HF.out.size;have h2:=HZC.out.1;omega:w1.heap.size≤q))
     clear hdd fd qd hsn kd cd;go_wp2;go_roundw
     case rel=>exact⟨i+1,vd,_,_,U ++ [c],_,rfl,by go_num,by omega,HSn.out,HTn.out,fun G hG=>by
      rcases List.mem_append.1 hG with h|h
      ·exact(HD.out G h).mono (fun x hx=>List.mem_append_left _ hx)
      ·rw[List.mem_singleton.1 h];exact HDn.out,HU.out.snoc _,by have:=HL.out;have:=HLe.out;simp;omega,HCd.out,KD.out⟩
     case measure=>simp[intOf];omega
    ·obtain rfl:i=k:=by omega
     have HGr:=Hh hg;have HD:=Hh hd;have HU:=Hh hu;have HL:=Hh (by have:=HLe.out;omega:VS.length=6+i);have HF:=Hh hf;have HCw7:=Hh hc;clear hg hd hu hl hc hf ht;obtain⟨x,hx⟩:∃x:Nat,VS.length=x+1:=⟨VS.length-1,by have:=HL.out;omega⟩;have hxl:x<VS.length:=by omega
     obtain⟨nv,hnv⟩:∃nv,VS[x]?=some nv:=⟨_,List.getElem?_eq_getElem hxl⟩;obtain⟨Fm,hFm⟩:∃Fm,FSs[x]?=some Fm:=⟨_,List.getElem?_eq_getElem (by have:=HLe.out;omega)⟩;obtain⟨_,_,ee,hcc⟩:=HGr.out.cell;obtain⟨rfl,hz,rfl⟩:=Value.slice.inj ee;obtain⟨b2,o2,ha,hc2⟩:=hcc x nv hnv;have ix:=zd1 va1 VS.length vc1 x b2 o2 hxl ha;have HNd:=Hh (HGr.out.nodes x nv Fm hnv hFm);have HMm:=Hh (HD.out Fm (List.mem_of_getElem? hFm));obtain⟨na,nc,rfl⟩:=HNd.out.len_val;have hcast:((VS.length:Int)-1)=(x:Int):=by omega
     have hVb:VS.length<1000000:=by have:=HL.out;have:=HK.out;omega
     obtain⟨k0,k1⟩:=HKe.out w7 HF.out;clear hnv hFm hcc ee hz ha hx;go_wp2;refine bodyPost_ret (v:=.agg #[.slice na Fm.length nc]) (by simp[results,Tryz.results55,go_sem,k0]) rfl ?_
     have hset:=Fr.set w7 ⟨w.heap.size,0,none⟩ (.slice na Fm.length nc);refine⟨_,Fm,U,rfl,((HNd.out.fr hset (fun q hq e=>by have e:q=w.heap.size:=e;have h1:=HT.out q hq;have:=HS1.out;omega)).mono (fun q hq=>⟨by have h1:=HT.out q hq;have:=HS1.out;omega,by have h1:=HT.out q hq;have h2:=hset.size;omega⟩)),HMm.out,HU.out,(HCw7.out.mono (by omega)).fr hset (fun q hq e=>by have e:q=w.heap.size:=e;have:=HCl.out;omega),?_⟩;exact(F1.out.any.trans HF.out (fun _ _ q=>q)).setCell _ _ (fun h=>by have h:w.heap.size<w.heap.size:=h;omega)
def HotF (Fi:List (List Int × List Int)):Prop:=Fi.length≤13∨∃(Fm:List PL) (U:List Nat) (k:Nat),Fi=i2 Fm/\DF U Fm/\HotU U k/\k≤3
def zym (w:World)(e:Ending)(w':World):Prop:=∃(v:Value) (Fi:List (List Int × List Int)),e=.returned (.agg #[v])/\NodeL (fun b=>w.heap.size≤b) encI w' v Fi/\Fr NoM w w'∧HotF Fi
set_option maxRecDepth 8000 in
set_option maxHeartbeats 4000000 in
theorem zoy (cv:Value)(L:List Int)(w:World)(h:CodeOK w cv L):Calls Tryz.prog 24 #[cv] w fun e w'=>zym w e w':=by
 obtain⟨w1,hw1⟩:∃w1,w1=w.alloc (.cells #[.slice none 0 0] 31):=⟨_,rfl⟩;have f1:Fr NoM w w1:=by rw[hw1];exact(Fr.refl NoM w).alloc _
 have hs1:w1.heap.size=w.heap.size+1:=by rw[hw1];simp
 have e1:w1.heap[w.heap.size]?=some (.cells #[.slice none 0 0] 31 (0,0)):=by rw[hw1];exact heap_alloc_new w _
 obtain⟨w2,hw2⟩:∃w2,w2=w1.alloc (.cells #[cv,.int .i64 0,.int .u64 0] 84):=⟨_,rfl⟩;have f2:Fr NoM w1 w2:=by rw[hw2];exact(Fr.refl NoM w1).alloc _
 have hc2:CurS w2 w1.heap.size 0:=by rw[hw2];exact CurS.start (h.fr0 f1)
 have hs2:w2.heap.size=w.heap.size+2:=by rw[hw2];simp[hs1]
 obtain⟨cb,hcb⟩:∃cb,cb=w.heap.size+1:=⟨_,rfl⟩;rw[hs1,←hcb]at hc2;have HK:=Hh (fun(W:World) (f:Fr (fun q=>q=cb) w2 W)=>(by
  have h4:=f.heap (f2.heap e1 (fun q=>q)) (fun e=>by omega);exact⟨by rw[cell_of_row W _ 0 _ _ _ h4];rfl,by simp[World.frozen?,h4]⟩:W.cell? ⟨w.heap.size,0,none⟩=some (.slice none 0 0)/\W.frozen? ⟨w.heap.size,0,none⟩=false))
 have HF:=Hh (fun(W:World) (f:Fr (fun q=>q=cb) w2 W)=>((f1.trans f2 (fun _ _ q=>q)).trans f (fun q hq e=>by omega):Fr NoM w W));have HOne:=Hh (zpp cb 0 3 w2 hc2 (by omega) ⟨by omega,by omega⟩);have HS1:=Hh hs1;have HCb:=Hh hcb;have HS2:=Hh hs2;obtain⟨ca,cc,rfl,zz⟩:=id h.1;clear zz h f1 hs1 e1 f2 hc2 hs2;go_enter Tryz.func24,Tryz.ntmps24;go_upto_region 2 with fail;rw[←hw1,←hw2,←hcb];clear hw1 hw2 hcb;go_wp2_with fail;(with_reducible refine HOne.out.mono ?_);rintro e w3 ⟨b,rfl,c3,f3⟩;cases b with
 | true =>
  have hany:=zri cb (0+2) 3 w3 c3 (by omega) (by omega);rw[show((3:Nat):Int)=3 from rfl]at hany;have HAny:=Hh hany;have F3:=Hh f3;clear hany c3 f3 HOne;go_wp2_with fail;(with_reducible refine HAny.out.mono ?_);rintro e w5 ⟨v,Fi,rfl,n5,_,f5,hlen⟩;have F5:=Hh (F3.out.trans f5 (fun _ _ q=>q));obtain⟨k1,k2⟩:=HK.out w5 F5.out;have HN:=Hh n5;have HSz:=Hh (show w.heap.size<w3.heap.size from by have h4:=HS2.out;have h5:=F3.out.size;omega);have HLen:=Hh hlen;obtain⟨va,vc,rfl,zz⟩:=id n5;clear zz n5 f5 HAny hlen;go_wp2;refine bodyPost_ret (v:=.agg #[.slice va Fi.length vc]) (by simp[results,Tryz.results24,go_sem,k1]) rfl ?_
  refine⟨_,Fi,rfl,?_,(HF.out w5 F5.out).setCell _ _ (fun h=>by have h:w.heap.size<w.heap.size:=h;omega),.inl (by have:=HLen.out;omega)⟩;exact(HN.out.fr (Fr.set w5 ⟨w.heap.size,0,none⟩ _) (fun q hq e=>by have e:q=w.heap.size:=e;have:=HSz.out;omega)).mono (fun q hq=>by have:=HSz.out;omega)
 | false =>
  have HPk:=Hh (zc2 cb (0+2) 3 w3 c3 (by omega) ⟨by omega,by omega⟩);have F3:=Hh f3;clear c3 f3 HOne;go_wp2_with fail;(with_reducible refine HPk.out.mono ?_);rintro e w4 ⟨y,rfl,y0,y1,c4,f4⟩;obtain⟨x,rfl⟩:∃x:Nat,y=(x:Int):=⟨y.toNat,by omega⟩;have x3:x<3:=by omega
  have hhot:=ybq cb (0+2+2) (1+x) w4 c4 (by omega) (by omega);rw[show(((1+x:Nat)):Int)=1+(x:Int)from by omega]at hhot;have HHot:=Hh hhot;have F4:=Hh (F3.out.trans f4 (fun _ _ q=>q));clear hhot c4 f4 y0 y1 HPk;go_wp2_with fail;(with_reducible refine HHot.out.mono ?_);rintro e w5 ⟨v,Fm,U,rfl,n5,d5,u5,_,f5⟩;have F5:=Hh (F4.out.trans f5 (fun _ _ q=>q));obtain⟨k1,k2⟩:=HK.out w5 F5.out;have HN:=Hh n5;have HSz:=Hh (show w.heap.size<w4.heap.size from by have h4:=HS2.out;have h5:=F4.out.size;omega);have HD:=Hh d5;have HU:=Hh u5;obtain⟨va,vc,rfl⟩:=n5.len_val;clear n5 f5 HHot d5 u5;go_wp2;refine bodyPost_ret (v:=.agg #[.slice va Fm.length vc]) (by simp[results,Tryz.results24,go_sem,k1]) rfl ?_
  refine⟨_,i2 Fm,rfl,?_,(HF.out w5 F5.out).setCell _ _ (fun h=>by have h:w.heap.size<w.heap.size:=h;omega),.inr ⟨Fm,U,1+x,rfl,HD.out,HU.out,by omega⟩⟩;exact((HN.out.fr (Fr.set w5 ⟨w.heap.size,0,none⟩ _) (fun q hq e=>by have e:q=w.heap.size:=e;have:=HSz.out;omega)).mono (fun q hq=>by have:=HSz.out;omega)).toI
def zyk (w:World)(e:Ending)(w':World):Prop:=∃(v:Value) (Fi:List (List Int × List Int)) (b:Bool),e=.returned (.tuple #[.agg #[v],.bool b])/\NodeL (fun b=>w.heap.size≤b) encI w' v Fi/\Fr NoM w w'∧HotF Fi
set_option maxRecDepth 8000 in
set_option maxHeartbeats 4000000 in
theorem zox (cv:Value)(L:List Int)(w:World)(h:CodeOK w cv L):Calls Tryz.prog 18 #[cv] w fun e w'=>zyk w e w':=by
 obtain⟨w1,hw1⟩:∃w1,w1=w.alloc (.cells #[.slice none 0 0] 31):=⟨_,rfl⟩;have f1:Fr NoM w w1:=by rw[hw1];exact(Fr.refl NoM w).alloc _
 have hs1:w1.heap.size=w.heap.size+1:=by rw[hw1];simp
 have e1:w1.heap[w.heap.size]?=some (.cells #[.slice none 0 0] 31 (0,0)):=by rw[hw1];exact heap_alloc_new w _
 obtain⟨w2,hw2⟩:∃w2,w2=w1.alloc (.cells #[cv,.int .i64 0,.int .u64 0] 84):=⟨_,rfl⟩;have f2:Fr NoM w1 w2:=by rw[hw2];exact(Fr.refl NoM w1).alloc _
 have hc2:CurS w2 w1.heap.size 0:=by rw[hw2];exact CurS.start (h.fr0 f1)
 have hs2:w2.heap.size=w.heap.size+2:=by rw[hw2];simp[hs1]
 obtain⟨cb,hcb⟩:∃cb,cb=w.heap.size+1:=⟨_,rfl⟩;rw[hs1,←hcb]at hc2;have HRs:=Hh (fun(W:World) (f:Fr (fun q=>q=cb) w2 W)=>(by
  have h4:=f.heap (f2.heap e1 (fun q=>q)) (fun e=>by omega);exact⟨by rw[cell_of_row W _ 0 _ _ _ h4];rfl,by simp[World.frozen?,h4]⟩:W.cell? ⟨w.heap.size,0,none⟩=some (.slice none 0 0)/\W.frozen? ⟨w.heap.size,0,none⟩=false))
 have HF:=Hh (fun(W:World) (f:Fr (fun q=>q=cb) w2 W)=>((f1.trans f2 (fun _ _ q=>q)).trans f (fun q hq e=>by omega):Fr NoM w W));have HS1:=Hh hs1;have HCb:=Hh hcb;have HS2:=Hh hs2;have HC2:=Hh hc2;have HDr:=Hh (zoy cv L w2 ((h.fr0 f1).fr0 f2));obtain⟨ca,cc,rfl,zz⟩:=id h.1;clear zz h f1 hs1 e1 f2 hc2 hs2;go_enter Tryz.func18,Tryz.ntmps18;go_upto_region 2 with fail;rw[←hw1,←hw2,←hcb];clear hw1 hw2 hcb;go_wp2_with fail;(with_reducible refine HDr.out.mono ?_);rintro e w4 ⟨v,Fi,rfl,n4,f4,hho⟩;have HHo:=Hh hho;obtain⟨va,vc,rfl,zz⟩:=id n4;obtain⟨bf,hbf⟩:∃bf,bf=w4.heap.size:=⟨_,rfl⟩;obtain⟨W5,hW5⟩:∃W5,W5=w4.alloc (.cells #[.slice va Fi.length vc] 31):=⟨_,rfl⟩;have g5:Fr NoM w4 W5:=by rw[hW5];exact(Fr.refl NoM w4).alloc _
 have e5:W5.heap[bf]?=some (.cells #[.slice va Fi.length vc] 31 (0,0)):=by rw[hW5,hbf];exact heap_alloc_new w4 _
 have HC5:=Hh ((HC2.out.fr0 f4).fr0 g5);have HN5:=Hh (n4.fr0 g5);have F5:=Hh ((f4.trans g5 (fun _ _ q=>q)).any (M:=fun q=>q=cb));have HBf:=Hh (show w2.heap.size≤bf from by have h1:=f4.size;omega);have HS:=Hh (fun(W:World) (f:Fr (fun q=>q=cb∨q=w.heap.size) W5 W)=>show W.cell? ⟨bf,0,none⟩=some (.slice va Fi.length vc)from by
  rw[cell_of_row W _ 0 _ _ _ (f.heap e5 (fun e=>by have h1:=HBf.out;have h2:=HS2.out;have h3:=HCb.out;rcases e with e|e <;> omega))];rfl)
 clear zz n4 f4 g5 e5 HDr hho;go_upto_region 3 with fail;rw[←hW5,←hbf];clear hW5 hbf;have HC5d:=Hh (show CurS W5.drew cb 0 from HC5.out.fr0 ((Fr.refl NoM W5).drew));have G0:Fr (fun q=>q=cb) W5 W5.drew:=(Fr.refl (fun q=>q=cb) W5).drew;have h0:Fr (fun q=>q=cb∨q=w.heap.size) W5 W5.drew:=G0.mono (fun _ _ e=>.inl e);go_region_held3 (fun(W:World)=>W.cell? ⟨bf,0,none⟩=some (.slice va Fi.length vc))
  (first|exact HS.out _ (by assumption)|exact HS.out _ (Fr.setCell (by assumption) _ _ (fun _=>.inr rfl)))
  (first
   | (go_at_call 47;(with_reducible refine(zpp cb 0 2 _ HC5d.out (by omega) ⟨by omega,by omega⟩).mono ?_);rintro e w6 ⟨b,rfl,c6,f6⟩;have g6:Fr (fun q=>q=cb) W5 w6:=G0.trans f6 (fun _ _ q=>q);have h6:Fr (fun q=>q=cb∨q=w.heap.size) W5 w6:=g6.mono (fun _ _ e=>.inl e);obtain⟨r0,r1⟩:=HRs.out w6 (F5.out.trans g6 (fun _ _ q=>q)))
   | fail)
 all_goals
  have F6:=Hh g6;clear f6 c6 g6 h6 h0 G0;go_wp2_with fail;refine bodyPost_ret (v:=.tuple #[.agg #[.slice va Fi.length vc],.bool b]) (by simp[results,Tryz.results18,go_sem,r0,r1]) rfl ?_
  have hn:NodeL (fun b=>w2.heap.size≤b) encI w6 (.slice va Fi.length vc) Fi:=HN5.out.fr F6.out (fun q hq e=>by have hq:w2.heap.size≤q:=hq;have e:q=cb:=e;have h1:=HS2.out;have h2:=HCb.out;omega);have fs:=Fr.set w6 ⟨w.heap.size,0,none⟩ (.slice va Fi.length vc);refine⟨_,Fi,b,rfl,?_,(HF.out w6 (F5.out.trans F6.out (fun _ _ q=>q))).setCell _ _ (fun h=>by have h:w.heap.size<w.heap.size:=h;omega),HHo.out⟩;exact(hn.fr fs (fun q hq e=>by have hq:w2.heap.size≤q:=hq;have h1:=HS2.out;have e:q=w.heap.size:=e;omega)).mono (fun q hq=>by have hq:w2.heap.size≤q:=hq;have h1:=HS2.out;omega)
end Go.Proofs.YtknniemfpkjnbaaGreatDoor
