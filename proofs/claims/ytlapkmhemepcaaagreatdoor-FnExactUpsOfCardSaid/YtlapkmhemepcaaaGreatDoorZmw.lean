import Derived.Test.YtlapkmhemepcaaaGreatDoorZmv
import Derived.Test.YtlapkmhemepcaaaGreatDoorZmx
/- Lemmas. -/
namespace Go.Proofs.YtlapkmhemepcaaaGreatDoor
set_option linter.unusedVariables false
set_option linter.unusedSimpArgs false
open Go.RowKit
set_option maxRecDepth 4000 in
set_option maxHeartbeats 600000 in
theorem zfu (av:Value)(A:List NX)(w:World)(hA:Fives w av A)(hS:∀x∈A,zep x)(h9:A.length≤1000000) :
  Calls Tryz.prog 171 #[av] w fun e w'=>zuz w (zbq A) e w':=by
 obtain⟨w1,hw1⟩:∃w1,w1=w.alloc (.cells #[] 151):=⟨_,rfl⟩;have HF:=Hh (show Fr NoM w w1 from by rw[hw1];exact(Fr.refl NoM w).alloc _);have HR:=Hh (show w1.ownsRow w.heap.size 151 5 (.slice (some ⟨w.heap.size,0,none⟩) 0 0) 0 (zd3 (zbq (A.take 0)))from by
  rw[hw1];exact World.ownsRow_made w #[] 0 (Nat.le_refl _) (by decide) (by simp))
 obtain⟨aa,ac,rfl,_,_,hca⟩:=id hA;have HA:=Hh (fun(k:Nat) (y:NX) (hy:A[k]?=some y)=>show zep y/\∃b off,aa=some ⟨b,off,none⟩/\∀W,Fr NoM w W→W.cell? ⟨b,off+k*5,none⟩=some (.bool y.1)/\W.cell? ⟨b,off+k*5+1,none⟩=some (.int .i64 y.2.1.1) ∧
   W.cell? ⟨b,off+k*5+2,none⟩=some (.int .i64 (y.2.1.2:Int))/\W.cell? ⟨b,off+k*5+3,none⟩=some (.int .i64 y.2.2.1)/\W.cell? ⟨b,off+k*5+4,none⟩=some (.int .i64 (y.2.2.2:Int))from by
  obtain⟨b,off,ha,c1,c2,c3,c4,c5⟩:=hca k y hy;refine⟨hS y (List.mem_of_getElem? hy),b,off,ha,fun W f=>?_⟩;exact⟨f.cell c1 (fun q=>q),f.cell c2 (fun q=>q),f.cell c3 (fun q=>q),f.cell c4 (fun q=>q),f.cell c5 (fun q=>q)⟩)
 have H9:=Hh h9;clear hA hca hS h9;obtain⟨n,hn⟩:∃n,n=A.length:=⟨_,rfl⟩;rw[←hn]at H9 ⊢;have Hn:=Hh hn;clear hn;go_enter Tryz.func171,Tryz.ntmps171;go_upto_region 2 with fail;rw[←hw1];have HW:=Hh hw1;clear hw1;go_wp2_with fail;go_loopw [3,4] (fun v3 v4 wr=>∃(v:Value) (k:Nat),v=v3/\v4=.int .i64 (k:Int)/\k≤n/\wr.ownsRow w.heap.size 151 5 v k (zd3 (zbq (A.take k)))/\Fr NoM w wr) (fun _ v4 _=>n-(intOf v4).toNat)
 case atStart=>exact⟨_,0,rfl,rfl,Nat.zero_le _,HR.out,HF.out⟩
 case round =>
  obtain⟨v,k,rfl,rfl,hk,hr,hf⟩:=hrel;by_cases hlt:k<n
  ·obtain⟨y,hy⟩:∃y,A[k]?=some y:=⟨_,List.getElem?_eq_getElem (show k<A.length by have:=Hn.out;omega)⟩
   obtain⟨⟨hs1,hs2,_⟩,b1,o1,ha1,hc1⟩:=HA.out k y hy;have HC:=Hh hc1;obtain⟨c1,c2,c3,c4,c5⟩:=HC.out wr hf;obtain⟨T0,hT0⟩:∃T0,T0=y.2.1.1:=⟨_,rfl⟩;obtain⟨N0,hN0⟩:∃N0,N0=y.2.2.1:=⟨_,rfl⟩;rw[←hT0]at hs1 HC c2;rw[←hN0]at hs2 HC c4;have hw1:IntKind.i64.wrap (-N0)=-N0:=(by rw[IntKind.wrap_i64];omega);have HNg:=Hh (fun(W:World)=>zfv T0 (y.2.1.2:Int) W (by omega));have ix1:=ixNX aa n ac k b1 o1 hlt ha1;have aL:(k:Int)<(n:Int):=by omega
   have hn9:n≤1000000:=H9.out;have HRr:=Hh hr;have HFr:=Hh hf;have HY:=Hh hy;have HKl:=Hh hlt;have HTN:=Hh (And.intro hT0 hN0);have HSz:=Hh (show w.heap.size≤wr.heap.size from hf.size);have HBd:=Hh (show(k+1)*40≤140737488355328 by omega);clear hr hf hy hc1 hk ha1 hlt hT0 hN0 hs1 hs2;go_upto_region 5 with fail;have K0:Fr NoM w wr:=HFr.out;have K1:Fr NoM w wr.drew:=HFr.out.drew;go_region_held3 (fun(W:World)=>W.cell? ⟨b1,o1+k*5,none⟩=some (.bool y.1)/\W.cell? ⟨b1,o1+k*5+1,none⟩=some (.int .i64 T0)/\W.cell? ⟨b1,o1+k*5+2,none⟩=some (.int .i64 (y.2.1.2:Int))/\W.cell? ⟨b1,o1+k*5+3,none⟩=some (.int .i64 N0)/\W.cell? ⟨b1,o1+k*5+4,none⟩=some (.int .i64 (y.2.2.2:Int)))
    (first|exact HC.out _ (by assumption)|exact HC.out _ (Fr.alloc (by assumption) _))
    (first
     | ((refine zvd rfl (.tmp 12) (.tmp 36) 148 rfl w.heap.size 151 _ 5 40 Tryz.underlying148 zn0 rfl (by decide) v k (zd3 (zbq (A.take k))) rfl (by exact za2 HRr.out (kd.alloc _) (fun _ _ q=>q)) wd.heap.size rfl [.bool y.1,.int .i64 (-T0),.int .i64 (y.2.1.2:Int),.int .i64 (-N0),.int .i64 (y.2.2.2:Int)] 151 (heap_alloc_new wd _) rfl (by intro u hu;simp at hu;rcases hu with rfl|rfl|rfl|rfl|rfl <;> rfl) HBd.out (by decide) (by have:=HSz.out;have:=kd.size;simp;omega) ?_);(intro v' w7 h7 f7 s7);(have K7:Fr NoM w w7:=Fr.own (e:=151) (size:=5) (n:=k) (xs:=zd3 (zbq (A.take k))) (HFr.out.trans (kd.alloc _) (fun _ _ q=>q)) (za2 HRr.out (kd.alloc _) (fun _ _ q=>q)) f7))
     | ((go_simp;go_at_call 189);(with_reducible refine(HNg.out _).mono ?_);(rintro e wd ⟨rfl,fd⟩);(have kd:Fr NoM wr wd:=Fr.trans (by first|exact Fr.refl _ _|exact(Fr.refl NoM wr).drew) fd (fun _ _ q=>q));(have kw:Fr NoM w wd:=HFr.out.trans kd (fun _ _ q=>q)))
     | fail)
   all_goals
    have H7:=Hh h7;have F7:=Hh f7;have KD:=Hh kd;clear h7 f7 s7 kd;go_wp2;go_roundw
    case rel =>
     have hlt:=HKl.out;have h7:=H7.out;refine⟨v',k+1,rfl,by go_num,by omega,?_,?_⟩
     ·rw[zu0 A HY.out,zi7];rw[HTN.out.1,HTN.out.2]at h7;exact h7
     ·exact Fr.own (e:=151) (size:=5) (n:=k) (xs:=zd3 (zbq (A.take k))) (HFr.out.trans (KD.out.alloc _) (fun _ _ q=>q)) (za2 HRr.out (KD.out.alloc _) (fun _ _ q=>q)) F7.out
    case measure=>have hlt:=HKl.out;simp[intOf];omega
  ·have hkn:k=n:=by omega
   subst hkn;have aL:¬(k:Int)<(k:Int):=by omega
   have HRr:=Hh hr;have HFr:=Hh hf;clear hr hf;go_wp2;have e:A.take k=A:=by rw[Hn.out];exact List.take_length
   have h:=HRr.out;rw[e]at h;go_ret;exact⟨_,rfl,Fives.of_owns h,HFr.out⟩
noncomputable def valV (c:Nat):Value:=.agg #[.int .i64 (valD c).1,.int .i64 ((valD c).2:Int)]
theorem zr9 {c:Nat}(h:isNB c=true){s:Int}{N:Nat}(e:redT s N=valT c):(valB c=true↔GoodD (redT s N).1 (redT s N).2)/\lowT s N (valB c)=valV c:=by
 have h1:=(zrg h).good;rw[e];refine⟨h1,?_⟩;unfold lowT valV;rw[e];cases hb:valB c with
 | true=>rw[if_pos rfl];unfold valD;rw[if_pos hb]
 | false=>rw[zdk hb];rfl
theorem zrz {c l:Nat}(h:isNB c=true)(hl:hasL c l)(hR:∀r,¬hasR c r):(valB l=false→valB c=false)/\(valB l=true→redT ((valD l).1*2^(16-(valD l).2)+1*2^(16-0)) 16=valT c):=by
 obtain⟨k,k0,v1,v2⟩:=zs1 h hl hR;constructor
 ·intro e
  cases hc:valB c with
  | false=>rfl
  | true =>
   have h1:=v1.good.1 hc;have h2:GoodD (k-1) (0:Nat):=⟨by have:=h1.1;omega,by decide,.inl rfl⟩;rw[v2.good.2 h2]at e;cases e
 ·intro e
  rw[(v2.goodD (v2.good.1 e)).2,v1.val];have:=zcf 16 0 k;rw[show(k-1,0).1*2^(16-(k-1,0).2)+1*2^(16-0)=k*2^16 from by simp only[Nat.sub_zero];omega];rw[show 16=0+16 from rfl,this];rfl
theorem zry {c r:Nat}(h:isNB c=true)(hr:hasR c r)(hL:∀l,¬hasL c l):(valB r=false→valB c=false)/\(valB r=true→redT ((valD r).1*2^(16-(valD r).2) + -1*2^(16-0)) 16=valT c):=by
 obtain⟨k,k0,v1,v2⟩:=zo9 h hr hL;constructor
 ·intro e
  cases hc:valB c with
  | false=>rfl
  | true =>
   have h1:=v1.good.1 hc;have h2:GoodD (k+1) (0:Nat):=⟨by have:=h1.1;omega,by decide,.inl rfl⟩;rw[v2.good.2 h2]at e;cases e
 ·intro e
  rw[(v2.goodD (v2.good.1 e)).2,v1.val];have:=zcf 16 0 k;rw[show(k+1,0).1*2^(16-(k+1,0).2) + -1*2^(16-0)=k*2^16 from by simp only[Nat.sub_zero];omega];rw[show 16=0+16 from rfl,this];rfl
theorem zkd {c l r:Nat}(h:isNB c=true)(hl:hasL c l)(hr:hasR c r):(valB l=false∨valB r=false→valB c=false)/\(valB l=true→valB r=true→redT ((valD l).1*2^(16-(valD l).2)+(valD r).1*2^(16-(valD r).2)) 17=valT c):=by
 obtain⟨t,p,v,hp,ho,vl,vr⟩:=zs2 h hl hr;constructor
 ·intro e
  cases hc:valB c with
  | false=>rfl
  | true =>
   obtain⟨g1,g2⟩:=zv4 hp ho (v.good.1 hc);rcases e with e|e
   ·rw[vl.good.2 g1]at e;cases e
   ·rw[vr.good.2 g2]at e;cases e
 ·intro e1 e2
  have g1:=vl.good.1 e1;have g2:=vr.good.1 e2;rw[(vl.goodD g1).2,(vr.goodD g2).2,v.val];exact(zv5 hp ho g1 g2).2
theorem zrx {c:Nat}(h:isNB c=true)(hL:∀l,¬hasL c l)(hR:∀r,¬hasR c r):valB c=true/\valD c=(0,0) :=
 (zyi h hL hR).goodD ⟨by decide,by decide,.inl rfl⟩
theorem zhu {c:Nat}(h:isNB c=false):valB c=false:=by unfold valB;rw[h];rfl
theorem eqNX (x y:NX)(w:World):(binOp .eql 151 (encX x) (encX y)).run Tryz.prog w=.ok (.bool (decide (x=y))) w:=by
 obtain⟨g,⟨t,p⟩,n,s⟩:=x;obtain⟨g',⟨t',p'⟩,n',s'⟩:=y;unfold encX;go_simp;have i1:((p:Int)=(p':Int))↔p=p':=by omega
 have i2:((s:Int)=(s':Int))↔s=s':=by omega
 simp only[i1,i2];by_cases h1:g=g' <;> by_cases h2:t=t' <;> by_cases h3:p=p' <;> by_cases h4:n=n' <;> by_cases h5:s=s' <;> simp[h1,h2,h3,h4,h5]
theorem znt {L:List NX}{k:Nat}{y z:NX}(h:L[k]?=some y):z∈L.take (k+1)↔z∈L.take k∨y=z:=by
 rw[List.take_add_one,h,List.mem_append];simp[eq_comm]
set_option maxRecDepth 4000 in
set_option maxHeartbeats 4000000 in
theorem zm0 (lv:Value)(L:List NX)(T:Int)(P:Nat)(w:World)(hL:Fives w lv L)(h9:L.length≤1000000)(b:Bool)(hb:b=zbs L (T,P)) :
  Calls Tryz.prog 197 #[lv,.agg #[.int .i64 T,.int .i64 (P:Int)]] w fun e w'=>e=.returned (.bool b)/\Fr NoM w w':=by
 obtain⟨w1,hw1⟩:∃w1,w1=w.alloc (.cells #[.int .i64 T,.int .i64 (P:Int)] 29):=⟨_,rfl⟩;have f1:Fr NoM w w1:=by rw[hw1];exact(Fr.refl NoM w).alloc _
 have e1:w1.heap[w.heap.size]?=some (.cells #[.int .i64 T,.int .i64 (P:Int)] 29 (0,0)):=by rw[hw1];exact heap_alloc_new w _
 have HD:=Hh (fun(W:World) (f:Fr NoM w1 W)=>show W.cell? ⟨w.heap.size,0,none⟩=some (.int .i64 T)/\W.cell? ⟨w.heap.size,1,none⟩=some (.int .i64 (P:Int))from by
  have h1:=f.heap e1 (fun q=>q);exact⟨by rw[cell_of_row W _ 0 _ _ _ h1];rfl,by rw[cell_of_row W _ 1 _ _ _ h1];rfl⟩)
 obtain⟨la,lc,rfl,_,_,hcl⟩:=id hL;have HL:=Hh (fun(k:Nat) (y:NX) (hx:L[k]?=some y)=>show ∃b off,la=some ⟨b,off,none⟩/\∀W,Fr NoM w1 W→W.cell? ⟨b,off+k*5,none⟩=some (.bool y.1)/\W.cell? ⟨b,off+k*5+1,none⟩=some (.int .i64 y.2.1.1) ∧
   W.cell? ⟨b,off+k*5+2,none⟩=some (.int .i64 (y.2.1.2:Int))/\W.cell? ⟨b,off+k*5+3,none⟩=some (.int .i64 y.2.2.1)/\W.cell? ⟨b,off+k*5+4,none⟩=some (.int .i64 (y.2.2.2:Int))from by
  obtain⟨b,off,ha,c1,c2,c3,c4,c5⟩:=hcl k y hx;refine⟨b,off,ha,fun W f'=>?_⟩;have f:=f1.trans f' (fun _ _ q=>q);exact⟨f.cell c1 (fun q=>q),f.cell c2 (fun q=>q),f.cell c3 (fun q=>q),f.cell c4 (fun q=>q),f.cell c5 (fun q=>q)⟩)
 have F1:=Hh f1;have H9:=Hh h9;have HB:=Hh hb;clear hL hcl h9 f1 e1 hb;obtain⟨n,hn⟩:∃n,n=L.length:=⟨_,rfl⟩;rw[←hn]at H9 ⊢;have Hn:=Hh hn;clear hn;go_enter Tryz.func197,Tryz.ntmps197;go_upto_region 1 with fail;rw[←hw1];clear hw1;go_wp2_with fail;go_loopw [5] (fun v5 wr=>∃(i:Nat),v5=.int .i64 (i:Int)/\i≤n/\(∀j,j<i→(true,(T,P),(0:Int),j)∈L)/\Fr NoM w1 wr) (fun v5 _=>n-(intOf v5).toNat)
 case atStart=>exact⟨0,rfl,Nat.zero_le _,fun j hj=>absurd hj (Nat.not_lt_zero _),Fr.refl _ _⟩
 case round =>
  obtain⟨i,rfl,hi,hall,hf⟩:=hrel;obtain⟨w5,rfl⟩:∃w5,w5=wr:=⟨_,rfl⟩;by_cases hlt:i<n
  ·have aL:(i:Int)<(n:Int):=by omega
   have hn9:n≤1000000:=H9.out;have HFr:=Hh hf;have HAll:=Hh hall;have HI:=Hh hlt;clear hf hall hlt hi;go_wp2_with fail;go_loopw [6,7] (fun v6 v7 wr=>∃(k:Nat) (f:Bool),v6=.bool f/\v7=.int .i64 (k:Int)/\k≤n/\(f=true↔(true,(T,P),(0:Int),i)∈L.take k)/\Fr NoM w1 wr) (fun _ v7 _=>n-(intOf v7).toNat)
   case atStart=>exact⟨0,false,rfl,rfl,Nat.zero_le _,(by simp),HFr.out⟩
   case round =>
    obtain⟨k,f,rfl,rfl,hk,hfd,hf⟩:=hrel;obtain⟨w6,rfl⟩:∃w6,w6=wr:=⟨_,rfl⟩;by_cases hlk:k<n
    ·obtain⟨y,hy⟩:∃y,L[k]?=some y:=⟨_,List.getElem?_eq_getElem (show k<L.length by have:=Hn.out;omega)⟩
     obtain⟨b1,o1,ha1,hc1⟩:=HL.out k y hy;obtain⟨c1,c2,c3,c4,c5⟩:=hc1 w6 hf;obtain⟨d1,d2⟩:=HD.out w6 hf;have ix1:=ixNX la n lc k b1 o1 hlk ha1;have bL:(k:Int)<(n:Int):=by omega
     have HFk:=Hh hf;have HFd:=Hh hfd;have HY:=Hh hy;have HK:=Hh hlk;have HNx:=Hh (znt (z:=(true,(T,P),(0:Int),i)) hy);clear hf hfd hy hlk hc1 hk ha1;cases f with
     | true =>
      have HIn:=Hh (HFd.out.1 rfl);go_wp2_with fail;go_quiet (fail);go_wp2;go_roundw
      case rel=>have hlt:=HK.out;exact⟨k+1,true,rfl,by go_num,by omega,⟨fun _=>HNx.out.2 (.inl HIn.out),fun _=>rfl⟩,HFk.out.trans (zcn _ _) (fun _ _ q=>q)⟩
      case measure=>have hlt:=HK.out;simp[intOf];omega
     | false =>
      have HNo:=Hh (show ¬(true,(T,P),(0:Int),i)∈L.take k from fun h=>by have:=HFd.out.2 h;cases this);obtain⟨g,⟨T1,P1⟩,n1,s1⟩:=y;simp only at c1 c2 c3 c4 c5;obtain⟨q,hq⟩:∃q:Bool,q=decide (((g,(T1,P1),n1,s1):NX)=(true,(T,P),(0:Int),i)):=⟨_,rfl⟩;have hEq:∀W:World,(binOp .eql 151 (.agg #[.bool g,.int .i64 T1,.int .i64 (P1:Int),.int .i64 n1,.int .i64 (s1:Int)]) (.agg #[.bool true,.int .i64 T,.int .i64 (P:Int),.int .i64 0,.int .i64 (i:Int)])).run Tryz.prog W=.ok (.bool q) W:=fun W=>by rw[hq];exact eqNX (g,(T1,P1),n1,s1) (true,(T,P),0,i) W
      have HQ:=Hh (show q=true↔((g,(T1,P1),n1,s1):NX)=(true,(T,P),(0:Int),i)from by rw[hq,decide_eq_true_iff]);clear hq;go_wp2_with fail;go_quiet (fail);go_wp2;go_roundw
      case rel=>have hlt:=HK.out;exact⟨k+1,q,rfl,by go_num,by omega,HQ.out.trans ⟨fun e=>HNx.out.2 (.inr e),fun h=>(HNx.out.1 h).elim (fun h=>absurd h HNo.out) (fun e=>e)⟩,HFk.out.trans (zcn _ _) (fun _ _ q=>q)⟩
      case measure=>have hlt:=HK.out;simp[intOf];omega
    ·have hkn:k=n:=by omega
     subst hkn;have bL:¬(k:Int)<(k:Int):=by omega
     have ek:L.take k=L:=by rw[Hn.out];exact List.take_length
     rw[ek]at hfd;have HFk:=Hh hf;have HFd:=Hh hfd;clear hf hfd ek hk;cases f with
     | true =>
      have HIn:=Hh (HFd.out.1 rfl);go_wp2;go_roundw
      case rel =>
       have hlt:=HI.out;refine⟨i+1,by go_num,by omega,fun j hj=>?_,HFk.out⟩;by_cases e:j=i
       ·rw[e];exact HIn.out
       ·exact HAll.out j (by omega)
      case measure=>have hlt:=HI.out;simp[intOf];omega
     | false =>
      have HE:=Hh (show b=false from by
       rw[HB.out];refine decide_eq_false fun h=>?_
       have:=HFd.out.2 (h.2 i (by rw[←Hn.out];exact HI.out));cases this)
      go_wp2;go_ret;exact⟨by rw[HE.out];rfl,F1.out.trans HFk.out (fun _ _ q=>q)⟩
  ·have hin:i=n:=by omega
   subst hin;have aL:¬(i:Int)<(i:Int):=by omega
   have HFr:=Hh hf;have HAll:=Hh hall;have HE:=Hh (show b=decide (0<i)from by
    rw[HB.out];unfold zbs;rw[←Hn.out,decide_eq_decide];exact⟨fun h=>by have:=h.1;omega,fun h=>⟨by omega,HAll.out⟩⟩)
   clear hf hall hi;go_wp2;go_ret;exact⟨by rw[HE.out];rfl,F1.out.trans HFr.out (fun _ _ q=>q)⟩
theorem yc3 {L R:List NX}(h:L.length=0):zbn L R=nx0:=by unfold zbn;rw[if_pos (.inl h)]
theorem yc2 {L R:List NX}(h:R.length=0):zbn L R=nx0:=by unfold zbn;rw[if_pos (.inr (.inl h))]
theorem yc1 {L R:List NX}(h:(zae L).1=false):zbn L R=nx0:=by unfold zbn;rw[if_pos (.inr (.inr (.inl h)))]
theorem yc0 {L R:List NX}(h:(zae R).1=false):zbn L R=nx0:=by unfold zbn;rw[if_pos (.inr (.inr (.inr (.inl h))))]
theorem ybz {L R:List NX}(h:(zae L).2.1≠(zae R).2.1):zbn L R=nx0:=by unfold zbn;rw[if_pos (.inr (.inr (.inr (.inr h))))]
def zkm (n m:Nat)(d:Int × Nat)(y:NX)(t1 t2:Bool):NX :=
 if t1=false then nx0
 else if n=m/\t2=true then (true,d,0,n)
 else if n=2/\m=1/\y=(true,d,0,0)then (true,d,1,1)
 else if n=1/\m=1/\0≤y.2.2.1 then (true,d,y.2.2.1+1,y.2.2.2 ^^^ 1)
 else nx0
theorem zuc {L R:List NX}(h1:L.length≠0)(h2:R.length≠0)(h3:(zae L).1=true)(h4:(zae R).1=true)(h5:(zae L).2.1=(zae R).2.1):zbn L R=zkm L.length R.length (zae L).2.1 (zae R) (zbs L (zae L).2.1) (zbs R (zae L).2.1):=by
 unfold zbn;rw[if_neg (by
  rintro(e|e|e|e|e)
  ·exact h1 e
  ·exact h2 e
  ·rw[h3]at e;cases e
  ·rw[h4]at e;cases e
  ·exact e h5)]
 rfl
theorem ixN0 (a:Option Addr)(n c b off:Nat)(hk:0<n)(ha:a=some ⟨b,off,none⟩)(w:World) :
  (Instr.indexAt 148 (.slice a n c) (.int .i64 0)).run Tryz.prog w=.ok (.pointer (some ⟨b,off,none⟩)) w:=by
 have h:=ixNX a n c 0 b off hk ha w;rw[Nat.zero_mul,Nat.add_zero]at h;exact h
theorem yd8 (t t':Int)(p p':Nat)(w:World):(binOp .neq 29 (.agg #[.int .i64 t,.int .i64 (p:Int)]) (.agg #[.int .i64 t',.int .i64 (p':Int)])).run Tryz.prog w=.ok (.bool (decide (¬(t,p)=(t',p')))) w:=by
 go_simp;have i1:((p:Int)=(p':Int))↔p=p':=by omega
 simp only[i1];by_cases h1:t=t' <;> by_cases h2:p=p' <;> simp[h1,h2]
theorem zta {L:List NX}(h:L.length≠0):L[0]?=some (zae L):=by
 cases L with
 | nil=>exact absurd rfl h
 | cons x L=>rfl
set_option maxRecDepth 8000 in
set_option maxHeartbeats 8000000 in
theorem zmy (lv rv:Value)(L R:List NX)(w:World)(hL:Fives w lv L)(hR:Fives w rv R)(h9:L.length≤1000000)(k9:R.length≤1000000)(hS:∀x∈R,zep x) :
  Calls Tryz.prog 170 #[lv,rv] w fun e w'=>e=.returned (encX (zbn L R))/\Fr NoM w w':=by
 obtain⟨w1,hw1⟩:∃w1,w1=w.alloc (.cells #[.bool false,.int .i64 0,.int .i64 0,.int .i64 0,.int .i64 0] 151):=⟨_,rfl⟩;have f1:Fr NoM w w1:=by rw[hw1];exact(Fr.refl NoM w).alloc _
 have e1:w1.heap[w.heap.size]?=some (.cells #[.bool false,.int .i64 0,.int .i64 0,.int .i64 0,.int .i64 0] 151 (0,0)):=by rw[hw1];exact heap_alloc_new w _
 have HRs:=Hh (fun(W:World) (f:Fr NoM w1 W)=>show(W.cell? ⟨w.heap.size,0,none⟩=some (.bool false)/\W.cell? ⟨w.heap.size,1,none⟩=some (.int .i64 0)/\W.cell? ⟨w.heap.size,2,none⟩=some (.int .i64 0)/\W.cell? ⟨w.heap.size,3,none⟩=some (.int .i64 0)/\W.cell? ⟨w.heap.size,4,none⟩=some (.int .i64 0)) ∧
   W.frozen? ⟨w.heap.size,0,none⟩=false/\W.frozen? ⟨w.heap.size,1,none⟩=false/\W.frozen? ⟨w.heap.size,2,none⟩=false/\W.frozen? ⟨w.heap.size,3,none⟩=false/\W.frozen? ⟨w.heap.size,4,none⟩=false from by
  have h1:=f.heap e1 (fun q=>q);exact⟨⟨by rw[cell_of_row W _ 0 _ _ _ h1];rfl,by rw[cell_of_row W _ 1 _ _ _ h1];rfl,by rw[cell_of_row W _ 2 _ _ _ h1];rfl,by rw[cell_of_row W _ 3 _ _ _ h1];rfl,by rw[cell_of_row W _ 4 _ _ _ h1];rfl⟩,by simp[World.frozen?,h1],by simp[World.frozen?,h1],by simp[World.frozen?,h1],by simp[World.frozen?,h1],by simp[World.frozen?,h1]⟩)
 have HFin:=Hh (fun(W:World) (y0 y1 y2 y3 y4:Value) (f:Fr NoM w1 W)=>(((((((f1.trans f (fun _ _ q=>q)).setCell ⟨w.heap.size,0,none⟩ y0 (fun h=>by have h:w.heap.size<w.heap.size:=h;omega)).setCell ⟨w.heap.size,1,none⟩ y1 (fun h=>by have h:w.heap.size<w.heap.size:=h;omega)).setCell ⟨w.heap.size,2,none⟩ y2 (fun h=>by have h:w.heap.size<w.heap.size:=h;omega)).setCell ⟨w.heap.size,3,none⟩ y3 (fun h=>by have h:w.heap.size<w.heap.size:=h;omega)).setCell ⟨w.heap.size,4,none⟩ y4 (fun h=>by have h:w.heap.size<w.heap.size:=h;omega)):Fr NoM w (((((W.setCell ⟨w.heap.size,0,none⟩ y0).setCell ⟨w.heap.size,1,none⟩ y1).setCell ⟨w.heap.size,2,none⟩ y2).setCell ⟨w.heap.size,3,none⟩ y3).setCell ⟨w.heap.size,4,none⟩ y4)));have HSt:=Hh (fun(W:World) (f:Fr NoM w1 W) (T:Int) (P:Nat) (b:Bool) (hb:b=zbs L (T,P))=>zm0 lv L T P W (hL.fr0 (f1.trans f (fun _ _ q=>q))) h9 b hb);have HSu:=Hh (fun(W:World) (f:Fr NoM w1 W) (T:Int) (P:Nat) (b:Bool) (hb:b=zbs R (T,P))=>zm0 rv R T P W (hR.fr0 (f1.trans f (fun _ _ q=>q))) k9 b hb);obtain⟨la,lc,rfl,_,_,hcl⟩:=id hL;obtain⟨ra,rc,rfl,_,_,hcr⟩:=id hR;have HL:=Hh (fun(hx:L.length≠0)=>show ∃b off,la=some ⟨b,off,none⟩/\∀W,Fr NoM w1 W→W.cell? ⟨b,off,none⟩=some (.bool (zae L).1)/\W.cell? ⟨b,off+1,none⟩=some (.int .i64 (zae L).2.1.1) ∧
   W.cell? ⟨b,off+2,none⟩=some (.int .i64 ((zae L).2.1.2:Int))/\W.cell? ⟨b,off+3,none⟩=some (.int .i64 (zae L).2.2.1)/\W.cell? ⟨b,off+4,none⟩=some (.int .i64 ((zae L).2.2.2:Int))from by
  obtain⟨b,off,ha,c1,c2,c3,c4,c5⟩:=hcl 0 _ (zta hx);rw[Nat.zero_mul,Nat.add_zero]at c1 c2 c3 c4 c5;refine⟨b,off,ha,fun W f'=>?_⟩;have f:=f1.trans f' (fun _ _ q=>q);exact⟨f.cell c1 (fun q=>q),f.cell c2 (fun q=>q),f.cell c3 (fun q=>q),f.cell c4 (fun q=>q),f.cell c5 (fun q=>q)⟩)
 have HR:=Hh (fun(hx:R.length≠0)=>show ∃b off,ra=some ⟨b,off,none⟩/\zep (zae R)/\b<w.heap.size/\∀W,Fr NoM w1 W→W.cell? ⟨b,off,none⟩=some (.bool (zae R).1)/\W.cell? ⟨b,off+1,none⟩=some (.int .i64 (zae R).2.1.1) ∧
   W.cell? ⟨b,off+2,none⟩=some (.int .i64 ((zae R).2.1.2:Int))/\W.cell? ⟨b,off+3,none⟩=some (.int .i64 (zae R).2.2.1)/\W.cell? ⟨b,off+4,none⟩=some (.int .i64 ((zae R).2.2.2:Int))from by
  obtain⟨b,off,ha,c1,c2,c3,c4,c5⟩:=hcr 0 _ (zta hx);rw[Nat.zero_mul,Nat.add_zero]at c1 c2 c3 c4 c5;refine⟨b,off,ha,hS _ (zt9 hx),World.block_lt_of_cell? w _ c1,fun W f'=>?_⟩;have f:=f1.trans f' (fun _ _ q=>q);exact⟨f.cell c1 (fun q=>q),f.cell c2 (fun q=>q),f.cell c3 (fun q=>q),f.cell c4 (fun q=>q),f.cell c5 (fun q=>q)⟩)
 have H9:=Hh (And.intro h9 k9);have e1l:=Hh (show w.heap.size<w1.heap.size from(Array.getElem?_eq_some_iff.1 e1).1);clear hL hR hcl hcr h9 k9 f1 e1 hS;obtain⟨n,hn⟩:∃n,n=L.length:=⟨_,rfl⟩;obtain⟨m,hm⟩:∃m,m=R.length:=⟨_,rfl⟩;rw[←hn]at H9 HL HSt ⊢;rw[←hm]at H9 HR HSu ⊢;have Hn:=Hh hn;have Hm:=Hh hm;clear hn hm;obtain⟨z,hz⟩:∃z,z=zbn L R:=⟨_,rfl⟩;rw[←hz];have HZ:=Hh hz;clear hz;obtain⟨⟨r0,r1,r2,r3,r4⟩,q0,q1,q2,q3,q4⟩:=HRs.out w1 (Fr.refl _ _);go_enter Tryz.func170,Tryz.ntmps170;go_upto_region 1 with fail;rw[←hw1];clear hw1;by_cases l0:n=0
 ·have a1:((n:Int) == 0)=true:=by rw[l0];rfl
  have HE:=Hh (show z=nx0 from by rw[HZ.out];exact yc3 (by rw[←Hn.out];exact l0));go_wp2_with fail;go_quiet (fail);go_wp2_with fail;refine bodyPost_ret (v:=encX nx0) (by simp[results,Tryz.results170,go_sem,r0,r1,r2,r3,r4,q0,q1,q2,q3,q4,encX,nx0]) rfl ?_
  exact⟨by rw[HE.out],by first|exact HFin.out _ _ _ _ _ _ (Fr.refl _ _)|exact HFin.out _ _ _ _ _ _ (zcn _ _)|exact HFin.out _ _ _ _ _ _ (by assumption)⟩
 by_cases m0:m=0
 ·have a1:((n:Int) == 0)=false:=by rw[beq_eq_false_iff_ne];omega
  have a2:((m:Int) == 0)=true:=by rw[m0];rfl
  have HE:=Hh (show z=nx0 from by rw[HZ.out];exact yc2 (by rw[←Hm.out];exact m0));go_wp2_with fail;go_quiet (fail);go_wp2_with fail;refine bodyPost_ret (v:=encX nx0) (by simp[results,Tryz.results170,go_sem,r0,r1,r2,r3,r4,q0,q1,q2,q3,q4,encX,nx0]) rfl ?_
  exact⟨by rw[HE.out],by first|exact HFin.out _ _ _ _ _ _ (Fr.refl _ _)|exact HFin.out _ _ _ _ _ _ (zcn _ _)|exact HFin.out _ _ _ _ _ _ (by assumption)⟩
 have a1:((n:Int) == 0)=false:=by rw[beq_eq_false_iff_ne];omega
 have a2:((m:Int) == 0)=false:=by rw[beq_eq_false_iff_ne];omega
 obtain⟨b1,o1,ha1,hc1⟩:=HL.out l0;obtain⟨b2,o2,ha2,hsm,hb2,hc2⟩:=HR.out m0;have ix1:=ixN0 la n lc b1 o1 (by omega) ha1;have ix2:=ixN0 ra m rc b2 o2 (by omega) ha2;have HX:=Hh (show zae L=zae L from rfl);obtain⟨x,hx⟩:∃x,x=zae L:=⟨_,rfl⟩;obtain⟨y,hy⟩:∃y,y=zae R:=⟨_,rfl⟩;rw[←hx]at hc1;rw[←hy]at hc2 hsm;obtain⟨g1,⟨T1,P1⟩,n1,s1⟩:=x;obtain⟨g2,⟨T2,P2⟩,n2,s2⟩:=y;have HC1:=Hh hc1;have HC2:=Hh hc2;have Hx:=Hh hx;have Hy:=Hh hy;have HSm:=Hh hsm;have Hb2:=Hh hb2;obtain⟨c1,c2,c3,_,_⟩:=hc1 w1 (Fr.refl _ _);obtain⟨d1,d2,d3,d4,d5⟩:=hc2 w1 (Fr.refl _ _);simp only at c1 c2 c3 d1 d2 d3 d4 d5;clear hc1 hc2 ha1 ha2 hx hy hsm hb2 HX;cases g1 with
 | false =>
  have HE:=Hh (show z=nx0 from by rw[HZ.out];exact yc1 (by rw[←Hx.out]));go_wp2_with fail;go_quiet (fail);go_wp2_with fail;refine bodyPost_ret (v:=encX nx0) (by simp[results,Tryz.results170,go_sem,r0,r1,r2,r3,r4,q0,q1,q2,q3,q4,encX,nx0]) rfl ?_
  exact⟨by rw[HE.out],by first|exact HFin.out _ _ _ _ _ _ (Fr.refl _ _)|exact HFin.out _ _ _ _ _ _ (zcn _ _)|exact HFin.out _ _ _ _ _ _ (by assumption)⟩
 | true =>
 cases g2 with
 | false =>
  have HE:=Hh (show z=nx0 from by rw[HZ.out];exact yc0 (by rw[←Hy.out]));go_wp2_with fail;go_quiet (fail);go_wp2_with fail;refine bodyPost_ret (v:=encX nx0) (by simp[results,Tryz.results170,go_sem,r0,r1,r2,r3,r4,q0,q1,q2,q3,q4,encX,nx0]) rfl ?_
  exact⟨by rw[HE.out],by first|exact HFin.out _ _ _ _ _ _ (Fr.refl _ _)|exact HFin.out _ _ _ _ _ _ (zcn _ _)|exact HFin.out _ _ _ _ _ _ (by assumption)⟩
 | true =>
 obtain⟨q,hq⟩:∃q:Bool,q=decide (¬(T1,P1)=(T2,P2)):=⟨_,rfl⟩;have hne:∀W:World,(binOp .neq 29 (.agg #[.int .i64 T1,.int .i64 (P1:Int)]) (.agg #[.int .i64 T2,.int .i64 (P2:Int)])).run Tryz.prog W=.ok (.bool q) W:=fun W=>by rw[hq];exact yd8 T1 T2 P1 P2 W
 have HQ:=Hh (show q=true↔¬(T1,P1)=(T2,P2)from by rw[hq,decide_eq_true_iff]);clear hq;cases q with
 | true =>
  have HE:=Hh (show z=nx0 from by rw[HZ.out];exact ybz (by rw[←Hx.out,←Hy.out];exact HQ.out.1 rfl));go_wp2_with fail;go_quiet (fail);go_wp2_with fail;refine bodyPost_ret (v:=encX nx0) (by simp[results,Tryz.results170,go_sem,r0,r1,r2,r3,r4,q0,q1,q2,q3,q4,encX,nx0]) rfl ?_
  exact⟨by rw[HE.out],by first|exact HFin.out _ _ _ _ _ _ (Fr.refl _ _)|exact HFin.out _ _ _ _ _ _ (zcn _ _)|exact HFin.out _ _ _ _ _ _ (by assumption)⟩
 | false =>
 have hTP:(T1,P1)=(T2,P2):=Classical.byContradiction fun h=>by have:=HQ.out.2 h;cases this
 obtain⟨t1,ht1⟩:∃t1,t1=zbs L (T1,P1):=⟨_,rfl⟩;obtain⟨t2,ht2⟩:∃t2,t2=zbs R (T1,P1):=⟨_,rfl⟩;have HZr:=Hh (show z=zkm n m (T1,P1) (true,(T2,P2),n2,s2) t1 t2 from by
  rw[HZ.out,zuc (by rw[←Hn.out];exact l0) (by rw[←Hm.out];exact m0) (by rw[←Hx.out]) (by rw[←Hy.out]) (by rw[←Hx.out,←Hy.out];exact hTP),←Hx.out,←Hy.out,←Hn.out,←Hm.out,ht1,ht2])
 have HSt1:=Hh (fun(W:World) (f:Fr NoM w1 W)=>HSt.out W f T1 P1 t1 ht1);have HSu1:=Hh (fun(W:World) (f:Fr NoM w1 W)=>HSu.out W f T1 P1 t2 ht2);have hsm:=HSm.out;have HM:=Hh (show IntKind.i64.wrap (n2+1)=n2+1/\wrap64 (n2+1)=n2+1/\bits BinOp.xor IntKind.i64 (s2:Int) 1=((s2 ^^^ 1:Nat):Int)from by
  have h1:n2.natAbs≤1000000:=hsm.2.1;have h2:s2≤1000000:=hsm.2.2;exact⟨by rw[IntKind.wrap_i64];omega,by unfold wrap64;omega,zhs s2 (by omega)⟩)
 clear HZ hTP ht1 ht2 HSt HSu hsm;go_wp2_with fail;go_quiet (fail);generalize hw2:World.drewN w1 _=w2
 have f2:Fr NoM w1 w2:=by rw[←hw2];exact zcn _ _
 clear hw2 r0 r1 r2 r3 r4 q0 q1 q2 q3 q4 c1 c2 c3 d1 d2 d3 d4 d5 hne;obtain⟨W3,hW3⟩:∃W3,W3=w2.alloc (.cells #[.int .i64 T1,.int .i64 (P1:Int)] 29):=⟨_,rfl⟩;obtain⟨db,hdb⟩:∃db,db=w2.heap.size:=⟨_,rfl⟩;have f3:Fr NoM w1 W3:=f2.trans (by rw[hW3];exact(Fr.refl NoM w2).alloc _) (fun _ _ q=>q);have e3:W3.heap[db]?=some (.cells #[.int .i64 T1,.int .i64 (P1:Int)] 29 (0,0)):=by rw[hW3,hdb];exact heap_alloc_new w2 _
 have HDb:=Hh (fun(W:World) (f:Fr NoM W3 W)=>show W.cell? ⟨db,0,none⟩=some (.int .i64 T1)/\W.cell? ⟨db,1,none⟩=some (.int .i64 (P1:Int))from by
  have h1:=f.heap e3 (fun q=>q);exact⟨by rw[cell_of_row W _ 0 _ _ _ h1];rfl,by rw[cell_of_row W _ 1 _ _ _ h1];rfl⟩)
 have HDl:=Hh (show w.heap.size<db from by have h1:=f2.size;have h2:=e1l.out;omega);have F3:=Hh f3;obtain⟨c1,c2,c3,_,_⟩:=HC1.out w2 f2
 (try simp only at c1 c2 c3)
 clear e3 f3 f2;go_upto_region 4 with fail;rw[←hW3,←hdb];clear hW3 hdb c1 c2 c3;obtain⟨d1,d2⟩:=HDb.out W3 (Fr.refl _ _);go_wp2_with fail;(with_reducible refine(HSt1.out W3 F3.out).mono ?_);rintro e W4 ⟨rfl,f4⟩;have F34:=Hh f4;have F4:=Hh (F3.out.trans f4 (fun _ _ q=>q));clear f4 d1 d2 HSt1;obtain⟨d1,d2⟩:=HDb.out W4 F34.out;obtain⟨⟨r0,r1,r2,r3,r4⟩,q0,q1,q2,q3,q4⟩:=HRs.out W4 F4.out;cases t1 with
 | false =>
  have FW:=Hh F4.out;have HE:=Hh (show z=nx0 from by rw[HZr.out];unfold zkm;rw[if_pos rfl])
  (try clear HE0);(try clear m1);(try clear h1);(try clear h2);(try clear hnm)
  go_wp2_with fail;refine bodyPost_ret (v:=encX nx0) (by simp[results,Tryz.results170,go_sem,r0,r1,r2,r3,r4,q0,q1,q2,q3,q4,encX,nx0]) rfl ?_
  exact⟨by rw[HE.out],by first|exact HFin.out _ _ _ _ _ _ FW.out|exact HFin.out _ _ _ _ _ _ (FW.out.trans (zcn _ _) (fun _ _ q=>q))⟩
 | true =>
 by_cases hnm:n=m
 ·have e0:((n:Int) == (m:Int))=true:=by rw[hnm];exact beq_self_eq_true _
  clear r0 r1 r2 r3 r4 q0 q1 q2 q3 q4;have Hnm:=Hh hnm;clear hnm;go_wp2_with fail;(with_reducible refine(HSu1.out W4 F4.out).mono ?_);rintro e W5 ⟨rfl,f5⟩;have F35:=Hh (F34.out.trans f5 (fun _ _ q=>q));have F5:=Hh (F4.out.trans f5 (fun _ _ q=>q));clear f5 d1 d2 HSu1 e0;obtain⟨d1,d2⟩:=HDb.out W5 F35.out;have FW:=Hh F5.out;have hnm:=Hnm.out;obtain⟨⟨r0,r1,r2,r3,r4⟩,q0,q1,q2,q3,q4⟩:=HRs.out W5 F5.out;cases t2 with
  | true =>
   have HE:=Hh (show z=(true,(T1,P1),0,n)from by rw[HZr.out];unfold zkm;rw[if_neg (by decide),if_pos ⟨hnm,rfl⟩])
   (try clear HE0);(try clear m1);(try clear h1);(try clear h2);(try clear hnm)
   go_wp2_with fail;refine bodyPost_ret (v:=encX (true,(T1,P1),0,n)) (by simp[results,Tryz.results170,go_sem,r0,r1,r2,r3,r4,q0,q1,q2,q3,q4,encX,nx0]) rfl ?_
   exact⟨by rw[HE.out],by first|exact HFin.out _ _ _ _ _ _ FW.out|exact HFin.out _ _ _ _ _ _ (FW.out.trans (zcn _ _) (fun _ _ q=>q))⟩
  | false =>
  obtain⟨x1,x2,x3,x4,x5⟩:=HC2.out W5 F5.out
  (try simp only at x1 x2 x3 x4 x5)
  by_cases h1:n=1
  ·have m1:m=1:=by omega
   have en2:((n:Int) == 2)=false:=by rw[beq_eq_false_iff_ne];omega
   have en1:((n:Int) == 1)=true:=by rw[beq_iff_eq];omega
   have em1:((m:Int) == 1)=true:=by rw[beq_iff_eq];omega
   by_cases hg:0≤n2
   ·have g1:n2≥0:=hg
    have HE:=Hh (show z=(true,(T1,P1),n2+1,s2 ^^^ 1)from by rw[HZr.out];unfold zkm;rw[if_neg (by decide),if_neg (fun q=>by cases q.2),if_neg (fun q=>by omega),if_pos ⟨h1,m1,hg⟩]);obtain⟨hm1,hm2,hm3⟩:=HM.out;have Hb2':=Hb2.out;have HDl':=HDl.out;clear hnm h1 m1 hg;go_wp2_with fail;go_quiet (fail);go_wp2_with fail;generalize hw6:World.drewN W5 _=W6
    have f6:Fr NoM W5 W6:=by rw[←hw6];exact zcn _ _
    have F6:=Hh (F5.out.trans f6 (fun _ _ q=>q));have F36:=Hh (F35.out.trans f6 (fun _ _ q=>q));clear hw6 f6 d1 d2 x1 x2 x3 x4 x5 r0 r1 r2 r3 r4 q0 q1 q2 q3 q4;obtain⟨⟨r0,r1,r2,r3,r4⟩,q0,q1,q2,q3,q4⟩:=HRs.out W6 F6.out;have HS:=Hh (fun(W:World) (f:Fr (fun q=>q=w.heap.size) W6 W)=>show W.cell? ⟨db,0,none⟩=some (.int .i64 T1)/\W.cell? ⟨db,1,none⟩=some (.int .i64 (P1:Int))/\W.cell? ⟨b2,o2+3,none⟩=some (.int .i64 n2)/\W.cell? ⟨b2,o2+4,none⟩=some (.int .i64 (s2:Int))from by
     obtain⟨d1,d2⟩:=HDb.out W6 F36.out;obtain⟨x1,x2,x3,x4,x5⟩:=HC2.out W6 F6.out;exact⟨f.cell d1 (fun e=>by have e:db=w.heap.size:=e;omega),f.cell d2 (fun e=>by have e:db=w.heap.size:=e;omega),f.cell x4 (fun e=>by have e:b2=w.heap.size:=e;omega),f.cell x5 (fun e=>by have e:b2=w.heap.size:=e;omega)⟩)
    have HSet:=Hh (fun(W:World) (f:Fr (fun q=>q=w.heap.size) W6 W) (y0 y1 y2 y3 y4:Value)=>(((((f.setCell ⟨w.heap.size,0,none⟩ y0 (fun _=>rfl)).setCell ⟨w.heap.size,1,none⟩ y1 (fun _=>rfl)).setCell ⟨w.heap.size,2,none⟩ y2 (fun _=>rfl)).setCell ⟨w.heap.size,3,none⟩ y3 (fun _=>rfl)).setCell ⟨w.heap.size,4,none⟩ y4 (fun _=>rfl):Fr (fun q=>q=w.heap.size) W6 (((((W.setCell ⟨w.heap.size,0,none⟩ y0).setCell ⟨w.heap.size,1,none⟩ y1).setCell ⟨w.heap.size,2,none⟩ y2).setCell ⟨w.heap.size,3,none⟩ y3).setCell ⟨w.heap.size,4,none⟩ y4)));have k0:Fr (fun q=>q=w.heap.size) W6 W6.drew:=(Fr.refl _ W6).drew;have k1:=HSet.out W6 (Fr.refl _ W6) (.bool true) (.int .i64 T1) (.int .i64 (P1:Int)) (.int .i64 (n2+1)) (.int .i64 ((s2 ^^^ 1:Nat):Int));have k2:=k1.drew;have k3:=HSet.out W6.drew k0 (.bool true) (.int .i64 T1) (.int .i64 (P1:Int)) (.int .i64 (n2+1)) (.int .i64 ((s2 ^^^ 1:Nat):Int));clear Hb2' HDl';go_region_held3 (fun(W:World)=>W.cell? ⟨db,0,none⟩=some (.int .i64 T1)/\W.cell? ⟨db,1,none⟩=some (.int .i64 (P1:Int))/\W.cell? ⟨b2,o2+3,none⟩=some (.int .i64 n2)/\W.cell? ⟨b2,o2+4,none⟩=some (.int .i64 (s2:Int)))
     (exact HS.out _ (by assumption))
     (first|fail)
    all_goals
     go_wp2_with fail;refine bodyPost_ret (v:=encX (true,(T1,P1),n2+1,s2 ^^^ 1)) (by simp[results,Tryz.results170,go_sem,r0,r1,r2,r3,r4,q0,q1,q2,q3,q4,encX,nx0]) rfl ?_
     exact⟨by rw[HE.out],by first|exact HFin.out _ _ _ _ _ _ F6.out|exact(HFin.out _ _ _ _ _ _ F6.out).drew|exact HFin.out _ _ _ _ _ _ F6.out.drew⟩
   ·have g1:¬n2≥0:=hg
    have HE:=Hh (show z=nx0 from by rw[HZr.out];unfold zkm;rw[if_neg (by decide),if_neg (fun q=>by cases q.2),if_neg (fun q=>by omega),if_neg (fun q=>hg q.2.2)])
    (try clear HE0);(try clear m1);(try clear h1);(try clear h2);(try clear hnm)
    go_wp2_with fail;go_quiet (fail);go_wp2_with fail;refine bodyPost_ret (v:=encX nx0) (by simp[results,Tryz.results170,go_sem,r0,r1,r2,r3,r4,q0,q1,q2,q3,q4,encX,nx0]) rfl ?_
    exact⟨by rw[HE.out],by first|exact HFin.out _ _ _ _ _ _ FW.out|exact HFin.out _ _ _ _ _ _ (FW.out.trans (zcn _ _) (fun _ _ q=>q))⟩
  ·have en1:((n:Int) == 1)=false:=by rw[beq_eq_false_iff_ne];omega
   have HE0:z=nx0:=by rw[HZr.out];unfold zkm;rw[if_neg (by decide),if_neg (fun q=>by cases q.2),if_neg (fun q=>by omega),if_neg (fun q=>h1 q.1)]
   by_cases h2:n=2
   ·have en2:((n:Int) == 2)=true:=by rw[beq_iff_eq];omega
    have em1:((m:Int) == 1)=false:=by rw[beq_eq_false_iff_ne];omega
    have HE:=Hh (show z=nx0 from HE0)
    (try clear HE0);(try clear m1);(try clear h1);(try clear h2);(try clear hnm)
    go_wp2_with fail;go_quiet (fail);go_wp2_with fail;refine bodyPost_ret (v:=encX nx0) (by simp[results,Tryz.results170,go_sem,r0,r1,r2,r3,r4,q0,q1,q2,q3,q4,encX,nx0]) rfl ?_
    exact⟨by rw[HE.out],by first|exact HFin.out _ _ _ _ _ _ FW.out|exact HFin.out _ _ _ _ _ _ (FW.out.trans (zcn _ _) (fun _ _ q=>q))⟩
   ·have en2:((n:Int) == 2)=false:=by rw[beq_eq_false_iff_ne];omega
    have HE:=Hh (show z=nx0 from HE0)
    (try clear HE0);(try clear m1);(try clear h1);(try clear h2);(try clear hnm)
    go_wp2_with fail;go_quiet (fail);go_wp2_with fail;refine bodyPost_ret (v:=encX nx0) (by simp[results,Tryz.results170,go_sem,r0,r1,r2,r3,r4,q0,q1,q2,q3,q4,encX,nx0]) rfl ?_
    exact⟨by rw[HE.out],by first|exact HFin.out _ _ _ _ _ _ FW.out|exact HFin.out _ _ _ _ _ _ (FW.out.trans (zcn _ _) (fun _ _ q=>q))⟩
 ·have e0:((n:Int) == (m:Int))=false:=by rw[beq_eq_false_iff_ne];omega
  have FW:=Hh F4.out;obtain⟨x1,x2,x3,x4,x5⟩:=HC2.out W4 F4.out
  (try simp only at x1 x2 x3 x4 x5)
  by_cases h2:n=2
  ·have en2:((n:Int) == 2)=true:=by rw[beq_iff_eq];omega
   have en1:((n:Int) == 1)=false:=by rw[beq_eq_false_iff_ne];omega
   by_cases h1:m=1
   ·have em1:((m:Int) == 1)=true:=by rw[beq_iff_eq];omega
    obtain⟨q,hq⟩:∃q:Bool,q=decide (((true,(T2,P2),n2,s2):NX)=(true,(T1,P1),0,0)):=⟨_,rfl⟩;have hEq:∀W:World,(binOp .eql 151 (.agg #[.bool true,.int .i64 T2,.int .i64 (P2:Int),.int .i64 n2,.int .i64 (s2:Int)]) (.agg #[.bool true,.int .i64 T1,.int .i64 (P1:Int),.int .i64 0,.int .i64 0])).run Tryz.prog W=.ok (.bool q) W:=fun W=>by rw[hq];exact eqNX (true,(T2,P2),n2,s2) (true,(T1,P1),0,0) W
    have HQ:=Hh (show q=true↔((true,(T2,P2),n2,s2):NX)=(true,(T1,P1),0,0)from by rw[hq,decide_eq_true_iff]);clear hq;cases q with
    | true =>
     have HE:=Hh (show z=(true,(T1,P1),1,1)from by rw[HZr.out];unfold zkm;rw[if_neg (by decide),if_neg (fun q=>hnm q.1),if_pos ⟨h2,h1,HQ.out.1 rfl⟩])
     (try clear HE0);(try clear m1);(try clear h1);(try clear h2);(try clear hnm)
     go_wp2_with fail;go_quiet (fail);go_wp2_with fail;refine bodyPost_ret (v:=encX (true,(T1,P1),1,1)) (by simp[results,Tryz.results170,go_sem,r0,r1,r2,r3,r4,q0,q1,q2,q3,q4,encX,nx0]) rfl ?_
     exact⟨by rw[HE.out],by first|exact HFin.out _ _ _ _ _ _ FW.out|exact HFin.out _ _ _ _ _ _ (FW.out.trans (zcn _ _) (fun _ _ q=>q))⟩
    | false =>
     have HE:=Hh (show z=nx0 from by rw[HZr.out];unfold zkm;rw[if_neg (by decide),if_neg (fun q=>hnm q.1),if_neg (fun q=>by have:=HQ.out.2 q.2.2;cases this),if_neg (fun q=>by omega)])
     (try clear HE0);(try clear m1);(try clear h1);(try clear h2);(try clear hnm)
     go_wp2_with fail;go_quiet (fail);go_wp2_with fail;refine bodyPost_ret (v:=encX nx0) (by simp[results,Tryz.results170,go_sem,r0,r1,r2,r3,r4,q0,q1,q2,q3,q4,encX,nx0]) rfl ?_
     exact⟨by rw[HE.out],by first|exact HFin.out _ _ _ _ _ _ FW.out|exact HFin.out _ _ _ _ _ _ (FW.out.trans (zcn _ _) (fun _ _ q=>q))⟩
   ·have em1:((m:Int) == 1)=false:=by rw[beq_eq_false_iff_ne];omega
    have HE:=Hh (show z=nx0 from by rw[HZr.out];unfold zkm;rw[if_neg (by decide),if_neg (fun q=>hnm q.1),if_neg (fun q=>h1 q.2.1),if_neg (fun q=>h1 q.2.1)])
    (try clear HE0);(try clear m1);(try clear h1);(try clear h2);(try clear hnm)
    go_wp2_with fail;go_quiet (fail);go_wp2_with fail;refine bodyPost_ret (v:=encX nx0) (by simp[results,Tryz.results170,go_sem,r0,r1,r2,r3,r4,q0,q1,q2,q3,q4,encX,nx0]) rfl ?_
    exact⟨by rw[HE.out],by first|exact HFin.out _ _ _ _ _ _ FW.out|exact HFin.out _ _ _ _ _ _ (FW.out.trans (zcn _ _) (fun _ _ q=>q))⟩
  ·have en2:((n:Int) == 2)=false:=by rw[beq_eq_false_iff_ne];omega
   have HE0:z=nx0:=by rw[HZr.out];unfold zkm;rw[if_neg (by decide),if_neg (fun q=>hnm q.1),if_neg (fun q=>h2 q.1),if_neg (fun q=>hnm (by omega))]
   by_cases h1:n=1
   ·have en1:((n:Int) == 1)=true:=by rw[beq_iff_eq];omega
    have em1:((m:Int) == 1)=false:=by rw[beq_eq_false_iff_ne];omega
    have HE:=Hh (show z=nx0 from HE0)
    (try clear HE0);(try clear m1);(try clear h1);(try clear h2);(try clear hnm)
    go_wp2_with fail;go_quiet (fail);go_wp2_with fail;refine bodyPost_ret (v:=encX nx0) (by simp[results,Tryz.results170,go_sem,r0,r1,r2,r3,r4,q0,q1,q2,q3,q4,encX,nx0]) rfl ?_
    exact⟨by rw[HE.out],by first|exact HFin.out _ _ _ _ _ _ FW.out|exact HFin.out _ _ _ _ _ _ (FW.out.trans (zcn _ _) (fun _ _ q=>q))⟩
   ·have en1:((n:Int) == 1)=false:=by rw[beq_eq_false_iff_ne];omega
    have HE:=Hh (show z=nx0 from HE0)
    (try clear HE0);(try clear m1);(try clear h1);(try clear h2);(try clear hnm)
    go_wp2_with fail;go_quiet (fail);go_wp2_with fail;refine bodyPost_ret (v:=encX nx0) (by simp[results,Tryz.results170,go_sem,r0,r1,r2,r3,r4,q0,q1,q2,q3,q4,encX,nx0]) rfl ?_
    exact⟨by rw[HE.out],by first|exact HFin.out _ _ _ _ _ _ FW.out|exact HFin.out _ _ _ _ _ _ (FW.out.trans (zcn _ _) (fun _ _ q=>q))⟩
end Go.Proofs.YtlapkmhemepcaaaGreatDoor
