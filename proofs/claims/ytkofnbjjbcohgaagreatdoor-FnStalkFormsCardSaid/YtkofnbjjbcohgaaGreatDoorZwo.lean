import Derived.Test.YtkofnbjjbcohgaaGreatDoorZwl
import Derived.Test.YtkofnbjjbcohgaaGreatDoorZww
import Derived.Test.YtkofnbjjbcohgaaGreatDoorZwc
/- Lemmas. -/
namespace Go.Proofs.YtkofnbjjbcohgaaGreatDoor
set_option linter.unusedVariables false
set_option linter.unusedSimpArgs false
open Go.RowKit
theorem zv9 (n:Nat)(W:World)(hn:n<1000000000):∃cur:Array Value,cur.size=n/\(Instr.makeSlice 42 (.int .i64 0) (.int .i64 (n:Int))).run Tryz.prog W=.ok (.slice (some ⟨W.heap.size,0,none⟩) 0 n) (W.alloc (.cells cur 3)):=by
 obtain⟨i0,hi,hz0,hz1,hz2⟩:=info_parts za8;have h:=run_make (P:=Tryz.prog) W 42 3 i0 _ Tryz.underlying42 hi hz0 .i64 .i64 0 n (by omega) (by omega) (by rw[hz2];omega) (by omega);rw[hz1,Int.toNat_natCast]at h;exact⟨_,by simp[madeCells],h⟩
theorem NRow.start (W:World)(cur:Array Value)(n:Nat)(hc:cur.size=n)(hn:n<1000000000):NRow W.heap.size (W.alloc (.cells cur 3)) (.slice (some ⟨W.heap.size,0,none⟩) 0 n) [] :=
 ⟨⟨rfl,.inr ⟨W.heap.size,n,cur,rfl,Nat.le_refl _,heap_alloc_new W _,Nat.zero_le _,by unfold maxLen;omega,by rw[hc,Nat.mul_one],by simp⟩⟩,_,_,rfl⟩
theorem zst {M I:Nat→Prop}(pb:Nat)(V:List PL)(BV L R:List Nat)(mo mc ms mn:Value)(g1 g2 n1 n2:Nat)(h1:n1=L.length)(h2:n2=R.length)(w:World)(hP:PoolS M I w pb V BV mo mc ms mn)(r1:RowIs 3 encN w g1 L)(r2:RowIs 3 encN w g2 R)
  (hLt:∀x∈L,x<V.length) (hRt:∀x∈R,x<V.length) (hl:L.length<1000000000) (hr:R.length<1000000000) (hn:V.length<1000000000) (hb:∀x∈BV,x<1000000000) :
  Calls Tryz.prog 15 #[.pointer (some ⟨pb,0,none⟩),.slice (some ⟨g1,0,none⟩) n1 n1,.slice (some ⟨g2,0,none⟩) n2 n2] w fun e w'=>e=.returned (.int .i64 ((za3 V BV L R).2.2:Nat)) ∧
   ∃M' I',PoolS M' I' w' pb (za3 V BV L R).1 (za3 V BV L R).2.1 mo mc ms mn/\(∀q,M' q→(M q∨w.heap.size≤q)/\q<w'.heap.size)/\(∀q,I' q→(I q∨w.heap.size≤q)/\q<w'.heap.size)/\Fr M w w':=by
 subst h1;subst h2;refine(zk8 pb V BV L R mo mc ms mn g1 0 L.length g2 0 R.length w hP (r1.slice (by omega)) (r2.slice (by omega)) hLt hRt hl hr hn hb).mono ?_
 rintro e w' ⟨rfl,M',I',hp,hM,hI,hf⟩;exact⟨rfl,_,_,hp.low,fun q hq=>⟨hM q hq.1,hq.2⟩,fun q hq=>⟨hI q hq.1,hq.2⟩,hf⟩
theorem later {M1 M2:Nat→Prop}{a b c:World}(h:∀q,M2 q→(M1 q∨b.heap.size≤q)/\q<c.heap.size)(f:Fr NoM a b):∀q,M2 q→(M1 q∨a.heap.size≤q)/\q<c.heap.size :=
 fun q hq=>⟨(h q hq).1.imp_right (Nat.le_trans f.size),(h q hq).2⟩
theorem zi7 {V:List PL}{BV:List Nat}(h:PoolOK V BV):BookOK V BV:=by
 have hle:∀j,j<V.length→BV.getD j 0≤j:=by
  intro j;induction j using Nat.strongRecOn with
  | _ j ih =>
   intro hj;have e:=zaf hj;obtain⟨o1,o2⟩:=h.opts j _ e;rw[h.born j _ e,zds,zds];exact⟨⟨Nat.zero_le _,fun x hx=>by have:=o1 x hx;have:=ih x this (by omega);omega⟩,fun x hx=>by have:=o2 x hx;have:=ih x this (by omega);omega⟩
 exact⟨h.len,h.opts,fun j x hx=>by
  have hj:=(List.getElem?_eq_some_iff.1 hx).1;have:=hle j (by rw[←h.len];exact hj);rw[List.getD_eq_getElem?_getD,hx]at this
  exact this⟩
set_option maxRecDepth 4000 in
set_option maxHeartbeats 8000000 in
theorem zvb {R M I:Nat→Prop}(pb:Nat)(nv:Value)(V Fs:List PL)(BV:List Nat)(mo mc ms mn:Value)(w:World)(hP:PoolS M I w pb V BV mo mc ms mn)(hMl:∀q,M q→q<w.heap.size)(hIl:∀q,I q→q<w.heap.size)(hOK:PoolOK V BV)(hF:NodeL R encN w nv Fs)(hR:∀k,R k→¬M k)
  (ho:OptsOK Fs) (hn:V.length+Fs.length<100000000) (hlen:∀y∈Fs,y.1.length<100000000/\y.2.length<100000000) :
  Calls Tryz.prog 79 #[.pointer (some ⟨pb,0,none⟩),.agg #[nv]] w fun e w'=>∃(v':Value) (M' I':Nat→Prop),e=.returned v'∧NRow w.heap.size w' v' (addB V BV Fs).2.2/\PoolS M' I' w' pb (addB V BV Fs).1 (addB V BV Fs).2.1 mo mc ms mn ∧
   (∀q,M' q→(M q∨w.heap.size≤q)/\q<w'.heap.size/\v'.ownBlock≠some q)/\(∀q,I' q→(I q∨w.heap.size≤q)/\q<w'.heap.size/\v'.ownBlock≠some q)/\Fr M w w':=by
 obtain⟨na,nc,rfl,_,_,hnn⟩:=hF;obtain⟨w1,hw1⟩:∃w1,w1=w.alloc (.cells #[.slice na Fs.length nc] 27):=⟨_,rfl⟩;have f1:Fr NoM w w1:=by rw[hw1];exact(Fr.refl NoM w).alloc _
 have hs1:w1.heap.size=w.heap.size+1:=by rw[hw1];simp
 have e1:w1.heap[w.heap.size]?=some (.cells #[.slice na Fs.length nc] 27 (0,0)):=by rw[hw1];exact heap_alloc_new w _
 have c1:w1.cell? ⟨w.heap.size,0,none⟩=some (.slice na Fs.length nc):=by rw[cell_of_row _ _ 0 _ _ _ e1];rfl
 obtain⟨cur,hcur,mk⟩:=zv9 Fs.length w1 (by omega);rw[hw1]at mk;obtain⟨w2,hw2⟩:∃w2,w2=w1.alloc (.cells cur 3):=⟨_,rfl⟩;have f2:Fr NoM w1 w2:=by rw[hw2];exact(Fr.refl NoM w1).alloc _
 have c2:w2.cell? ⟨w.heap.size,0,none⟩=some (.slice na Fs.length nc):=f2.cell c1 (fun q=>q);have hrow:NRow w1.heap.size w2 (.slice (some ⟨w1.heap.size,0,none⟩) 0 Fs.length) []:=by rw[hw2];exact NRow.start w1 cur _ hcur (by omega)
 rw[hs1]at hrow;have HF2:=Hh (f1.trans f2 (fun _ _ q=>q));have HRow:=Hh hrow;have HS1:=Hh hs1;have HP:=Hh hP;have HMl:=Hh hMl;have HIl:=Hh hIl;have HOK:=Hh hOK;have HR:=Hh hR;have HO:=Hh ho;have HLen:=Hh hlen;have HNn:=Hh hnn;have HW1:=Hh hw1;clear hP hMl hIl hOK hR ho hlen hnn f1 f2 hs1 e1 hcur hrow;go_enter Tryz.func79,Tryz.ntmps79;go_wp2_with fail;rw[←hw1,←hw2];clear mk c1 c2 hw1 hw2;go_loopw [5,15] (fun v5 t W=>∃(n:Nat) (v:Value) (M1 I1:Nat→Prop),v=v5/\t=.int .i64 n/\n≤Fs.length/\NRow w.heap.size W v (addB V BV (Fs.take n)).2.2/\PoolS M1 I1 W pb (addB V BV (Fs.take n)).1 (addB V BV (Fs.take n)).2.1 mo mc ms mn ∧
   (∀q,M1 q→(M q∨w.heap.size≤q)/\q<W.heap.size/\v.ownBlock≠some q)/\(∀q,I1 q→(I q∨w.heap.size≤q)/\q<W.heap.size/\v.ownBlock≠some q)/\Fr M w W) (fun _ t _=>Fs.length-(intOf t).toNat)
 case atStart=>exact⟨0,_,M,I,rfl,rfl,Nat.zero_le _,⟨zb2 HRow.out.own (by omega),HRow.out.shape⟩,HP.out.fr0 HF2.out,fun q hq=>⟨.inl hq,by
   have h1:=HMl.out q hq;have h2:=HF2.out.size;omega,fun e=>by have e:w.heap.size+1=q:=Option.some.inj e;have h1:=HMl.out q hq;omega⟩,fun q hq=>⟨.inl hq,by
   have h1:=HIl.out q hq;have h2:=HF2.out.size;omega,fun e=>by have e:w.heap.size+1=q:=Option.some.inj e;have h1:=HIl.out q hq;omega⟩,HF2.out.any⟩
 case round =>
  clear HRow;obtain⟨n,v,M1,I1,rfl,rfl,hn',hrow,hp,hM,hI,hfr⟩:=hrel;obtain⟨w7,rfl⟩:∃w7,w7=wr:=⟨_,rfl⟩;have hpre:OptsOK (Fs.take n):=fun j y hy=>HO.out j y (by
   rw[List.getElem?_take]at hy;split at hy
   ·exact hy
   ·cases hy)
  obtain⟨ok1,ok2,ok3,ok4,ok5⟩:=zeq (zi7 HOK.out) (Fs.take n) hpre;have hpk:=zn0 (Fs.take n) hpre HOK.out (zi7 HOK.out);rw[List.length_take,Nat.min_eq_left hn']at ok2 ok4;obtain⟨lb,lc,rfl⟩:=hrow.shape;obtain⟨⟨Vk,Bk,A⟩,hA⟩:∃s,addB V BV (Fs.take n)=s:=⟨_,rfl⟩;rw[hA]at hrow hp ok1 ok2 ok3 ok4 ok5 hpk ⊢;dsimp only at hrow hp ok1 ok2 ok3 ok4 ok5 hpk ⊢
  by_cases hlt:n<Fs.length
  ·obtain⟨y,hy⟩:∃y,Fs[n]?=some y:=⟨_,List.getElem?_eq_getElem hlt⟩
   obtain⟨b1,o1,lv,rv,ha1,hR1,d1,d2,n1,n2,m1,m2⟩:=HNn.out n y hy;obtain⟨x1,x2⟩:=HO.out n y hy;obtain⟨y1,y2⟩:=HLen.out y (List.mem_of_getElem? hy);have ix:=zbr na Fs.length nc n b1 o1 hlt ha1;have e1:=hfr.cell d1 (HR.out b1 hR1);have e2:=hfr.cell d2 (HR.out b1 hR1);have t1:=n1.fr hfr (fun hne b hb=>HR.out b (m1 hne b hb));have t2:=n2.fr hfr (fun hne b hb=>HR.out b (m2 hne b hb));have hnext:addB V BV (Fs.take (n+1))=((za3 Vk Bk (za1 A y.1) (za1 A y.2)).1,(za3 Vk Bk (za1 A y.1) (za1 A y.2)).2.1,A ++ [(za3 Vk Bk (za1 A y.1) (za1 A y.2)).2.2]):=by
    obtain⟨hi',ee⟩:=List.getElem?_eq_some_iff.1 hy
    rw[List.take_succ_eq_append_getElem hi',ee,zca,hA,←zfh hpk];rfl
   have hz1:=zde (L:=y.1) ok3 (fun x hx=>by rw[ok2];exact x1 x hx);have hz2:=zde (L:=y.2) ok3 (fun x hx=>by rw[ok2];exact x2 x hx);obtain⟨la,lcc,rfl,z⟩:=id n1;clear z;obtain⟨ra,rcc,rfl,z⟩:=id n2;clear z;obtain⟨w8,hw8⟩:∃w8,w8=w7.alloc (.cells #[.slice la y.1.length lcc,.slice ra y.2.length rcc] 55):=⟨_,rfl⟩;have f8:Fr NoM w7 w8:=by rw[hw8];exact(Fr.refl NoM w7).alloc _
   have hs8:w8.heap.size=w7.heap.size+1:=by rw[hw8];simp
   have hx8:w8.heap[w7.heap.size]?=some (.cells #[.slice la y.1.length lcc,.slice ra y.2.length rcc] 55 (0,0)):=by rw[hw8];exact heap_alloc_new w7 _
   have hvb:∀q,(Value.slice (some ⟨lb,0,none⟩) A.length lc).ownBlock=some q→w.heap.size≤q/\q<w7.heap.size:=fun q hq=>hrow.own.lt q hq
   have HC:=Hh (fun(W:World) (f:Fr (fun q=>M1 q∨(Value.slice (some ⟨lb,0,none⟩) A.length lc).ownBlock=some q) w8 W)=>show W.cell? ⟨w7.heap.size,0,none⟩=some (.slice la y.1.length lcc)/\W.cell? ⟨w7.heap.size,1,none⟩=some (.slice ra y.2.length rcc)from by
    have h:=f.heap hx8 (fun e=>by
     rcases e with e|e
     ·have:=(hM _ e).2.1;omega
     ·have:=hvb _ e;omega)
    exact⟨by rw[cell_of_row _ _ 0 _ _ _ h];rfl,by rw[cell_of_row _ _ 1 _ _ _ h];rfl⟩)
   have HT1:=Hh (fun(W:World) (f:Fr NoM w8 W)=>(t1.fr0 f8).fr0 f);have HT2:=Hh (fun(W:World) (f:Fr NoM w8 W)=>(t2.fr0 f8).fr0 f);have HV:=Hh (fun(W:World) (f:Fr NoM w8 W)=>((hrow.nats.fr0 f8).fr0 f:Nats W (.slice (some ⟨lb,0,none⟩) A.length lc) A));have HRw:=Hh (fun(W:World) (f:Fr (fun q=>M1 q) w8 W)=>(hrow.fr f8 (fun _ _ q=>q)).fr f (fun q hq e=>(hM q e).2.2 hq));have HPl:=Hh (fun(W:World) (f:Fr NoM w8 W)=>(hp.fr0 f8).fr0 f);have HW8:=Hh hw8;have HX1:=Hh x1;have HX2:=Hh x2;have HY1:=Hh y1;have HY2:=Hh y2;have HNext:=Hh hnext;have HZ1:=Hh hz1;have HZ2:=Hh hz2;have HM:=Hh hM;have HI:=Hh hI;have HFr:=Hh hfr;have F8:=Hh f8;have HS8:=Hh hs8;have HVb:=Hh hvb;have HAl:=Hh ok2;have HVl:=Hh (show Vk.length<1000000000 from by omega);have HBl:=Hh (show ∀x∈Bk,x<1000000000 from fun x hx=>by have:=ok1.lt Vk.length (Nat.le_refl _) x hx;omega);have HRow:=Hh hrow;have HSz:=Hh (fun(W:World) (f:Fr M1 w8 W)=>(show w.heap.size≤W.heap.size from by have:=f.size;have:=hfr.size;omega));have HE1:=Hh (show y.1.length=(za1 A y.1).length from by simp[za1]);have HE2:=Hh (show y.2.length=(za1 A y.2).length from by simp[za1]);have HE3:=Hh (show(za1 A y.1).length<1000000000 from by simp[za1];omega);have HE4:=Hh (show(za1 A y.2).length<1000000000 from by simp[za1];omega);clear hrow hp ok1 ok2 ok3 ok4 ok5 hpk hA hpre hy ha1 hR1 d1 d2 n1 n2 m1 m2 x1 x2 y1 y2 t1 t2 hnext hz1 hz2 hM hI hfr hx8 f8 hs8 hvb hw8;have F0:Fr NoM w8 w8.drew:=(Fr.refl NoM w8).drew;have G0:Fr (fun q=>M1 q∨(Value.slice (some ⟨lb,0,none⟩) A.length lc).ownBlock=some q) w8 w8.drew:=F0.any;go_upto_region 5 with fail;rw[←HW8.out];have hs:=HC.out w8 (Fr.refl _ _);go_region_held3 (fun(W:World)=>W.cell? ⟨w7.heap.size,0,none⟩=some (.slice la y.1.length lcc)/\W.cell? ⟨w7.heap.size,1,none⟩=some (.slice ra y.2.length rcc))
    (first|exact HC.out _ (by assumption)|exact HC.out _ (Fr.alloc (by assumption) _))
    (first
     | (go_at_call 97;(with_reducible refine(zhi (.slice la y.1.length lcc) _ y.1 A _ (HT1.out _ (by assumption)) (HV.out _ (by assumption)) (fun x hx=>by rw[HAl.out];exact HX1.out x hx) (by have:=HY1.out;omega)).mono ?_);rintro e wa ⟨rfl,ra1,fa⟩;(try simp only[World.size_drew]at ra1);have ga:Fr NoM w8 wa:=Fr.trans (by assumption) fa (fun _ _ q=>q);have ka:Fr (fun q=>M1 q∨(Value.slice (some ⟨lb,0,none⟩) A.length lc).ownBlock=some q) w8 wa:=ga.any;try (have rb2:=RowIs.fr (L:=za1 A y.2) (by assumption) fa (fun q=>q)))
     | (go_at_call 97;(with_reducible refine(zhi (.slice ra y.2.length rcc) _ y.2 A _ (HT2.out _ (by assumption)) (HV.out _ (by assumption)) (fun x hx=>by rw[HAl.out];exact HX2.out x hx) (by have:=HY2.out;omega)).mono ?_);rintro e wb ⟨rfl,rb1,fb⟩;(try simp only[World.size_drew]at rb1);have gb:Fr NoM w8 wb:=Fr.trans (by assumption) fb (fun _ _ q=>q);have kb:Fr (fun q=>M1 q∨(Value.slice (some ⟨lb,0,none⟩) A.length lc).ownBlock=some q) w8 wb:=gb.any;try (have ra2:=RowIs.fr (L:=za1 A y.1) (by assumption) fb (fun q=>q)))
     | (go_at_call 15;(with_reducible refine(zst pb Vk Bk (za1 A y.1) (za1 A y.2) mo mc ms mn _ _ _ _ HE1.out HE2.out _ (HPl.out _ (by assumption)) (by assumption) (by assumption) HZ1.out HZ2.out HE3.out HE4.out HVl.out HBl.out).mono ?_);rintro e w3 ⟨rfl,M2,I2,p3,hM3,hI3,f3⟩;have HM4:=Hh (later hM3 (by assumption));have HI4:=Hh (later hI3 (by assumption));clear hM3 hI3;have f30:Fr M1 w8 w3:=Fr.trans (Fr.any (by assumption)) f3 (fun _ _ q=>q);have k3:Fr (fun q=>M1 q∨(Value.slice (some ⟨lb,0,none⟩) A.length lc).ownBlock=some q) w8 w3:=f30.mono (fun _ _ q=>.inl q))
     | (refine zbc (enc:=encN) rfl (.tmp 19) (.tmp 30) 42 rfl w.heap.size 3 (.int .i64 0) 8 Tryz.underlying42 za8 rfl (.slice (some ⟨lb,0,none⟩) A.length lc) A.length (A.map encN) rfl (HRw.out _ (f30.alloc _)).own (.slice (some ⟨w3.heap.size,0,none⟩) 1 1) rfl [(za3 Vk Bk (za1 A y.1) (za1 A y.2)).2.2] (SliceOf.one encN w3 _ 3) (fun _=>rfl) (by have:=HAl.out;simp;omega) (by decide) (by have:=f3.size;have:=HSz.out _ f30;rw[World.size_alloc];omega) ?_;intro v4 w4 h4 f4 q4;have k4:Fr (fun q=>M1 q∨(Value.slice (some ⟨lb,0,none⟩) A.length lc).ownBlock=some q) w8 w4:=(k3.alloc _).trans f4 (fun _ _ q=>.inr q))
     | fail)
   all_goals
    go_wp2;go_roundw
    case rel =>
     have hz:=HS8.out;have hz0:=HFr.out.size;have hz3:=f30.size;have hz4:=f4.size;rw[World.size_alloc]at hz4;have hd:∀q,M2 q→¬Own1 (.slice (some ⟨lb,0,none⟩) A.length lc) q:=fun q hq ho=>by
      rcases (HM4.out q hq).1 with h|h
      ·exact(HM.out q h).2.2 ho
      ·have:=(HVb.out q ho).2;omega
     have hdi:∀q,I2 q→¬Own1 (.slice (some ⟨lb,0,none⟩) A.length lc) q:=fun q hq ho=>by
      rcases (HI4.out q hq).1 with h|h
      ·exact(HI.out q h).2.2 ho
      ·have:=(HVb.out q ho).2;omega
     refine⟨n+1,v4,M2,I2,rfl,by go_num,by omega,?_,?_,fun q hq=>⟨?_,?_,fun e=>?_⟩,fun q hq=>⟨?_,?_,fun e=>?_⟩,?_⟩
     ·rw[HNext.out];exact NRow.snoc h4
     ·rw[HNext.out];exact(p3.fr0 ((Fr.refl NoM w3).alloc _)).fr f4 hd hdi
     ·rcases (HM4.out q hq).1 with h|h
      ·exact(HM.out q h).1
      ·exact .inr (by omega)
     ·have:=(HM4.out q hq).2;omega
     ·rcases q4 with h|⟨b',h,hle⟩
      ·exact hd q hq (h.symm.trans e)
      ·rw[h]at e;cases e
       rw[World.size_alloc]at hle;have:=(HM4.out q hq).2;omega
     ·rcases (HI4.out q hq).1 with h|h
      ·exact(HI.out q h).1
      ·exact .inr (by omega)
     ·have:=(HI4.out q hq).2;omega
     ·rcases q4 with h|⟨b',h,hle⟩
      ·exact hdi q hq (h.symm.trans e)
      ·rw[h]at e;cases e
       rw[World.size_alloc]at hle;have:=(HI4.out q hq).2;omega
     ·refine HFr.out.trans (F8.out.any.trans k4 (fun k hk q=>q)) (fun q hq h=>?_)
      rcases h with h|h
      ·rcases (HM.out q h).1 with h|h
       ·exact h
       ·omega
      ·have:=(HVb.out q h).1;omega
    case measure=>simp[intOf];omega
  ·have hk':n=Fs.length:=by omega
   subst hk';rw[List.take_length]at hA;have HO:=Hh hrow;have HFr:=Hh hfr;have HM:=Hh hM;have HI:=Hh hI;have HPl:=Hh hp;have HA:=Hh hA;clear hrow hfr hM hI hp hA hpre ok1 ok2 ok3 ok4 ok5 hpk;go_wp2;go_ret;refine⟨_,M1,I1,rfl,?_,?_,HM.out,HI.out,HFr.out⟩
   ·rw[HA.out];exact HO.out
   ·rw[HA.out];exact HPl.out
theorem zsv {w:World}{a:Option Addr}{c x:Nat}{l:List Nat}(h:Nats w (.slice a (l.length+1) c) (x::l)):Nats w (.slice (if c=1 then a else Option.map (fun x=>{ block:=x.block,off:=x.off+1 }) a) l.length (c-1)) l:=by
 obtain⟨a',c',e,h1,h2,hc⟩:=h;cases e
 simp only[List.length_cons]at h1;refine⟨_,_,rfl,by omega,by omega,fun i y hy=>?_⟩;have hi:=(List.getElem?_eq_some_iff.1 hy).1;obtain⟨b,off,ha,hcell⟩:=hc (i+1) y (by simpa using hy);rw[if_neg (by omega),ha];exact⟨b,off+1,rfl,by rw[Nat.add_assoc,Nat.add_comm 1 i];exact hcell⟩
set_option maxRecDepth 4000 in
set_option maxHeartbeats 4000000 in
theorem zha (lv pv:Value)(L P:List Nat)(w:World)(hL:Nats w lv L)(hP:Nats w pv P)(hup:P.Pairwise (· < ·))(hl:L.length<1000000000) :
  Calls Tryz.prog 95 #[lv,pv] w fun e w'=>∃v',e=.returned v'∧NRow w.heap.size w' v' (zap L P)/\Fr NoM w w':=by
 obtain⟨la,lc,rfl,hlc,hlcm,hL⟩:=hL;have HL:=Hh hL;clear hL;have HP:=Hh hP;have HU:=Hh hup;clear hP hup;have Hl:=Hh hl;clear hl;go_enter Tryz.func95,Tryz.ntmps95;go_wp2_with fail;go_loopw [1,5,11] (fun p v i wr=>∃(k:Nat) (Q:List Nat),k≤L.length/\i=.int .i64 k/\NRow w.heap.size wr v (zap (L.take k) P)/\Nats w p Q/\Q.Pairwise (· < ·)/\(∀x,x∈Q↔x∈P/\k≤x)/\Fr NoM w wr) (fun _ _ i _=>L.length-(intOf i).toNat)
 case atStart=>exact⟨0,P,by omega,rfl,NRow.made w,HP.out,HU.out,fun x=>by simp,(Fr.refl _ _).alloc _⟩
 case round =>
  obtain⟨k,Q,hk,rfl,hrow,hq,hqu,hqm,hfr⟩:=hrel;obtain⟨w7,rfl⟩:∃w7,w7=wr:=⟨_,rfl⟩;obtain⟨lb,lcc,rfl⟩:=hrow.shape;by_cases hlt':k<L.length
  ·obtain⟨b1,o1,ha1,hc1⟩:=HL.out k L[k] (by simp)
   have hc1':=hfr.cell hc1 (fun q=>q);have ix1:=zaa la L.length lc k b1 o1 hlt' ha1;unfold encN at hc1';have hnext:=ziv L P k hlt';have hlen:=zec (L.take k) P;rw[List.length_take,Nat.min_eq_left hk]at hlen;obtain⟨y,hy⟩:∃y,L[k]=y:=⟨_,rfl⟩;rw[hy]at hnext hc1';obtain⟨pa,pc,rfl,_,_,hcc⟩:=id (hq.fr0 hfr);have HQ:=Hh hq;have HRow:=Hh hrow;have HFr:=Hh hfr;have HLen:=Hh hlen;clear hc1 ha1 hfr hlen hrow hq;have keep:k ∉ Q→k ∉ P:=fun h hp=>h ((hqm k).2 ⟨hp,Nat.le_refl _⟩)
   have hmem2:k ∉ Q→∀x,x∈Q↔x∈P/\k+1≤x:=fun h x=>by
    rw[hqm x];constructor
    ·rintro⟨h1,h2⟩
     refine⟨h1,?_⟩;by_cases e:x=k
     ·subst e;exact absurd ((hqm x).2 ⟨h1,h2⟩) h
     ·omega
    ·rintro⟨h1,h2⟩;exact⟨h1,by omega⟩
   cases Q with
   | nil =>
    have hmk:=hmem2 (by simp);rw[if_neg (keep (by simp))]at hnext;have HN:=Hh hnext;have HMk:=Hh hmk;clear hnext hcc keep hmem2 hqm hqu hmk;go_wp2_with (at_builtin;refine zc0 (enc:=encN) w (HFr.out.alloc _) rfl _ _ 42 rfl 3 (.int .i64 0) 8 Tryz.underlying42 za8 rfl _ (zap (L.take k) P).length _ rfl (HRow.out.own.alloc _) _ rfl [y] (SliceOf.one encN w7 y 3) (fun _=>rfl) ?c1 (by decide) ?_)
    case c1=>have:=HLen.out;have:=Hl.out;simp at *;omega
    intro v' w' h1 h2;have H1:=Hh h1;have H2:=Hh h2;clear h1 h2;go_wp2_with fail;go_roundw
    case rel=>exact⟨k+1,[],by omega,by go_num,by rw[HN.out];exact NRow.snoc H1.out,HQ.out,List.Pairwise.nil,HMk.out,H2.out⟩
    case measure=>simp[intOf];omega
   | cons q Q' =>
    obtain⟨b2,o2,ha2,hc2⟩:=hcc 0 q rfl;have ix2:=zaa pa (Q'.length+1) pc 0 b2 o2 (Nat.succ_pos _) ha2;have hs2:=zsv HQ.out;unfold encN at hc2;rw[Nat.add_zero]at ix2 hc2;rw[show((0:Nat):Int)=0 from rfl]at ix2;simp only[List.length_cons]at HQ ⊢;by_cases hqk:q=k
    ·subst hqk
     rw[if_pos ((hqm q).1 (by simp)).1]at hnext;have hu2:=(List.pairwise_cons.1 hqu).2;have hm2:∀x,x∈Q'↔x∈P/\q+1≤x:=fun x=>by
      have h0:=(List.pairwise_cons.1 hqu).1;constructor
      ·intro h
       exact⟨((hqm x).1 (List.mem_cons_of_mem _ h)).1,h0 x h⟩
      ·rintro⟨h1,h2⟩
       rcases List.mem_cons.1 ((hqm x).2 ⟨h1,by omega⟩)with e|h
       ·omega
       ·exact h
     have hb:((q:Int) == (q:Int))=true:=beq_self_eq_true _;have HN:=Hh hnext;have HU2:=Hh hu2;have HM2:=Hh hm2;have HS2:=Hh hs2;clear hnext hcc keep hmem2 hqm hqu ha2 hu2 hm2 hs2;go_wp2_with fail;go_roundw
     case rel=>exact⟨q+1,Q',by omega,by go_num,by rw[HN.out];exact HRow.out,HS2.out,HU2.out,HM2.out,HFr.out⟩
     case measure=>simp[intOf];omega
    ·have hn0:k ∉ q::Q':=fun h=>by
      rcases List.mem_cons.1 h with e|h
      ·exact hqk e.symm
      ·have:=(List.pairwise_cons.1 hqu).1 k h
       have:=((hqm q).1 (by simp)).2;omega
     have hmk:=hmem2 hn0;rw[if_neg (keep hn0)]at hnext;have hb:((q:Int) == (k:Int))=false:=by rw[beq_eq_false_iff_ne];omega
     have HN:=Hh hnext;have HMk:=Hh hmk;have HQu:=Hh hqu;clear hnext hcc keep hmem2 hqm hqu hmk ha2 hs2 hn0;go_wp2_with (at_builtin;refine zc0 (enc:=encN) w (HFr.out.alloc _) rfl _ _ 42 rfl 3 (.int .i64 0) 8 Tryz.underlying42 za8 rfl _ (zap (L.take k) P).length _ rfl (HRow.out.own.alloc _) _ rfl [y] (SliceOf.one encN w7 y 3) (fun _=>rfl) ?c1 (by decide) ?_)
     case c1=>have:=HLen.out;have:=Hl.out;simp at *;omega
     intro v' w' h1 h2;have H1:=Hh h1;have H2:=Hh h2;clear h1 h2;go_wp2_with fail;go_roundw
     case rel=>exact⟨k+1,q::Q',by omega,by go_num,by rw[HN.out];exact NRow.snoc H1.out,HQ.out,HQu.out,HMk.out,H2.out⟩
     case measure=>simp[intOf];omega
  ·have hk':k=L.length:=by omega
   subst hk';rw[List.take_length]at hrow ⊢;have HO:=Hh hrow;have HFr:=Hh hfr;clear hrow hfr hq hqm hqu;go_wp2_with fail;go_ret;exact⟨_,rfl,HO.out,HFr.out⟩
def domI (g:Nat→Nat→Bool)(L:List Nat)(i:Nat):List Nat:=(List.range i).filter fun m=>(List.range L.length).any (domP g L m)
theorem zpd (g:Nat→Nat→Bool)(L:List Nat):domI g L L.length=domB g L:=rfl
theorem zvv {g:Nat→Nat→Bool}{L:List Nat}{i k:Nat}(hk:k<L.length)(h:domP g L i k=true):domI g L (i+1)=domI g L i ++ [i]:=by
 have:(List.range L.length).any (domP g L i)=true:=List.any_eq_true.2 ⟨k,List.mem_range.2 hk,h⟩;unfold domI;rw[List.range_succ,List.filter_append];simp[this]
theorem zy9 {g:Nat→Nat→Bool}{L:List Nat}{i:Nat}(h:(List.range L.length).any (domP g L i)=false):domI g L (i+1)=domI g L i:=by
 unfold domI;rw[List.range_succ,List.filter_append];simp[h]
theorem zvx (g:Nat→Nat→Bool)(L:List Nat)(i:Nat):(domI g L i).length≤i:=by
 have:=List.length_filter_le (fun m=>(List.range L.length).any (domP g L m)) (List.range i);rw[List.length_range]at this
 exact this
set_option maxRecDepth 4000 in
set_option maxHeartbeats 8000000 in
theorem zft {M I:Nat→Prop} {C:List Nat} {V:List PL} {BV:List Nat} (B:BookC V C) (pb ob:Nat) (mc ms mn:Value) (hMo:¬ M ob) (hIo:¬ I ob) (lf:Bool) (g:Nat→Nat→Bool) (hg:g=if lf=true then gL C else gR C) (lv:Value) (L:List Nat) (f:Nat × Nat→Option Bool) (w:World)
    (hP:PoolS M I w pb V BV (.map (some ob)) mc ms mn) (hf:MapF encP encB w ob f) (ho:OrdF C f) (hL:Nats w lv L) (hLb:L≠[]→∀ q,lv.ownBlock=some q→q≠ob) (hLt:∀ x∈L,x < V.length) (hl:L.length < 1000000) :
    Calls Tryz.prog 96 #[.pointer (some ⟨pb,0,none⟩),lv,.bool lf] w fun e w'=>∃ v',e=.returned v'∧NRow w.heap.size w' v' (domB g L)∧∃ f',MapF encP encB w' ob f'∧OrdF C f'∧Fr (fun q=>q=ob) w w':=by
  have hob:ob < w.heap.size:=hf.lt;have HL:=Hh (fun (W:World) (f:Fr (fun q=>q=ob) w W)=>show Nats W lv L from hL.fr f hLb);have HP:=Hh (fun (W:World) (f:Fr (fun q=>q=ob) w W)=>hP.fr f (fun q hq e=>hMo (e ▸ hq)) (fun q hq e=>hIo (e ▸ hq)));have HGe:=Hh (fun x y (hx:x < V.length) (hy:y < V.length)=>(ztb B pb ob mc ms mn hMo hIo (x + y + 1) x y (Nat.lt_succ_self _) hx hy:GeIs M I C V BV pb ob mc ms mn x y));obtain ⟨la,lc,rfl,hlc,hlcm,z⟩:=hL;have HLt:=Hh hLt;have HF:=Hh hf;have HO:=Hh ho;have Hg:=Hh hg;have Hl:=Hh hl;have HOb:=Hh hob;clear hP hf ho hLt z hLb hMo hIo hg hl hob;go_enter Tryz.func96,Tryz.ntmps96;go_wp2_with fail;go_loopw [7,17] (fun o t W=>∃ (i:Nat) (f1:Nat × Nat→Option Bool),t=.int .i64 i∧i≤L.length∧NRow w.heap.size W o (domI g L i)∧MapF encP encB W ob f1∧OrdF C f1∧Fr (fun q=>q=ob) w W) (fun _ t _=>L.length - (intOf t).toNat)
  case atStart=>exact ⟨0,f,rfl,Nat.zero_le _,NRow.made w,HF.out.fr ((Fr.refl NoM w).alloc _) (fun q=>q),HO.out,(Fr.refl _ w).alloc _⟩
  case round =>
    obtain ⟨i,f1,rfl,hi,hrow,hf1,ho1,hfr⟩:=hrel;obtain ⟨w6,rfl⟩:∃ w6,w6=wr:=⟨_,rfl⟩;obtain ⟨lb,lcc,rfl⟩:=hrow.shape;have HRow:=Hh hrow;have HF1:=Hh hf1;have HO1:=Hh ho1;have HFr:=Hh hfr;have HLi:=Hh (zvx g L i);clear hrow hf1 ho1 hfr;by_cases hil:i < L.length
    · obtain ⟨x, hx⟩ : ∃ x, L[i]? = some x := ⟨_, List.getElem?_eq_getElem hil⟩
      have hxl:=HLt.out x (List.mem_of_getElem? hx);obtain ⟨_,_,ee,_,_,hcc⟩:=HL.out w6 HFr.out;cases ee
      obtain ⟨b1,o1,ha1,d1⟩:=hcc i x hx;have ix1:=zaa la L.length lc i b1 o1 hil ha1;unfold encN at d1;go_wp2_with fail;clear d1 ix1 hcc;go_loopw [7,24] (fun o t W=>∃ (k:Nat) (f2:Nat × Nat→Option Bool),o=.slice (some ⟨lb,0,none⟩) (domI g L i).length lcc∧t=.int .i64 k∧k≤L.length∧(List.range k).any (domP g L i)=false∧MapF encP encB W ob f2∧OrdF C f2∧Fr (fun q=>q=ob) w6 W) (fun _ t _=>L.length - (intOf t).toNat)
      case atStart=>exact ⟨0,f1,rfl,rfl,Nat.zero_le _,rfl,HF1.out,HO1.out,Fr.refl _ _⟩
      case round =>
        obtain ⟨k,f2,rfl,rfl,hk,hany,hf2,ho2,hfr2⟩:=hrel;obtain ⟨w7,rfl⟩:∃ w7,w7=wr:=⟨_,rfl⟩;have HF2:=Hh hf2;have HO2:=Hh ho2;have HFr2:=Hh hfr2;have HAny:=Hh hany;have HRow7:=Hh (HRow.out.fr hfr2 (fun q hq e=>by have:=(HRow.out.own.lt q hq).1;have:=HOb.out;omega));clear hf2 ho2 hfr2 hany;by_cases hkl:k < L.length
        · obtain ⟨y, hy⟩ : ∃ y, L[k]? = some y := ⟨_, List.getElem?_eq_getElem hkl⟩
          have hyl:=HLt.out y (List.mem_of_getElem? hy);obtain ⟨_,_,ee,_,_,hcc⟩:=HL.out w7 (HFr.out.trans HFr2.out (fun _ _ q=>q));cases ee
          obtain ⟨b2,o2,ha2,d2⟩:=hcc k y hy;have ix2:=zaa la L.length lc k b2 o2 hkl ha2;unfold encN at d2;have hnext:(List.range (k + 1)).any (domP g L i)=domP g L i k:=by
            rw [List.range_succ,List.any_append,HAny.out];simp
          by_cases hki:k=i
          · subst hki
            have hnn:(List.range (k + 1)).any (domP g L k)=false:=by rw [hnext];simp [domP]
            have hb:((k:Int) == (k:Int))=true:=beq_self_eq_true _;have HN:=Hh hnn;clear hcc hnext hnn hx hy ha1 ha2;go_wp2_with fail;go_roundw
            case rel=>exact ⟨k + 1,f2,rfl,by go_num,by omega,HN.out,HF2.out,HO2.out,HFr2.out⟩
            case measure=>simp [intOf];omega
          · have hb : ((k : Int) == (i : Int)) = false := by rw [beq_eq_false_iff_ne]; omega
            obtain ⟨da,hda⟩:∃ da,da=geV C y x:=⟨_,rfl⟩;obtain ⟨db,hdb⟩:∃ db,db=geV C x y:=⟨_,rfl⟩;obtain ⟨dm,hdm⟩:∃ dm,dm=domP g L i k:=⟨_,rfl⟩;have hdom:dm=if lf=true then (da && (!db || decide (k < i))) else (db && (!da || decide (k < i))):=by
              rw [hdm,Hg.out,hda,hdb];unfold domP;rw [List.getD_eq_getElem?_getD,List.getD_eq_getElem?_getD,hx,hy,decide_eq_true hki];cases lf <;> rfl
            have h1:=HGe.out y x hyl hxl;have h2:=HGe.out x y hxl hyl;unfold GeIs at h1 h2;rw [← hda] at h1;rw [← hdb] at h2;rw [← hdm] at hnext;have H1:=Hh h1;have H2:=Hh h2;have HDom:=Hh hdom;have HN:=Hh hnext;have HDm:=Hh hdm;clear hcc hnext hx hy ha1 ha2 h1 h2 hdom hda hdb hdm;go_wp2_with fail;refine (H1.out f2 w7 (HP.out w7 (HFr.out.trans HFr2.out (fun _ _ q=>q))) HF2.out HO2.out).mono ?_
            rintro e w8 ⟨rfl,f3,hf3,ho3,hfr3⟩;have HF3:=Hh hf3;have HO3:=Hh ho3;have HFr3:=Hh (HFr2.out.trans hfr3 (fun _ _ q=>q));have HRow8:=Hh (HRow7.out.fr hfr3 (fun q hq e=>by have:=(HRow7.out.own.lt q hq).1;have:=HOb.out;omega));clear hf3 ho3 hfr3 HF2 HO2 HFr2 HRow7 d2 ix2;go_wp2_with fail;refine (H2.out f3 w8 (HP.out w8 (HFr.out.trans HFr3.out (fun _ _ q=>q))) HF3.out HO3.out).mono ?_
            rintro e w9 ⟨rfl,f4,hf4,ho4,hfr4⟩;have HF4:=Hh hf4;have HO4:=Hh ho4;have HFr4:=Hh (HFr3.out.trans hfr4 (fun _ _ q=>q));have HRow9:=Hh (HRow8.out.fr hfr4 (fun q hq e=>by have:=(HRow8.out.own.lt q hq).1;have:=HOb.out;omega));clear hf4 ho4 hfr4 HF3 HO3 HFr3 HRow8 hb;obtain ⟨p,hp⟩:∃ p,p=if lf=true then da else db:=⟨_,rfl⟩
            obtain ⟨q,hq⟩:∃ q,q=if lf=true then db else da:=⟨_,rfl⟩
            have hpq:dm=(p && (!q || decide (k < i))):=by
              rw [HDom.out,hp,hq];cases lf <;> rfl
            have HPq:=Hh hpq;have HPp:=Hh hp;have HQq:=Hh hq;clear hpq hp hq HDom;go_upto_if 41 with fail
            go_cut [12,13] from 25 to 58 (fun a b W=>a=.bool p∧b=.bool q∧W=w9)
            case first =>
              cases lf <;>
                (go_wp2_with fail
                 go_meet
                 case rel=>exact ⟨by rw [HPp.out] <;> rfl,by rw [HQq.out] <;> rfl,rfl⟩)
            case rest =>
            obtain ⟨rfl,rfl,rfl⟩:=hcut;clear HPp HQq;go_upto_region 12 with fail;go_cut [53] from 25 to 58 (fun c W=>c=.bool dm∧W=wc)
            case first =>
              by_cases hlt:k < i
              · have hd : dm = p := by rw [HPq.out, decide_eq_true hlt]; simp
                have HD:=Hh hd;clear hd;cases p <;> cases q <;>
                  (go_wp2_with fail
                   go_meet
                   case rel=>exact ⟨by rw [HD.out] <;> rfl,rfl⟩)
              · have hd : dm = (p && !q) := by rw [HPq.out, decide_eq_false hlt]; simp
                have HD:=Hh hd;clear hd;cases p <;> cases q <;>
                  (go_wp2_with fail
                   go_meet
                   case rel=>exact ⟨by rw [HD.out] <;> rfl,rfl⟩)
            case rest =>
              obtain ⟨rfl,rfl⟩:=hcut;cases dm with
              | true =>
                have HY:=Hh (zvv hkl HDm.out.symm);have HFx:=Hh (HFr.out.trans HFr4.out (fun _ _ q=>q));go_wp2_with (at_builtin;refine zaq (enc:=encN) _ rfl _ _ 42 rfl w.heap.size 3 (.int .i64 0) 8 Tryz.underlying42 za8 rfl _ (domI g L i).length _ rfl (HRow9.out.own.alloc _) _ rfl [i] (SliceOf.one encN wc i 3) (fun _=>rfl) ?c1 (by decide) ?c2 ?_)
                case c1=>have:=HLi.out;have:=Hl.out;simp at *;omega
                case c2=>have:=HFx.out.size;simp at *;omega
                intro v' w' h1 h2 h3;have hrw:NRow w.heap.size w' v' (domI g L (i + 1)):=by rw [HY.out];exact NRow.snoc h1
                have hno:∀ q,q < w.heap.size→Own1 (.slice (some ⟨lb,0,none⟩) (domI g L i).length lcc) q→False:=fun q hq ho=>by have:=(HRow9.out.own.lt q ho).1;omega
                have HRw:=Hh hrw;have HMf:=Hh ((HF4.out.fr ((Fr.refl NoM _).alloc (.cells #[.int .i64 (i:Int)] 3)) (fun q=>q)).fr h2 (hno _ HOb.out));have HFz:=Hh ((HFx.out.alloc (.cells #[.int .i64 (i:Int)] 3)).trans h2 (fun q hq h=>(hno q hq h).elim));clear h1 h2 h3 hrw hno;go_wp2_with fail;go_roundw
                case rel=>exact ⟨i + 1,f4,by go_num,by omega,HRw.out,HMf.out,HO4.out,HFz.out⟩
                case measure=>simp [intOf];omega
              | false =>
                go_wp2_with fail;go_roundw
                case rel=>exact ⟨k + 1,f4,rfl,by go_num,by omega,HN.out,HF4.out,HO4.out,HFr4.out⟩
                case measure=>simp [intOf];omega
        · have hk' : k = L.length := by omega
          subst hk';have HN:=Hh (zy9 HAny.out);have HFx:=Hh (HFr.out.trans HFr2.out (fun _ _ q=>q));go_wp2_with fail;go_roundw
          case rel=>exact ⟨i + 1,f2,by go_num,by omega,by rw [HN.out];exact HRow7.out,HF2.out,HO2.out,HFx.out⟩
          case measure=>simp [intOf];omega
    · have hi' : i = L.length := by omega
      subst hi';have hrow:=HRow.out;rw [zpd] at hrow;rw [zpd] at *;have HO:=Hh hrow;clear hrow HRow;go_wp2_with fail;go_ret;exact ⟨_,rfl,HO.out,f1,HF1.out,HO1.out,HFr.out⟩
section
variable {κ:Type}{ek:κ→Value}{MO:List PL→(κ→Option Nat)→Prop}{U:List Nat}{pb sb:Nat}{mo mc ms mn:Value}{W W' W1 W2:World}{V V' V1 V2:List PL}{BV BV':List Nat}{M I M' I' M1 I1 M2 I2 X:Nat→Prop}{f f':κ→Option Nat}
theorem PoolS.sep (h:PoolS M I W pb V BV mo mc ms mn):∀q,M q→¬I q:=by
 obtain⟨lv,rv,bv,fb,LS,RS,_,_,_,_,_,_,_,_,m,_⟩:=h;exact m
end
section
variable {κ:Type}{ek:κ→Value}{MO:List PL→(κ→Option Nat)→Prop}{U:List Nat}{pb sb:Nat}{mo mc ms mn:Value}{w0 W W' Wa:World}{V0 V V':List PL}{BV BV' TL TR la L R:List Nat}{M0 I0 M I M' I':Nat→Prop}{f f':κ→Option Nat}{lv rv va v':Value}{i j x c:Nat}
end
end Go.Proofs.YtkofnbjjbcohgaaGreatDoor
