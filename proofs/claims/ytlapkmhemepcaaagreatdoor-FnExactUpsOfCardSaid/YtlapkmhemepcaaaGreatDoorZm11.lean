import Derived.Test.YtlapkmhemepcaaaGreatDoorZm10
/- Lemmas. -/
namespace Go.Proofs.YtlapkmhemepcaaaGreatDoor
set_option linter.unusedVariables false
set_option linter.unusedSimpArgs false
open Go.RowKit
theorem zvh {B n size:Nat}{W:World}{e:TypeId}{v dv dv':Value}{xs:List Value}(h:W.ownsRow B e size v n xs)(hs:∀q,v.ownBlock=some q→dv.ownBlock≠some q)(s:dv'.ownBlock=dv.ownBlock∨∃b,dv'.ownBlock=some b/\W.heap.size≤b):∀q,v.ownBlock=some q→dv'.ownBlock≠some q:=fun q hq e=>by
 rcases s with s|⟨b,s,hb⟩
 ·exact hs q hq (by rw[←s];exact e)
 ·rw[e]at s;cases s
  have:=(h.lt q hq).2;omega
theorem zvg {B n size:Nat}{W:World}{e:TypeId}{v v' dv:Value}{xs:List Value}(h:W.ownsRow B e size dv n xs)(hs:∀q,v.ownBlock=some q→dv.ownBlock≠some q)(s:v'.ownBlock=v.ownBlock∨∃b,v'.ownBlock=some b/\W.heap.size≤b):∀q,v'.ownBlock=some q→dv.ownBlock≠some q:=fun q hq e=>by
 rcases s with s|⟨b,s,hb⟩
 ·exact hs q (by rw[←s];exact hq) e
 ·rw[hq]at s;cases s
  have:=(h.lt q e).2;omega
structure R8 (B:Nat) (W:World) (dv bv ov:Value) (C:List Nat) (j k:Nat):Prop where
 r:R7 B W dv bv C j
 o:W.ownsRow B 151 5 ov k (zd3 (allX C k))
 sd:∀q,ov.ownBlock=some q→dv.ownBlock≠some q
 sb:∀q,ov.ownBlock=some q→bv.ownBlock≠some q
section
variable {B j k:Nat}{W W':World}{dv bv ov dv' bv' ov':Value}{C:List Nat}
theorem R8.fr0 (h:R8 B W dv bv ov C j k)(hf:Fr NoM W W'):R8 B W' dv bv ov C j k:=⟨h.r.fr0 hf,za2 h.o hf (fun _ _ q=>q),h.sd,h.sb⟩
theorem R8.fives (h:R8 B W dv bv ov C j k):Fives W ov (allX C k):=Fives.of_owns h.o
theorem R8.push (h:R8 B W dv bv ov C (k+1) k){W0:World}(f0:Fr NoM W W0)(f:Fr (Own1 ov) W0 W')(o:W'.ownsRow B 151 5 ov' (k+1) (zd3 (allX C k)++zez (nusX (C.getD k 0))))(s:ov'.ownBlock=ov.ownBlock∨∃b,ov'.ownBlock=some b/\W0.heap.size≤b):R8 B W' dv bv ov' C (k+1) (k+1):=by
 have h0:=h.fr0 f0;refine⟨⟨za2 h0.r.d f (fun q hq e=>h.sd q e hq),za2 h0.r.b f (fun q hq e=>h.sb q e hq),h.r.sep⟩,?_,zvg h0.r.d h.sd s,zvg h0.r.b h.sb s⟩;rw[zyc,zi7];exact o
theorem R8.start (w:World)(C:List Nat):R8 w.heap.size (((w.alloc (.cells #[] 151)).alloc (.cells #[] 29)).alloc (.cells #[] 4)) (.slice (some ⟨w.heap.size+1,0,none⟩) 0 0) (.slice (some ⟨w.heap.size+2,0,none⟩) 0 0) (.slice (some ⟨w.heap.size,0,none⟩) 0 0) C 0 0:=by
 refine⟨⟨?_,?_,fun q hq e=>?_⟩,?_,fun q hq e=>?_,fun q hq e=>?_⟩
 ·have h:=World.ownsRow_made (base:=w.heap.size) (e:=29) (size:=2) (w.alloc (.cells #[] 151)) #[] 0 (by simp) (by decide) (by simp)
  simp only[World.size_alloc]at h;exact h.alloc _
 ·have h:=World.ownsRow_made (base:=w.heap.size) (e:=4) (size:=1) ((w.alloc (.cells #[] 151)).alloc (.cells #[] 29)) #[] 0 (by simp;omega) (by decide) (by simp)
  simp only[World.size_alloc]at h;exact h
 ·have e1:w.heap.size+1=q:=Option.some.inj hq
  have e2:w.heap.size+2=q:=Option.some.inj e;omega
 ·exact((World.ownsRow_made w #[] 0 (Nat.le_refl _) (by decide) (by simp)).alloc _).alloc _
 ·have e1:w.heap.size=q:=Option.some.inj hq
  have e2:w.heap.size+1=q:=Option.some.inj e;omega
 ·have e1:w.heap.size=q:=Option.some.inj hq
  have e2:w.heap.size+2=q:=Option.some.inj e;omega
end
theorem zms {V:List PL}{C:List Nat}(B:BookC V C){j:Nat}(hj:j<V.length)(h9:V.length≤1000):zep (nusX (C.getD j 0)):=by
 have h1:=zx2 B j hj;have h2:=yd5 (C.getD j 0);exact⟨h2.1,by have:=h1.1;omega,by have:=h1.2;omega⟩
theorem zkh {x:NX}(h:zep x):zep (zh3 x):=⟨by show(-x.2.1.1).natAbs≤_;have:=h.1;omega,by show(-x.2.2.1).natAbs≤_;have:=h.2.1;omega,h.2.2⟩
theorem zki {V:List PL}{C:List Nat}(B:BookC V C){k:Nat}(hk:k≤V.length)(h9:V.length≤1000){I:List Nat}(hI:∀x∈I,x<k):∀x∈zfi (allX C k) I,zep x:=fun x hx=>by
 rw[zme C k I hI]at hx;obtain⟨c,hc,rfl⟩:=List.mem_map.1 hx;obtain⟨i,hi,rfl⟩:=mem_atAll.1 hc;exact zms B (by have:=hI i hi;omega) h9
theorem zob {L:List NX}(h:∀x∈L,zep x):∀x∈zbq L,zep x:=fun x hx=>by
 have:=zkh (h _ (zov.1 hx));rwa [zf1]at this
theorem zzc {V:List PL}{C:List Nat}(B:BookC V C){k:Nat}(hk:k<V.length):((∀x∈(za5 V k).1,x<k)/\(za5 V k).1.length≤k)/\(∀x∈(za5 V k).2,x<k)/\(za5 V k).2.length≤k:=by
 obtain⟨u1,u2⟩:=B.up k _ (za6 hk);obtain⟨o1,o2⟩:=B.opts k _ (za6 hk);have few:∀L:List Nat,L.Pairwise (· < ·)→(∀i∈L,i<k)→L.length≤k:=fun L hu ho=>by
  have hd:L.Nodup:=hu.imp (fun h=>Nat.ne_of_lt h);have h1:=List.Nodup.length_le_of_subset (l₂:=List.range k) hd (fun i hi=>List.mem_range.2 (ho i hi));rwa [List.length_range]at h1
 exact⟨⟨o1,few _ u1 o1⟩,o2,few _ u2 o2⟩
theorem zxx (W:World)(y:NX):Fives (W.alloc (.cells #[.bool y.1,.int .i64 y.2.1.1,.int .i64 (y.2.1.2:Int),.int .i64 y.2.2.1,.int .i64 (y.2.2.2:Int)] 151)) (.slice (some ⟨W.heap.size,0,none⟩) 1 1) [y]:=by
 have hb:=heap_alloc_new W (.cells #[.bool y.1,.int .i64 y.2.1.1,.int .i64 (y.2.1.2:Int),.int .i64 y.2.2.1,.int .i64 (y.2.2.2:Int)] 151);refine⟨_,1,rfl,Nat.le_refl _,by decide,fun j x hx=>?_⟩;match j,hx with
 | 0,hx =>
  cases hx
  exact⟨_,0,rfl,by rw[cell_of_row _ _ _ _ _ _ hb];rfl,by rw[cell_of_row _ _ _ _ _ _ hb];rfl,by rw[cell_of_row _ _ _ _ _ _ hb];rfl,by rw[cell_of_row _ _ _ _ _ _ hb];rfl,by rw[cell_of_row _ _ _ _ _ _ hb];rfl⟩
theorem box5 {W W':World}{b:Nat}{y:NX}(h:W.heap[b]?=some (.cells #[.bool y.1,.int .i64 y.2.1.1,.int .i64 (y.2.1.2:Int),.int .i64 y.2.2.1,.int .i64 (y.2.2.2:Int)] 151 (0,0)))(f:Fr NoM W W') :
  (W'.cell? ⟨b,0,none⟩=some (.bool y.1)/\W'.cell? ⟨b,1,none⟩=some (.int .i64 y.2.1.1)/\W'.cell? ⟨b,2,none⟩=some (.int .i64 (y.2.1.2:Int))/\W'.cell? ⟨b,3,none⟩=some (.int .i64 y.2.2.1)/\W'.cell? ⟨b,4,none⟩=some (.int .i64 (y.2.2.2:Int))) ∧
  W'.frozen? ⟨b,0,none⟩=false/\W'.frozen? ⟨b,1,none⟩=false/\W'.frozen? ⟨b,2,none⟩=false/\W'.frozen? ⟨b,3,none⟩=false/\W'.frozen? ⟨b,4,none⟩=false:=by
 have h1:=f.heap h (fun q=>q);exact⟨⟨by rw[cell_of_row W' _ 0 _ _ _ h1];rfl,by rw[cell_of_row W' _ 1 _ _ _ h1];rfl,by rw[cell_of_row W' _ 2 _ _ _ h1];rfl,by rw[cell_of_row W' _ 3 _ _ _ h1];rfl,by rw[cell_of_row W' _ 4 _ _ _ h1];rfl⟩,by simp[World.frozen?,h1],by simp[World.frozen?,h1],by simp[World.frozen?,h1],by simp[World.frozen?,h1],by simp[World.frozen?,h1]⟩
set_option maxRecDepth 8000 in
set_option maxHeartbeats 8000000 in
theorem zxg {R:Nat→Prop}{C:List Nat}{V:List PL}(B:BookC V C)(nv:Value)(w:World)(h:NodeL R encN w nv V)(h9:V.length≤1000)(hc:∀x,x<V.length→CanC (C.getD x 0)) :
  Calls Tryz.prog 127 #[.agg #[nv]] w fun e w'=>zuz w (allX C V.length) e w':=by
 obtain⟨w1,hw1⟩:∃w1,w1=w.alloc (.cells #[nv] 26):=⟨_,rfl⟩;have f1:Fr NoM w w1:=by rw[hw1];exact(Fr.refl NoM w).alloc _
 have e0:w1.heap[w.heap.size]?=some (.cells #[nv] 26 (0,0)):=by rw[hw1];exact heap_alloc_new w _
 obtain⟨w2,hw2⟩:∃w2,w2=((w1.alloc (.cells #[] 151)).alloc (.cells #[] 29)).alloc (.cells #[] 4):=⟨_,rfl⟩;have f2:Fr NoM w1 w2:=by rw[hw2];exact(((Fr.refl NoM w1).alloc _).alloc _).alloc _
 have HR:=Hh (show R8 w1.heap.size w2 (.slice (some ⟨w1.heap.size+1,0,none⟩) 0 0) (.slice (some ⟨w1.heap.size+2,0,none⟩) 0 0) (.slice (some ⟨w1.heap.size,0,none⟩) 0 0) C 0 0 from by rw[hw2];exact R8.start w1 C);have F2:=Hh f2;have F1:=Hh f1;have HK:=Hh (fun(W:World) (f:Fr NoM w1 W)=>show W.cell? ⟨w.heap.size,0,none⟩=some nv from by
  rw[cell_of_row W _ 0 _ _ _ (f.heap e0 (fun q=>q))];rfl)
 obtain⟨na,nc,rfl,_,_,hcell⟩:=id h;have HN:=Hh (fun(k:Nat) (hk:k<V.length)=>show ∃b off lv rv,na=some ⟨b,off,none⟩/\∀W,Fr NoM w1 W→W.cell? ⟨b,off+k*2,none⟩=some lv/\W.cell? ⟨b,off+k*2+1,none⟩=some rv/\Nats W lv (za5 V k).1/\Nats W rv (za5 V k).2 from by
  obtain⟨b,off,lv,rv,ha,_,c1,c2,s1,s2,_,_⟩:=hcell k _ (za6 hk);refine⟨b,off,lv,rv,ha,fun W f=>?_⟩;have f':=f1.trans f (fun _ _ q=>q);exact⟨f'.cell c1 (fun q=>q),f'.cell c2 (fun q=>q),SliceOf.fr0 s1 f',SliceOf.fr0 s2 f'⟩)
 have HB:=Hh B;have HC:=Hh hc;have H9:=Hh h9;clear h hcell f1 e0 f2 B hc;obtain⟨n,hn⟩:∃n,n=V.length:=⟨_,rfl⟩;rw[←hn]at hw1 HK HN HC H9 h9 ⊢;have Hn:=Hh hn;clear hn;go_enter Tryz.func127,Tryz.ntmps127;go_upto_region 1 with fail;rw[←hw1];clear hw1;go_upto_region 3 with fail;rw[←hw2];clear hw2;go_wp2_with fail;go_loopw [3,4,5,6] (fun v3 v4 v5 v6 wr=>∃(ov dv bv:Value) (k:Nat),ov=v3/\dv=v4/\bv=v5/\v6=.int .i64 (k:Int)/\k≤n/\R8 w1.heap.size wr dv bv ov C k k/\Fr NoM w1 wr) (fun _ _ _ v6 _=>n-(intOf v6).toNat)
 case atStart=>exact⟨_,_,_,0,rfl,rfl,rfl,rfl,Nat.zero_le _,HR.out,F2.out⟩
 case round =>
  obtain⟨ov,dv,bv,k,rfl,rfl,rfl,rfl,hk,hr,hf⟩:=hrel;have k0:=HK.out wr hf;by_cases hlt:k<n
  ·obtain⟨b1,o1,lv,rv,ha1,hcc⟩:=HN.out k hlt
   obtain⟨c1,c2,n1,n2⟩:=hcc wr hf;have ix:=zb9 na n nc k b1 o1 hlt ha1;obtain⟨T1,hT1⟩:∃T1,T1=(valD (C.getD k 0)).1:=⟨_,rfl⟩;obtain⟨P1,hP1⟩:∃P1,P1=((valD (C.getD k 0)).2:Int):=⟨_,rfl⟩;obtain⟨g1,hg1⟩:∃g1,g1=valB (C.getD k 0):=⟨_,rfl⟩;have HNd:=Hh (zue HB.out k k (by have:=Hn.out;omega) (Nat.le_refl _) (by have:=H9.out;omega) (HC.out k hlt) lv rv dv bv wr n1 n2 hr.r.pairs hr.r.bools T1 P1 g1 hT1 hP1 hg1);have HVs:=Hh (And.intro hT1 (And.intro hP1 hg1));have aL:(k:Int)<(n:Int):=by omega
   have hn9:n≤1000:=H9.out;have HCc:=Hh hcc;have HRr:=Hh hr;have HFr:=Hh hf;have HKl:=Hh hlt;clear hr hf hlt hT1 hP1 hg1 hcc n1 n2 hk ha1;go_wp2_with fail;(with_reducible refine HNd.out.mono ?_);rintro e w5 ⟨rfl,f5⟩;obtain⟨W6,hW6⟩:∃W6,W6=w5.alloc (.cells #[.int .i64 T1,.int .i64 P1] 29):=⟨_,rfl⟩;have f6:Fr NoM wr W6:=f5.trans (show Fr NoM w5 W6 by rw[hW6];exact(Fr.refl NoM w5).alloc _) (fun _ _ q=>q);have e6:W6.heap[w5.heap.size]?=some (.cells #[.int .i64 T1,.int .i64 P1] 29 (0,0)):=by rw[hW6];exact heap_alloc_new w5 _
   obtain⟨db,hdb⟩:∃db,db=w5.heap.size:=⟨_,rfl⟩;have hdl:wr.heap.size≤db:=by rw[hdb];exact f5.size
   rw[←hdb]at e6;have q0:W6.cell? ⟨db,0,none⟩=some (.int .i64 T1):=by rw[cell_of_row W6 _ 0 _ _ _ e6];rfl
   have q1:W6.cell? ⟨db,1,none⟩=some (.int .i64 P1):=by rw[cell_of_row W6 _ 1 _ _ _ e6];rfl
   have F6:=Hh f6;have E6:=Hh e6;have HDl:=Hh hdl;clear f5 f6 e6 k0 c1 c2 hdl;go_upto_region 7 with fail;rw[←hW6,←hdb];clear hW6 hdb;have R6:=Hh (HRr.out.fr0 F6.out);have HSz:=Hh (show w1.heap.size≤W6.heap.size from by have h1:=F6.out.size;have h2:=HFr.out.size;omega);have HBd:=Hh (show(k+1)*16≤140737488355328 by have h1:=HKl.out;have h2:=H9.out;omega);have HBb:=Hh (show(k+1)*1≤140737488355328 by have h1:=HKl.out;have h2:=H9.out;omega);have HBn:=Hh (show(k+1)*40≤140737488355328 by have h1:=HKl.out;have h2:=H9.out;omega);go_wp2_with (at_builtin;refine zc6 rfl _ _ 123 rfl w1.heap.size 29 _ 2 16 Tryz.underlying123 ydc rfl (by decide) dv k (zay (zgq C k)) rfl (by exact za2 R6.out.r.d ((Fr.refl NoM W6).alloc _) (fun _ _ q=>q)) W6.heap.size rfl [.int .i64 T1,.int .i64 P1] 29 (heap_alloc_new W6 _) rfl (by intro u hu;simp at hu;rcases hu with rfl|rfl <;> rfl) HBd.out (by decide) (by have:=HSz.out;simp;omega) ?_);intro dv' w7 h7 f7 s7;have H7:=Hh h7;have F7:=Hh f7;have S7:=Hh s7;have HSz7:=Hh (show w1.heap.size≤w7.heap.size from by have h1:=f7.size;have h2:=HSz.out;simp at h1;omega);have HBv:=Hh (show w7.ownsRow w1.heap.size 4 1 bv k ((arsL C k).map encB)from za2 (za2 R6.out.r.b ((Fr.refl NoM W6).alloc _) (fun _ _ q=>q)) f7 (fun q hq e=>R6.out.r.sep q e hq));clear h7 f7 s7 q0 q1;go_wp2_with (at_builtin;refine zc6 rfl _ _ 103 rfl w1.heap.size 4 _ 1 1 Tryz.underlying103 zk0 rfl (by decide) bv k ((arsL C k).map encB) rfl (by exact za2 HBv.out ((Fr.refl NoM w7).alloc _) (fun _ _ q=>q)) w7.heap.size rfl [.bool g1] 4 (heap_alloc_new w7 _) rfl (by intro u hu;simp at hu;subst hu;rfl) HBb.out (by decide) (by have:=HSz7.out;simp;omega) ?_);intro bv' w9 h9' f9 s9;have HG:=Hh (show R8 w1.heap.size w9 dv' bv' ov C (k+1) k/\Fr NoM w1 w9/\w9.heap[db]?=some (.cells #[.int .i64 T1,.int .i64 P1] 29 (0,0))from by
    obtain⟨t1,t2,t3⟩:=HVs.out;have h7:=H7.out;have h0:=HRr.out;have hd:=HDl.out;rw[t1,t2]at h7;rw[t3]at h9';have hn:=HRr.out.r.next (F6.out.trans ((Fr.refl NoM W6).alloc _) (fun _ _ q=>q)) F7.out h7 (by rw[World.size_alloc];exact S7.out) ((Fr.refl NoM w7).alloc _) f9 h9' (by rw[World.size_alloc];exact s9)
    have g7:Fr NoM w1 w7:=Fr.own (e:=29) (size:=2) (n:=k) (xs:=zay (zgq C k)) (HFr.out.trans (F6.out.trans ((Fr.refl NoM W6).alloc _) (fun _ _ q=>q)) (fun _ _ q=>q)) (za2 R6.out.r.d ((Fr.refl NoM W6).alloc _) (fun _ _ q=>q)) F7.out;have g9:Fr NoM w1 w9:=Fr.own (e:=4) (size:=1) (n:=k) (xs:=(arsL C k).map encB) (g7.trans ((Fr.refl NoM w7).alloc _) (fun _ _ q=>q)) (za2 HBv.out ((Fr.refl NoM w7).alloc _) (fun _ _ q=>q)) f9;have o6:=za2 R6.out.o ((Fr.refl NoM W6).alloc (.cells #[.int .i64 T1,.int .i64 P1] 29)) (fun _ _ q=>q);have o7:=za2 o6 F7.out (fun q hq e=>h0.sd q hq e);have o8:=za2 o7 ((Fr.refl NoM w7).alloc (.cells #[.bool g1] 4)) (fun _ _ q=>q);have o9:=za2 o8 f9 (fun q hq e=>h0.sb q hq e);refine⟨⟨hn,o9,zvh o6 h0.sd (by rw[World.size_alloc];exact S7.out),zvh o8 h0.sb (by rw[World.size_alloc];exact s9)⟩,g9,?_⟩;have x6:=((Fr.refl NoM W6).alloc (.cells #[.int .i64 T1,.int .i64 P1] 29)).heap E6.out (fun q=>q);have x7:=F7.out.heap x6 (fun e=>by have:=(h0.r.d.lt db e).2;omega);have x8:=((Fr.refl NoM w7).alloc (.cells #[.bool g1] 4)).heap x7 (fun q=>q);exact f9.heap x8 (fun e=>by have:=(h0.r.b.lt db e).2;omega))
   clear h9' f9 s9 H7 F7 S7 HSz7 HBv R6 E6;have HDb:=Hh (fun(W:World) (f:Fr NoM w9 W)=>show W.cell? ⟨db,0,none⟩=some (.int .i64 T1)/\W.cell? ⟨db,1,none⟩=some (.int .i64 P1)from by
    have h1:=f.heap HG.out.2.2 (fun q=>q);exact⟨by rw[cell_of_row W _ 0 _ _ _ h1];rfl,by rw[cell_of_row W _ 1 _ _ _ h1];rfl⟩)
   have HS9:=Hh (show w1.heap.size≤w9.heap.size from HG.out.2.1.size);obtain⟨q0,q1⟩:=HDb.out w9 (Fr.refl _ _);cases g1 with
   | true =>
    have HNu:=Hh (show zez (nusX (C.getD k 0))=[.bool true,.int .i64 T1,.int .i64 P1,.int .i64 0,.int .i64 0]from by
     obtain⟨t1,t2,t3⟩:=HVs.out;rw[zc8 (IsNus.self t3.symm),t1,t2];rfl)
    go_wp2_with (at_builtin;refine zc6 rfl _ _ 148 rfl w1.heap.size 151 _ 5 40 Tryz.underlying148 zn0 rfl (by decide) ov k (zd3 (allX C k)) rfl (by exact za2 HG.out.1.o ((Fr.refl NoM w9).alloc _) (fun _ _ q=>q)) w9.heap.size rfl [.bool true,.int .i64 T1,.int .i64 P1,.int .i64 0,.int .i64 0] 151 (heap_alloc_new w9 _) rfl (by intro u hu;simp at hu;rcases hu with rfl|rfl|rfl|rfl|rfl <;> rfl) HBn.out (by decide) (by have:=HS9.out;simp;omega) ?_);intro ov' wx hx fx sx;have Hx:=Hh hx;have Fx:=Hh fx;have Sx:=Hh sx;clear hx fx sx q0 q1;go_wp2;go_roundw
    case rel =>
     have hlt:=HKl.out;have hx:=Hx.out;rw[←HNu.out]at hx;exact⟨ov',dv',bv',k+1,rfl,rfl,rfl,by go_num,by omega,HG.out.1.push ((Fr.refl NoM w9).alloc _) Fx.out hx (by rw[World.size_alloc];exact Sx.out),Fr.own (e:=151) (size:=5) (n:=k) (xs:=zd3 (allX C k)) (HG.out.2.1.trans ((Fr.refl NoM w9).alloc _) (fun _ _ q=>q)) (za2 HG.out.1.o ((Fr.refl NoM w9).alloc _) (fun _ _ q=>q)) Fx.out⟩
    case measure=>have hlt:=HKl.out;simp[intOf];omega
   | false =>
    obtain⟨L,hL⟩:∃L,L=zfi (allX C k) (za5 V k).1:=⟨_,rfl⟩;obtain⟨M,hM⟩:∃M,M=zfi (allX C k) (za5 V k).2:=⟨_,rfl⟩;have hkV:k<V.length:=by have h1:=HKl.out;have h2:=Hn.out;omega
    obtain⟨⟨o1L,l1⟩,o1R,l2⟩:=zzc HB.out hkV;have hk9:k≤1000:=by have h1:=HKl.out;have h2:=H9.out;omega
    have hVl:V.length≤1000:=by have h1:=H9.out;have h2:=Hn.out;omega
    have HSL:=Hh (show(∀x∈L,zep x)/\L.length≤1000000 from⟨by rw[hL];exact zki HB.out (by omega) hVl o1L,by rw[hL];unfold zfi;rw[List.length_map];omega⟩);have HSM:=Hh (show(∀x∈M,zep x)/\M.length≤1000000 from⟨by rw[hM];exact zki HB.out (by omega) hVl o1R,by rw[hM];unfold zfi;rw[List.length_map];omega⟩);have HSl:=Hh (fun(W:World) (f:Fr NoM w9 W)=>show Calls Tryz.prog 169 #[ov,lv] W fun e w'=>zuz W L e w' from by
     rw[hL];exact zmx ov lv (allX C k) (za5 V k).1 W (HG.out.1.fives.fr0 f) (HCc.out W (HG.out.2.1.trans f (fun _ _ q=>q))).2.2.1 (fun j x hx=>by rw[zo7];exact o1L x (List.mem_of_getElem? hx)) (by omega))
    have HSr:=Hh (fun(W:World) (f:Fr NoM w9 W)=>show Calls Tryz.prog 169 #[ov,rv] W fun e w'=>zuz W M e w' from by
     rw[hM];exact zmx ov rv (allX C k) (za5 V k).2 W (HG.out.1.fives.fr0 f) (HCc.out W (HG.out.2.1.trans f (fun _ _ q=>q))).2.2.2 (fun j x hx=>by rw[zo7];exact o1R x (List.mem_of_getElem? hx)) (by omega))
    have HSt:=Hh (show zu5 false (T1,0) L M=nusX (C.getD k 0)from by
     have h:=ybc HB.out hkV;rw[←hL,←hM,←HVs.out.2.2]at h;exact h)
    clear hL hM hkV o1L o1R l1 l2 hk9 hVl;have HS:=Hh (fun(W:World) (f:Fr NoM w9 W)=>show W.cell? ⟨w.heap.size,0,none⟩=some (.slice na n nc)/\W.cell? ⟨b1,o1+k*2,none⟩=some lv/\W.cell? ⟨b1,o1+k*2+1,none⟩=some rv from by
     have f':=HG.out.2.1.trans f (fun _ _ q=>q);exact⟨HK.out W f',(HCc.out W f').1,(HCc.out W f').2.1⟩)
    clear q0 q1;go_upto_region 11 with fail;have K0:Fr NoM w9 w9:=Fr.refl _ _;have K1:Fr NoM w9 w9.drew:=(Fr.refl _ _).drew;go_region_held3 (fun(W:World)=>W.cell? ⟨w.heap.size,0,none⟩=some (.slice na n nc)/\W.cell? ⟨b1,o1+k*2,none⟩=some lv/\W.cell? ⟨b1,o1+k*2+1,none⟩=some rv)
     (exact HS.out _ (by assumption))
     (first
      | (go_simp;first
       | (go_at_call 169;(with_reducible refine(HSl.out _ (by assumption)).mono ?_);(rintro e wa ⟨va,rfl,ha,fa⟩);(have ka:Fr NoM w9 wa:=Fr.trans (by assumption) fa (fun _ _ q=>q)))
       | (go_at_call 169;(with_reducible refine(HSr.out _ (by assumption)).mono ?_);(rintro e wb ⟨vb,rfl,hb,fb⟩);(have kb:Fr NoM w9 wb:=Fr.trans (by assumption) fb (fun _ _ q=>q)))
       | fail)
      | fail)
    all_goals
    have hA:Fives wb va L:=ha.fr0 fb;have FB:=Hh kb;obtain⟨xa,xc,rfl,_,_,zz⟩:=id hA;clear zz;obtain⟨ya,yc,rfl,_,_,zz⟩:=id hb;clear zz;obtain⟨⟨xg,⟨xT,xP⟩,xn,xs⟩,hx⟩:∃x,x=zbn L M:=⟨_,rfl⟩;obtain⟨⟨yg,⟨yT,yP⟩,yn,ys⟩,hy⟩:∃y,y=zbn (zbq M) (zbq L):=⟨_,rfl⟩;have HN1:=Hh (show Calls Tryz.prog 170 #[.slice xa L.length xc,.slice ya M.length yc] wb fun e w'=>e=.returned (.agg #[.bool xg,.int .i64 xT,.int .i64 (xP:Int),.int .i64 xn,.int .i64 (xs:Int)])/\Fr NoM wb w' from by
     have h:=zmy (.slice xa L.length xc) (.slice ya M.length yc) L M wb hA hb HSL.out.2 HSM.out.2 HSM.out.1;rw[←hx]at h;exact h)
    have HA:=Hh hA;have HBb:=Hh hb;have HX:=Hh hx;have HY:=Hh hy;clear ha fa ka fb kb hA hb hx hy K0 K1;obtain⟨lL,hlL⟩:∃lL,lL=L.length:=⟨_,rfl⟩;obtain⟨lM,hlM⟩:∃lM,lM=M.length:=⟨_,rfl⟩;rw[←hlL]at HA HN1 ⊢;rw[←hlM]at HBb HN1 ⊢;clear hlL hlM;go_wp2_with fail;(with_reducible refine HN1.out.mono ?_);rintro e wn ⟨rfl,fn⟩;obtain⟨W12,hW12⟩:∃W12,W12=wn.alloc (.cells #[.bool xg,.int .i64 xT,.int .i64 (xP:Int),.int .i64 xn,.int .i64 (xs:Int)] 151):=⟨_,rfl⟩;obtain⟨xb,hxb⟩:∃xb,xb=wn.heap.size:=⟨_,rfl⟩;have f12:Fr NoM wb W12:=fn.trans (by rw[hW12];exact(Fr.refl NoM wn).alloc _) (fun _ _ q=>q);have e12:W12.heap[xb]?=some (.cells #[.bool xg,.int .i64 xT,.int .i64 (xP:Int),.int .i64 xn,.int .i64 (xs:Int)] 151 (0,0)):=by rw[hW12,hxb];exact heap_alloc_new wn _
    have HXl:=Hh (show w9.heap.size≤xb from by have h1:=FB.out.size;have h2:=fn.size;omega);have HXb:=Hh (fun(W:World) (f:Fr NoM W12 W)=>box5 (y:=(xg,(xT,xP),xn,xs)) e12 f);have HT1:=Hh (zfu _ M W12 (HBb.out.fr0 f12) HSM.out.1 HSM.out.2);have F12:=Hh f12;clear fn f12 e12;go_upto_region 13 with fail;rw[←hW12,←hxb];clear hW12 hxb;go_wp2_with fail;(with_reducible refine HT1.out.mono ?_);rintro e wt ⟨tv,rfl,ht,ft⟩;have HT2:=Hh (zfu _ L wt (HA.out.fr0 (F12.out.trans ft (fun _ _ q=>q))) HSL.out.1 HSL.out.2);have FT:=Hh ft;have HT:=Hh ht;obtain⟨ta,tc,rfl,_,_,zz⟩:=id ht;clear zz ht ft;rw[zbh]at *;go_wp2_with fail;(with_reducible refine HT2.out.mono ?_);rintro e wu ⟨uv,rfl,hu,fu⟩;obtain⟨ua,uc,rfl,_,_,zz⟩:=id hu;clear zz;have HN2:=Hh (show Calls Tryz.prog 170 #[.slice ta M.length tc,.slice ua (zbq L).length uc] wu fun e w'=>e=.returned (.agg #[.bool yg,.int .i64 yT,.int .i64 (yP:Int),.int .i64 yn,.int .i64 (ys:Int)])/\Fr NoM wu w' from by
     have h:=zmy _ _ (zbq M) (zbq L) wu (HT.out.fr0 fu) hu (by rw[zbh];exact HSM.out.2) (by rw[zbh];exact HSL.out.2) (zob HSL.out.1);rw[←HY.out]at h;exact h)
    have FU:=Hh (FT.out.trans fu (fun _ _ q=>q));clear hu fu;go_wp2_with fail;(with_reducible refine HN2.out.mono ?_);rintro e wv ⟨rfl,fv⟩;obtain⟨W13,hW13⟩:∃W13,W13=wv.alloc (.cells #[.bool yg,.int .i64 yT,.int .i64 (yP:Int),.int .i64 yn,.int .i64 (ys:Int)] 151):=⟨_,rfl⟩;obtain⟨yb,hyb⟩:∃yb,yb=wv.heap.size:=⟨_,rfl⟩;have f13:Fr NoM W12 W13:=(FU.out.trans fv (fun _ _ q=>q)).trans (by rw[hW13];exact(Fr.refl NoM wv).alloc _) (fun _ _ q=>q);have e13:W13.heap[yb]?=some (.cells #[.bool yg,.int .i64 yT,.int .i64 (yP:Int),.int .i64 yn,.int .i64 (ys:Int)] 151 (0,0)):=by rw[hW13,hyb];exact heap_alloc_new wv _
    have F913:=Hh ((FB.out.trans F12.out (fun _ _ q=>q)).trans f13 (fun _ _ q=>q));have F13:=Hh f13;obtain⟨⟨x0,x1,x2,x3,x4⟩,_⟩:=HXb.out W13 f13;obtain⟨⟨y0,y1,y2,y3,y4⟩,_⟩:=box5 (y:=(yg,(yT,yP),yn,ys)) e13 (Fr.refl _ _);simp only at x0 x1 x2 x3 x4 y0 y1 y2 y3 y4;clear fv f13 e13;go_upto_region 14 with fail;rw[←hW13,←hyb];clear hW13 hyb;have HEq:=Hh (fun(h:¬(xg=false/\yg=true))=>(by
     rw[←HSt.out];unfold zu5;rw[if_neg (by decide),←HX.out,←HY.out,if_neg h]:nusX (C.getD k 0)=(xg,(xT,xP),xn,xs)))
    cases xg with
    | true =>
     have HNu:=Hh (show zez (nusX (C.getD k 0))=[.bool true,.int .i64 xT,.int .i64 (xP:Int),.int .i64 xn,.int .i64 (xs:Int)]from by rw[HEq.out (by rintro⟨h,_⟩;cases h)];rfl);go_wp2_with (at_builtin;refine zc6 rfl _ _ 148 rfl w1.heap.size 151 _ 5 40 Tryz.underlying148 zn0 rfl (by decide) ov k (zd3 (allX C k)) rfl (by exact za2 HG.out.1.o (F913.out.trans ((Fr.refl NoM W13).alloc _) (fun _ _ q=>q)) (fun _ _ q=>q)) W13.heap.size rfl [.bool true,.int .i64 xT,.int .i64 (xP:Int),.int .i64 xn,.int .i64 (xs:Int)] 151 (heap_alloc_new W13 _) rfl (by intro u hu;simp at hu;rcases hu with rfl|rfl|rfl|rfl|rfl <;> rfl) HBn.out (by decide) (by have h1:=HS9.out;have h2:=F913.out.size;simp at h2 ⊢;omega) ?_);intro ov' wx hx fx sx;have Hx:=Hh hx;have Fx:=Hh fx;have Sx:=Hh sx;clear hx fx sx;go_wp2;go_roundw
     case rel =>
      have hlt:=HKl.out;have hx:=Hx.out;rw[←HNu.out]at hx;exact⟨ov',dv',bv',k+1,rfl,rfl,rfl,by go_num,by omega,HG.out.1.push (F913.out.trans ((Fr.refl NoM W13).alloc _) (fun _ _ q=>q)) Fx.out hx (by rw[World.size_alloc];exact Sx.out),Fr.own (e:=151) (size:=5) (n:=k) (xs:=zd3 (allX C k)) (HG.out.2.1.trans (F913.out.trans ((Fr.refl NoM W13).alloc _) (fun _ _ q=>q)) (fun _ _ q=>q)) (za2 HG.out.1.o (F913.out.trans ((Fr.refl NoM W13).alloc _) (fun _ _ q=>q)) (fun _ _ q=>q)) Fx.out⟩
     case measure=>have hlt:=HKl.out;simp[intOf];omega
    | false =>
    cases yg with
    | false =>
     have HNu:=Hh (show zez (nusX (C.getD k 0))=[.bool false,.int .i64 xT,.int .i64 (xP:Int),.int .i64 xn,.int .i64 (xs:Int)]from by rw[HEq.out (by rintro⟨_,h⟩;cases h)];rfl);go_wp2_with (at_builtin;refine zc6 rfl _ _ 148 rfl w1.heap.size 151 _ 5 40 Tryz.underlying148 zn0 rfl (by decide) ov k (zd3 (allX C k)) rfl (by exact za2 HG.out.1.o (F913.out.trans ((Fr.refl NoM W13).alloc _) (fun _ _ q=>q)) (fun _ _ q=>q)) W13.heap.size rfl [.bool false,.int .i64 xT,.int .i64 (xP:Int),.int .i64 xn,.int .i64 (xs:Int)] 151 (heap_alloc_new W13 _) rfl (by intro u hu;simp at hu;rcases hu with rfl|rfl|rfl|rfl|rfl <;> rfl) HBn.out (by decide) (by have h1:=HS9.out;have h2:=F913.out.size;simp at h2 ⊢;omega) ?_);intro ov' wx hx fx sx;have Hx:=Hh hx;have Fx:=Hh fx;have Sx:=Hh sx;clear hx fx sx;go_wp2;go_roundw
     case rel =>
      have hlt:=HKl.out;have hx:=Hx.out;rw[←HNu.out]at hx;exact⟨ov',dv',bv',k+1,rfl,rfl,rfl,by go_num,by omega,HG.out.1.push (F913.out.trans ((Fr.refl NoM W13).alloc _) (fun _ _ q=>q)) Fx.out hx (by rw[World.size_alloc];exact Sx.out),Fr.own (e:=151) (size:=5) (n:=k) (xs:=zd3 (allX C k)) (HG.out.2.1.trans (F913.out.trans ((Fr.refl NoM W13).alloc _) (fun _ _ q=>q)) (fun _ _ q=>q)) (za2 HG.out.1.o (F913.out.trans ((Fr.refl NoM W13).alloc _) (fun _ _ q=>q)) (fun _ _ q=>q)) Fx.out⟩
     case measure=>have hlt:=HKl.out;simp[intOf];omega
    | true =>
     clear HEq;have HEq:=Hh (show nusX (C.getD k 0)=(true,(-yT,yP),-yn,ys)from by
      rw[←HSt.out];unfold zu5;rw[if_neg (by decide),←HX.out,←HY.out,if_pos ⟨rfl,rfl⟩];rfl)
     have HNu:=Hh (show zez (nusX (C.getD k 0))=[.bool true,.int .i64 (-yT),.int .i64 (yP:Int),.int .i64 (-yn),.int .i64 (ys:Int)]from by rw[HEq.out];rfl);have hsy:zep (true,(yT,yP),yn,ys):=by
      have hkV:k<V.length:=by have h1:=HKl.out;have h2:=Hn.out;omega
      have h:=zkh (zms HB.out hkV (by have h1:=H9.out;have h2:=Hn.out;omega));rw[HEq.out]at h;simpa [zh3] using h
     have HTy:=Hh (show Calls Tryz.prog 171 #[.slice (some ⟨W13.heap.size,0,none⟩) 1 1] (W13.alloc (.cells #[.bool true,.int .i64 yT,.int .i64 (yP:Int),.int .i64 yn,.int .i64 (ys:Int)] 151)) fun e w'=>zuz (W13.alloc (.cells #[.bool true,.int .i64 yT,.int .i64 (yP:Int),.int .i64 yn,.int .i64 (ys:Int)] 151)) [(true,(-yT,yP),-yn,ys)] e w' from
      zfu _ [(true,(yT,yP),yn,ys)] _ (zxx W13 (true,(yT,yP),yn,ys)) (fun x hx=>by rw[List.mem_singleton.1 hx];exact hsy) (by simp))
     clear hsy;go_wp2_with fail;(with_reducible refine HTy.out.mono ?_);rintro e w15 ⟨v15,rfl,h15,f15⟩;obtain⟨a15,c15,rfl,_,_,hc15⟩:=id h15;obtain⟨b15,o15,ha15,z0,z1,z2,z3,z4⟩:=hc15 0 _ rfl;rw[Nat.zero_mul,Nat.add_zero]at z0 z1 z2 z3 z4;simp only at z0 z1 z2 z3 z4;obtain⟨m15,hm15⟩:∃m15,m15=List.length [((true,(-yT,yP),-yn,ys):NX)]:=⟨_,rfl⟩;have ix15:=ixN0 a15 m15 c15 b15 o15 (by rw[hm15];simp) ha15;rw[←hm15];have f1315:Fr NoM W13 w15:=((Fr.refl NoM W13).alloc _).trans f15 (fun _ _ q=>q);have F915:=Hh (F913.out.trans f1315 (fun _ _ q=>q));have F16:=Hh (show Fr NoM w9 (((((w15.setCell ⟨xb,0,none⟩ (.bool true)).setCell ⟨xb,1,none⟩ (.int .i64 (-yT))).setCell ⟨xb,2,none⟩ (.int .i64 (yP:Int))).setCell ⟨xb,3,none⟩ (.int .i64 (-yn))).setCell ⟨xb,4,none⟩ (.int .i64 (ys:Int)))from by
      have hl:=HXl.out;exact((((F915.out.setCell ⟨xb,0,none⟩ _ (fun h=>by have h:xb<w9.heap.size:=h;omega)).setCell ⟨xb,1,none⟩ _ (fun h=>by have h:xb<w9.heap.size:=h;omega)).setCell ⟨xb,2,none⟩ _ (fun h=>by have h:xb<w9.heap.size:=h;omega)).setCell ⟨xb,3,none⟩ _ (fun h=>by have h:xb<w9.heap.size:=h;omega)).setCell ⟨xb,4,none⟩ _ (fun h=>by have h:xb<w9.heap.size:=h;omega))
     clear x0 x1 x2 x3 x4 y0 y1 y2 y3 y4 hc15 ha15 hm15 h15 f15;obtain⟨⟨x0,x1,x2,x3,x4⟩,p0,p1,p2,p3,p4⟩:=HXb.out w15 (F13.out.trans f1315 (fun _ _ q=>q))
     (try simp only at x0 x1 x2 x3 x4)
     clear f1315;have HNew:=Hh ((by have h:=heap_alloc_new (((((w15.setCell ⟨xb,0,none⟩ (.bool true)).setCell ⟨xb,1,none⟩ (.int .i64 (-yT))).setCell ⟨xb,2,none⟩ (.int .i64 (yP:Int))).setCell ⟨xb,3,none⟩ (.int .i64 (-yn))).setCell ⟨xb,4,none⟩ (.int .i64 (ys:Int))) (.cells #[.bool true,.int .i64 (-yT),.int .i64 (yP:Int),.int .i64 (-yn),.int .i64 (ys:Int)] 151);simp only[World.size_setCell]at h;exact h:((((((w15.setCell ⟨xb,0,none⟩ (.bool true)).setCell ⟨xb,1,none⟩ (.int .i64 (-yT))).setCell ⟨xb,2,none⟩ (.int .i64 (yP:Int))).setCell ⟨xb,3,none⟩ (.int .i64 (-yn))).setCell ⟨xb,4,none⟩ (.int .i64 (ys:Int))).alloc (.cells #[.bool true,.int .i64 (-yT),.int .i64 (yP:Int),.int .i64 (-yn),.int .i64 (ys:Int)] 151)).heap[w15.heap.size]?=some (.cells #[.bool true,.int .i64 (-yT),.int .i64 (yP:Int),.int .i64 (-yn),.int .i64 (ys:Int)] 151 (0,0))));go_wp2_with (at_builtin;refine zc6 rfl _ _ 148 rfl w1.heap.size 151 _ 5 40 Tryz.underlying148 zn0 rfl (by decide) ov k (zd3 (allX C k)) rfl (by exact za2 HG.out.1.o (F16.out.trans ((Fr.refl NoM (((((w15.setCell ⟨xb,0,none⟩ (.bool true)).setCell ⟨xb,1,none⟩ (.int .i64 (-yT))).setCell ⟨xb,2,none⟩ (.int .i64 (yP:Int))).setCell ⟨xb,3,none⟩ (.int .i64 (-yn))).setCell ⟨xb,4,none⟩ (.int .i64 (ys:Int)))).alloc _) (fun _ _ q=>q)) (fun _ _ q=>q)) w15.heap.size rfl [.bool true,.int .i64 (-yT),.int .i64 (yP:Int),.int .i64 (-yn),.int .i64 (ys:Int)] 151 HNew.out rfl (by intro u hu;simp at hu;rcases hu with rfl|rfl|rfl|rfl|rfl <;> rfl) HBn.out (by decide) (by have h1:=HS9.out;have h2:=F16.out.size;simp at h2 ⊢;omega) ?_);intro ov' wx hx fx sx;have Hx:=Hh hx;have Fx:=Hh fx;have Sx:=Hh sx;clear hx fx sx;go_wp2;go_roundw
     case rel =>
      have hlt:=HKl.out;have hx:=Hx.out;rw[←HNu.out]at hx;exact⟨ov',dv',bv',k+1,rfl,rfl,rfl,by go_num,by omega,HG.out.1.push (F16.out.trans ((Fr.refl NoM (((((w15.setCell ⟨xb,0,none⟩ (.bool true)).setCell ⟨xb,1,none⟩ (.int .i64 (-yT))).setCell ⟨xb,2,none⟩ (.int .i64 (yP:Int))).setCell ⟨xb,3,none⟩ (.int .i64 (-yn))).setCell ⟨xb,4,none⟩ (.int .i64 (ys:Int)))).alloc _) (fun _ _ q=>q)) Fx.out hx (by have s:=Sx.out;simp only[World.size_alloc,World.size_setCell]at s ⊢;exact s),Fr.own (e:=151) (size:=5) (n:=k) (xs:=zd3 (allX C k)) (HG.out.2.1.trans (F16.out.trans ((Fr.refl NoM (((((w15.setCell ⟨xb,0,none⟩ (.bool true)).setCell ⟨xb,1,none⟩ (.int .i64 (-yT))).setCell ⟨xb,2,none⟩ (.int .i64 (yP:Int))).setCell ⟨xb,3,none⟩ (.int .i64 (-yn))).setCell ⟨xb,4,none⟩ (.int .i64 (ys:Int)))).alloc _) (fun _ _ q=>q)) (fun _ _ q=>q)) (za2 HG.out.1.o (F16.out.trans ((Fr.refl NoM (((((w15.setCell ⟨xb,0,none⟩ (.bool true)).setCell ⟨xb,1,none⟩ (.int .i64 (-yT))).setCell ⟨xb,2,none⟩ (.int .i64 (yP:Int))).setCell ⟨xb,3,none⟩ (.int .i64 (-yn))).setCell ⟨xb,4,none⟩ (.int .i64 (ys:Int)))).alloc _) (fun _ _ q=>q)) (fun _ _ q=>q)) Fx.out⟩
     case measure=>have hlt:=HKl.out;simp[intOf];omega
  ·have hkn:k=n:=by omega
   subst hkn;have aL:¬(k:Int)<(k:Int):=by omega
   have HRr:=Hh hr;have HFr:=Hh hf;clear hr hf;go_wp2;go_ret;exact⟨_,rfl,HRr.out.fives,F1.out.trans HFr.out (fun _ _ q=>q)⟩
end Go.Proofs.YtlapkmhemepcaaaGreatDoor
