import Derived.Test.YtlapkmhemepcaaaGreatDoorZs14
/- Lemmas. -/
set_option linter.all false
set_option maxHeartbeats 8000000
set_option maxRecDepth 8000
namespace Go.Proofs.YtlapkmhemepcaaaGreatDoor
open Go.RowKit
theorem znn {R:Nat->Prop}(nv:Value)(Fi:List (List Int × List Int))(w:World)(h:NodeL R encI w nv Fi)(g:Bool)(hg:g=true↔zd6 Fi) :
  Calls Tryz.prog 45 #[.agg #[nv]] w λe w'=>zzz g Fi w e w':=by
 obtain⟨w1,hw1⟩:=eX (((w.alloc (.cells #[nv] 26)).alloc (.cells #[.int .i64 0,.int .i64 0] 29)).alloc (.cells #[.int .i64 0,.int .i64 0] 29));have f1:Fr NoM w w1:=by rw[hw1];exact(((nW w).alloc _).alloc _).alloc _
 have hs1:w1.heap.size=w.heap.size+3:=by rw[hw1];simp
 have e0:w1.heap[w.heap.size]?=some (.cells #[nv] 26 (0,0)):=by rw[hw1];exact(((nW _).alloc _).alloc _).heap (xJ w _) id
 have e1:w1.heap[w.heap.size+1]?=some (.cells #[.int .i64 0,.int .i64 0] 29 (0,0)):=by
  have h:=xJ (w.alloc (.cells #[nv] 26)) (.cells #[.int .i64 0,.int .i64 0] 29);rw[xZ]at h;rw[hw1];exact((nW _).alloc _).heap h id
 have e2:w1.heap[w.heap.size+1+1]?=some (.cells #[.int .i64 0,.int .i64 0] 29 (0,0)):=by
  have h:=xJ ((w.alloc (.cells #[nv] 26)).alloc (.cells #[.int .i64 0,.int .i64 0] 29)) (.cells #[.int .i64 0,.int .i64 0] 29);rw[xZ,xZ]at h;rw[hw1];exact h
 have HK:=Hh (λW (f:Fr NoM w1 W)=>show W.cell? ⟨w.heap.size,0,none⟩=some nv from by
  have h0:=f.heap e0 id;rw[xX W _ 0 _ _ _ h0];rfl)
 have HR:=Hh (λW (f:Fr NoM w1 W)=>show(W.cell? ⟨w.heap.size+1,0,none⟩=some (.int .i64 0)/\W.cell? ⟨w.heap.size+1,1,none⟩=some (.int .i64 0)/\W.cell? ⟨w.heap.size+1+1,0,none⟩=some (.int .i64 0)/\W.cell? ⟨w.heap.size+1+1,1,none⟩=some (.int .i64 0)) ∧
   W.frozen? ⟨w.heap.size+1,0,none⟩=false/\W.frozen? ⟨w.heap.size+1,1,none⟩=false/\W.frozen? ⟨w.heap.size+1+1,0,none⟩=false/\W.frozen? ⟨w.heap.size+1+1,1,none⟩=false from by
  have h:=f.heap e1 id;have h':=f.heap e2 id;exact⟨⟨by rw[xX W _ 0 _ _ _ h];rfl,by rw[xX W _ 1 _ _ _ h];rfl,by rw[xX W _ 0 _ _ _ h'];rfl,by rw[xX W _ 1 _ _ _ h'];rfl⟩,by simp[World.frozen?,h],by simp[World.frozen?,h],by simp[World.frozen?,h'],by simp[World.frozen?,h']⟩)
 have HFin:=Hh (λ(W:World) (y0 y1 y2 y3:Value) (f:Fr NoM w1 W)=>(((((f1.trans f (λ_ _ q=>q)).setCell ⟨w.heap.size+1,0,none⟩ y0 (λh=>by have h:w.heap.size+1<w.heap.size:=h;omega)).setCell ⟨w.heap.size+1,1,none⟩ y1 (λh=>by have h:w.heap.size+1<w.heap.size:=h;omega)).setCell ⟨w.heap.size+1+1,0,none⟩ y2 (λh=>by have h:w.heap.size+1+1<w.heap.size:=h;omega)).setCell ⟨w.heap.size+1+1,1,none⟩ y3 (λh=>by have h:w.heap.size+1+1<w.heap.size:=h;omega):Fr NoM w ((((W.setCell ⟨w.heap.size+1,0,none⟩ y0).setCell ⟨w.heap.size+1,1,none⟩ y1).setCell ⟨w.heap.size+1+1,0,none⟩ y2).setCell ⟨w.heap.size+1+1,1,none⟩ y3)));have HS1:=Hh hs1;have HG:=Hh hg;have HN:=Hh (λW (f:Fr NoM w1 W)=>(h.fr0 f1).fr0 f);have HSig:=Hh (ztu nv Fi w1 (h.fr0 f1) g hg);obtain⟨na,nc,rfl,z⟩:=id h;clear z h f1 hs1 e0 e1 e2 hg;have k0:=HK.out w1 (Fr.refl _ _);go_enter Tryz.func45,Tryz.ntmps45;go_wp2_with fail;rw[<-hw1];clear hw1;(with_reducible refine HSig.out.mono ?_);rintro e w2 ⟨rfl,f2⟩;have HF2:=Hh f2;clear f2 k0;cases g with
 | false =>
  obtain⟨⟨z0,z1,z2,z3⟩,q0,q1,q2,q3⟩:=HR.out w2 HF2.out;go_wp2;refine yJ (v:=.tuple #[dyA (0,0),dyA (0,0),.bool false]) (by simp[results,Tryz.results45,go_sem,z0,z1,z2,z3,q0,q1,q2,q3,dyA]) rfl ?_
  exact⟨(0,0),(0,0),false,rfl,.inr ⟨rfl,rfl,rfl,rfl⟩,HFin.out _ _ _ _ _ HF2.out⟩
 | true =>
  obtain⟨Fs,rfl⟩:=zht (HG.out.1 rfl);have hgd:=HG.out.1 rfl;have k0:=HK.out w2 HF2.out;obtain⟨q1,q2,q3,q4,_⟩:=zcd hgd;have HSm:=Hh (zs2 _ Fs w2 (HN.out w2 HF2.out).ofI q4.opts q3 q1 q2);obtain⟨cc,hcc⟩:=eX (canC (zb7 Fs));obtain⟨_,_,b3,_,_⟩:=yc5 hgd cc hcc;rw[<-hcc]at HSm;have HSw:=Hh (λ(S:Nat->Prop) (v:Value) (W:World) (hN:NodeL S encN W v (za5 cc))=>zmt cc v W hN (by rw[hcc];exact(zi0 _).1) b3);have HCc:=Hh hcc;clear hgd q1 q2 q3 q4 b3 hcc;go_wp2_with fail;(with_reducible refine HSm.out.mono ?_);rintro e w3 ⟨v3,rfl,n3,f3⟩;have HSt:=Hh (HSw.out _ v3 w3 n3);have F3:=Hh (HF2.out.trans f3 (λ_ _ q=>q));clear n3 f3 k0;go_wp2_with fail;(with_reducible refine HSt.out.mono ?_);rintro e w5 ⟨x,y,okx,rfl,hs,f5⟩;have F5:=Hh (F3.out.trans f5 (λ_ _ q=>q));have HT:=Hh (show SwF true (i2 Fs) x y okx from .inl ⟨rfl,by rw[zfv,<-HCc.out];exact hs⟩);obtain⟨⟨z0,z1,z2,z3⟩,q0,q1,q2,q3⟩:=HR.out w5 F5.out;obtain⟨x1,x2⟩:=x;obtain⟨y1,y2⟩:=y;unfold dyA;clear f5 hs;go_wp2;refine yJ (v:=.tuple #[dyA (x1,x2),dyA (y1,y2),.bool okx]) (by simp[results,Tryz.results45,go_sem,z0,z1,z2,z3,q0,q1,q2,q3,dyA]) rfl ?_
  exact⟨(x1,x2),(y1,y2),okx,rfl,HT.out,HFin.out _ _ _ _ _ F5.out⟩
