import Derived.Test.YtkofnbjjbcohgaaGreatDoorZwo
import Derived.Test.YtkofnbjjbcohgaaGreatDoorZwq
import Derived.Test.YtkofnbjjbcohgaaGreatDoorZwu
/- Lemmas. -/
namespace Go.Proofs.YtkofnbjjbcohgaaGreatDoor
set_option linter.unusedVariables false
set_option linter.unusedSimpArgs false
open Go.RowKit
def zx3 (M I:Nat→Prop) (pb:Nat) (mo mc ms mn:Value) (w:World) (V:List PL) (Fs:List PL) (e:Ending) (w':World):Prop :=
  ∃ (r : Nat) (V' : List PL) (BV' : List Nat) (M' I' : Nat → Prop), e = .returned (.int .i64 (r : Int)) ∧ PoolS M' I' w' pb V' BV' mo mc ms mn ∧ PoolOK V' BV' ∧ V <+: V' ∧ r < V'.length ∧ (za0 V').getD r 0 = zfv Fs ∧
    (∀ x,x < V'.length→(za0 V').getD x 0∈za0 V ++ za0 Fs)∧(∀ q,M' q→(M q∨w.heap.size≤q)∧q < w'.heap.size)∧(∀ q,I' q→(I q∨w.heap.size≤q)∧q < w'.heap.size)∧Fr M w w'
set_option maxRecDepth 4000 in
set_option maxHeartbeats 8000000 in
theorem zs6 {R M I:Nat→Prop}(pb:Nat)(nv:Value)(V Fs:List PL)(BV:List Nat)(mo mc ms mn:Value)(w:World)(hP:PoolS M I w pb V BV mo mc ms mn)(hMl:∀q,M q→q<w.heap.size)(hIl:∀q,I q→q<w.heap.size)(hOK:PoolOK V BV)(hF:NodeL R encN w nv Fs)(hR:∀k,R k→¬M k)
  (hg:zeb (i2 Fs)) (hn:V.length<1000000):Calls Tryz.prog 52 #[.pointer (some ⟨pb,0,none⟩),.agg #[nv]] w fun e w'=>zx3 M I pb mo mc ms mn w V Fs e w':=by
 obtain⟨g1,g2,g3,g4,g5,_⟩:=znz hg;obtain⟨w1,hw1⟩:∃w1,w1=w.alloc (.cells #[nv] 27):=⟨_,rfl⟩;have f1:Fr NoM w w1:=by rw[hw1];exact(Fr.refl NoM w).alloc _
 have hs1:w1.heap.size=w.heap.size+1:=by rw[hw1];simp
 have e1:w1.heap[w.heap.size]?=some (.cells #[nv] 27 (0,0)):=by rw[hw1];exact heap_alloc_new w _
 have c1:w1.cell? ⟨w.heap.size,0,none⟩=some nv:=by rw[cell_of_row _ _ 0 _ _ _ e1];rfl
 have HLd:=Hh (zvb pb nv V Fs BV mo mc ms mn w1 (hP.fr0 f1) (fun q hq=>by have:=hMl q hq;omega) (fun q hq=>by have:=hIl q hq;omega) hOK (hF.fr0 f1) hR g4.opts (by omega) (fun y hy=>by have:=g3 y hy;omega));obtain⟨a1,a2,a3,a4⟩:=ztz Fs g4.opts hOK;obtain⟨⟨V',B',A⟩,hA⟩:∃s,addB V BV Fs=s:=⟨_,rfl⟩;rw[hA]at HLd a1 a2 a3 a4;dsimp only at HLd a1 a2 a3 a4
 have hAl:A.length=Fs.length:=by rw[a3.len,za7]
 obtain⟨n,hn'⟩:∃n,A.length=n+1:=⟨Fs.length-1,by omega⟩;obtain⟨r,hr,hrl,hrc⟩:=RowC.get (P:=(za0 Fs).length) (p:=n) (by rw[List.take_length];exact a3) (by rw[za7];omega) (List.getElem?_eq_getElem (show n<(za0 Fs).length by rw[za7];omega));have hrc':(za0 V').getD r 0=zfv Fs:=by
  rw[hrc];unfold zfv;rw[show Fs.length-1=n from by omega,List.getD_eq_getElem?_getD,List.getElem?_eq_getElem (show n<(za0 Fs).length by rw[za7];omega)];rfl
 obtain⟨na,nc,rfl,z⟩:=id hF;clear z;have HA1:=Hh a1;have HA2:=Hh a2;have HA4:=Hh a4;have HR':=Hh hr;have HRl:=Hh hrl;have HRc:=Hh hrc';have HF1:=Hh f1;have HS1:=Hh hs1;have HNl:=Hh hn';have HAl:=Hh hAl;have HG2:=Hh g2;clear hP hMl hIl hOK hF hR hg hn g1 g2 g3 g4 g5 f1 hs1 e1 a1 a2 a3 a4 hA hAl hr hrl hrc hrc' hn';go_enter Tryz.func52,Tryz.ntmps52;go_wp2_with fail;rw[←hw1];clear hw1;refine HLd.out.mono ?_
 rintro e w2 ⟨v2,M2,I2,rfl,hrow,hp2,hM2,hI2,hf2⟩;obtain⟨lb,lc,rfl⟩:=hrow.shape;obtain⟨_,_,ee,_,_,hrcc⟩:=id hrow.nats;obtain⟨rfl,hz,rfl⟩:=Value.slice.inj ee;clear ee hz;obtain⟨b3,o3,ha3,c3⟩:=hrcc n r HR'.out;unfold encN at c3;have hnl:=HNl.out;have ix:=zaa (some ⟨lb,0,none⟩) A.length lc n b3 o3 (by omega) ha3;have hcast:((A.length:Int)-1)=(n:Int):=by omega
 have hnb:n<1000:=by have:=HAl.out;have:=HG2.out;omega
 have hAb:A.length<1001:=by omega
 have HEnd:=Hh (And.intro hp2 (And.intro (fun q (hq:M2 q)=>((⟨(hM2 q hq).1.imp_right (fun z=>by have:=HS1.out;omega),(hM2 q hq).2.1⟩:(M q∨w.heap.size≤q)/\q<w2.heap.size))) (And.intro (fun q (hq:I2 q)=>((⟨(hI2 q hq).1.imp_right (fun z=>by have:=HS1.out;omega),(hI2 q hq).2.1⟩:(I q∨w.heap.size≤q)/\q<w2.heap.size))) (HF1.out.any.trans hf2 (fun _ _ q=>q)))));clear hrow hp2 hM2 hI2 hf2 hrcc ha3 hnl c1 HLd;go_wp2_with fail;go_ret;exact⟨r,V',B',M2,I2,rfl,HEnd.out.1,HA1.out,HA2.out,HRl.out,HRc.out,HA4.out,HEnd.out.2.1,HEnd.out.2.2.1,HEnd.out.2.2.2⟩
end Go.Proofs.YtkofnbjjbcohgaaGreatDoor
