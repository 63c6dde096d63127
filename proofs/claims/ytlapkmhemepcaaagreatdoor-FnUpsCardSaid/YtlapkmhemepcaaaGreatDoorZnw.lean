import Derived.Test.YtlapkmhemepcaaaGreatDoorZnh
/- Lemmas. -/
namespace Go.Proofs.YtlapkmhemepcaaaGreatDoor
set_option linter.unusedVariables false
set_option linter.unusedSimpArgs false
open Go.RowKit
def zd1 (x:(Int × Nat) × Int × Nat):Value:=.agg #[.int .i64 x.1.1,.int .i64 (x.1.2:Int),.int .i64 x.2.1,.int .i64 (x.2.2:Int)]
structure USt (pb ob kb:Nat) (mc ms mn:Value) (M I:Nat→Prop) (V:List PL) (BV:List Nat) (W:World) (f:Nat × Nat→Option Bool) (g:Nat→Option ((Int × Nat) × Int × Nat)):Prop where
 pool:PoolS M I W pb V BV (.map (some ob)) mc ms mn
 ord:MapF encP encB W ob f
 ordOK:OrdF (za0 V) f
 kn:MapF encN zd1 W kb g
 knOK:∀k x,g k=some x→k<V.length/\NusAt ((za0 V).getD k 0) x/\SmallU k x
 lt:∀q,M q∨I q→q<W.heap.size
structure UOut (ob kb:Nat) (M I:Nat→Prop):Prop where
 m:¬M ob/\¬M kb
 i:¬I ob/\¬I kb
 ne:ob≠kb
section
variable {pb ob kb:Nat}{mc ms mn:Value}{M I X:Nat→Prop}{V:List PL}{BV:List Nat}{W W':World}{f f':Nat × Nat→Option Bool}{g g':Nat→Option ((Int × Nat) × Int × Nat)}
theorem USt.fr0 (h:USt pb ob kb mc ms mn M I V BV W f g)(hf:Fr NoM W W'):USt pb ob kb mc ms mn M I V BV W' f g :=
 ⟨h.pool.fr0 hf,h.ord.fr hf (fun q=>q),h.ordOK,h.kn.fr hf (fun q=>q),h.knOK,fun q hq=>Nat.lt_of_lt_of_le (h.lt q hq) hf.size⟩
theorem USt.ords (h:USt pb ob kb mc ms mn M I V BV W f g)(o:UOut ob kb M I)(hf:Fr (fun q=>q=ob) W W')(hm:MapF encP encB W' ob f')(ho:OrdF (za0 V) f'):USt pb ob kb mc ms mn M I V BV W' f' g :=
 ⟨h.pool.fr hf (fun q hq e=>o.m.1 (by rw[←e];exact hq)) (fun q hq e=>o.i.1 (by rw[←e];exact hq)),hm,ho,h.kn.fr hf (fun e=>o.ne e.symm),h.knOK,fun q hq=>Nat.lt_of_lt_of_le (h.lt q hq) hf.size⟩
theorem USt.store (h:USt pb ob kb mc ms mn M I V BV W f g)(o:UOut ob kb M I)(hf:Fr (fun q=>q=kb) W W'){k:Nat}{x:(Int × Nat) × Int × Nat}(hm:MapF encN zd1 W' kb (upd g k x))(hk:k<V.length)(hx:NusAt ((za0 V).getD k 0) x/\SmallU k x):USt pb ob kb mc ms mn M I V BV W' f (upd g k x) :=
 ⟨h.pool.fr hf (fun q hq e=>o.m.2 (by rw[←e];exact hq)) (fun q hq e=>o.i.2 (by rw[←e];exact hq)),h.ord.fr hf (fun e=>o.ne e),h.ordOK,hm,fun j y e=>by
  unfold upd at e;split at e
  ·rename_i ek;subst ek;cases e;exact⟨hk,hx⟩
  ·exact h.knOK j y e,fun q hq=>Nat.lt_of_lt_of_le (h.lt q hq) hf.size⟩
theorem USt.set (h:USt pb ob kb mc ms mn M I V BV W f g)(hf:Fr X W W')(hZ:∀q,X q→¬M q/\¬I q/\q≠ob/\q≠kb):USt pb ob kb mc ms mn M I V BV W' f g :=
 ⟨h.pool.fr hf (fun q hq e=>(hZ q e).1 hq) (fun q hq e=>(hZ q e).2.1 hq),h.ord.fr hf (fun e=>(hZ ob e).2.2.1 rfl),h.ordOK,h.kn.fr hf (fun e=>(hZ kb e).2.2.2 rfl),h.knOK,fun q hq=>Nat.lt_of_lt_of_le (h.lt q hq) hf.size⟩
end
def zgp (pb ob kb:Nat)(mc ms mn:Value)(M I:Nat→Prop)(V:List PL)(BV:List Nat)(k c:Nat)(w:World)(e:Ending)(w':World):Prop :=
 ∃(x:(Int × Nat) × Int × Nat) (ok:Bool) (f':Nat × Nat→Option Bool) (g':Nat→Option ((Int × Nat) × Int × Nat)),e=.returned (.tuple #[zd1 x,.bool ok])/\Told k c x ok/\USt pb ob kb mc ms mn M I V BV w' f' g'∧Fr (fun q=>q=ob∨q=kb) w w'
def zne (pb ob kb:Nat) (mc ms mn:Value) (M I:Nat→Prop) (V:List PL) (BV:List Nat) (x:Nat):Prop :=
  ∀ f g w, USt pb ob kb mc ms mn M I V BV w f g → x < V.length → CanC ((za0 V).getD x 0) →
    Calls Tryz.prog 77 #[.pointer (some ⟨pb,0,none⟩),.int .i64 (x:Int),.map (some kb)] w fun e w'=>zgp pb ob kb mc ms mn M I V BV x ((za0 V).getD x 0) w e w'
set_option maxHeartbeats 2000000 in
theorem zyz (pv av bv:Value)(A B:List Nat)(w:World)(hA:Nats w av A)(hB:Nats w bv B)(hn:A.length=B.length) :
  Calls Tryz.prog 177 #[pv,av,bv] w fun e w'=>e=.returned (.bool (decide (A=B)))/\Fr NoM w w':=by
 obtain⟨aa,ac,rfl,hac,hacm,hA⟩:=hA;obtain⟨ba,bc,rfl,hbc,hbcm,hB⟩:=hB;have HA:=Hh hA;clear hA;have HB:=Hh hB;clear hB;have hfin:A.take A.length=B.take A.length→decide (A=B)=true:=fun h=>by
  rw[List.take_length,hn,List.take_length]at h;simp[h]
 have HN:=Hh hn;clear hn;have HF:=Hh hfin;clear hfin;go_enter Tryz.func177,Tryz.ntmps177;go_wp2;go_loopw [10] (fun i wr=>∃k q:Nat,k≤A.length/\i=.int .i64 k/\A.take k=B.take k/\wr=w.drewN q) (fun i _=>A.length-(intOf i).toNat)
 case atStart=>exact⟨0,0,by omega,rfl,rfl,rfl⟩
 case round =>
  obtain⟨k,q,hk,rfl,ht,rfl⟩:=hrel;have Ht:=Hh ht;clear ht;by_cases hlt':k<A.length
  ·have hlt2:k<B.length:=by rw[←HN.out];exact hlt'
   obtain⟨b1,o1,ha1,hc1⟩:=HA.out k A[k] (by simp);obtain⟨b2,o2,ha2,hc2⟩:=HB.out k B[k] (by simp);have ix1:=za8 aa A.length ac k b1 o1 hlt' ha1;have ix2:=za8 ba B.length bc k b2 o2 hlt2 ha2;have aL:(k:Int)<(A.length:Int):=by omega
   unfold encN at hc1 hc2;clear ha1 ha2;by_cases hxy:A[k]=B[k]
   ·have hxy':((A[k]:Int) != (B[k]:Int))=false:=by simp[hxy]
    have Hxy:=Hh hxy;clear hxy;go_wp2;go_quiet (fail);go_wp2;go_roundw
    case rel=>exact⟨k+1,_,by omega,by go_num,by rw[List.take_succ_eq_append_getElem hlt',List.take_succ_eq_append_getElem hlt2,Ht.out,Hxy.out],rfl⟩
    case measure=>simp[intOf];omega
   ·have hxy':((A[k]:Int) != (B[k]:Int))=true:=by simp;omega
    have hfin:decide (A=B)=false:=by
     have:A≠B:=fun e=>by subst e;exact hxy rfl
     simp[this]
    have Hxy:=Hh hxy;clear hxy;have Hfin:=Hh hfin;clear hfin;go_wp2;go_quiet (fail);go_wp2;go_ret;exact⟨by rw[Hfin.out];rfl,⟨rfl,rfl,rfl,Nat.le_refl _,fun _ _ _=>rfl⟩⟩
  ·have aL:¬(k:Int)<(A.length:Int):=by omega
   have hkA:k=A.length:=by omega
   have HE:=Hh (show decide (A=B)=true from HF.out (by rw[←hkA];exact Ht.out));clear hkA;go_wp2;go_ret;exact⟨by rw[HE.out];rfl,⟨rfl,rfl,rfl,Nat.le_refl _,fun _ _ _=>rfl⟩⟩
def IsPair (c0 c1 c2 a:Nat):Prop:=valB a=true/\c2=a/\((c0=a/\c1=nusC a 0 1)∨(c0=nusC a 0 1/\c1=a))
theorem ya6 {c0 c1 c2:Nat}{x y z:(Int × Nat) × Int × Nat}(hx:NusAt c0 x)(hy:NusAt c1 y)(hz:NusAt c2 z)(h1:x.1=z.1)(h2:y.1=z.1)(h3:z.2.1=0)(h4:z.2.2=0)(h5:x.2.1=0)(h6:y.2.1=0)(h7:x.2.2+y.2.2=1):∃a,IsPair c0 c1 c2 a/\valD a=z.1:=by
 obtain⟨a,ia,da⟩:=hx;obtain⟨b,ib,db⟩:=hy;obtain⟨c,ic,dc⟩:=hz;have e1:=zg7 ia.1 ic.1 (by rw[da,dc,h1]);have e2:=zg7 ib.1 ic.1 (by rw[db,dc,h2]);have q2:c2=c:=by rw[ic.2,h3,h4];rfl
 have q0:=ia.2;have q1:=ib.2;rw[h5,e1]at q0;rw[h6,e2]at q1;refine⟨c,⟨ic.1,q2,?_⟩,dc⟩;rcases (show(x.2.2=0/\y.2.2=1)∨(x.2.2=1/\y.2.2=0)by omega)with ⟨s1,s2⟩|⟨s1,s2⟩
 ·rw[s1]at q0;rw[s2]at q1
  exact .inl ⟨q0,q1⟩
 ·rw[s1]at q0;rw[s2]at q1
  exact .inr ⟨q0,q1⟩
theorem IsPair.reads {c0 c1 c2 a:Nat}(h:IsPair c0 c1 c2 a):∃s t,s+t=1/\IsNus c0 a 0 s/\IsNus c1 a 0 t/\IsNus c2 a 0 0:=by
 obtain⟨ha,h2,⟨h0,h1⟩|⟨h0,h1⟩⟩:=h
 ·exact⟨0,1,rfl,⟨ha,h0⟩,⟨ha,h1⟩,⟨ha,h2⟩⟩
 ·exact⟨1,0,rfl,⟨ha,h0⟩,⟨ha,h1⟩,⟨ha,h2⟩⟩
def zck (x:(Int × Nat) × Int × Nat):Array Value:=#[.int .i64 x.1.1,.int .i64 (x.1.2:Int),.int .i64 x.2.1,.int .i64 (x.2.2:Int)]
def UBox (W:World)(b:Nat)(x:(Int × Nat) × Int × Nat):Prop:=W.heap[b]?=some (.cells (zck x) 92 (0,0))
theorem UBox.cells {W:World}{b:Nat}{x:(Int × Nat) × Int × Nat}(h:UBox W b x):W.cell? ⟨b,0,none⟩=some (.int .i64 x.1.1)/\W.cell? ⟨b,1,none⟩=some (.int .i64 (x.1.2:Int))/\W.cell? ⟨b,2,none⟩=some (.int .i64 x.2.1)/\W.cell? ⟨b,3,none⟩=some (.int .i64 (x.2.2:Int)) :=
 ⟨by rw[cell_of_row W _ 0 _ _ _ h];rfl,by rw[cell_of_row W _ 1 _ _ _ h];rfl,by rw[cell_of_row W _ 2 _ _ _ h];rfl,by rw[cell_of_row W _ 3 _ _ _ h];rfl⟩
theorem UBox.fr {W W':World}{b:Nat}{x:(Int × Nat) × Int × Nat}{M:Nat→Prop}(h:UBox W b x)(hf:Fr M W W')(hb:¬M b):UBox W' b x:=hf.heap h hb
theorem UBox.made {w W:World}{x:(Int × Nat) × Int × Nat}(h:W=w.alloc (.cells (zck x) 92)):UBox W w.heap.size x:=by rw[h];exact heap_alloc_new w _
def PairPost (pb ob kb:Nat) (mc ms mn:Value) (M I:Nat→Prop) (V:List PL) (BV:List Nat) (c0 c1 c2:Nat) (w:World) (e:Ending) (w':World):Prop :=
  ∃ (T : Int) (P : Nat) (ok : Bool) (f' : Nat × Nat → Option Bool) (g' : Nat → Option ((Int × Nat) × Int × Nat)), e = .returned (.tuple #[.agg #[.int .i64 T, .int .i64 (P : Int)], .bool ok]) ∧
    (ok=true→∃ a,IsPair c0 c1 c2 a∧T=(valD a).1∧P=(valD a).2)∧(ok=false→∀ a,¬ IsPair c0 c1 c2 a)∧USt pb ob kb mc ms mn M I V BV w' f' g'∧Fr (fun q=>q=ob∨q=kb) w w'
theorem PairPost.drew {pb ob kb:Nat}{mc ms mn:Value}{M I:Nat→Prop}{V:List PL}{BV:List Nat}{c0 c1 c2:Nat}{w W:World}{e:Ending}(h:PairPost pb ob kb mc ms mn M I V BV c0 c1 c2 w e W):PairPost pb ob kb mc ms mn M I V BV c0 c1 c2 w e W.drew:=by
 obtain⟨T,P,ok,f',g',h1,h2,h3,st,fr⟩:=h;exact⟨T,P,ok,f',g',h1,h2,h3,st.fr0 ((Fr.refl NoM W).drew),fr.drew⟩
set_option maxRecDepth 4000 in
set_option maxHeartbeats 8000000 in
theorem zt8 {M I:Nat→Prop} (pb ob kb:Nat) (mc ms mn:Value) (V:List PL) (BV:List Nat) (o:UOut ob kb M I) (p0 p1 p2:Nat) (pv:Value) (w:World) (f:Nat × Nat→Option Bool) (g:Nat→Option ((Int × Nat) × Int × Nat))
    (hs:USt pb ob kb mc ms mn M I V BV w f g) (hp:Nats w pv [p0,p1]) (hq:∀ q,pv.ownBlock=some q→q≠ob∧q≠kb) (h0:zne pb ob kb mc ms mn M I V BV p0) (h1:zne pb ob kb mc ms mn M I V BV p1) (h2:zne pb ob kb mc ms mn M I V BV p2)
    (hV:V.length≤1000000) (l0:p0 < V.length∧p1 < V.length∧p2 < V.length) (cn:CanC ((za0 V).getD p0 0)∧CanC ((za0 V).getD p1 0)∧CanC ((za0 V).getD p2 0)) :
    Calls Tryz.prog 179 #[.pointer (some ⟨pb,0,none⟩),pv,.int .i64 (p2:Int),.map (some kb)] w fun e w'=>PairPost pb ob kb mc ms mn M I V BV ((za0 V).getD p0 0) ((za0 V).getD p1 0) ((za0 V).getD p2 0) w e w':=by
  obtain ⟨w1,hw1⟩:∃ w1,w1=w.alloc (.cells #[.int .i64 0,.int .i64 0] 29):=⟨_,rfl⟩;have f1:Fr NoM w w1:=by rw [hw1];exact (Fr.refl NoM w).alloc _
  have hs1:w1.heap.size=w.heap.size + 1:=by rw [hw1];simp
  have e1:w1.heap[w.heap.size]?=some (.cells #[.int .i64 0,.int .i64 0] 29 (0,0)):=by rw [hw1];exact heap_alloc_new w _
  have hol:=hs.ord.lt;have hkl:=hs.kn.lt;have hlt:=hs.lt;have HEnd:=Hh (fun (W:World) (f':Nat × Nat→Option Bool) (g':Nat→Option ((Int × Nat) × Int × Nat)) (st:USt pb ob kb mc ms mn M I V BV W f' g') (fr:Fr (fun q=>q=ob∨q=kb) w1 W) (T:Int) (P:Nat) (ok:Bool)
      (h1:ok=true→∃ a,IsPair ((za0 V).getD p0 0) ((za0 V).getD p1 0) ((za0 V).getD p2 0) a∧T=(valD a).1∧P=(valD a).2) (h2:ok=false→∀ a,¬ IsPair ((za0 V).getD p0 0) ((za0 V).getD p1 0) ((za0 V).getD p2 0) a)=>(by
    have s1:=Fr.setCell (M:=fun q=>q=w.heap.size) (Fr.refl _ W) ⟨w.heap.size,0,none⟩ (.int .i64 T) (fun _=>rfl);have s2:=s1.setCell ⟨w.heap.size,1,none⟩ (.int .i64 (P:Int)) (fun _=>rfl);refine ⟨T,P,ok,f',g',rfl,h1,h2,st.set s2 (fun q e=>?_),((f1.any.trans fr (fun _ _ q=>q)).setCell ⟨w.heap.size,0,none⟩ (.int .i64 T) (fun h=>by have h:w.heap.size < w.heap.size:=h;omega)).setCell ⟨w.heap.size,1,none⟩ (.int .i64 (P:Int)) (fun h=>by have h:w.heap.size < w.heap.size:=h;omega)⟩;subst e;exact ⟨fun e=>by have:=hlt w.heap.size (.inl e);omega,fun e=>by have:=hlt w.heap.size (.inr e);omega,by omega,by omega⟩ :
    PairPost pb ob kb mc ms mn M I V BV ((za0 V).getD p0 0) ((za0 V).getD p1 0) ((za0 V).getD p2 0) w (.returned (.tuple #[.agg #[.int .i64 T,.int .i64 (P:Int)],.bool ok])) ((W.setCell ⟨w.heap.size,0,none⟩ (.int .i64 T)).setCell ⟨w.heap.size,1,none⟩ (.int .i64 (P:Int)))))
  have HR:=Hh (fun (W:World) (f:Fr (fun q=>q=ob∨q=kb) w1 W)=>show W.cell? ⟨w.heap.size,0,none⟩=some (.int .i64 0)∧W.cell? ⟨w.heap.size,1,none⟩=some (.int .i64 0)∧W.frozen? ⟨w.heap.size,0,none⟩=false∧W.frozen? ⟨w.heap.size,1,none⟩=false from by
    have h0:=f.heap e1 (fun q=>by omega);exact ⟨by rw [cell_of_row W _ 0 _ _ _ h0];rfl,by rw [cell_of_row W _ 1 _ _ _ h0];rfl,by simp [World.frozen?,h0],by simp [World.frozen?,h0]⟩)
  have hp1:=hp.fr0 f1;obtain ⟨pa,pc,rfl,_,_,hpc⟩:=id hp1;obtain ⟨pk,po,ha,hc0⟩:=hpc 0 p0 rfl;obtain ⟨pk',po',ha',hc1⟩:=hpc 1 p1 rfl;have hpk:pk≠ob∧pk≠kb:=hq pk (by rw [ha];rfl);obtain ⟨rfl,rfl⟩:pk'=pk∧po'=po:=by
    rw [ha] at ha';have:=Option.some.inj ha';exact ⟨(congrArg Addr.block this).symm,by injection this with _ h _;exact h.symm⟩
  have HC:=Hh (fun (W:World) (f:Fr (fun q=>q=ob∨q=kb) w1 W)=>show W.cell? ⟨pk',po',none⟩=some (.int .i64 (p0:Int))∧W.cell? ⟨pk',po' + 1,none⟩=some (.int .i64 (p1:Int)) from
    ⟨f.cell hc0 (fun e=>e.elim hpk.1 hpk.2),f.cell hc1 (fun e=>e.elim hpk.1 hpk.2)⟩)
  have ix0:∀ W,(Instr.indexAt 100 (.slice pa 2 pc) (.int .i64 0)).run Tryz.prog W=.ok (.pointer (some ⟨pk',po',none⟩)) W:=fun W=>za8 pa 2 pc 0 pk' po' (by omega) ha W
  have ix1:∀ W,(Instr.indexAt 100 (.slice pa 2 pc) (.int .i64 1)).run Tryz.prog W=.ok (.pointer (some ⟨pk',po' + 1,none⟩)) W:=fun W=>za8 pa 2 pc 1 pk' po' (by omega) ha W
  have HX:=Hh (And.intro ix0 ix1);have H0:=Hh h0;have H1:=Hh h1;have H2:=Hh h2;have HL:=Hh l0;have HV:=Hh hV;have HCn:=Hh cn;have HS1:=Hh hs1;have F1:=Hh f1;have HLt:=Hh (And.intro hol hkl);have HSt:=Hh (hs.fr0 f1);clear hs hp hq h0 h1 h2 l0 hV cn hp1 hpc ha ha' hc0 hc1 hpk hs1 f1 e1 hol hkl hlt ix0 ix1;have HW0:=Hh (Fr.refl (fun q=>q=ob∨q=kb) w1);obtain ⟨k0,k1⟩:=HC.out w1 (Fr.refl _ _);obtain ⟨ix0,ix1⟩:=HX.out;have HIx:=Hh ix0;have HIx1:=Hh ix1;have ix0:=HIx.out w1;clear ix1;have HR0:=Hh (H0.out f g w1 HSt.out HL.out.1 HCn.out.1);go_enter Tryz.func179,Tryz.ntmps179;go_upto_region 1 with fail;rw [← hw1];clear hw1;go_wp2_with fail;(with_reducible refine HR0.out.mono ?_);rintro e w2 ⟨x,o1,f2,g2,rfl,hx,st2,r2⟩;unfold zd1;obtain ⟨b2,hb2⟩:∃ b2,b2=w2.heap.size:=⟨_,rfl⟩;obtain ⟨W2,hW2⟩:∃ W2,W2=w2.alloc (.cells (zck x) 92):=⟨_,rfl⟩;have g2':Fr NoM w2 W2:=by rw [hW2];exact (Fr.refl NoM w2).alloc _
  have q2:UBox W2 b2 x:=by rw [hb2];exact UBox.made hW2
  have HX0:=Hh hx;have HSt:=Hh (st2.fr0 g2');have HF:=Hh (r2.trans g2' (fun _ _ q=>q.elim));have HB2:=Hh q2;have HZ2:=Hh (show w1.heap.size≤b2 from by rw [hb2];exact r2.size);unfold zck at hW2;clear hx st2 r2 g2' q2 k0 k1 ix0 HR0;go_upto_region 2 with fail;rw [← hW2,← hb2];clear hW2 hb2;obtain ⟨k0,k1⟩:=HC.out W2 HF.out;have ix1:=HIx1.out W2;have HR1:=Hh (H1.out f2 g2 W2 HSt.out HL.out.2.1 HCn.out.2.1);go_wp2_with fail;(with_reducible refine HR1.out.mono ?_);rintro e w3 ⟨y,o2,f3,g3,rfl,hy,st3,r3⟩;unfold zd1;obtain ⟨b3,hb3⟩:∃ b3,b3=w3.heap.size:=⟨_,rfl⟩;obtain ⟨W3,hW3⟩:∃ W3,W3=w3.alloc (.cells (zck y) 92):=⟨_,rfl⟩;have g3':Fr NoM w3 W3:=by rw [hW3];exact (Fr.refl NoM w3).alloc _
  have q3:UBox W3 b3 y:=by rw [hb3];exact UBox.made hW3
  have r3':=r3.trans g3' (fun _ _ q=>q.elim);have hz2:¬ (b2=ob∨b2=kb):=fun e=>by have h1:=HZ2.out;have h2:=HLt.out;have h3:=HS1.out;omega
  have HZ3:=Hh (show w1.heap.size≤b3 from by rw [hb3];exact Nat.le_trans HF.out.size r3.size);have HY0:=Hh hy;have HSt:=Hh (st3.fr0 g3');have HB2:=Hh (HB2.out.fr r3' hz2);have HF:=Hh (HF.out.trans r3' (fun _ _ q=>q));have HB3:=Hh q3;unfold zck at hW3;clear hy st3 r3 r3' g3' q3 k0 k1 ix1 HR1 hz2;go_upto_region 3 with fail;rw [← hW3,← hb3];clear hW3 hb3;have HR2:=Hh (H2.out f3 g3 W3 HSt.out HL.out.2.2 HCn.out.2.2);go_wp2_with fail;(with_reducible refine HR2.out.mono ?_);rintro e w4 ⟨z,o3,f4,g4,rfl,hz,st4,r4⟩;unfold zd1;obtain ⟨b4,hb4⟩:∃ b4,b4=w4.heap.size:=⟨_,rfl⟩;obtain ⟨W4,hW4⟩:∃ W4,W4=w4.alloc (.cells (zck z) 92):=⟨_,rfl⟩;have g4':Fr NoM w4 W4:=by rw [hW4];exact (Fr.refl NoM w4).alloc _
  have q4:UBox W4 b4 z:=by rw [hb4];exact UBox.made hW4
  have r4':=r4.trans g4' (fun _ _ q=>q.elim);have hz2:¬ (b2=ob∨b2=kb)∧¬ (b3=ob∨b3=kb):=⟨fun e=>by have h1:=HZ2.out;have h2:=HLt.out;have h3:=HS1.out;omega,fun e=>by have h1:=HZ3.out;have h2:=HLt.out;have h3:=HS1.out;omega⟩;have HZ4:=Hh (show w1.heap.size≤b4 from by rw [hb4];exact Nat.le_trans HF.out.size r4.size);have HZz:=Hh hz;have HSt:=Hh (st4.fr0 g4');have HB2:=Hh (HB2.out.fr r4' hz2.1);have HB3:=Hh (HB3.out.fr r4' hz2.2);have HF:=Hh (HF.out.trans r4' (fun _ _ q=>q));have HB4:=Hh q4;unfold zck at hW4;clear hz st4 r4 r4' g4' q4 HR2 hz2;go_upto_region 4 with fail;rw [← hW4,← hb4];clear hW4 hb4;obtain ⟨x0,x1,x2,x3⟩:=HB2.out.cells;obtain ⟨y0,y1,y2,y3⟩:=HB3.out.cells;obtain ⟨z0,z1,z2,z3⟩:=HB4.out.cells;obtain ⟨r0,r1,r2,r3⟩:=HR.out W4 HF.out;have HN1:=Hh (fun (h:o1=false)=>show ∀ a,¬ IsPair ((za0 V).getD p0 0) ((za0 V).getD p1 0) ((za0 V).getD p2 0) a from fun (a:Nat) (q:IsPair ((za0 V).getD p0 0) ((za0 V).getD p1 0) ((za0 V).getD p2 0) a)=>(by
    obtain ⟨s,t,_,i1,_,_⟩:=q.reads;exact HX0.out.2 h _ _ _ i1:False))
  have HN2:=Hh (fun (h:o2=false)=>show ∀ a,¬ IsPair ((za0 V).getD p0 0) ((za0 V).getD p1 0) ((za0 V).getD p2 0) a from fun (a:Nat) (q:IsPair ((za0 V).getD p0 0) ((za0 V).getD p1 0) ((za0 V).getD p2 0) a)=>(by
    obtain ⟨s,t,_,_,i1,_⟩:=q.reads;exact HY0.out.2 h _ _ _ i1:False))
  have HN3:=Hh (fun (h:o3=false)=>show ∀ a,¬ IsPair ((za0 V).getD p0 0) ((za0 V).getD p1 0) ((za0 V).getD p2 0) a from fun (a:Nat) (q:IsPair ((za0 V).getD p0 0) ((za0 V).getD p1 0) ((za0 V).getD p2 0) a)=>(by
    obtain ⟨s,t,_,_,_,i1⟩:=q.reads;exact HZz.out.2 h _ _ _ i1:False))
  have HEW:=Hh (fun (W:World) (f:Fr NoM W4 W) (T:Int) (P:Nat) (ok:Bool) h1 h2=>HEnd.out W f4 g4 (HSt.out.fr0 f) (HF.out.trans f (fun _ _ q=>q.elim)) T P ok h1 h2);have HE:=Hh (HEW.out W4 (Fr.refl _ _));cases o1 with
  | false =>
    have HN:=Hh (HN1.out rfl);go_wp2;refine bodyPost_ret (v:=.tuple #[.agg #[.int .i64 0,.int .i64 0],.bool false]) (by simp [results,Tryz.results179,go_sem,r0,r1,r2,r3]) rfl ?_
    exact HE.out 0 0 false (fun e=>by cases e) (fun _=>HN.out)
  | true =>
    cases o2 with
    | false =>
      have HN:=Hh (HN2.out rfl);go_wp2;refine bodyPost_ret (v:=.tuple #[.agg #[.int .i64 0,.int .i64 0],.bool false]) (by simp [results,Tryz.results179,go_sem,r0,r1,r2,r3]) rfl ?_
      exact HE.out 0 0 false (fun e=>by cases e) (fun _=>HN.out)
    | true =>
      cases o3 with
      | false =>
        have HN:=Hh (HN3.out rfl);go_wp2;refine bodyPost_ret (v:=.tuple #[.agg #[.int .i64 0,.int .i64 0],.bool false]) (by simp [results,Tryz.results179,go_sem,r0,r1,r2,r3]) rfl ?_
        exact HE.out 0 0 false (fun e=>by cases e) (fun _=>HN.out)
      | true =>
        obtain ⟨nx,_,bx⟩:=HX0.out.1 rfl;obtain ⟨ny,_,by'⟩:=HY0.out.1 rfl;obtain ⟨nz,_⟩:=HZz.out.1 rfl;have HBs:=Hh (show x.2.2≤1000000∧y.2.2≤1000000 from by have:=HL.out;have:=HV.out;omega);clear bx by'
        have HYes:=Hh (fun h1 h2 h3 h4 h5 h6 h7=>ya6 nx ny nz h1 h2 h3 h4 h5 h6 h7);have HWas:=Hh (fun (a:Nat) (q:IsPair ((za0 V).getD p0 0) ((za0 V).getD p1 0) ((za0 V).getD p2 0) a)=>(by
          obtain ⟨s,t,st,i1,i2,i3⟩:=q.reads;exact ⟨s,t,st,nx.of i1,ny.of i2,nz.of i3⟩:∃ s t,s + t=1∧x=(valD a,0,s)∧y=(valD a,0,t)∧z=(valD a,0,0)))
        clear nx ny nz HX0 HY0 HZz HN1 HN2 HN3;obtain ⟨⟨T1,P1⟩,n1,s1⟩:=x;obtain ⟨⟨T2,P2⟩,n2,s2⟩:=y;obtain ⟨⟨T3,P3⟩,n3,s3⟩:=z;simp only at x0 x1 x2 x3 y0 y1 y2 y3 z0 z1 z2 z3;by_cases hQ:T1=T3∧P1=P3∧T2=T3∧P2=P3∧n3=0∧s3=0∧n1=0∧n2=0
        · obtain ⟨rfl, rfl, rfl, rfl, rfl, rfl, rfl, rfl⟩ := hQ
          obtain ⟨bR,hbR⟩:∃ bR,bR=decide ((s1:Int) + (s2:Int)=1):=⟨_,rfl⟩;have HBR:=Hh hbR;have hrt:bR=true→∃ a,IsPair ((za0 V).getD p0 0) ((za0 V).getD p1 0) ((za0 V).getD p2 0) a∧T2=(valD a).1∧P2=(valD a).2:=fun e=>by
            have h7:=of_decide_eq_true (HBR.out.symm.trans e);obtain ⟨a,ha,hd⟩:=HYes.out rfl rfl rfl rfl rfl rfl (by simp only;omega);exact ⟨a,ha,by rw [hd],by rw [hd]⟩
          have hrf:bR=false→∀ a,¬ IsPair ((za0 V).getD p0 0) ((za0 V).getD p1 0) ((za0 V).getD p2 0) a:=fun e a q=>by
            have h7:=of_decide_eq_false (HBR.out.symm.trans e);obtain ⟨s,t,st,e1,e2,e3⟩:=HWas.out a q;have q1:=congrArg (fun z=>z.2.2) e1;have q2:=congrArg (fun z=>z.2.2) e2;simp only at q1 q2;omega
          have HEE:=Hh (fun (W:World) (f:Fr NoM W4 W)=>HEW.out W f T2 P2 bR hrt hrf);have HSr:=Hh (fun (W:World) (f:Fr (fun q=>q=w.heap.size) W4 W)=>show W.cell? ⟨b4,0,none⟩=some (.int .i64 T2)∧W.cell? ⟨b4,1,none⟩=some (.int .i64 (P2:Int))∧W.cell? ⟨b2,3,none⟩=some (.int .i64 (s1:Int))∧W.cell? ⟨b3,3,none⟩=some (.int .i64 (s2:Int)) from by
            have h2:=HZ2.out;have h3:=HZ3.out;have h4:=HZ4.out;have h5:=HS1.out;exact ⟨f.cell z0 (fun e=>by have e:b4=w.heap.size:=e;omega),f.cell z1 (fun e=>by have e:b4=w.heap.size:=e;omega),f.cell x3 (fun e=>by have e:b2=w.heap.size:=e;omega),f.cell y3 (fun e=>by have e:b3=w.heap.size:=e;omega)⟩)
          clear hrt hrf hbR HYes HWas;have hb1:s1≤1000000:=HBs.out.1;have hb2:s2≤1000000:=HBs.out.2;go_upto_region 6 with fail;have F0:Fr (fun q=>q=w.heap.size) W4 W4:=Fr.refl _ _;have F1:Fr (fun q=>q=w.heap.size) W4 W4.drew:=F0.drew;have F2:Fr (fun q=>q=w.heap.size) W4 ((W4.setCell ⟨w.heap.size,0,none⟩ (.int .i64 T2)).setCell ⟨w.heap.size,1,none⟩ (.int .i64 (P2:Int))):=(F0.setCell ⟨w.heap.size,0,none⟩ _ (fun _=>rfl)).setCell ⟨w.heap.size,1,none⟩ _ (fun _=>rfl);have F3:Fr (fun q=>q=w.heap.size) W4 ((W4.drew.setCell ⟨w.heap.size,0,none⟩ (.int .i64 T2)).setCell ⟨w.heap.size,1,none⟩ (.int .i64 (P2:Int))):=(F1.setCell ⟨w.heap.size,0,none⟩ _ (fun _=>rfl)).setCell ⟨w.heap.size,1,none⟩ _ (fun _=>rfl);go_region_held3 (fun (W:World)=>W.cell? ⟨b4,0,none⟩=some (.int .i64 T2)∧W.cell? ⟨b4,1,none⟩=some (.int .i64 (P2:Int))∧W.cell? ⟨b2,3,none⟩=some (.int .i64 (s1:Int))∧W.cell? ⟨b3,3,none⟩=some (.int .i64 (s2:Int)))
            (exact HSr.out _ (by assumption))
            (first | fail)
          all_goals
            rw [show IntKind.i64.wrap ((s1:Int) + (s2:Int))=(s1:Int) + (s2:Int) from by rw [IntKind.wrap_i64];omega];obtain ⟨bS,hbS⟩:∃ bS,bS=((s1:Int) + (s2:Int) == 1):=⟨_,rfl⟩;have hSR:bS=bR:=by rw [hbS,HBR.out];rfl
            rw [← hbS];subst hSR;clear hbS;obtain ⟨r0,r1,r2,r3⟩:=HR.out _ HF.out;go_wp2;refine bodyPost_ret (v:=.tuple #[.agg #[.int .i64 T2,.int .i64 (P2:Int)],.bool bS]) (by simp [results,Tryz.results179,go_sem,r0,r1,r2,r3]) rfl ?_
            exact (HEE.out _ (Fr.refl _ _)).drew
        · have HQ := Hh hQ
          have HNo:=Hh (show ∀ a,¬ IsPair ((za0 V).getD p0 0) ((za0 V).getD p1 0) ((za0 V).getD p2 0) a from fun a q=>by
            obtain ⟨s,t,st,e1,e2,e3⟩:=HWas.out a q;have a1:=congrArg (fun z=>z.1.1) e1;have a2:=congrArg (fun z=>z.1.2) e1;have a3:=congrArg (fun z=>z.2.1) e1;have b1:=congrArg (fun z=>z.1.1) e2;have b2:=congrArg (fun z=>z.1.2) e2;have b3:=congrArg (fun z=>z.2.1) e2;have c1:=congrArg (fun z=>z.1.1) e3;have c2:=congrArg (fun z=>z.1.2) e3;have c3:=congrArg (fun z=>z.2.1) e3;have c4:=congrArg (fun z=>z.2.2) e3;simp only at a1 a2 a3 b1 b2 b3 c1 c2 c3 c4;exact hQ ⟨a1.trans c1.symm,a2.trans c2.symm,b1.trans c1.symm,b2.trans c2.symm,c3,c4,a3,b3⟩)
          clear hQ HYes HWas;go_wp2;all_goals first
            | (refine bodyPost_ret (v:=.tuple #[.agg #[.int .i64 0,.int .i64 0],.bool false]) (by simp [results,Tryz.results179,go_sem,r0,r1,r2,r3]) rfl ?_
               exact HE.out 0 0 false (fun e=>by cases e) (fun _=>HNo.out))
            | (exfalso;exact HQ.out ⟨by omega,by omega,by omega,by omega,by omega,by omega,by omega,by simp_all⟩)
end Go.Proofs.YtlapkmhemepcaaaGreatDoor
