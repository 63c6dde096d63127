import Derived.Test.YtiidnnpanickaaaGreatDoorZdNegP
import Derived.Test.YtiidnnpanickaaaGreatDoorZdGoodFormP
/- What the claim of FnTinyCard needs of: RootP CompareP. -/
namespace Go.Proofs.YtiidnnpanickaaaGreatDoor
set_option linter.unusedVariables false
set_option linter.unusedSimpArgs false
open Go.RowKit
def RootPost (M I:Nat→Prop) (pb:Nat) (mo mc ms mn:Value) (w:World) (V:List PL) (Fs:List PL) (e:Ending) (w':World):Prop :=
  ∃ (r : Nat) (V' : List PL) (BV' : List Nat) (M' I' : Nat → Prop), e = .returned (.int .i64 (r : Int)) ∧ PoolS M' I' w' pb V' BV' mo mc ms mn ∧ PoolOK V' BV' ∧ V <+: V' ∧ r < V'.length ∧ (codesOf V').getD r 0 = codeF Fs ∧
    (∀ x,x < V'.length→(codesOf V').getD x 0∈codesOf V ++ codesOf Fs)∧(∀ q,M' q→(M q∨w.heap.size≤q)∧q < w'.heap.size)∧(∀ q,I' q→(I q∨w.heap.size≤q)∧q < w'.heap.size)∧Fr M w w'
set_option maxRecDepth 4000 in
set_option maxHeartbeats 8000000 in
theorem rootP_any {R M I:Nat→Prop} (pb:Nat) (nv:Value) (V Fs:List PL) (BV:List Nat) (mo mc ms mn:Value) (w:World) (hP:PoolS M I w pb V BV mo mc ms mn) (hMl:∀ q,M q→q < w.heap.size) (hIl:∀ q,I q→q < w.heap.size) (hOK:PoolOK V BV) (hF:NodeL R encN w nv Fs) (hR:∀ k,R k→¬ M k)
    (hg:goodI (i2 Fs)) (hn:V.length < 1000000):Calls Tryz.prog 70 #[.pointer (some ⟨pb,0,none⟩),.agg #[nv]] w fun e w'=>RootPost M I pb mo mc ms mn w V Fs e w':=by
  obtain ⟨g1,g2,g3,g4,g5,_⟩:=goodI_parts hg
  obtain ⟨w1,hw1⟩:∃ w1,w1=w.alloc (.cells #[nv] 31):=⟨_,rfl⟩
  have f1:Fr NoM w w1:=by rw [hw1];exact (Fr.refl NoM w).alloc _
  have hs1:w1.heap.size=w.heap.size + 1:=by rw [hw1];simp
  have e1:w1.heap[w.heap.size]?=some (.cells #[nv] 31 (0,0)):=by rw [hw1];exact heap_alloc_new w _
  have c1:w1.cell? ⟨w.heap.size,0,none⟩=some nv:=by rw [cell_of_row _ _ 0 _ _ _ e1];rfl
  have HLd:=Lib.hid (load_any pb nv V Fs BV mo mc ms mn w1 (hP.fr0 f1) (fun q hq=>by have:=hMl q hq;omega) (fun q hq=>by have:=hIl q hq;omega) hOK (hF.fr0 f1) hR g4.opts (by omega) (fun y hy=>by have:=g3 y hy;omega))
  obtain ⟨a1,a2,a3,a4⟩:=addB_code Fs g4.opts hOK
  obtain ⟨⟨V',B',A⟩,hA⟩:∃ s,addB V BV Fs=s:=⟨_,rfl⟩
  rw [hA] at HLd a1 a2 a3 a4
  dsimp only at HLd a1 a2 a3 a4
  have hAl:A.length=Fs.length:=by rw [a3.len,codesOf_length]
  obtain ⟨n,hn'⟩:∃ n,A.length=n + 1:=⟨Fs.length - 1,by omega⟩
  obtain ⟨r,hr,hrl,hrc⟩:=RowC.get (P:=(codesOf Fs).length) (p:=n) (by rw [List.take_length];exact a3) (by rw [codesOf_length];omega) (List.getElem?_eq_getElem (show n < (codesOf Fs).length by rw [codesOf_length];omega))
  have hrc':(codesOf V').getD r 0=codeF Fs:=by
    rw [hrc]
    unfold codeF
    rw [show Fs.length - 1=n from by omega,List.getD_eq_getElem?_getD,List.getElem?_eq_getElem (show n < (codesOf Fs).length by rw [codesOf_length];omega)]
    rfl
  obtain ⟨na,nc,rfl,z⟩:=id hF
  clear z
  have HA1:=Lib.hid a1;have HA2:=Lib.hid a2;have HA4:=Lib.hid a4;have HR':=Lib.hid hr;have HRl:=Lib.hid hrl;have HRc:=Lib.hid hrc';have HF1:=Lib.hid f1;have HS1:=Lib.hid hs1;have HNl:=Lib.hid hn';have HAl:=Lib.hid hAl;have HG2:=Lib.hid g2
  clear hP hMl hIl hOK hF hR hg hn g1 g2 g3 g4 g5 f1 hs1 e1 a1 a2 a3 a4 hA hAl hr hrl hrc hrc' hn'
  go_enter Tryz.func70,Tryz.ntmps70
  go_wp2_with fail
  rw [← hw1]
  clear hw1
  refine HLd.out.mono ?_
  rintro e w2 ⟨v2,M2,I2,rfl,hrow,hp2,hM2,hI2,hf2⟩
  obtain ⟨lb,lc,rfl⟩:=hrow.shape
  obtain ⟨_,_,ee,_,_,hrcc⟩:=id hrow.nats
  obtain ⟨rfl,hz,rfl⟩:=Value.slice.inj ee
  clear ee hz
  obtain ⟨b3,o3,ha3,c3⟩:=hrcc n r HR'.out
  unfold encN at c3
  have hnl:=HNl.out
  have ix:=ixInts (some ⟨lb,0,none⟩) A.length lc n b3 o3 (by omega) ha3
  have hcast:((A.length:Int) - 1)=(n:Int):=by omega
  have hnb:n < 1000:=by have:=HAl.out;have:=HG2.out;omega
  have hAb:A.length < 1001:=by omega
  have HEnd:=Lib.hid (And.intro hp2 (And.intro (fun q (hq:M2 q)=>((⟨(hM2 q hq).1.imp_right (fun z=>by have:=HS1.out;omega),(hM2 q hq).2.1⟩:(M q∨w.heap.size≤q)∧q < w2.heap.size))) (And.intro (fun q (hq:I2 q)=>((⟨(hI2 q hq).1.imp_right (fun z=>by have:=HS1.out;omega),(hI2 q hq).2.1⟩:(I q∨w.heap.size≤q)∧q < w2.heap.size))) (HF1.out.any.trans hf2 (fun _ _ q=>q)))))
  clear hrow hp2 hM2 hI2 hf2 hrcc ha3 hnl c1 HLd
  go_wp2_with fail
  go_ret
  exact ⟨r,V',B',M2,I2,rfl,HEnd.out.1,HA1.out,HA2.out,HRl.out,HRc.out,HA4.out,HEnd.out.2.1,HEnd.out.2.2.1,HEnd.out.2.2.2⟩
def outM (more less:Bool):Int:=if more=true then (if less=true then 4 else 1) else if less=true then 2 else 3
def OutPost (C:List Nat) (ob x y:Nat) (w:World) (e:Ending) (w':World):Prop:=e=.returned (.int .i64 (outM (geV C x y) (geV C y x)))∧Fr (fun q=>q=ob) w w'
set_option maxRecDepth 4000 in
set_option maxHeartbeats 4000000 in
theorem outcome_call {M I:Nat→Prop} {C:List Nat} {V:List PL} {BV:List Nat} (B:BookC V C) (pb ob:Nat) (mc ms mn:Value) (hMo:¬ M ob) (hIo:¬ I ob) (x y:Nat) (hx:x < V.length) (hy:y < V.length) (f:Nat × Nat→Option Bool) (w:World) (hP:PoolS M I w pb V BV (.map (some ob)) mc ms mn) (hm:MapF encP encB w ob f) (hO:OrdF C f) :
    Calls Tryz.prog 72 #[.pointer (some ⟨pb,0,none⟩),.int .i64 (x:Int),.int .i64 (y:Int)] w fun e w'=>OutPost C ob x y w e w':=by
  have HG1:=Lib.hid (ge_all B pb ob mc ms mn hMo hIo _ x y (Nat.lt_succ_self _) hx hy f w hP hm hO)
  have HG2:=Lib.hid (fun (W:World) (f':Nat × Nat→Option Bool) (fr:Fr (fun q=>q=ob) w W) (hm:MapF encP encB W ob f') (hO:OrdF C f')=>ge_all B pb ob mc ms mn hMo hIo _ y x (Nat.lt_succ_self _) hy hx f' W (hP.fr fr (fun q hq e=>hMo (e ▸ hq)) (fun q hq e=>hIo (e ▸ hq))) hm hO)
  obtain ⟨more,hmore⟩:∃ more,more=geV C x y:=⟨_,rfl⟩
  obtain ⟨less,hless⟩:∃ less,less=geV C y x:=⟨_,rfl⟩
  have h1:=HG1.out
  rw [← hmore] at h1
  have h2:=HG2.out
  rw [← hless] at h2
  have HG1:=Lib.hid h1;have HG2:=Lib.hid h2
  unfold OutPost
  rw [← hmore,← hless]
  clear hP hm hO hmore hless h1 h2
  go_enter Tryz.func72,Tryz.ntmps72
  go_wp2_with fail
  (with_reducible refine HG1.out.mono ?_)
  rintro e w1 ⟨rfl,f1,m1,o1,fr1⟩
  have HG2:=Lib.hid (HG2.out w1 f1 fr1 m1 o1)
  have F1:=Lib.hid fr1
  clear m1 o1 fr1
  go_wp2_with fail
  (with_reducible refine HG2.out.mono ?_)
  rintro e w2 ⟨rfl,f2,_,_,fr2⟩
  have F2:=Lib.hid (F1.out.trans fr2 (fun _ _ q=>q))
  clear fr2
  cases more with
  | true =>
    cases less with
    | true =>
      go_wp2
      go_ret
      exact ⟨rfl,F2.out⟩
    | false =>
      go_wp2
      go_ret
      exact ⟨rfl,F2.out⟩
  | false =>
    cases less with
    | true =>
      go_wp2
      go_ret
      exact ⟨rfl,F2.out⟩
    | false =>
      go_wp2
      go_ret
      exact ⟨rfl,F2.out⟩
set_option maxRecDepth 4000 in
set_option maxHeartbeats 8000000 in
theorem compareP_any {R S:Nat→Prop} (v1 v2:Value) (Fs Gs:List PL) (w:World) (h1:NodeL R encI w v1 (i2 Fs)) (h2:NodeL S encI w v2 (i2 Gs)) (hg1:goodI (i2 Fs)) (hg2:goodI (i2 Gs)) :
    Calls Tryz.prog 28 #[.agg #[v1],.agg #[v2]] w fun e w'=>e=.returned (.tuple #[.int .i64 (outM (geC (codeF Fs) (codeF Gs)) (geC (codeF Gs) (codeF Fs))),.bool true])∧Fr NoM w w':=by
  obtain ⟨res,hres⟩:∃ res,res=outM (geC (codeF Fs) (codeF Gs)) (geC (codeF Gs) (codeF Fs)):=⟨_,rfl⟩
  rw [← hres]
  have HRes:=Lib.hid hres
  clear hres
  obtain ⟨w1,hw1⟩:∃ w1,w1=(w.alloc (.cells #[v1] 31)).alloc (.cells #[v2] 31):=⟨_,rfl⟩
  have f1:Fr NoM w w1:=by rw [hw1];exact ((Fr.refl NoM w).alloc _).alloc _
  have hs1:w1.heap.size=w.heap.size + 2:=by rw [hw1];simp
  have e0:w1.heap[w.heap.size]?=some (.cells #[v1] 31 (0,0)):=by rw [hw1];exact ((Fr.refl NoM _).alloc _).heap (heap_alloc_new w _) (fun q=>q)
  have e1:w1.heap[w.heap.size + 1]?=some (.cells #[v2] 31 (0,0)):=by
    have h:=heap_alloc_new (w.alloc (.cells #[v1] 31)) (.cells #[v2] 31)
    rw [World.size_alloc] at h
    rw [hw1];exact h
  have HK:=Lib.hid (fun (W:World) (f:Fr NoM w1 W)=>show W.cell? ⟨w.heap.size,0,none⟩=some v1∧W.cell? ⟨w.heap.size + 1,0,none⟩=some v2 from by
    have h0:=f.heap e0 (fun q=>q)
    have h1:=f.heap e1 (fun q=>q)
    exact ⟨by rw [cell_of_row W _ 0 _ _ _ h0];rfl,by rw [cell_of_row W _ 0 _ _ _ h1];rfl⟩)
  have HGd1:=Lib.hid (goodFormP_any v1 (i2 Fs) w1 (h1.fr0 f1) true (by simp [hg1]))
  have HGd2:=Lib.hid (fun (W:World) (f:Fr NoM w1 W)=>goodFormP_any v2 (i2 Gs) W ((h2.fr0 f1).fr0 f) true (by simp [hg2]))
  have HN1:=Lib.hid (fun (W:World) (f:Fr NoM w1 W)=>((h1.low.fr0 f1).fr0 f:NodeL (· < w.heap.size) encI W v1 (i2 Fs)))
  have HN2:=Lib.hid (fun (W:World) (f:Fr NoM w1 W)=>((h2.low.fr0 f1).fr0 f:NodeL (· < w.heap.size) encI W v2 (i2 Gs)))
  have F1:=Lib.hid f1;have HS1:=Lib.hid hs1
  obtain ⟨a1,c1,rfl,z⟩:=id h1
  clear z
  obtain ⟨a2,c2,rfl,z⟩:=id h2
  clear z h1 h2 f1 hs1 e0 e1
  obtain ⟨k0,k1⟩:=HK.out w1 (Fr.refl _ _)
  have HG1:=Lib.hid hg1;have HG2:=Lib.hid hg2
  clear hg1 hg2
  go_enter Tryz.func28,Tryz.ntmps28
  go_wp2_with fail
  rw [← hw1]
  clear hw1
  (with_reducible refine HGd1.out.mono ?_)
  rintro e wx ⟨rfl,fx⟩
  have FX:=Lib.hid fx
  clear k0 k1 fx
  obtain ⟨k0,k1⟩:=HK.out wx FX.out
  go_wp2_with fail
  (with_reducible refine (HGd2.out wx FX.out).mono ?_)
  rintro e w2 ⟨rfl,f2⟩
  have F2:=Lib.hid (FX.out.trans f2 (fun _ _ q=>q))
  clear f2 k0 k1
  obtain ⟨k0,k1⟩:=HK.out w2 F2.out
  have hg1:=HG1.out;have hg2:=HG2.out
  go_wp2_with fail
  refine (newPool_any w2).mono ?_
  rintro e w3 ⟨rfl,hp3,hmaps,f3⟩
  obtain ⟨pb,hpb⟩:∃ pb,pb=w2.heap.size + 5:=⟨_,rfl⟩
  obtain ⟨ob,hob⟩:∃ ob,ob=w2.heap.size + 1:=⟨_,rfl⟩
  have hmapo:=hmaps 1 (by omega)
  rw [← hob] at hmapo hp3
  rw [← hpb] at hp3 ⊢
  obtain ⟨mc,hmc⟩:∃ v,v=Value.map (some (w2.heap.size + 2)):=⟨_,rfl⟩
  obtain ⟨ms,hms⟩:∃ v,v=Value.map (some (w2.heap.size + 3)):=⟨_,rfl⟩
  obtain ⟨mn,hmn⟩:∃ v,v=Value.map (some (w2.heap.size + 4)):=⟨_,rfl⟩
  rw [← hmc,← hms,← hmn] at hp3
  clear hmaps hmc hms hmn
  have hobl:ob < w3.heap.size:=(Array.getElem?_eq_some_iff.1 hmapo).1
  have hw12:w.heap.size + 2≤w2.heap.size:=by have:=F2.out.size;have:=HS1.out;omega
  have hf13:=F2.out.trans f3 (fun _ _ q=>q)
  have HMo:=Lib.hid (show MapF encP encB w3 ob (fun _=>none) from ⟨#[],0,hmapo,by simp,by simp,by simp⟩)
  have hp0:=hp3.low
  have HMge:=Lib.hid (show ∀ q,(fun q=>(q=w2.heap.size∨q=pb)∧q < w3.heap.size) q→w2.heap.size≤q∧q≠ob from fun q hq=>by
    rcases hq.1 with e | e <;> omega)
  have K0:Fr NoM w3 w3.drew:=(Fr.refl NoM w3).drew
  have hr1:=rootP_any pb (.slice a1 (i2 Fs).length c1) [] Fs [] (.map (some ob)) mc ms mn w3.drew (hp0.fr0 K0) (fun q hq=>by rw [World.size_drew];exact hq.2) (fun q hq=>by rw [World.size_drew];exact hq.2) PoolOK.nil (HN1.out w3.drew (hf13.trans K0 (fun _ _ q=>q))).ofI (fun k hk hm=>by have:=(HMge.out k hm).1;have hk:k < w.heap.size:=hk;omega) hg1 (by simp)
  obtain ⟨M3,hM3⟩:∃ M3:Nat→Prop,M3=fun q=>(q=w2.heap.size∨q=pb)∧q < w3.heap.size:=⟨_,rfl⟩
  obtain ⟨I3,hI3⟩:∃ I3:Nat→Prop,I3=fun q=>NoM q∧q < w3.heap.size:=⟨_,rfl⟩
  have HMge:=Lib.hid (show ∀ q,M3 q→w2.heap.size≤q∧q≠ob from by rw [hM3];exact HMge.out)
  have HIno:=Lib.hid (show ∀ q,¬ I3 q from by rw [hI3];exact fun q h=>h.1)
  rw [← hM3,← hI3] at hr1
  have HRt1:=Lib.hid hr1
  have HIn:=Lib.hid (fun (W:World) (f:Fr (fun q=>M3 q∨q=ob) w3 W)=>(hf13.trans f (fun q hq h=>by
    have h2:=F2.out.size
    rcases h with h | h
    · have:=(HMge.out q h).1;omega
    · omega):Fr NoM w1 W))
  have hRt2:=fun (W:World) (V:List PL) (BV:List Nat) (M I:Nat→Prop) (f:Fr M3 w3 W) (hP:PoolS M I W pb V BV (.map (some ob)) mc ms mn) (hOK:PoolOK V BV) (hM:∀ q,M q→(M3 q∨w3.heap.size≤q)∧q < W.heap.size) (hI:∀ q,I q→(I3 q∨w3.heap.size≤q)∧q < W.heap.size) (hn:V.length < 1000000) =>
    rootP_any pb (.slice a2 (i2 Gs).length c2) V Gs BV (.map (some ob)) mc ms mn W hP (fun q hq=>(hM q hq).2) (fun q hq=>(hI q hq).2) hOK (HN2.out W (HIn.out W (f.mono (fun _ _ q=>.inl q)))).ofI (fun k hk hm=>by
      have hk:k < w.heap.size:=hk
      have h3:=f3.size
      rcases (hM k hm).1 with h | h
      · have:=(HMge.out k h).1;omega
      · omega) hg2 hn
  have HRt2:=Lib.hid hRt2
  have hFl:Fs.length≤120:=by have h:=hg1.1;unfold fitsB at h;rw [decide_eq_true_eq,i2_length] at h;exact h.1
  have hGl:Gs.length≤120:=by have h:=hg2.1;unfold fitsB at h;rw [decide_eq_true_eq,i2_length] at h;exact h.1
  have HFl:=Lib.hid (And.intro hFl hGl)
  have HOb:=Lib.hid hobl;have HW12:=Lib.hid hw12;have F13:=Lib.hid hf13;have F23:=Lib.hid f3
  clear k0 k1
  obtain ⟨k0,k1⟩:=HK.out w3 hf13
  have C0:w3.drew.cell? ⟨w.heap.size,0,none⟩=some (.slice a1 (i2 Fs).length c1):=K0.cell k0 (fun q=>q)
  have C1:w3.drew.cell? ⟨w.heap.size + 1,0,none⟩=some (.slice a2 (i2 Gs).length c2):=K0.cell k1 (fun q=>q)
  clear hp3 hmapo hpb hob hobl hw12 hf13 hp0 hr1 hM3 hI3 hRt2 hFl hGl f3 hg1 hg2
  go_upto_region 4 with fail
  go_region_law (first
    | (go_simp; first
      | (go_at_call 70;(with_reducible refine HRt1.out.mono ?_);rintro e wa ⟨r1,V1,B1,M1,I1,rfl,pa,oa,va,ra,ca,ua,ma,ia,fa⟩;have ka:Fr M3 w3 wa:=K0.any.trans fa (fun _ _ q=>q);obtain ⟨j0,j1⟩:=HK.out wa (HIn.out wa (ka.mono (fun _ _ q=>.inl q)));(try simp only [World.size_drew] at ma ia);have lv1:V1.length≤120:=by { have h1:=pool_size oa ua;have h2:=HFl.out;simp [codesOf_length,codesOf] at h1;have h3:=codesOf_length Fs;unfold codesOf at h3;omega })
      | (go_at_call 70;(with_reducible refine (HRt2.out wa V1 B1 M1 I1 ka pa oa ma ia (by omega)).mono ?_);rintro e wb ⟨r2,V2,B2,M2,I2,rfl,pb2,ob2,vb,rb,cb,ub,mb,ib,fb⟩;have kb:Fr M3 w3 wb:=ka.trans fb (fun q hq h=>(ma q h).1.elim id (fun z=>by omega));have ca':(codesOf V2).getD r1 0=codeF Fs:=by { rw [code_mono vb ra];exact ca };have la:=vb.length_le;have lv2:V2.length≤240:=by { have h1:=pool_size ob2 ub;have h2:=HFl.out;rw [List.length_append,codesOf_length,codesOf_length] at h1;omega };have hM2:¬ M2 ob:=(fun e=>by { have hs:=HOb.out;have hz:=ka.size;rcases (mb ob e).1 with h | h;{ rcases (ma ob h).1 with h | h;{ exact (HMge.out ob h).2 rfl };{ omega } };{ omega } });have hI2:¬ I2 ob:=(fun e=>by { have hs:=HOb.out;have hz:=ka.size;rcases (ib ob e).1 with h | h;{ rcases (ia ob h).1 with h | h;{ exact HIno.out ob h };{ omega } };{ omega } });have HGe:=Lib.hid (outcome_call ob2.book pb ob mc ms mn hM2 hI2 r1 r2 (by omega) rb (fun _=>none) wb pb2 (HMo.out.fr kb (fun h=>(HMge.out _ h).2 rfl)) (OrdF.none _));have hval:outM (geV (codesOf V2) r1 r2) (geV (codesOf V2) r2 r1)=res:=by { unfold geV;rw [ca',cb,HRes.out] })
      | (go_at_call 72;(with_reducible refine HGe.out.mono ?_);rintro e wc ⟨rfl,fc⟩;have kc:Fr (fun q=>M3 q∨q=ob) w3 wc:=(kb.mono (fun _ _ q=>.inl q)).trans fc (fun q hq h=>.inr h);rw [hval])
      | fail)
    | fail)
  all_goals
    have KC:=Lib.hid (F1.out.trans (HIn.out wc kc) (fun _ _ q=>q))
    clear pa oa va ra ca ua ma ia fa pb2 ob2 vb rb cb ub mb ib fb fc kc kb ka
    go_wp2
    go_ret2
    exact ⟨rfl,KC.out⟩
end Go.Proofs.YtiidnnpanickaaaGreatDoor
