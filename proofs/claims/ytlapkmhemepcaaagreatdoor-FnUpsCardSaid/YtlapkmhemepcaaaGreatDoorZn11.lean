import Derived.Test.YtlapkmhemepcaaaGreatDoorZnh
import Derived.Test.YtlapkmhemepcaaaGreatDoorZnu
/- Lemmas. -/
namespace Go.Proofs.YtlapkmhemepcaaaGreatDoor
set_option linter.unusedVariables false
set_option linter.unusedSimpArgs false
open Go.RowKit
def zub (pb ob sb:Nat) (ms mn:Value) (W:World) (M:Nat→Prop) (c:Nat) (e:Ending) (w':World):Prop :=
  ∃ (i : Nat) (V : List PL) (BV : List Nat) (M' I' : Nat → Prop) (fo : Nat × Nat → Option Bool), e = .returned (.int .i64 (i : Int)) ∧ PoolS M' I' w' pb V BV (.map (some ob)) (.map (some sb)) ms mn ∧ PoolOK V BV ∧ MapF encP encB w' ob fo ∧ OrdF (za0 V) fo ∧
    (∀ q,M' q→(q < w'.heap.size∧q≠ob∧q≠sb)∧(M q∨W.heap.size≤q))∧(∀ q,I' q→(q < w'.heap.size∧q≠ob∧q≠sb)∧W.heap.size≤q)∧V.length≤240∧i < V.length∧(za0 V).getD i 0=canC c∧Fr (fun q=>M q∨q=ob∨q=sb) W w'
set_option maxRecDepth 4000 in
set_option maxHeartbeats 8000000 in
theorem ziv {R M3 I3:Nat→Prop}(pb ob sb:Nat)(ms mn nv:Value)(Fs:List PL)(w3:World)(hP:PoolS M3 I3 w3 pb [] [] (.map (some ob)) (.map (some sb)) ms mn)(hM:∀q,M3 q→q<w3.heap.size/\q≠sb/\q≠ob)(hI:∀q,¬I3 q)
  (hmo:MapF encP encB w3 ob (fun _=>none)) (hmap:MapF encN encN w3 sb (fun _=>none)) (hos:ob≠sb) (hN:NodeL R encN w3 nv Fs) (hR:∀k,R k→¬M3 k) (hg:zc5 (i2 Fs)) :
  Calls Tryz.prog 76 #[.pointer (some ⟨pb,0,none⟩),.agg #[nv]] w3 fun e w'=>zub pb ob sb ms mn w3 M3 (zas Fs) e w':=by
 obtain⟨w4,hw4⟩:∃w4,w4=w3.alloc (.cells #[nv] 26):=⟨_,rfl⟩;have f4:Fr NoM w3 w4:=by rw[hw4];exact(Fr.refl NoM w3).alloc _
 have e4:w4.heap[w3.heap.size]?=some (.cells #[nv] 26 (0,0)):=by rw[hw4];exact heap_alloc_new w3 _
 have k0:w4.cell? ⟨w3.heap.size,0,none⟩=some nv:=by rw[cell_of_row w4 _ 0 _ _ _ e4];rfl
 have HRt:=Hh (zh6 pb nv [] Fs [] (.map (some ob)) (.map (some sb)) ms mn w4 (hP.fr0 f4) (fun q hq=>by have:=(hM q hq).1;have:=f4.size;omega) (fun q hq=>absurd hq (hI q)) PoolOK.nil (hN.fr0 f4) hR hg (by simp));have hFl:Fs.length≤120:=by have h:=hg.1;unfold zau at h;rw[decide_eq_true_eq,zc3]at h;exact h.1
 have HM:=Hh hM;have HI:=Hh hI;have HMo:=Hh (hmo.fr f4 (fun q=>q));have HMp:=Hh (hmap.fr f4 (fun q=>q));have HOs:=Hh hos;have HFl:=Hh hFl;have F4:=Hh f4;obtain⟨na,nc,rfl,zz⟩:=id hN;clear zz hP hM hI hmo hmap hos hN hR hg f4 e4 hFl;go_enter Tryz.func76,Tryz.ntmps76;go_wp2_with fail;rw[←hw4];clear hw4;(with_reducible refine HRt.out.mono ?_);rintro e wa ⟨r1,V1,B1,M1,I1,rfl,pa,oa,va,ra,ca,ua,ma,ia,fa⟩;have lv1:V1.length≤120:=by
  have h1:=zey oa ua;have h2:=HFl.out;rw[List.length_append,za1,za1]at h1;simp at h1;omega
 have hobl:=HMo.out.lt;have hsbl:=HMp.out.lt;have HSum:=Hh (zu7 pb ob sb ms mn V1 B1 r1 wa pa oa (HMo.out.fr fa (fun h=>(HM.out _ h).2.2 rfl)) (HMp.out.fr fa (fun h=>(HM.out _ h).2.1 rfl)) (fun q hq=>⟨(ma q hq).2,fun e=>by
  rcases (ma q hq).1 with h|h
  ·exact(HM.out q h).2.2 e
  ·omega,fun e=>by
  rcases (ma q hq).1 with h|h
  ·exact(HM.out q h).2.1 e
  ·omega⟩) (fun q hq=>⟨(ia q hq).2,fun e=>by
  rcases (ia q hq).1 with h|h
  ·exact HI.out q h
  ·omega,fun e=>by
  rcases (ia q hq).1 with h|h
  ·exact HI.out q h
  ·omega⟩) HOs.out ra (by omega))
 have FA:=Hh fa;have HMa:=Hh ma;have HIa:=Hh ia;have HCa:=Hh ca;have Hlv:=Hh lv1;clear pa oa va ra ca ua ma ia fa lv1 k0 hobl hsbl;go_wp2_with fail;(with_reducible refine HSum.out.mono ?_);rintro e wc ⟨i,V3,B3,M4,I4,ffo,ffc,rfl,st,nx,hi,hci⟩;have kc:Fr (fun q=>M3 q∨q=ob∨q=sb) w3 wc:=F4.out.any.trans ((FA.out.mono (fun _ _ q=>.inl q)).trans nx.fr (fun q hq h=>h.elim (fun h=>by
  rcases (HMa.out q h).1 with h|h
  ·exact .inl h
  ·omega) .inr)) (fun _ _ q=>q)
 rw[HCa.out]at hci;have hci:=hci.eq;have hq3:w3.heap.size≤wa.heap.size:=Nat.le_trans F4.out.size FA.out.size;have hsl:V3.length≤240:=by
  have h:=st.len;unfold canU at h;rw[List.length_append,List.length_map,za1]at h;have:=Hlv.out;omega
 have HE:=Hh (show zub pb ob sb ms mn w3 M3 (zas Fs) (.returned (.int .i64 (i:Int))) wc from⟨i,V3,B3,M4,I4,ffo,rfl,st.pool,st.ok,st.ord,st.ordOK,fun q hq=>⟨st.mlt q hq,(nx.mM q hq).elim (fun h=>(HMa.out q h).1.elim .inl (fun z=>.inr (by have:=F4.out.size;omega))) (fun z=>.inr (by omega))⟩,fun q hq=>⟨st.ilt q hq,(nx.mI q hq).elim (fun h=>(HIa.out q h).1.elim (fun z=>(HI.out q z).elim) (fun z=>by have:=F4.out.size;omega)) (fun z=>by omega)⟩,hsl,hi,hci,kc⟩);clear st nx hi hci kc hq3 hsl;go_wp2;go_ret;exact HE.out
set_option maxRecDepth 4000 in
set_option maxHeartbeats 4000000 in
theorem zod {R:Nat→Prop}(nv:Value)(Fs:List PL)(w:World)(h:NodeL R encI w nv (i2 Fs))(hg:zc5 (i2 Fs))(hsm:∀x,SubC (canC (zas Fs)) x→((∃l,hasL x l)↔∃r,hasR x r)) :
  Calls Tryz.prog 39 #[.agg #[nv]] w fun e w'=>e=.returned (.tuple #[.bool true,.bool true])/\Fr NoM w w':=by
 obtain⟨w1,hw1⟩:∃w1,w1=w.alloc (.cells #[nv] 26):=⟨_,rfl⟩;have f1:Fr NoM w w1:=by rw[hw1];exact(Fr.refl NoM w).alloc _
 have hs1:w1.heap.size=w.heap.size+1:=by rw[hw1];simp
 have e0:w1.heap[w.heap.size]?=some (.cells #[nv] 26 (0,0)):=by rw[hw1];exact heap_alloc_new w _
 have HK:=Hh (fun(W:World) (f:Fr NoM w1 W)=>show W.cell? ⟨w.heap.size,0,none⟩=some nv from by
  have h0:=f.heap e0 (fun q=>q);rw[cell_of_row W _ 0 _ _ _ h0];rfl)
 have F1:=Hh f1;have HS1:=Hh hs1;have HG:=Hh hg;have HN:=Hh (h.low.fr0 f1);have HSm:=Hh hsm;have HSig:=Hh (zc9 nv (i2 Fs) w1 (h.fr0 f1) true (by simp[hg]));obtain⟨na,nc,rfl,z⟩:=id h;clear z h f1 hs1 e0 hsm;have k0:=HK.out w1 (Fr.refl _ _);go_enter Tryz.func39,Tryz.ntmps39;go_wp2_with fail;rw[←hw1];clear hw1;(with_reducible refine HSig.out.mono ?_);rintro e w2 ⟨rfl,f2⟩;have HF2:=Hh f2;clear f2 k0;have hgd:=hg;have k0:=HK.out w2 HF2.out;go_wp2_with fail;refine(ze3 w2).mono ?_
 rintro e w3 ⟨rfl,hp3,hmaps,f3⟩;obtain⟨pb,hpb⟩:∃pb,pb=w2.heap.size+5:=⟨_,rfl⟩;obtain⟨ob,hob⟩:∃ob,ob=w2.heap.size+1:=⟨_,rfl⟩;obtain⟨sb,hsb⟩:∃sb,sb=w2.heap.size+2:=⟨_,rfl⟩;have hmap:=hmaps 2 (by omega);have hmapo:=hmaps 1 (by omega);rw[←hob]at hmapo hp3;rw[←hsb]at hmap hp3;rw[←hpb]at hp3 ⊢;obtain⟨ms,hms⟩:∃v,v=Value.map (some (w2.heap.size+3)):=⟨_,rfl⟩;obtain⟨mn,hmn⟩:∃v,v=Value.map (some (w2.heap.size+4)):=⟨_,rfl⟩;rw[←hms,←hmn]at hp3;clear hmaps hms hmn;have hw12:w.heap.size+1≤w2.heap.size:=by have:=HF2.out.size;have:=HS1.out;omega
 have hf13:=HF2.out.trans f3 (fun _ _ q=>q);have hp0:=hp3.low;have HMge:=Hh (show ∀q,(fun q=>(q=w2.heap.size∨q=pb)/\q<w3.heap.size) q→w2.heap.size≤q/\q≠sb/\q≠ob from fun q hq=>by
  rcases hq.1 with e|e <;> omega)
 have HCn:=Hh (ziv pb ob sb ms mn (.slice na (i2 Fs).length nc) Fs w3 hp0 (fun q hq=>⟨hq.2,(HMge.out q hq).2.1,(HMge.out q hq).2.2⟩) (fun q hq=>hq.1) ⟨#[],0,hmapo,by simp,by simp,by simp⟩ ⟨#[],0,hmap,by simp,by simp,by simp⟩ (by omega) (HN.out.fr0 hf13).ofI (fun k hk hm=>by have:=(HMge.out k hm).1;have hk:k<w.heap.size:=hk;omega) hgd);have HIn:=Hh (fun(W:World) (f:Fr (fun q=>((q=w2.heap.size∨q=pb)/\q<w3.heap.size)∨q=ob∨q=sb) w3 W)=>(hf13.trans f (fun q hq h=>by
  have h2:=HF2.out.size;rcases h with h|h
  ·have:=(HMge.out q h).1;omega
  ·omega):Fr NoM w1 W))
 have HF3:=Hh hf13;clear hp3 hp0 hmap hmapo hpb hob hsb hw12 hf13 f3 k0 hgd;have k0:=HK.out w3 HF3.out;go_wp2_with fail;(with_reducible refine HCn.out.mono ?_);rintro e wc ⟨i,V,B,M,I,fo,rfl,st,ok,mo',od,hm,hi',hl,hi,hc,kc⟩;have hn4:Nats (wc.alloc (.cells #[.int .i64 (i:Int)] 3)) (.slice (some ⟨wc.heap.size,0,none⟩) 1 1) [i]:=SliceOf.one encN wc i 3;have HPa:=Hh (zkv pb V B [i] (.map (some ob)) (.map (some sb)) ms mn _ (wc.alloc (.cells #[.int .i64 (i:Int)] 3)) (st.fr0 ((Fr.refl NoM wc).alloc _)) hn4 (fun x hx=>by rw[List.mem_singleton.1 hx];exact hi) (fun j y hy=>ok.opts' j y hy) (by simp) (by omega) (ok.lens (by omega)));have HSt:=Hh (st.fr0 ((Fr.refl NoM wc).alloc (.cells #[.int .i64 (i:Int)] 3)));have HEn:=Hh ((HIn.out wc kc).trans ((Fr.refl NoM wc).alloc (.cells #[.int .i64 (i:Int)] 3)) (fun _ _ q=>q));have HIs:=Hh (fun(x:Nat) (hx:ReachV V [i] x)=>show x<V.length/\((za5 V x).1.length=0↔(za5 V x).2.length=0)from by
  have hxl:=ok.reach (fun r hr=>by rw[List.mem_singleton.1 hr];exact hi) hx;have hsub:=zox ok.book hi hx;rw[hc]at hsub;have h1:=HSm.out _ hsub;obtain⟨oL,oR⟩:=zaz ok.book hxl;refine⟨hxl,?_⟩;have eL:(za5 V x).1.length=0↔¬ ∃l,hasL ((za0 V).getD x 0) l:=by
   constructor
   ·rintro e ⟨l,hl⟩
    obtain⟨y,hy,_⟩:=(oL l).1 hl;rw[List.eq_nil_of_length_eq_zero e]at hy;cases hy
   ·intro e
    cases hn:(za5 V x).1 with
    | nil=>rfl
    | cons y L=>exact absurd ⟨_,(oL _).2 ⟨y,by rw[hn];exact List.mem_cons_self,rfl⟩⟩ e
  have eR:(za5 V x).2.length=0↔¬ ∃r,hasR ((za0 V).getD x 0) r:=by
   constructor
   ·rintro e ⟨l,hl⟩
    obtain⟨y,hy,_⟩:=(oR l).1 hl;rw[List.eq_nil_of_length_eq_zero e]at hy;cases hy
   ·intro e
    cases hn:(za5 V x).2 with
    | nil=>rfl
    | cons y L=>exact absurd ⟨_,(oR _).2 ⟨y,by rw[hn];exact List.mem_cons_self,rfl⟩⟩ e
  rw[eL,eR,h1])
 have HQl:=Hh (fun(Q:List Nat) (hn:Q.Nodup) (hm:∀x,x∈Q↔ReachV V [i] x)=>show Q.length≤240 from by
  have h1:=hn.length_le_of_subset (l₂:=List.range V.length) (fun z hz=>List.mem_range.2 (ok.reach (fun r hr=>by rw[List.mem_singleton.1 hr];exact hi) ((hm z).1 hz)));rw[List.length_range]at h1;omega)
 clear st ok mo' od hm hi' hl hi hc kc k0 hn4;go_wp2_with fail;(with_reducible refine HPa.out.mono ?_);rintro e w5 ⟨gq,cq,Q,rfl,hQ,hnd,hmem,f5⟩;have HQ:=Hh (show SliceOf encN w5 (.slice (some ⟨gq,0,none⟩) Q.length cq) Q from SliceOf.of_owns hQ rfl);have HM:=Hh (fun(x:Nat) (hx:x∈Q)=>HIs.out x ((hmem x).1 hx));have HQ9:=Hh (HQl.out Q hnd hmem);have HSt5:=Hh (HSt.out.fr0 f5);have HEn5:=Hh (F1.out.trans (HEn.out.trans f5 (fun _ _ q=>q)) (fun _ _ q=>q));clear hQ hnd hmem f5 HPa HIs HQl HSt HEn;go_wp2_with fail;go_loopw [6,18] (fun v6 v18 wr=>∃(k:Nat) (v:Value),v=v6/\v18=.int .i64 (k:Int)/\k≤Q.length/\Fr NoM w5 wr) (fun _ v18 _=>Q.length-(intOf v18).toNat)
 case atStart=>exact⟨0,_,rfl,rfl,Nat.zero_le _,Fr.refl _ _⟩
 case round =>
  obtain⟨k,v6,rfl,rfl,hk,hf⟩:=hrel;obtain⟨w6,rfl⟩:∃w6,w6=wr:=⟨_,rfl⟩;by_cases hlt:k<Q.length
  ·have hx:=List.getElem?_eq_getElem hlt
   obtain⟨x,hxe⟩:∃x,x=Q[k]:=⟨_,rfl⟩;rw[←hxe]at hx;obtain⟨hxV,hiff⟩:=HM.out x (List.mem_of_getElem? hx);obtain⟨_,_,eq,_,_,hcq⟩:=HQ.out.fr0 hf;obtain⟨b1,o1,ha1,c1⟩:=hcq k x hx;obtain⟨rfl,e8,e9⟩:=Value.slice.inj eq;clear e8 e9;have ixq:=za8 (some ⟨gq,0,none⟩) Q.length cq k b1 o1 hlt ha1;cases ha1
   rw[Nat.zero_add]at c1 ixq;unfold encN at c1;obtain⟨la,lc,ra,rc,p0,p1,_,_,_,_,hL,hR⟩:=(HSt5.out.fr0 hf).rd;obtain⟨lb,lo,lv,rfl,r1,s1,i1⟩:=hL x hxV;obtain⟨rb,ro,rv,rfl,r2,s2,i2⟩:=hR x hxV;have ix1:=zap (some ⟨lb,lo,none⟩) V.length lc x lb lo hxV rfl;have ix2:=zap (some ⟨rb,ro,none⟩) V.length rc x rb ro hxV rfl;obtain⟨ua,uc,rfl,z⟩:=id s1;clear z;obtain⟨va,vc,rfl,z⟩:=id s2;obtain⟨bz,hbz⟩:∃bz:Bool,bz=(((za5 V x).1.length:Int) == 0):=⟨_,rfl⟩;have hb2:(((za5 V x).2.length:Int) == 0)=bz:=by
    rw[hbz,Bool.eq_iff_iff,beq_iff_eq,beq_iff_eq];omega
   have hb1:=hbz.symm;obtain⟨n1,hn1⟩:∃n1,n1=(za5 V x).1.length:=⟨_,rfl⟩;obtain⟨n2,hn2⟩:∃n2,n2=(za5 V x).2.length:=⟨_,rfl⟩;rw[←hn1]at hb1 r1;rw[←hn2]at hb2 r2;have aL:(k:Int)<(Q.length:Int):=by omega
   have HF:=Hh hf;have HKl:=Hh hlt;have hq9:=HQ9.out;clear z hL hR s1 s2 i1 i2 hbz hn1 hn2 hiff hcq eq hxe hx hf hk hlt hxV;cases bz with
   | true =>
    go_wp2_with fail;go_quiet (fail);go_wp2;go_roundw
    case rel=>have hlt:=HKl.out;exact⟨k+1,_,rfl,by go_num,by omega,HF.out.trans (zcq _ _) (fun _ _ q=>q)⟩
    case measure=>have hlt:=HKl.out;simp[intOf];omega
   | false =>
    go_wp2_with fail;go_quiet (fail);go_wp2;go_roundw
    case rel=>have hlt:=HKl.out;exact⟨k+1,_,rfl,by go_num,by omega,HF.out.trans (zcq _ _) (fun _ _ q=>q)⟩
    case measure=>have hlt:=HKl.out;simp[intOf];omega
  ·have hkn:k=Q.length:=by omega
   subst hkn;have aL:¬(Q.length:Int)<(Q.length:Int):=by omega
   have HF:=Hh hf;clear hf hk;go_wp2;go_ret2;exact⟨rfl,HEn5.out.trans HF.out (fun _ _ q=>q)⟩
end Go.Proofs.YtlapkmhemepcaaaGreatDoor
