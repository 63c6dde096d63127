import Derived.Test.YtkofnbjjbcohgaaGreatDoorZws
import Derived.Test.YtkofnbjjbcohgaaGreatDoorZwv
import Derived.Test.YtkofnbjjbcohgaaGreatDoorZwx
import Derived.Test.YtkofnbjjbcohgaaGreatDoorZw10
/- Lemmas. -/
namespace Go.Proofs.YtkofnbjjbcohgaaGreatDoor
set_option linter.unusedVariables false
set_option linter.unusedSimpArgs false
open Go.RowKit
def zx6 (pb ob sb:Nat) (ms mn:Value) (W:World) (M:Nat→Prop) (c:Nat) (e:Ending) (w':World):Prop :=
  ∃ (i : Nat) (V : List PL) (BV : List Nat) (M' I' : Nat → Prop) (fo : Nat × Nat → Option Bool), e = .returned (.int .i64 (i : Int)) ∧ PoolS M' I' w' pb V BV (.map (some ob)) (.map (some sb)) ms mn ∧ PoolOK V BV ∧ MapF encP encB w' ob fo ∧ OrdF (za0 V) fo ∧
    ¬ M' ob∧¬ I' ob∧i < V.length∧(za0 V).getD i 0=canC c∧Fr (fun q=>M q∨q=ob∨q=sb) W w'
def zpn (pb ob sb:Nat) (ms mn:Value) (W:World) (M:Nat→Prop) (c:Nat) (e:Ending) (w':World):Prop :=
  ∃ (i : Nat) (V : List PL) (BV : List Nat) (M' I' : Nat → Prop) (fo : Nat × Nat → Option Bool), e = .returned (.int .i64 (i : Int)) ∧ PoolS M' I' w' pb V BV (.map (some ob)) (.map (some sb)) ms mn ∧ PoolOK V BV ∧ MapF encP encB w' ob fo ∧ OrdF (za0 V) fo ∧
    (∀ q,M' q→(q < w'.heap.size∧q≠ob∧q≠sb)∧(M q∨W.heap.size≤q))∧(∀ q,I' q→(q < w'.heap.size∧q≠ob∧q≠sb)∧W.heap.size≤q)∧V.length≤240∧i < V.length∧(za0 V).getD i 0=canC c∧Fr (fun q=>M q∨q=ob∨q=sb) W w'
set_option maxRecDepth 4000 in
set_option maxHeartbeats 8000000 in
theorem zmt {R M3 I3:Nat→Prop}(pb ob sb:Nat)(ms mn nv:Value)(Fs:List PL)(w3:World)(hP:PoolS M3 I3 w3 pb [] [] (.map (some ob)) (.map (some sb)) ms mn)(hM:∀q,M3 q→q<w3.heap.size/\q≠sb/\q≠ob)(hI:∀q,¬I3 q)
  (hmo:MapF encP encB w3 ob (fun _=>none)) (hmap:MapF encN encN w3 sb (fun _=>none)) (hos:ob≠sb) (hN:NodeL R encN w3 nv Fs) (hR:∀k,R k→¬M3 k) (hg:zeb (i2 Fs)) :
  Calls Tryz.prog 25 #[.pointer (some ⟨pb,0,none⟩),.agg #[nv]] w3 fun e w'=>zpn pb ob sb ms mn w3 M3 (zfv Fs) e w':=by
 obtain⟨w4,hw4⟩:∃w4,w4=w3.alloc (.cells #[nv] 27):=⟨_,rfl⟩;have f4:Fr NoM w3 w4:=by rw[hw4];exact(Fr.refl NoM w3).alloc _
 have e4:w4.heap[w3.heap.size]?=some (.cells #[nv] 27 (0,0)):=by rw[hw4];exact heap_alloc_new w3 _
 have k0:w4.cell? ⟨w3.heap.size,0,none⟩=some nv:=by rw[cell_of_row w4 _ 0 _ _ _ e4];rfl
 have HRt:=Hh (zs6 pb nv [] Fs [] (.map (some ob)) (.map (some sb)) ms mn w4 (hP.fr0 f4) (fun q hq=>by have:=(hM q hq).1;have:=f4.size;omega) (fun q hq=>absurd hq (hI q)) PoolOK.nil (hN.fr0 f4) hR hg (by simp));have hFl:Fs.length≤120:=by have h:=hg.1;unfold zby at h;rw[decide_eq_true_eq,zek]at h;exact h.1
 have HM:=Hh hM;have HI:=Hh hI;have HMo:=Hh (hmo.fr f4 (fun q=>q));have HMp:=Hh (hmap.fr f4 (fun q=>q));have HOs:=Hh hos;have HFl:=Hh hFl;have F4:=Hh f4;obtain⟨na,nc,rfl,zz⟩:=id hN;clear zz hP hM hI hmo hmap hos hN hR hg f4 e4 hFl;go_enter Tryz.func25,Tryz.ntmps25;go_wp2_with fail;rw[←hw4];clear hw4;(with_reducible refine HRt.out.mono ?_);rintro e wa ⟨r1,V1,B1,M1,I1,rfl,pa,oa,va,ra,ca,ua,ma,ia,fa⟩;have lv1:V1.length≤120:=by
  have h1:=zm1 oa ua;have h2:=HFl.out;rw[List.length_append,za7,za7]at h1;simp at h1;omega
 have hobl:=HMo.out.lt;have hsbl:=HMp.out.lt;have HSum:=Hh (zx0 pb ob sb ms mn V1 B1 r1 wa pa oa (HMo.out.fr fa (fun h=>(HM.out _ h).2.2 rfl)) (HMp.out.fr fa (fun h=>(HM.out _ h).2.1 rfl)) (fun q hq=>⟨(ma q hq).2,fun e=>by
  rcases (ma q hq).1 with h|h
  ·exact(HM.out q h).2.2 e
  ·omega,fun e=>by
  rcases (ma q hq).1 with h|h
  ·exact(HM.out q h).2.1 e
  ·omega⟩) (fun q hq=>⟨(ia q hq).2,fun e=>by
  rcases (ia q hq).1 with h|h
  ·exact HI.out q h
  ·omega,fun e=>by
  rcases (ia q hq).1 with h|h
  ·exact HI.out q h
  ·omega⟩) HOs.out ra (by omega))
 have FA:=Hh fa;have HMa:=Hh ma;have HIa:=Hh ia;have HCa:=Hh ca;have Hlv:=Hh lv1;clear pa oa va ra ca ua ma ia fa lv1 k0 hobl hsbl;go_wp2_with fail;(with_reducible refine HSum.out.mono ?_);rintro e wc ⟨i,V3,B3,M4,I4,ffo,ffc,rfl,st,nx,hi,hci⟩;have kc:Fr (fun q=>M3 q∨q=ob∨q=sb) w3 wc:=F4.out.any.trans ((FA.out.mono (fun _ _ q=>.inl q)).trans nx.fr (fun q hq h=>h.elim (fun h=>by
  rcases (HMa.out q h).1 with h|h
  ·exact .inl h
  ·omega) .inr)) (fun _ _ q=>q)
 rw[HCa.out]at hci;have hci:=hci.eq;have hq3:w3.heap.size≤wa.heap.size:=Nat.le_trans F4.out.size FA.out.size;have hsl:V3.length≤240:=by
  have h:=st.len;unfold canU at h;rw[List.length_append,List.length_map,za7]at h;have:=Hlv.out;omega
 have HE:=Hh (show zpn pb ob sb ms mn w3 M3 (zfv Fs) (.returned (.int .i64 (i:Int))) wc from⟨i,V3,B3,M4,I4,ffo,rfl,st.pool,st.ok,st.ord,st.ordOK,fun q hq=>⟨st.mlt q hq,(nx.mM q hq).elim (fun h=>(HMa.out q h).1.elim .inl (fun z=>.inr (by have:=F4.out.size;omega))) (fun z=>.inr (by omega))⟩,fun q hq=>⟨st.ilt q hq,(nx.mI q hq).elim (fun h=>(HIa.out q h).1.elim (fun z=>(HI.out q z).elim) (fun z=>by have:=F4.out.size;omega)) (fun z=>by omega)⟩,hsl,hi,hci,kc⟩);clear st nx hi hci kc hq3 hsl;go_wp2;go_ret;exact HE.out
theorem zo3 {R M3 I3:Nat→Prop}(pb ob sb:Nat)(ms mn nv:Value)(Fs:List PL)(w3:World)(hP:PoolS M3 I3 w3 pb [] [] (.map (some ob)) (.map (some sb)) ms mn)(hM:∀q,M3 q→q<w3.heap.size/\q≠sb/\q≠ob)(hI:∀q,¬I3 q)
  (hmo:MapF encP encB w3 ob (fun _=>none)) (hmap:MapF encN encN w3 sb (fun _=>none)) (hos:ob≠sb) (hN:NodeL R encN w3 nv Fs) (hR:∀k,R k→¬M3 k) (hg:zeb (i2 Fs)) :
  Calls Tryz.prog 25 #[.pointer (some ⟨pb,0,none⟩),.agg #[nv]] w3 fun e w'=>zx6 pb ob sb ms mn w3 M3 (zfv Fs) e w' :=
 (zmt pb ob sb ms mn nv Fs w3 hP hM hI hmo hmap hos hN hR hg).mono fun e w' ⟨i,V,B,M',I',fo,h1,h2,h3,h4,h5,h6,h7,_,h8,h9,h10⟩=>⟨i,V,B,M',I',fo,h1,h2,h3,h4,h5,fun h=>(h6 ob h).1.2.1 rfl,fun h=>(h7 ob h).1.2.1 rfl,h8,h9,h10⟩
noncomputable def znk (g:Bool)(Fi:List (List Int × List Int)):Int × Nat:=if g=true then valD (canC (zfv (natF Fi)))else (0,0)
noncomputable def okOf (g:Bool)(Fi:List (List Int × List Int)):Bool:=g && valB (canC (zfv (natF Fi)))
set_option maxRecDepth 4000 in
set_option maxHeartbeats 8000000 in
theorem zk5 {R:Nat→Prop}(nv:Value)(Fi:List (List Int × List Int))(w:World)(h:NodeL R encI w nv Fi)(g:Bool)(hg:g=true↔zeb Fi)(ok:Bool)(hok:ok=okOf g Fi)(T P:Int)(hT:T=(znk g Fi).1)(hP:P=((znk g Fi).2:Int)) :
  Calls Tryz.prog 10 #[.agg #[nv]] w fun e w'=>e=.returned (.tuple #[.agg #[.int .i64 T,.int .i64 P],.bool ok])/\Fr NoM w w':=by
 obtain⟨w1,hw1⟩:∃w1,w1=(w.alloc (.cells #[nv] 27)).alloc (.cells #[.int .i64 0,.int .i64 0] 32):=⟨_,rfl⟩;have f1:Fr NoM w w1:=by rw[hw1];exact((Fr.refl NoM w).alloc _).alloc _
 have hs1:w1.heap.size=w.heap.size+2:=by rw[hw1];simp
 have e0:w1.heap[w.heap.size]?=some (.cells #[nv] 27 (0,0)):=by rw[hw1];exact((Fr.refl NoM _).alloc _).heap (heap_alloc_new w _) (fun q=>q)
 have e1:w1.heap[w.heap.size+1]?=some (.cells #[.int .i64 0,.int .i64 0] 32 (0,0)):=by
  have h:=heap_alloc_new (w.alloc (.cells #[nv] 27)) (.cells #[.int .i64 0,.int .i64 0] 32);rw[World.size_alloc]at h;rw[hw1];exact h
 have HK:=Hh (fun(W:World) (f:Fr NoM w1 W)=>show W.cell? ⟨w.heap.size,0,none⟩=some nv/\W.cell? ⟨w.heap.size+1,0,none⟩=some (.int .i64 0)/\W.cell? ⟨w.heap.size+1,1,none⟩=some (.int .i64 0)/\W.frozen? ⟨w.heap.size+1,0,none⟩=false/\W.frozen? ⟨w.heap.size+1,1,none⟩=false from by
  have h0:=f.heap e0 (fun q=>q);have h1:=f.heap e1 (fun q=>q);exact⟨by rw[cell_of_row W _ 0 _ _ _ h0];rfl,by rw[cell_of_row W _ 0 _ _ _ h1];rfl,by rw[cell_of_row W _ 1 _ _ _ h1];rfl,by simp[World.frozen?,h1],by simp[World.frozen?,h1]⟩)
 have HF:=Hh (fun(W:World) (f:Fr NoM w1 W)=>(((f1.trans f (fun _ _ q=>q)).setCell ⟨w.heap.size+1,0,none⟩ (.int .i64 T) (fun h=>by have h:w.heap.size+1<w.heap.size:=h;omega)).setCell ⟨w.heap.size+1,1,none⟩ (.int .i64 P) (fun h=>by have h:w.heap.size+1<w.heap.size:=h;omega):Fr NoM w ((W.setCell ⟨w.heap.size+1,0,none⟩ (.int .i64 T)).setCell ⟨w.heap.size+1,1,none⟩ (.int .i64 P))));have HS1:=Hh hs1;have HG:=Hh hg;have HN:=Hh (h.low.fr0 f1);have HSig:=Hh (zkf nv Fi w1 (h.fr0 f1) g hg);have HV:=Hh (And.intro hok (And.intro hT hP));obtain⟨na,nc,rfl,z⟩:=id h;clear z h f1 hs1 e0 e1 hg hok hT hP;obtain⟨k0,k1,k2,z1,z2⟩:=HK.out w1 (Fr.refl _ _);go_enter Tryz.func10,Tryz.ntmps10;go_wp2_with fail;rw[←hw1];clear hw1;(with_reducible refine HSig.out.mono ?_);rintro e w2 ⟨rfl,f2⟩;have HF2:=Hh f2;clear f2 k0 k1 k2 z1 z2;cases g with
 | false =>
  obtain⟨k0,k1,k2,z1,z2⟩:=HK.out w2 HF2.out;obtain⟨rfl,rfl,rfl⟩:ok=false/\T=0/\P=0:=HV.out;go_wp2;refine bodyPost_ret (v:=.tuple #[.agg #[.int .i64 0,.int .i64 0],.bool false]) (by simp[results,Tryz.results10,go_sem,k1,k2,z1,z2]) rfl ?_
  exact⟨rfl,HF.out w2 HF2.out⟩
 | true =>
  obtain⟨Fs,rfl⟩:=zt9 (HG.out.1 rfl);have hgd:=HG.out.1 rfl;obtain⟨k0,k1,k2,z1,z2⟩:=HK.out w2 HF2.out;go_wp2_with fail;refine(zhs w2).mono ?_
  rintro e w3 ⟨rfl,hp3,hmaps,f3⟩;obtain⟨pb,hpb⟩:∃pb,pb=w2.heap.size+5:=⟨_,rfl⟩;obtain⟨ob,hob⟩:∃ob,ob=w2.heap.size+1:=⟨_,rfl⟩;obtain⟨sb,hsb⟩:∃sb,sb=w2.heap.size+2:=⟨_,rfl⟩;have hmap:=hmaps 2 (by omega);have hmapo:=hmaps 1 (by omega);rw[←hob]at hmapo hp3;rw[←hsb]at hmap hp3;rw[←hpb]at hp3 ⊢;obtain⟨ms,hms⟩:∃v,v=Value.map (some (w2.heap.size+3)):=⟨_,rfl⟩;obtain⟨mn,hmn⟩:∃v,v=Value.map (some (w2.heap.size+4)):=⟨_,rfl⟩;rw[←hms,←hmn]at hp3;clear hmaps hms hmn;have hw12:w.heap.size+2≤w2.heap.size:=by have:=HF2.out.size;have:=HS1.out;omega
  have hf13:=HF2.out.trans f3 (fun _ _ q=>q);have hp0:=hp3.low;have HMge:=Hh (show ∀q,(fun q=>(q=w2.heap.size∨q=pb)/\q<w3.heap.size) q→w2.heap.size≤q/\q≠sb/\q≠ob from fun q hq=>by
   rcases hq.1 with e|e <;> omega)
  have HCn:=Hh (zo3 pb ob sb ms mn (.slice na (i2 Fs).length nc) Fs w3 hp0 (fun q hq=>⟨hq.2,(HMge.out q hq).2⟩) (fun q hq=>hq.1) ⟨#[],0,hmapo,by simp,by simp,by simp⟩ ⟨#[],0,hmap,by simp,by simp,by simp⟩ (by omega) (HN.out.fr0 hf13).ofI (fun k hk hm=>by have:=(HMge.out k hm).1;have hk:k<w.heap.size:=hk;omega) hgd);have HIn:=Hh (fun(W:World) (f:Fr (fun q=>((q=w2.heap.size∨q=pb)/\q<w3.heap.size)∨q=ob∨q=sb) w3 W)=>(hf13.trans f (fun q hq h=>by
   have h2:=HF2.out.size;rcases h with h|h
   ·have:=(HMge.out q h).1;omega
   ·omega):Fr NoM w1 W))
  have F13:=Hh hf13;clear k0 k1 k2 z1 z2;obtain⟨k0,k1,k2,z1,z2⟩:=HK.out w3 hf13;have HOb:=Hh hob;clear hp3 hmap hmapo hpb hsb hob hw12 hf13 hp0 f3 hgd k1 k2 z1 z2;go_wp2_with fail;(with_reducible refine HCn.out.mono ?_);rintro e w4 ⟨i,V,BV,M4,I4,fo,rfl,p4,ok4,mo4,oo4,nm4,ni4,hi4,hc4,f4⟩;have hval:=zrn (BV:=BV) ok4.book pb ob (.map (some sb)) ms mn nm4 ni4 _ i (Nat.lt_succ_self _) hi4 (by rw[hc4];exact(zpi _).1) fo w4 p4 mo4 oo4;rw[hc4]at hval;obtain⟨v1,v2,v3⟩:=HV.out;have hval:Calls Tryz.prog 24 #[.pointer (some ⟨pb,0,none⟩),.int .i64 (i:Int)] w4 fun e w'=>zgf (za0 V) ob T P ok w4 e w':=by
   rw[v1,v2,v3];unfold okOf znk;rw[znn];exact hval
  have HVl:=Hh hval;have F4:=Hh (HIn.out w4 f4);have F34:=Hh f4;have HO4:=Hh (show w1.heap.size≤ob from by have:=HF2.out.size;have:=HOb.out;omega);clear hval v1 v2 v3 p4 ok4 mo4 oo4 nm4 ni4 hi4 hc4 f4 k0;go_wp2_with fail;(with_reducible refine HVl.out.mono ?_);rintro e w5 ⟨rfl,f',m5,o5,f5⟩;have kd:Fr NoM w1 w5:=F4.out.trans f5 (fun q hq h=>by have h:q=ob:=h;have:=HO4.out;omega);have HKd:=Hh (HF.out w5 kd);obtain⟨k0,k1,k2,z1,z2⟩:=HK.out w5 kd;clear m5 o5 f5 kd;go_wp2_with fail;refine bodyPost_ret (v:=.tuple #[.agg #[.int .i64 T,.int .i64 P],.bool ok]) (by simp[results,Tryz.results10,go_sem,k1,k2,z1,z2]) rfl ?_
  exact⟨rfl,HKd.out⟩
theorem zn5 (b:List Bool)(m:Nat):StC b m fun k=>(za0 (stF b m)).getD k 0:=by
 have B:=(zhq b m).book;have hn:∀k,k<m→za4 (stF b m) k=stN b k:=fun k hk=>by unfold za4;exact zd2 b m k hk
 have mem:∀k x:Nat,(x∈(stN b k).1↔x<k/\b.getD x false=true)/\(x∈(stN b k).2↔x<k/\b.getD x false=false):=fun k x=>by
  unfold stN;simp[List.mem_filter]
 refine⟨fun k hk x=>?_,fun k hk x=>?_⟩
 ·have h:=(zax B (i:=k) (by rw[zae];exact hk)).1 x
  rw[hn k hk]at h;rw[h];exact⟨fun⟨i,hi,e⟩=>⟨i,((mem k i).1.1 hi).1,((mem k i).1.1 hi).2,e⟩,fun⟨i,h1,h2,e⟩=>⟨i,(mem k i).1.2 ⟨h1,h2⟩,e⟩⟩
 ·have h:=(zax B (i:=k) (by rw[zae];exact hk)).2 x
  rw[hn k hk]at h;rw[h];exact⟨fun⟨i,hi,e⟩=>⟨i,((mem k i).2.1 hi).1,((mem k i).2.1 hi).2,e⟩,fun⟨i,h1,h2,e⟩=>⟨i,(mem k i).2.2 ⟨h1,h2⟩,e⟩⟩
theorem zkr {b:List Bool}{n:Nat}(hn:n≤16):canC (zfv (stF b (n+1)))=nr (stV b n) 16:=by
 have h:=zrv (m:=n+1) (by omega) (zn5 b (n+1)) n (by omega);have e:zfv (stF b (n+1))=(za0 (stF b (n+1))).getD n 0:=by unfold zfv;rw[zae];rfl
 rw[e,h.can,ztq (zxa _ _)]
theorem zpr {b:List Bool}{n:Nat}(hn:n≤16)(h:okOf true (i2 (stF b (n+1)))=true):znk true (i2 (stF b (n+1)))=redT (stV b n) 16:=by
 unfold okOf at h;unfold znk;rw[Bool.true_and,znn,zkr hn]at h;rw[if_pos rfl,znn,zkr hn];have hv:=zor (stV b n) 16;exact(hv.goodD (hv.good.1 h)).2
end Go.Proofs.YtkofnbjjbcohgaaGreatDoor
