import Derived.Test.YtiidnnpanickaaaGreatDoorZdRefGood
/- What the claim of FnTinyCard needs of: BkKit RefSum RefNeg. -/
namespace Go.Proofs.YtiidnnpanickaaaGreatDoor
set_option linter.unusedVariables false
set_option linter.unusedSimpArgs false
open Go.RowKit
structure BkSt (w1 W:World) (bb:Nat) (V:List PL) (BV:List Nat) (S:Nat→Prop) (v1:Value) (A1 c1:List Nat) (v2:Value) (A2 c2:List Nat) (v3:Value) (A3 c3:List Nat):Prop where
  book:BookS S W bb V BV
  ok:PoolOK V BV
  sub:∀ q,S q→w1.heap.size≤q∧q < W.heap.size
  o1:W.ownsRow w1.heap.size 3 1 v1 A1.length (A1.map encN)
  o2:W.ownsRow w1.heap.size 3 1 v2 A2.length (A2.map encN)
  o3:W.ownsRow w1.heap.size 3 1 v3 A3.length (A3.map encN)
  n1:∀ b,v1.ownBlock=some b→¬ S b
  n2:∀ b,v2.ownBlock=some b→¬ S b
  n3:∀ b,v3.ownBlock=some b→¬ S b
  s12:∀ b,v1.ownBlock=some b→v2.ownBlock≠some b
  s13:∀ b,v1.ownBlock=some b→v3.ownBlock≠some b
  s23:∀ b,v2.ownBlock=some b→v3.ownBlock≠some b
  r1:RowC V A1 c1
  r2:RowC V A2 c2
  r3:RowC V A3 c3
  fr:Fr NoM w1 W
section
variable {w1 W W' Wa:World} {bb:Nat} {V:List PL} {BV:List Nat} {S S':Nat→Prop} {v1 v2 v3 v4:Value} {A1 c1 A2 c2 A3 c3:List Nat} {x c:Nat}
theorem BkSt.fr0 (h:BkSt w1 W bb V BV S v1 A1 c1 v2 A2 c2 v3 A3 c3) (hf:Fr NoM W W'):BkSt w1 W' bb V BV S v1 A1 c1 v2 A2 c2 v3 A3 c3 :=
  ⟨h.book.fr0 hf,h.ok,fun q hq=>⟨(h.sub q hq).1,Nat.lt_of_lt_of_le (h.sub q hq).2 hf.size⟩,owns_fr h.o1 hf (fun _ _ q=>q),owns_fr h.o2 hf (fun _ _ q=>q),owns_fr h.o3 hf (fun _ _ q=>q),h.n1,h.n2,h.n3,h.s12,h.s13,h.s23,h.r1,h.r2,h.r3,h.fr.trans hf (fun _ _ q=>q)⟩
theorem BkSt.app (h:BkSt w1 W bb V BV S v1 A1 c1 v2 A2 c2 v3 A3 c3) (ha:Fr NoM W Wa) (ho:W'.ownsRow w1.heap.size 3 1 v4 (A1.length + 1) (A1.map encN ++ [x].map encN)) (hf:Fr (Own1 v1) Wa W') (hq:v4.ownBlock=v1.ownBlock∨∃ b,v4.ownBlock=some b∧Wa.heap.size≤b) (hx:x < V.length) (hc:(codesOf V).getD x 0=c) :
    BkSt w1 W' bb V BV S v4 (A1 ++ [x]) (c1 ++ [c]) v2 A2 c2 v3 A3 c3:=by
  have h:=h.fr0 ha
  have hlt:∀ b,v4.ownBlock=some b→v1.ownBlock=some b∨Wa.heap.size≤b:=fun b hb=>by
    rcases hq with h1 | ⟨b',h1,h2⟩
    · rw [h1] at hb;exact .inl hb
    · rw [h1] at hb;cases hb;exact .inr h2
  exact ⟨h.book.fr hf (fun k hk e=>h.n1 k e hk),h.ok,fun q hq=>⟨(h.sub q hq).1,Nat.lt_of_lt_of_le (h.sub q hq).2 hf.size⟩,by rw [List.length_append,List.map_append];exact ho,owns_fr h.o2 hf (fun b hb e=>h.s12 b e hb),owns_fr h.o3 hf (fun b hb e=>h.s13 b e hb),
    fun b hb hS=>by
      rcases hlt b hb with h1 | h1
      · exact h.n1 b h1 hS
      · have:=(h.sub b hS).2;omega,
    h.n2,h.n3,fun b hb hu=>by
      rcases hlt b hb with h1 | h1
      · exact h.s12 b h1 hu
      · have:=(h.o2.lt b hu).2;omega,fun b hb hu=>by
      rcases hlt b hb with h1 | h1
      · exact h.s13 b h1 hu
      · have:=(h.o3.lt b hu).2;omega,h.s23,h.r1.snoc hx hc,h.r2,h.r3,
    h.fr.trans hf (fun q hq e=>by have:=(h.o1.lt q e).1;omega)⟩
theorem BkSt.put {L3 R3 cs ds:List Nat} (h:BkSt w1 W bb V BV S v1 A1 c1 v2 A2 c2 v3 A3 c3) (hL:RowC V L3 cs) (hR:RowC V R3 ds) (hb:BookS (fun k=>S k∨W.heap.size≤k) W' bb (putB V BV L3 R3).1 (putB V BV L3 R3).2.1) (hf:Fr (BookM W bb) W W') :
    BkSt w1 W' bb (poolPut V BV L3 R3).1 (poolPut V BV L3 R3).2.1 (fun k=>(S k∨W.heap.size≤k)∧k < W'.heap.size) v1 A1 c1 v2 A2 c2 v3 A3 c3∧(putB V BV L3 R3).2.2 < (poolPut V BV L3 R3).1.length∧(codesOf (poolPut V BV L3 R3).1).getD (putB V BV L3 R3).2.2 0=mkC cs ds ∧
      V <+: (poolPut V BV L3 R3).1∧(poolPut V BV L3 R3).1.length≤V.length + 1:=by
  obtain ⟨q1,q2,q3,q4⟩:=put_row h.ok hL hR
  obtain ⟨_,q5,_⟩:=poolPut_lt V BV L3 R3
  rw [putB_pool h.ok] at hb ⊢
  have hm:=h.book.m
  have hsz:=h.fr.size
  refine ⟨⟨hb.cut,q1,fun q hq=>⟨hq.1.elim (fun e=>(h.sub q e).1) (fun e=>by omega),hq.2⟩,owns_fr h.o1 hf (fun b e z=>h.n1 b e (hm b z)),owns_fr h.o2 hf (fun b e z=>h.n2 b e (hm b z)),owns_fr h.o3 hf (fun b e z=>h.n3 b e (hm b z)),
    fun b e z=>z.1.elim (h.n1 b e) (fun k=>by have:=(h.o1.lt b e).2;omega),fun b e z=>z.1.elim (h.n2 b e) (fun k=>by have:=(h.o2.lt b e).2;omega),fun b e z=>z.1.elim (h.n3 b e) (fun k=>by have:=(h.o3.lt b e).2;omega),
    h.s12,h.s13,h.s23,h.r1.mono q2,h.r2.mono q2,h.r3.mono q2,h.fr.trans hf (fun q hq z=>by have:=(h.sub q (hm q z)).1;omega)⟩,q3,q4,q2,q5⟩
theorem BkSt.nats1 (h:BkSt w1 W bb V BV S v1 A1 c1 v2 A2 c2 v3 A3 c3):Nats W v1 A1:=SliceOf.of_owns h.o1 rfl
end
theorem neg_at {CF A L:List Nat} {i:Nat} (hL:∀ x∈L,x < i) (hi:i≤CF.length):atAll ((CF.map negC).take i) L=(atAll CF L).map negC:=by
  unfold atAll
  rw [List.map_map]
  refine List.map_congr_left fun x hx=>?_
  have hl:=hL x hx
  simp [List.getD_eq_getElem?_getD,List.getElem?_take,hl,List.getElem?_map,List.getElem?_eq_getElem (show x < CF.length by omega)]
set_option maxRecDepth 8000 in
set_option maxHeartbeats 16000000 in
theorem l5Neg_any {R:Nat→Prop} (v1:Value) (Fs:List PL) (w:World) (h1:NodeL R encN w v1 Fs) (oF:OptsOK Fs) (lF:∀ y∈Fs,y.1.length≤24∧y.2.length≤24) (pF:0 < Fs.length) (hFl:Fs.length≤120) :
    Calls Tryz.prog 77 #[.agg #[v1]] w fun e w'=>∃ v',e=.returned (.agg #[v'])∧NodeL (fun b=>w.heap.size≤b) encN w' v' (formOf (negC (codeF Fs)))∧Fr NoM w w':=by
  obtain ⟨w3,hw3⟩:∃ w3,w3=(w.alloc (.cells #[v1] 31)).alloc (.cells #[.slice none 0 0] 31):=⟨_,rfl⟩
  have f3:Fr NoM w w3:=by rw [hw3];exact ((Fr.refl NoM w).alloc _).alloc _
  have hs3:w3.heap.size=w.heap.size + 2:=by rw [hw3];simp
  have e0:w3.heap[w.heap.size]?=some (.cells #[v1] 31 (0,0)):=by rw [hw3];exact ((Fr.refl NoM _).alloc _).heap (heap_alloc_new w _) (fun q=>q)
  have e2:w3.heap[w.heap.size + 1]?=some (.cells #[.slice none 0 0] 31 (0,0)):=by
    have h:=heap_alloc_new (w.alloc (.cells #[v1] 31)) (.cells #[.slice none 0 0] 31)
    rw [World.size_alloc] at h
    rw [hw3];exact h
  obtain ⟨bb,hbb⟩:∃ bb,bb=w.heap.size + 1 + 1:=⟨_,rfl⟩
  obtain ⟨q0,hq0⟩:∃ q0,q0=Value.slice (some ⟨w.heap.size + 1 + 1 + 1,0,none⟩) 0 0:=⟨_,rfl⟩
  obtain ⟨w4,hw4⟩:∃ w4,w4=w3.alloc (.cells #[.slice none 0 0,.slice none 0 0] 132):=⟨_,rfl⟩
  have f4:Fr NoM w3 w4:=by rw [hw4];exact (Fr.refl NoM w3).alloc _
  have hs4:w4.heap.size=w.heap.size + 3:=by rw [hw4];simp [hs3]
  have e4:w4.heap[bb]?=some (.cells #[.slice none 0 0,.slice none 0 0] 132 (0,0)):=by rw [hw4,hbb,show w.heap.size + 1 + 1=w3.heap.size from by omega];exact heap_alloc_new w3 _
  obtain ⟨w5,hw5⟩:∃ w5,w5=w4.alloc (.cells #[] 3):=⟨_,rfl⟩
  have f5:Fr NoM w4 w5:=by rw [hw5];exact (Fr.refl NoM w4).alloc _
  have hs5:w5.heap.size=w.heap.size + 4:=by rw [hw5];simp [hs4]
  have m5:w5.ownsRow (w.heap.size + 3) 3 1 (.slice (some ⟨w.heap.size + 3,0,none⟩) 0 0) 0 []:=by
    have h:(w4.alloc (.cells #[] 3)).ownsRow w4.heap.size 3 1 (.slice (some ⟨w4.heap.size,0,none⟩) 0 0) 0 []:=World.ownsRow_made w4 #[] 0 (Nat.le_refl _) (by decide) (by simp)
    rw [hs4,← hw5] at h
    exact h
  obtain ⟨nF,hnF⟩:∃ nF,nF=Fs.length:=⟨_,rfl⟩
  obtain ⟨Tb,hTb⟩:∃ Tb,Tb=(codesOf Fs).map negC:=⟨_,rfl⟩
  have hst:BkSt w3 w5 bb [] [] (fun q=>q=bb) q0 [] (Tb.take 0) (.slice none 0 0) [] [] (.slice none 0 0) [] [] :=
    ⟨(BookS.made e4).fr0 f5,PoolOK.nil,fun q hq=>⟨by rw [hq];omega,by rw [hq];omega⟩,(by rw [hq0];exact owns_base m5 (by omega)),World.ownsRow_nil _ _ _ _,World.ownsRow_nil _ _ _ _,fun b e hq=>by
      rw [hq0] at e
      have e:w.heap.size + 3=b:=Option.some.inj e
      omega,(fun b hb=>by cases hb),(fun b hb=>by cases hb),(fun b _ hb=>by cases hb),(fun b _ hb=>by cases hb),(fun b hb=>by cases hb),RowC.nil _,RowC.nil _,RowC.nil _,f4.trans f5 (fun _ _ q=>q)⟩
  have H1:=Lib.hid (h1.fr0 f3)
  obtain ⟨na1,nc1,rfl,z⟩:=id h1
  clear z
  have HK:=Lib.hid (fun (W:World) (f:Fr NoM w3 W)=>show W.cell? ⟨w.heap.size,0,none⟩=some (.slice na1 Fs.length nc1)∧W.cell? ⟨w.heap.size + 1,0,none⟩=some (.slice none 0 0)∧W.frozen? ⟨w.heap.size + 1,0,none⟩=false from by
    have k0:=f.heap e0 (fun q=>q)
    have k2:=f.heap e2 (fun q=>q)
    exact ⟨by rw [cell_of_row W _ 0 _ _ _ k0];rfl,by rw [cell_of_row W _ 0 _ _ _ k2];rfl,by simp [World.frozen?,k2]⟩)
  rw [← hnF] at HK
  have HSt:=Lib.hid hst;have HF3:=Lib.hid f3;have HS3:=Lib.hid hs3;have OF:=Lib.hid oF;have LF:=Lib.hid lF;have PF:=Lib.hid pF;have HnF:=Lib.hid hnF;have HTb:=Lib.hid hTb
  have HNb:=Lib.hid (show nF≤120 from by omega)
  rw [← hnF] at hw3 ⊢
  clear h1 oF lF pF hFl hst hs3 e0 e2 e4 f3 f4 f5 m5 hnF hTb
  obtain ⟨k0,k2,k3⟩:=HK.out w5 HSt.out.fr
  go_enter Tryz.func77,Tryz.ntmps77
  go_upto_region 3 with fail
  rw [← hw3,← hw4,← hw5,← hq0,← hbb]
  clear hw3 hw4 hw5 hbb hq0 hs4 hs5
  go_wp2_with fail
  clear k0 k2 k3
  go_loopw [4,5] (fun v7 t W=>∃ (i:Nat) (va:Value) (V:List PL) (BV:List Nat) (S:Nat→Prop) (A:List Nat),va=v7∧t=.int .i64 i∧i≤nF∧BkSt w3 W bb V BV S va A (Tb.take i) (.slice none 0 0) [] [] (.slice none 0 0) [] []∧V.length≤i) (fun _ t _=>nF - (intOf t).toNat)
  case atStart=>exact ⟨0,_,[],[],_,[],rfl,rfl,Nat.zero_le _,HSt.out,Nat.zero_le _⟩
  case round =>
    obtain ⟨i,va,V,BV,S,A,rfl,rfl,hi,hs,hV⟩:=hrel
    obtain ⟨w7,rfl⟩:∃ w7,w7=wr:=⟨_,rfl⟩
    have HS:=Lib.hid hs;have HV:=Lib.hid hV
    obtain ⟨k0,k2,k3⟩:=HK.out w7 hs.fr
    by_cases hlt:i < nF
    · have hiF : i < Fs.length := by have := HnF.out; omega
      obtain ⟨X,hX⟩:∃ X,Fs[i]?=some X:=⟨_,List.getElem?_eq_getElem hiF⟩
      obtain ⟨_,_,ee,_,_,hnn⟩:=id H1.out
      obtain ⟨rfl,hz,rfl⟩:=Value.slice.inj ee
      clear ee hz
      obtain ⟨b1,o1,xl,xr,ha1,hR1,d1,d2,n1,n2,m1,m2⟩:=hnn i X hX
      have ixn1:=ixNode na1 nF nc1 i b1 o1 hlt ha1
      have HC:=Lib.hid (fun (W:World) (f:Fr NoM w3 W)=>(⟨(HK.out W f).1,f.cell d1 (fun q=>q),f.cell d2 (fun q=>q)⟩:W.cell? ⟨w.heap.size,0,none⟩=some (.slice na1 nF nc1)∧W.cell? ⟨b1,o1 + i * 2,none⟩=some xl∧W.cell? ⟨b1,o1 + i * 2 + 1,none⟩=some xr))
      have HN1:=Lib.hid (fun (W:World) (f:Fr NoM w7 W)=>(n1.fr0 hs.fr).fr0 f)
      have HN2:=Lib.hid (fun (W:World) (f:Fr NoM w7 W)=>(n2.fr0 hs.fr).fr0 f)
      have HV7:=Lib.hid (fun (W:World) (f:Fr NoM w7 W)=>(hs.nats1.fr0 f:Nats W va A))
      obtain ⟨xla,xlc,rfl,z⟩:=id n1
      clear z
      obtain ⟨xra,xrc,rfl,z⟩:=id n2
      clear z
      obtain ⟨p1,p2⟩:=OF.out i X hX
      obtain ⟨l1,l2⟩:=LF.out X (List.mem_of_getElem? hX)
      have hnb:=HNb.out
      have hTl:Tb.length=Fs.length:=by rw [HTb.out,List.length_map,codesOf_length]
      have hAl:A.length=i:=by
        have h:=hs.r1.len
        rw [List.length_take] at h;omega
      have rL:=hs.r1.at (L:=X.2) (fun x hx=>by rw [hAl];exact p2 x hx)
      have rR:=hs.r1.at (L:=X.1) (fun x hx=>by rw [hAl];exact p1 x hx)
      rw [HTb.out,neg_at (A:=A) p2 (by rw [codesOf_length];omega)] at rL
      rw [HTb.out,neg_at (A:=A) p1 (by rw [codesOf_length];omega)] at rR
      have HRL:=Lib.hid rL;have HRR:=Lib.hid rR
      have hmk:=neg_mk (codesOf_code Fs OF.out i X hX)
      have HMk:=Lib.hid hmk
      have HTn:=Lib.hid (show Tb[i]?=some (negC ((codesOf Fs).getD i 0)) from by
        rw [HTb.out,List.getElem?_map,List.getD_eq_getElem?_getD,List.getElem?_eq_getElem (show i < (codesOf Fs).length by rw [codesOf_length];exact hiF)];rfl)
      have HX1:=Lib.hid (show ∀ (j x:Nat),X.1[j]?=some x→x < A.length from fun j x hx=>by rw [hAl];exact p1 x (List.mem_of_getElem? hx))
      have HX2:=Lib.hid (show ∀ (j x:Nat),X.2[j]?=some x→x < A.length from fun j x hx=>by rw [hAl];exact p2 x (List.mem_of_getElem? hx))
      have HY1:=Lib.hid (show X.1.length < 1000000000000 by omega)
      have HY2:=Lib.hid (show X.2.length < 1000000000000 by omega)
      have HP1:=Lib.hid (show ∀ (j x:Nat),(atAll A X.2)[j]?=some x→x < V.length from fun j x hx=>rL.1 x (List.mem_of_getElem? hx))
      have HP2:=Lib.hid (show ∀ (j x:Nat),(atAll A X.1)[j]?=some x→x < V.length from fun j x hx=>rR.1 x (List.mem_of_getElem? hx))
      have HP3:=Lib.hid (show (atAll A X.2).length < 1000000000 by simp [atAll];omega)
      have HP4:=Lib.hid (show (atAll A X.1).length < 1000000000 by simp [atAll];omega)
      have HP5:=Lib.hid (show V.length < 1000000000 by omega)
      have HP6:=Lib.hid (show ∀ x∈BV,x < 1000000000 from fun x hx=>by have:=(bookOK_v hs.ok).lt V.length (Nat.le_refl _) x hx;omega)
      have HA:=Lib.hid hAl
      have HW:=Lib.hid (fun (W:World) (f:Fr NoM w7 W)=>(hs.fr.trans f (fun _ _ q=>q):Fr NoM w3 W))
      have hc:=HC.out w7 hs.fr
      have F0:Fr NoM w7 w7.drew:=(Fr.refl NoM w7).drew
      have G0:Fr NoM w3 w7.drew:=HW.out _ F0
      clear hX hnn ha1 hR1 d1 d2 n1 n2 m1 m2 p1 p2 l1 l2 hTl hAl rL rR hmk hs hV hiF k2 k3
      go_wp2_with fail
      go_region_held3 (fun (W:World)=>W.cell? ⟨w.heap.size,0,none⟩=some (.slice na1 nF nc1)∧W.cell? ⟨b1,o1 + i * 2,none⟩=some (.slice xla X.1.length xlc)∧W.cell? ⟨b1,o1 + i * 2 + 1,none⟩=some (.slice xra X.2.length xrc))
        (first | exact HC.out _ (by assumption) | exact HC.out _ (Fr.alloc (by assumption) _))
        (first
          | (go_at_call 121;with_reducible refine (l3At_any _ (.slice xra X.2.length xrc) A X.2 _ (HV7.out _ (by assumption)) (HN2.out _ (by assumption)) HX2.out HY2.out).mono ?_;rintro e wa ⟨va1,rfl,t1,fa⟩;have z1:Nats wa va1 (atAll A X.2):=nats_atAll t1;clear t1;have ga:Fr NoM w7 wa:=Fr.trans (by assumption) fa (fun _ _ q=>q);have ka:Fr NoM w3 wa:=HW.out _ ga;try (have z2:=SliceOf.fr0 (L:=atAll A X.1) (by assumption) fa))
          | (go_at_call 121;with_reducible refine (l3At_any _ (.slice xla X.1.length xlc) A X.1 _ (HV7.out _ (by assumption)) (HN1.out _ (by assumption)) HX1.out HY1.out).mono ?_;rintro e wb ⟨vb1,rfl,t2,fb⟩;have z2:Nats wb vb1 (atAll A X.1):=nats_atAll t2;clear t2;have gb:Fr NoM w7 wb:=Fr.trans (by assumption) fb (fun _ _ q=>q);have kb:Fr NoM w3 wb:=HW.out _ gb;try (have z1:=SliceOf.fr0 (L:=atAll A X.2) (by assumption) fb))
          | (go_at_call 139;with_reducible refine (put_any bb _ _ V BV (atAll A X.2) (atAll A X.1) _ (HS.out.fr0 (by assumption)).book (by assumption) (by assumption) HP1.out HP2.out HP3.out HP4.out HP5.out HP6.out).mono ?_;rintro e wc ⟨rfl,p1,p2⟩;obtain ⟨st,hr,hcd,hpre,hln⟩:=(HS.out.fr0 (by assumption)).put HRL.out HRR.out p1 p2;clear p1 p2;rw [HMk.out] at hcd;have HST:=Lib.hid st;have HR:=Lib.hid hr;have HCD:=Lib.hid hcd;have HLN:=Lib.hid hln;have kc:Fr NoM w3 wc:=st.fr;clear st hr hcd hpre hln)
          | (refine step_appS (enc:=encN) rfl (.tmp 16) (.tmp 35) 26 rfl w3.heap.size 3 (.int .i64 0) 8 Tryz.underlying26 infoInt rfl va A.length (A.map encN) rfl (owns_fr HST.out.o1 ((Fr.refl NoM wc).alloc _) (fun _ _ q=>q)) (.slice (some ⟨wc.heap.size,0,none⟩) 1 1) rfl [(putB V BV (atAll A X.2) (atAll A X.1)).2.2] (SliceOf.one encN wc _ 3) (fun _=>rfl) (by have:=HA.out;have:=HNb.out;simp only [List.length_singleton];omega) (by decide) (by have:=kc.size;rw [World.size_alloc];omega) ?_;intro v4 wd h4 f4 q4;have hap:=HST.out.app ((Fr.refl NoM wc).alloc _) h4 f4 (by first | exact q4 | (rw [World.size_alloc];exact q4)) HR.out HCD.out;rw [take_nxt HTn.out] at hap;have HAp:=Lib.hid hap;have kd:Fr NoM w3 wd:=hap.fr;clear hap h4 f4 q4)
          | fail)
      all_goals
        go_wp2
        go_roundw
        case rel=>exact ⟨i + 1,v4,_,_,_,_,rfl,by go_num,by omega,HAp.out,by have h1:=HLN.out;have h2:=HV.out;omega⟩
        case measure=>simp [intOf];omega
    · obtain rfl : i = nF := by omega
      have hn2:=HnF.out
      have hpf:0 < i:=by have:=PF.out;omega
      have hTl:Tb.length=i:=by rw [HTb.out,List.length_map,codesOf_length];omega
      have hnb:=HNb.out
      have hAl:A.length=i:=by
        have h:=hs.r1.len
        rw [List.length_take] at h;omega
      obtain ⟨x,hx,hxl,hxc⟩:=hs.r1.get (p:=i - 1) (c:=negC ((codesOf Fs).getD (i - 1) 0)) (by omega) (by
        rw [HTb.out,List.getElem?_map,List.getD_eq_getElem?_getD,List.getElem?_eq_getElem (show i - 1 < (codesOf Fs).length by rw [codesOf_length];omega)];rfl)
      obtain ⟨p,hp⟩:∃ p,i=p + 1:=⟨i - 1,by omega⟩
      rw [show i - 1=p from by omega] at hx
      obtain ⟨aa,ac,rfl,_,_,hac⟩:=hs.nats1
      obtain ⟨b4,o4,ha4,c4⟩:=hac p x hx
      unfold encN at c4
      have ix4:=ixInts aa A.length ac p b4 o4 (by omega) ha4
      have hcast:((A.length:Int) - 1)=(p:Int):=by omega
      have hpb:p < 1600:=by omega
      have hAb:A.length < 1000000:=by omega
      have hlen:=hs.ok.lens (n:=100000000) (by omega)
      have HFo:=Lib.hid (form_any bb x V BV w7 hs.book (bookOK_v hs.ok) hxl (by omega) hlen)
      have hfo:=formB_of hs.ok hxl hxc
      have HFe:=Lib.hid (show formB V BV x=formOf (negC (codeF Fs)) from by
        rw [hfo]
        unfold codeF
        rw [hn2])
      clear hx hxl hxc hac ha4 hlen hfo hAl hp hpf hi hlt hn2 hTl hs hV k2 k3
      go_wp2_with fail
      refine HFo.out.mono ?_
      rintro e w11 ⟨v',rfl,hn',f11⟩
      rw [HFe.out] at hn'
      obtain ⟨k0',k2',k3'⟩:=HK.out w11 (HS.out.fr.trans f11 (fun _ _ q=>q))
      have HFn:=Lib.hid hn';have F11:=Lib.hid (HS.out.fr.trans f11 (fun _ _ q=>q));have HSz:=Lib.hid (show w.heap.size + 2≤w7.heap.size from by have:=HS.out.fr.size;have:=HS3.out;omega)
      obtain ⟨va',vc',rfl,zz⟩:=id hn'
      clear zz hn' f11 k0' k0 c4 ix4
      go_wp2
      refine bodyPost_ret (v:=.agg #[.slice va' (formOf (negC (codeF Fs))).length vc']) (by simp [results,Tryz.results77,go_sem,k2']) rfl ?_
      refine ⟨_,rfl,?_,(HF3.out.trans F11.out (fun _ _ q=>q)).setCell _ _ (fun h=>by have h:w.heap.size + 1 < w.heap.size:=h;omega)⟩
      exact (HFn.out.fr (Fr.set w11 ⟨w.heap.size + 1,0,none⟩ _) (fun q hq e=>by have e:q=w.heap.size + 1:=e;have:=HSz.out;omega)).mono (fun q hq=>by have:=HSz.out;omega)
end Go.Proofs.YtiidnnpanickaaaGreatDoor
