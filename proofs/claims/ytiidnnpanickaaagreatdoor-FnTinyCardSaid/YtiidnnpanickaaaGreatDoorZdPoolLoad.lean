import Derived.Test.YtiidnnpanickaaaGreatDoorZdPoolNode
import Derived.Test.YtiidnnpanickaaaGreatDoorZdRefDrop
/- What the claim of FnTinyCard needs of: PoolLoad. -/
namespace Go.Proofs.YtiidnnpanickaaaGreatDoor
set_option linter.unusedVariables false
set_option linter.unusedSimpArgs false
open Go.RowKit
theorem mk_ints0 (n:Nat) (W:World) (hn:n < 1000000000):∃ cur:Array Value,cur.size=n∧(Instr.makeSlice 26 (.int .i64 0) (.int .i64 (n:Int))).run Tryz.prog W=.ok (.slice (some ⟨W.heap.size,0,none⟩) 0 n) (W.alloc (.cells cur 3)):=by
  obtain ⟨i0,hi,hz0,hz1,hz2⟩:=info_parts infoInt
  have h:=run_make (P:=Tryz.prog) W 26 3 i0 _ Tryz.underlying26 hi hz0 .i64 .i64 0 n (by omega) (by omega) (by rw [hz2];omega) (by omega)
  rw [hz1,Int.toNat_natCast] at h
  exact ⟨_,by simp [madeCells],h⟩
theorem NRow.start (W:World) (cur:Array Value) (n:Nat) (hc:cur.size=n) (hn:n < 1000000000):NRow W.heap.size (W.alloc (.cells cur 3)) (.slice (some ⟨W.heap.size,0,none⟩) 0 n) [] :=
  ⟨⟨rfl,.inr ⟨W.heap.size,n,cur,rfl,Nat.le_refl _,heap_alloc_new W _,Nat.zero_le _,by unfold maxLen;omega,by rw [hc,Nat.mul_one],by simp⟩⟩,_,_,rfl⟩
theorem node_rows {M I:Nat→Prop} (pb:Nat) (V:List PL) (BV L R:List Nat) (mo mc ms mn:Value) (g1 g2 n1 n2:Nat) (h1:n1=L.length) (h2:n2=R.length) (w:World) (hP:PoolS M I w pb V BV mo mc ms mn) (r1:RowIs 3 encN w g1 L) (r2:RowIs 3 encN w g2 R)
    (hLt:∀ x∈L,x < V.length) (hRt:∀ x∈R,x < V.length) (hl:L.length < 1000000000) (hr:R.length < 1000000000) (hn:V.length < 1000000000) (hb:∀ x∈BV,x < 1000000000) :
    Calls Tryz.prog 68 #[.pointer (some ⟨pb,0,none⟩),.slice (some ⟨g1,0,none⟩) n1 n1,.slice (some ⟨g2,0,none⟩) n2 n2] w fun e w'=>e=.returned (.int .i64 ((poolPut V BV L R).2.2:Nat)) ∧
      ∃ M' I',PoolS M' I' w' pb (poolPut V BV L R).1 (poolPut V BV L R).2.1 mo mc ms mn∧(∀ q,M' q→(M q∨w.heap.size≤q)∧q < w'.heap.size)∧(∀ q,I' q→(I q∨w.heap.size≤q)∧q < w'.heap.size)∧Fr M w w':=by
  subst h1;subst h2
  refine (node_any pb V BV L R mo mc ms mn g1 0 L.length g2 0 R.length w hP (r1.slice (by omega)) (r2.slice (by omega)) hLt hRt hl hr hn hb).mono ?_
  rintro e w' ⟨rfl,M',I',hp,hM,hI,hf⟩
  exact ⟨rfl,_,_,hp.low,fun q hq=>⟨hM q hq.1,hq.2⟩,fun q hq=>⟨hI q hq.1,hq.2⟩,hf⟩
theorem later {M1 M2:Nat→Prop} {a b c:World} (h:∀ q,M2 q→(M1 q∨b.heap.size≤q)∧q < c.heap.size) (f:Fr NoM a b):∀ q,M2 q→(M1 q∨a.heap.size≤q)∧q < c.heap.size :=
  fun q hq=>⟨(h q hq).1.imp_right (Nat.le_trans f.size),(h q hq).2⟩
theorem bookOK_of {V:List PL} {BV:List Nat} (h:PoolOK V BV):BookOK V BV:=by
  have hle:∀ j,j < V.length→BV.getD j 0≤j:=by
    intro j
    induction j using Nat.strongRecOn with
    | _ j ih =>
      intro hj
      have e:=node_at hj
      obtain ⟨o1,o2⟩:=h.opts j _ e
      rw [h.born j _ e,bornL_iff,bornL_iff]
      exact ⟨⟨Nat.zero_le _,fun x hx=>by have:=o1 x hx;have:=ih x this (by omega);omega⟩,fun x hx=>by have:=o2 x hx;have:=ih x this (by omega);omega⟩
  exact ⟨h.len,h.opts,fun j x hx=>by
    have hj:=(List.getElem?_eq_some_iff.1 hx).1
    have:=hle j (by rw [← h.len];exact hj)
    rw [List.getD_eq_getElem?_getD,hx] at this
    exact this⟩
set_option maxRecDepth 4000 in
set_option maxHeartbeats 8000000 in
theorem load_any {R M I:Nat→Prop} (pb:Nat) (nv:Value) (V Fs:List PL) (BV:List Nat) (mo mc ms mn:Value) (w:World) (hP:PoolS M I w pb V BV mo mc ms mn) (hMl:∀ q,M q→q < w.heap.size) (hIl:∀ q,I q→q < w.heap.size) (hOK:PoolOK V BV) (hF:NodeL R encN w nv Fs) (hR:∀ k,R k→¬ M k)
    (ho:OptsOK Fs) (hn:V.length + Fs.length < 100000000) (hlen:∀ y∈Fs,y.1.length < 100000000∧y.2.length < 100000000) :
    Calls Tryz.prog 114 #[.pointer (some ⟨pb,0,none⟩),.agg #[nv]] w fun e w'=>∃ (v':Value) (M' I':Nat→Prop),e=.returned v'∧NRow w.heap.size w' v' (addB V BV Fs).2.2∧PoolS M' I' w' pb (addB V BV Fs).1 (addB V BV Fs).2.1 mo mc ms mn ∧
      (∀ q,M' q→(M q∨w.heap.size≤q)∧q < w'.heap.size∧v'.ownBlock≠some q)∧(∀ q,I' q→(I q∨w.heap.size≤q)∧q < w'.heap.size∧v'.ownBlock≠some q)∧Fr M w w':=by
  obtain ⟨na,nc,rfl,_,_,hnn⟩:=hF
  obtain ⟨w1,hw1⟩:∃ w1,w1=w.alloc (.cells #[.slice na Fs.length nc] 31):=⟨_,rfl⟩
  have f1:Fr NoM w w1:=by rw [hw1];exact (Fr.refl NoM w).alloc _
  have hs1:w1.heap.size=w.heap.size + 1:=by rw [hw1];simp
  have e1:w1.heap[w.heap.size]?=some (.cells #[.slice na Fs.length nc] 31 (0,0)):=by rw [hw1];exact heap_alloc_new w _
  have c1:w1.cell? ⟨w.heap.size,0,none⟩=some (.slice na Fs.length nc):=by rw [cell_of_row _ _ 0 _ _ _ e1];rfl
  obtain ⟨cur,hcur,mk⟩:=mk_ints0 Fs.length w1 (by omega)
  rw [hw1] at mk
  obtain ⟨w2,hw2⟩:∃ w2,w2=w1.alloc (.cells cur 3):=⟨_,rfl⟩
  have f2:Fr NoM w1 w2:=by rw [hw2];exact (Fr.refl NoM w1).alloc _
  have c2:w2.cell? ⟨w.heap.size,0,none⟩=some (.slice na Fs.length nc):=f2.cell c1 (fun q=>q)
  have hrow:NRow w1.heap.size w2 (.slice (some ⟨w1.heap.size,0,none⟩) 0 Fs.length) []:=by rw [hw2];exact NRow.start w1 cur _ hcur (by omega)
  rw [hs1] at hrow
  have HF2:=Lib.hid (f1.trans f2 (fun _ _ q=>q));have HRow:=Lib.hid hrow;have HS1:=Lib.hid hs1
  have HP:=Lib.hid hP;have HMl:=Lib.hid hMl;have HIl:=Lib.hid hIl;have HOK:=Lib.hid hOK;have HR:=Lib.hid hR;have HO:=Lib.hid ho;have HLen:=Lib.hid hlen;have HNn:=Lib.hid hnn;have HW1:=Lib.hid hw1
  clear hP hMl hIl hOK hR ho hlen hnn f1 f2 hs1 e1 hcur hrow
  go_enter Tryz.func114,Tryz.ntmps114
  go_wp2_with fail
  rw [← hw1,← hw2]
  clear mk c1 c2 hw1 hw2
  go_loopw [5,15] (fun v5 t W=>∃ (n:Nat) (v:Value) (M1 I1:Nat→Prop),v=v5∧t=.int .i64 n∧n≤Fs.length∧NRow w.heap.size W v (addB V BV (Fs.take n)).2.2∧PoolS M1 I1 W pb (addB V BV (Fs.take n)).1 (addB V BV (Fs.take n)).2.1 mo mc ms mn ∧
      (∀ q,M1 q→(M q∨w.heap.size≤q)∧q < W.heap.size∧v.ownBlock≠some q)∧(∀ q,I1 q→(I q∨w.heap.size≤q)∧q < W.heap.size∧v.ownBlock≠some q)∧Fr M w W) (fun _ t _=>Fs.length - (intOf t).toNat)
  case atStart=>exact ⟨0,_,M,I,rfl,rfl,Nat.zero_le _,⟨owns_base HRow.out.own (by omega),HRow.out.shape⟩,HP.out.fr0 HF2.out,fun q hq=>⟨.inl hq,by
      have h1:=HMl.out q hq
      have h2:=HF2.out.size
      omega,fun e=>by have e:w.heap.size + 1=q:=Option.some.inj e;have h1:=HMl.out q hq;omega⟩,fun q hq=>⟨.inl hq,by
      have h1:=HIl.out q hq
      have h2:=HF2.out.size
      omega,fun e=>by have e:w.heap.size + 1=q:=Option.some.inj e;have h1:=HIl.out q hq;omega⟩,HF2.out.any⟩
  case round =>
    clear HRow
    obtain ⟨n,v,M1,I1,rfl,rfl,hn',hrow,hp,hM,hI,hfr⟩:=hrel
    obtain ⟨w7,rfl⟩:∃ w7,w7=wr:=⟨_,rfl⟩
    have hpre:OptsOK (Fs.take n):=fun j y hy=>HO.out j y (by
      rw [List.getElem?_take] at hy
      split at hy
      · exact hy
      · cases hy)
    obtain ⟨ok1,ok2,ok3,ok4,ok5⟩:=addB_ok (bookOK_of HOK.out) (Fs.take n) hpre
    have hpk:=addB_pool (Fs.take n) hpre HOK.out (bookOK_of HOK.out)
    rw [List.length_take,Nat.min_eq_left hn'] at ok2 ok4
    obtain ⟨lb,lc,rfl⟩:=hrow.shape
    obtain ⟨⟨Vk,Bk,A⟩,hA⟩:∃ s,addB V BV (Fs.take n)=s:=⟨_,rfl⟩
    rw [hA] at hrow hp ok1 ok2 ok3 ok4 ok5 hpk ⊢
    dsimp only at hrow hp ok1 ok2 ok3 ok4 ok5 hpk ⊢
    by_cases hlt:n < Fs.length
    · obtain ⟨y, hy⟩ : ∃ y, Fs[n]? = some y := ⟨_, List.getElem?_eq_getElem hlt⟩
      obtain ⟨b1,o1,lv,rv,ha1,hR1,d1,d2,n1,n2,m1,m2⟩:=HNn.out n y hy
      obtain ⟨x1,x2⟩:=HO.out n y hy
      obtain ⟨y1,y2⟩:=HLen.out y (List.mem_of_getElem? hy)
      have ix:=ixNode na Fs.length nc n b1 o1 hlt ha1
      have e1:=hfr.cell d1 (HR.out b1 hR1)
      have e2:=hfr.cell d2 (HR.out b1 hR1)
      have t1:=n1.fr hfr (fun hne b hb=>HR.out b (m1 hne b hb))
      have t2:=n2.fr hfr (fun hne b hb=>HR.out b (m2 hne b hb))
      have hnext:addB V BV (Fs.take (n + 1))=((poolPut Vk Bk (atAll A y.1) (atAll A y.2)).1,(poolPut Vk Bk (atAll A y.1) (atAll A y.2)).2.1,A ++ [(poolPut Vk Bk (atAll A y.1) (atAll A y.2)).2.2]):=by
        obtain ⟨hi',ee⟩:=List.getElem?_eq_some_iff.1 hy
        rw [List.take_succ_eq_append_getElem hi',ee,addB_snoc,hA,← putB_pool hpk];rfl
      have hz1:=atAll_lt (L:=y.1) ok3 (fun x hx=>by rw [ok2];exact x1 x hx)
      have hz2:=atAll_lt (L:=y.2) ok3 (fun x hx=>by rw [ok2];exact x2 x hx)
      obtain ⟨la,lcc,rfl,z⟩:=id n1
      clear z
      obtain ⟨ra,rcc,rfl,z⟩:=id n2
      clear z
      obtain ⟨w8,hw8⟩:∃ w8,w8=w7.alloc (.cells #[.slice la y.1.length lcc,.slice ra y.2.length rcc] 82):=⟨_,rfl⟩
      have f8:Fr NoM w7 w8:=by rw [hw8];exact (Fr.refl NoM w7).alloc _
      have hs8:w8.heap.size=w7.heap.size + 1:=by rw [hw8];simp
      have hx8:w8.heap[w7.heap.size]?=some (.cells #[.slice la y.1.length lcc,.slice ra y.2.length rcc] 82 (0,0)):=by rw [hw8];exact heap_alloc_new w7 _
      have hvb:∀ q,(Value.slice (some ⟨lb,0,none⟩) A.length lc).ownBlock=some q→w.heap.size≤q∧q < w7.heap.size:=fun q hq=>hrow.own.lt q hq
      have HC:=Lib.hid (fun (W:World) (f:Fr (fun q=>M1 q∨(Value.slice (some ⟨lb,0,none⟩) A.length lc).ownBlock=some q) w8 W)=>show W.cell? ⟨w7.heap.size,0,none⟩=some (.slice la y.1.length lcc)∧W.cell? ⟨w7.heap.size,1,none⟩=some (.slice ra y.2.length rcc) from by
        have h:=f.heap hx8 (fun e=>by
          rcases e with e | e
          · have:=(hM _ e).2.1;omega
          · have:=hvb _ e;omega)
        exact ⟨by rw [cell_of_row _ _ 0 _ _ _ h];rfl,by rw [cell_of_row _ _ 1 _ _ _ h];rfl⟩)
      have HT1:=Lib.hid (fun (W:World) (f:Fr NoM w8 W)=>(t1.fr0 f8).fr0 f)
      have HT2:=Lib.hid (fun (W:World) (f:Fr NoM w8 W)=>(t2.fr0 f8).fr0 f)
      have HV:=Lib.hid (fun (W:World) (f:Fr NoM w8 W)=>((hrow.nats.fr0 f8).fr0 f:Nats W (.slice (some ⟨lb,0,none⟩) A.length lc) A))
      have HRw:=Lib.hid (fun (W:World) (f:Fr (fun q=>M1 q) w8 W)=>(hrow.fr f8 (fun _ _ q=>q)).fr f (fun q hq e=>(hM q e).2.2 hq))
      have HPl:=Lib.hid (fun (W:World) (f:Fr NoM w8 W)=>(hp.fr0 f8).fr0 f)
      have HW8:=Lib.hid hw8;have HX1:=Lib.hid x1;have HX2:=Lib.hid x2;have HY1:=Lib.hid y1;have HY2:=Lib.hid y2;have HNext:=Lib.hid hnext;have HZ1:=Lib.hid hz1;have HZ2:=Lib.hid hz2;have HM:=Lib.hid hM;have HI:=Lib.hid hI;have HFr:=Lib.hid hfr;have F8:=Lib.hid f8;have HS8:=Lib.hid hs8;have HVb:=Lib.hid hvb
      have HAl:=Lib.hid ok2
      have HVl:=Lib.hid (show Vk.length < 1000000000 from by omega)
      have HBl:=Lib.hid (show ∀ x∈Bk,x < 1000000000 from fun x hx=>by have:=ok1.lt Vk.length (Nat.le_refl _) x hx;omega)
      have HRow:=Lib.hid hrow
      have HSz:=Lib.hid (fun (W:World) (f:Fr M1 w8 W)=>(show w.heap.size≤W.heap.size from by have:=f.size;have:=hfr.size;omega))
      have HE1:=Lib.hid (show y.1.length=(atAll A y.1).length from by simp [atAll])
      have HE2:=Lib.hid (show y.2.length=(atAll A y.2).length from by simp [atAll])
      have HE3:=Lib.hid (show (atAll A y.1).length < 1000000000 from by simp [atAll];omega)
      have HE4:=Lib.hid (show (atAll A y.2).length < 1000000000 from by simp [atAll];omega)
      clear hrow hp ok1 ok2 ok3 ok4 ok5 hpk hA hpre hy ha1 hR1 d1 d2 n1 n2 m1 m2 x1 x2 y1 y2 t1 t2 hnext hz1 hz2 hM hI hfr hx8 f8 hs8 hvb hw8
      have F0:Fr NoM w8 w8.drew:=(Fr.refl NoM w8).drew
      have G0:Fr (fun q=>M1 q∨(Value.slice (some ⟨lb,0,none⟩) A.length lc).ownBlock=some q) w8 w8.drew:=F0.any
      go_upto_region 5 with fail
      rw [← HW8.out]
      have hs:=HC.out w8 (Fr.refl _ _)
      go_region_held3 (fun (W:World)=>W.cell? ⟨w7.heap.size,0,none⟩=some (.slice la y.1.length lcc)∧W.cell? ⟨w7.heap.size,1,none⟩=some (.slice ra y.2.length rcc))
        (first | exact HC.out _ (by assumption) | exact HC.out _ (Fr.alloc (by assumption) _))
        (first
          | (go_at_call 165;(with_reducible refine (renamed_any (.slice la y.1.length lcc) _ y.1 A _ (HT1.out _ (by assumption)) (HV.out _ (by assumption)) (fun x hx=>by rw [HAl.out];exact HX1.out x hx) (by have:=HY1.out;omega)).mono ?_);rintro e wa ⟨rfl,ra1,fa⟩;(try simp only [World.size_drew] at ra1);have ga:Fr NoM w8 wa:=Fr.trans (by assumption) fa (fun _ _ q=>q);have ka:Fr (fun q=>M1 q∨(Value.slice (some ⟨lb,0,none⟩) A.length lc).ownBlock=some q) w8 wa:=ga.any;try (have rb2:=RowIs.fr (L:=atAll A y.2) (by assumption) fa (fun q=>q)))
          | (go_at_call 165;(with_reducible refine (renamed_any (.slice ra y.2.length rcc) _ y.2 A _ (HT2.out _ (by assumption)) (HV.out _ (by assumption)) (fun x hx=>by rw [HAl.out];exact HX2.out x hx) (by have:=HY2.out;omega)).mono ?_);rintro e wb ⟨rfl,rb1,fb⟩;(try simp only [World.size_drew] at rb1);have gb:Fr NoM w8 wb:=Fr.trans (by assumption) fb (fun _ _ q=>q);have kb:Fr (fun q=>M1 q∨(Value.slice (some ⟨lb,0,none⟩) A.length lc).ownBlock=some q) w8 wb:=gb.any;try (have ra2:=RowIs.fr (L:=atAll A y.1) (by assumption) fb (fun q=>q)))
          | (go_at_call 68;(with_reducible refine (node_rows pb Vk Bk (atAll A y.1) (atAll A y.2) mo mc ms mn _ _ _ _ HE1.out HE2.out _ (HPl.out _ (by assumption)) (by assumption) (by assumption) HZ1.out HZ2.out HE3.out HE4.out HVl.out HBl.out).mono ?_);rintro e w3 ⟨rfl,M2,I2,p3,hM3,hI3,f3⟩;have HM4:=Lib.hid (later hM3 (by assumption));have HI4:=Lib.hid (later hI3 (by assumption));clear hM3 hI3;have f30:Fr M1 w8 w3:=Fr.trans (Fr.any (by assumption)) f3 (fun _ _ q=>q);have k3:Fr (fun q=>M1 q∨(Value.slice (some ⟨lb,0,none⟩) A.length lc).ownBlock=some q) w8 w3:=f30.mono (fun _ _ q=>.inl q))
          | (refine step_appS (enc:=encN) rfl (.tmp 19) (.tmp 30) 26 rfl w.heap.size 3 (.int .i64 0) 8 Tryz.underlying26 infoInt rfl (.slice (some ⟨lb,0,none⟩) A.length lc) A.length (A.map encN) rfl (HRw.out _ (f30.alloc _)).own (.slice (some ⟨w3.heap.size,0,none⟩) 1 1) rfl [(poolPut Vk Bk (atAll A y.1) (atAll A y.2)).2.2] (SliceOf.one encN w3 _ 3) (fun _=>rfl) (by have:=HAl.out;simp;omega) (by decide) (by have:=f3.size;have:=HSz.out _ f30;rw [World.size_alloc];omega) ?_;intro v4 w4 h4 f4 q4;have k4:Fr (fun q=>M1 q∨(Value.slice (some ⟨lb,0,none⟩) A.length lc).ownBlock=some q) w8 w4:=(k3.alloc _).trans f4 (fun _ _ q=>.inr q))
          | fail)
      all_goals
        go_wp2
        go_roundw
        case rel =>
          have hz:=HS8.out
          have hz0:=HFr.out.size
          have hz3:=f30.size
          have hz4:=f4.size
          rw [World.size_alloc] at hz4
          have hd:∀ q,M2 q→¬ Own1 (.slice (some ⟨lb,0,none⟩) A.length lc) q:=fun q hq ho=>by
            rcases (HM4.out q hq).1 with h | h
            · exact (HM.out q h).2.2 ho
            · have:=(HVb.out q ho).2;omega
          have hdi:∀ q,I2 q→¬ Own1 (.slice (some ⟨lb,0,none⟩) A.length lc) q:=fun q hq ho=>by
            rcases (HI4.out q hq).1 with h | h
            · exact (HI.out q h).2.2 ho
            · have:=(HVb.out q ho).2;omega
          refine ⟨n + 1,v4,M2,I2,rfl,by go_num,by omega,?_,?_,fun q hq=>⟨?_,?_,fun e=>?_⟩,fun q hq=>⟨?_,?_,fun e=>?_⟩,?_⟩
          · rw [HNext.out];exact NRow.snoc h4
          · rw [HNext.out];exact (p3.fr0 ((Fr.refl NoM w3).alloc _)).fr f4 hd hdi
          · rcases (HM4.out q hq).1 with h | h
            · exact (HM.out q h).1
            · exact .inr (by omega)
          · have:=(HM4.out q hq).2;omega
          · rcases q4 with h | ⟨b', h, hle⟩
            · exact hd q hq (h.symm.trans e)
            · rw [h] at e; cases e
              rw [World.size_alloc] at hle
              have:=(HM4.out q hq).2
              omega
          · rcases (HI4.out q hq).1 with h | h
            · exact (HI.out q h).1
            · exact .inr (by omega)
          · have:=(HI4.out q hq).2;omega
          · rcases q4 with h | ⟨b', h, hle⟩
            · exact hdi q hq (h.symm.trans e)
            · rw [h] at e; cases e
              rw [World.size_alloc] at hle
              have:=(HI4.out q hq).2
              omega
          · refine HFr.out.trans (F8.out.any.trans k4 (fun k hk q => q)) (fun q hq h => ?_)
            rcases h with h | h
            · rcases (HM.out q h).1 with h | h
              · exact h
              · omega
            · have:=(HVb.out q h).1;omega
        case measure=>simp [intOf];omega
    · have hk' : n = Fs.length := by omega
      subst hk'
      rw [List.take_length] at hA
      have HO:=Lib.hid hrow;have HFr:=Lib.hid hfr;have HM:=Lib.hid hM;have HI:=Lib.hid hI;have HPl:=Lib.hid hp;have HA:=Lib.hid hA
      clear hrow hfr hM hI hp hA hpre ok1 ok2 ok3 ok4 ok5 hpk
      go_wp2
      go_ret
      refine ⟨_,M1,I1,rfl,?_,?_,HM.out,HI.out,HFr.out⟩
      · rw [HA.out];exact HO.out
      · rw [HA.out];exact HPl.out
end Go.Proofs.YtiidnnpanickaaaGreatDoor
