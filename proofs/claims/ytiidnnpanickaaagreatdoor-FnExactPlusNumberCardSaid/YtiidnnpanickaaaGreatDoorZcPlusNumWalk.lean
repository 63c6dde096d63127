import Derived.Test.YtiidnnpanickaaaGreatDoorZcPlusNum
import Derived.Test.YtiidnnpanickaaaGreatDoorZcLawMark
/- What the claim of FnExactPlusNumberCard needs of: PlusNumWalk. -/
namespace Go.Proofs.YtiidnnpanickaaaGreatDoor
set_option linter.unusedVariables false
set_option linter.unusedSimpArgs false
open Go.RowKit
theorem cntF_le5 (FN:List PL) (h:∀ y∈FN,y.1.length≤24∧y.2.length≤24):cntF FN≤48 * FN.length:=by
  induction FN with
  | nil=>simp [cntF]
  | cons y l ih =>
    have h1:=h y List.mem_cons_self
    have h2:=ih fun z hz=>h z (List.mem_cons_of_mem _ hz)
    rw [cntF_cons,List.length_cons]
    omega
theorem cs_fits {l:List (List (List Int × List Int))} {k:Nat}:∀ Fs,csF true (l.take k)=some Fs→fitsB Fs=true:=by
  induction k with
  | zero =>
    intro Fs h
    rw [List.take_zero] at h
    obtain rfl:[([],[])]=Fs:=Option.some.inj h
    decide
  | succ k ih =>
    intro Fs h
    by_cases hk:k < l.length
    · rw [cs_next hk] at h
      cases hc:csF true (l.take k) with
      | none=>rw [hc] at h;cases h
      | some Gs =>
        rw [hc] at h
        by_cases q:goodI l[k]∧sumOk (i2 Gs) (i2 (csC l[k]))=true∧(true=true→fitsB (canN (csS Gs l[k]))=true)
        · rw [cs_some q.1 q.2.1 q.2.2] at h
          obtain rfl:=Option.some.inj h
          exact q.2.2 rfl
        · rw [cs_not q] at h;cases h
    · rw [List.take_of_length_le (by omega)] at h ih
      exact ih Fs h
theorem plV_fits {ok:Bool} {Fi:List (List Int × List Int)} {N Fs:List PL} (h:plV true ok Fi N=some Fs):fitsB Fs=true:=by
  unfold plV at h
  cases ok with
  | false=>cases h
  | true =>
    rw [if_pos rfl] at h
    unfold csR at h
    rw [if_pos (by simp)] at h
    exact cs_fits (l:=[Fi,i2 N]) (k:=2) Fs h
set_option maxRecDepth 8000 in
set_option maxHeartbeats 16000000 in
theorem plusNumLaw_any {R:Nat→Prop} (T P:Int) (v:Value) (Fi:List IL) (W:World) (hN:NodeL R encI W v Fi) (hT:-9223372036854775808≤T∧T≤9223372036854775807) (hP:-9223372036854775808≤P∧P≤9223372036854775807) :
    Calls Tryz.prog 8 #[.agg #[v],.agg #[.int .i64 T,.int .i64 P]] W fun e W'=>e=.returned (.bool true)∧Fr NoM W W':=by
  clear hT hP
  obtain ⟨W1,hW1⟩:∃ W1,W1=(W.alloc (.cells #[v] 24)).alloc (.cells #[.int .i64 T,.int .i64 P] 54):=⟨_,rfl⟩
  have f1:Fr NoM W W1:=by rw [hW1];exact ((Fr.refl NoM W).alloc _).alloc _
  have hs1:W1.heap.size=W.heap.size + 2:=by rw [hW1];simp
  have e1:W1.heap[W.heap.size]?=some (.cells #[v] 24 (0,0)):=by rw [hW1];exact ((Fr.refl NoM _).alloc _).heap (heap_alloc_new W _) (fun q=>q)
  have e2:W1.heap[W.heap.size + 1]?=some (.cells #[.int .i64 T,.int .i64 P] 54 (0,0)):=by
    have h:=heap_alloc_new (W.alloc (.cells #[v] 24)) (.cells #[.int .i64 T,.int .i64 P] 54)
    rw [World.size_alloc] at h
    rw [hW1];exact h
  obtain ⟨va,vc,rfl,z⟩:=id hN
  clear z
  have HIn:=Lib.hid (fun (w:World) (f:Fr NoM W1 w)=>(⟨by rw [cell_of_row w _ 0 _ _ _ (f.heap e1 (fun q=>q))];rfl,by rw [cell_of_row w _ 0 _ _ _ (f.heap e2 (fun q=>q))];rfl,by rw [cell_of_row w _ 1 _ _ _ (f.heap e2 (fun q=>q))];rfl⟩:w.cell? ⟨W.heap.size,0,none⟩=some (.slice va Fi.length vc)∧w.cell? ⟨W.heap.size + 1,0,none⟩=some (.int .i64 T)∧w.cell? ⟨W.heap.size + 1,1,none⟩=some (.int .i64 P)))
  have HNd:=Lib.hid (fun (w:World) (f:Fr NoM W1 w)=>(hN.fr0 (f1.trans f (fun _ _ q=>q)):NodeL R encI w (.slice va Fi.length vc) Fi))
  have HSz:=Lib.hid (szForm_any (.slice va Fi.length vc) Fi 1048576 W1 (hN.fr0 f1) (Nat.le_refl _))
  have F1:=Lib.hid f1;have HS1:=Lib.hid hs1
  obtain ⟨c0,c1,c2⟩:=HIn.out W1 (Fr.refl _ _)
  clear hN f1 hs1 e1 e2
  by_cases hbig:1048576 < Fi.length + cntI Fi
  · have hsz := HSz.out
    rw [if_pos hbig] at hsz
    have HZ:=Lib.hid hsz
    clear hsz HSz
    go_enter Tryz.func8,Tryz.ntmps8
    go_wp2_with fail
    rw [← hW1]
    refine HZ.out.mono ?_
    rintro e w2 ⟨rfl,f2⟩
    go_wp2_with fail
    go_ret
    exact ⟨rfl,F1.out.trans f2 (fun _ _ q=>q)⟩
  · obtain ⟨k0, hk0⟩ : ∃ k0 : Nat, k0 = 1048576 - (Fi.length + cntI Fi) := ⟨_, rfl⟩
    have hsz:=HSz.out
    rw [if_neg hbig,← hk0] at hsz
    obtain ⟨g,hg⟩:=good_dyadic T P
    obtain ⟨okn,hokn⟩:∃ okn,okn=(g && fitsB (numN T P.toNat)):=⟨_,rfl⟩
    obtain ⟨mr,hmr⟩:∃ mr,mr=plV true okn Fi (numN T P.toNat):=⟨_,rfl⟩
    have hmr2:mr=plV false okn Fi (numN T P.toNat):=by rw [hmr];exact plV_same hg hokn
    obtain ⟨ok,hok⟩:∃ ok:Bool,ok=mr.isSome:=⟨_,rfl⟩
    obtain ⟨FN,hFN⟩:∃ FN,FN=mr.getD []:=⟨_,rfl⟩
    have hlen:FN.length≤120∧cntF FN≤10000:=by
      rw [hFN]
      cases hc:mr with
      | none=>exact ⟨by simp,by simp [cntF]⟩
      | some Fs =>
        have hf:=plV_fits (ok:=okn) (Fi:=Fi) (N:=numN T P.toNat) (Fs:=Fs) (by rw [← hmr,hc])
        unfold fitsB at hf
        rw [decide_eq_true_eq] at hf
        have:=cntF_le5 _ hf.2.2
        exact ⟨hf.1,by have:=hf.1;show cntF Fs≤10000;omega⟩
    have HR:=Lib.hid (fun (w:World) (S:Nat→Prop) (nv:Value) (h:NodeL S encI w nv Fi)=>show Calls Tryz.prog 42 #[.agg #[nv],.agg #[.int .i64 T,.int .i64 P]] w fun e w'=>∃ v',e=.returned (.tuple #[.agg #[v'],.bool ok])∧NodeL (fun b=>w.heap.size≤b) encN w' v' FN∧Fr NoM w w' from by rw [hFN,hok];exact plusNumR_any nv Fi T P w h g hg okn hokn mr hmr2)
    have HP:=Lib.hid (fun (w:World) (S:Nat→Prop) (nv:Value) (h:NodeL S encI w nv Fi)=>show Calls Tryz.prog 43 #[.agg #[nv],.agg #[.int .i64 T,.int .i64 P]] w fun e w'=>∃ v',e=.returned (.tuple #[.agg #[v'],.bool ok])∧NodesS w.heap.size w' v' FN∧Fr NoM w w' from by rw [hFN,hok];exact plusNumP_any nv Fi T P w h g hg okn hokn mr hmr)
    have HTo:=Lib.hid (fun (w:World) (f:Fr NoM W1 w)=>toForm_any (.slice va Fi.length vc) Fi w (HNd.out w f) (by omega) (fun y hy=>by
      obtain ⟨j,hj,rfl⟩:=List.getElem_of_mem hy
      have:=cntI_mem (List.getElem?_eq_getElem hj)
      omega))
    have HDy:=Lib.hid (fun (w:World)=>toDyadic_any T P w)
    have HLen:=Lib.hid hlen
    have HZ:=Lib.hid hsz
    have HBig:=Lib.hid (show Fi.length + cntI Fi≤1048576 from by omega)
    obtain ⟨m,hm⟩:∃ m:Nat,m=1 + cntF FN:=⟨_,rfl⟩
    have HM:=Lib.hid hm
    have hm1:1≤m:=by omega
    have HEq:=Lib.hid (fun (av bv:Value) (w:World) (R S:Nat→Prop) (hA:NodeL R encN w av FN) (hB:NodeL S encN w bv FN)=>show Calls Tryz.prog 16 #[.agg #[av],.agg #[bv]] w fun e w'=>e=.returned (.bool true)∧Fr NoM w w' from by
      have h:=eqForm_any av bv FN FN w hA hB
      rw [decide_eq_true (rfl:FN=FN)] at h
      exact h)
    have HEqI:=Lib.hid (fun (av bv:Value) (w:World) (R S:Nat→Prop) (hA:NodeL R encI w av Fi) (hB:NodeL S encI w bv Fi)=>show Calls Tryz.prog 16 #[.agg #[av],.agg #[bv]] w fun e w'=>e=.returned (.bool true)∧Fr NoM w w' from by
      have h:=eqFormI_any av bv Fi Fi w hA hB
      rw [decide_eq_true (rfl:Fi=Fi)] at h
      exact h)
    clear hFN hmr hmr2 hok hlen HSz hsz hbig hk0 hm hokn hg
    go_enter Tryz.func8,Tryz.ntmps8
    go_wp2_with fail
    rw [← hW1]
    clear hW1
    refine HZ.out.mono ?_
    rintro e w2 ⟨rfl,f2⟩
    have F2:=Lib.hid f2
    clear f2 c0 c1 c2
    have K2:Fr NoM w2 w2.drew:=(Fr.refl NoM w2).drew
    have G2:Fr NoM w2 (w2.alloc (.cells #[.slice none 0 0] 31)).drew:=((Fr.refl NoM w2).alloc _).drew
    have HC2:=Lib.hid (fun (w:World) (f:Fr NoM w2 w)=>HIn.out w (F2.out.trans f (fun _ _ q=>q)))
    go_upto_region 5 with fail
    go_cut [6,7] from 21 to 28 (fun x y w'=>∃ (nb:Nat) (v':Value),x=.pointer (some ⟨nb,0,none⟩)∧y=.bool ok∧w'.heap[nb]?=some (.cells #[v'] 31 (0,0))∧NodeL (fun _=>True) encN w' v' FN∧Fr NoM w2 w')
    case first =>
      obtain ⟨hs,_,_⟩:=HC2.out w2 (Fr.refl _ _)
      go_region_held3 (fun (w:World)=>w.cell? ⟨W.heap.size,0,none⟩=some (.slice va Fi.length vc)∧w.cell? ⟨W.heap.size + 1,0,none⟩=some (.int .i64 T)∧w.cell? ⟨W.heap.size + 1,1,none⟩=some (.int .i64 P))
        (first | exact HC2.out _ (by assumption) | exact HC2.out _ (Fr.alloc (by assumption) _) | exact HC2.out _ (Fr.setCell kc _ _ (fun h=>absurd h (Nat.lt_irrefl _))) | exact HC2.out _ (Fr.setCell kc _ _ (fun h=>absurd h (Nat.not_lt.2 ka.size))) | exact HC2.out _ (Fr.setCell kc _ _ (fun h=>absurd h (Nat.not_lt.2 kb.size))) | exact HC2.out _ (Fr.setCell (Fr.alloc kc _) _ _ (fun h=>absurd h (Nat.not_lt.2 kc.size))))
        (first
          | (go_at_call 13;(with_reducible refine (HTo.out _ (F2.out.trans (by assumption) (fun _ _ q=>q))).mono ?_);rintro e wa ⟨va',na',rfl,hna,fa⟩;have hna:=hna.nodeL;have ka:Fr NoM w2 wa:=Fr.trans (by assumption) fa (fun _ _ q=>q);(try (have hxa:wa.heap[w2.heap.size]?=some (.cells #[.slice none 0 0] 31 (0,0)):=fa.heap (heap_alloc_new w2 _) (fun q=>q))))
          | (go_at_call 33;(with_reducible refine (HDy.out _).mono ?_);rintro e wb ⟨rfl,fb⟩;have kb:Fr NoM w2 wb:=(by first | exact Fr.trans ka fb (fun _ _ q=>q) | exact Fr.trans (ka.alloc _) fb (fun _ _ q=>q));have hnb:=(by first | exact hna.fr0 fb | exact hna.fr0 (Fr.trans ((Fr.refl NoM wa).alloc _) fb (fun _ _ q=>q)):NodeL _ encI wb va' Fi);(try (have hxb:wb.heap[w2.heap.size]?=some (.cells #[.slice none 0 0] 31 (0,0)):=fb.heap hxa (fun q=>q)));(try (have hyb:wb.heap[wa.heap.size]?=some (.cells #[.slice none 0 0] 31 (0,0)):=fb.heap (heap_alloc_new wa _) (fun q=>q))))
          | (go_at_call 42;(with_reducible refine (HR.out wb _ _ hnb).mono ?_);rintro e wc ⟨v',rfl,n',fc⟩;obtain ⟨xa,xc,rfl,zz⟩:=id n';clear zz;have kc:Fr NoM w2 wc:=Fr.trans kb fc (fun _ _ q=>q);(try (have hx:wc.heap[w2.heap.size]?=some (.cells #[.slice none 0 0] 31 (0,0)):=fc.heap hxb (fun q=>q);have hx1:wc.cell? ⟨w2.heap.size,0,none⟩=some (.slice none 0 0):=(by rw [cell_of_row wc _ 0 _ _ _ hx];rfl);have hx2:wc.frozen? ⟨w2.heap.size,0,none⟩=false:=(by simp [World.frozen?,hx])));(try (have hx:wc.heap[wa.heap.size]?=some (.cells #[.slice none 0 0] 31 (0,0)):=fc.heap hyb (fun q=>q);have hx1:wc.cell? ⟨wa.heap.size,0,none⟩=some (.slice none 0 0):=(by rw [cell_of_row wc _ 0 _ _ _ hx];rfl);have hx2:wc.frozen? ⟨wa.heap.size,0,none⟩=false:=(by simp [World.frozen?,hx]))))
          | (go_at_call 42;(with_reducible refine (HR.out (wb.alloc (.cells #[.slice none 0 0] 31)) _ _ (hnb.fr0 ((Fr.refl NoM wb).alloc _))).mono ?_);rintro e wc ⟨v',rfl,n',fc⟩;obtain ⟨xa,xc,rfl,zz⟩:=id n';clear zz;have kc:Fr NoM w2 wc:=Fr.trans (kb.alloc _) fc (fun _ _ q=>q);have hx:wc.heap[wb.heap.size]?=some (.cells #[.slice none 0 0] 31 (0,0)):=fc.heap (heap_alloc_new wb _) (fun q=>q);have hx1:wc.cell? ⟨wb.heap.size,0,none⟩=some (.slice none 0 0):=(by rw [cell_of_row wc _ 0 _ _ _ hx];rfl);have hx2:wc.frozen? ⟨wb.heap.size,0,none⟩=false:=(by simp [World.frozen?,hx]))
          | fail)
      all_goals
        have hka:=ka.size
        have hkb:=kb.size
        have hfb:=fb.size
        have hfa:=fa.size
        (try simp only [World.size_drew,World.size_alloc] at hfa hfb)
        go_wp2_with fail
        go_meet
        case rel=>first
          | exact ⟨_,_,rfl,rfl,heap_alloc_new wc _,(n'.fr0 ((Fr.refl NoM wc).alloc _)).mono (fun q hq=>trivial),kc.alloc _⟩
          | exact ⟨_,_,rfl,rfl,heap_set hx _,(n'.fr (Fr.set wc ⟨wb.heap.size,0,none⟩ _) (fun q hq e=>by have e:q=wb.heap.size:=e;(try simp only [World.size_drew,World.size_alloc] at hq);omega)).mono (fun q hq=>trivial),Fr.setCell kc _ _ (fun h=>absurd h (Nat.not_lt.2 hkb))⟩
          | exact ⟨_,_,rfl,rfl,heap_set hx _,(n'.fr (Fr.set wc ⟨wa.heap.size,0,none⟩ _) (fun q hq e=>by have e:q=wa.heap.size:=e;(try simp only [World.size_drew,World.size_alloc] at hq);omega)).mono (fun q hq=>trivial),Fr.setCell kc _ _ (fun h=>absurd h (Nat.not_lt.2 hka))⟩
          | exact ⟨_,_,rfl,rfl,heap_set hx _,(n'.fr (Fr.set wc ⟨w2.heap.size,0,none⟩ _) (fun q hq e=>by have e:q=w2.heap.size:=e;(try simp only [World.size_drew,World.size_alloc] at hq);omega)).mono (fun q hq=>trivial),Fr.setCell kc _ _ (fun h=>absurd h (Nat.lt_irrefl _))⟩
    case rest =>
    obtain ⟨nb6,wv,rfl,rfl,hb5,nw,f5⟩:=hcut
    obtain ⟨w5,rfl⟩:∃ w5,w5=wc:=⟨_,rfl⟩
    have nw1:=nw.low
    obtain ⟨aw,cw,rfl,z⟩:=id nw
    have H0:=Lib.hid (fun (w:World) (f:Fr NoM w5 w)=>(⟨by rw [cell_of_row w _ 0 _ _ _ (f.heap hb5 (fun q=>q))];rfl,nw1.fr0 f⟩:w.cell? ⟨nb6,0,none⟩=some (.slice aw FN.length cw)∧NodeL (· < w5.heap.size) encN w (.slice aw FN.length cw) FN))
    have HNb6:=Lib.hid (Array.getElem?_eq_some_iff.1 hb5).1
    have HB5:=Lib.hid hb5;have HNw1:=Lib.hid nw1
    have F5:=Lib.hid (F2.out.trans f5 (fun _ _ q=>q))
    clear z nw nw1 f5 hb5 K2 G2
    obtain ⟨c5,_,_⟩:=HIn.out w5 F5.out
    go_wp2_with fail
    refine (HTo.out w5 F5.out).mono ?_
    rintro e w6 ⟨x0,NX,rfl,n6,f6⟩
    obtain ⟨ax,cx,rfl,z⟩:=id n6.nodeL
    have HN6:=Lib.hid n6
    have F56:=Lib.hid f6
    clear z n6 f6 c5
    go_upto_region 7 with fail
    obtain ⟨w7,hw7⟩:∃ w7,w7=w6.alloc (.cells #[.slice ax Fi.length cx] 31):=⟨_,rfl⟩
    have f7:Fr NoM w6 w7:=by rw [hw7];exact (Fr.refl NoM w6).alloc _
    have hs7:w7.heap.size=w6.heap.size + 1:=by rw [hw7];simp
    have hb7:w7.heap[w6.heap.size]?=some (.cells #[.slice ax Fi.length cx] 31 (0,0)):=by rw [hw7];exact heap_alloc_new w6 _
    rw [← hw7]
    have HX:=Lib.hid (fun (w:World) (f:Fr NoM w7 w)=>(⟨by rw [cell_of_row w _ 0 _ _ _ (f.heap hb7 (fun q=>q))];rfl,(HN6.out.fr0 f7).fr0 f⟩:w.cell? ⟨w6.heap.size,0,none⟩=some (.slice ax Fi.length cx)∧NodesI w5.heap.size w (.slice ax Fi.length cx) Fi NX))
    have F57:=Lib.hid (F56.out.trans f7 (fun _ _ q=>q));have HS7:=Lib.hid hs7
    have HXb:=Lib.hid HN6.out.blk
    clear hw7 f7 hs7 hb7
    have F17:=Lib.hid (F5.out.trans F57.out (fun _ _ q=>q))
    have HC7:=Lib.hid (fun (w:World) (f:Fr NoM w7 w)=>(⟨(HX.out w f).1,(HIn.out w (F17.out.trans f (fun _ _ q=>q))).2⟩:w.cell? ⟨w6.heap.size,0,none⟩=some (.slice ax Fi.length cx)∧w.cell? ⟨W.heap.size + 1,0,none⟩=some (.int .i64 T)∧w.cell? ⟨W.heap.size + 1,1,none⟩=some (.int .i64 P)))
    have K7:Fr NoM w7 w7.drew:=(Fr.refl NoM w7).drew
    have G7:Fr NoM w7 (w7.alloc (.cells #[.slice none 0 0] 31)).drew:=((Fr.refl NoM w7).alloc _).drew
    go_cut [9,10] from 31 to 37 (fun x y w'=>∃ (nb:Nat) (v':Value) (D:Nat) (NG:List (Value × Value)),x=.pointer (some ⟨nb,0,none⟩)∧y=.bool ok∧w'.heap[nb]?=some (.cells #[v'] 31 (0,0))∧NodesN D w' v' FN NG∧w7.heap.size≤D∧w7.heap.size≤nb∧(∀ q,q∈blocksOf NG→q≠nb)∧Fr NoM w7 w')
    case first =>
      obtain ⟨hs,_,_⟩:=HC7.out w7 (Fr.refl _ _)
      go_region_held3 (fun (w:World)=>w.cell? ⟨w6.heap.size,0,none⟩=some (.slice ax Fi.length cx)∧w.cell? ⟨W.heap.size + 1,0,none⟩=some (.int .i64 T)∧w.cell? ⟨W.heap.size + 1,1,none⟩=some (.int .i64 P))
        (first | exact HC7.out _ (by assumption) | exact HC7.out _ (Fr.alloc (by assumption) _) | exact HC7.out _ (Fr.setCell kc _ _ (fun h=>absurd h (Nat.lt_irrefl _))) | exact HC7.out _ (Fr.setCell kc _ _ (fun h=>absurd h (Nat.not_lt.2 kb.size))) | exact HC7.out _ (Fr.setCell (Fr.alloc kc _) _ _ (fun h=>absurd h (Nat.not_lt.2 kc.size))))
        (first
          | (go_at_call 33;(with_reducible refine (HDy.out _).mono ?_);rintro e wb ⟨rfl,fb⟩;have kb:Fr NoM w7 wb:=Fr.trans (by assumption) fb (fun _ _ q=>q);have hnb:=(HX.out wb kb).2.nodeL;(try (have hxb:wb.heap[w7.heap.size]?=some (.cells #[.slice none 0 0] 31 (0,0)):=fb.heap (heap_alloc_new w7 _) (fun q=>q))))
          | (go_at_call 43;(with_reducible refine (HP.out wb _ _ hnb).mono ?_);rintro e wc ⟨v',rfl,⟨NG,n'⟩,fc⟩;obtain ⟨xa,xc,rfl,zz⟩:=id (NodesS.nodeL ⟨NG,n'⟩);clear zz;have kc:Fr NoM w7 wc:=Fr.trans kb fc (fun _ _ q=>q);(try (have hx:wc.heap[w7.heap.size]?=some (.cells #[.slice none 0 0] 31 (0,0)):=fc.heap hxb (fun q=>q);have hx1:wc.cell? ⟨w7.heap.size,0,none⟩=some (.slice none 0 0):=(by rw [cell_of_row wc _ 0 _ _ _ hx];rfl);have hx2:wc.frozen? ⟨w7.heap.size,0,none⟩=false:=(by simp [World.frozen?,hx]))))
          | (go_at_call 43;(with_reducible refine (HP.out (wb.alloc (.cells #[.slice none 0 0] 31)) _ _ (hnb.fr0 ((Fr.refl NoM wb).alloc _))).mono ?_);rintro e wc ⟨v',rfl,⟨NG,n'⟩,fc⟩;obtain ⟨xa,xc,rfl,zz⟩:=id (NodesS.nodeL ⟨NG,n'⟩);clear zz;have kc:Fr NoM w7 wc:=Fr.trans (kb.alloc _) fc (fun _ _ q=>q);have hx:wc.heap[wb.heap.size]?=some (.cells #[.slice none 0 0] 31 (0,0)):=fc.heap (heap_alloc_new wb _) (fun q=>q);have hx1:wc.cell? ⟨wb.heap.size,0,none⟩=some (.slice none 0 0):=(by rw [cell_of_row wc _ 0 _ _ _ hx];rfl);have hx2:wc.frozen? ⟨wb.heap.size,0,none⟩=false:=(by simp [World.frozen?,hx]))
          | fail)
      all_goals
        have hkb:=kb.size
        have hkc:=kc.size
        have hfb:=fb.size
        have hbk:=n'.blk
        (try simp only [World.size_drew,World.size_alloc] at hfb hbk)
        go_wp2_with fail
        go_meet
        case rel=>first
          | exact ⟨_,_,_,NG,rfl,rfl,heap_alloc_new wc _,n'.fr ((Fr.refl NoM wc).alloc _) (fun _ _ _ q=>q),by (try simp only [World.size_drew,World.size_alloc]);omega,hkc,(fun q hq e=>by have:=(hbk q hq).2.1;omega),kc.alloc _⟩
          | exact ⟨_,_,_,NG,rfl,rfl,heap_set hx _,n'.fr (Fr.set wc ⟨wb.heap.size,0,none⟩ _) (fun q hq _ e=>by have e:q=wb.heap.size:=e;(try simp only [World.size_drew,World.size_alloc] at hq);omega),by (try simp only [World.size_drew,World.size_alloc]);omega,by omega,(fun q hq e=>by have:=(hbk q hq).1;omega),Fr.setCell kc _ _ (fun h=>absurd h (Nat.not_lt.2 hkb))⟩
          | exact ⟨_,_,_,NG,rfl,rfl,heap_set hx _,n'.fr (Fr.set wc ⟨w7.heap.size,0,none⟩ _) (fun q hq _ e=>by have e:q=w7.heap.size:=e;(try simp only [World.size_drew,World.size_alloc] at hq);omega),by (try simp only [World.size_drew,World.size_alloc]);omega,Nat.le_refl _,(fun q hq e=>by have:=(hbk q hq).1;omega),Fr.setCell kc _ _ (fun h=>absurd h (Nat.lt_irrefl _))⟩
    case rest =>
    obtain ⟨nb9,gv,D,NG,rfl,rfl,hb9,n9,hD,hnb9,hng,f9⟩:=hcut
    obtain ⟨w9,rfl⟩:∃ w9,w9=wc:=⟨_,rfl⟩
    obtain ⟨ag,cg,rfl,z⟩:=id (NodesS.nodeL ⟨NG,n9⟩)
    obtain ⟨PB,hP⟩:∃ PB:Nat→Prop,PB=fun q=>q∈blocksOf NX∨q∈blocksOf NG:=⟨_,rfl⟩
    have hlo:∀ q,PB q→w5.heap.size≤q∧q < w9.heap.size∧q≠nb9:=fun q hq=>by
      have h1:=HS7.out
      have h2:=f9.size
      have h3:=F57.out.size
      rw [hP] at hq
      rcases hq with h | h
      · have := HXb.out q h
        exact ⟨this.1,by omega,by omega⟩
      · have := n9.blk q h
        exact ⟨by omega,this.2.1,hng q h⟩
    have f59:Fr NoM w5 w9:=F57.out.trans f9 (fun _ _ q=>q)
    have HK:=Lib.hid (fun (w:World) (f:Fr PB w9 w)=>(by
      have g5:Fr NoM w5 w:=f59.trans f (fun q hq h=>by have:=(hlo q h).1;omega)
      have g1:Fr NoM W1 w:=F5.out.trans g5 (fun _ _ q=>q)
      exact ⟨(HIn.out w g1).1,(H0.out w g5).1,by rw [cell_of_row w _ 0 _ _ _ (f.heap hb9 (fun h=>(hlo _ h).2.2 rfl))];rfl,(H0.out w g5).2,g1⟩:w.cell? ⟨W.heap.size,0,none⟩=some (.slice va Fi.length vc)∧w.cell? ⟨nb6,0,none⟩=some (.slice aw FN.length cw)∧w.cell? ⟨nb9,0,none⟩=some (.slice ag FN.length cg)∧NodeL (· < w5.heap.size) encN w (.slice aw FN.length cw) FN∧Fr NoM W1 w))
    have HX9:=Lib.hid (fun (w:World) (f:Fr NoM w9 w)=>HX.out w (f9.trans f (fun _ _ q=>q)))
    have HG9:=Lib.hid (fun (w:World) (f:Fr (fun q=>q∈blocksOf NX) w9 w)=>n9.fr f (fun q hq _ e=>by have h1:=(HXb.out q e).2.1;have h2:=HS7.out;omega))
    have HPq:=Lib.hid hP
    clear z hb9 n9 hD hnb9 hng f9 hlo f59 H0 HX HXb K7 G7 HC7
    obtain ⟨d1,d2,d3,nw9,_⟩:=HK.out w9 (Fr.refl _ _)
    go_wp2_with fail
    refine (HEq.out _ _ w9 _ _ (NodesS.nodeL ⟨NG,HG9.out w9 (Fr.refl _ _)⟩) nw9).mono ?_
    rintro e w10 ⟨rfl,f10⟩
    have F10:=Lib.hid f10
    clear f10 d1 d2 d3 nw9
    obtain ⟨d1,d2,d3,nw10,z⟩:=HK.out w10 F10.out.any
    have dx:=(HX9.out w10 F10.out).1
    clear z nw10
    go_upto_region 10 with fail
    have K0:Fr NoM w10 w10.drew:=(Fr.refl NoM w10).drew
    clear d2 d3
    go_cut [51] from 47 to 51 (fun c W=>c=.bool false∧Fr NoM w10 W)
    case first =>
      go_region_held3 (fun (w:World)=>w.cell? ⟨W.heap.size,0,none⟩=some (.slice va Fi.length vc)∧w.cell? ⟨w6.heap.size,0,none⟩=some (.slice ax Fi.length cx))
        (first | exact ⟨(HK.out _ (F10.out.trans (by assumption) (fun _ _ q=>q)).any).1,(HX9.out _ (F10.out.trans (by assumption) (fun _ _ q=>q))).1⟩)
        (first
          | (go_at_call 13;(with_reducible refine (HTo.out _ (HK.out _ (F10.out.trans (by assumption) (fun _ _ q=>q)).any).2.2.2.2).mono ?_);rintro e wa ⟨va',na',rfl,hna,fa⟩;have ka:Fr NoM w10 wa:=Fr.trans (by assumption) fa (fun _ _ q=>q))
          | (go_at_call 16;(with_reducible refine (HEqI.out _ _ _ _ _ (HX9.out _ (F10.out.trans (by assumption) (fun _ _ q=>q))).2.nodeL hna.nodeL).mono ?_);rintro e wb ⟨rfl,fb⟩;have kb:Fr NoM w10 wb:=Fr.trans (by assumption) fb (fun _ _ q=>q))
          | fail)
      all_goals
        go_wp2_with fail
        go_meet
        case rel=>exact ⟨rfl,by assumption⟩
    case rest =>
    obtain ⟨rfl,fc⟩:=hcut
    have F12:=Lib.hid (F10.out.trans fc (fun _ _ q=>q))
    clear fc K0 d1 dx
    have dx:=(HX9.out wc F12.out).1
    have HMk:=Lib.hid (markFormI_any w5.heap.size (.slice ax Fi.length cx) Fi NX 1 wc (HX9.out wc F12.out).2 (by have:=HBig.out;omega) (by have:=HBig.out;omega))
    have hk1:¬ (((1 + cntI Fi:Nat):Int) < 0):=by omega
    obtain ⟨m1,hm1'⟩:∃ m1,m1=1 + cntI Fi:=⟨_,rfl⟩
    rw [← hm1'] at HMk hk1
    clear hm1'
    go_wp2_with fail
    refine HMk.out.mono ?_
    rintro e w13 ⟨rfl,f13⟩
    have F13:=Lib.hid (F12.out.any.trans f13 (fun _ _ q=>q))
    clear f13 dx HMk
    have hsub:∀ q,q∈blocksOf NX→PB q:=fun q hq=>by rw [HPq.out];exact .inl hq
    have F13P:=Lib.hid (F13.out.mono (fun q _ h=>hsub q h))
    obtain ⟨d1,d2,d3,nw,z⟩:=HK.out w13 F13P.out
    go_wp2_with fail
    refine (HEq.out _ _ w13 _ _ (NodesS.nodeL ⟨NG,HG9.out w13 F13.out⟩) nw).mono ?_
    rintro e w14 ⟨rfl,f14⟩
    have F14:=Lib.hid (F13.out.trans f14 (fun _ _ q=>q.elim))
    have F14P:=Lib.hid (F13P.out.trans f14 (fun _ _ q=>q.elim))
    clear f14 d1 d2 d3 nw z
    obtain ⟨d1,d2,d3,_,_⟩:=HK.out w14 F14P.out
    have HMk:=Lib.hid (show Calls Tryz.prog 17 #[.agg #[.slice ag FN.length cg],.int .i64 1] w14 fun e w'=>e=.returned (.int .i64 (m:Int))∧NodesN D w' (.slice ag FN.length cg) (markF 1 FN) NG∧Fr (fun q=>q∈blocksOf NG) w14 w' from by
      rw [HM.out]
      exact markForm_any D (.slice ag FN.length cg) FN NG 1 w14 (HG9.out w14 F14.out) (by have:=HLen.out;omega) (by have:=HLen.out;omega))
    have HHd:=Lib.hid (fun (w:World) (h:NodesN D w (.slice ag FN.length cg) (markF 1 FN) NG)=>show Calls Tryz.prog 44 #[.agg #[.slice ag FN.length cg],.int .i64 1] w fun e w'=>e=.returned (.int .i64 (m:Int))∧Fr NoM w w' from by
      rw [HM.out]
      exact heldForm_any D (.slice ag FN.length cg) FN NG 1 w h (by have:=HLen.out;omega) (by have:=HLen.out;omega))
    go_wp2_with fail
    refine HMk.out.mono ?_
    rintro e w15 ⟨rfl,n15,f15⟩
    have F15P:=Lib.hid (F14P.out.trans f15 (fun q _ h=>by rw [HPq.out];exact .inr h))
    have N15:=Lib.hid n15
    clear f15 n15 d1 d2 d3 F14 F13 HMk
    obtain ⟨d1,d2,d3,_,_⟩:=HK.out w15 F15P.out
    go_wp2_with fail
    refine (HHd.out w15 N15.out).mono ?_
    rintro e w16 ⟨rfl,f16⟩
    have F16P:=Lib.hid (F15P.out.trans f16 (fun _ _ q=>q.elim))
    have N16:=Lib.hid (N15.out.fr f16 (fun _ _ _ q=>q))
    clear f16 d1 d2 d3
    obtain ⟨_,_,_,_,z16⟩:=HK.out w16 F16P.out
    have F116:=Lib.hid z16
    have HC16:=Lib.hid (fun (w:World) (f:Fr NoM w16 w)=>HIn.out w (F116.out.trans f (fun _ _ q=>q)))
    have K16:Fr NoM w16 w16.drew:=(Fr.refl NoM w16).drew
    have G16:Fr NoM w16 (w16.alloc (.cells #[.slice none 0 0] 31)).drew:=((Fr.refl NoM w16).alloc _).drew
    clear z16
    go_upto_region 24 with fail
    go_cut [14,15] from 79 to 86 (fun x y w'=>∃ (nb:Nat) (v':Value),x=.pointer (some ⟨nb,0,none⟩)∧y=.bool ok∧w'.heap[nb]?=some (.cells #[v'] 31 (0,0))∧NodeL (fun _=>True) encN w' v' FN∧Fr NoM w16 w')
    case first =>
      obtain ⟨hs,_,_⟩:=HC16.out w16 (Fr.refl _ _)
      go_region_held3 (fun (w:World)=>w.cell? ⟨W.heap.size,0,none⟩=some (.slice va Fi.length vc)∧w.cell? ⟨W.heap.size + 1,0,none⟩=some (.int .i64 T)∧w.cell? ⟨W.heap.size + 1,1,none⟩=some (.int .i64 P))
        (first | exact HC16.out _ (by assumption) | exact HC16.out _ (Fr.alloc (by assumption) _) | exact HC16.out _ (Fr.setCell kc _ _ (fun h=>absurd h (Nat.lt_irrefl _))) | exact HC16.out _ (Fr.setCell kc _ _ (fun h=>absurd h (Nat.not_lt.2 ka.size))) | exact HC16.out _ (Fr.setCell kc _ _ (fun h=>absurd h (Nat.not_lt.2 kb.size))) | exact HC16.out _ (Fr.setCell (Fr.alloc kc _) _ _ (fun h=>absurd h (Nat.not_lt.2 kc.size))))
        (first
          | (go_at_call 13;(with_reducible refine (HTo.out _ (F116.out.trans (by assumption) (fun _ _ q=>q))).mono ?_);rintro e wa ⟨va',na',rfl,hna,fa⟩;have hna:=hna.nodeL;have ka:Fr NoM w16 wa:=Fr.trans (by assumption) fa (fun _ _ q=>q);(try (have hxa:wa.heap[w16.heap.size]?=some (.cells #[.slice none 0 0] 31 (0,0)):=fa.heap (heap_alloc_new w16 _) (fun q=>q))))
          | (go_at_call 33;(with_reducible refine (HDy.out _).mono ?_);rintro e wb ⟨rfl,fb⟩;have kb:Fr NoM w16 wb:=(by first | exact Fr.trans ka fb (fun _ _ q=>q) | exact Fr.trans (ka.alloc _) fb (fun _ _ q=>q));have hnb:=(by first | exact hna.fr0 fb | exact hna.fr0 (Fr.trans ((Fr.refl NoM wa).alloc _) fb (fun _ _ q=>q)):NodeL _ encI wb va' Fi);(try (have hxb:wb.heap[w16.heap.size]?=some (.cells #[.slice none 0 0] 31 (0,0)):=fb.heap hxa (fun q=>q)));(try (have hyb:wb.heap[wa.heap.size]?=some (.cells #[.slice none 0 0] 31 (0,0)):=fb.heap (heap_alloc_new wa _) (fun q=>q))))
          | (go_at_call 43;(with_reducible refine (HP.out wb _ _ hnb).mono ?_);rintro e wc ⟨v',rfl,nS',fc⟩;have n':=nS'.nodeL;obtain ⟨xa,xc,rfl,zz⟩:=id n';clear zz;have kc:Fr NoM w16 wc:=Fr.trans kb fc (fun _ _ q=>q);(try (have hx:wc.heap[w16.heap.size]?=some (.cells #[.slice none 0 0] 31 (0,0)):=fc.heap hxb (fun q=>q);have hx1:wc.cell? ⟨w16.heap.size,0,none⟩=some (.slice none 0 0):=(by rw [cell_of_row wc _ 0 _ _ _ hx];rfl);have hx2:wc.frozen? ⟨w16.heap.size,0,none⟩=false:=(by simp [World.frozen?,hx])));(try (have hx:wc.heap[wa.heap.size]?=some (.cells #[.slice none 0 0] 31 (0,0)):=fc.heap hyb (fun q=>q);have hx1:wc.cell? ⟨wa.heap.size,0,none⟩=some (.slice none 0 0):=(by rw [cell_of_row wc _ 0 _ _ _ hx];rfl);have hx2:wc.frozen? ⟨wa.heap.size,0,none⟩=false:=(by simp [World.frozen?,hx]))))
          | (go_at_call 43;(with_reducible refine (HP.out (wb.alloc (.cells #[.slice none 0 0] 31)) _ _ (hnb.fr0 ((Fr.refl NoM wb).alloc _))).mono ?_);rintro e wc ⟨v',rfl,nS',fc⟩;have n':=nS'.nodeL;obtain ⟨xa,xc,rfl,zz⟩:=id n';clear zz;have kc:Fr NoM w16 wc:=Fr.trans (kb.alloc _) fc (fun _ _ q=>q);have hx:wc.heap[wb.heap.size]?=some (.cells #[.slice none 0 0] 31 (0,0)):=fc.heap (heap_alloc_new wb _) (fun q=>q);have hx1:wc.cell? ⟨wb.heap.size,0,none⟩=some (.slice none 0 0):=(by rw [cell_of_row wc _ 0 _ _ _ hx];rfl);have hx2:wc.frozen? ⟨wb.heap.size,0,none⟩=false:=(by simp [World.frozen?,hx]))
          | fail)
      all_goals
        have hka:=ka.size
        have hkb:=kb.size
        have hfb:=fb.size
        have hfa:=fa.size
        (try simp only [World.size_drew,World.size_alloc] at hfa hfb)
        go_wp2_with fail
        go_meet
        case rel=>first
          | exact ⟨_,_,rfl,rfl,heap_alloc_new wc _,(n'.fr0 ((Fr.refl NoM wc).alloc _)).mono (fun q hq=>trivial),kc.alloc _⟩
          | exact ⟨_,_,rfl,rfl,heap_set hx _,(n'.fr (Fr.set wc ⟨wb.heap.size,0,none⟩ _) (fun q hq e=>by have e:q=wb.heap.size:=e;(try simp only [World.size_drew,World.size_alloc] at hq);omega)).mono (fun q hq=>trivial),Fr.setCell kc _ _ (fun h=>absurd h (Nat.not_lt.2 hkb))⟩
          | exact ⟨_,_,rfl,rfl,heap_set hx _,(n'.fr (Fr.set wc ⟨wa.heap.size,0,none⟩ _) (fun q hq e=>by have e:q=wa.heap.size:=e;(try simp only [World.size_drew,World.size_alloc] at hq);omega)).mono (fun q hq=>trivial),Fr.setCell kc _ _ (fun h=>absurd h (Nat.not_lt.2 hka))⟩
          | exact ⟨_,_,rfl,rfl,heap_set hx _,(n'.fr (Fr.set wc ⟨w16.heap.size,0,none⟩ _) (fun q hq e=>by have e:q=w16.heap.size:=e;(try simp only [World.size_drew,World.size_alloc] at hq);omega)).mono (fun q hq=>trivial),Fr.setCell kc _ _ (fun h=>absurd h (Nat.lt_irrefl _))⟩
    case rest =>
    obtain ⟨nb14,hv,rfl,rfl,hb14,nh,f19⟩:=hcut
    obtain ⟨w19,rfl⟩:∃ w19,w19=wc:=⟨_,rfl⟩
    obtain ⟨ah,ch,rfl,z⟩:=id nh
    have F19P:=Lib.hid (F16P.out.trans f19 (fun _ _ q=>q.elim))
    have NG19:=Lib.hid (N16.out.fr f19 (fun _ _ _ q=>q))
    have HNh:=Lib.hid nh
    have d14:w19.cell? ⟨nb14,0,none⟩=some (.slice ah FN.length ch):=by rw [cell_of_row w19 _ 0 _ _ _ hb14];rfl
    clear z nh f19 hb14 K16 G16
    obtain ⟨d1,d2,d3,nw,_⟩:=HK.out w19 F19P.out
    go_wp2_with fail
    refine (HEq.out _ _ w19 _ _ HNh.out nw).mono ?_
    rintro e w20 ⟨rfl,f20⟩
    have F20P:=Lib.hid (F19P.out.trans f20 (fun _ _ q=>q.elim))
    have NG20:=Lib.hid (NG19.out.fr f20 (fun _ _ _ q=>q))
    clear f20 d1 d2 d3 nw d14
    obtain ⟨d1,d2,d3,_,_⟩:=HK.out w20 F20P.out
    go_wp2_with fail
    refine (HHd.out w20 NG20.out).mono ?_
    rintro e w21 ⟨rfl,f21⟩
    have F21P:=Lib.hid (F20P.out.trans f21 (fun _ _ q=>q.elim))
    clear f21 d1 d2 d3
    obtain ⟨_,_,_,_,z⟩:=HK.out w21 F21P.out
    go_wp2
    go_ret
    exact ⟨rfl,F1.out.trans z (fun _ _ q=>q)⟩
end Go.Proofs.YtiidnnpanickaaaGreatDoor
