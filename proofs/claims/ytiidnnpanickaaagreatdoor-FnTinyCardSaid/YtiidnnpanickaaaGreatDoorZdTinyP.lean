import Derived.Test.YtiidnnpanickaaaGreatDoorZdNumR
import Derived.Test.YtiidnnpanickaaaGreatDoorZdCompareP
import Derived.Test.YtiidnnpanickaaaGreatDoorZdTinyLaw
import Derived.Test.YtiidnnpanickaaaGreatDoorZdGroupLaw
/- What the claim of FnTinyCard needs of: TinyP. -/
namespace Go.Proofs.YtiidnnpanickaaaGreatDoor
set_option linter.unusedVariables false
set_option linter.unusedSimpArgs false
open Go.RowKit
noncomputable def tinyN (Fs:List PL):List PL:=formOf (tinyC (codeF Fs))
theorem sub_codeF {Fs:List PL} (hg:goodI (i2 Fs)) {a:Nat} (h:SubC (codeF Fs) a):a∈codesOf Fs:=by
  obtain ⟨g1,g2,g3,g4,g5,_⟩:=goodI_parts hg
  refine sub_codes g4 (r:=Fs.length - 1) (by omega) ?_
  exact h
section
variable {U:List Nat} {pb sb:Nat} {mo mc ms:Value} {w W w':World} {V V1:List PL} {BV BV1:List Nat} {M I M1 I1:Nat→Prop} {f f1:Nat→Option Nat}
theorem rootN_any {R:Nat→Prop} (nv:Value) (Fs:List PL) (h:PSt encN NegMO U pb sb mo mc ms (.map (some sb)) W V BV M I f) (hF:NodeL R encN W nv Fs) (hR:∀ k,R k→¬ M k) (hg:goodI (i2 Fs)) (hin:∀ x∈codesOf Fs,x∈U) (hUl:U.length < 1000000) :
    Calls Tryz.prog 70 #[.pointer (some ⟨pb,0,none⟩),.agg #[nv]] W fun e w'=>NegPost U pb sb mo mc ms W V M I (codeF Fs) e w':=by
  have hlen:=h.len
  have hsb:=h.map.lt
  refine (rootP_any pb nv V Fs BV mo mc ms (.map (some sb)) W h.pool (fun q hq=>(h.mlt q hq).1) (fun q hq=>(h.ilt q hq).1) h.ok hF hR hg (by omega)).mono ?_
  rintro e w' ⟨r,V',BV',M',I',rfl,p1,p2,p3,p4,p5,p6,p7,p8,p9⟩
  refine ⟨r,V',BV',M',I',f,rfl,⟨p1,p2,fun x hx=>?_,h.map.fr p9 (fun e=>(h.mlt sb e).2 rfl),h.memo.mono p3,fun q hq=>⟨(p7 q hq).2,fun e=>?_⟩,fun q hq=>⟨(p8 q hq).2,fun e=>?_⟩⟩,⟨p3,fun q hq=>(p7 q hq).1,fun q hq=>(p8 q hq).1,p9.mono (fun _ _ q=>.inl q)⟩,p4,p5⟩
  · rcases List.mem_append.1 (p6 x hx) with z | z
    · obtain ⟨j, hj, e⟩ := List.getElem_of_mem z
      rw [codesOf_length] at hj
      have:=h.inU j hj
      rw [List.getD_eq_getElem?_getD,List.getElem?_eq_getElem (by rw [codesOf_length];exact hj)] at this
      rw [← e];exact this
    · exact hin _ z
  · rcases (p7 q hq).1 with z | z
    · exact (h.mlt q z).2 e
    · omega
  · rcases (p8 q hq).1 with z | z
    · exact (h.ilt q z).2 e
    · omega
theorem own_row {Z:Nat} {L:List Nat} {n c:Nat} (hn:Nats W (.slice (some ⟨Z,0,none⟩) n c) L) (nx:PNx sb W V M I w' V1 M1 I1) (hZ:¬ M Z∧Z≠sb∧Z < W.heap.size) :
    Nats w' (.slice (some ⟨Z,0,none⟩) n c) L∧¬ M1 Z∧Z≠sb∧Z < w'.heap.size:=by
  refine ⟨hn.fr nx.fr (fun _ q hq h=>?_),fun h=>?_,hZ.2.1,Nat.lt_of_lt_of_le hZ.2.2 nx.fr.size⟩
  · have e : Z = q := Option.some.inj hq
    subst e
    exact h.elim hZ.1 hZ.2.1
  · rcases nx.mM Z h with z | z
    · exact hZ.1 z
    · omega
end
set_option maxRecDepth 4000 in
set_option maxHeartbeats 8000000 in
theorem tinyP_any {R:Nat→Prop} (v:Value) (Fi:List (List Int × List Int)) (w:World) (h:NodeL R encI w v Fi) (g:Bool) (hg:g=true↔goodI Fi) (ok:Bool) (hok:ok=(g && fitsB (tinyN (natF Fi)))) :
    Calls Tryz.prog 25 #[.agg #[v]] w fun e w'=>∃ v',e=.returned (.tuple #[.agg #[v'],.bool ok])∧NodesS w.heap.size w' v' (if ok=true then tinyN (natF Fi) else [])∧Fr NoM w w':=by
  obtain ⟨RN,hRN⟩:∃ RN,RN=(if ok=true then tinyN (natF Fi) else []):=⟨_,rfl⟩
  rw [← hRN]
  have HRN:=Lib.hid hRN
  clear hRN
  obtain ⟨w1,hw1⟩:∃ w1,w1=(w.alloc (.cells #[v] 31)).alloc (.cells #[.slice none 0 0] 31):=⟨_,rfl⟩
  have f1:Fr NoM w w1:=by rw [hw1];exact ((Fr.refl NoM w).alloc _).alloc _
  have hs1:w1.heap.size=w.heap.size + 2:=by rw [hw1];simp
  have e0:w1.heap[w.heap.size]?=some (.cells #[v] 31 (0,0)):=by rw [hw1];exact ((Fr.refl NoM _).alloc _).heap (heap_alloc_new w _) (fun q=>q)
  have e1:w1.heap[w.heap.size + 1]?=some (.cells #[.slice none 0 0] 31 (0,0)):=by
    have h:=heap_alloc_new (w.alloc (.cells #[v] 31)) (.cells #[.slice none 0 0] 31)
    rw [World.size_alloc] at h
    rw [hw1];exact h
  have HK:=Lib.hid (fun (W:World) (f:Fr (fun q=>w1.heap.size≤q) w1 W)=>(by
    have h0:=f.heap e0 (fun q=>by omega)
    have h1:=f.heap e1 (fun q=>by omega)
    exact ⟨by rw [cell_of_row W _ 0 _ _ _ h0];rfl,by rw [cell_of_row W _ 0 _ _ _ h1];rfl,by simp [World.frozen?,h1]⟩:W.cell? ⟨w.heap.size,0,none⟩=some v∧W.cell? ⟨w.heap.size + 1,0,none⟩=some (.slice none 0 0)∧W.frozen? ⟨w.heap.size + 1,0,none⟩=false))
  have HN:=Lib.hid (fun (W:World) (f:Fr (fun q=>w1.heap.size≤q) w1 W)=>((h.low.fr0 f1).fr f (fun k hk e=>by have hk:k < w.heap.size:=hk;have e:w1.heap.size≤k:=e;omega):NodeL (· < w.heap.size) encI W v Fi))
  have HGd:=Lib.hid (goodFormP_any v Fi w1 (h.fr0 f1) g hg)
  have F1:=Lib.hid f1;have HS1:=Lib.hid hs1;have HG:=Lib.hid hg;have HOk:=Lib.hid hok
  obtain ⟨va,vc,rfl,zz⟩:=id h
  clear zz h f1 hs1 e0 e1 hg hok
  obtain ⟨k0,k1,k2⟩:=HK.out w1 (Fr.refl _ _)
  go_enter Tryz.func25,Tryz.ntmps25
  go_wp2_with fail
  rw [← hw1]
  clear hw1
  (with_reducible refine HGd.out.mono ?_)
  rintro e w2 ⟨rfl,f2⟩
  have F2:=Lib.hid (f2.any:Fr (fun q=>w1.heap.size≤q) w1 w2)
  clear k0 k1 k2 f2
  obtain ⟨k0,k1,k2⟩:=HK.out w2 F2.out
  cases g with
  | false =>
    have hk:ok=false:=by rw [HOk.out];rfl
    subst hk
    have hRN:=HRN.out
    rw [if_neg (by decide)] at hRN
    subst hRN
    go_wp2
    refine bodyPost_ret (v:=.tuple #[.agg #[.slice none 0 0],.bool false]) (by simp [results,Tryz.results25,go_sem,k1,k2]) rfl ?_
    exact ⟨_,rfl,NodesS.nil _ _,(F1.out.trans F2.out (fun k hk h=>by have h:w1.heap.size≤k:=h;have:=HS1.out;omega)).setCell _ _ (fun h=>by have h:w.heap.size + 1 < w.heap.size:=h;omega)⟩
  | true =>
    have hgd:goodI Fi:=by have h:=HG.out;simpa using h
    obtain ⟨Fs,rfl⟩:=goodI_nat hgd
    rw [natF_i2] at HRN HOk
    go_wp2_with fail
    (with_reducible refine (newPool_any w2).mono ?_)
    rintro e w3 ⟨rfl,hp3,hmaps,f3⟩
    obtain ⟨pb,hpb⟩:∃ pb,pb=w2.heap.size + 5:=⟨_,rfl⟩
    obtain ⟨sb,hsb⟩:∃ sb,sb=w2.heap.size + 4:=⟨_,rfl⟩
    have hmap:=hmaps 4 (by omega)
    rw [← hsb] at hmap hp3
    rw [← hpb] at hp3 ⊢
    obtain ⟨mo,hmo⟩:∃ v,v=Value.map (some (w2.heap.size + 1)):=⟨_,rfl⟩
    obtain ⟨mc,hmc⟩:∃ v,v=Value.map (some (w2.heap.size + 2)):=⟨_,rfl⟩
    obtain ⟨ms,hms⟩:∃ v,v=Value.map (some (w2.heap.size + 3)):=⟨_,rfl⟩
    rw [← hmo,← hmc,← hms] at hp3
    clear hmaps hmo hmc hms
    obtain ⟨gc,hgc⟩:∃ gc,gc=codeF Fs:=⟨_,rfl⟩
    obtain ⟨U,hU⟩:∃ U,U=zeroC :: (codesOf Fs ++ (codesOf Fs).map negC ++ [halfC gc,tinyC gc]):=⟨_,rfl⟩
    have hFl:Fs.length≤120:=by have h:=hgd.1;unfold fitsB at h;rw [decide_eq_true_eq,i2_length] at h;exact h.1
    have hUl:U.length < 1000:=by rw [hU];simp [codesOf_length];omega
    have hUz:zeroC∈U:=by rw [hU];simp
    have hUf:∀ x∈codesOf Fs,x∈U:=fun x hx=>by rw [hU];simp [hx]
    have hUn:∀ x∈codesOf Fs,negC x∈U:=fun x hx=>by
      rw [hU]
      refine List.mem_cons_of_mem _ (List.mem_append_left _ (List.mem_append_right _ (List.mem_map.2 ⟨x,hx,rfl⟩)))
    have hUh:mkC [zeroC] [negC gc]∈U:=by rw [hU];show halfC gc∈_;simp
    have hUt:mkC [zeroC] [halfC gc]∈U:=by rw [hU];show tinyC gc∈_;simp
    have hlo:=hp3.low
    have hst:PSt encN NegMO U pb sb mo mc ms (.map (some sb)) w3 [] [] (fun q=>(q=w2.heap.size∨q=pb)∧q < w3.heap.size) (fun q=>NoM q∧q < w3.heap.size) (fun _=>none) :=
      ⟨hlo,PoolOK.nil,fun x hx=>by simp at hx,⟨#[],0,hmap,by simp,by simp,by simp⟩,NegMO.none [],fun q hq=>⟨hq.2,by rcases hq.1 with h | h <;> omega⟩,fun q hq=>⟨hq.2,hq.1.elim⟩⟩
    have HNz:=Lib.hid (nodeN_any (L:=[]) (R:=[]) (by omega) none none 0 0 0 0 rfl rfl hst (SliceOf.nil _ _) (SliceOf.nil _ _) (RowC.nil _) (RowC.nil _) (show mkC [] []∈U from hUz) (by simp) (by simp))
    have F3:=Lib.hid (F2.out.trans f3 (fun _ _ q=>q.elim));have HUl:=Lib.hid (show U.length < 1000000 from by omega);have HMlo:=Lib.hid (fun q (hq:((q=w2.heap.size∨q=pb)∧q < w3.heap.size)∨q=sb)=>(by have:=F2.out.size;omega:w1.heap.size≤q))
    have HUf:=Lib.hid hUf;have HUn:=Lib.hid hUn;have HUh:=Lib.hid hUh;have HUt:=Lib.hid hUt;have HGc:=Lib.hid hgc;have HGd2:=Lib.hid hgd
    obtain ⟨M0,hM0⟩:∃ M0:Nat→Prop,M0=fun q=>(q=w2.heap.size∨q=pb)∧q < w3.heap.size:=⟨_,rfl⟩
    obtain ⟨I0,hI0⟩:∃ I0:Nat→Prop,I0=fun q=>NoM q∧q < w3.heap.size:=⟨_,rfl⟩
    have HMlo:=Lib.hid (show ∀ q,M0 q∨q=sb→w1.heap.size≤q from by rw [hM0];exact HMlo.out)
    have hNz:=HNz.out
    rw [← hM0,← hI0] at hNz
    have HNz:=Lib.hid hNz
    clear hp3 hlo hst hmap hU hUl hUz hUf hUn hUh hUt f3 hpb hsb hFl hgc hgd k0 k1 k2 hM0 hI0 hNz
    go_wp2_with fail
    (with_reducible refine HNz.out.mono ?_)
    rintro e w4 ⟨z0,V4,B4,M4,I4,f4,rfl,st4,nx4,l4,q4⟩
    -- the row that holds zero
    obtain ⟨w5,hw5⟩:∃ w5,w5=w4.alloc (.cells #[.int .i64 (z0:Int)] 3):=⟨_,rfl⟩
    have g5:Fr NoM w4 w5:=by rw [hw5];exact (Fr.refl NoM w4).alloc _
    have n5:Nats w5 (.slice (some ⟨w4.heap.size,0,none⟩) 1 1) [z0]:=by rw [hw5];exact SliceOf.one encN w4 z0 3
    have hZ5:¬ M4 w4.heap.size∧w4.heap.size≠sb∧w4.heap.size < w5.heap.size:=⟨fun h=>by have:=(st4.mlt _ h).1;omega,by have:=st4.map.lt;omega,by rw [hw5];simp⟩
    have nx5:=nx4.trans (PNx.of0 g5)
    have f35:Fr (fun q=>w1.heap.size≤q) w1 w5:=F3.out.trans nx5.fr (fun k _ h=>HMlo.out k h)
    obtain ⟨Z,hZe⟩:∃ Z,Z=w4.heap.size:=⟨_,rfl⟩
    rw [← hZe] at n5 hZ5
    have HRt:=Lib.hid (rootN_any (.slice va (i2 Fs).length vc) Fs (st4.fr0 g5) (HN.out w5 f35).ofI (fun k hk hm=>by
      have hk:k < w.heap.size:=hk
      have h1:=F2.out.size
      have h2:=F3.out.size
      have h4:=HS1.out
      rcases nx4.mM k hm with h | h
      · have:=HMlo.out k (.inl h);omega
      · omega) HGd2.out HUf.out HUl.out)
    have HNx5:=Lib.hid nx5;have HN5:=Lib.hid n5;have HZ5:=Lib.hid hZ5;have F5:=Lib.hid f35;have HL4:=Lib.hid (And.intro l4 q4)
    clear st4 nx4 l4 q4 g5 n5 hZ5 nx5 f35
    go_upto_region 5 with fail
    rw [← hZe,← hw5]
    clear hZe hw5
    obtain ⟨k0,k1,k2⟩:=HK.out w5 F5.out
    go_wp2_with fail
    (with_reducible refine HRt.out.mono ?_)
    rintro e w6 ⟨r,V6,B6,M6,I6,f6,rfl,st6,nx6,l6,q6⟩
    have hneg:=neg_all HUl.out pb sb mo mc ms _ r (Nat.lt_succ_self _) V6 B6 M6 I6 f6 w6 st6 l6 (fun a ha=>by rw [q6] at ha;exact HUn.out a (sub_codeF HGd2.out ha))
    rw [q6,← HGc.out] at hneg
    have HNg:=Lib.hid hneg
    have h6:=own_row HN5.out nx6 HZ5.out
    have HN6:=Lib.hid h6.1;have HZ6:=Lib.hid h6.2;have HNx6:=Lib.hid (HNx5.out.trans nx6)
    have HL6:=Lib.hid (show z0 < V6.length∧(codesOf V6).getD z0 0=zeroC from ⟨by have:=nx6.pre.length_le;have:=HL4.out.1;omega,by rw [code_mono nx6.pre HL4.out.1];exact HL4.out.2⟩)
    clear st6 nx6 l6 q6 hneg h6 k0 k1 k2
    go_wp2_with fail
    (with_reducible refine HNg.out.mono ?_)
    rintro e w7 ⟨n,V7,B7,M7,I7,f7,rfl,st7,nx7,l7,q7⟩
    obtain ⟨w8,hw8⟩:∃ w8,w8=w7.alloc (.cells #[.int .i64 (n:Int)] 3):=⟨_,rfl⟩
    have g8:Fr NoM w7 w8:=by rw [hw8];exact (Fr.refl NoM w7).alloc _
    have n8:Nats w8 (.slice (some ⟨w7.heap.size,0,none⟩) 1 1) [n]:=by rw [hw8];exact SliceOf.one encN w7 n 3
    have h7:=own_row HN6.out (nx7.trans (PNx.of0 g8)) HZ6.out
    have hz7:z0 < V7.length∧(codesOf V7).getD z0 0=zeroC:=⟨by have:=nx7.pre.length_le;have:=HL6.out.1;omega,by rw [code_mono nx7.pre HL6.out.1];exact HL6.out.2⟩
    have HNd8:=Lib.hid (nodeN_any (U:=U) HUl.out (some ⟨Z,0,none⟩) (some ⟨w7.heap.size,0,none⟩) 1 1 1 1 rfl rfl (st7.fr0 g8) h7.1 n8 ((RowC.nil V7).snoc hz7.1 hz7.2) ((RowC.nil V7).snoc l7 q7) HUh.out (by simp) (by simp))
    have HN8:=Lib.hid h7.1;have HZ8:=Lib.hid h7.2;have HNx8:=Lib.hid (HNx6.out.trans (nx7.trans (PNx.of0 g8)));have HL8:=Lib.hid hz7
    clear st7 nx7 l7 q7 g8 n8 h7 hz7
    go_wp2_with fail
    rw [← hw8]
    clear hw8
    (with_reducible refine HNd8.out.mono ?_)
    rintro e w9 ⟨hh,V9,B9,M9,I9,f9,rfl,st9,nx9,l9,q9⟩
    obtain ⟨wx,hwx⟩:∃ wx,wx=w9.alloc (.cells #[.int .i64 (hh:Int)] 3):=⟨_,rfl⟩
    have gx:Fr NoM w9 wx:=by rw [hwx];exact (Fr.refl NoM w9).alloc _
    have nX:Nats wx (.slice (some ⟨w9.heap.size,0,none⟩) 1 1) [hh]:=by rw [hwx];exact SliceOf.one encN w9 hh 3
    have h9:=own_row HN8.out (nx9.trans (PNx.of0 gx)) HZ8.out
    have hz9:z0 < V9.length∧(codesOf V9).getD z0 0=zeroC:=⟨by have:=nx9.pre.length_le;have:=HL8.out.1;omega,by rw [code_mono nx9.pre HL8.out.1];exact HL8.out.2⟩
    have HNdx:=Lib.hid (nodeN_any (U:=U) HUl.out (some ⟨Z,0,none⟩) (some ⟨w9.heap.size,0,none⟩) 1 1 1 1 rfl rfl (st9.fr0 gx) h9.1 nX ((RowC.nil V9).snoc hz9.1 hz9.2) ((RowC.nil V9).snoc l9 (show _=halfC gc from q9)) HUt.out (by simp) (by simp))
    have HNxx:=Lib.hid (HNx8.out.trans (nx9.trans (PNx.of0 gx)))
    clear st9 nx9 l9 q9 gx nX h9 hz9
    go_wp2_with fail
    rw [← hwx]
    clear hwx
    (with_reducible refine HNdx.out.mono ?_)
    rintro e wy ⟨tt,Vy,By,My,Iy,fy,rfl,sty,nxy,ly,qy⟩
    have qy:(codesOf Vy).getD tt 0=tinyC gc:=qy
    have hlen:=sty.len
    have HFm:=Lib.hid (pform_any pb tt Vy By mo mc ms (.map (some sb)) wy sty.pool sty.ok ly (by have:=HUl.out;omega))
    have hfo:=formB_of sty.ok ly qy
    have HRs:=Lib.hid (fun (okf:Bool) (FR:List PL) (hres:FormRes Vy By tt okf FR)=>(by
      obtain ⟨h1,h2⟩:=FormRes.is sty.ok ly hres
      rw [hfo] at h1 h2
      have e:formOf (tinyC gc)=tinyN Fs:=by unfold tinyN;rw [HGc.out]
      rw [e] at h1 h2
      have hk:ok=okf:=by rw [HOk.out,h1];rfl
      refine ⟨hk.symm,?_⟩
      rw [HRN.out,h2,hk]:okf=ok∧FR=RN))
    have hnxall:=HNxx.out.trans nxy
    have Fy:=Lib.hid (F3.out.trans hnxall.fr (fun k _ h=>HMlo.out k h))
    clear sty nxy ly qy hlen hfo hnxall
    go_wp2_with fail
    (with_reducible refine HFm.out.mono ?_)
    rintro e wz ⟨nv,okf,FR,rfl,hres,hns,fz⟩
    obtain ⟨rfl,rfl⟩:=HRs.out okf FR hres
    have Fz:=Lib.hid (Fy.out.trans fz (fun _ _ q=>q.elim))
    have HNs:=Lib.hid hns
    have HZz:=Lib.hid (show w.heap.size + 2≤wy.heap.size from by have:=Fy.out.size;have:=HS1.out;omega)
    obtain ⟨an,cn,rfl,zz⟩:=id hns.nodeL
    clear zz hns fz hres
    obtain ⟨k0,k1,k2⟩:=HK.out wz Fz.out
    go_wp2
    refine bodyPost_ret (v:=.tuple #[.agg #[.slice an FR.length cn],.bool okf]) (by simp [results,Tryz.results25,go_sem,k1,k2]) rfl ?_
    refine ⟨_,rfl,?_,(F1.out.trans Fz.out (fun k hk h=>by have h:w1.heap.size≤k:=h;have:=HS1.out;omega)).setCell _ _ (fun h=>by have h:w.heap.size + 1 < w.heap.size:=h;omega)⟩
    exact (HNs.out.fr (Fr.set wz ⟨w.heap.size + 1,0,none⟩ (.slice an FR.length cn)) (fun q hq _ e=>by have e:q=w.heap.size + 1:=e;have:=HZz.out;omega)).base (D':=w.heap.size) (by have:=HZz.out;omega)
end Go.Proofs.YtiidnnpanickaaaGreatDoor
