import Derived.Test.YtiidnnpanickaaaGreatDoorZdTinyP
import Derived.Test.YtiidnnpanickaaaGreatDoorZdDraws
import Derived.Test.YtiidnnpanickaaaGreatDoorZdSumMany
/- What the claim of FnTinyCard needs of: TinyR. -/
namespace Go.Proofs.YtiidnnpanickaaaGreatDoor
set_option linter.unusedVariables false
set_option linter.unusedSimpArgs false
open Go.RowKit
theorem zeroDF (U:List Nat):DF (zeroC :: U) [([],[])]:=by
  have e:formOf zeroC=[([],[])]:=by rw [← codeF_zero,formOf_codeF good_zero]
  refine ⟨zeroC,e.symm,fun x hx=>?_⟩
  rcases subC_cases hx with rfl | ⟨y,hy,_⟩
  · simp
  · rcases hy with h | h
    · exact absurd h (zeroL y)
    · exact absurd h (zeroR y)
theorem negDF {Fs:List PL} (hg:goodI (i2 Fs)):DF (zeroC :: (codesOf Fs).map negC) (formOf (negC (codeF Fs))):=⟨_,rfl,fun x hx=>by
  obtain ⟨y,hy,rfl⟩:=hx.neg
  exact List.mem_cons_of_mem _ (List.mem_map.2 ⟨y,sub_codeF hg hy,rfl⟩)⟩
set_option maxRecDepth 4000 in
set_option maxHeartbeats 8000000 in
theorem tinyR_any {R:Nat→Prop} (v:Value) (Fi:List (List Int × List Int)) (w:World) (h:NodeL R encI w v Fi) (hln:Fi.length≤60) (g:Bool) (hg:g=true↔goodI Fi) (ok:Bool) (hok:ok=(g && fitsB (tinyN (natF Fi)))) :
    Calls Tryz.prog 30 #[.agg #[v]] w fun e w'=>∃ v',e=.returned (.tuple #[.agg #[v'],.bool ok])∧NodeL (fun b=>w.heap.size≤b) encN w' v' (if ok=true then tinyN (natF Fi) else [])∧Fr NoM w w':=by
  obtain ⟨RN,hRN⟩:∃ RN,RN=(if ok=true then tinyN (natF Fi) else []):=⟨_,rfl⟩
  rw [← hRN]
  have HRN:=Lib.hid hRN
  clear hRN
  obtain ⟨w1,hw1⟩:∃ w1,w1=(w.alloc (.cells #[v] 31)).alloc (.cells #[.slice none 0 0] 31):=⟨_,rfl⟩
  have f1:Fr NoM w w1:=by rw [hw1];exact ((Fr.refl NoM w).alloc _).alloc _
  have hs1:w1.heap.size=w.heap.size + 2:=by rw [hw1];simp
  have e0:w1.heap[w.heap.size]?=some (.cells #[v] 31 (0,0)):=by rw [hw1];exact ((Fr.refl NoM _).alloc _).heap (heap_alloc_new w _) (fun q=>q)
  have e1:w1.heap[w.heap.size + 1]?=some (.cells #[.slice none 0 0] 31 (0,0)):=by
    have h:=heap_alloc_new (w.alloc (.cells #[v] 31)) (.cells #[.slice none 0 0] 31)
    rw [World.size_alloc] at h
    rw [hw1];exact h
  have HK:=Lib.hid (fun (W:World) (f:Fr NoM w1 W)=>(by
    have h0:=f.heap e0 (fun q=>q)
    have h1:=f.heap e1 (fun q=>q)
    exact ⟨by rw [cell_of_row W _ 0 _ _ _ h0];rfl,by rw [cell_of_row W _ 0 _ _ _ h1];rfl,by simp [World.frozen?,h1]⟩:W.cell? ⟨w.heap.size,0,none⟩=some v∧W.cell? ⟨w.heap.size + 1,0,none⟩=some (.slice none 0 0)∧W.frozen? ⟨w.heap.size + 1,0,none⟩=false))
  have HN:=Lib.hid (fun (W:World) (f:Fr NoM w1 W)=>((h.low.fr0 f1).fr0 f:NodeL (· < w.heap.size) encI W v Fi))
  have HGd:=Lib.hid (l3Good_g v Fi w1 (h.fr0 f1) g hg)
  have F1:=Lib.hid f1;have HS1:=Lib.hid hs1;have HG:=Lib.hid hg;have HOk:=Lib.hid hok;have HLn:=Lib.hid hln
  obtain ⟨va,vc,rfl,zz⟩:=id h
  clear zz h f1 hs1 e0 e1 hg hok hln
  obtain ⟨k0,k1,k2⟩:=HK.out w1 (Fr.refl _ _)
  go_enter Tryz.func30,Tryz.ntmps30
  go_wp2_with fail
  rw [← hw1]
  clear hw1
  (with_reducible refine HGd.out.mono ?_)
  rintro e w2 ⟨rfl,f2⟩
  have F2:=Lib.hid f2
  clear k0 k1 k2 f2
  obtain ⟨k0,k1,k2⟩:=HK.out w2 F2.out
  cases g with
  | false =>
    have hk:ok=false:=by rw [HOk.out];rfl
    subst hk
    have hRN:=HRN.out
    rw [if_neg (by decide)] at hRN
    subst hRN
    go_wp2
    refine bodyPost_ret (v:=.tuple #[.agg #[.slice none 0 0],.bool false]) (by simp [results,Tryz.results30,go_sem,k1,k2]) rfl ?_
    exact ⟨_,rfl,⟨none,0,rfl,Nat.le_refl _,by decide,by simp⟩,(F1.out.trans F2.out (fun _ _ q=>q)).setCell _ _ (fun h=>by have h:w.heap.size + 1 < w.heap.size:=h;omega)⟩
  | true =>
    have hgd:goodI Fi:=by have h:=HG.out;simpa using h
    obtain ⟨Fs,rfl⟩:=goodI_nat hgd
    rw [natF_i2] at HRN HOk
    have hFl:Fs.length≤60:=by have:=HLn.out;rw [i2_length] at this;exact this
    obtain ⟨U,hU⟩:∃ U,U=zeroC :: (codesOf Fs).map negC:=⟨_,rfl⟩
    have hUl:U.length≤61:=by rw [hU];simp [codesOf_length];omega
    have hdz:DF U [([],[])]:=by rw [hU];exact zeroDF _
    have hdn:DF U (formOf (negC (codeF Fs))):=by rw [hU];exact negDF hgd
    have HUl:=Lib.hid hUl;have HDz:=Lib.hid hdz;have HDn:=Lib.hid hdn
    have hgp:=goodI_parts hgd
    have HNeg:=Lib.hid (fun (W:World) (f:Fr NoM w1 W)=>l5Neg_any (.slice va (i2 Fs).length vc) Fs W (HN.out W f).ofI hgp.2.2.2.1.opts hgp.2.2.1 hgp.1 hgp.2.1)
    clear hgd hFl hU hUl hdz hdn hgp k0 k1 k2
    go_wp2_with fail
    (with_reducible refine (l5ZeroR_any w2).mono ?_)
    rintro e w3 ⟨v0,rfl,n0,f3⟩
    obtain ⟨w4,hw4⟩:∃ w4,w4=w3.alloc (.cells #[v0] 31):=⟨_,rfl⟩
    have g4:Fr NoM w3 w4:=by rw [hw4];exact (Fr.refl NoM w3).alloc _
    have fl4:FormsL (fun _=>True) w4 (.slice (some ⟨w3.heap.size,0,none⟩) 1 1) [[([],[])]]:=by rw [hw4];exact forms1 rfl (n0.mono (fun _ _=>trivial))
    obtain ⟨Z,hZ⟩:∃ Z,Z=w3.heap.size:=⟨_,rfl⟩
    rw [← hZ] at fl4
    have F4:=Lib.hid ((F2.out.trans f3 (fun _ _ q=>q)).trans g4 (fun _ _ q=>q));have HFl4:=Lib.hid fl4
    obtain ⟨az,cz,rfl,zz⟩:=id n0
    clear zz n0 f3 g4 fl4
    go_upto_region 4 with fail
    have hw4':w4=w3.alloc (.cells #[.slice az 1 cz] 31):=hw4
    rw [← hZ,← hw4']
    clear hw4 hw4' hZ
    obtain ⟨k0,k1,k2⟩:=HK.out w4 F4.out
    go_wp2_with fail
    (with_reducible refine (HNeg.out w4 F4.out).mono ?_)
    rintro e w5 ⟨v1,rfl,n5,f5⟩
    obtain ⟨w6,hw6⟩:∃ w6,w6=w5.alloc (.cells #[v1] 31):=⟨_,rfl⟩
    have g6:Fr NoM w5 w6:=by rw [hw6];exact (Fr.refl NoM w5).alloc _
    have fl6:FormsL (fun _=>True) w6 (.slice (some ⟨w5.heap.size,0,none⟩) 1 1) [formOf (negC (codeF Fs))]:=by
      rw [hw6];exact forms1 rfl (n5.mono (fun _ _=>trivial))
    obtain ⟨Hc,hHc⟩:∃ Hc,Hc=halfC (codeF Fs):=⟨_,rfl⟩
    have hmk:=make_any U (.slice (some ⟨Z,0,none⟩) 1 1) (.slice (some ⟨w5.heap.size,0,none⟩) 1 1) [[([],[])]] [formOf (negC (codeF Fs))] w6 ((HFl4.out.fr0 f5).fr0 g6) fl6 (fun Fm h=>by rw [List.mem_singleton.1 h];exact HDz.out) (fun Fm h=>by rw [List.mem_singleton.1 h];exact HDn.out) (by have:=HUl.out;omega) (by simp) (by simp)
    rw [show mkC ([[([],[])]].map codeF) ([formOf (negC (codeF Fs))].map codeF)=Hc from by rw [hHc,List.map_singleton,List.map_singleton,codeF_formOf,codeF_zero];rfl] at hmk
    have HMk:=Lib.hid hmk;have HHc:=Lib.hid hHc
    have F6:=Lib.hid ((F4.out.trans f5 (fun _ _ q=>q)).trans g6 (fun _ _ q=>q));have HFl6:=Lib.hid ((HFl4.out.fr0 f5).fr0 g6)
    obtain ⟨a5,c5,rfl,zz⟩:=id n5
    clear zz n5 f5 g6 fl6 hmk hHc k0 k1 k2
    go_wp2_with fail
    rw [← hw6]
    clear hw6
    (with_reducible refine HMk.out.mono ?_)
    rintro e w7 ⟨v2,Hm,rfl,n7,d7,q7,f7⟩
    obtain ⟨w8,hw8⟩:∃ w8,w8=w7.alloc (.cells #[v2] 31):=⟨_,rfl⟩
    have g8:Fr NoM w7 w8:=by rw [hw8];exact (Fr.refl NoM w7).alloc _
    have fl8:FormsL (fun _=>True) w8 (.slice (some ⟨w7.heap.size,0,none⟩) 1 1) [Hm]:=by
      rw [hw8];exact forms1 rfl (n7.nodeL.mono (fun _ _=>trivial))
    have hmk:=make_any (U ++ [Hc]) (.slice (some ⟨Z,0,none⟩) 1 1) (.slice (some ⟨w7.heap.size,0,none⟩) 1 1) [[([],[])]] [Hm] w8 ((HFl6.out.fr0 f7).fr0 g8) fl8 (fun Fm h=>by rw [List.mem_singleton.1 h];exact HDz.out.mono (fun x hx=>List.mem_append_left _ hx)) (fun Fm h=>by rw [List.mem_singleton.1 h];exact d7) (by have:=HUl.out;rw [List.length_append];simp;omega) (by simp) (by simp)
    obtain ⟨Tc,hTc⟩:∃ Tc,Tc=tinyC (codeF Fs):=⟨_,rfl⟩
    rw [show mkC ([[([],[])]].map codeF) ([Hm].map codeF)=Tc from by rw [hTc,List.map_singleton,List.map_singleton,q7,codeF_zero,HHc.out];rfl] at hmk
    have HMk8:=Lib.hid hmk;have HTc:=Lib.hid hTc
    have F8:=Lib.hid ((F6.out.trans f7 (fun _ _ q=>q)).trans g8 (fun _ _ q=>q))
    obtain ⟨a7,c7,rfl,zz⟩:=id n7.nodeL
    clear zz n7 d7 q7 f7 g8 fl8 hmk hTc
    go_wp2_with fail
    rw [← hw8]
    clear hw8
    (with_reducible refine HMk8.out.mono ?_)
    rintro e w9 ⟨v3,Tm,rfl,n9,d9,q9,f9⟩
    have hTm:Tm=tinyN Fs:=by
      have h:=d9.code.1
      rw [q9,HTc.out] at h
      exact h
    have hI:=l3If_any v3 Tm w9 n9.nodeL
    have hk:ok=fitsB Tm:=by rw [hTm,HOk.out];rfl
    have hr:(if fitsB Tm=true then Tm else [])=RN:=by rw [HRN.out,hk,hTm]
    rw [hr,← hk] at hI
    have HI:=Lib.hid hI
    have F9:=Lib.hid (F8.out.trans f9 (fun _ _ q=>q))
    have HZ9:=Lib.hid (show w.heap.size + 2≤w8.heap.size from by have:=F8.out.size;have:=HS1.out;omega)
    obtain ⟨a9,c9,rfl,zz⟩:=id n9.nodeL
    clear zz n9 d9 q9 f9 hTm hI hk hr
    go_wp2_with fail
    (with_reducible refine HI.out.mono ?_)
    rintro e wx ⟨v',rfl,nx,fx⟩
    have Fx:=Lib.hid (F9.out.trans fx (fun _ _ q=>q))
    have HNx:=Lib.hid nx
    obtain ⟨vb,vd,rfl,zz⟩:=id nx
    clear zz nx fx
    obtain ⟨k0,k1,k2⟩:=HK.out wx Fx.out
    go_wp2
    refine bodyPost_ret (v:=.tuple #[.agg #[.slice vb RN.length vd],.bool ok]) (by simp [results,Tryz.results30,go_sem,k1,k2]) rfl ?_
    refine ⟨_,rfl,?_,(F1.out.trans Fx.out (fun _ _ q=>q)).setCell _ _ (fun h=>by have h:w.heap.size + 1 < w.heap.size:=h;omega)⟩
    exact (HNx.out.fr (Fr.set wx ⟨w.heap.size + 1,0,none⟩ (.slice vb RN.length vd)) (fun q hq e=>by have e:q=w.heap.size + 1:=e;have hq:w8.heap.size≤q:=hq;have:=HZ9.out;omega)).mono (fun q hq=>by have hq:w8.heap.size≤q:=hq;have:=HZ9.out;omega)
end Go.Proofs.YtiidnnpanickaaaGreatDoor
