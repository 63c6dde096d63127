import Derived.Test.YtknniemfpkjnbaaGreatDoorZhOptsLaw
import Derived.Test.YtknniemfpkjnbaaGreatDoorZhRefPart
/- What the claim of FnStopLineCard needs of: RefOpts. -/
namespace Go.Proofs.YtknniemfpkjnbaaGreatDoor
set_option linter.unusedVariables false
set_option linter.unusedSimpArgs false
open Go.RowKit
theorem zob {Fs:List PL}{L:List Nat}{k x:Nat}(h:L[k]?=some x):optF Fs (L.take (k+1))=optF Fs (L.take k) ++ [zad ((za0 Fs).getD x 0)]:=by
 obtain⟨hk,e⟩:=List.getElem?_eq_some_iff.1 h
 unfold optF;rw[List.take_succ_eq_append_getElem hk,List.map_append,e];rfl
theorem GRow.base {D D':Nat}{W:World}{v:Value}{VS:List Value}{FSs:List (List PL)}{T:Nat→Prop}(h:GRow D W v VS FSs T)(hD:D'≤D):GRow D' W v VS FSs T :=
 ⟨zbb h.row hD,h.len,fun j nv Fm a b=>(h.nodes j nv Fm a b).base hD,fun q hq=>⟨Nat.le_trans hD (h.sep q hq).1,(h.sep q hq).2⟩⟩
theorem yct {D b:Nat}{W:World}(h:W.ownsRow D 31 1 (.slice (some ⟨b,0,none⟩) 0 0) 0 []):GRow D W (.slice (some ⟨b,0,none⟩) 0 0) [] [] (fun _=>False) :=
 ⟨h,rfl,fun j nv Fm h1 _=>by simp at h1,fun _ q=>q.elim⟩
def yav (Fs:List PL)(w:World)(e:Ending)(w':World):Prop:=∃(lv rv:Value) (VL VR:List Value) (TL TR:Nat→Prop),e=.returned (.tuple #[lv,rv])/\GRow w.heap.size w' lv VL (zvu Fs) TL/\GRow w.heap.size w' rv VR (zvt Fs) TR/\Fr NoM w w'
set_option maxRecDepth 8000 in
set_option maxHeartbeats 8000000 in
theorem zu5 {R:Nat→Prop}(nv:Value)(Fs:List PL)(w:World)(h:NodeL R encN w nv Fs)(hgd:zbv (i2 Fs)):Calls Tryz.prog 49 #[.agg #[nv]] w fun e w'=>yav Fs w e w':=by
 obtain⟨w1,hw1⟩:∃w1,w1=w.alloc (.cells #[nv] 31):=⟨_,rfl⟩;have f1:Fr NoM w w1:=by rw[hw1];exact(Fr.refl NoM w).alloc _
 have hs1:w1.heap.size=w.heap.size+1:=by rw[hw1];simp
 have e0:w1.heap[w.heap.size]?=some (.cells #[nv] 31 (0,0)):=by rw[hw1];exact heap_alloc_new w _
 obtain⟨w2,hw2⟩:∃w2,w2=(w1.alloc (.cells #[] 31)).alloc (.cells #[] 31):=⟨_,rfl⟩;have f2:Fr NoM w1 w2:=by rw[hw2];exact((Fr.refl NoM w1).alloc _).alloc _
 have hs2:w2.heap.size=w1.heap.size+2:=by rw[hw2];simp
 have ml:w2.ownsRow w.heap.size 31 1 (.slice (some ⟨w1.heap.size,0,none⟩) 0 0) 0 []:=by
  rw[hw2];exact zbb ((World.ownsRow_made w1 #[] 0 (Nat.le_refl _) (by decide) (by simp)).alloc _) (by omega)
 have mr:w2.ownsRow w.heap.size 31 1 (.slice (some ⟨w1.heap.size+1,0,none⟩) 0 0) 0 []:=by
  rw[hw2];have h:=World.ownsRow_made (base:=w.heap.size) (e:=31) (size:=1) (w1.alloc (.cells #[] 31)) #[] 0 (by simp;omega) (by decide) (by simp);simp only[World.size_alloc]at h;exact h
 obtain⟨g1,g2,g3,g4,g5,_⟩:=zaz hgd;obtain⟨n,hn⟩:∃n,n=Fs.length:=⟨_,rfl⟩;obtain⟨na,nc,rfl,_,_,hnn⟩:=id h;obtain⟨b0,o0,lv0,rv0,ha0,_,c1,c2,n1,n2,_,_⟩:=hnn (n-1) _ (za4 (by omega));have hcast:((n:Int)-1)=((n-1:Nat):Int):=by omega
 have ixn:=zb7 na n nc (n-1) b0 o0 (by omega) ha0;obtain⟨Lx,hLx⟩:∃Lx,Lx=(za2 Fs (n-1)).1:=⟨_,rfl⟩;obtain⟨Rx,hRx⟩:∃Rx,Rx=(za2 Fs (n-1)).2:=⟨_,rfl⟩;rw[←hLx]at n1;rw[←hRx]at n2;obtain⟨q1,q2⟩:=g4.opts _ _ (za4 (show n-1<Fs.length by omega));have hlens:=g3 _ (List.mem_of_getElem? (za4 (show n-1<Fs.length by omega)));rw[←hLx,←hRx]at hlens;rw[←hLx]at q1;rw[←hRx]at q2;obtain⟨la,lc,rfl,_,_,hlc⟩:=id n1;obtain⟨ra,rc,rfl,_,_,hrc⟩:=id n2;obtain⟨W3,hW3⟩:∃W3,W3=w2.alloc (.cells #[.slice la Lx.length lc,.slice ra Rx.length rc] 73):=⟨_,rfl⟩;have f3:Fr NoM w2 W3:=by rw[hW3];exact(Fr.refl NoM w2).alloc _
 have e3:W3.heap[w2.heap.size]?=some (.cells #[.slice la Lx.length lc,.slice ra Rx.length rc] 73 (0,0)):=by rw[hW3];exact heap_alloc_new w2 _
 have f12:=f1.trans f2 (fun _ _ q=>q);have k0:w2.cell? ⟨w.heap.size,0,none⟩=some (.slice na n nc):=by rw[cell_of_row w2 _ 0 _ _ _ (f2.heap e0 (fun q=>q)),hn];rfl
 have d1:w2.cell? ⟨b0,o0+(n-1)*2,none⟩=some (.slice la Lx.length lc):=f12.cell c1 (fun q=>q);have d2:w2.cell? ⟨b0,o0+(n-1)*2+1,none⟩=some (.slice ra Rx.length rc):=f12.cell c2 (fun q=>q);obtain⟨bn,hbn⟩:∃bn,bn=w2.heap.size:=⟨_,rfl⟩;have f13:=f12.trans f3 (fun _ _ q=>q);rw[←hbn]at e3;have hfr:=fun(W:World) (f:Fr (fun q=>q=w1.heap.size∨q=w1.heap.size+1) W3 W)=>(f13.trans f (fun q hq e=>by rcases e with e|e <;> omega):Fr NoM w W)
 have HK:=Hh (fun(W:World) (f:Fr (fun q=>q=w1.heap.size∨q=w1.heap.size+1) W3 W)=>show W.cell? ⟨w.heap.size,0,none⟩=some (.slice na n nc)/\W.cell? ⟨bn,0,none⟩=some (.slice la Lx.length lc)/\W.cell? ⟨bn,1,none⟩=some (.slice ra Rx.length rc)from
  ⟨by rw[cell_of_row W _ 0 _ _ _ (f.heap (f3.heap (f2.heap e0 (fun q=>q)) (fun q=>q)) (fun e=>by rcases e with e|e <;> omega)),hn];rfl,by rw[cell_of_row W _ 0 _ _ _ (f.heap e3 (fun e=>by rcases e with e|e <;> omega))];rfl,by rw[cell_of_row W _ 1 _ _ _ (f.heap e3 (fun e=>by rcases e with e|e <;> omega))];rfl⟩)
 have HLc:=Hh (fun(k:Nat) (hk:k<Lx.length)=>show ∃x b o,Lx[k]?=some x/\la=some ⟨b,o,none⟩/\x<n/\∀W,Fr (fun q=>q=w1.heap.size∨q=w1.heap.size+1) W3 W→W.cell? ⟨b,o+k,none⟩=some (.int .i64 (x:Int))from by
  obtain⟨b,o,ha,c⟩:=hlc k _ (List.getElem?_eq_getElem hk);exact⟨_,b,o,List.getElem?_eq_getElem hk,ha,by have:=q1 _ (List.getElem_mem hk);omega,fun W f=>(hfr W f).cell c (fun q=>q)⟩)
 have HRc:=Hh (fun(k:Nat) (hk:k<Rx.length)=>show ∃x b o,Rx[k]?=some x/\ra=some ⟨b,o,none⟩/\x<n/\∀W,Fr (fun q=>q=w1.heap.size∨q=w1.heap.size+1) W3 W→W.cell? ⟨b,o+k,none⟩=some (.int .i64 (x:Int))from by
  obtain⟨b,o,ha,c⟩:=hrc k _ (List.getElem?_eq_getElem hk);exact⟨_,b,o,List.getElem?_eq_getElem hk,ha,by have:=q2 _ (List.getElem_mem hk);omega,fun W f=>(hfr W f).cell c (fun q=>q)⟩)
 have HPt:=Hh (fun(W:World) (f:Fr (fun q=>q=w1.heap.size∨q=w1.heap.size+1) W3 W) (x:Nat) (hx:x<n)=>by
  have h:=zmg (.slice na Fs.length nc) Fs W (h.fr0 (hfr W f)) hgd x (by omega);rw[←hn]at h;exact h)
 have HGl:=Hh (show GRow w.heap.size W3 (.slice (some ⟨w1.heap.size,0,none⟩) 0 0) [] (optF Fs (Lx.take 0)) (fun _=>False)from yct (za1 ml f3 (fun _ _ q=>q)));have HGr:=Hh (za1 mr f3 (fun _ _ q=>q));have HLL:=Hh (show Lx=(za2 Fs (Fs.length-1)).1/\Rx=(za2 Fs (Fs.length-1)).2 from⟨by rw[hLx,hn],by rw[hRx,hn]⟩);have F13:=Hh hfr;have HS:=Hh (show w1.heap.size=w.heap.size+1/\w1.heap.size+2≤W3.heap.size/\w.heap.size≤W3.heap.size from⟨hs1,by have:=f3.size;omega,f13.size⟩);have HLe:=Hh hlens;have hl9:Lx.length≤24:=hlens.1;have hr9:Rx.length≤24:=hlens.2;have hn9:n≤120:=by omega
 rw[←hn]at hw1 ⊢;have Hn:=Hh hn;clear hn;clear hfr h hgd f1 hs1 e0 f2 hs2 ml mr g1 g2 g3 g4 g5 hnn c1 c2 n1 n2 q1 q2 hlens hLx hRx hlc hrc f3 e3 f12 f13 ha0;go_enter Tryz.func49,Tryz.ntmps49;go_upto_region 1 with fail;rw[←hw1];clear hw1;go_upto_region 2 with fail;rw[←hw2];clear hw2;go_upto_region 3 with fail;rw[←hW3,←hbn];clear hW3 hbn k0 d1 d2 ixn hcast;go_wp2_with fail;go_loopw [4,7] (fun v4 v7 W=>∃(k:Nat) (lv:Value) (VS:List Value) (Tb:Nat→Prop),lv=v4/\v7=.int .i64 (k:Int)/\k≤Lx.length/\GRow w.heap.size W lv VS (optF Fs (Lx.take k)) Tb/\(∀q,Tb q→W3.heap.size≤q)/\(∀q,lv.ownBlock=some q→q=w1.heap.size∨W3.heap.size≤q)/\Fr (fun q=>q=w1.heap.size) W3 W) (fun _ v7 _=>Lx.length-(intOf v7).toNat)
 case atStart=>exact⟨0,_,[],_,rfl,rfl,Nat.zero_le _,HGl.out,fun q e=>e.elim,fun q e=>.inl (Option.some.inj e).symm,Fr.refl _ _⟩
 case round =>
  obtain⟨k,lv,VS,Tb,rfl,rfl,hk,hg,hT,hv,hf0⟩:=hrel;obtain⟨w7,rfl⟩:∃w7,w7=wr:=⟨_,rfl⟩;have hf:Fr (fun q=>q=w1.heap.size∨q=w1.heap.size+1) W3 w7:=hf0.mono (fun _ _ e=>.inl e);obtain⟨k0,k1,k2⟩:=HK.out w7 hf;by_cases hlt:k<Lx.length
  ·have hltI:(k:Int)<(Lx.length:Int):=by omega
   obtain⟨x,b5,o5,hx,ha5,hxn,hcx⟩:=HLc.out k hlt;have ix:=za7 la Lx.length lc k b5 o5 hlt ha5;have d5:=hcx w7 hf;obtain⟨FX,hFX⟩:∃FX,FX=zad ((za0 Fs).getD x 0):=⟨_,rfl⟩;have HPx:=Hh (fun(W:World) (f:Fr NoM w7 W)=>by
    have h:=HPt.out W (hf.trans f (fun _ _ q=>q.elim)) x hxn;rw[←hFX]at h;exact h)
   have HFX:=Hh hFX;clear hFX;have HC:=Hh (fun(W:World) (f:Fr NoM w7 W)=>show W.cell? ⟨w.heap.size,0,none⟩=some (.slice na n nc)/\W.cell? ⟨bn,0,none⟩=some (.slice la Lx.length lc)/\W.cell? ⟨b5,o5+k,none⟩=some (.int .i64 (x:Int))from
    ⟨(HK.out W (hf.trans f (fun _ _ q=>q.elim))).1,(HK.out W (hf.trans f (fun _ _ q=>q.elim))).2.1,hcx W (hf.trans f (fun _ _ q=>q.elim))⟩)
   have HG:=Hh hg;have HT:=Hh hT;have HV:=Hh hv;have HF:=Hh hf;have HF0:=Hh hf0;have HX:=Hh hx;have hvl:VS.length=k:=by have h1:=hg.len;unfold optF at h1;rw[List.length_map,List.length_take]at h1;omega
   have HVl:=Hh hvl;have HZ:=Hh (show W3.heap.size≤w7.heap.size/\w.heap.size≤w7.heap.size from⟨hf.size,by have h1:=hf.size;have h2:=HS.out;omega⟩);have hk30:k≤24:=by omega
   clear hg hT hv hf hf0 hx ha5 hcx hvl;have G0:Fr NoM w7 w7.drew:=(Fr.refl NoM w7).drew;go_upto_region 6 with fail;go_region_law (first
    | (refine zk5 rfl (.tmp 26) (.tmp 34) 46 rfl w.heap.size 31 _ 1 24 Tryz.underlying46 zd6 rfl (by decide) lv VS.length VS rfl (by exact za1 HG.out.row g8a (fun _ _ q=>q)) w8.heap.size rfl [.slice a8 FX.length c8] 31 (by exact heap_alloc_new w8 _) rfl (by intro u hu;simp at hu;subst hu;rfl) (by have:=HVl.out;omega) (by decide) (by have h1:=g8.size;have h2:=HZ.out;rw[World.size_alloc];omega) ?_;intro v9 w9 h9 f9 s9)
    | (go_simp;first
     | (go_at_call 83;(with_reducible refine(HPx.out _ G0).mono ?_);rintro e w8 ⟨v8,rfl,o8,f8⟩;obtain⟨a8,c8,rfl⟩:=o8.nodeT.val;have g8:Fr NoM w7 w8:=G0.trans f8 (fun _ _ q=>q);have g8a:Fr NoM w7 (w8.alloc (.cells #[.slice a8 FX.length c8] 31)):=g8.alloc _)
     | fail)
    | fail)
   all_goals
    have HO8:=Hh (show NodeT w7.heap.size (fun q=>w7.heap.size≤q/\q<w8.heap.size) w8 (.slice a8 FX.length c8) FX from o8.nodeT);have hsn:=HG.out.snoc (Wa:=w8.alloc (.cells #[.slice a8 FX.length c8] 31)) (T':=fun q=>Tb q∨w7.heap.size≤q/\q<w8.heap.size) (Fm:=FX) g8a h9 f9 (by first|exact s9|(rw[World.size_alloc];exact s9))
     (((HO8.out.fr0 ((Fr.refl NoM w8).alloc _)).base HZ.out.2).mono (fun q hq=>.inr hq)) (fun q hq=>.inl hq) (fun q hq=>by
      have h8:=g8.size;have hz:=HZ.out;rw[World.size_alloc];rcases hq with hq|hq
      ·have h1:=HG.out.sep q hq;exact⟨h1.1,by omega,h1.2.2⟩
      ·exact⟨by omega,by omega,fun e=>by have:=(HG.out.row.lt q e).2;omega⟩)
    have k9:Fr (fun q=>q=w1.heap.size) W3 w9:=(HF0.out.trans g8a (fun _ _ q=>q.elim)).trans f9 (fun q hq e=>by
     rcases HV.out q e with h1|h1
     ·exact h1
     ·omega)
    have HSn:=Hh hsn;have K9:=Hh k9;have S9:=Hh (And.intro s9 g8.size);clear h9 f9 s9 hsn k9 g8 g8a o8 f8 d5 k0 k1 k2 G0;go_wp2_with fail;go_roundw
    case rel =>
     refine⟨k+1,v9,_,_,rfl,by go_num,by omega,by rw[zob HX.out,←HFX.out];exact HSn.out,fun q hq=>?_,fun q hq=>?_,K9.out⟩
     ·rcases hq with hq|hq
      ·exact HT.out q hq
      ·have hz:=HZ.out;omega
     ·obtain⟨s9,z8⟩:=S9.out
      rcases s9 with s|⟨b,s,hb⟩
      ·exact HV.out q (by rw[←s];exact hq)
      ·rw[hq]at s;cases s
       have hz:=HZ.out;try rw[World.size_alloc]at hb
       exact .inr (by omega)
    case measure=>simp[intOf];omega
  ·have hltI:¬(k:Int)<(Lx.length:Int):=by omega
   obtain rfl:k=Lx.length:=by omega
   rw[List.take_length]at hg;have HG:=Hh hg;have HT:=Hh hT;have HV:=Hh hv;have HF0:=Hh hf0;have HF:=Hh hf;have mr4:=Hh (show GRow w.heap.size w7 (.slice (some ⟨w1.heap.size+1,0,none⟩) 0 0) [] (optF Fs (Rx.take 0)) (fun _=>False)from yct (za1 HGr.out hf0 (fun q hq e=>by have h1:w1.heap.size+1=q:=Option.some.inj hq;have e:q=w1.heap.size:=e;omega)));clear hg hT hv hf0 hf hlt hltI hk;go_wp2_with fail;go_loopw [5,8] (fun v5 v8 W=>∃(k:Nat) (rv:Value) (VS:List Value) (Tb:Nat→Prop),rv=v5/\v8=.int .i64 (k:Int)/\k≤Rx.length/\GRow w.heap.size W rv VS (optF Fs (Rx.take k)) Tb/\(∀q,Tb q→w7.heap.size≤q)/\(∀q,rv.ownBlock=some q→q=w1.heap.size+1∨w7.heap.size≤q)/\Fr (fun q=>q=w1.heap.size+1) w7 W) (fun _ v8 _=>Rx.length-(intOf v8).toNat)
   case atStart=>exact⟨0,_,[],_,rfl,rfl,Nat.zero_le _,mr4.out,fun q e=>e.elim,fun q e=>.inl (Option.some.inj e).symm,Fr.refl _ _⟩
   case round =>
    obtain⟨k,rv,VR,TR,rfl,rfl,hk,hg,hT,hv,hf0⟩:=hrel;obtain⟨w17,rfl⟩:∃w17,w17=wr:=⟨_,rfl⟩;have hf:Fr (fun q=>q=w1.heap.size∨q=w1.heap.size+1) W3 w17:=HF.out.trans (hf0.mono (fun _ _ e=>.inr e)) (fun _ _ e=>e);clear k0 k1 k2;obtain⟨k0,k1,k2⟩:=HK.out w17 hf;by_cases hlt:k<Rx.length
    ·have hltI:(k:Int)<(Rx.length:Int):=by omega
     obtain⟨x,b5,o5,hx,ha5,hxn,hcx⟩:=HRc.out k hlt;have ix:=za7 ra Rx.length rc k b5 o5 hlt ha5;have d5:=hcx w17 hf;obtain⟨FX,hFX⟩:∃FX,FX=zad ((za0 Fs).getD x 0):=⟨_,rfl⟩;have HPx:=Hh (fun(W:World) (f:Fr NoM w17 W)=>by
      have h:=HPt.out W (hf.trans f (fun _ _ q=>q.elim)) x hxn;rw[←hFX]at h;exact h)
     have HFX:=Hh hFX;clear hFX;have HC:=Hh (fun(W:World) (f:Fr NoM w17 W)=>show W.cell? ⟨w.heap.size,0,none⟩=some (.slice na n nc)/\W.cell? ⟨bn,1,none⟩=some (.slice ra Rx.length rc)/\W.cell? ⟨b5,o5+k,none⟩=some (.int .i64 (x:Int))from
      ⟨(HK.out W (hf.trans f (fun _ _ q=>q.elim))).1,(HK.out W (hf.trans f (fun _ _ q=>q.elim))).2.2,hcx W (hf.trans f (fun _ _ q=>q.elim))⟩)
     have HGR:=Hh hg;have HTR:=Hh hT;have HVR:=Hh hv;have HFR:=Hh hf;have HF0R:=Hh hf0;have HX:=Hh hx;have hvl:VR.length=k:=by have h1:=hg.len;unfold optF at h1;rw[List.length_map,List.length_take]at h1;omega
     have HVl:=Hh hvl;have HZ:=Hh (show W3.heap.size≤w17.heap.size/\w.heap.size≤w17.heap.size from⟨hf.size,by have h1:=hf.size;have h2:=HS.out;omega⟩);have HZr:=Hh (show w7.heap.size≤w17.heap.size from hf0.size);have hk30:k≤24:=by omega
     clear hg hT hv hf hf0 hx ha5 hcx hvl;have G0:Fr NoM w17 w17.drew:=(Fr.refl NoM w17).drew;go_upto_region 10 with fail;go_region_law (first
      | (refine zk5 rfl (.tmp 43) (.tmp 51) 46 rfl w.heap.size 31 _ 1 24 Tryz.underlying46 zd6 rfl (by decide) rv VR.length VR rfl (by exact za1 HGR.out.row g8a (fun _ _ q=>q)) w8.heap.size rfl [.slice a8 FX.length c8] 31 (by exact heap_alloc_new w8 _) rfl (by intro u hu;simp at hu;subst hu;rfl) (by have:=HVl.out;omega) (by decide) (by have h1:=g8.size;have h2:=HZ.out;rw[World.size_alloc];omega) ?_;intro v9 w9 h9 f9 s9)
      | (go_simp;first
       | (go_at_call 83;(with_reducible refine(HPx.out _ G0).mono ?_);rintro e w8 ⟨v8,rfl,o8,f8⟩;obtain⟨a8,c8,rfl⟩:=o8.nodeT.val;have g8:Fr NoM w17 w8:=G0.trans f8 (fun _ _ q=>q);have g8a:Fr NoM w17 (w8.alloc (.cells #[.slice a8 FX.length c8] 31)):=g8.alloc _)
       | fail)
      | fail)
     all_goals
      have HO8:=Hh (show NodeT w17.heap.size (fun q=>w17.heap.size≤q/\q<w8.heap.size) w8 (.slice a8 FX.length c8) FX from o8.nodeT);have hsn:=HGR.out.snoc (Wa:=w8.alloc (.cells #[.slice a8 FX.length c8] 31)) (T':=fun q=>TR q∨w17.heap.size≤q/\q<w8.heap.size) (Fm:=FX) g8a h9 f9 (by first|exact s9|(rw[World.size_alloc];exact s9))
       (((HO8.out.fr0 ((Fr.refl NoM w8).alloc _)).base HZ.out.2).mono (fun q hq=>.inr hq)) (fun q hq=>.inl hq) (fun q hq=>by
        have h8:=g8.size;have hz:=HZ.out;rw[World.size_alloc];rcases hq with hq|hq
        ·have h1:=HGR.out.sep q hq;exact⟨h1.1,by omega,h1.2.2⟩
        ·exact⟨by omega,by omega,fun e=>by have:=(HGR.out.row.lt q e).2;omega⟩)
      have k9:Fr (fun q=>q=w1.heap.size+1) w7 w9:=(HF0R.out.trans g8a (fun _ _ q=>q.elim)).trans f9 (fun q hq e=>by
       rcases HVR.out q e with h1|h1
       ·exact h1
       ·omega)
      have HSn:=Hh hsn;have K9:=Hh k9;have S9:=Hh (And.intro s9 g8.size);clear h9 f9 s9 hsn k9 g8 g8a o8 f8 d5 k0 k1 k2 G0;go_wp2_with fail;go_roundw
      case rel =>
       refine⟨k+1,v9,_,_,rfl,by go_num,by omega,by rw[zob HX.out,←HFX.out];exact HSn.out,fun q hq=>?_,fun q hq=>?_,K9.out⟩
       ·rcases hq with hq|hq
        ·exact HTR.out q hq
        ·have hz:=HZr.out;omega
       ·obtain⟨s9,z8⟩:=S9.out
        rcases s9 with s|⟨b,s,hb⟩
        ·exact HVR.out q (by rw[←s];exact hq)
        ·rw[hq]at s;cases s
         have hz:=HZr.out;try rw[World.size_alloc]at hb
         exact .inr (by omega)
      case measure=>simp[intOf];omega
    ·have hltI:¬(k:Int)<(Rx.length:Int):=by omega
     obtain rfl:k=Rx.length:=by omega
     rw[List.take_length]at hg;have HGR:=Hh hg;have HF17:=Hh hf;have HF0R:=Hh hf0;clear hg hT hv hf0 hf hlt hltI hk;go_wp2_with fail;refine bodyPost_ret (v:=.tuple #[lv,rv]) (by simp[results,Tryz.results49,go_sem]) rfl ?_
     refine⟨lv,rv,VS,VR,Tb,TR,rfl,?_,?_,F13.out w17 HF17.out⟩
     ·have e:zvu Fs=optF Fs Lx:=by unfold zvu;rw[HLL.out.1]
      rw[e];refine HG.out.fr HF0R.out (fun q hq e=>?_) (fun q hq e=>?_)
      ·have e:q=w1.heap.size+1:=e
       have h1:=HV.out q hq;have h2:=HS.out;rcases h1 with h1|h1 <;> omega
      ·have e:q=w1.heap.size+1:=e
       have h1:=HT.out q hq;have h2:=HS.out;omega
     ·have e:zvt Fs=optF Fs Rx:=by unfold zvt;rw[HLL.out.2]
      rw[e];exact HGR.out
def zyh (Fs:List PL)(w:World)(e:Ending)(w':World):Prop:=∃(lv rv:Value) (VL VR:List Value) (TL TR:Nat→Prop),e=.returned (.tuple #[lv,rv,.bool true])/\GRow w.heap.size w' lv VL (zvu Fs) TL/\GRow w.heap.size w' rv VR (zvt Fs) TR/\Fr NoM w w'
set_option maxRecDepth 4000 in
set_option maxHeartbeats 4000000 in
theorem zoa {R:Nat→Prop}(nv:Value)(Fs:List PL)(w:World)(h:NodeL R encI w nv (i2 Fs))(hgd:zbv (i2 Fs)):Calls Tryz.prog 22 #[.agg #[nv]] w fun e w'=>zyh Fs w e w':=by
 obtain⟨w1,hw1⟩:∃w1,w1=w.alloc (.cells #[nv] 31):=⟨_,rfl⟩;have f1:Fr NoM w w1:=by rw[hw1];exact(Fr.refl NoM w).alloc _
 have hs1:w1.heap.size=w.heap.size+1:=by rw[hw1];simp
 have e0:w1.heap[w.heap.size]?=some (.cells #[nv] 31 (0,0)):=by rw[hw1];exact heap_alloc_new w _
 have HK:=Hh (fun(W:World) (f:Fr NoM w1 W)=>show W.cell? ⟨w.heap.size,0,none⟩=some nv from by rw[cell_of_row W _ 0 _ _ _ (f.heap e0 (fun q=>q))];rfl);have HGd:=Hh (zmi nv (i2 Fs) w1 (h.fr0 f1));have HOp:=Hh (fun(W:World) (f:Fr NoM w1 W)=>zu5 nv Fs W (((h.fr0 f1).fr0 f).ofI) hgd);have HG:=Hh hgd;have F1:=Hh f1;have HS1:=Hh hs1;obtain⟨na,nc,rfl,z⟩:=id h;clear z h hgd f1 hs1 e0;have k0:=HK.out w1 (Fr.refl _ _);go_enter Tryz.func22,Tryz.ntmps22;go_wp2_with fail;rw[←hw1];clear hw1;(with_reducible refine HGd.out.mono ?_);rintro e w2 ⟨b,rfl,hb,f2⟩;obtain rfl:b=true:=hb.2 HG.out;have F2:=Hh f2;have HO:=Hh (HOp.out w2 f2);clear hb f2 k0;have k0:=HK.out w2 F2.out;go_wp2_with fail;(with_reducible refine HO.out.mono ?_);rintro e w3 ⟨lv,rv,VL,VR,TL,TR,rfl,gl,gr,f3⟩;have F3:=Hh ((F1.out.trans F2.out (fun _ _ q=>q)).trans f3 (fun _ _ q=>q));have HSz:=Hh (show w.heap.size≤w2.heap.size from by have h1:=F2.out.size;have h2:=HS1.out;omega);have HGl:=Hh gl;have HGr:=Hh gr;clear gl gr f3 k0;go_wp2_with fail;refine bodyPost_ret (v:=.tuple #[lv,rv,.bool true]) (by simp[results,Tryz.results22,go_sem]) rfl ?_
 exact⟨lv,rv,VL,VR,TL,TR,rfl,HGl.out.base HSz.out,HGr.out.base HSz.out,F3.out⟩
end Go.Proofs.YtknniemfpkjnbaaGreatDoor
