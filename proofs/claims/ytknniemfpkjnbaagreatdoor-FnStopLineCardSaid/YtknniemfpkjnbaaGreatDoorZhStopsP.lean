import Derived.Test.YtknniemfpkjnbaaGreatDoorZhCanCall
import Derived.Test.YtknniemfpkjnbaaGreatDoorZhGoodFormP
/- What the claim of FnStopLineCard needs of: StopsP. -/
namespace Go.Proofs.YtknniemfpkjnbaaGreatDoor
set_option linter.unusedVariables false
set_option linter.unusedSimpArgs false
open Go.RowKit
structure SSt (U:List Nat) (pb ob sb:Nat) (ms mn:Value) (lb rb bb n:Nat) (W0:World) (F:List PL) (M0 I0:Nat→Prop) (W:World) (k:Nat) (o1 o2:Option (Int × Nat)) (V:List PL) (BV:List Nat) (M I:Nat→Prop) (fo:Nat × Nat→Option Bool) (fc:Nat→Option Nat):Prop where
 st:CSt U pb ob sb ms mn W V BV M I fo fc
 pre:F <+: V
 mM:∀q,M q→M0 q∨W0.heap.size≤q
 mI:∀q,I q→I0 q∨W0.heap.size≤q
 fr:Fr (fun q=>M0 q∨q=ob∨q=sb∨q=lb∨q=rb∨q=bb) W0 W
 l:RowE W lb n k (sL F) o1
 r:RowE W rb n k (sR F) o2
 b:RowN W bb n k F
theorem zr9 (W:World)(a b c d:Obj):((((W.alloc a).alloc b).alloc c).alloc d).drew.heap[W.heap.size]?=some a/\((((W.alloc a).alloc b).alloc c).alloc d).drew.heap[W.heap.size+1]?=some b/\((((W.alloc a).alloc b).alloc c).alloc d).drew.heap[W.heap.size+1+1]?=some c/\((((W.alloc a).alloc b).alloc c).alloc d).drew.heap[W.heap.size+1+1+1]?=some d/\Fr NoM W ((((W.alloc a).alloc b).alloc c).alloc d).drew:=by
 have up:∀(V:World) (o:Obj) (i:Nat) (x:Obj),V.heap[i]?=some x→(V.alloc o).heap[i]?=some x:=fun V o i x h=>((Fr.refl NoM V).alloc o).heap h (fun q=>q)
 have n1:=heap_alloc_new W a;have n2:=heap_alloc_new (W.alloc a) b;have n3:=heap_alloc_new ((W.alloc a).alloc b) c;have n4:=heap_alloc_new (((W.alloc a).alloc b).alloc c) d;simp only[World.size_alloc]at n2 n3 n4;exact⟨up _ _ _ _ (up _ _ _ _ (up _ _ _ _ n1)),up _ _ _ _ (up _ _ _ _ n2),up _ _ _ _ n3,n4,((((Fr.refl NoM W).alloc a).alloc b).alloc c).alloc d |>.drew⟩
structure Beside (M0 I0:Nat→Prop) (W0:World) (ob sb lb rb bb:Nat):Prop where
 old:lb<W0.heap.size/\rb<W0.heap.size/\bb<W0.heap.size
 m:¬M0 lb/\¬M0 rb/\¬M0 bb
 i:¬I0 lb/\¬I0 rb/\¬I0 bb
 o:lb≠ob/\rb≠ob/\bb≠ob
 s:lb≠sb/\rb≠sb/\bb≠sb
 d:lb≠rb/\lb≠bb/\rb≠bb
section
variable {U:List Nat}{pb ob sb:Nat}{ms mn:Value}{lb rb bb n:Nat}{W0:World}{F:List PL}{M0 I0:Nat→Prop}{W W':World}{k:Nat}{o1 o2:Option (Int × Nat)}{V V':List PL}{BV BV':List Nat}{M I M' I':Nat→Prop}{fo fo':Nat × Nat→Option Bool}{fc fc':Nat→Option Nat}
theorem SSt.call (h:SSt U pb ob sb ms mn lb rb bb n W0 F M0 I0 W k o1 o2 V BV M I fo fc)(hB:Beside M0 I0 W0 ob sb lb rb bb)(st:CSt U pb ob sb ms mn W' V' BV' M' I' fo' fc')(nx:CNx ob sb W V M I W' V' M' I'):SSt U pb ob sb ms mn lb rb bb n W0 F M0 I0 W' k o1 o2 V' BV' M' I' fo' fc':=by
 have hs:=h.fr.size;have out:∀q,q<W0.heap.size→¬M0 q→q≠ob→q≠sb→¬(M q∨q=ob∨q=sb):=fun q hq hm ho hs e=>by
  rcases e with e|e|e
  ·rcases h.mM q e with e|e
   ·exact hm e
   ·omega
  ·exact ho e
  ·exact hs e
 refine⟨st,h.pre.trans nx.pre,fun q hq=>(nx.mM q hq).elim (h.mM q) (fun z=>.inr (by omega)),fun q hq=>(nx.mI q hq).elim (h.mI q) (fun z=>.inr (by omega)),
  h.fr.trans nx.fr (fun q hq e=>?_),h.l.fr nx.fr (out _ hB.old.1 hB.m.1 hB.o.1 hB.s.1),h.r.fr nx.fr (out _ hB.old.2.1 hB.m.2.1 hB.o.2.1 hB.s.2.1),h.b.fr nx.fr (out _ hB.old.2.2 hB.m.2.2 hB.o.2.2 hB.s.2.2)⟩
 rcases e with e|e|e
 ·rcases h.mM q e with e|e
  ·exact .inl e
  ·omega
 ·exact .inr (.inl e)
 ·exact .inr (.inr (.inl e))
theorem SSt.fr0 (h:SSt U pb ob sb ms mn lb rb bb n W0 F M0 I0 W k o1 o2 V BV M I fo fc)(hf:Fr NoM W W'):SSt U pb ob sb ms mn lb rb bb n W0 F M0 I0 W' k o1 o2 V BV M I fo fc :=
 ⟨h.st.fr0 hf,h.pre,h.mM,h.mI,h.fr.trans hf (fun _ _ q=>q.elim),h.l.fr hf (fun q=>q),h.r.fr hf (fun q=>q),h.b.fr hf (fun q=>q)⟩
theorem SSt.apart (h:SSt U pb ob sb ms mn lb rb bb n W0 F M0 I0 W k o1 o2 V BV M I fo fc)(hB:Beside M0 I0 W0 ob sb lb rb bb){q:Nat}(hq:q=lb∨q=rb∨q=bb):¬M q/\¬I q/\q≠ob/\q≠sb:=by
 have key:q<W0.heap.size/\¬M0 q/\¬I0 q/\q≠ob/\q≠sb:=by
  rcases hq with rfl|rfl|rfl
  ·exact⟨hB.old.1,hB.m.1,hB.i.1,hB.o.1,hB.s.1⟩
  ·exact⟨hB.old.2.1,hB.m.2.1,hB.i.2.1,hB.o.2.1,hB.s.2.1⟩
  ·exact⟨hB.old.2.2,hB.m.2.2,hB.i.2.2,hB.o.2.2,hB.s.2.2⟩
 exact⟨fun e=>(h.mM q e).elim key.2.1 (fun z=>by have:=key.1;omega),fun e=>(h.mI q e).elim key.2.2.1 (fun z=>by have:=key.1;omega),key.2.2.2⟩
theorem SSt.setL (h:SSt U pb ob sb ms mn lb rb bb n W0 F M0 I0 W k o1 o2 V BV M I fo fc)(hB:Beside M0 I0 W0 ob sb lb rb bb)(hk:k<n)(x:Int × Nat) :
  SSt U pb ob sb ms mn lb rb bb n W0 F M0 I0 ((W.setCell ⟨lb,k*2,none⟩ (.int .i64 x.1)).setCell ⟨lb,k*2+1,none⟩ (.int .i64 (x.2:Int))) k (some x) o2 V BV M I fo fc:=by
 have hf:Fr (fun q=>q=lb) W ((W.setCell ⟨lb,k*2,none⟩ (.int .i64 x.1)).setCell ⟨lb,k*2+1,none⟩ (.int .i64 (x.2:Int))):=Fr.setCell (M:=fun q=>q=lb) (Fr.setCell (M:=fun q=>q=lb) (Fr.refl _ W) _ _ (fun _=>rfl)) _ _ (fun _=>rfl);exact⟨h.st.fr hf (fun q e=>h.apart hB (.inl e)),h.pre,h.mM,h.mI,h.fr.trans hf (fun q _ e=>.inr (.inr (.inr (.inl e)))),h.l.set hk x,h.r.fr hf (fun e=>hB.d.1 e.symm),h.b.fr hf (fun e=>hB.d.2.1 e.symm)⟩
theorem SSt.setR (h:SSt U pb ob sb ms mn lb rb bb n W0 F M0 I0 W k o1 o2 V BV M I fo fc)(hB:Beside M0 I0 W0 ob sb lb rb bb)(hk:k<n)(x:Int × Nat) :
  SSt U pb ob sb ms mn lb rb bb n W0 F M0 I0 ((W.setCell ⟨rb,k*2,none⟩ (.int .i64 x.1)).setCell ⟨rb,k*2+1,none⟩ (.int .i64 (x.2:Int))) k o1 (some x) V BV M I fo fc:=by
 have hf:Fr (fun q=>q=rb) W ((W.setCell ⟨rb,k*2,none⟩ (.int .i64 x.1)).setCell ⟨rb,k*2+1,none⟩ (.int .i64 (x.2:Int))):=Fr.setCell (M:=fun q=>q=rb) (Fr.setCell (M:=fun q=>q=rb) (Fr.refl _ W) _ _ (fun _=>rfl)) _ _ (fun _=>rfl);exact⟨h.st.fr hf (fun q e=>h.apart hB (.inr (.inl e))),h.pre,h.mM,h.mI,h.fr.trans hf (fun q _ e=>.inr (.inr (.inr (.inr (.inl e))))),h.l.fr hf hB.d.1,h.r.set hk x,h.b.fr hf (fun e=>hB.d.2.2 e.symm)⟩
theorem SSt.num (h:SSt U pb ob sb ms mn lb rb bb n W0 F M0 I0 W k (some (sL F k)) (some (sR F k)) V BV M I fo fc)(hB:Beside M0 I0 W0 ob sb lb rb bb)(hk:k<n)(hn:isNB (xAt F k)=true) :
  SSt U pb ob sb ms mn lb rb bb n W0 F M0 I0 (W.setCell ⟨bb,k,none⟩ (.bool true)) (k+1) none none V BV M I fo fc:=by
 have hf:Fr (fun q=>q=bb) W (W.setCell ⟨bb,k,none⟩ (.bool true)):=Fr.setCell (M:=fun q=>q=bb) (Fr.refl _ W) _ _ (fun _=>rfl);exact⟨h.st.fr hf (fun q e=>h.apart hB (.inr (.inr e))),h.pre,h.mM,h.mI,h.fr.trans hf (fun q _ e=>.inr (.inr (.inr (.inr (.inr e))))),h.l.next.fr hf hB.d.2.1,h.r.next.fr hf hB.d.2.2,h.b.set hk hn⟩
theorem SSt.skip (h:SSt U pb ob sb ms mn lb rb bb n W0 F M0 I0 W k (some (sL F k)) (some (sR F k)) V BV M I fo fc)(hk:k<n)(hn:isNB (xAt F k)=false):SSt U pb ob sb ms mn lb rb bb n W0 F M0 I0 W (k+1) none none V BV M I fo fc :=
 ⟨h.st,h.pre,h.mM,h.mI,h.fr,h.l.next,h.r.next,h.b.skip hk hn⟩
end
set_option maxRecDepth 8000 in
set_option maxHeartbeats 16000000 in
theorem zk4 {R:Nat→Prop}(nv:Value)(Fi:List (List Int × List Int))(w:World)(h:NodeL R encI w nv Fi)(g:Bool)(hg:g=true↔zbv Fi)(ok:Bool)(hok:ok=zgt g Fi) :
  Calls Tryz.prog 44 #[.agg #[nv]] w fun e w'=>zyr (natF Fi) ok w e w':=by
 obtain⟨w1,hw1⟩:∃w1,w1=(w.alloc (.cells #[nv] 31)).alloc (.cells #[.slice none 0 0,.slice none 0 0,.slice none 0 0] 76):=⟨_,rfl⟩;have f1:Fr NoM w w1:=by rw[hw1];exact((Fr.refl NoM w).alloc _).alloc _
 have hs1:w1.heap.size=w.heap.size+2:=by rw[hw1];simp
 have e0:w1.heap[w.heap.size]?=some (.cells #[nv] 31 (0,0)):=by rw[hw1];exact((Fr.refl NoM _).alloc _).heap (heap_alloc_new w _) (fun q=>q)
 have e1:w1.heap[w.heap.size+1]?=some (.cells #[.slice none 0 0,.slice none 0 0,.slice none 0 0] 76 (0,0)):=by
  have h:=heap_alloc_new (w.alloc (.cells #[nv] 31)) (.cells #[.slice none 0 0,.slice none 0 0,.slice none 0 0] 76);rw[World.size_alloc]at h;rw[hw1];exact h
 have HK:=Hh (fun(W:World) (f:Fr NoM w1 W)=>show W.cell? ⟨w.heap.size,0,none⟩=some nv from by
  rw[cell_of_row W _ 0 _ _ _ (f.heap e0 (fun q=>q))];rfl)
 have HRs:=Hh (fun(W:World) (f:Fr NoM w1 W)=>show(W.cell? ⟨w.heap.size+1,0,none⟩=some (.slice none 0 0)/\W.cell? ⟨w.heap.size+1,1,none⟩=some (.slice none 0 0)/\W.cell? ⟨w.heap.size+1,2,none⟩=some (.slice none 0 0))/\W.frozen? ⟨w.heap.size+1,0,none⟩=false/\W.frozen? ⟨w.heap.size+1,1,none⟩=false/\W.frozen? ⟨w.heap.size+1,2,none⟩=false from by
  have h1:=f.heap e1 (fun q=>q);exact⟨⟨by rw[cell_of_row W _ 0 _ _ _ h1];rfl,by rw[cell_of_row W _ 1 _ _ _ h1];rfl,by rw[cell_of_row W _ 2 _ _ _ h1];rfl⟩,by simp[World.frozen?,h1],by simp[World.frozen?,h1],by simp[World.frozen?,h1]⟩)
 have HFin:=Hh (fun(W:World) (a b c:Value) (f:Fr NoM w1 W)=>(((((f1.trans f (fun _ _ q=>q))).setCell ⟨w.heap.size+1,0,none⟩ a (fun h=>by have h:w.heap.size+1<w.heap.size:=h;omega)).setCell ⟨w.heap.size+1,1,none⟩ b (fun h=>by have h:w.heap.size+1<w.heap.size:=h;omega)).setCell ⟨w.heap.size+1,2,none⟩ c (fun h=>by have h:w.heap.size+1<w.heap.size:=h;omega):Fr NoM w (((W.setCell ⟨w.heap.size+1,0,none⟩ a).setCell ⟨w.heap.size+1,1,none⟩ b).setCell ⟨w.heap.size+1,2,none⟩ c)));have HS1:=Hh hs1;have HG:=Hh hg;have HN:=Hh (h.low.fr0 f1);have HOk:=Hh hok;have HSig:=Hh (zhb nv Fi w1 (h.fr0 f1) g hg);obtain⟨na,nc,rfl,z⟩:=id h;obtain⟨G,hG⟩:∃G,G=natF Fi:=⟨_,rfl⟩;rw[←hG];have HGn:=Hh hG;clear z h f1 hs1 e0 e1 hg hok hG;have k0:=HK.out w1 (Fr.refl _ _);go_enter Tryz.func44,Tryz.ntmps44;go_wp2_with fail;rw[←hw1];clear hw1;(with_reducible refine HSig.out.mono ?_);rintro e w2 ⟨rfl,f2⟩;have HF2:=Hh f2;clear f2 k0;cases g with
 | false =>
  have hno:ok=false:=HOk.out;subst hno;have k0:=HK.out w2 HF2.out;obtain⟨⟨r0,r1,r2⟩,r3,r4,r5⟩:=HRs.out w2 HF2.out;have HM:=Hh (HFin.out w2 (.slice none 0 0) (.slice none 0 0) (.slice none 0 0) HF2.out);go_wp2_with fail;refine bodyPost_ret (v:=.tuple #[.agg #[.slice none 0 0,.slice none 0 0,.slice none 0 0],.bool false]) (by simp[results,Tryz.results44,go_sem,r0,r1,r2,r3,r4,r5]) rfl ?_
  exact⟨_,_,_,_,_,_,_,_,_,rfl,(fun e=>by cases e),(fun q h=>by cases h),(fun q h=>by cases h),HM.out⟩
 | true =>
  obtain⟨F',rfl⟩:=zer (HG.out.1 rfl);have hgd:=HG.out.1 rfl;have hGF:=HGn.out;rw[zdr]at hGF;subst hGF;clear HGn;have k0:=HK.out w2 HF2.out;go_wp2_with fail;refine(zkg w2).mono ?_
  rintro e w3 ⟨rfl,hp3,hmaps,f3⟩;obtain⟨pb,hpb⟩:∃pb,pb=w2.heap.size+5:=⟨_,rfl⟩;obtain⟨ob,hob⟩:∃ob,ob=w2.heap.size+1:=⟨_,rfl⟩;obtain⟨sb,hsb⟩:∃sb,sb=w2.heap.size+2:=⟨_,rfl⟩;have hmap:=hmaps 2 (by omega);have hmapo:=hmaps 1 (by omega);rw[←hob]at hmapo hp3;rw[←hsb]at hmap hp3;rw[←hpb]at hp3 ⊢;obtain⟨ms,hms⟩:∃v,v=Value.map (some (w2.heap.size+3)):=⟨_,rfl⟩;obtain⟨mn,hmn⟩:∃v,v=Value.map (some (w2.heap.size+4)):=⟨_,rfl⟩;rw[←hms,←hmn]at hp3;clear hmaps hms hmn;obtain⟨n,hn⟩:∃n,n=G.length:=⟨_,rfl⟩;have hil:(i2 G).length=n:=by rw[zbc,hn]
  rw[hil]at k0 HK HN ⊢;have hn120:n≤120:=by have:=(zaz hgd).2.1;omega
  have mk1:=fun W=>ycr n W (by omega)
  have mk2:=zzr n (by omega);have F13:=Hh (HF2.out.trans f3 (fun _ _ q=>q));have HP3:=Hh hp3;have HMo:=Hh hmapo;have HMc:=Hh hmap;have Hb:=Hh (And.intro hpb (And.intro hob hsb));have Hn:=Hh hn;have HGd:=Hh hgd;have F3:=Hh f3;clear k0;have k0:=HK.out w3 F13.out;clear hp3 hmap hmapo hpb hob hsb hn hil hgd f3;go_upto_region 5 with fail;go_cut [6]from 24 to 30 (fun v Wx=>∃sx lb rb bb:Nat,v=.pointer (some ⟨sx,0,none⟩)/\Wx.heap[sx]?=some (.cells #[.slice (some ⟨lb,0,none⟩) n n,.slice (some ⟨rb,0,none⟩) n n,.slice (some ⟨bb,0,none⟩) n n] 76 (0,0))/\Wx.heap[lb]?=some (.cells (zca encI 0 (2*n)) 43 (0,0))/\Wx.heap[rb]?=some (.cells (zca encI 0 (2*n)) 43 (0,0))/\Wx.heap[bb]?=some (.cells (zca encB false n) 4 (0,0))/\(w3.heap.size≤sx/\w3.heap.size≤lb/\w3.heap.size≤rb/\w3.heap.size≤bb)/\(lb≠rb/\lb≠bb/\rb≠bb/\sx≠lb/\sx≠rb/\sx≠bb)/\Fr NoM w3 Wx)
  case first =>
   clear HRs HFin HG HN HK HOk HMo HMc Hb HP3 HGd;go_region;all_goals
    go_wp2_with fail;go_meet
    case rel =>
     obtain⟨h0,h1,h2,h3,hf⟩:=zr9 w3 _ _ _ _;apply Exists.intro
     apply Exists.intro
     apply Exists.intro
     apply Exists.intro
     refine⟨rfl,?_,?_,?_,?_,?_,?_,hf⟩
     ·first|exact h0|exact h1|exact h2|exact h3
     ·first|exact h0|exact h1|exact h2|exact h3
     ·first|exact h0|exact h1|exact h2|exact h3
     ·first|exact h0|exact h1|exact h2|exact h3
     ·omega
     ·omega
  case rest =>
   obtain⟨sx,lb,rb,bb,rfl,hsx,hlb,hrb,hbb,hlo,hne,fx⟩:=hcut;obtain⟨w5,rfl⟩:∃w5,w5=wc:=⟨_,rfl⟩;clear k0 mk1 mk2;obtain⟨g1,g2,g3,g4,g5,_⟩:=zaz HGd.out;have hF15:=F13.out.trans fx (fun _ _ q=>q);have HK5:=Hh (fun(W:World) (f:Fr NoM w5 W)=>HK.out W (hF15.trans f (fun _ _ q=>q)));have k0:=HK5.out w5 (Fr.refl _ _);have hp5:=HP3.out.low.fr0 fx;have hM3:∀q,((q=w2.heap.size∨q=pb)/\q<w3.heap.size)→w2.heap.size≤q/\q≠ob/\q≠sb/\q<w3.heap.size:=fun q hq=>by
    obtain⟨e1,e2,e3⟩:=Hb.out;rcases hq.1 with e|e <;> omega
   have hL:=zsk pb (.slice na n nc) [] G [] (.map (some ob)) (.map (some sb)) ms mn w5 hp5 (fun q hq=>by have:=(hM3 q hq).2.2.2;have:=fx.size;omega) (fun q hq=>hq.1.elim) PoolOK.nil (by have:=(HN.out.fr0 hF15).ofI;exact this) (fun k hk hm=>by have h1:=(hM3 k hm).1;have h2:=HF2.out.size;have h3:=HS1.out;have hk:k<w.heap.size:=hk;omega) g4.opts (by simp;omega) (fun y hy=>by have:=g3 y hy;omega);rw[g5]at hL;have HL:=Hh hL;have HM3:=Hh hM3;have HFx:=Hh fx;have HX:=Hh (And.intro hsx (And.intro hlb (And.intro hrb hbb)));have HLo:=Hh hlo;have HNe:=Hh hne;have HF15:=Hh hF15;have HPs:=Hh g1;have HOK4:=Hh g4;clear hL hM3 fx hsx hlb hrb hbb hlo hne hF15 g1 g2 g3 g4 g5 hp5;go_wp2_with fail;(with_reducible refine HL.out.mono ?_);rintro e w6 ⟨iv,M0,I0,rfl,hrow,hp6,hM6,hI6,f6⟩;obtain⟨hs1,hs2,hs3,hs4⟩:=HX.out;obtain⟨l1,l2,l3,l4⟩:=HLo.out;obtain⟨n1,n2,n3,n4,n5,n6⟩:=HNe.out;obtain⟨b1,b2,b3⟩:=Hb.out;have z3:=F3.out.size;have z5:=HFx.out.size;have z6:=f6.size;have hl5:sx<w5.heap.size/\lb<w5.heap.size/\rb<w5.heap.size/\bb<w5.heap.size:=⟨(Array.getElem?_eq_some_iff.1 hs1).1,(Array.getElem?_eq_some_iff.1 hs2).1,(Array.getElem?_eq_some_iff.1 hs3).1,(Array.getElem?_eq_some_iff.1 hs4).1⟩;have ob3:ob<w3.heap.size:=(Array.getElem?_eq_some_iff.1 HMo.out).1;have sb3:sb<w3.heap.size:=(Array.getElem?_eq_some_iff.1 HMc.out).1;have nM:∀q,q<w5.heap.size→(w3.heap.size≤q∨q<w2.heap.size∨q=ob∨q=sb)→¬M0 q:=fun q hq h e=>by
    rcases (hM6 q e).1 with e1|e1
    ·have h1:=HM3.out q e1;omega
    ·omega
   have nI:∀q,q<w5.heap.size→¬I0 q:=fun q hq e=>by
    rcases (hI6 q e).1 with e1|e1
    ·exact e1.1
    ·omega
   have nM3:∀q,w3.heap.size≤q→¬((q=w2.heap.size∨q=pb)/\q<w3.heap.size):=fun q hq e=>by omega
   have hBs:Beside M0 I0 w6 ob sb lb rb bb:=⟨⟨by omega,by omega,by omega⟩,⟨nM _ (by omega) (.inl l2),nM _ (by omega) (.inl l3),nM _ (by omega) (.inl l4)⟩,⟨nI _ (by omega),nI _ (by omega),nI _ (by omega)⟩,⟨by omega,by omega,by omega⟩,⟨by omega,by omega,by omega⟩,⟨n1,n2,n3⟩⟩;have hU:(canU (za0 G)).length<20000:=by unfold canU;rw[List.length_append,List.length_map,za6];have:=Hn.out;omega
   have nob:¬((ob=w2.heap.size∨ob=pb)/\ob<w3.heap.size):=fun e=>by omega
   have nsb:¬((sb=w2.heap.size∨sb=pb)/\sb<w3.heap.size):=fun e=>by omega
   have hst:CSt (canU (za0 G)) pb ob sb ms mn w6 G (zb2 G) M0 I0 (fun _=>none) (fun _=>none) :=
    ⟨hp6,HOK4.out,fun x hx=>List.mem_append_left _ (zbs (by rw[za6];exact hx)),MapF.fr (MapF.fr ⟨#[],0,HMo.out,by simp,by simp,by simp⟩ HFx.out (fun q=>q)) f6 nob,OrdF.none _,MapF.fr (MapF.fr ⟨#[],0,HMc.out,by simp,by simp,by simp⟩ HFx.out (fun q=>q)) f6 nsb,CanMO.none G,
     fun q hq=>⟨(hM6 q hq).2.1,fun e=>nM q (by omega) (.inr (.inr (.inl e))) hq,fun e=>nM q (by omega) (.inr (.inr (.inr e))) hq⟩,fun q hq=>⟨(hI6 q hq).2.1,fun e=>nI q (by omega) hq,fun e=>nI q (by omega) hq⟩,by omega⟩
   have hss:SSt (canU (za0 G)) pb ob sb ms mn lb rb bb n w6 G M0 I0 w6 0 none none G (zb2 G) M0 I0 (fun _=>none) (fun _=>none) :=
    ⟨hst,List.prefix_refl _,fun q hq=>.inl hq,fun q hq=>.inl hq,Fr.refl _ _,(RowE.of0 hs2).fr f6 (nM3 lb l2),(RowE.of0 hs3).fr f6 (nM3 rb l3),(RowN.of0 hs4).fr f6 (nM3 bb l4)⟩
   have hX:∀q,q<w6.heap.size→¬M0 q→q≠ob→q≠sb→q≠lb→q≠rb→q≠bb→¬(M0 q∨q=ob∨q=sb∨q=lb∨q=rb∨q=bb):=fun q _ h1 h2 h3 h4 h5 h6 e=>by
    rcases e with e|e|e|e|e|e
    ·exact h1 e
    ·exact h2 e
    ·exact h3 e
    ·exact h4 e
    ·exact h5 e
    ·exact h6 e
   have hw2:w.heap.size+2≤w2.heap.size:=by have h1:=HF2.out.size;have h2:=HS1.out;omega
   have HSx:=Hh (fun(W:World) (f:Fr (fun q=>M0 q∨q=ob∨q=sb∨q=lb∨q=rb∨q=bb) w6 W)=>show(W.cell? ⟨sx,0,none⟩=some (.slice (some ⟨lb,0,none⟩) n n)/\W.cell? ⟨sx,1,none⟩=some (.slice (some ⟨rb,0,none⟩) n n)/\W.cell? ⟨sx,2,none⟩=some (.slice (some ⟨bb,0,none⟩) n n))/\W.cell? ⟨w.heap.size,0,none⟩=some (.slice na n nc)from by
    have h1:=f.heap (f6.heap hs1 (nM3 sx l1)) (hX sx (by omega) (nM sx (by omega) (.inl l1)) (by omega) (by omega) n4 n5 n6);have h2:=f.cell (f6.cell (HK5.out w5 (Fr.refl _ _)) (fun e=>by have h:=(HM3.out _ e).1;have h:w2.heap.size≤w.heap.size:=h;omega)) (hX w.heap.size (by omega) (nM _ (by omega) (.inr (.inl (by omega)))) (by omega) (by omega) (by omega) (by omega) (by omega));exact⟨⟨by rw[cell_of_row W _ 0 _ _ _ h1];rfl,by rw[cell_of_row W _ 1 _ _ _ h1];rfl,by rw[cell_of_row W _ 2 _ _ _ h1];rfl⟩,h2⟩)
   have hNF:=(HN.out.fr0 HF15.out).ofI;obtain⟨na',nc',ena,_,_,hcell⟩:=id hNF;have HNd:=Hh (fun(k:Nat) (hk:k<n)=>show ∃b off lv rv,na=some ⟨b,off,none⟩/\∀W,Fr (fun q=>M0 q∨q=ob∨q=sb∨q=lb∨q=rb∨q=bb) w6 W→W.cell? ⟨b,off+k*2,none⟩=some lv/\W.cell? ⟨b,off+k*2+1,none⟩=some rv/\Nats W lv (za2 G k).1/\Nats W rv (za2 G k).2 from by
    obtain⟨b,off,lv,rv,ha,hb0,c1,c2,s1,s2,q1,q2⟩:=hcell k _ (za4 (by have:=Hn.out;omega));obtain⟨eb,_⟩:=Value.slice.inj ena;have low:∀q,q<w.heap.size→¬(M0 q∨q=ob∨q=sb∨q=lb∨q=rb∨q=bb):=fun q hq=>hX q (by omega) (nM _ (by omega) (.inr (.inl (by omega)))) (by omega) (by omega) (by omega) (by omega) (by omega)
    have low6:∀q,q<w.heap.size→¬((q=w2.heap.size∨q=pb)/\q<w3.heap.size):=fun q hq e=>by have:=(HM3.out q e).1;omega
    refine⟨b,off,lv,rv,eb.trans ha,fun W f=>?_⟩;exact⟨f.cell (f6.cell c1 (low6 b hb0)) (low b hb0),f.cell (f6.cell c2 (low6 b hb0)) (low b hb0),(s1.fr f6 (fun hne q hq=>low6 q (q1 hne q hq))).fr f (fun hne q hq=>low q (q1 hne q hq)),(s2.fr f6 (fun hne q hq=>low6 q (q2 hne q hq))).fr f (fun hne q hq=>low q (q2 hne q hq))⟩)
   obtain⟨ib,ic,hiv⟩:=hrow.shape;replace hiv:iv=.slice (some ⟨ib,0,none⟩) n ic:=by rw[hiv,List.length_range,Hn.out]
   have hib:¬M0 ib:=fun e=>(hM6 ib e).2.2 (by rw[hiv];rfl)
   have hib5:=hrow.own.lt ib (by rw[hiv];rfl);have HId:=Hh (fun(k:Nat) (hk:k<n) (W:World) (f:Fr (fun q=>M0 q∨q=ob∨q=sb∨q=lb∨q=rb∨q=bb) w6 W)=>show W.cell? ⟨ib,k,none⟩=some (.int .i64 (k:Int))from by
    obtain⟨a,c,e,_,_,hc⟩:=hrow.nats;obtain⟨b,o,ha,d⟩:=hc k k (by show(List.range G.length)[k]?=some k;rw[List.getElem?_range (by have:=Hn.out;omega)]);rw[hiv]at e;obtain⟨e1,_,_⟩:=Value.slice.inj e;rw[←e1]at ha;cases ha
    rw[Nat.zero_add]at d;exact f.cell d (hX ib hib5.2 hib (by omega) (by omega) (by omega) (by omega) (by omega)))
   have HFw:=Hh (fun(W:World) (f:Fr (fun q=>M0 q∨q=ob∨q=sb∨q=lb∨q=rb∨q=bb) w6 W)=>show Fr NoM w1 W from(HF15.out.trans f6 (fun q hq e=>by have h1:=(HM3.out q e).1;have h2:=HF2.out.size;omega)).trans f (fun q hq e=>by
    have h2:=HF2.out.size;rcases e with e|e|e|e|e|e
    ·rcases (hM6 q e).1 with e|e
     ·have h1:=(HM3.out q e).1;omega
     ·omega
    ·omega
    ·omega
    ·omega
    ·omega
    ·omega))
   have HLo2:=Hh (show w.heap.size+1<lb/\w.heap.size+1<rb/\w.heap.size+1<bb from by omega);have HBs:=Hh hBs;have HSS:=Hh hss;have HU:=Hh hU;have hn9:n≤9223372036854775807:=by omega
   subst hiv;clear hs1 hs2 hs3 hs4 l1 l2 l3 l4 n1 n2 n3 n4 n5 n6 b1 b2 b3 z3 z5 z6 hl5 ob3 sb3 nM nI nM3 hBs hU nob nsb hst hss hX hw2 hNF ena hcell hib hib5 hrow hp6 hM6 hI6 f6 k0;clear HX HLo HNe HMo HMc HK5 HL HP3 HM3 HFx HN HK F3 F13 HF15;go_wp2_with fail;go_loopw [35] (fun v35 W=>∃(k:Nat) (V:List PL) (BV:List Nat) (M I:Nat→Prop) (fo:Nat × Nat→Option Bool) (fc:Nat→Option Nat),v35=.int .i64 (k:Int)/\k≤n/\okTo G k/\SSt (canU (za0 G)) pb ob sb ms mn lb rb bb n w6 G M0 I0 W k none none V BV M I fo fc) (fun v35 _=>n-(intOf v35).toNat)
   case atStart=>exact⟨0,_,_,_,_,_,_,rfl,Nat.zero_le _,(fun k hk=>absurd hk (Nat.not_lt_zero _)),HSS.out⟩
   case round =>
    obtain⟨k,V,BV,M,I,fo,fc,rfl,hk,hok,hs⟩:=hrel;obtain⟨w7,rfl⟩:∃w7,w7=wr:=⟨_,rfl⟩;obtain⟨⟨q1,q2,q3⟩,q4⟩:=HSx.out w7 hs.fr;by_cases hlt:k<n
    ·have hkG:k<G.length:=by have:=Hn.out;omega
     have hkV:k<V.length:=by have:=hs.pre.length_le;omega
     have c1:=HId.out k hlt w7 hs.fr;have ixi:=zf9 ib n ic k hlt;have aL:(k:Int)<(n:Int):=by omega
     have hcode:(za0 V).getD k 0=(za0 G).getD k 0:=zb1 hs.pre hkG;have hcan:=zy6 HU.out pb ob sb ms mn k V BV M I fo fc w7 hs.st hkV (fun a ha=>by
      rw[hcode]at ha;exact List.mem_append_right _ (List.mem_map.2 ⟨a,znz HOK4.out hkG ha,rfl⟩))
     rw[hcode]at hcan;have HCn:=Hh hcan;have HS7:=Hh hs;have HOkk:=Hh hok;have HKl:=Hh hlt;have HKG:=Hh hkG;clear hcan hcode hs hok hlt hkG hkV hk q1 q2 q3 q4;go_wp2_with fail;(with_reducible refine HCn.out.mono ?_);rintro e w8 ⟨i,V8,BV8,M8,I8,fo8,fc8,rfl,st8,nx8,hi8,hc8⟩;have hx8:(za0 V8).getD i 0=xAt G k:=hc8.eq;have h8:=HS7.out.call HBs.out st8 nx8;have hcc:CanC ((za0 V8).getD i 0):=hc8.1;have nob:¬M8 ob:=fun e=>(st8.mlt ob e).2.1 rfl
     have niob:¬I8 ob:=fun e=>(st8.ilt ob e).2.1 rfl
     have hisn:=zxg (BV:=BV8) st8.ok.book pb ob (.map (some sb)) ms mn nob niob _ i (Nat.lt_succ_self _) hi8 hcc fo8 w8 st8.pool st8.ord st8.ordOK;rw[hx8]at hisn;obtain⟨gN,hgN⟩:∃gN,gN=isNB (xAt G k):=⟨_,rfl⟩;rw[←hgN]at hisn;have HIs:=Hh hisn;have HGN:=Hh hgN;have H8:=Hh h8;have HI8:=Hh (And.intro hi8 (And.intro hx8 hcc));clear hisn hgN h8 hi8 hx8 hcc st8 nx8 hc8 nob niob c1;go_wp2_with fail;(with_reducible refine HIs.out.mono ?_);rintro e w9 ⟨rfl,fo9,m9,o9,f9⟩;have hor:=H8.out.st.ords f9 m9 o9;have h9:=H8.out.call HBs.out hor.1 hor.2;have H9:=Hh h9;clear m9 o9 f9 hor h9;have hokI:ok=true↔okTo G G.length:=by
      rw[HOk.out];exact zem
     have HOkI:=Hh hokI;clear hokI;cases gN with
     | true =>
      have nob:¬M8 ob:=fun e=>(H9.out.st.mlt ob e).2.1 rfl
      have niob:¬I8 ob:=fun e=>(H9.out.st.ilt ob e).2.1 rfl
      obtain⟨hi8,hx8,hcc⟩:=HI8.out;have hval:=zns (BV:=BV8) H9.out.st.ok.book pb ob (.map (some sb)) ms mn nob niob _ i (Nat.lt_succ_self _) hi8 hcc fo9 w9 H9.out.st.pool H9.out.st.ord H9.out.st.ordOK;rw[hx8]at hval;obtain⟨T1,hT1⟩:∃T1,T1=(valD (xAt G k)).1:=⟨_,rfl⟩;obtain⟨P1,hP1⟩:∃P1,P1=((valD (xAt G k)).2:Int):=⟨_,rfl⟩;obtain⟨g1,hg1⟩:∃g1,g1=valB (xAt G k):=⟨_,rfl⟩;rw[←hT1,←hP1,←hg1]at hval;have HVl:=Hh hval;have HVs:=Hh (And.intro hT1 (And.intro hP1 hg1));clear hval hT1 hP1 hg1 nob niob hi8 hx8 hcc;go_wp2_with fail;(with_reducible refine HVl.out.mono ?_);rintro e w10 ⟨rfl,fo10,m10,o10,f10⟩;have hor:=H9.out.st.ords f10 m10 o10;have h10:=H9.out.call HBs.out hor.1 hor.2;obtain⟨W11,hW11⟩:∃W11,W11=w10.alloc (.cells #[.int .i64 T1,.int .i64 P1] 43):=⟨_,rfl⟩;obtain⟨db,hdb⟩:∃db,db=w10.heap.size:=⟨_,rfl⟩;have f11:Fr NoM w10 W11:=by rw[hW11];exact(Fr.refl NoM w10).alloc _
      have e11:W11.heap[db]?=some (.cells #[.int .i64 T1,.int .i64 P1] 43 (0,0)):=by rw[hW11,hdb];exact heap_alloc_new w10 _
      have H11:=Hh (h10.fr0 f11);have d0:W11.cell? ⟨db,0,none⟩=some (.int .i64 T1):=by rw[cell_of_row W11 _ 0 _ _ _ e11];rfl
      have HDb:=Hh (show w6.heap.size≤db from by rw[hdb];have:=h10.fr.size;omega);have d1:W11.cell? ⟨db,1,none⟩=some (.int .i64 P1):=by rw[cell_of_row W11 _ 1 _ _ _ e11];rfl
      have HD0:=Hh (And.intro d0 d1);clear m10 o10 f10 hor h10 f11 e11;go_upto_region 12 with fail;rw[←hW11,←hdb];clear hW11 hdb;cases g1 with
      | false =>
       have hno:ok=false:=by
        cases hc:ok with
        | false=>rfl
        | true =>
         have h1:=HOkI.out.1 hc k HKG.out HGN.out.symm;rw[←HVs.out.2.2]at h1;cases h1
       subst hno;have hfw:=HFw.out W11 H11.out.fr;obtain⟨⟨r0,r1,r2⟩,r3,r4,r5⟩:=HRs.out W11 hfw;have HM:=Hh (HFin.out W11 (.slice none 0 0) (.slice none 0 0) (.slice none 0 0) hfw);clear hfw;go_wp2_with fail;refine bodyPost_ret (v:=.tuple #[.agg #[.slice none 0 0,.slice none 0 0,.slice none 0 0],.bool false]) (by simp[results,Tryz.results44,go_sem,r0,r1,r2,r3,r4,r5]) rfl ?_
       exact⟨_,_,_,_,_,_,_,_,_,rfl,(fun e=>by cases e),(fun q h=>by cases h),(fun q h=>by cases h),HM.out⟩
      | true =>
       have hkl:=HKl.out;have hsl:sL G k=(T1,(valD (xAt G k)).2)/\sR G k=(T1,(valD (xAt G k)).2):=by
        obtain⟨a,b⟩:=zva (F:=G) (k:=k) HGN.out.symm;rw[HVs.out.1];exact⟨a,b⟩
       have hp1:P1=((valD (xAt G k)).2:Int):=HVs.out.2.1;obtain⟨⟨q1,q2,q3⟩,q4⟩:=HSx.out W11 H11.out.fr;have ixl:=zuc lb n n k hkl;have ixr:=zuc rb n n k hkl;have ixb:=zhy bb n n k hkl;have h12:=H11.out.fr0 ((Fr.refl NoM W11).drew);have hA:=h12.setL HBs.out hkl (T1,(valD (xAt G k)).2);have hB:=hA.setR HBs.out hkl (T1,(valD (xAt G k)).2);have h14:=SSt.num (by rw[hsl.1,hsl.2];exact hB) HBs.out hkl HGN.out.symm;dsimp only at hA hB h14
       rw[←hp1]at hA hB h14;have H14:=Hh h14;have HOn:=Hh (show okTo G (k+1)from HOkk.out.next (fun _=>HVs.out.2.2.symm));have zl:=h12.l.frozen (k*2);have zl1:=h12.l.frozen (k*2+1);have zr:=hA.r.frozen (k*2);have zr1:=hA.r.frozen (k*2+1);have zb:=hB.b.frozen k;obtain⟨_,p1⟩:=h12.l.has (i:=k*2) (by omega);obtain⟨_,p2⟩:=h12.l.has (i:=k*2+1) (by omega);obtain⟨_,p3⟩:=hA.r.has (i:=k*2) (by omega);obtain⟨_,p4⟩:=hA.r.has (i:=k*2+1) (by omega);obtain⟨_,p5⟩:=hB.b.has (i:=k) hkl;have hA':=H11.out.setL HBs.out hkl (T1,(valD (xAt G k)).2);have hB':=hA'.setR HBs.out hkl (T1,(valD (xAt G k)).2);dsimp only at hA' hB'
       rw[←hp1]at hA' hB';have yl:=H11.out.l.frozen (k*2);have yl1:=H11.out.l.frozen (k*2+1);have yr:=hA'.r.frozen (k*2);have yr1:=hA'.r.frozen (k*2+1);have yb:=hB'.b.frozen k;obtain⟨_,t1⟩:=H11.out.l.has (i:=k*2) (by omega);obtain⟨_,t2⟩:=H11.out.l.has (i:=k*2+1) (by omega);obtain⟨_,t3⟩:=hA'.r.has (i:=k*2) (by omega);obtain⟨_,t4⟩:=hA'.r.has (i:=k*2+1) (by omega);obtain⟨_,t5⟩:=hB'.b.has (i:=k) hkl;have aL:(k:Int)<(n:Int):=by omega
       have K0:Fr (fun q=>q=lb∨q=rb∨q=bb) W11 W11.drew:=(Fr.refl _ W11).drew;have KA:Fr (fun q=>q=lb∨q=rb∨q=bb) W11 ((W11.drew.setCell ⟨lb,k*2,none⟩ (.int .i64 T1)).setCell ⟨lb,k*2+1,none⟩ (.int .i64 P1)):=(K0.setCell ⟨lb,k*2,none⟩ _ (fun _=>.inl rfl)).setCell ⟨lb,k*2+1,none⟩ _ (fun _=>.inl rfl);have KB:Fr (fun q=>q=lb∨q=rb∨q=bb) W11 ((((W11.drew.setCell ⟨lb,k*2,none⟩ (.int .i64 T1)).setCell ⟨lb,k*2+1,none⟩ (.int .i64 P1)).setCell ⟨rb,k*2,none⟩ (.int .i64 T1)).setCell ⟨rb,k*2+1,none⟩ (.int .i64 P1)):=(KA.setCell ⟨rb,k*2,none⟩ _ (fun _=>.inr (.inl rfl))).setCell ⟨rb,k*2+1,none⟩ _ (fun _=>.inr (.inl rfl));have KC:Fr (fun q=>q=lb∨q=rb∨q=bb) W11 (((((W11.drew.setCell ⟨lb,k*2,none⟩ (.int .i64 T1)).setCell ⟨lb,k*2+1,none⟩ (.int .i64 P1)).setCell ⟨rb,k*2,none⟩ (.int .i64 T1)).setCell ⟨rb,k*2+1,none⟩ (.int .i64 P1)).setCell ⟨bb,k,none⟩ (.bool true)):=KB.setCell ⟨bb,k,none⟩ _ (fun _=>.inr (.inr rfl));have HS:=Hh (fun(W:World) (f:Fr (fun q=>q=lb∨q=rb∨q=bb) W11 W)=>show W.cell? ⟨sx,0,none⟩=some (.slice (some ⟨lb,0,none⟩) n n)/\W.cell? ⟨sx,1,none⟩=some (.slice (some ⟨rb,0,none⟩) n n)/\W.cell? ⟨sx,2,none⟩=some (.slice (some ⟨bb,0,none⟩) n n)/\W.cell? ⟨db,0,none⟩=some (.int .i64 T1)/\W.cell? ⟨db,1,none⟩=some (.int .i64 P1)from by
        obtain⟨⟨a1,a2,a3⟩,_⟩:=HSx.out W (H11.out.fr.trans f (fun q _ e=>.inr (.inr (.inr e))));have nx:¬(db=lb∨db=rb∨db=bb):=fun e=>by obtain⟨o1,o2,o3⟩:=HBs.out.old;have:=HDb.out;omega
        exact⟨a1,a2,a3,f.cell HD0.out.1 nx,f.cell HD0.out.2 nx⟩)
       clear h14 hsl hp1 hA hB h12 hkl d0 d1 hA' hB';go_upto_region 14 with fail;go_region_held3 (fun(W:World)=>W.cell? ⟨sx,0,none⟩=some (.slice (some ⟨lb,0,none⟩) n n)/\W.cell? ⟨sx,1,none⟩=some (.slice (some ⟨rb,0,none⟩) n n)/\W.cell? ⟨sx,2,none⟩=some (.slice (some ⟨bb,0,none⟩) n n)/\W.cell? ⟨db,0,none⟩=some (.int .i64 T1)/\W.cell? ⟨db,1,none⟩=some (.int .i64 P1))
        (first|exact HS.out _ (by assumption))
        (first|fail)
       all_goals
        clear q1 q2 q3 q4;go_wp2;go_roundw
        case rel =>
         have hkl:=HKl.out;exact⟨k+1,V8,BV8,M8,I8,fo10,fc8,by go_num,by omega,HOn.out,H14.out⟩
        case measure=>have hkl:=HKl.out;simp[intOf];omega
     | false =>
      have HNo:=Hh (show isNB (xAt G k)=false from HGN.out.symm);have hopt:=HOK4.out.opts k _ (za4 HKG.out);have HOpt:=Hh (show(∀i∈(za2 G k).1,i<k)/\∀i∈(za2 G k).2,i<k from hopt);have HNe:=Hh (zps HOK4.out.book rfl HKG.out HNo.out);have HGs:=Hh (zmm HOK4.out.book.opts (Nat.le_of_lt HKG.out) HOkk.out);have HSn:=Hh (s_no HNo.out hopt);have HOn:=Hh (show okTo G (k+1)from HOkk.out.next (fun e=>by have:=HNo.out;rw[this]at e;cases e));clear hopt;have HSZ:=H9;obtain⟨nb,no,lw,rw',ha,hcc⟩:=HNd.out k HKl.out;obtain⟨c1,c2,m1,m2⟩:=hcc w9 HSZ.out.fr;have ixn:=zb7 na n nc k nb no HKl.out ha;obtain⟨⟨q1,q2,q3⟩,q4⟩:=HSx.out w9 HSZ.out.fr;obtain⟨Lz,hLz⟩:∃Lz,Lz=(za2 G k).1:=⟨_,rfl⟩;have HLo:=Hh (show ∀i∈Lz,i<k from by rw[hLz];exact HOpt.out.1);have HLn:=Hh (show Lz≠[]from by rw[hLz];exact HNe.out.1);have HLe:=Hh hLz;have hcM:=fun(W:World) (f:Fr (fun q=>M0 q∨q=ob∨q=sb∨q=lb∨q=rb∨q=bb) w6 W)=>(hcc W f).2.2.1
      rw[←hLz]at m1 hcM;obtain⟨la,lc,rfl,hl9,hl8,hlc⟩:=id m1;have hl9:Lz.length≤9223372036854775807:=by omega
      have HLt:=Hh (fun(j:Nat) (hj:j<Lz.length)=>show ∃x b o,Lz[j]?=some x/\(∀W,(Instr.indexAt 26 (.slice la Lz.length lc) (.int .i64 (j:Int))).run Tryz.prog W=.ok (.pointer (some ⟨b,o,none⟩)) W)/\∀W,Fr (fun q=>M0 q∨q=ob∨q=sb∨q=lb∨q=rb∨q=bb) w6 W→W.cell? ⟨b,o,none⟩=some (.int .i64 (x:Int))from by
       have hx:=List.getElem?_eq_getElem hj
       obtain⟨b5,o5,ha5,_⟩:=hlc j _ hx;refine⟨_,b5,o5+j,hx,fun W=>za7 la Lz.length lc j b5 o5 hj ha5 W,fun W f=>?_⟩;obtain⟨a6,c6,ee,_,_,hc6⟩:=hcM W f;obtain⟨e7,_,_⟩:=Value.slice.inj ee;obtain⟨b8,o8,ha8,d8⟩:=hc6 j _ hx;rw[←e7,ha5]at ha8;cases ha8
       exact d8)
      have aN:(k:Int)<(n:Int):=by have:=HKl.out;omega
      clear hLz hcc m1 m2 hl8 hlc ha hcM;go_wp2_with fail;go_loopw [76] (fun t W=>∃(j:Nat),t=.int .i64 (j:Int)/\j≤Lz.length/\SSt (canU (za0 G)) pb ob sb ms mn lb rb bb n w6 G M0 I0 W k (zcs true (sR G) Lz (j)) none V8 BV8 M8 I8 fo9 fc8) (fun t _=>Lz.length-(intOf t).toNat)
      case atStart=>exact⟨0,rfl,Nat.zero_le _,HSZ.out⟩
      case round =>
       obtain⟨j,rfl,hj,hs⟩:=hrel;obtain⟨wy,rfl⟩:∃wy,wy=wr:=⟨_,rfl⟩;obtain⟨⟨q1,q2,q3⟩,q4⟩:=HSx.out wy hs.fr;by_cases hjl:j<Lz.length
       ·obtain⟨x,b5,o5,hx,ix5,hc5⟩:=HLt.out j hjl
        have hxk:x<k:=HLo.out x (List.mem_of_getElem? hx);have d5:=hc5 wy hs.fr;have aL:(j:Int)<(Lz.length:Int):=by omega
        have hkl:k<n:=HKl.out;have ixk:=zuc lb n n k hkl;have ixx:=zuc rb n n x (by omega);obtain⟨y1,y2⟩:=hs.r.cell (j:=x) hxk;obtain⟨y,hy⟩:∃y,y=sR G x:=⟨_,rfl⟩;rw[←hy]at y1 y2;obtain⟨W9,hW9⟩:∃W9,W9=wy.drew:=⟨_,rfl⟩;have HHs:=Hh hs;have HY:=Hh hy;have HJl:=Hh hjl;have HHx:=Hh hx;have gy:GoodD y.1 y.2:=by rw[hy];exact(HGs.out x hxk).2
        by_cases hj0:j=0
        ·subst hj0
         have aL:(0:Int)<(Lz.length:Int):=by omega
         rw[show((0:Nat):Int)=0 from rfl]at ix5;have H9y:=Hh (show SSt (canU (za0 G)) pb ob sb ms mn lb rb bb n w6 G M0 I0 W9 k (zcs true (sR G) Lz (0)) none V8 BV8 M8 I8 fo9 fc8 from by rw[hW9];exact hs.fr0 ((Fr.refl NoM wy).drew));clear hs hy hxk hx hc5 hj hjl hkl;go_upto_region 18 with fail;go_quiet (fail);obtain⟨W8,hW8⟩:∃W8,W8=wy.drewN nq:=⟨_,rfl⟩;rw[←hW8];have H8y:=Hh (show SSt (canU (za0 G)) pb ob sb ms mn lb rb bb n w6 G M0 I0 W8 k (zcs true (sR G) Lz (0)) none V8 BV8 M8 I8 fo9 fc8 from by rw[hW8];exact HHs.out.fr0 (zae wy nq));clear hW9 hW8 q1 q2 q3 q4 y1 y2 d5 H9y;obtain⟨y1,y2⟩:=H8y.out.r.cell (j:=x) (HLo.out x (List.mem_of_getElem? HHx.out));rw[←HY.out]at y1 y2;obtain⟨⟨q1,q2,q3⟩,q4⟩:=HSx.out W8 H8y.out.fr;go_upto_region 19 with fail;go_still_tail 9,(by kernel_rfl);change wpList _ _ _ _ _ W8.drew
         obtain⟨W7',hW7⟩:∃W7',W7'=W8.drew:=⟨_,rfl⟩;rw[←hW7];have H7y:=Hh (show SSt (canU (za0 G)) pb ob sb ms mn lb rb bb n w6 G M0 I0 W7' k (zcs true (sR G) Lz (0)) none V8 BV8 M8 I8 fo9 fc8 from by rw[hW7];exact H8y.out.fr0 ((Fr.refl NoM W8).drew));have zl:=H7y.out.l.frozen (k*2);have zl1:=H7y.out.l.frozen (k*2+1);obtain⟨_,p1⟩:=H7y.out.l.has (i:=k*2) (by have h:k<n:=HKl.out;omega);obtain⟨_,p2⟩:=H7y.out.l.has (i:=k*2+1) (by have h:k<n:=HKl.out;omega);have HSet:=Hh (show SSt (canU (za0 G)) pb ob sb ms mn lb rb bb n w6 G M0 I0 ((W7'.setCell ⟨lb,k*2,none⟩ (.int .i64 y.1)).setCell ⟨lb,k*2+1,none⟩ (.int .i64 (y.2:Int))) k (zcs true (sR G) Lz (1)) none V8 BV8 M8 I8 fo9 fc8 from by
          rw[zoc HHx.out,←HY.out];exact H7y.out.setL HBs.out HKl.out y)
         clear hW7 q1 q2 q3 q4 y1 y2;go_wp2;go_roundw
         case rel =>
          have hjl:=HJl.out;exact⟨1,by go_num,by omega,HSet.out⟩
         case measure=>have hjl:=HJl.out;simp[intOf];omega
        ·obtain⟨s,hsd⟩:∃s,s=zdh true ((Lz.take j).map (sR G)):=⟨_,rfl⟩
         have hob:zcs true (sR G) Lz j=some s:=by unfold zcs;rw[if_neg hj0,hsd]
         have hs':=hs;rw[hob]at hs';obtain⟨s1,s2⟩:=hs'.l.cur;have gs:GoodD s.1 s.2:=by
          rw[hsd];refine zmq (fun e=>?_) (fun i hi=>(HGs.out i (HLo.out i (List.mem_of_mem_take hi))).2);have:=congrArg List.length e;rw[List.length_take,List.length_nil]at this
          omega
         have hnx:=zmd (gr:=true) (f:=sR G) hx hj0;rw[←hsd,←hy]at hnx;obtain⟨res,hres⟩:∃res,res=zf5 true s y:=⟨_,rfl⟩;unfold zfq at hnx;rw[←hres]at hnx;have HN1:=Hh (show res≠false→zcs true (sR G) Lz (j+1)=some y from fun e=>by rw[hnx,if_pos (by cases res;exact absurd rfl e;rfl)]);have HN0:=Hh (show res≠true→zcs true (sR G) Lz (j+1)=some s from fun e=>by rw[hnx,if_neg e]);unfold zf5 at hres;rw[if_pos rfl]at hres;have HLs:=Hh (fun(W:World)=>zge s.1 y.1 s.2 y.2 W gs gy res hres);have H9y:=Hh (show SSt (canU (za0 G)) pb ob sb ms mn lb rb bb n w6 G M0 I0 W9 k (some s) none V8 BV8 M8 I8 fo9 fc8 from by rw[hW9];exact hs'.fr0 ((Fr.refl NoM wy).drew));have hne:((j:Int) == 0)=false:=by rw[beq_eq_false_iff_ne];omega
         have hne':¬(j:Int)=0:=by omega
         clear hs hs' hy hxk hx hc5 hj hjl hkl hob hsd hnx hres gs gy;go_upto_region 18 with fail;go_still_tail 13,(by kernel_rfl);change wpList _ _ _ _ _ wy.drew
         rw[←hW9];clear hW9 q1 q2 q3 q4 y1 y2 s1 s2 d5;go_wp2_with fail;(with_reducible refine(HLs.out W9).mono ?_);rintro e W8 ⟨rfl,f8⟩;have H8y:=Hh (H9y.out.fr0 f8);clear f8;cases res with
         | false =>
          have hn0:=HN0.out (by simp);have HN:=Hh (show SSt (canU (za0 G)) pb ob sb ms mn lb rb bb n w6 G M0 I0 W8 k (zcs true (sR G) Lz (j+1)) none V8 BV8 M8 I8 fo9 fc8 from by rw[hn0];exact H8y.out);clear hn0 HN0 HN1;go_wp2;go_roundw
          case rel =>
           have hjl:=HJl.out;exact⟨j+1,by go_num,by omega,HN.out⟩
          case measure=>have hjl:=HJl.out;simp[intOf];omega
         | true =>
          have hn1:=HN1.out (by simp);have HN:=Hh hn1;clear hn1 HN0 HN1;obtain⟨y1,y2⟩:=H8y.out.r.cell (j:=x) (HLo.out x (List.mem_of_getElem? HHx.out));rw[←HY.out]at y1 y2;obtain⟨⟨q1,q2,q3⟩,q4⟩:=HSx.out W8 H8y.out.fr;go_upto_region 19 with fail;go_still_tail 9,(by kernel_rfl);change wpList _ _ _ _ _ W8.drew
          obtain⟨W7',hW7⟩:∃W7',W7'=W8.drew:=⟨_,rfl⟩;rw[←hW7];have H7y:=Hh (show SSt (canU (za0 G)) pb ob sb ms mn lb rb bb n w6 G M0 I0 W7' k (some s) none V8 BV8 M8 I8 fo9 fc8 from by rw[hW7];exact H8y.out.fr0 ((Fr.refl NoM W8).drew));have zl:=H7y.out.l.frozen (k*2);have zl1:=H7y.out.l.frozen (k*2+1);obtain⟨_,p1⟩:=H7y.out.l.has (i:=k*2) (by have h:k<n:=HKl.out;omega);obtain⟨_,p2⟩:=H7y.out.l.has (i:=k*2+1) (by have h:k<n:=HKl.out;omega);have HSet:=Hh (show SSt (canU (za0 G)) pb ob sb ms mn lb rb bb n w6 G M0 I0 ((W7'.setCell ⟨lb,k*2,none⟩ (.int .i64 y.1)).setCell ⟨lb,k*2+1,none⟩ (.int .i64 (y.2:Int))) k (zcs true (sR G) Lz (j+1)) none V8 BV8 M8 I8 fo9 fc8 from by
           rw[HN.out];exact H7y.out.setL HBs.out HKl.out y)
          clear hW7 q1 q2 q3 q4 y1 y2;go_wp2;go_roundw
          case rel =>
           have hjl:=HJl.out;exact⟨j+1,by go_num,by omega,HSet.out⟩
          case measure=>have hjl:=HJl.out;simp[intOf];omega
       ·have hjn:j=Lz.length:=by omega
        subst hjn;rw[zod HLn.out,HLe.out,←HSn.out.1]at hs;have HEnd:=Hh hs;have aL:¬(Lz.length:Int)<(Lz.length:Int):=by omega
        clear hs hj hjl;clear HLt HLo HLn HLe hl9;clear q1 q2 q3 q4 c1 c2 ixn aN;have HSZ:=HEnd;clear HEnd;obtain⟨nb,no,lw,rw',ha,hcc⟩:=HNd.out k HKl.out;obtain⟨c1,c2,m1,m2⟩:=hcc wy HSZ.out.fr;have ixn:=zb7 na n nc k nb no HKl.out ha;obtain⟨⟨q1,q2,q3⟩,q4⟩:=HSx.out wy HSZ.out.fr;obtain⟨Lz,hLz⟩:∃Lz,Lz=(za2 G k).2:=⟨_,rfl⟩;have HLo:=Hh (show ∀i∈Lz,i<k from by rw[hLz];exact HOpt.out.2);have HLn:=Hh (show Lz≠[]from by rw[hLz];exact HNe.out.2);have HLe:=Hh hLz;have hcM:=fun(W:World) (f:Fr (fun q=>M0 q∨q=ob∨q=sb∨q=lb∨q=rb∨q=bb) w6 W)=>(hcc W f).2.2.2
        rw[←hLz]at m2 hcM;obtain⟨la,lc,rfl,hl9,hl8,hlc⟩:=id m2;have hl9:Lz.length≤9223372036854775807:=by omega
        have HLt:=Hh (fun(j:Nat) (hj:j<Lz.length)=>show ∃x b o,Lz[j]?=some x/\(∀W,(Instr.indexAt 26 (.slice la Lz.length lc) (.int .i64 (j:Int))).run Tryz.prog W=.ok (.pointer (some ⟨b,o,none⟩)) W)/\∀W,Fr (fun q=>M0 q∨q=ob∨q=sb∨q=lb∨q=rb∨q=bb) w6 W→W.cell? ⟨b,o,none⟩=some (.int .i64 (x:Int))from by
         have hx:=List.getElem?_eq_getElem hj
         obtain⟨b5,o5,ha5,_⟩:=hlc j _ hx;refine⟨_,b5,o5+j,hx,fun W=>za7 la Lz.length lc j b5 o5 hj ha5 W,fun W f=>?_⟩;obtain⟨a6,c6,ee,_,_,hc6⟩:=hcM W f;obtain⟨e7,_,_⟩:=Value.slice.inj ee;obtain⟨b8,o8,ha8,d8⟩:=hc6 j _ hx;rw[←e7,ha5]at ha8;cases ha8
         exact d8)
        have aN:(k:Int)<(n:Int):=by have:=HKl.out;omega
        clear hLz hcc m1 m2 hl8 hlc ha hcM;go_wp2_with fail;go_loopw [113] (fun t W=>∃(j:Nat),t=.int .i64 (j:Int)/\j≤Lz.length/\SSt (canU (za0 G)) pb ob sb ms mn lb rb bb n w6 G M0 I0 W k (some (sL G k)) (zcs false (sL G) Lz (j)) V8 BV8 M8 I8 fo9 fc8) (fun t _=>Lz.length-(intOf t).toNat)
        case atStart=>exact⟨0,rfl,Nat.zero_le _,HSZ.out⟩
        case round =>
         obtain⟨j,rfl,hj,hs⟩:=hrel;obtain⟨wy2,rfl⟩:∃wy,wy=wr:=⟨_,rfl⟩;obtain⟨⟨q1,q2,q3⟩,q4⟩:=HSx.out wy2 hs.fr;by_cases hjl:j<Lz.length
         ·obtain⟨x,b5,o5,hx,ix5,hc5⟩:=HLt.out j hjl
          have hxk:x<k:=HLo.out x (List.mem_of_getElem? hx);have d5:=hc5 wy2 hs.fr;have aL:(j:Int)<(Lz.length:Int):=by omega
          have hkl:k<n:=HKl.out;have ixk:=zuc rb n n k hkl;have ixx:=zuc lb n n x (by omega);obtain⟨y1,y2⟩:=hs.l.cell (j:=x) hxk;obtain⟨y,hy⟩:∃y,y=sL G x:=⟨_,rfl⟩;rw[←hy]at y1 y2;obtain⟨W9,hW9⟩:∃W9,W9=wy2.drew:=⟨_,rfl⟩;have HHs:=Hh hs;have HY:=Hh hy;have HJl:=Hh hjl;have HHx:=Hh hx;have gy:GoodD y.1 y.2:=by rw[hy];exact(HGs.out x hxk).1
          by_cases hj0:j=0
          ·subst hj0
           have aL:(0:Int)<(Lz.length:Int):=by omega
           rw[show((0:Nat):Int)=0 from rfl]at ix5;have H9y:=Hh (show SSt (canU (za0 G)) pb ob sb ms mn lb rb bb n w6 G M0 I0 W9 k (some (sL G k)) (zcs false (sL G) Lz (0)) V8 BV8 M8 I8 fo9 fc8 from by rw[hW9];exact hs.fr0 ((Fr.refl NoM wy2).drew));clear hs hy hxk hx hc5 hj hjl hkl;go_upto_region 24 with fail;go_quiet (fail);obtain⟨W8,hW8⟩:∃W8,W8=wy2.drewN nq:=⟨_,rfl⟩;rw[←hW8];have H8y:=Hh (show SSt (canU (za0 G)) pb ob sb ms mn lb rb bb n w6 G M0 I0 W8 k (some (sL G k)) (zcs false (sL G) Lz (0)) V8 BV8 M8 I8 fo9 fc8 from by rw[hW8];exact HHs.out.fr0 (zae wy2 nq));clear hW9 hW8 q1 q2 q3 q4 y1 y2 d5 H9y;obtain⟨y1,y2⟩:=H8y.out.l.cell (j:=x) (HLo.out x (List.mem_of_getElem? HHx.out));rw[←HY.out]at y1 y2;obtain⟨⟨q1,q2,q3⟩,q4⟩:=HSx.out W8 H8y.out.fr;go_upto_region 25 with fail;go_still_tail 9,(by kernel_rfl);change wpList _ _ _ _ _ W8.drew
           obtain⟨W7',hW7⟩:∃W7',W7'=W8.drew:=⟨_,rfl⟩;rw[←hW7];have H7y:=Hh (show SSt (canU (za0 G)) pb ob sb ms mn lb rb bb n w6 G M0 I0 W7' k (some (sL G k)) (zcs false (sL G) Lz (0)) V8 BV8 M8 I8 fo9 fc8 from by rw[hW7];exact H8y.out.fr0 ((Fr.refl NoM W8).drew));have zl:=H7y.out.r.frozen (k*2);have zl1:=H7y.out.r.frozen (k*2+1);obtain⟨_,p1⟩:=H7y.out.r.has (i:=k*2) (by have h:k<n:=HKl.out;omega);obtain⟨_,p2⟩:=H7y.out.r.has (i:=k*2+1) (by have h:k<n:=HKl.out;omega);have HSet:=Hh (show SSt (canU (za0 G)) pb ob sb ms mn lb rb bb n w6 G M0 I0 ((W7'.setCell ⟨rb,k*2,none⟩ (.int .i64 y.1)).setCell ⟨rb,k*2+1,none⟩ (.int .i64 (y.2:Int))) k (some (sL G k)) (zcs false (sL G) Lz (1)) V8 BV8 M8 I8 fo9 fc8 from by
            rw[zoc HHx.out,←HY.out];exact H7y.out.setR HBs.out HKl.out y)
           clear hW7 q1 q2 q3 q4 y1 y2;go_wp2;go_roundw
           case rel =>
            have hjl:=HJl.out;exact⟨1,by go_num,by omega,HSet.out⟩
           case measure=>have hjl:=HJl.out;simp[intOf];omega
          ·obtain⟨s,hsd⟩:∃s,s=zdh false ((Lz.take j).map (sL G)):=⟨_,rfl⟩
           have hob:zcs false (sL G) Lz j=some s:=by unfold zcs;rw[if_neg hj0,hsd]
           have hs':=hs;rw[hob]at hs';obtain⟨s1,s2⟩:=hs'.r.cur;have gs:GoodD s.1 s.2:=by
            rw[hsd];refine zmq (fun e=>?_) (fun i hi=>(HGs.out i (HLo.out i (List.mem_of_mem_take hi))).1);have:=congrArg List.length e;rw[List.length_take,List.length_nil]at this
            omega
           have hnx:=zmd (gr:=false) (f:=sL G) hx hj0;rw[←hsd,←hy]at hnx;obtain⟨res,hres⟩:∃res,res=zf5 false s y:=⟨_,rfl⟩;unfold zfq at hnx;rw[←hres]at hnx;have HN1:=Hh (show res≠false→zcs false (sL G) Lz (j+1)=some y from fun e=>by rw[hnx,if_pos (by cases res;exact absurd rfl e;rfl)]);have HN0:=Hh (show res≠true→zcs false (sL G) Lz (j+1)=some s from fun e=>by rw[hnx,if_neg e]);unfold zf5 at hres;rw[if_neg (by decide)]at hres;have HLs:=Hh (fun(W:World)=>zge y.1 s.1 y.2 s.2 W gy gs res hres);have H9y:=Hh (show SSt (canU (za0 G)) pb ob sb ms mn lb rb bb n w6 G M0 I0 W9 k (some (sL G k)) (some s) V8 BV8 M8 I8 fo9 fc8 from by rw[hW9];exact hs'.fr0 ((Fr.refl NoM wy2).drew));have hne:((j:Int) == 0)=false:=by rw[beq_eq_false_iff_ne];omega
           have hne':¬(j:Int)=0:=by omega
           clear hs hs' hy hxk hx hc5 hj hjl hkl hob hsd hnx hres gs gy;go_upto_region 24 with fail;go_still_tail 13,(by kernel_rfl);change wpList _ _ _ _ _ wy2.drew
           rw[←hW9];clear hW9 q1 q2 q3 q4 y1 y2 s1 s2 d5;go_wp2_with fail;(with_reducible refine(HLs.out W9).mono ?_);rintro e W8 ⟨rfl,f8⟩;have H8y:=Hh (H9y.out.fr0 f8);clear f8;cases res with
           | false =>
            have hn0:=HN0.out (by simp);have HN:=Hh (show SSt (canU (za0 G)) pb ob sb ms mn lb rb bb n w6 G M0 I0 W8 k (some (sL G k)) (zcs false (sL G) Lz (j+1)) V8 BV8 M8 I8 fo9 fc8 from by rw[hn0];exact H8y.out);clear hn0 HN0 HN1;go_wp2;go_roundw
            case rel =>
             have hjl:=HJl.out;exact⟨j+1,by go_num,by omega,HN.out⟩
            case measure=>have hjl:=HJl.out;simp[intOf];omega
           | true =>
            have hn1:=HN1.out (by simp);have HN:=Hh hn1;clear hn1 HN0 HN1;obtain⟨y1,y2⟩:=H8y.out.l.cell (j:=x) (HLo.out x (List.mem_of_getElem? HHx.out));rw[←HY.out]at y1 y2;obtain⟨⟨q1,q2,q3⟩,q4⟩:=HSx.out W8 H8y.out.fr;go_upto_region 25 with fail;go_still_tail 9,(by kernel_rfl);change wpList _ _ _ _ _ W8.drew
            obtain⟨W7',hW7⟩:∃W7',W7'=W8.drew:=⟨_,rfl⟩;rw[←hW7];have H7y:=Hh (show SSt (canU (za0 G)) pb ob sb ms mn lb rb bb n w6 G M0 I0 W7' k (some (sL G k)) (some s) V8 BV8 M8 I8 fo9 fc8 from by rw[hW7];exact H8y.out.fr0 ((Fr.refl NoM W8).drew));have zl:=H7y.out.r.frozen (k*2);have zl1:=H7y.out.r.frozen (k*2+1);obtain⟨_,p1⟩:=H7y.out.r.has (i:=k*2) (by have h:k<n:=HKl.out;omega);obtain⟨_,p2⟩:=H7y.out.r.has (i:=k*2+1) (by have h:k<n:=HKl.out;omega);have HSet:=Hh (show SSt (canU (za0 G)) pb ob sb ms mn lb rb bb n w6 G M0 I0 ((W7'.setCell ⟨rb,k*2,none⟩ (.int .i64 y.1)).setCell ⟨rb,k*2+1,none⟩ (.int .i64 (y.2:Int))) k (some (sL G k)) (zcs false (sL G) Lz (j+1)) V8 BV8 M8 I8 fo9 fc8 from by
             rw[HN.out];exact H7y.out.setR HBs.out HKl.out y)
            clear hW7 q1 q2 q3 q4 y1 y2;go_wp2;go_roundw
            case rel =>
             have hjl:=HJl.out;exact⟨j+1,by go_num,by omega,HSet.out⟩
            case measure=>have hjl:=HJl.out;simp[intOf];omega
         ·have hjn:j=Lz.length:=by omega
          subst hjn;rw[zod HLn.out,HLe.out,←HSn.out.2]at hs;have HEnd:=Hh hs;have aL:¬(Lz.length:Int)<(Lz.length:Int):=by omega
          clear hs hj hjl;go_wp2;go_roundw
          case rel =>
           have hkl:k<n:=HKl.out;exact⟨k+1,V8,BV8,M8,I8,fo9,fc8,by go_num,by omega,HOn.out,HEnd.out.skip hkl HNo.out⟩
          case measure=>have hkl:k<n:=HKl.out;simp[intOf];omega
    ·have hkn:k=n:=by omega
     subst hkn;have hy:ok=true:=by rw[HOk.out];exact zem.2 (by rw[←Hn.out];exact hok)
     subst hy;have hfw:=HFw.out w7 hs.fr;obtain⟨⟨r0,r1,r2⟩,r3,r4,r5⟩:=HRs.out w7 hfw;have HM:=Hh (HFin.out w7 (.slice (some ⟨lb,0,none⟩) k k) (.slice (some ⟨rb,0,none⟩) k k) (.slice (some ⟨bb,0,none⟩) k k) hfw);have fset:Fr (fun q=>q=w.heap.size+1) w7 (((w7.setCell ⟨w.heap.size+1,0,none⟩ (.slice (some ⟨lb,0,none⟩) k k)).setCell ⟨w.heap.size+1,1,none⟩ (.slice (some ⟨rb,0,none⟩) k k)).setCell ⟨w.heap.size+1,2,none⟩ (.slice (some ⟨bb,0,none⟩) k k)):=Fr.setCell (M:=fun q=>q=w.heap.size+1) (Fr.setCell (M:=fun q=>q=w.heap.size+1) (Fr.setCell (M:=fun q=>q=w.heap.size+1) (Fr.refl _ w7) _ _ (fun _=>rfl)) _ _ (fun _=>rfl)) _ _ (fun _=>rfl);have hlo:=HLo2.out;have HRw:=Hh (show Pairs _ (.slice (some ⟨lb,0,none⟩) k k) (dyL (sL G) k)/\Pairs _ (.slice (some ⟨rb,0,none⟩) k k) (dyL (sR G) k)/\SliceOf encB _ (.slice (some ⟨bb,0,none⟩) k k) (numL G k)from⟨(hs.l.fr fset (by omega)).pairs (by omega),(hs.r.fr fset (by omega)).pairs (by omega),(hs.b.fr fset (by omega)).bools (by omega)⟩);have aL:¬(k:Int)<(k:Int):=by omega
     clear hs hok hk hlt fset hfw hlo;go_wp2_with fail;refine bodyPost_ret (v:=.tuple #[.agg #[.slice (some ⟨lb,0,none⟩) k k,.slice (some ⟨rb,0,none⟩) k k,.slice (some ⟨bb,0,none⟩) k k],.bool true]) (by simp[results,Tryz.results44,go_sem,r0,r1,r2,r3,r4,r5]) rfl ?_
     refine⟨_,_,_,_,_,_,_,_,_,rfl,fun _=>?_,fun q hq=>(by have h:=HLo2.out;have e:lb=q:=Option.some.inj hq;omega),fun q hq=>(by have h:=HLo2.out;have e:rb=q:=Option.some.inj hq;omega),HM.out⟩;rw[←Hn.out];exact HRw.out
end Go.Proofs.YtknniemfpkjnbaaGreatDoor
