import Derived.Test.YtlapkmhemepcaaaGreatDoorZia
import Derived.Test.YtlapkmhemepcaaaGreatDoorZie
import Derived.Test.YtlapkmhemepcaaaGreatDoorZig
import Derived.Test.YtlapkmhemepcaaaGreatDoorZi19
/- Lemmas. -/
set_option linter.all false
set_option maxHeartbeats 8000000
set_option maxRecDepth 8000
namespace Go.Proofs.YtlapkmhemepcaaaGreatDoor
open Go.RowKit
def zu1 (w:World)(e:Ending)(c:World):Prop:=∃(b:Value) (a:List (List Int × List Int)) (f d:Int),e=.returned (.tuple #[.agg #[b],.agg #[.int .i64 f,.int .i64 d]])/\NodeL (λg=>w.heap.size<=g) encI c b a/\Fr NoM w c/\HotF a
theorem ztk (cv:Value)(L:List Int)(w:World)(h:CodeOK w cv L):Calls Tryz.prog 20 #[cv] w λe w'=>zu1 w e w':=by
 obtain⟨w1,hw1⟩:=eX ((w.alloc (.cells #[.slice none 0 0] 26)).alloc (.cells #[.int .i64 0,.int .i64 0] 29));have f1:Fr NoM w w1:=by rw[hw1];exact((nW w).alloc _).alloc _
 have hs1:w1.heap.size=w.heap.size+2:=by rw[hw1];simp
 have e0:w1.heap[w.heap.size]?=some (.cells #[.slice none 0 0] 26 (0,0)):=by rw[hw1];exact((nW _).alloc _).heap (xJ w _) id
 have e1:w1.heap[w.heap.size+1]?=some (.cells #[.int .i64 0,.int .i64 0] 29 (0,0)):=by
  have h:=xJ (w.alloc (.cells #[.slice none 0 0] 26)) (.cells #[.int .i64 0,.int .i64 0] 29);rw[xZ]at h;rw[hw1];exact h
 obtain⟨w2,hw2⟩:=eX (w1.alloc (.cells #[cv,.int .i64 0,.int .u64 0] 69));have f2:Fr NoM w1 w2:=by rw[hw2];exact(nW w1).alloc _
 have hc2:CurS w2 w1.heap.size 0:=by rw[hw2];exact CurS.start (h.fr0 f1)
 have hs2:w2.heap.size=w.heap.size+3:=by rw[hw2];simp[hs1]
 obtain⟨cb,hcb⟩:=eX (w.heap.size+1+1);rw[hs1,show w.heap.size+2=cb from hcb.symm]at hc2;have hcb2:cb=w.heap.size+2:=hcb;have HCb:=Hh hcb2;have HS2:=Hh hs2;have HRs:=Hh (λW (f:Fr (λq=>q=cb) w2 W)=>show W.cell? ⟨w.heap.size,0,none⟩=some (.slice none 0 0)/\W.frozen? ⟨w.heap.size,0,none⟩=false/\W.cell? ⟨w.heap.size+1,0,none⟩=some (.int .i64 0)/\W.cell? ⟨w.heap.size+1,1,none⟩=some (.int .i64 0)/\W.frozen? ⟨w.heap.size+1,0,none⟩=false/\W.frozen? ⟨w.heap.size+1,1,none⟩=false from by
  have h0:=f.heap (f2.heap e0 id) (λe=>by have h4:=HCb.out;have e:w.heap.size=cb:=e;omega);have h1:=f.heap (f2.heap e1 id) (λe=>by have h4:=HCb.out;have e:w.heap.size+1=cb:=e;omega);exact⟨by rw[xX W _ 0 _ _ _ h0];rfl,by simp[World.frozen?,h0],by rw[xX W _ 0 _ _ _ h1];rfl,by rw[xX W _ 1 _ _ _ h1];rfl,by simp[World.frozen?,h1],by simp[World.frozen?,h1]⟩)
 have HF:=Hh (λW (f:Fr (λq=>q=cb) w2 W)=>((f1.trans f2 (λ_ _ q=>q)).trans f (λq hq e=>by have h4:=HCb.out;have e:q=cb:=e;omega):Fr NoM w W));have HDr:=Hh (zhg cv L w2 ((h.fr0 f1).fr0 f2));have HC2:=Hh hc2;obtain⟨ca,cc,rfl,zz⟩:=id h.1;clear zz h f1 hs1 e0 e1 f2 hc2 hs2 hcb2;go_enter Tryz.func20,Tryz.ntmps20;go_upto_region 2 with fail;rw[<-hw1,<-hw2,<-hcb];clear hw1 hw2 hcb;go_wp2_with fail;(with_reducible refine HDr.out.mono ?_);rintro e w4 ⟨v,Fi,rfl,n4,f4,hho⟩;have HHo:=Hh hho;obtain⟨g,hg⟩:∃g:Bool,(g=true↔zar Fi):=by
  by_cases h:zar Fi
  ·exact⟨true,by simp[h]⟩
  ·exact⟨false,by simp[h]⟩
 obtain⟨va,vc,rfl,zz⟩:=id n4;obtain⟨bf,hbf⟩:=eX w4.heap.size;obtain⟨W5,hW5⟩:=eX (w4.alloc (.cells #[.slice va Fi.length vc] 26));have g5:Fr NoM w4 W5:=by rw[hW5];exact(nW w4).alloc _
 have e5:W5.heap[bf]?=some (.cells #[.slice va Fi.length vc] 26 (0,0)):=by rw[hW5,hbf];exact xJ w4 _
 have HC5:=Hh ((HC2.out.fr0 f4).fr0 g5);have hN5:=n4.fr0 g5;have F5:=Hh (f4.trans g5 (λ_ _ q=>q));have HBf:=Hh (show w2.heap.size<=bf from by have h1:=f4.size;omega);obtain⟨ok,hok⟩:=eX (zem g Fi);obtain⟨T1,hT1⟩:=eX ((zac g Fi true).1);obtain⟨P1,hP1⟩:=eX (((zac g Fi true).2:Int):Int);obtain⟨T2,hT2⟩:=eX ((zac g Fi false).1);obtain⟨P2,hP2⟩:=eX (((zac g Fi false).2:Int):Int);have HBo:=Hh (zkp (.slice va Fi.length vc) Fi W5 hN5 g hg ok hok T1 P1 T2 P2 hT1 hP1 hT2 hP2);have HN5:=Hh hN5;have E5:=Hh e5;have k5:W5.cell? ⟨bf,0,none⟩=some (.slice va Fi.length vc):=by rw[xX W5 _ 0 _ _ _ e5];rfl
 clear zz n4 f4 g5 e5 hN5 HDr hho hg hok hT1 hP1 hT2 hP2;go_upto_region 3 with fail;rw[<-hW5,<-hbf];clear hW5 hbf;go_wp2_with fail;(with_reducible refine HBo.out.mono ?_);rintro e w6 ⟨rfl,f6⟩;obtain⟨b6,hb6⟩:=eX w6.heap.size;obtain⟨W7,hW7⟩:=eX ((w6.alloc (.cells #[.int .i64 T1,.int .i64 P1] 29)).alloc (.cells #[.int .i64 T2,.int .i64 P2] 29));have g7:Fr NoM W5 W7:=f6.trans (show Fr NoM w6 W7 by rw[hW7];exact((nW w6).alloc _).alloc _) (λ_ _ q=>q);have e7:W7.heap[b6]?=some (.cells #[.int .i64 T1,.int .i64 P1] 29 (0,0)):=by rw[hW7,hb6];exact((nW _).alloc _).heap (xJ w6 _) id
 have hb6':bf<b6:=by have h1:=f6.size;have h2:=(yJ.1 E5.out).1;omega
 have HS:=Hh (λW (f:Fr (λq=>q=cb\/q=w.heap.size\/q=w.heap.size+1) W7 W)=>show W.cell? ⟨bf,0,none⟩=some (.slice va Fi.length vc)/\W.cell? ⟨b6,0,none⟩=some (.int .i64 T1)/\W.cell? ⟨b6,1,none⟩=some (.int .i64 P1)from by
  have h1:=HBf.out;have h2:=HS2.out;have h3:=HCb.out;have h7:=f.heap e7 (λe=>by rcases e with e|e|e <;> omega);exact⟨by rw[xX W _ 0 _ _ _ (f.heap (g7.heap E5.out id) (λe=>by rcases e with e|e|e <;> omega))];rfl,by rw[xX W _ 0 _ _ _ h7];rfl,by rw[xX W _ 1 _ _ _ h7];rfl⟩)
 have HC7:=Hh (HC5.out.fr0 g7);have F7:=Hh ((F5.out.trans g7 (λ_ _ q=>q)).any (M:=λq=>q=cb));have HEnd:=Hh (λ(W:World) (T P:Int) (f:Fr (λq=>q=cb) W7 W)=>show zu1 w (.returned (.tuple #[.agg #[.slice va Fi.length vc],.agg #[.int .i64 T,.int .i64 P]])) (((W.setCell ⟨w.heap.size,0,none⟩ (.slice va Fi.length vc)).setCell ⟨w.heap.size+1,0,none⟩ (.int .i64 T)).setCell ⟨w.heap.size+1,1,none⟩ (.int .i64 P))from by
  have hn:NodeL (λb=>w2.heap.size<=b) encI W (.slice va Fi.length vc) Fi:=(HN5.out.fr0 g7).fr f (λq hq e=>by have hq:w2.heap.size<=q:=hq;have e:q=cb:=e;have h1:=HS2.out;have h2:=HCb.out;omega);have fs:Fr (λq=>q=w.heap.size\/q=w.heap.size+1) W (((W.setCell ⟨w.heap.size,0,none⟩ (.slice va Fi.length vc)).setCell ⟨w.heap.size+1,0,none⟩ (.int .i64 T)).setCell ⟨w.heap.size+1,1,none⟩ (.int .i64 P)):=(((Fr.refl _ W).setCell _ _ (λ_=>.inl rfl)).setCell _ _ (λ_=>.inr rfl)).setCell _ _ (λ_=>.inr rfl);refine⟨_,Fi,T,P,rfl,?_,(HF.out W (F7.out.trans f (λ_ _ q=>q))).trans fs (λq hq e=>by rcases e with e|e <;> omega),HHo.out⟩;exact(hn.fr fs (λq hq e=>by have hq:w2.heap.size<=q:=hq;have h1:=HS2.out;rcases e with e|e <;> omega)).mono (λq hq=>by have hq:w2.heap.size<=q:=hq;have h1:=HS2.out;omega))
 clear f6 g7 e7 hb6' k5 HBo;go_upto_region 4 with fail;rw[<-hW7,<-hb6];clear hW7 hb6;cases ok with
 | false =>
  have FX7:=Hh (Fr.refl (λq=>q=cb) W7);have HCd:=Hh (show CurS W7.drew cb 0 from HC7.out.fr0 ((nW W7).drew));have G0:Fr (λq=>q=cb) W7 W7.drew:=FX7.out.trans ((nW W7).drew) (λ_ _ q=>q.elim);have h0:Fr (λq=>q=cb\/q=w.heap.size\/q=w.heap.size+1) W7 W7.drew:=G0.mono (λ_ _ e=>.inl e);go_upto_region 6 with fail;go_region_held3 (λ(W:World)=>W.cell? ⟨bf,0,none⟩=some (.slice va Fi.length vc))
   (first|exact(HS.out _ (by assumption)).1|exact(HS.out _ (Fr.setCell (by assumption) _ _ (λ_=>.inr (.inl rfl)))).1|exact(HS.out _ (Fr.setCell (Fr.setCell (by assumption) _ _ (λ_=>.inr (.inr rfl))) _ _ (λ_=>.inr (.inr rfl)))).1|exact(HS.out _ (Fr.setCell (Fr.setCell (Fr.setCell (by assumption) _ _ (λ_=>.inr (.inl rfl))) _ _ (λ_=>.inr (.inr rfl))) _ _ (λ_=>.inr (.inr rfl)))).1)
   (first
    | (go_at_call 62;(with_reducible refine(zku cb 0 _ HCd.out (by omega)).mono ?_);rintro e wy ⟨T,P,rfl,cy,fy⟩;have gy:Fr (λq=>q=cb) W7 wy:=G0.trans fy (λ_ _ q=>q);have hy:Fr (λq=>q=cb\/q=w.heap.size\/q=w.heap.size+1) W7 wy:=gy.mono (λ_ _ e=>.inl e);obtain⟨r0,r1,r2,r3,r4,r5⟩:=HRs.out wy (F7.out.trans gy (λ_ _ q=>q)))
    | fail)
  all_goals
   have F8:=Hh gy;clear fy cy gy hy h0 G0;go_wp2_with fail;refine yY (v:=.tuple #[.agg #[.slice va Fi.length vc],.agg #[.int .i64 T,.int .i64 P]]) (by simp[results,Tryz.results20,go_sem,r0,r1,r2,r3,r4,r5]) rfl ?_
   exact HEnd.out wy T P F8.out
 | true =>
  have HOne:=Hh (zup cb 0 2 W7 HC7.out (by omega) ⟨by omega,by omega⟩);go_wp2_with fail;(with_reducible refine HOne.out.mono ?_);rintro e w8 ⟨b,rfl,c8,f8⟩;have HC8:=Hh c8;have FX8:=Hh f8;clear c8 f8 HOne;cases b with
  | false =>
   have HCd:=Hh (show CurS w8.drew cb (0+2)from HC8.out.fr0 ((nW w8).drew));have G0:Fr (λq=>q=cb) W7 w8.drew:=FX8.out.trans ((nW w8).drew) (λ_ _ q=>q.elim);have h0:Fr (λq=>q=cb\/q=w.heap.size\/q=w.heap.size+1) W7 w8.drew:=G0.mono (λ_ _ e=>.inl e);go_upto_region 6 with fail;go_region_held3 (λ(W:World)=>W.cell? ⟨bf,0,none⟩=some (.slice va Fi.length vc))
    (first|exact(HS.out _ (by assumption)).1|exact(HS.out _ (Fr.setCell (by assumption) _ _ (λ_=>.inr (.inl rfl)))).1|exact(HS.out _ (Fr.setCell (Fr.setCell (by assumption) _ _ (λ_=>.inr (.inr rfl))) _ _ (λ_=>.inr (.inr rfl)))).1|exact(HS.out _ (Fr.setCell (Fr.setCell (Fr.setCell (by assumption) _ _ (λ_=>.inr (.inl rfl))) _ _ (λ_=>.inr (.inr rfl))) _ _ (λ_=>.inr (.inr rfl)))).1)
    (first
     | (go_at_call 62;(with_reducible refine(zku cb (0+2) _ HCd.out (by omega)).mono ?_);rintro e wy ⟨T,P,rfl,cy,fy⟩;have gy:Fr (λq=>q=cb) W7 wy:=G0.trans fy (λ_ _ q=>q);have hy:Fr (λq=>q=cb\/q=w.heap.size\/q=w.heap.size+1) W7 wy:=gy.mono (λ_ _ e=>.inl e);obtain⟨r0,r1,r2,r3,r4,r5⟩:=HRs.out wy (F7.out.trans gy (λ_ _ q=>q)))
     | fail)
   all_goals
    have F8:=Hh gy;clear fy cy gy hy h0 G0;go_wp2_with fail;refine yY (v:=.tuple #[.agg #[.slice va Fi.length vc],.agg #[.int .i64 T,.int .i64 P]]) (by simp[results,Tryz.results20,go_sem,r0,r1,r2,r3,r4,r5]) rfl ?_
    exact HEnd.out wy T P F8.out
  | true =>
   have G0:Fr (λq=>q=cb) W7 w8.drew:=FX8.out.trans ((nW w8).drew) (λ_ _ q=>q.elim);have h0:Fr (λq=>q=cb\/q=w.heap.size\/q=w.heap.size+1) W7 w8.drew:=G0.mono (λ_ _ e=>.inl e);have h1:Fr (λq=>q=cb\/q=w.heap.size\/q=w.heap.size+1) W7 (w8.drew.setCell ⟨w.heap.size,0,none⟩ (.slice va Fi.length vc)):=h0.setCell _ _ (λ_=>.inr (.inl rfl));have h2:Fr (λq=>q=cb\/q=w.heap.size\/q=w.heap.size+1) W7 ((w8.drew.setCell ⟨w.heap.size+1,0,none⟩ (.int .i64 T1)).setCell ⟨w.heap.size+1,1,none⟩ (.int .i64 P1)):=(h0.setCell _ _ (λ_=>.inr (.inr rfl))).setCell _ _ (λ_=>.inr (.inr rfl));have h3:Fr (λq=>q=cb\/q=w.heap.size\/q=w.heap.size+1) W7 (((w8.setCell ⟨w.heap.size,0,none⟩ (.slice va Fi.length vc)).setCell ⟨w.heap.size+1,0,none⟩ (.int .i64 T1)).setCell ⟨w.heap.size+1,1,none⟩ (.int .i64 P1)).drew:=((((FX8.out.mono (λ_ _ e=>.inl e)).setCell _ _ (λ_=>.inr (.inl rfl))).setCell _ _ (λ_=>.inr (.inr rfl))).setCell _ _ (λ_=>.inr (.inr rfl))).drew;obtain⟨r0,r1,r2,r3,r4,r5⟩:=HRs.out w8 (F7.out.trans FX8.out (λ_ _ q=>q));have HM:=Hh (HEnd.out w8.drew T1 P1 G0);go_upto_region 5 with fail;go_region_held3 (λ(W:World)=>W.cell? ⟨bf,0,none⟩=some (.slice va Fi.length vc)/\W.cell? ⟨b6,0,none⟩=some (.int .i64 T1)/\W.cell? ⟨b6,1,none⟩=some (.int .i64 P1))
    (first|exact HS.out _ (by assumption))
    (first|fail)
   all_goals
    go_wp2;refine yY (v:=.tuple #[.agg #[.slice va Fi.length vc],.agg #[.int .i64 T1,.int .i64 P1]]) (by simp[results,Tryz.results20,go_sem,r0,r1,r2,r3,r4,r5]) rfl ?_
    exact HM.out
