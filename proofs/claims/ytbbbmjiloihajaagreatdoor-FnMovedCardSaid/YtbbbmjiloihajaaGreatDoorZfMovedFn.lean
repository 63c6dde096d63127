import Derived.Test.YtbbbmjiloihajaaGreatDoorZfNumberFn
import Derived.Test.YtbbbmjiloihajaaGreatDoorZfRefOpts
/- What the claim of FnMovedCard needs of: MovedFn. -/
namespace Go.Proofs.YtbbbmjiloihajaaGreatDoor
set_option linter.unusedVariables false
set_option linter.unusedSimpArgs false
open Go.RowKit
theorem ye7 {R:Nat→Prop}{v1:Value}{Fi:List (List Int × List Int)}{T P:Int}{g ok:Bool}{mr:Option (List PL)}{w:World}(h1:NodeL R encI w v1 Fi)(hg:g=true↔GoodD T P)(hok:ok=(g && zam (numN T P.toNat)))(hmr:mr=plV true ok Fi (numN T P.toNat)) :
  Calls Tryz.prog 45 #[.agg #[v1],.agg #[.int .i64 T,.int .i64 P]] w fun e w'=>FormPost mr.isSome (i2 (mr.getD [])) w e w' :=
 (zpc v1 Fi T P w h1 g hg ok hok mr hmr).mono fun e w' h=>FormPost.ofP rfl h
theorem ye6 {R:Nat→Prop}{v1:Value}{Fi:List (List Int × List Int)}{T P:Int}{g ok:Bool}{mr:Option (List PL)}{w:World}(h1:NodeL R encI w v1 Fi)(hg:g=true↔GoodD T P)(hok:ok=(g && zam (numN T P.toNat)))(hmr:mr=plV true ok Fi (numN T P.toNat)) :
  Calls Tryz.prog 44 #[.agg #[v1],.agg #[.int .i64 T,.int .i64 P]] w fun e w'=>FormPost mr.isSome (i2 (mr.getD [])) w e w' :=
 (zpb v1 Fi T P w h1 g hg ok hok mr (by rw[hmr,yas hg hok])).mono fun e w' h=>FormPost.ofR rfl h
theorem yez {R:Nat→Prop}{nv:Value}{Fi FC:List (List Int × List Int)}{w:World}{g ok:Bool}(h:NodeL R encI w nv Fi)(hg:g=true↔zb2 Fi)(hok:ok=(g && zam (canN (natF Fi))))(hF:FC=i2 (if ok=true then canN (natF Fi)else [])) :
  Calls Tryz.prog 39 #[.agg #[nv]] w fun e w'=>FormPost ok FC w e w' :=
 (zgg nv Fi w h g hg ok hok).mono fun e w' h=>FormPost.ofP hF h
theorem zya {Gi:List (List Int × List Int)}{s:Int}{q:Nat}{okd:Bool}{X:List PL}(hr:Red s q)(hl:Gi.length≤12)(hm:plV true okd Gi (numN s q)=some X)(hc:zam (canN (natF Gi))=true)(hu:okOf true Gi=false) :
  zb2 (i2 (canN (natF Gi)))/\zb2 (i2 X)/\(zg4 (canN (natF Gi))).length=(zg4 X).length/\(zg3 (canN (natF Gi))).length=(zg3 X).length ∧
  (∀F∈zg4 (canN (natF Gi)),∀Y,plV true okd (i2 F) (numN s q)=some Y→Y∈zg4 X)/\∀F∈zg3 (canN (natF Gi)),∀Y,plV true okd (i2 F) (numN s q)=some Y→Y∈zg3 X:=by
 obtain⟨hgi,hX,hgX⟩:=yd4 hr hm;have hgC:=zr6 hc;have hn:=yed hgi hl hu;have hC:=(zcp (zab (natF Gi))).1;have eC:zab (canN (natF Gi))=canC (zab (natF Gi)):=zvm _;have eX:zab X=canC (sumC (canC (zab (natF Gi))) (nr s q)):=by rw[hX,zb7]
 obtain⟨C,hCe⟩:∃C,C=canC (zab (natF Gi)):=⟨_,rfl⟩;rw[←hCe]at hn hC eC eX;obtain⟨a1,a2,a3,a4⟩:=zpd hgC;obtain⟨b1,b2,b3,b4⟩:=zpd hgX;rw[eC]at a1 a2 a3 a4;rw[eX]at b1 b2 b3 b4;obtain⟨m1,m2,m3,m4⟩:=zyb (t:=s) (p:=q) hC hn;refine⟨hgC,hgX,by rw[a1,b1,m1],by rw[a2,b2,m2],fun F hF Y hY=>?_,fun F hF Y hY=>?_⟩
 ·obtain⟨l,hl,rfl⟩:=(a3 F).1 hF
  obtain⟨_,e,_⟩:=yd4 hr hY;rw[zb8,zb7,zfc (hC.opt (.inl hl))]at e;exact(b3 Y).2 ⟨_,m3 l hl,e⟩
 ·obtain⟨l,hl,rfl⟩:=(a4 F).1 hF
  obtain⟨_,e,_⟩:=yd4 hr hY;rw[zb8,zb7,zfc (hC.opt (.inr hl))]at e;exact(b4 Y).2 ⟨_,m4 l hl,e⟩
theorem yd6 {Fs:List PL}(hg:zb2 (i2 Fs)){a b:Nat}(ha:(zg4 Fs).length=a)(hb:(zg3 Fs).length=b):a≤24/\b≤24:=by
 obtain⟨hp,_,h24,_⟩:=zbh hg;have h:=h24 _ (List.mem_of_getElem? (za6 (show Fs.length-1<Fs.length by omega)));unfold zg4 optF at ha;unfold zg3 optF at hb;rw[List.length_map]at ha hb;omega
theorem zzi {R:Nat→Prop}{w22:World}{v:Value}{FY:List (List Int × List Int)}(h:NodeL R encI w22 v FY):BoxI ((w22.alloc (.cells #[.slice none 0 0] 31)).setCell ⟨w22.heap.size,0,none⟩ v) w22.heap.size (fun _=>True) v FY:=by
 have e:=heap_set (i:=0) (heap_alloc_new w22 (.cells #[.slice none 0 0] 31)) v;refine⟨by rw[cell_of_row _ _ 0 _ _ _ e];rfl,((h.low.fr0 ((Fr.refl NoM w22).alloc _)).fr (Fr.set _ ⟨w22.heap.size,0,none⟩ v) (fun q (hq:q<w22.heap.size) e=>?_)).mono (fun _ _=>trivial)⟩;have e:q=w22.heap.size:=e;omega
theorem zzh {w21 w22:World}{v:Value}{FY:List (List Int × List Int)}(f:Fr NoM (w21.alloc (.cells #[.slice none 0 0] 31)).drew w22)(h:NodeL (fun b=>(w21.alloc (.cells #[.slice none 0 0] 31)).drew.heap.size≤b) encI w22 v FY) :
  BoxI (w22.setCell ⟨w21.heap.size,0,none⟩ v) w21.heap.size (fun _=>True) v FY:=by
 have e0:w22.heap[w21.heap.size]?=some (.cells #[.slice none 0 0] 31 (0,0)):=f.heap (((Fr.refl NoM _).drew).heap (heap_alloc_new w21 _) (fun q=>q)) (fun q=>q);have e:=heap_set (i:=0) e0 v;have hs:(w21.alloc (.cells #[.slice none 0 0] 31)).drew.heap.size=w21.heap.size+1:=by show(w21.alloc (.cells #[.slice none 0 0] 31)).heap.size=_;simp
 refine⟨by rw[cell_of_row _ _ 0 _ _ _ e];rfl,(h.fr (Fr.set _ ⟨w21.heap.size,0,none⟩ v) (fun q hq e=>?_)).mono (fun _ _=>trivial)⟩;have e:q=w21.heap.size:=e;have hq:(w21.alloc (.cells #[.slice none 0 0] 31)).drew.heap.size≤q:=hq;omega
theorem FormsL.at {R:Nat→Prop}{w:World}{a:Option Addr}{n c:Nat}{FL:List (List PL)}(h:FormsL R w (.slice a n c) FL){j:Nat}(hj:j<n) :
  ∃nv Fm b off,FL[j]?=some Fm/\a=some ⟨b,off,none⟩/\w.cell? ⟨b,off+j,none⟩=some nv/\NodeL R encN w nv Fm:=by
 obtain⟨VS,⟨a',c',e,_,_,hc⟩,h2,h3⟩:=h;obtain⟨rfl,rfl,rfl⟩:=Value.slice.inj e;obtain⟨nv,hnv⟩:∃nv,VS[j]?=some nv:=⟨_,List.getElem?_eq_getElem hj⟩;obtain⟨Fm,hFm⟩:∃Fm,FL[j]?=some Fm:=⟨_,List.getElem?_eq_getElem (by omega)⟩;obtain⟨b,off,ha,hcc⟩:=hc j nv hnv;exact⟨nv,Fm,b,off,hFm,ha,hcc,h3 j nv Fm hnv hFm⟩
theorem FormsL.len {R:Nat→Prop}{w:World}{a:Option Addr}{n c:Nat}{FL:List (List PL)}(h:FormsL R w (.slice a n c) FL):FL.length=n/\n≤9223372036854775807:=by
 obtain⟨VS,⟨a',c',e,h1,h1',hc⟩,h2,h3⟩:=h;obtain⟨rfl,rfl,rfl⟩:=Value.slice.inj e;exact⟨h2.symm,by omega⟩
theorem GRow.slice {D:Nat}{W:World}{v:Value}{VS:List Value}{FSs:List (List PL)}{T:Nat→Prop}(h:GRow D W v VS FSs T){n:Nat}(hn:FSs.length=n):∃a c,v=.slice a n c/\FormsL (fun _=>True) W (.slice a n c) FSs:=by
 obtain⟨a,c,e,_⟩:=h.cell;have h1:=h.len;have e2:VS.length=n:=by omega
 rw[e2]at e;exact⟨a,c,e,by rw[←e];exact h.forms.mono (fun _ _=>trivial)⟩
set_option maxRecDepth 8000 in
set_option maxHeartbeats 16000000 in
theorem fnMoved_any (cv:Value) (L:List Int) (W0:World) (h:CodeOK W0 cv L):Calls Tryz.prog 9 #[cv] W0 fun e W'=>e=.returned (.bool true)∧Fr NoM W0 W':=by
  obtain ⟨big,hbig⟩:∃ big,big=decide (65536 < L.length):=⟨_,rfl⟩;have hv:=ya9 cv L W0 h;rw [← hbig] at hv;have HV:=Hh hv;have HP:=Hh (fun (W:World) (f:Fr NoM W0 W)=>zpz cv L W (h.fr0 f));have G0:=Hh (Fr.refl NoM W0);obtain ⟨ca,cc,rfl,zz⟩:=id h.1;clear zz h hbig hv;go_enter Tryz.func9,Tryz.ntmps9;go_wp2_with fail;(with_reducible refine HV.out.mono ?_);rintro e x0 ⟨rfl,hx⟩;have hx:=hx.symm;subst hx;cases big with
  | true =>
    go_wp2_with fail;go_ret;exact ⟨rfl,G0.out⟩
  | false =>
    have HP0:=Hh (HP.out _ G0.out);clear HP HV;go_wp2_with fail;(with_reducible refine HP0.out.mono ?_);rintro e x6 ⟨v6,Gi,s,q,rfl,n6,f6,hGl,hs,hs4,hq2⟩;obtain ⟨a6,c6,rfl,zz⟩:=id n6;obtain ⟨w6,hw6⟩:∃ w6,w6=x6.alloc (.cells #[.slice a6 Gi.length c6] 31):=⟨_,rfl⟩;obtain ⟨W6,hW6⟩:∃ W6,W6=w6.alloc (.cells #[.int .i64 s,.int .i64 (q:Int)] 45):=⟨_,rfl⟩;obtain ⟨b6,hb6⟩:∃ b6,b6=x6.heap.size:=⟨_,rfl⟩;have hz6:w6.heap.size=b6 + 1:=by rw [hw6,hb6];simp
    have g6:Fr NoM w6 W6:=by rw [hW6];exact (Fr.refl NoM w6).alloc _
    have g6':Fr NoM W0 W6:=(f6.trans (show Fr NoM x6 w6 by rw [hw6];exact (Fr.refl NoM x6).alloc _) (fun _ _ q=>q)).trans g6 (fun _ _ q=>q);have B6:=Hh (show BoxI W6 b6 _ _ _ from by rw [hb6];exact (BoxI.made n6 hw6).fr0 g6);have D6:=Hh (show BoxD W6 (b6 + 1) s (q:Int) from by rw [← hz6];exact BoxD.made hW6);have G6:=Hh g6';have hgs:GoodD s (q:Int):=GoodD.of hs (by omega) (by omega);obtain ⟨okd,hokd⟩:∃ okd,okd=zam (numN s q):=⟨_,rfl⟩;have hokd':okd=(true && zam (numN s (q:Int).toNat)):=by rw [hokd,Bool.true_and];rfl
    have hgs':true=true↔GoodD s (q:Int):=by simp [hgs]
    have HPl:=Hh (fun (R:Nat→Prop) (v:Value) (Fi:List (List Int × List Int)) (W:World) (mr:Option (List PL)) (hmr:mr=plV true okd Fi (numN s q)) (hN:NodeL R encI W v Fi)=>(ye7 hN hgs' hokd' hmr:Calls Tryz.prog 45 #[.agg #[v],.agg #[.int .i64 s,.int .i64 (q:Int)]] W fun e w'=>FormPost mr.isSome (i2 (mr.getD [])) W e w'));obtain ⟨mr,hmr⟩:∃ mr,mr=plV true okd Gi (numN s q):=⟨_,rfl⟩;obtain ⟨FX,hFX⟩:∃ FX,FX=i2 (mr.getD []):=⟨_,rfl⟩;have HP6:=Hh (HPl.out _ _ Gi W6 mr hmr B6.out.node);have HR6:=Hh (fun (R:Nat→Prop) (v:Value) (W:World) (hN:NodeL R encI W v Gi)=>(ye6 hN hgs' hokd' hmr:Calls Tryz.prog 44 #[.agg #[v],.agg #[.int .i64 s,.int .i64 (q:Int)]] W fun e w'=>FormPost mr.isSome (i2 (mr.getD [])) W e w'));rw [← hFX] at HP6 HR6;have HS:=Hh (And.intro hs (And.intro hGl (And.intro hmr hFX)));obtain ⟨g4,hg4⟩:=zvg Gi;obtain ⟨okc,hokc⟩:∃ okc,okc=(g4 && zam (canN (natF Gi))):=⟨_,rfl⟩;obtain ⟨FC,hFC⟩:∃ FC,FC=i2 (if okc=true then canN (natF Gi) else []):=⟨_,rfl⟩;obtain ⟨us,hus⟩:∃ us,us=okOf g4 Gi:=⟨_,rfl⟩;obtain ⟨u1,hu1⟩:∃ u1,u1=(zv0 g4 Gi).1:=⟨_,rfl⟩;obtain ⟨u2,hu2⟩:∃ u2,u2=((zv0 g4 Gi).2:Int):=⟨_,rfl⟩;have HCn:=Hh (fun (R:Nat→Prop) (v:Value) (W:World) (hN:NodeL R encI W v Gi)=>yez hN hg4 hokc hFC);have HNr:=Hh (fun (R:Nat→Prop) (v:Value) (W:World) (hN:NodeL R encI W v Gi)=>zo7 v Gi W hN g4 hg4 us hus u1 u2 hu1 hu2);have HC:=Hh (And.intro hg4 (And.intro hokc (And.intro hFC hus)));clear n6 f6 hGl hs hs4 hq2 zz g6 g6' hgs hokd hokd' hgs' hmr hFX HP0 hz6 hg4 hokc hFC hus hu1 hu2;go_upto_region 4 with fail;rw [← hw6,← hW6,← hb6];clear hw6 hW6 hb6;have k2:=B6.out.cell;obtain ⟨k0,k1⟩:=D6.out;go_wp2_with fail;(with_reducible refine HP6.out.mono ?_);rintro e x5 ⟨v5,rfl,q5,f5⟩;obtain ⟨ax5,cx5,rfl,zz⟩:=id q5;obtain ⟨W5,hW5⟩:∃ W5,W5=x5.alloc (.cells #[.slice ax5 FX.length cx5] 31):=⟨_,rfl⟩;obtain ⟨b5,hb5⟩:∃ b5,b5=x5.heap.size:=⟨_,rfl⟩;have gx5:Fr NoM W6 W5:=f5.trans (show Fr NoM x5 W5 by rw [hW5];exact (Fr.refl NoM x5).alloc _) (fun _ _ q=>q);have B5:=Hh (show BoxI W5 b5 _ _ _ from by rw [hb5];exact BoxI.made q5 hW5);have B6:=Hh (B6.out.fr0 gx5);have D6:=Hh (D6.out.fr0 gx5);have G5:=Hh (G6.out.trans gx5 (fun _ _ q=>q));clear q5 f5 gx5 zz k0 k1 k2 HP6;go_upto_region 5 with fail;rw [← hW5,← hb5];clear hW5 hb5;have HR5:=Hh (HR6.out _ _ W5 B6.out.node);clear HR6;have k2:=B6.out.cell;obtain ⟨k0,k1⟩:=D6.out;go_wp2_with fail;(with_reducible refine HR5.out.mono ?_);rintro e x7 ⟨v7,rfl,q7,f7⟩;obtain ⟨ax7,cx7,rfl,zz⟩:=id q7;obtain ⟨W7,hW7⟩:∃ W7,W7=x7.alloc (.cells #[.slice ax7 FX.length cx7] 31):=⟨_,rfl⟩;obtain ⟨b7,hb7⟩:∃ b7,b7=x7.heap.size:=⟨_,rfl⟩;have gx7:Fr NoM W5 W7:=f7.trans (show Fr NoM x7 W7 by rw [hW7];exact (Fr.refl NoM x7).alloc _) (fun _ _ q=>q);have B7:=Hh (show BoxI W7 b7 _ _ _ from by rw [hb7];exact BoxI.made q7 hW7);have B5:=Hh (B5.out.fr0 gx7);have B6:=Hh (B6.out.fr0 gx7);have D6:=Hh (D6.out.fr0 gx7);have G7:=Hh (G5.out.trans gx7 (fun _ _ q=>q));clear q7 f7 gx7 zz k0 k1 k2 HR5;go_upto_region 6 with fail;rw [← hW7,← hb7];clear hW7 hb7;have HSm:=Hh (zui _ _ FX FX W7 B5.out.node B7.out.node rfl);have k2:=B5.out.cell;have k3:=B7.out.cell;obtain ⟨okx,hokx⟩:∃ okx,okx=mr.isSome:=⟨_,rfl⟩;rw [← hokx];have HOx:=Hh hokx;clear hokx;go_wp2_with fail;(with_reducible refine HSm.out.mono ?_);rintro e x8 ⟨rfl,f8⟩;have B5:=Hh (B5.out.fr0 f8);have B6:=Hh (B6.out.fr0 f8);have D6:=Hh (D6.out.fr0 f8);have G8:=Hh (G7.out.trans f8 (fun _ _ q=>q));clear f8 k2 k3 HSm B7;have HC8:=Hh (HCn.out _ _ x8 B6.out.node);have k2:=B6.out.cell;clear HCn;go_wp2_with fail;(with_reducible refine HC8.out.mono ?_);rintro e x9 ⟨v9,rfl,q9,f9⟩;obtain ⟨ax9,cx9,rfl,zz⟩:=id q9;obtain ⟨W9,hW9⟩:∃ W9,W9=x9.alloc (.cells #[.slice ax9 FC.length cx9] 31):=⟨_,rfl⟩;obtain ⟨b9,hb9⟩:∃ b9,b9=x9.heap.size:=⟨_,rfl⟩;have gx9:Fr NoM x8 W9:=f9.trans (show Fr NoM x9 W9 by rw [hW9];exact (Fr.refl NoM x9).alloc _) (fun _ _ q=>q);have B9:=Hh (show BoxI W9 b9 _ _ _ from by rw [hb9];exact BoxI.made q9 hW9);have B5:=Hh (B5.out.fr0 gx9);have B6:=Hh (B6.out.fr0 gx9);have D6:=Hh (D6.out.fr0 gx9);have G9:=Hh (G8.out.trans gx9 (fun _ _ q=>q));clear q9 f9 gx9 zz k2 HC8;go_upto_region 9 with fail;rw [← hW9,← hb9];clear hW9 hb9;have HN9:=Hh (HNr.out _ _ W9 B6.out.node);have k2:=B6.out.cell;clear HNr;go_wp2_with fail;(with_reducible refine HN9.out.mono ?_);rintro e x11 ⟨rfl,f11⟩;obtain ⟨W11,hW11⟩:∃ W11,W11=x11.alloc (.cells #[.int .i64 u1,.int .i64 u2] 45):=⟨_,rfl⟩;have g11:Fr NoM W9 W11:=f11.trans (show Fr NoM x11 W11 by rw [hW11];exact (Fr.refl NoM x11).alloc _) (fun _ _ q=>q);have B5:=Hh (B5.out.fr0 g11);have B9:=Hh (B9.out.fr0 g11);have D6:=Hh (D6.out.fr0 g11);have G11:=Hh (G9.out.trans g11 (fun _ _ q=>q));clear f11 g11 k2 HN9 B6;go_upto_region 10 with fail;rw [← hW11];clear hW11;cases okx with
    | false =>
      go_wp2;go_ret;exact ⟨rfl,G11.out⟩
    | true =>
      cases okc with
      | false =>
        go_wp2;go_ret;exact ⟨rfl,G11.out⟩
      | true =>
        cases us with
        | true =>
          go_wp2;go_ret;exact ⟨rfl,G11.out⟩
        | false =>
          obtain ⟨X,hX⟩:∃ X,mr=some X:=Option.isSome_iff_exists.1 HOx.out.symm;obtain ⟨hs,hGl,hmr,hFX⟩:=HS.out;obtain ⟨hg4,hokc,hFC,hus⟩:=HC.out;have hc2:=Bool.and_eq_true_iff.1 hokc.symm;have hmx:plV true okd Gi (numN s q)=some X:=by rw [← hmr,hX]
          obtain ⟨y1,y2,y3,y4,y5,y6⟩:=zya hs hGl hmx hc2.2 (by rw [← hc2.1,← hus]);have hFX':FX=i2 X:=by rw [hFX,hX];rfl
          have hFC':FC=i2 (canN (natF Gi)):=by rw [hFC,if_pos rfl]
          obtain ⟨Cs,hCs⟩:∃ Cs,Cs=canN (natF Gi):=⟨_,rfl⟩;rw [← hCs] at y1 y3 y4 y5 y6 hFC';obtain ⟨nL,hnL⟩:∃ nL,(zg4 Cs).length=nL:=⟨_,rfl⟩;obtain ⟨nR,hnR⟩:∃ nR,(zg3 Cs).length=nR:=⟨_,rfl⟩;rw [hnL] at y3;rw [hnR] at y4;have HOc:=Hh (fun (R:Nat→Prop) (v:Value) (W:World) (hN:NodeL R encI W v FC)=>zpe v Cs W (by rw [← hFC'];exact hN) y1);have HOx':=Hh (fun (R:Nat→Prop) (v:Value) (W:World) (hN:NodeL R encI W v FX)=>zpe v X W (by rw [← hFX'];exact hN) y2);have HL24:=Hh (show nL≤24∧nR≤24 from yd6 y1 hnL hnR);have HY:=Hh (And.intro y5 y6);have HLn:=Hh (And.intro hnL (And.intro y3.symm (And.intro hnR y4.symm)));have HOc:=Hh (HOc.out _ _ W11 B9.out.node);have k2:=B9.out.cell;clear hX hs hGl hmr hFX hg4 hokc hFC hus hc2 hmx y1 y2 y3 y4 y5 y6 hFX' hFC' hCs hnL hnR HS HC HOx;go_wp2_with fail;(with_reducible refine HOc.out.mono ?_);rintro e x12 ⟨v1,v2,VA,VB,TA,TB,rfl,ga,gb,f12⟩;obtain ⟨a13,c13,rfl,fa⟩:=ga.slice HLn.out.1;obtain ⟨a14,c14,rfl,fb⟩:=gb.slice HLn.out.2.2.1;have B5:=Hh (B5.out.fr0 f12);have D6:=Hh (D6.out.fr0 f12);have G12:=Hh (G11.out.trans f12 (fun _ _ q=>q));have HFa:=Hh fa;have HFb:=Hh fb;have HO12:=Hh (HOx'.out _ _ x12 B5.out.node);clear ga gb fa fb f12 k2 HOc B9 HOx';have k2:=B5.out.cell;go_wp2_with fail;(with_reducible refine HO12.out.mono ?_);rintro e x13 ⟨v3,v4,VP,VQ,TP,TQ,rfl,gp,gq,f13⟩;obtain ⟨a16,c16,rfl,fp⟩:=gp.slice HLn.out.2.1;obtain ⟨a17,c17,rfl,fq⟩:=gq.slice HLn.out.2.2.2;have D6:=Hh (D6.out.fr0 f13);have G13:=Hh (G12.out.trans f13 (fun _ _ q=>q));have HFa:=Hh (HFa.out.fr0 f13);have HFb:=Hh (HFb.out.fr0 f13);have HFp:=Hh fp;have HFq:=Hh fq;have hnl:=fp.len.2;have hnr:=fq.len.2;have HB24:=Hh (show nL≤24∧nR≤24 from HL24.out);clear gp gq fp fq f13 k2 HO12 B5;have hb1:nL≤9223372036854775807:=hnl;have hnl24:=HB24.out;go_wp2_with fail;go_loopw [19] (fun v19 W=>∃ i:Nat,v19=.int .i64 (i:Int)∧i≤nL + nR∧Fr NoM x13 W) (fun v19 _=>nL + nR - (intOf v19).toNat)
          case atStart=>exact ⟨0,rfl,Nat.zero_le _,Fr.refl _ _⟩
          case round =>
            obtain ⟨i,rfl,hi,hf⟩:=hrel;obtain ⟨w20,rfl⟩:∃ w20,w20=wr:=⟨_,rfl⟩;by_cases hlt:i < nL + nR
            · have hltI : (i : Int) < (nL : Int) + (nR : Int) := by omega
              have HF:=Hh hf;have HLt:=Hh hlt;have hi200:i < 48:=by omega
              clear hf hi;by_cases hin:i < nL
              all_goals
                first
                | have hk1 : i < nL := hin
                  have h1:¬ (nL:Int)≤(i:Int):=by omega
                  have hn2:nL≤24:=by omega
                  have hff:=HFa.out.fr0 HF.out;have hfl:=HFp.out.fr0 HF.out;have hkey:=HY.out.1;obtain ⟨FF,hFF⟩:∃ FF,FF=zg4 Cs:=⟨_,rfl⟩;obtain ⟨FL,hFL⟩:∃ FL,FL=zg4 X:=⟨_,rfl⟩;obtain ⟨A1,hx⟩:∃ x,x=a13:=⟨_,rfl⟩;subst hx;obtain ⟨C1,hx⟩:∃ x,x=c13:=⟨_,rfl⟩;subst hx;obtain ⟨A2,hx⟩:∃ x,x=a16:=⟨_,rfl⟩;subst hx;obtain ⟨C2,hx⟩:∃ x,x=c16:=⟨_,rfl⟩;subst hx;obtain ⟨NN,hx⟩:∃ x,x=nL:=⟨_,rfl⟩;subst hx;obtain ⟨kk,hx⟩:∃ x,x=i:=⟨_,rfl⟩;subst hx
                | have h1 : (nL : Int) ≤ (i : Int) := by omega
                  obtain ⟨kk,hkk⟩:∃ kk:Nat,(i:Int) - (nL:Int)=(kk:Int):=⟨i - nL,by omega⟩;have h3:=HLt.out;have hk1:kk < nR:=by omega
                  have hn2:nR≤24:=by omega
                  have hff:=HFb.out.fr0 HF.out;have hfl:=HFq.out.fr0 HF.out;have hkey:=HY.out.2;clear hin h3;obtain ⟨FF,hFF⟩:∃ FF,FF=zg3 Cs:=⟨_,rfl⟩;obtain ⟨FL,hFL⟩:∃ FL,FL=zg3 X:=⟨_,rfl⟩;obtain ⟨A1,hx⟩:∃ x,x=a14:=⟨_,rfl⟩;subst hx;obtain ⟨C1,hx⟩:∃ x,x=c14:=⟨_,rfl⟩;subst hx;obtain ⟨A2,hx⟩:∃ x,x=a17:=⟨_,rfl⟩;subst hx;obtain ⟨C2,hx⟩:∃ x,x=c17:=⟨_,rfl⟩;subst hx;obtain ⟨NN,hx⟩:∃ x,x=nR:=⟨_,rfl⟩;subst hx
                rw [← hFF] at hff hkey;rw [← hFL] at hfl hkey;clear hFF hFL;obtain ⟨w21,hw21⟩:∃ w21,w21=w20:=⟨_,rfl⟩;subst hw21;obtain ⟨nv,Fm,b1,o1,hFm,ha1,hcm,hNm⟩:=hff.at hk1;have ix:=zex A1 NN C1 kk b1 o1 hk1 ha1;have hn1:=hff.len.2;obtain ⟨va,vc,rfl,zz⟩:=id hNm;obtain ⟨my,hmy⟩:∃ my,my=plV true okd (i2 Fm) (numN s q):=⟨_,rfl⟩;obtain ⟨oky,hoky⟩:∃ oky,oky=my.isSome:=⟨_,rfl⟩;obtain ⟨FY,hFY⟩:∃ FY,FY=i2 (my.getD []):=⟨_,rfl⟩;have HOy:=Hh (And.intro hoky hFY);have HMem:=Hh (fun (Y:List PL) (e:my=some Y)=>hkey Fm (List.mem_of_getElem? hFm) Y (by rw [← hmy,e]));have HPy:=Hh (fun (W:World) (f:Fr NoM w21 W)=>by
                  have h:=HPl.out _ _ (i2 Fm) W my hmy (hNm.fr0 f).toI;rw [← hoky,← hFY] at h;exact h)
                have HD:=Hh (D6.out.fr0 HF.out);have HSc:=Hh (fun (W:World) (f:Fr NoM w21 W)=>show W.cell? ⟨b1,o1 + kk,none⟩=some (.slice va Fm.length vc)∧W.cell? ⟨b6 + 1,0,none⟩=some (.int .i64 s)∧W.cell? ⟨b6 + 1,1,none⟩=some (.int .i64 (q:Int)) from
                  ⟨f.cell hcm (fun q=>q),(HD.out.fr0 f).top,(HD.out.fr0 f).pow⟩)
                have HFl:=Hh hfl;have hk1I:(kk:Int) < (NN:Int):=by omega
                clear hff hfl hkey hFm ha1 hcm hNm zz hmy hoky hFY;have Q0:Fr NoM w21 w21.drew:=(Fr.refl NoM w21).drew;have Q1:Fr NoM w21 (w21.alloc (.cells #[.slice none 0 0] 31)).drew:=((Fr.refl NoM w21).alloc _).drew;have Q2:Fr NoM w21 (w21.alloc (.cells #[.slice none 0 0] 31)):=(Fr.refl NoM w21).alloc _;obtain ⟨k0,k1,k2⟩:=HSc.out w21 (Fr.refl _ _);go_upto_region 25 with fail;go_cut [23,24] from 120 to 128 (fun v23 v24 wx=>∃ (b:Nat) (yv:Value),v23=.pointer (some ⟨b,0,none⟩)∧v24=.bool oky∧BoxI wx b (fun _=>True) yv FY∧Fr NoM w21 wx)
                case first =>
                  go_region_held3 (fun (W:World)=>W.cell? ⟨b1,o1 + kk,none⟩=some (.slice va Fm.length vc)∧W.cell? ⟨b6 + 1,0,none⟩=some (.int .i64 s)∧W.cell? ⟨b6 + 1,1,none⟩=some (.int .i64 (q:Int)))
                    (exact HSc.out _ (by assumption))
                    (first
                      | (go_at_call 45;(with_reducible refine (HPy.out _ Q0).mono ?_);rintro e w22 ⟨yv,rfl,qy,f22⟩;obtain ⟨ya,yc,rfl,zz⟩:=id qy;clear zz;have g22:Fr NoM w21 w22:=Q0.trans f22 (fun _ _ q=>q);have g25:Fr NoM w21 (w22.alloc (.cells #[.slice ya FY.length yc] 31)):=g22.alloc _;have g23:Fr NoM w21 (w22.alloc (.cells #[.slice none 0 0] 31)):=g22.alloc _;have g24:Fr NoM w21 ((w22.alloc (.cells #[.slice none 0 0] 31)).setCell ⟨w22.heap.size,0,none⟩ (.slice ya FY.length yc)):=g23.setCell _ _ (fun h=>absurd h (by have:=g22.size;show ¬ w22.heap.size < w21.heap.size;omega)))
                      | (go_at_call 45;(with_reducible refine (HPy.out _ Q1).mono ?_);rintro e w22 ⟨yv,rfl,qy,f22⟩;obtain ⟨ya,yc,rfl,zz⟩:=id qy;clear zz;have g22:Fr NoM w21 w22:=Q1.trans f22 (fun _ _ q=>q);have e22:w22.heap[w21.heap.size]?=some (.cells #[.slice none 0 0] 31 (0,0)):=f22.heap (((Fr.refl NoM _).drew).heap (heap_alloc_new w21 (.cells #[.slice none 0 0] 31)) (fun q=>q)) (fun q=>q);have c22:w22.cell? ⟨w21.heap.size,0,none⟩=some (.slice none 0 0):=(by rw [cell_of_row w22 _ 0 _ _ _ e22];rfl);have z22:w22.frozen? ⟨w21.heap.size,0,none⟩=false:=(by simp [World.frozen?,e22]);have g24:Fr NoM w21 (w22.setCell ⟨w21.heap.size,0,none⟩ (.slice ya FY.length yc)):=g22.setCell _ _ (fun h=>absurd h (Nat.lt_irrefl _)))
                      | fail)
                  all_goals
                    go_wp2_with fail;go_meet
                    case rel=>exact ⟨_,_,rfl,rfl,by first | exact BoxI.made (R:=fun _=>True) (qy.mono (fun _ _=>trivial)) rfl | exact zzi qy | exact zzh f22 qy,by assumption⟩
                case rest =>
                  obtain ⟨b,yv,rfl,rfl,hb,hf2⟩:=hcut;obtain ⟨w23,rfl⟩:∃ w23,w23=wc:=⟨_,rfl⟩;have HB:=Hh hb;have HF2:=Hh hf2;obtain ⟨ya,yc,rfl,zz⟩:=id hb.node;have HFl:=Hh (HFl.out.fr0 hf2);clear hb hf2 zz k0 k1 k2 ix hn1;go_wp2_with fail;go_loopw [25,26] (fun v25 v26 W=>∃ (m:Nat) (fd:Bool),v25=.bool fd∧v26=.int .i64 (m:Int)∧m≤NN∧(∀ j,j < m→∀ Y,FL[j]?=some Y→i2 Y=FY→fd=true)∧Fr NoM w23 W) (fun _ v26 _=>NN - (intOf v26).toNat)
                  case atStart=>exact ⟨0,false,rfl,rfl,Nat.zero_le _,fun j h=>by omega,Fr.refl _ _⟩
                  case round =>
                    obtain ⟨m,fd,rfl,rfl,hm,hfd,hf3⟩:=hrel;obtain ⟨w24,rfl⟩:∃ w24,w24=wr:=⟨_,rfl⟩;by_cases hml:m < NN
                    · have hmI : (m : Int) < (NN : Int) := by omega
                      obtain ⟨nv2,F2,b2,o2,hF2,ha2,hc2,hN2⟩:=(HFl.out.fr0 hf3).at hml;have ix:=zex A2 NN C2 m b2 o2 hml ha2;obtain ⟨za,zc,rfl,zz⟩:=id hN2;have HBb:=Hh (HB.out.fr0 hf3);have HFd:=Hh hfd;have HF3:=Hh hf3;have HF2':=Hh hF2;have HSc2:=Hh (fun (W:World) (f:Fr NoM w24 W)=>show W.cell? ⟨b2,o2 + m,none⟩=some (.slice za F2.length zc)∧W.cell? ⟨b,0,none⟩=some (.slice ya FY.length yc) from ⟨f.cell hc2 (fun q=>q),(HBb.out.fr0 f).cell⟩);obtain ⟨fd2,hfd2⟩:∃ fd2,fd2=decide (i2 F2=FY):=⟨_,rfl⟩;have HSm:=Hh (fun (W:World) (f:Fr NoM w24 W)=>by
                        have h:=zov _ _ (i2 F2) FY W (hN2.fr0 f).toI (HBb.out.fr0 f).node;rw [← hfd2] at h;exact h)
                      have HFd2:=Hh hfd2;clear hfd hf3 hF2 ha2 hc2 hN2 zz hm hfd2;have R0:Fr NoM w24 w24.drew:=(Fr.refl NoM w24).drew;obtain ⟨k0,k1⟩:=HSc2.out w24 (Fr.refl _ _);cases fd with
                      | true =>
                        go_upto_region 30 with fail;go_quiet (fail);go_wp2_with fail;go_roundw
                        case rel=>exact ⟨m + 1,true,rfl,by go_num,by omega,fun _ _ _ _ _=>rfl,HF3.out.trans (zt4 w24 _) (fun _ _ q=>q)⟩
                        case measure=>simp [intOf];omega
                      | false =>
                        go_upto_region 30 with fail;go_region_held3 (fun (W:World)=>W.cell? ⟨b2,o2 + m,none⟩=some (.slice za F2.length zc)∧W.cell? ⟨b,0,none⟩=some (.slice ya FY.length yc))
                          (exact HSc2.out _ (by assumption))
                          (first
                            | (go_at_call 33;(with_reducible refine (HSm.out _ (by first | exact R0 | exact Fr.refl _ _)).mono ?_);rintro e w25 ⟨rfl,f25⟩;have g25:Fr NoM w24 w25:=R0.trans f25 (fun _ _ q=>q))
                            | fail)
                        all_goals
                          have G25:=Hh g25;clear f25 g25;go_wp2_with fail;go_roundw
                          case rel=>exact ⟨m + 1,fd2,rfl,by go_num,by omega,fun j hj Y hY e=>by
                            by_cases hjm:j < m
                            · have := HFd.out j hjm Y hY e
                              cases this
                            · have hjm2 : j = m := by omega
                              subst hjm2;have h1:=HF2'.out;rw [h1] at hY;cases hY
                              rw [HFd2.out];exact decide_eq_true e,HF3.out.trans G25.out (fun _ _ q=>q)⟩
                          case measure=>simp [intOf];omega
                    · have hmn : m = NN := by omega
                      have hmI:¬ (m:Int) < (NN:Int):=by omega
                      have hfin:oky=true→fd=true:=fun e=>by
                        obtain ⟨o1,o2⟩:=HOy.out;obtain ⟨Y,hY⟩:∃ Y,my=some Y:=Option.isSome_iff_exists.1 (o1.symm.trans e);have hmem:=HMem.out Y hY;obtain ⟨j,hj,ej⟩:=List.getElem_of_mem hmem;have hjl:=HFl.out.len.1;exact hfd j (by omega) Y (by rw [List.getElem?_eq_getElem hj,ej]) (by rw [o2,hY];rfl)
                      have HF3:=Hh ((HF.out.trans HF2.out (fun _ _ q=>q)).trans hf3 (fun _ _ q=>q));have HLt':=HLt.out;clear hfd hf3 hm;cases oky with
                      | false =>
                        go_wp2_with fail;go_roundw
                        case rel=>first | exact ⟨i + 1,by go_num,by omega,HF3.out⟩ | exact ⟨kk + 1,by go_num,by omega,HF3.out⟩
                        case measure=>simp [intOf];omega
                      | true =>
                        obtain rfl:fd=true:=hfin rfl;go_wp2_with fail;go_roundw
                        case rel=>first | exact ⟨i + 1,by go_num,by omega,HF3.out⟩ | exact ⟨kk + 1,by go_num,by omega,HF3.out⟩
                        case measure=>simp [intOf];omega
            · have hltI : ¬ (i : Int) < (nL : Int) + (nR : Int) := by omega
              have HF:=Hh (G13.out.trans hf (fun _ _ q=>q));clear hf hi hlt;go_wp2_with fail;go_ret;exact ⟨rfl,HF.out⟩
end Go.Proofs.YtbbbmjiloihajaaGreatDoor
