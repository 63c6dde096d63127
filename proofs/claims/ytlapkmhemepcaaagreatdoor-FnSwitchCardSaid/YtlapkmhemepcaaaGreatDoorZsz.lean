import Derived.Test.YtlapkmhemepcaaaGreatDoorZs17
import Derived.Test.YtlapkmhemepcaaaGreatDoorZsx
/- Lemmas. -/
set_option linter.all false
set_option maxHeartbeats 8000000
set_option maxRecDepth 8000
namespace Go.Proofs.YtlapkmhemepcaaaGreatDoor
open Go.RowKit
theorem CodeOK.frM {M:Nat->Prop}{w0 w w':World}{cv:Value}{L:List Int}(h0:CodeOK w0 cv L)(h:CodeOK w cv L)(hf:Fr M w w')(hM:∀q,q<w0.heap.size->¬M q):CodeOK w' cv L:=by refine⟨h.1.fr hf (λhne q hq=>hM q ?_),h.2⟩;obtain⟨b,e,hb⟩:=h0.1.block hne;rw[hq]at e;cases e;exact hb
def ya4 (w:World)(e:Ending)(w':World):Prop:=∃(v:Value) (Fi:List (List Int × List Int)),e=.returned (.agg #[v])/\NodeL (λb=>w.heap.size<=b) encI w' v Fi/\Fr NoM w w'
theorem zse (cv:Value)(L:List Int)(w:World)(h:CodeOK w cv L):Calls Tryz.prog 43 #[cv] w λe w'=>ya4 w e w':=by(obtain⟨w1,hw1⟩:=eX (w.alloc (.cells #[.slice none 0 0] 26));have f1:Fr NoM w w1:=by rw[hw1];exact(nW w).alloc _);(have hs1:w1.heap.size=w.heap.size+1:=by rw[hw1];simp);(have e1:w1.heap[w.heap.size]?=some (.cells #[.slice none 0 0] 26 (0,0)):=by rw[hw1];exact xJ w _);(obtain⟨w2,hw2⟩:=eX (w1.alloc (.cells #[cv,.int .i64 0,.int .u64 0] 69));have f2:Fr NoM w1 w2:=by rw[hw2];exact(nW w1).alloc _);(have hc2:CurS w2 w1.heap.size 0:=by rw[hw2];exact CurS.start (h.fr0 f1));(have hs2:w2.heap.size=w.heap.size+2:=by rw[hw2];simp[hs1]);obtain⟨cb,hcb⟩:=eX (w.heap.size+1);rw[hs1,<-hcb]at hc2;have HRs:=Hh (λW (f:Fr (λq=>q=cb) w2 W)=>(by{have h4:=f.heap (f2.heap e1 id) (λe=>by omega);exact⟨by rw[xX W _ 0 _ _ _ h4];rfl,by simp[World.frozen?,h4]⟩}:W.cell? ⟨w.heap.size,0,none⟩=some (.slice none 0 0)/\W.frozen? ⟨w.heap.size,0,none⟩=false));have HEnd:=Hh (λ(R:Nat->Prop) (W:World) (a:Option Addr) (c:Nat) (Fi:List (List Int × List Int)) (f:Fr (λq=>q=cb) w2 W) (hn:NodeL R encI W (.slice a Fi.length c) Fi) (hR:∀q,R q->w2.heap.size<=q)=>show ya4 w (.returned (.agg #[.slice a Fi.length c])) (W.setCell ⟨w.heap.size,0,none⟩ (.slice a Fi.length c))from by{have fs:=Fr.set W ⟨w.heap.size,0,none⟩ (.slice a Fi.length c);refine⟨_,Fi,rfl,?_,((f1.trans f2 (λ_ _ q=>q)).trans f (λq hq e=>by have e:q=cb:=e;omega):Fr NoM w W).setCell _ _ (λh=>by have h:w.heap.size<w.heap.size:=h;omega)⟩;exact(hn.fr fs (λq hq e=>by have e:q=w.heap.size:=e;have:=hR q hq;omega)).mono (λq hq=>by have:=hR q hq;show w.heap.size<=q;omega)});have HCode:=Hh (λW (f:Fr (λq=>q=cb) w2 W)=>(CodeOK.frM h ((h.fr0 f1).fr0 f2) f (λq hq e=>by have e:q=cb:=e;omega)));have HOne:=Hh (zrr cb 0 2 w2 hc2 (by omega) ⟨by omega,by omega⟩);have HS2:=Hh (show cb<w2.heap.size from by omega);obtain⟨ca,cc,rfl,zz⟩:=id h.1;clear zz h f1 hs1 e1 f2 hc2 hs2;go_enter Tryz.func43,Tryz.ntmps43;go_upto_region 2 with fail;rw[<-hw1,<-hw2,<-hcb];clear hw1 hw2 hcb;go_wp2_with fail;(with_reducible refine HOne.out.mono ?_);rintro e w3 ⟨b,rfl,c3,f3⟩;have HC3:=Hh c3;have F3:=Hh f3;clear c3 f3 HOne;cases b with| true =>{have HDs:=Hh (zmf _ L w3 (HCode.out w3 F3.out));go_wp2_with fail;(with_reducible refine HDs.out.mono ?_);rintro e w4 ⟨T1,P1,T2,P2,rfl,f4⟩;obtain⟨g1,hg1⟩:∃g:Bool,(g=true↔GoodD T1 P1):=by{by_cases h:GoodD T1 P1;{exact⟨true,by simp[h]⟩};{exact⟨false,by simp[h]⟩}};obtain⟨g2,hg2⟩:∃g:Bool,(g=true↔GoodD T2 P2):=by{by_cases h:GoodD T2 P2;{exact⟨true,by simp[h]⟩};{exact⟨false,by simp[h]⟩}};have HSw:=Hh (zfm T1 P1 T2 P2 w4 g1 g2 hg1 hg2 _ rfl);have F4:=Hh (F3.out.trans f4 (λ_ _ q=>q.elim));have HC4:=Hh (HC3.out.fr0 f4);clear f4 HDs hg1 hg2;go_wp2_with fail;(with_reducible refine HSw.out.mono ?_);rintro e w5 ⟨v,rfl,n5,f5⟩;obtain⟨Fi,hFi⟩:=eX (i2 (if swOk g1 g2 T1 P1 T2 P2=true then za5 (swC T1 P1 T2 P2)else []));obtain⟨okx,hokx⟩:=eX (swOk g1 g2 T1 P1 T2 P2);rw[<-hokx];have n5:=n5.toI;rw[<-hFi]at n5;clear hFi hokx;obtain⟨g,hg⟩:∃g:Bool,(g=true↔zd6 Fi):=by{by_cases h:zd6 Fi;{exact⟨true,by simp[h]⟩};{exact⟨false,by simp[h]⟩}};obtain⟨va,vc,rfl,zz⟩:=id n5;obtain⟨W6,hW6⟩:=eX (w5.alloc (.cells #[.slice va Fi.length vc] 26));obtain⟨b6,hb6⟩:=eX w5.heap.size;have g6:Fr NoM w4 W6:=f5.trans (show Fr NoM w5 W6 by rw[hW6];exact(nW w5).alloc _) (λ_ _ q=>q);have B6:=Hh (show BoxI W6 b6 _ _ _ from by rw[hb6];exact BoxI.made n5 hW6);have HGd:=Hh (ztu _ Fi W6 B6.out.node g hg);have F6:=Hh (F4.out.trans g6 (λ_ _ q=>q.elim));have HC6:=Hh (HC4.out.fr0 g6);have HZ4:=Hh F4.out.size;clear zz n5 f5 hg g6 HSw;go_upto_region 4 with fail;rw[<-hW6,<-hb6];clear hW6 hb6;have k0:=B6.out.cell;go_wp2_with fail;(with_reducible refine HGd.out.mono ?_);rintro e w7 ⟨rfl,f7⟩;have F7:=Hh (F6.out.trans f7 (λ_ _ q=>q.elim));have HC7:=Hh (HC6.out.fr0 f7);have B7:=Hh (B6.out.fr0 f7);clear f7 k0 HGd;cases g with| true =>{have k0:=B7.out.cell;obtain⟨k1,k2⟩:=HRs.out w7 F7.out;go_wp2;refine yJ (v:=.agg #[.slice va Fi.length vc]) (by simp[results,Tryz.results43,go_sem,k1,k2]) rfl ?_;exact HEnd.out _ w7 va vc Fi F7.out B7.out.node (λq hq=>kJ HZ4.out hq)}| false =>{have hany:=zmm cb (0+2) 2 w7 HC7.out (by omega) (by omega);rw[show((2:Nat):Int)=2 from rfl]at hany;have HAny:=Hh hany;clear hany;go_wp2_with fail;(with_reducible refine HAny.out.mono ?_);rintro e w8 ⟨v8,F8,rfl,n8,_,f8,_⟩;have G8:=Hh (F7.out.trans f8 (λ_ _ q=>q));have HN8:=Hh n8;obtain⟨k1,k2⟩:=HRs.out w8 G8.out;obtain⟨xa,xc,rfl,zz⟩:=id n8;clear zz n8 f8 HAny;go_wp2;refine yJ (v:=.agg #[.slice xa F8.length xc]) (by simp[results,Tryz.results43,go_sem,k1,k2]) rfl ?_;exact HEnd.out _ w8 xa xc F8 G8.out HN8.out (λq hq=>kJ F7.out.size hq)}}| false =>{have hany:=zmm cb (0+2) 2 w3 HC3.out (by omega) (by omega);rw[show((2:Nat):Int)=2 from rfl]at hany;have HAny:=Hh hany;clear hany;go_wp2_with fail;(with_reducible refine HAny.out.mono ?_);rintro e w8 ⟨v8,F8,rfl,n8,_,f8,_⟩;have G8:=Hh (F3.out.trans f8 (λ_ _ q=>q));have HN8:=Hh n8;obtain⟨k1,k2⟩:=HRs.out w8 G8.out;obtain⟨xa,xc,rfl,zz⟩:=id n8;clear zz n8 f8 HAny;go_wp2;refine yJ (v:=.agg #[.slice xa F8.length xc]) (by simp[results,Tryz.results43,go_sem,k1,k2]) rfl ?_;exact HEnd.out _ w8 xa xc F8 G8.out HN8.out (λq hq=>kJ F3.out.size hq)}
noncomputable def optF (Fs:List PL)(L:List Nat):List (List PL):=L.map λi=>za5 ((za0 Fs).getD i 0)
noncomputable def yb3 (Fs:List PL):List (List PL):=optF Fs (za2 Fs (Fs.length-1)).1
noncomputable def yb2 (Fs:List PL):List (List PL):=optF Fs (za2 Fs (Fs.length-1)).2
theorem zp6 {Fs:List PL}{L:List Nat}{k x:Nat}(h:L[k]?=some x):optF Fs (L.take (k+1))=optF Fs (L.take k) ++ [za5 ((za0 Fs).getD x 0)]:=by obtain⟨hk,e⟩:=xV.1 h;unfold optF;rw[yQ hk,vK,e];rfl
theorem yer {D b:Nat}{W:World}(h:W.ownsRow D 26 1 (.slice (some ⟨b,0,none⟩) 0 0) 0 []):GRow D W (.slice (some ⟨b,0,none⟩) 0 0) [] [] (λ_=>False) :=
 ⟨h,rfl,λj nv Fm h1 _=>by simp at h1,λ_ q=>q.elim⟩
def ych (Fs:List PL)(w:World)(e:Ending)(w':World):Prop:=∃(lv rv:Value) (VL VR:List Value) (TL TR:Nat->Prop),e=.returned (.tuple #[lv,rv])/\GRow w.heap.size w' lv VL (yb3 Fs) TL/\GRow w.heap.size w' rv VR (yb2 Fs) TR/\Fr NoM w w'
theorem zs5 {R:Nat->Prop}(nv:Value)(Fs:List PL)(w:World)(h:NodeL R encN w nv Fs)(hgd:ye9 Fs):Calls Tryz.prog 142 #[.agg #[nv]] w λe w'=>ych Fs w e w':=by
 obtain⟨w1,hw1⟩:=eX (w.alloc (.cells #[nv] 26));have f1:Fr NoM w w1:=by rw[hw1];exact(nW w).alloc _
 have hs1:w1.heap.size=w.heap.size+1:=by rw[hw1];simp
 have e0:w1.heap[w.heap.size]?=some (.cells #[nv] 26 (0,0)):=by rw[hw1];exact xJ w _
 obtain⟨w2,hw2⟩:=eX ((w1.alloc (.cells #[] 26)).alloc (.cells #[] 26));have f2:Fr NoM w1 w2:=by rw[hw2];exact((nW w1).alloc _).alloc _
 have hs2:w2.heap.size=w1.heap.size+2:=by rw[hw2];simp
 have ml:w2.ownsRow w.heap.size 26 1 (.slice (some ⟨w1.heap.size,0,none⟩) 0 0) 0 []:=by
  rw[hw2];exact zb6 ((yW w1 #[] 0 (xW _) (by decide) (by simp)).alloc _) (by omega)
 have mr:w2.ownsRow w.heap.size 26 1 (.slice (some ⟨w1.heap.size+1,0,none⟩) 0 0) 0 []:=by
  rw[hw2];have h:=yW (base:=w.heap.size) (e:=26) (size:=1) (w1.alloc (.cells #[] 26)) #[] 0 (by simp;omega) (by decide) (by simp);simp only[xZ]at h;exact h
 obtain⟨g1,g2,g3,g4,g5⟩:=id hgd;obtain⟨n,hn⟩:=eX Fs.length;obtain⟨na,nc,rfl,_,_,hnn⟩:=id h;obtain⟨b0,o0,lv0,rv0,ha0,_,c1,c2,n1,n2,_,_⟩:=hnn (n-1) _ (za7 (by omega));have hcast:((n:Int)-1)=((n-1:Nat):Int):=by omega
 have ixn:=zba na n nc (n-1) b0 o0 (by omega) ha0;obtain⟨Lx,hLx⟩:=eX ((za2 Fs (n-1)).1);obtain⟨Rx,hRx⟩:=eX ((za2 Fs (n-1)).2);rw[<-hLx]at n1;rw[<-hRx]at n2;obtain⟨q1,q2⟩:=g4.opts _ _ (za7 (show n-1<Fs.length by omega));have hlens:=g3 _ (xK (za7 (show n-1<Fs.length by omega)));rw[<-hLx,<-hRx]at hlens;rw[<-hLx]at q1;rw[<-hRx]at q2;obtain⟨la,lc,rfl,_,_,hlc⟩:=id n1;obtain⟨ra,rc,rfl,_,_,hrc⟩:=id n2;obtain⟨W3,hW3⟩:=eX (w2.alloc (.cells #[.slice la Lx.length lc,.slice ra Rx.length rc] 102));have f3:Fr NoM w2 W3:=by rw[hW3];exact(nW w2).alloc _
 have e3:W3.heap[w2.heap.size]?=some (.cells #[.slice la Lx.length lc,.slice ra Rx.length rc] 102 (0,0)):=by rw[hW3];exact xJ w2 _
 have f12:=f1.trans f2 (λ_ _ q=>q);have k0:w2.cell? ⟨w.heap.size,0,none⟩=some (.slice na n nc):=by rw[xX w2 _ 0 _ _ _ (f2.heap e0 id),hn];rfl
 have d1:w2.cell? ⟨b0,o0+(n-1)*2,none⟩=some (.slice la Lx.length lc):=f12.cell c1 id;have d2:w2.cell? ⟨b0,o0+(n-1)*2+1,none⟩=some (.slice ra Rx.length rc):=f12.cell c2 id;obtain⟨bn,hbn⟩:=eX w2.heap.size;have f13:=f12.trans f3 (λ_ _ q=>q);rw[<-hbn]at e3;have hfr:=λW (f:Fr (λq=>q=w1.heap.size\/q=w1.heap.size+1) W3 W)=>(f13.trans f (λq hq e=>by rcases e with e|e <;> omega):Fr NoM w W)
 have HK:=Hh (λW (f:Fr (λq=>q=w1.heap.size\/q=w1.heap.size+1) W3 W)=>show W.cell? ⟨w.heap.size,0,none⟩=some (.slice na n nc)/\W.cell? ⟨bn,0,none⟩=some (.slice la Lx.length lc)/\W.cell? ⟨bn,1,none⟩=some (.slice ra Rx.length rc)from
  ⟨by rw[xX W _ 0 _ _ _ (f.heap (f3.heap (f2.heap e0 id) id) (λe=>by rcases e with e|e <;> omega)),hn];rfl,by rw[xX W _ 0 _ _ _ (f.heap e3 (λe=>by rcases e with e|e <;> omega))];rfl,by rw[xX W _ 1 _ _ _ (f.heap e3 (λe=>by rcases e with e|e <;> omega))];rfl⟩)
 have HLc:=Hh (λ(k:Nat) (hk:k<Lx.length)=>show ∃x b o,Lx[k]?=some x/\la=some ⟨b,o,none⟩/\x<n/\∀W,Fr (λq=>q=w1.heap.size\/q=w1.heap.size+1) W3 W->W.cell? ⟨b,o+k,none⟩=some (.int .i64 (x:Int))from by
  obtain⟨b,o,ha,c⟩:=hlc k _ (xQ hk);exact⟨_,b,o,xQ hk,ha,by have:=q1 _ (vZ hk);omega,λW f=>(hfr W f).cell c id⟩)
 have HRc:=Hh (λ(k:Nat) (hk:k<Rx.length)=>show ∃x b o,Rx[k]?=some x/\ra=some ⟨b,o,none⟩/\x<n/\∀W,Fr (λq=>q=w1.heap.size\/q=w1.heap.size+1) W3 W->W.cell? ⟨b,o+k,none⟩=some (.int .i64 (x:Int))from by
  obtain⟨b,o,ha,c⟩:=hrc k _ (xQ hk);exact⟨_,b,o,xQ hk,ha,by have:=q2 _ (vZ hk);omega,λW f=>(hfr W f).cell c id⟩)
 have HPt:=Hh (λW (f:Fr (λq=>q=w1.heap.size\/q=w1.heap.size+1) W3 W) (x:Nat) (hx:x<n)=>by
  have h:=zs4 (.slice na Fs.length nc) Fs W (h.fr0 (hfr W f)) hgd x (by omega);rw[<-hn]at h;exact h)
 have HGl:=Hh (show GRow w.heap.size W3 (.slice (some ⟨w1.heap.size,0,none⟩) 0 0) [] (optF Fs (Lx.take 0)) (λ_=>False)from yer (za1 ml f3 (λ_ _ q=>q)));have HGr:=Hh (za1 mr f3 (λ_ _ q=>q));have HLL:=Hh (show Lx=(za2 Fs (Fs.length-1)).1/\Rx=(za2 Fs (Fs.length-1)).2 from⟨by rw[hLx,hn],by rw[hRx,hn]⟩);have F13:=Hh hfr;have HS:=Hh (show w1.heap.size=w.heap.size+1/\w1.heap.size+2<=W3.heap.size/\w.heap.size<=W3.heap.size from⟨hs1,by have:=f3.size;omega,f13.size⟩);have HLe:=Hh hlens;have hl9:Lx.length<=120:=hlens.1;have hr9:Rx.length<=120:=hlens.2;have hn9:n<=120:=by omega
 rw[<-hn]at hw1 ⊢;have Hn:=Hh hn;clear hn;clear hfr h hgd f1 hs1 e0 f2 hs2 ml mr g1 g2 g3 g4 g5 hnn c1 c2 n1 n2 q1 q2 hlens hLx hRx hlc hrc f3 e3 f12 f13 ha0;go_enter Tryz.func142,Tryz.ntmps142;go_upto_region 1 with fail;rw[<-hw1];clear hw1;go_upto_region 2 with fail;rw[<-hw2];clear hw2;go_upto_region 3 with fail;rw[<-hW3,<-hbn];clear hW3 hbn k0 d1 d2 ixn hcast;go_wp2_with fail;go_loopw [4,7] (λv4 v7 W=>∃(k:Nat) (lv:Value) (VS:List Value) (Tb:Nat->Prop),lv=v4/\v7=.int .i64 (k:Int)/\k<=Lx.length/\GRow w.heap.size W lv VS (optF Fs (Lx.take k)) Tb/\(∀q,Tb q->W3.heap.size<=q)/\(∀q,lv.ownBlock=some q->q=w1.heap.size\/W3.heap.size<=q)/\Fr (λq=>q=w1.heap.size) W3 W) (λ_ v7 _=>Lx.length-(intOf v7).toNat)
 case atStart=>exact⟨0,_,[],_,rfl,rfl,yK _,HGl.out,λq e=>e.elim,λq e=>.inl (yY e).symm,Fr.refl _ _⟩
 case round =>
  obtain⟨k,lv,VS,Tb,rfl,rfl,hk,hg,hT,hv,hf0⟩:=hrel;obtain⟨w7,rfl⟩:=eX wr;have hf:Fr (λq=>q=w1.heap.size\/q=w1.heap.size+1) W3 w7:=hf0.mono (λ_ _ e=>.inl e);obtain⟨k0,k1,k2⟩:=HK.out w7 hf;by_cases hlt:k<Lx.length
  ·have hltI:(k:Int)<(Lx.length:Int):=by omega
   obtain⟨x,b5,o5,hx,ha5,hxn,hcx⟩:=HLc.out k hlt;have ix:=za8 la Lx.length lc k b5 o5 hlt ha5;have d5:=hcx w7 hf;obtain⟨FX,hFX⟩:=eX (za5 ((za0 Fs).getD x 0));have HPx:=Hh (λW (f:Fr NoM w7 W)=>by
    have h:=HPt.out W (hf.trans f (λ_ _ q=>q.elim)) x hxn;rw[<-hFX]at h;exact h)
   have HFX:=Hh hFX;clear hFX;have HC:=Hh (λW (f:Fr NoM w7 W)=>show W.cell? ⟨w.heap.size,0,none⟩=some (.slice na n nc)/\W.cell? ⟨bn,0,none⟩=some (.slice la Lx.length lc)/\W.cell? ⟨b5,o5+k,none⟩=some (.int .i64 (x:Int))from
    ⟨(HK.out W (hf.trans f (λ_ _ q=>q.elim))).1,(HK.out W (hf.trans f (λ_ _ q=>q.elim))).2.1,hcx W (hf.trans f (λ_ _ q=>q.elim))⟩)
   have HG:=Hh hg;have HT:=Hh hT;have HV:=Hh hv;have HF:=Hh hf;have HF0:=Hh hf0;have HX:=Hh hx;have hvl:VS.length=k:=by have h1:=hg.len;unfold optF at h1;rw[uV,kK]at h1;omega
   have HVl:=Hh hvl;have HZ:=Hh (show W3.heap.size<=w7.heap.size/\w.heap.size<=w7.heap.size from⟨hf.size,by have h1:=hf.size;have h2:=HS.out;omega⟩);have hk30:k<=120:=by omega
   clear hg hT hv hf hf0 hx ha5 hcx hvl;have G0:Fr NoM w7 w7.drew:=(nW w7).drew;go_upto_region 6 with fail;go_region_law (first
    | (refine zks rfl (.tmp 26) (.tmp 34) 59 rfl w.heap.size 26 _ 1 24 Tryz.underlying59 zkd rfl (by decide) lv VS.length VS rfl (by exact za1 HG.out.row g8a (λ_ _ q=>q)) w8.heap.size rfl [.slice a8 FX.length c8] 26 (by exact xJ w8 _) rfl (by intro u hu;simp at hu;subst hu;rfl) (by have:=HVl.out;omega) (by decide) (by have h1:=g8.size;have h2:=HZ.out;rw[xZ];omega) ?_;intro v9 w9 h9 f9 s9)
    | (go_simp;first
     | (go_at_call 148;(with_reducible refine(HPx.out _ G0).mono ?_);rintro e w8 ⟨v8,rfl,o8,f8⟩;obtain⟨a8,c8,rfl⟩:=o8.nodeT.val;have g8:Fr NoM w7 w8:=G0.trans f8 (λ_ _ q=>q);have g8a:Fr NoM w7 (w8.alloc (.cells #[.slice a8 FX.length c8] 26)):=g8.alloc _)
     | fail)
    | fail)
   all_goals
    have HO8:=Hh (show NodeT w7.heap.size (λq=>w7.heap.size<=q/\q<w8.heap.size) w8 (.slice a8 FX.length c8) FX from o8.nodeT);have hsn:=HG.out.snoc (Wa:=w8.alloc (.cells #[.slice a8 FX.length c8] 26)) (T':=λq=>Tb q\/w7.heap.size<=q/\q<w8.heap.size) (Fm:=FX) g8a h9 f9 (by first|exact s9|(rw[xZ];exact s9))
     (((HO8.out.fr0 ((nW w8).alloc _)).base HZ.out.2).mono (λq hq=>.inr hq)) (λq hq=>.inl hq) (λq hq=>by
      have h8:=g8.size;have hz:=HZ.out;rw[xZ];rcases hq with hq|hq
      ·have h1:=HG.out.sep q hq;exact⟨h1.1,by omega,h1.2.2⟩
      ·exact⟨by omega,by omega,λe=>by have:=(HG.out.row.lt q e).2;omega⟩)
    have k9:Fr (λq=>q=w1.heap.size) W3 w9:=(HF0.out.trans g8a (λ_ _ q=>q.elim)).trans f9 (λq hq e=>by
     rcases HV.out q e with h1|h1
     ·exact h1
     ·omega)
    have HSn:=Hh hsn;have K9:=Hh k9;have S9:=Hh (And.intro s9 g8.size);clear h9 f9 s9 hsn k9 g8 g8a o8 f8 d5 k0 k1 k2 G0;go_wp2_with fail;go_roundw
    case rel =>
     refine⟨k+1,v9,_,_,rfl,by go_num,by omega,by rw[zp6 HX.out,<-HFX.out];exact HSn.out,λq hq=>?_,λq hq=>?_,K9.out⟩
     ·rcases hq with hq|hq
      ·exact HT.out q hq
      ·have hz:=HZ.out;omega
     ·obtain⟨s9,z8⟩:=S9.out
      rcases s9 with s|⟨b,s,hb⟩
      ·exact HV.out q (by rw[<-s];exact hq)
      ·rw[hq]at s;cases s
       have hz:=HZ.out;try rw[xZ]at hb
       exact .inr (by omega)
    case measure=>simp[intOf];omega
  ·have hltI:¬(k:Int)<(Lx.length:Int):=by omega
   obtain rfl:k=Lx.length:=by omega
   rw[vQ]at hg;have HG:=Hh hg;have HT:=Hh hT;have HV:=Hh hv;have HF0:=Hh hf0;have HF:=Hh hf;have mr4:=Hh (show GRow w.heap.size w7 (.slice (some ⟨w1.heap.size+1,0,none⟩) 0 0) [] (optF Fs (Rx.take 0)) (λ_=>False)from yer (za1 HGr.out hf0 (λq hq e=>by have h1:w1.heap.size+1=q:=yY hq;have e:q=w1.heap.size:=e;omega)));clear hg hT hv hf0 hf hlt hltI hk;go_wp2_with fail;go_loopw [5,8] (λv5 v8 W=>∃(k:Nat) (rv:Value) (VS:List Value) (Tb:Nat->Prop),rv=v5/\v8=.int .i64 (k:Int)/\k<=Rx.length/\GRow w.heap.size W rv VS (optF Fs (Rx.take k)) Tb/\(∀q,Tb q->w7.heap.size<=q)/\(∀q,rv.ownBlock=some q->q=w1.heap.size+1\/w7.heap.size<=q)/\Fr (λq=>q=w1.heap.size+1) w7 W) (λ_ v8 _=>Rx.length-(intOf v8).toNat)
   case atStart=>exact⟨0,_,[],_,rfl,rfl,yK _,mr4.out,λq e=>e.elim,λq e=>.inl (yY e).symm,Fr.refl _ _⟩
   case round =>
    obtain⟨k,rv,VR,TR,rfl,rfl,hk,hg,hT,hv,hf0⟩:=hrel;obtain⟨w17,rfl⟩:=eX wr;have hf:Fr (λq=>q=w1.heap.size\/q=w1.heap.size+1) W3 w17:=HF.out.trans (hf0.mono (λ_ _ e=>.inr e)) (λ_ _ e=>e);clear k0 k1 k2;obtain⟨k0,k1,k2⟩:=HK.out w17 hf;by_cases hlt:k<Rx.length
    ·have hltI:(k:Int)<(Rx.length:Int):=by omega
     obtain⟨x,b5,o5,hx,ha5,hxn,hcx⟩:=HRc.out k hlt;have ix:=za8 ra Rx.length rc k b5 o5 hlt ha5;have d5:=hcx w17 hf;obtain⟨FX,hFX⟩:=eX (za5 ((za0 Fs).getD x 0));have HPx:=Hh (λW (f:Fr NoM w17 W)=>by
      have h:=HPt.out W (hf.trans f (λ_ _ q=>q.elim)) x hxn;rw[<-hFX]at h;exact h)
     have HFX:=Hh hFX;clear hFX;have HC:=Hh (λW (f:Fr NoM w17 W)=>show W.cell? ⟨w.heap.size,0,none⟩=some (.slice na n nc)/\W.cell? ⟨bn,1,none⟩=some (.slice ra Rx.length rc)/\W.cell? ⟨b5,o5+k,none⟩=some (.int .i64 (x:Int))from
      ⟨(HK.out W (hf.trans f (λ_ _ q=>q.elim))).1,(HK.out W (hf.trans f (λ_ _ q=>q.elim))).2.2,hcx W (hf.trans f (λ_ _ q=>q.elim))⟩)
     have HGR:=Hh hg;have HTR:=Hh hT;have HVR:=Hh hv;have HFR:=Hh hf;have HF0R:=Hh hf0;have HX:=Hh hx;have hvl:VR.length=k:=by have h1:=hg.len;unfold optF at h1;rw[uV,kK]at h1;omega
     have HVl:=Hh hvl;have HZ:=Hh (show W3.heap.size<=w17.heap.size/\w.heap.size<=w17.heap.size from⟨hf.size,by have h1:=hf.size;have h2:=HS.out;omega⟩);have HZr:=Hh (show w7.heap.size<=w17.heap.size from hf0.size);have hk30:k<=120:=by omega
     clear hg hT hv hf hf0 hx ha5 hcx hvl;have G0:Fr NoM w17 w17.drew:=(nW w17).drew;go_upto_region 10 with fail;go_region_law (first
      | (refine zks rfl (.tmp 43) (.tmp 51) 59 rfl w.heap.size 26 _ 1 24 Tryz.underlying59 zkd rfl (by decide) rv VR.length VR rfl (by exact za1 HGR.out.row g8a (λ_ _ q=>q)) w8.heap.size rfl [.slice a8 FX.length c8] 26 (by exact xJ w8 _) rfl (by intro u hu;simp at hu;subst hu;rfl) (by have:=HVl.out;omega) (by decide) (by have h1:=g8.size;have h2:=HZ.out;rw[xZ];omega) ?_;intro v9 w9 h9 f9 s9)
      | (go_simp;first
       | (go_at_call 148;(with_reducible refine(HPx.out _ G0).mono ?_);rintro e w8 ⟨v8,rfl,o8,f8⟩;obtain⟨a8,c8,rfl⟩:=o8.nodeT.val;have g8:Fr NoM w17 w8:=G0.trans f8 (λ_ _ q=>q);have g8a:Fr NoM w17 (w8.alloc (.cells #[.slice a8 FX.length c8] 26)):=g8.alloc _)
       | fail)
      | fail)
     all_goals
      have HO8:=Hh (show NodeT w17.heap.size (λq=>w17.heap.size<=q/\q<w8.heap.size) w8 (.slice a8 FX.length c8) FX from o8.nodeT);have hsn:=HGR.out.snoc (Wa:=w8.alloc (.cells #[.slice a8 FX.length c8] 26)) (T':=λq=>TR q\/w17.heap.size<=q/\q<w8.heap.size) (Fm:=FX) g8a h9 f9 (by first|exact s9|(rw[xZ];exact s9))
       (((HO8.out.fr0 ((nW w8).alloc _)).base HZ.out.2).mono (λq hq=>.inr hq)) (λq hq=>.inl hq) (λq hq=>by
        have h8:=g8.size;have hz:=HZ.out;rw[xZ];rcases hq with hq|hq
        ·have h1:=HGR.out.sep q hq;exact⟨h1.1,by omega,h1.2.2⟩
        ·exact⟨by omega,by omega,λe=>by have:=(HGR.out.row.lt q e).2;omega⟩)
      have k9:Fr (λq=>q=w1.heap.size+1) w7 w9:=(HF0R.out.trans g8a (λ_ _ q=>q.elim)).trans f9 (λq hq e=>by
       rcases HVR.out q e with h1|h1
       ·exact h1
       ·omega)
      have HSn:=Hh hsn;have K9:=Hh k9;have S9:=Hh (And.intro s9 g8.size);clear h9 f9 s9 hsn k9 g8 g8a o8 f8 d5 k0 k1 k2 G0;go_wp2_with fail;go_roundw
      case rel =>
       refine⟨k+1,v9,_,_,rfl,by go_num,by omega,by rw[zp6 HX.out,<-HFX.out];exact HSn.out,λq hq=>?_,λq hq=>?_,K9.out⟩
       ·rcases hq with hq|hq
        ·exact HTR.out q hq
        ·have hz:=HZr.out;omega
       ·obtain⟨s9,z8⟩:=S9.out
        rcases s9 with s|⟨b,s,hb⟩
        ·exact HVR.out q (by rw[<-s];exact hq)
        ·rw[hq]at s;cases s
         have hz:=HZr.out;try rw[xZ]at hb
         exact .inr (by omega)
      case measure=>simp[intOf];omega
    ·have hltI:¬(k:Int)<(Rx.length:Int):=by omega
     obtain rfl:k=Rx.length:=by omega
     rw[vQ]at hg;have HGR:=Hh hg;have HF17:=Hh hf;have HF0R:=Hh hf0;clear hg hT hv hf0 hf hlt hltI hk;go_wp2_with fail;refine yJ (v:=.tuple #[lv,rv]) (by simp[results,Tryz.results142,go_sem]) rfl ?_
     refine⟨lv,rv,VS,VR,Tb,TR,rfl,?_,?_,F13.out w17 HF17.out⟩
     ·have e:yb3 Fs=optF Fs Lx:=by unfold yb3;rw[HLL.out.1]
      rw[e];refine HG.out.fr HF0R.out (λq hq e=>?_) (λq hq e=>?_)
      ·have e:q=w1.heap.size+1:=e
       have h1:=HV.out q hq;have h2:=HS.out;rcases h1 with h1|h1 <;> omega
      ·have e:q=w1.heap.size+1:=e
       have h1:=HT.out q hq;have h2:=HS.out;omega
     ·have e:yb2 Fs=optF Fs Rx:=by unfold yb2;rw[HLL.out.2]
      rw[e];exact HGR.out
theorem FormsL.at {R:Nat->Prop}{w:World}{a:Option Addr}{n c:Nat}{FL:List (List PL)}(h:FormsL R w (.slice a n c) FL){j:Nat}(hj:j<n) : ∃nv Fm b off,FL[j]?=some Fm/\a=some ⟨b,off,none⟩/\w.cell? ⟨b,off+j,none⟩=some nv/\NodeL R encN w nv Fm:=by obtain⟨VS,⟨a',c',e,_,_,hc⟩,h2,h3⟩:=h;obtain⟨rfl,rfl,rfl⟩:=Value.slice.inj e;obtain⟨nv,hnv⟩:∃nv,VS[j]?=some nv:=⟨_,xQ hj⟩;obtain⟨Fm,hFm⟩:∃Fm,FL[j]?=some Fm:=⟨_,xQ (by omega)⟩;obtain⟨b,off,ha,hcc⟩:=hc j nv hnv;exact⟨nv,Fm,b,off,hFm,ha,hcc,h3 j nv Fm hnv hFm⟩
theorem GRow.slice {D:Nat}{W:World}{v:Value}{VS:List Value}{FSs:List (List PL)}{T:Nat->Prop}(h:GRow D W v VS FSs T){n:Nat}(hn:FSs.length=n):∃a c,v=.slice a n c/\FormsL (λ_=>True) W (.slice a n c) FSs:=by(obtain⟨a,c,e,_⟩:=h.cell;have h1:=h.len;have e2:VS.length=n:=by omega);rw[e2]at e;exact⟨a,c,e,by rw[<-e];exact h.forms.mono (λ_ _=>trivial)⟩
