import Derived.Test.YtlapkmhemepcaaaGreatDoorZi2
import Derived.Test.YtlapkmhemepcaaaGreatDoorZib
/- Lemmas. -/
set_option linter.all false
set_option maxHeartbeats 16000000
set_option maxRecDepth 8000
namespace Go.Proofs.YtlapkmhemepcaaaGreatDoor
open Go.RowKit
section
variable {w1 W W' Wa:World}{bb:Nat}{V:List PL}{BV:List Nat}{S S':Nat->Prop}{v1 v2 v3 v4:Value}{A1 c1 A2 c2 A3 c3:List Nat}{x c:Nat}
theorem BkSt.swap12 (a:BkSt w1 W bb V BV S v1 A1 c1 v2 A2 c2 v3 A3 c3):BkSt w1 W bb V BV S v2 A2 c2 v1 A1 c1 v3 A3 c3 :=
 ⟨a.book,a.ok,a.sub,a.o2,a.o1,a.o3,a.n2,a.n1,a.n3,λb c d=>a.s12 b d c,a.s23,a.s13,a.r2,a.r1,a.r3,a.fr⟩
theorem BkSt.swap13 (a:BkSt w1 W bb V BV S v1 A1 c1 v2 A2 c2 v3 A3 c3):BkSt w1 W bb V BV S v3 A3 c3 v2 A2 c2 v1 A1 c1 :=
 ⟨a.book,a.ok,a.sub,a.o3,a.o2,a.o1,a.n3,a.n2,a.n1,λb c d=>a.s23 b d c,λb c d=>a.s13 b d c,λb c d=>a.s12 b d c,a.r3,a.r2,a.r1,a.fr⟩
theorem BkSt.rows (b:BkSt w1 W bb V BV S v1 A1 c1 v2 A2 c2 v3 A3 c3)(g:W'=(W.alloc (.cells #[] 3)).alloc (.cells #[] 3)) :
  BkSt w1 W' bb V BV S v1 A1 c1 (.slice (some ⟨W.heap.size,0,none⟩) 0 0) [] [] (.slice (some ⟨W.heap.size+1,0,none⟩) 0 0) [] []:=by
 have i:Fr NoM W W':=by rw[g];exact((nW W).alloc _).alloc _
 have d:=b;have b:=b.fr0 i;have m:W'.heap.size=W.heap.size+2:=by rw[g];simp
 have n:=b.fr.size;have j:W'.ownsRow W.heap.size 3 1 (.slice (some ⟨W.heap.size,0,none⟩) 0 0) 0 []:=by
  rw[g];exact za1 (y3 W #[] 0 (xW _) (by decide) (by simp)) ((nW _).alloc _) kP
 have k:W'.ownsRow (W.heap.size+1) 3 1 (.slice (some ⟨W.heap.size+1,0,none⟩) 0 0) 0 []:=by
  have b:((W.alloc (.cells #[] 3)).alloc (.cells #[] 3)).ownsRow (W.alloc (.cells #[] 3)).heap.size 3 1 (.slice (some ⟨(W.alloc (.cells #[] 3)).heap.size,0,none⟩) 0 0) 0 []:=y3 (W.alloc (.cells #[] 3)) #[] 0 (xW _) (by decide) (by simp);rw[xZ,<-g]at b;exact b
 exact⟨b.book,b.ok,b.sub,b.o1,zb1 j d.fr.size,zb1 k (by have:=d.fr.size;omega),b.n1,λa c h=>by
   have f:W.heap.size=a:=yK c;have:=(d.sub a h).2;omega,λa c h=>by
   have f:W.heap.size+1=a:=yK c;have:=(d.sub a h).2;omega,λa c e=>by
   have f:W.heap.size=a:=yK e;have:=(d.o1.lt a c).2;omega,λa c e=>by
   have f:W.heap.size+1=a:=yK e;have:=(d.o1.lt a c).2;omega,λa c e=>by
   have f:W.heap.size=a:=yK c;have l:W.heap.size+1=a:=yK e;omega,b.r1,RowC.nil _,RowC.nil _,b.fr⟩
theorem BkSt.close (b:BkSt w1 W bb V BV S v1 A1 c1 v2 A2 c2 v3 A3 c3):BkSt w1 W bb V BV S v1 A1 c1 (.slice none 0 0) [] [] (.slice none 0 0) [] [] :=
 ⟨b.book,b.ok,b.sub,b.o1,World.ownsRow_nil W _ _ _,World.ownsRow_nil W _ _ _,b.n1,(λc a=>by cases a),(λc a=>by cases a),(λc _ a=>by cases a),(λc _ a=>by cases a),(λc a=>by cases a),b.r1,RowC.nil _,RowC.nil _,b.fr⟩
theorem BkSt.put {e f n o:List Nat}(a:BkSt w1 W bb V BV S v1 A1 c1 v2 A2 c2 v3 A3 c3)(q:RowC V e n)(r:RowC V f o)(p:BookS (λg=>S g\/W.heap.size<=g) W' bb (putB V BV e f).1 (putB V BV e f).2.1)(h:Fr (zdb W bb) W W') : BkSt w1 W' bb (za5 V BV e f).1 (za5 V BV e f).2.1 (λg=>(S g\/W.heap.size<=g)/\g<W'.heap.size) v1 A1 c1 v2 A2 c2 v3 A3 c3/\(putB V BV e f).2.2<(za5 V BV e f).1.length/\(za0 (za5 V BV e f).1).getD (putB V BV e f).2.2 0=mkC n o ∧ V <+: (za5 V BV e f).1/\(za5 V BV e f).1.length<=V.length+1:=by obtain⟨s,k,t,u⟩:=zg0 a.ok q r;obtain⟨_,v,_⟩:=zdx V BV e f;rw[zd2 a.ok]at p ⊢;have i:=a.book.m;have w:=a.fr.size;refine⟨⟨p.cut,s,λj l=>⟨l.1.elim (λc=>(a.sub j c).1) (λc=>by omega),l.2⟩,za1 a.o1 h (λb c d=>a.n1 b c (i b d)),za1 a.o2 h (λb c d=>a.n2 b c (i b d)),za1 a.o3 h (λb c d=>a.n3 b c (i b d)),λb c d=>d.1.elim (a.n1 b c) (λg=>by have:=(a.o1.lt b c).2;omega),λb c d=>d.1.elim (a.n2 b c) (λg=>by have:=(a.o2.lt b c).2;omega),λb c d=>d.1.elim (a.n3 b c) (λg=>by have:=(a.o3.lt b c).2;omega),a.s12,a.s13,a.s23,a.r1.mono k,a.r2.mono k,a.r3.mono k,a.fr.trans h (λj l d=>by have:=(a.sub j (i j d)).1;omega)⟩,t,u,k,v⟩
end
theorem ykc {Fs:List PL}(a:∀y∈Fs,y.1.length<=24/\y.2.length<=24){i:Nat}{y:PL}(b:Fs[i]?=some y):y.1.length<=24/\y.2.length<=24:=a y (xK b)
theorem ycm {R S0:Nat->Prop}(v1 v2:Value)(Fs z:List PL)(w:World)(O:NodeL R encN w v1 Fs)(h2:NodeL S0 encN w v2 z)(oF:OptsOK Fs)(oG:OptsOK z)(lF:∀aI∈Fs,aI.1.length<=24/\aI.2.length<=24)(lG:∀aI∈z,aI.1.length<=24/\aI.2.length<=24)(pF:0<Fs.length)(pG:0<z.length)(aY:Fs.length*z.length<=1600) :
  Calls Tryz.prog 120 #[.agg #[v1],.agg #[v2]] w λZ w'=>∃v',Z=.returned (.agg #[v'])/\NodeL (λad=>w.heap.size<=ad) encN w' v' (zad (sumC (zaf Fs) (zaf z)))/\Fr NoM w w':=by
 obtain⟨s,ag⟩:=eX (((w.alloc (.cells #[v1] 26)).alloc (.cells #[v2] 26)).alloc (.cells #[.slice none 0 0] 26));have f3:Fr NoM w s:=by rw[ag];exact(((nW w).alloc _).alloc _).alloc _
 have b8:s.heap.size=w.heap.size+3:=by rw[ag];simp
 have e0:s.heap[w.heap.size]?=some (.cells #[v1] 26 (0,0)):=by rw[ag];exact(((nW _).alloc _).alloc _).heap (xJ w _) id
 have e1:s.heap[w.heap.size+1]?=some (.cells #[v2] 26 (0,0)):=by
  have g:=xJ (w.alloc (.cells #[v1] 26)) (.cells #[v2] 26);rw[xZ]at g;rw[ag];exact((nW _).alloc _).heap g id
 have e2:s.heap[w.heap.size+2]?=some (.cells #[.slice none 0 0] 26 (0,0)):=by
  have g:=xJ ((w.alloc (.cells #[v1] 26)).alloc (.cells #[v2] 26)) (.cells #[.slice none 0 0] 26);rw[xZ,xZ]at g;rw[ag];exact g
 obtain⟨bb,aZ⟩:=eX (w.heap.size+1+1+1);obtain⟨q0,aS⟩:=eX (Value.slice (some ⟨w.heap.size+1+1+1+1,0,none⟩) 0 0);obtain⟨w4,aF⟩:=eX (s.alloc (.cells #[.slice none 0 0,.slice none 0 0] 147));have f4:Fr NoM s w4:=by rw[aF];exact(nW s).alloc _
 have b9:w4.heap.size=w.heap.size+4:=by rw[aF];simp[b8]
 have e4:w4.heap[bb]?=some (.cells #[.slice none 0 0,.slice none 0 0] 147 (0,0)):=by rw[aF,aZ,show w.heap.size+1+1+1=s.heap.size from by omega];exact xJ s _
 obtain⟨w5,aG⟩:=eX (w4.alloc (.cells #[] 3));have f5:Fr NoM w4 w5:=by rw[aG];exact(nW w4).alloc _
 have ce:w5.heap.size=w.heap.size+5:=by rw[aG];simp[b9]
 have m5:w5.ownsRow (w.heap.size+4) 3 1 (.slice (some ⟨w.heap.size+4,0,none⟩) 0 0) 0 []:=by
  have g:(w4.alloc (.cells #[] 3)).ownsRow w4.heap.size 3 1 (.slice (some ⟨w4.heap.size,0,none⟩) 0 0) 0 []:=y3 w4 #[] 0 (xW _) (by decide) (by simp);rw[b9,<-aG]at g;exact g
 obtain⟨h,hn⟩:=eX z.length;obtain⟨nF,aQ⟩:=eX Fs.length;have bA:BkSt s w5 bb [] [] (λu=>u=bb) q0 [] ((zf5 (za0 Fs) (za0 z)).take 0) (.slice none 0 0) [] [] (.slice none 0 0) [] [] :=
  ⟨(BookS.made e4).fr0 f5,PoolOK.nil,λu hq=>⟨by rw[hq];omega,by rw[hq];omega⟩,(by rw[aS];exact zb1 m5 (by omega)),World.ownsRow_nil _ _ _ _,World.ownsRow_nil _ _ _ _,λad Z hq=>by
   rw[aS]at Z;have Z:w.heap.size+4=ad:=yK Z;omega,(λad hb=>by cases hb),(λad hb=>by cases hb),(λad _ hb=>by cases hb),(λad _ hb=>by cases hb),(λad hb=>by cases hb),RowC.nil _,RowC.nil _,RowC.nil _,f4.trans f5 kP⟩
 have H1:=Hh (O.fr0 f3);have H2:=Hh (h2.fr0 f3);obtain⟨bB,bD,rfl,a4⟩:=id O;clear a4;obtain⟨bC,bE,rfl,a4⟩:=id h2;clear a4;have HK:=Hh (λj (X:Fr NoM s j)=>show j.cell? ⟨w.heap.size,0,none⟩=some (.slice bB Fs.length bD)/\j.cell? ⟨w.heap.size+1,0,none⟩=some (.slice bC z.length bE)/\j.cell? ⟨w.heap.size+2,0,none⟩=some (.slice none 0 0)/\j.frozen? ⟨w.heap.size+2,0,none⟩=false from by
  have G:=X.heap e0 id;have H:=X.heap e1 id;have E:=X.heap e2 id;exact⟨by rw[xX j _ 0 _ _ _ G];rfl,by rw[xX j _ 0 _ _ _ H];rfl,by rw[xX j _ 0 _ _ _ E];rfl,by simp[World.frozen?,E]⟩)
 rw[<-aQ,<-hn]at aY HK;have bh:=Hh bA;have bJ:=Hh f3;have bU:=Hh b8;have OF:=Hh oF;have OG:=Hh oG;have LF:=Hh lF;have LG:=Hh lG;have bg:=Hh aY;have PF:=Hh pF;have PG:=Hh pG;have Hn:=Hh hn;have aL:=Hh aQ;have aU:=Hh (λe f (hi:e<nF) (hk:f<h)=>show(zf5 (za0 Fs) (za0 z))[e*h+f]?=some (sumC ((za0 Fs).getD e 0) ((za0 z).getD f 0))from by
  have g:=zyx (CF:=za0 Fs) (CG:=za0 z) (i:=e) (k:=f) (by rw[za2];omega) (by rw[za2];omega);rw[za2,<-hn]at g;exact g)
 have bs:h<=1600/\nF<=1600:=by
  constructor
  ·have:=Nat.le_mul_of_pos_left h (show 0<nF by omega);omega
  ·have:=Nat.le_mul_of_pos_right nF (show 0<h by omega);omega
 have aw:=Hh bs;rw[<-aQ,<-hn]at ag ⊢;clear O h2 oF oG lF lG pF pG aY bs bA b8 e0 e1 e2 e4 f3 f4 f5 m5 hn aQ;obtain⟨G,H,E,J⟩:=HK.out w5 bh.out.fr;go_enter Tryz.func120,Tryz.ntmps120;go_upto_region 4 with fail;rw[<-ag,<-aF,<-aG,<-aS,<-aZ];clear ag aF aG aZ aS b9 ce;go_wp2_with fail;clear G H E J;go_loopw [7,8] (λv7 t j=>∃(e:Nat) (Y:Value) (B:List PL) (M:List Nat) (a5:Nat->Prop) (r:List Nat),Y=v7/\t=.int .i64 e/\e<=nF/\BkSt s j bb B M a5 Y r ((zf5 (za0 Fs) (za0 z)).take (e*h)) (.slice none 0 0) [] [] (.slice none 0 0) [] []/\B.length<=e*h) (λ_ t _=>nF-(intOf t).toNat)
 case atStart=>exact⟨0,_,[],[],_,[],rfl,rfl,yV _,by rw[Nat.zero_mul];exact bh.out,yV _⟩
 case round =>
  obtain⟨e,Y,B,M,a5,r,rfl,rfl,hi,m,hV⟩:=hrel;obtain⟨w7,rfl⟩:=eX wr;have A:=Hh m;have HV:=Hh hV;obtain⟨G,H,E,J⟩:=HK.out w7 m.fr;clear m hV;by_cases aD:e<nF
  ·obtain⟨l,hX⟩:∃l,Fs[e]?=some l:=⟨_,xQ (by have:=aL.out;omega)⟩
   obtain⟨_,_,W,_,_,aE⟩:=id H1.out;obtain⟨rfl,hz,rfl⟩:=Value.slice.inj W;clear W hz;obtain⟨b1,o1,xl,xr,bn,bY,U,V,x,y,m1,m2⟩:=aE e l hX;have cy:=zbi bB nF bD e b1 o1 aD bn;have bj:=Hh (λj (X:Fr NoM s j)=>(⟨X.cell U id,X.cell V id,x.fr0 X,y.fr0 X⟩:j.cell? ⟨b1,o1+e*2,none⟩=some xl/\j.cell? ⟨b1,o1+e*2+1,none⟩=some xr/\Nats j xl l.1/\Nats j xr l.2));obtain⟨cn,co,rfl,a4⟩:=id x;clear a4;obtain⟨cp,cq,rfl,a4⟩:=id y;clear a4;have bk:=Hh (OF.out e l hX);have ax:=Hh (ykc LF.out hX);have aV:=Hh (zcf Fs OF.out e l hX);obtain⟨u,hq⟩:=eX (e*h);have c9:u+h<=1600:=by
    have g:=Nat.mul_le_mul_right h (show e+1<=nF by omega);rw[Nat.succ_mul]at g;have:=bg.out;omega
   have cw:(e:Int)*(h:Int)=(u:Int):=by rw[hq];exact(Int.natCast_mul _ _).symm
   rw[<-hq]at A HV;have Hq:=Hh hq;have aq:=Hh c9;clear hX aE bn bY U V x y m1 m2 hq;go_wp2_with fail;clear G H E J;go_loopw [7,9] (λv7 t j=>∃(f:Nat) (Y:Value) (B:List PL) (M:List Nat) (a5:Nat->Prop) (r:List Nat),Y=v7/\t=.int .i64 f/\f<=h/\BkSt s j bb B M a5 Y r ((zf5 (za0 Fs) (za0 z)).take (u+f)) (.slice none 0 0) [] [] (.slice none 0 0) [] []/\B.length<=u+f) (λ_ t _=>h-(intOf t).toNat)
   case atStart=>exact⟨0,_,_,_,_,_,rfl,rfl,yV _,A.out,HV.out⟩
   case round =>
    clear A HV;obtain⟨f,Y,B,M,a5,r,rfl,rfl,hk,m,hV⟩:=hrel;obtain⟨w8,rfl⟩:=eX wr;have A:=Hh m;have HV:=Hh hV;obtain⟨G,H,E,J⟩:=HK.out w8 m.fr;clear m hV;by_cases aB:f<h
    ·obtain⟨q,hY⟩:∃q,z[f]?=some q:=⟨_,xQ (by have:=Hn.out;omega)⟩
     obtain⟨_,_,W,_,_,aE⟩:=id H2.out;obtain⟨rfl,hz,rfl⟩:=Value.slice.inj W;clear W hz;obtain⟨b2,o2,yl,yr,bo,bZ,U,V,x,y,m1,m2⟩:=aE f q hY;have cz:=zbi bC h bE f b2 o2 aB bo;have bl:=Hh (λj (X:Fr NoM s j)=>(⟨X.cell U id,X.cell V id,x.fr0 X,y.fr0 X⟩:j.cell? ⟨b2,o2+f*2,none⟩=some yl/\j.cell? ⟨b2,o2+f*2+1,none⟩=some yr/\Nats j yl q.1/\Nats j yr q.2));obtain⟨cr,cs,rfl,a4⟩:=id x;clear a4;obtain⟨ct,cu,rfl,a4⟩:=id y;clear a4;have bm:=Hh (OG.out f q hY);have ay:=Hh (ykc LG.out hY);have aW:=Hh (zcf z OG.out f q hY);obtain⟨CF,ae⟩:=eX (za0 Fs);obtain⟨CG,af⟩:=eX (za0 z);obtain⟨ca,aM⟩:=eX (CF.getD e 0);obtain⟨cb,aO⟩:=eX (CG.getD f 0);rw[<-ae]at aV;rw[<-af]at aW;rw[<-aM]at aV;rw[<-aO]at aW;rw[<-ae,<-af]at A;have b5:=yh6 aV.out aW.out;obtain⟨TL,az⟩:=eX ((za3 CF l.1).map (λb=>sumC b cb)++(za3 CG q.1).map λb=>sumC ca b)
     obtain⟨TR,aA⟩:=eX ((za3 CF l.2).map (λb=>sumC b cb)++(za3 CG q.2).map λb=>sumC ca b)
     rw[<-az,<-aA]at b5;have ah:=Hh (show TL.length=l.1.length+q.1.length/\TR.length=l.2.length+q.2.length from⟨by rw[az];simp[za3],by rw[aA];simp[za3]⟩)
     -- what stands in the row of all sums
     have aJ:=Hh (λ(ak a:Nat) (hj:ak<nF) (hm:a<h) (L:ak*h+a<u+f)=>(by
      obtain⟨c,d,I,hc⟩:=A.out.r1.get L (by rw[ae,af];exact aU.out ak a hj hm);exact⟨c,d,I,by rw[hc,ae,af]⟩:∃c,r[ak*h+a]?=some c/\c<B.length/\(za0 B).getD c 0=sumC (CF.getD ak 0) (CG.getD a 0)))
     have bN:=Hh (λa b (g:l.1[a]?=some b)=>(by rw[az];exact zpy g:TL[a]?=some (sumC (CF.getD b 0) cb)));have bO:=Hh (λa b (g:q.1[a]?=some b)=>(by rw[az];exact zmx g:TL[l.1.length+a]?=some (sumC ca (CG.getD b 0))));have bP:=Hh (λa b (g:l.2[a]?=some b)=>(by rw[aA];exact zpy g:TR[a]?=some (sumC (CF.getD b 0) cb)));have bQ:=Hh (λa b (g:q.2[a]?=some b)=>(by rw[aA];exact zmx g:TR[l.2.length+a]?=some (sumC ca (CG.getD b 0))));have bS:=Hh b5;have bV:=Hh (show(zf5 CF CG)[u+f]?=some (sumC ca cb)from by rw[ae,af,aM,aO,Hq.out,ae,af];exact aU.out e f aD aB);have be:=Hh aM;have bf:=Hh aO;have bH:=Hh ae;have bI:=Hh af;clear hY aE bo bZ U V x y m1 m2 b5 az aA aM aO ae af;go_upto_region 11 with fail;obtain⟨w9,ba⟩:=eX ((w8.alloc (.cells #[] 3)).alloc (.cells #[] 3));have H9:=Hh (A.out.rows ba);rw[<-ba];obtain⟨l0,br⟩:=eX (Value.slice (some ⟨w8.heap.size,0,none⟩) 0 0);obtain⟨r0,bw⟩:=eX (Value.slice (some ⟨w8.heap.size+1,0,none⟩) 0 0);rw[<-br,<-bw]at H9 ⊢;clear ba br bw G H E J;obtain⟨G,H,E,J⟩:=HK.out w9 H9.out.fr;go_wp2_with fail;clear G H E J;go_loopw [10,12] (λv7 t j=>∃(a:Nat) (v:Value) (ai:List Nat),v=v7/\t=.int .i64 a/\a<=l.1.length/\BkSt s j bb B M a5 Y r ((zf5 CF CG).take (u+f)) v ai (TL.take (a)) r0 [] []) (λ_ t _=>l.1.length-(intOf t).toNat)
     case atStart=>exact⟨0,_,[],rfl,rfl,yV _,H9.out⟩
     case round =>
      obtain⟨a,cj,L3,rfl,rfl,hm,m⟩:=hrel;obtain⟨ar,rfl⟩:=eX wr;have an:=Hh m;obtain⟨G,H,E,J⟩:=HK.out ar m.fr;obtain⟨U,V,x,y⟩:=bj.out ar m.fr;by_cases K:a<l.1.length
      ·obtain⟨b,D⟩:∃b,l.1[a]?=some b:=⟨_,xQ K⟩
       obtain⟨_,_,W,_,_,a2⟩:=id x;cases W
       obtain⟨b3,o3,a1,c3⟩:=a2 a b D;unfold encN at c3;have bc:=za8 cn l.1.length co a b3 o3 K a1;have b0:=bk.out.1 b (xK D);have b7:=aq.out;have a3:=Hq.out;have b6:=aw.out.1;obtain⟨ql,a9⟩:=eX (b*h);have cd:ql+h<=u:=by
        have g:=Nat.mul_le_mul_right h (show b+1<=e by omega);rw[Nat.succ_mul]at g;omega
       have c5:(b:Int)*(h:Int)=(ql:Int):=by rw[a9];exact(Int.natCast_mul _ _).symm
       obtain⟨c,d,I,F⟩:=aJ.out b f (by omega) aB (by rw[<-a9];omega);rw[<-a9]at d;rw[<-bf.out]at F;obtain⟨o,L⟩:=eX (ql+f);have aN:(ql:Int)+(f:Int)=(o:Int):=by omega
       rw[<-L]at d;have aR:o<1600:=by omega
       have aj:o<r.length:=(xV.1 d).1;obtain⟨aa,ac,rfl,_,_,S⟩:=an.out.nats1;obtain⟨b4,o4,Q,c4⟩:=S o c d;unfold encN at c4;have aH:=za8 aa r.length ac o b4 o4 aj Q;have a0:=Hh (And.intro I F);have HL:=Hh D;clear D a2 a1 m d I F S Q a3 x y L a9;go_wp2_with (at_builtin;refine za9 (enc:=encN) _ rfl (.tmp 47) (.tmp 64) 100 rfl s.heap.size 3 (.int .i64 0) 8 Tryz.underlying100 zab rfl cj L3.length (L3.map encN) rfl (za1 an.out.o2 ((nW ar).alloc _) kP) (.slice (some ⟨ar.heap.size,0,none⟩) 1 1) rfl [c] (SliceOf.one encN ar c 3) (λ_=>rfl) (by have O:=an.out.r2.len;have h2:=ah.out.1;have h3:=ax.out;have h4:=ay.out;rw[kQ]at O;simp only[y9];omega) (by decide) (by have:=an.out.fr.size;rw[xZ];omega) ?_);intro v9 bd P N T;have C:=(an.out.swap12.app ((nW ar).alloc _) P N (by rw[xZ];exact T) a0.out.1 a0.out.2).swap12;rw[zhp (bN.out a b HL.out)]at C;have a6:=Hh C;clear P N T C;go_wp2;go_roundw
       case rel=>exact⟨a+1,v9,L3 ++ [c],rfl,by go_num,by omega,a6.out⟩
       case measure=>simp[intOf];omega
      ·obtain rfl:a=l.1.length:=by omega
       clear m hm K x y;go_wp2_with fail;clear G H E J U V;go_loopw [10,13] (λv7 t j=>∃(a:Nat) (v:Value) (ai:List Nat),v=v7/\t=.int .i64 a/\a<=q.1.length/\BkSt s j bb B M a5 Y r ((zf5 CF CG).take (u+f)) v ai (TL.take (l.1.length+a)) r0 [] []) (λ_ t _=>q.1.length-(intOf t).toNat)
       case atStart=>exact⟨0,_,L3,rfl,rfl,yV _,an.out⟩
       case round =>
        obtain⟨a,aT,L4,rfl,rfl,hm,m⟩:=hrel;obtain⟨au,rfl⟩:=eX wr;have ao:=Hh m;obtain⟨G,H,E,J⟩:=HK.out au m.fr;obtain⟨U,V,x,y⟩:=bl.out au m.fr;by_cases K:a<q.1.length
        ·obtain⟨b,D⟩:∃b,q.1[a]?=some b:=⟨_,xQ K⟩
         obtain⟨_,_,W,_,_,a2⟩:=id x;cases W
         obtain⟨b3,o3,a1,c3⟩:=a2 a b D;unfold encN at c3;have bc:=za8 cr q.1.length cs a b3 o3 K a1;have b0:=bm.out.1 b (xK D);have b7:=aq.out;have a3:=Hq.out;have b6:=aw.out.1;obtain⟨c,d,I,F⟩:=aJ.out e b aD (by omega) (by rw[<-a3];omega);rw[<-a3]at d;rw[<-be.out]at F;obtain⟨o,L⟩:=eX (u+b);have aN:(u:Int)+(b:Int)=(o:Int):=by omega
         rw[<-L]at d;have aR:o<1600:=by omega
         have aj:o<r.length:=(xV.1 d).1;obtain⟨aa,ac,rfl,_,_,S⟩:=ao.out.nats1;obtain⟨b4,o4,Q,c4⟩:=S o c d;unfold encN at c4;have aH:=za8 aa r.length ac o b4 o4 aj Q;have a0:=Hh (And.intro I F);have HL:=Hh D;clear D a2 a1 m d I F S Q a3 x y L;go_wp2_with (at_builtin;refine za9 (enc:=encN) _ rfl (.tmp 77) (.tmp 94) 100 rfl s.heap.size 3 (.int .i64 0) 8 Tryz.underlying100 zab rfl aT L4.length (L4.map encN) rfl (za1 ao.out.o2 ((nW au).alloc _) kP) (.slice (some ⟨au.heap.size,0,none⟩) 1 1) rfl [c] (SliceOf.one encN au c 3) (λ_=>rfl) (by have O:=ao.out.r2.len;have h2:=ah.out.1;have h3:=ax.out;have h4:=ay.out;rw[kQ]at O;simp only[y9];omega) (by decide) (by have:=ao.out.fr.size;rw[xZ];omega) ?_);intro v9 bd P N T;have C:=(ao.out.swap12.app ((nW au).alloc _) P N (by rw[xZ];exact T) a0.out.1 a0.out.2).swap12;rw[zhp (bO.out a b HL.out)]at C;have a6:=Hh C;clear P N T C;go_wp2;go_roundw
         case rel=>exact⟨a+1,v9,L4 ++ [c],rfl,by go_num,by omega,a6.out⟩
         case measure=>simp[intOf];omega
        ·obtain rfl:a=q.1.length:=by omega
         clear m hm K x y;go_wp2_with fail;clear G H E J U V;go_loopw [11,14] (λv7 t j=>∃(a:Nat) (v:Value) (ai:List Nat),v=v7/\t=.int .i64 a/\a<=l.2.length/\BkSt s j bb B M a5 Y r ((zf5 CF CG).take (u+f)) aT L4 (TL.take (l.1.length+q.1.length)) v ai (TR.take (a))) (λ_ t _=>l.2.length-(intOf t).toNat)
         case atStart=>exact⟨0,_,[],rfl,rfl,yV _,ao.out⟩
         case round =>
          obtain⟨a,ck,L5,rfl,rfl,hm,m⟩:=hrel;obtain⟨av,rfl⟩:=eX wr;have ap:=Hh m;obtain⟨G,H,E,J⟩:=HK.out av m.fr;obtain⟨U,V,x,y⟩:=bj.out av m.fr;by_cases K:a<l.2.length
          ·obtain⟨b,D⟩:∃b,l.2[a]?=some b:=⟨_,xQ K⟩
           obtain⟨_,_,W,_,_,a2⟩:=id y;cases W
           obtain⟨b3,o3,a1,c3⟩:=a2 a b D;unfold encN at c3;have bc:=za8 cp l.2.length cq a b3 o3 K a1;have b0:=bk.out.2 b (xK D);have b7:=aq.out;have a3:=Hq.out;have b6:=aw.out.1;obtain⟨ql,a9⟩:=eX (b*h);have cd:ql+h<=u:=by
            have g:=Nat.mul_le_mul_right h (show b+1<=e by omega);rw[Nat.succ_mul]at g;omega
           have c5:(b:Int)*(h:Int)=(ql:Int):=by rw[a9];exact(Int.natCast_mul _ _).symm
           obtain⟨c,d,I,F⟩:=aJ.out b f (by omega) aB (by rw[<-a9];omega);rw[<-a9]at d;rw[<-bf.out]at F;obtain⟨o,L⟩:=eX (ql+f);have aN:(ql:Int)+(f:Int)=(o:Int):=by omega
           rw[<-L]at d;have aR:o<1600:=by omega
           have aj:o<r.length:=(xV.1 d).1;obtain⟨aa,ac,rfl,_,_,S⟩:=ap.out.nats1;obtain⟨b4,o4,Q,c4⟩:=S o c d;unfold encN at c4;have aH:=za8 aa r.length ac o b4 o4 aj Q;have a0:=Hh (And.intro I F);have HL:=Hh D;clear D a2 a1 m d I F S Q a3 x y L a9;go_wp2_with (at_builtin;refine za9 (enc:=encN) _ rfl (.tmp 107) (.tmp 124) 100 rfl s.heap.size 3 (.int .i64 0) 8 Tryz.underlying100 zab rfl ck L5.length (L5.map encN) rfl (za1 ap.out.o3 ((nW av).alloc _) kP) (.slice (some ⟨av.heap.size,0,none⟩) 1 1) rfl [c] (SliceOf.one encN av c 3) (λ_=>rfl) (by have O:=ap.out.r3.len;have h2:=ah.out.2;have h3:=ax.out;have h4:=ay.out;rw[kQ]at O;simp only[y9];omega) (by decide) (by have:=ap.out.fr.size;rw[xZ];omega) ?_);intro v9 bd P N T;have C:=(ap.out.swap13.app ((nW av).alloc _) P N (by rw[xZ];exact T) a0.out.1 a0.out.2).swap13;rw[zhp (bP.out a b HL.out)]at C;have a6:=Hh C;clear P N T C;go_wp2;go_roundw
           case rel=>exact⟨a+1,v9,L5 ++ [c],rfl,by go_num,by omega,a6.out⟩
           case measure=>simp[intOf];omega
          ·obtain rfl:a=l.2.length:=by omega
           clear m hm K x y;go_wp2_with fail;clear G H E J U V;go_loopw [11,15] (λv7 t j=>∃(a:Nat) (v:Value) (ai:List Nat),v=v7/\t=.int .i64 a/\a<=q.2.length/\BkSt s j bb B M a5 Y r ((zf5 CF CG).take (u+f)) aT L4 (TL.take (l.1.length+q.1.length)) v ai (TR.take (l.2.length+a))) (λ_ t _=>q.2.length-(intOf t).toNat)
           case atStart=>exact⟨0,_,L5,rfl,rfl,yV _,ap.out⟩
           case round =>
            obtain⟨a,bF,L6,rfl,rfl,hm,m⟩:=hrel;obtain⟨am,rfl⟩:=eX wr;have a7:=Hh m;obtain⟨G,H,E,J⟩:=HK.out am m.fr;obtain⟨U,V,x,y⟩:=bl.out am m.fr;by_cases K:a<q.2.length
            ·obtain⟨b,D⟩:∃b,q.2[a]?=some b:=⟨_,xQ K⟩
             obtain⟨_,_,W,_,_,a2⟩:=id y;cases W
             obtain⟨b3,o3,a1,c3⟩:=a2 a b D;unfold encN at c3;have bc:=za8 ct q.2.length cu a b3 o3 K a1;have b0:=bm.out.2 b (xK D);have b7:=aq.out;have a3:=Hq.out;have b6:=aw.out.1;obtain⟨c,d,I,F⟩:=aJ.out e b aD (by omega) (by rw[<-a3];omega);rw[<-a3]at d;rw[<-be.out]at F;obtain⟨o,L⟩:=eX (u+b);have aN:(u:Int)+(b:Int)=(o:Int):=by omega
             rw[<-L]at d;have aR:o<1600:=by omega
             have aj:o<r.length:=(xV.1 d).1;obtain⟨aa,ac,rfl,_,_,S⟩:=a7.out.nats1;obtain⟨b4,o4,Q,c4⟩:=S o c d;unfold encN at c4;have aH:=za8 aa r.length ac o b4 o4 aj Q;have a0:=Hh (And.intro I F);have HL:=Hh D;clear D a2 a1 m d I F S Q a3 x y L;go_wp2_with (at_builtin;refine za9 (enc:=encN) _ rfl (.tmp 137) (.tmp 154) 100 rfl s.heap.size 3 (.int .i64 0) 8 Tryz.underlying100 zab rfl bF L6.length (L6.map encN) rfl (za1 a7.out.o3 ((nW am).alloc _) kP) (.slice (some ⟨am.heap.size,0,none⟩) 1 1) rfl [c] (SliceOf.one encN am c 3) (λ_=>rfl) (by have O:=a7.out.r3.len;have h2:=ah.out.2;have h3:=ax.out;have h4:=ay.out;rw[kQ]at O;simp only[y9];omega) (by decide) (by have:=a7.out.fr.size;rw[xZ];omega) ?_);intro v9 bd P N T;have C:=(a7.out.swap13.app ((nW am).alloc _) P N (by rw[xZ];exact T) a0.out.1 a0.out.2).swap13;rw[zhp (bQ.out a b HL.out)]at C;have a6:=Hh C;clear P N T C;go_wp2;go_roundw
             case rel=>exact⟨a+1,v9,L6 ++ [c],rfl,by go_num,by omega,a6.out⟩
             case measure=>simp[intOf];omega
            ·obtain rfl:a=q.2.length:=by omega
             clear m hm K x y;have a8:=a7.out;have bx:=a8.r2.len;have bz:=a8.r3.len;have c0:=ah.out;have c1:=ax.out;have c2:=ay.out;have cf:=HV.out;have cc:=aq.out;rw[kQ]at bx bz;have bt:=zih bb aT bF B M L4 L6 am a8.book (SliceOf.of_owns a8.o2 rfl) (SliceOf.of_owns a8.o3 rfl) (λak c d=>a8.r2.1 c (xK d)) (λak c d=>a8.r3.1 c (xK d)) (by omega) (by omega) (by omega) (λc d=>by have:=(zex a8.ok).lt B.length (xW _) c d;omega);have bT:=Hh bt;clear a8 bx bz c0 c1 c2 cf cc bt;go_wp2_with fail;refine bT.out.mono ?_
             rintro Z al ⟨rfl,p1,p2⟩;obtain⟨st,hr,hc,c8,aC⟩:=a7.out.put a7.out.r2 a7.out.r3 p1 p2;rw[List.take_of_length_le (by rw[ah.out.1];exact xW _),List.take_of_length_le (by rw[ah.out.2];exact xW _),bS.out]at hc;obtain⟨c,d⟩:=eX ((putB B M L4 L6).2.2);rw[<-d]at hr hc ⊢;have aK:=Hh st.close;have HR:=Hh hr;have HC:=Hh hc;have bR:=Hh aC;clear st hr hc c8 aC p1 p2 d G H E J U V;go_wp2_with (at_builtin;refine za9 (enc:=encN) _ rfl (.tmp 156) (.tmp 161) 100 rfl s.heap.size 3 (.int .i64 0) 8 Tryz.underlying100 zab rfl Y r.length (r.map encN) rfl (za1 aK.out.o1 ((nW al).alloc _) kP) (.slice (some ⟨al.heap.size,0,none⟩) 1 1) rfl [c] (SliceOf.one encN al c 3) (λ_=>rfl) (by have O:=aK.out.r1.len;have h2:=aq.out;rw[kQ]at O;simp only[y9];omega) (by decide) (by have:=aK.out.fr.size;rw[xZ];omega) ?_);intro v9 cB P N T;have C:=aK.out.app ((nW al).alloc _) P N (by rw[xZ];exact T) HR.out HC.out;rw[zhp bV.out,bH.out,bI.out]at C;have a6:=Hh C;clear P N T C;go_wp2;go_roundw
             case rel=>exact⟨f+1,v9,_,_,_,r ++ [c],rfl,by go_num,by omega,a6.out,by have O:=bR.out;have h2:=HV.out;omega⟩
             case measure=>simp[intOf];omega
    ·obtain rfl:f=h:=by omega
     have cx:=aw.out.2;clear hk aB;go_wp2_with fail;go_roundw
     case rel=>exact⟨e+1,Y,B,M,a5,r,rfl,by go_num,by omega,by rw[Nat.succ_mul,<-Hq.out];exact A.out,by rw[Nat.succ_mul,<-Hq.out];exact HV.out⟩
     case measure=>simp[intOf];omega
  ·obtain rfl:e=nF:=by omega
   have c6:=Hn.out;have c7:=aL.out;have bu:0<e:=by have:=PF.out;omega
   have bv:0<h:=by have:=PG.out;omega
   have bp:=bg.out;obtain⟨ab,hN⟩:=eX (e*h);rw[<-hN]at bp HV A;have bX:0<ab:=by rw[hN];exact Nat.mul_pos bu bv
   have bW:r.length=ab:=by
    have g:=A.out.r1.len;rw[g,kQ,zyv,za2,za2,<-Hn.out,<-aL.out,<-hN,Nat.min_self]
   obtain⟨c,d,I,F⟩:=A.out.r1.get (p:=ab-1) (by omega) (by
    have g:=aU.out (e-1) (h-1) (by omega) (by omega);have Z:(e-1)*h+(h-1)=ab-1:=by
     have h2:(e-1+1)*h=ab:=by rw[hN,show e-1+1=e from by omega]
     rw[Nat.succ_mul]at h2;omega
    rw[Z]at g;exact g)
   obtain⟨o,L⟩:∃o,ab=o+1:=⟨ab-1,by omega⟩;rw[show ab-1=o from by omega]at d;obtain⟨aa,ac,rfl,_,_,S⟩:=A.out.nats1;obtain⟨b4,o4,Q,c4⟩:=S o c d;unfold encN at c4;have aH:=za8 aa r.length ac o b4 o4 (by omega) Q;have aN:((r.length:Int)-1)=(o:Int):=by omega
   have aR:o<1600:=by omega
   have cv:r.length<1000000:=by omega
   have aC:=A.out.ok.lens (n:=100000000) (by have:=HV.out;omega);have bM:=Hh (zn9 bb c B M w7 A.out.book (zex A.out.ok) I (by have:=HV.out;omega) aC);have bq:=zea A.out.ok I F;have bK:=Hh (show zdp B M c=zad (sumC (zaf Fs) (zaf z))from by
    rw[bq];unfold zaf;rw[<-Hn.out,<-aL.out])
   clear d I F S Q aC bq hN bX bW L bp bu bv hi aD c6 c7;go_wp2_with fail;refine bM.out.mono ?_
   rintro Z al ⟨v',rfl,aP,aX⟩;rw[bK.out]at aP;obtain⟨cg,ch,ci,cA⟩:=HK.out al (A.out.fr.trans aX kP);have bL:=Hh aP;have bG:=Hh (A.out.fr.trans aX kP);have bi:=Hh (show w.heap.size+3<=w7.heap.size from by have:=A.out.fr.size;have:=bU.out;omega);obtain⟨cl,cm,rfl,zz⟩:=id aP;clear zz aP aX cg ch G H E J c4 aH;go_wp2;refine yY (v:=.agg #[.slice cl (zad (sumC (zaf Fs) (zaf z))).length cm]) (by simp[results,Tryz.results120,go_sem,ci]) rfl ?_
   refine⟨_,rfl,?_,(bJ.out.trans bG.out kP).setCell _ _ (λg=>by have g:w.heap.size+2<w.heap.size:=g;omega)⟩;exact(bL.out.fr (Fr.set al ⟨w.heap.size+2,0,none⟩ _) (λu hq Z=>by have Z:u=w.heap.size+2:=Z;have:=bi.out;omega)).mono (λu hq=>by have:=bi.out;omega)
