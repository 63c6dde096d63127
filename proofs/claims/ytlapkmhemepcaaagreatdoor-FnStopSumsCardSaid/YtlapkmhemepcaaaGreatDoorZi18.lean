import Derived.Test.YtlapkmhemepcaaaGreatDoorZiz
/- Lemmas. -/
set_option linter.all false
set_option maxHeartbeats 8000000
set_option maxRecDepth 8000
namespace Go.Proofs.YtlapkmhemepcaaaGreatDoor
open Go.RowKit
theorem ziz {F:List PL}(a:okTo F F.length)(left:Bool):zac true (i2 F) left=sOf F left (F.length-1):=by unfold zac;rw[if_pos (zbr.2 a),zbc,zb9]
theorem zgk {F:List PL}(c:zar (i2 F))(a:okTo F F.length){P:Nat}(b:16<=P):StopIs P (zaf F) (zac true (i2 F) true) (zac true (i2 F) false):=by obtain⟨e,_,_,d,_⟩:=zay c;rw[ziz a,ziz a];exact yek d.book rfl (xW _) a b (F.length-1) (by omega)
theorem zb8 {F:List PL}(b:zar (i2 F))(a:okTo F F.length)(left:Bool):GoodD (zac true (i2 F) left).1 (zac true (i2 F) left).2:=by obtain⟨f,_,_,c,_⟩:=zay b;rw[ziz a];obtain⟨d,e⟩:=zgc c.book.opts (xW _) a (F.length-1) (by omega);unfold sOf;split;{exact d};{exact e}
section
variable {U:List Nat}{S:Nat->Prop}{w w':World}{bb:Nat}{V:List PL}{BV:List Nat}
end
noncomputable def isL (C:List Nat)(n:Nat):List Bool:=(List.range n).map λa=>isNB (C.getD a 0)
theorem ycq (C:List Nat)(n:Nat):(isL C n).length=n:=by unfold isL;rw[uJ,uY]
theorem ycr (C:List Nat){n j:Nat}(a:j<n):(isL C n)[j]?=some (isNB (C.getD j 0)):=by unfold isL;rw[vZ,List.getElem?_range a];rfl
theorem zdh (C:List Nat)(k:Nat):isL C (k+1)=isL C k ++ [isNB (C.getD k 0)]:=by unfold isL;rw[List.range_succ,vQ];rfl
theorem zzh {R:Nat->Prop}(nv:Value)(c:Nat)(w:World)(af:NodeL R encN w nv (zad c))(hl:(zad c).length<=120)(ag:∀x,x<(zad c).length->CanC ((za0 (zad c)).getD x 0))(hw:∀H∈zad c,H.1.length<=1000000/\H.2.length<=1000000)(g:Bool)(hg:g=isNB c) :
  Calls Tryz.prog 149 #[.agg #[nv]] w λe w'=>e=.returned (.bool g)/\Fr NoM w w':=by
 obtain⟨hp,ho,p,W,_,aU⟩:=zen (zbb c);have aQ:=zgn ho p (zf2 ho W);have aS:=zor (zad c) ho p (zf2 ho W);obtain⟨I,hV⟩:=eX (zad c);rw[<-hV]at af hl ag hw hp ho p W aU aQ aS;obtain⟨k,hC⟩:=eX (za0 I);have b0:BookC I k:=by rw[hC];exact aQ.book
 have hg:g=isNB (k.getD (I.length-1) 0):=by rw[hg,<-aU,hC];rfl
 rw[<-hC]at ag;obtain⟨w1,ai⟩:=eX (w.alloc (.cells #[nv] 26));have f1:Fr NoM w w1:=by rw[ai];exact(nW w).alloc _
 have bD:w1.heap.size=w.heap.size+1:=by rw[ai];simp
 have e0:w1.heap[w.heap.size]?=some (.cells #[nv] 26 (0,0)):=by rw[ai];exact xJ w _
 obtain⟨V,an⟩:=eX w1.heap.size;obtain⟨w2,ao⟩:=eX (w1.alloc (.cells #[.slice none 0 0,.slice none 0 0] 147));have f2:Fr NoM w1 w2:=by rw[ao];exact(nW w1).alloc _
 have bE:w2.heap.size=V+1:=by rw[ao,an];simp
 have e2:w2.heap[V]?=some (.cells #[.slice none 0 0,.slice none 0 0] 147 (0,0)):=by rw[ao,an];exact xJ w1 _
 have k0:w2.cell? ⟨w.heap.size,0,none⟩=some nv:=by rw[xX w2 _ 0 _ _ _ (f2.heap e0 id)];rfl
 have b7:=Hh (zvp V nv [] I [] w2 (BookS.made e2) BookOK.nil ((af.low.fr0 f1).fr0 f2) (λa (W:a<w.heap.size) e=>by have e:a=V:=e;omega) ho (by simp;omega) (λH hy=>by have:=hw H hy;omega));have b3:=Hh (f1.trans f2 kP);have bh:=Hh bE;have bg:=Hh bD;have bd:=Hh an;obtain⟨na,nc,rfl,_,_,bw⟩:=id af;have bU:∀H∈I,H.1.length<=1000000/\H.2.length<=1000000:=hw;have HN:=Hh (λ(a:Nat) (W:a<I.length)=>show ∃h Q lv rv,na=some ⟨h,Q,none⟩/\h<w.heap.size/\w.cell? ⟨h,Q+a*2,none⟩=some lv/\w.cell? ⟨h,Q+a*2+1,none⟩=some rv/\Nats w lv (za4 I a).1/\Nats w rv (za4 I a).2 from by
  obtain⟨h,Q,lv,rv,ha,_,c1,c2,s1,s2,_,_⟩:=bw a _ (za6 W);exact⟨h,Q,lv,rv,ha,World.block_lt_of_cell? w _ c1,c1,c2,s1,s2⟩)
 have HB:=Hh b0;have be:=Hh ag;have HG:=Hh hg;have Hl:=Hh hl;have Hp:=Hh hp;have b8:=Hh aS;have E0:=Hh e0;have bN:=Hh ho;obtain⟨X,hn⟩:=eX I.length;have ck:X<=120:=by omega
 rw[<-hn]at ai HN be HG Hl Hp b8 b7 k0 E0;have Hn:=Hh hn;clear af hl ag hw hp ho p W aU aQ aS hV hC b0 hg f1 bD e0 f2 bE e2 bw bU;rw[<-hn];clear hn;go_enter Tryz.func149,Tryz.ntmps149;go_upto_region 1 with fail;rw[<-ai];clear ai;go_upto_region 2 with fail;rw[<-ao,<-an];clear ao an;go_wp2_with fail;(with_reducible refine b7.out.mono ?_);rintro e w3 ⟨v3,S3,rfl,aX,bY,aM,bT,f3⟩;rw[b8.out]at aX aM;have aP:Nats w3 v3 (List.range X):=SliceOf.of_owns aX rfl;obtain⟨bk,cg,cf,aK,_⟩:=id aM;have ab:w3.cell? ⟨V,0,none⟩=some bk:=by rw[xX _ _ 0 _ _ _ aK.blk];rfl
 have HO:=Hh (zrq V bk I w3 ab aK.nodeL (by have:=Hn.out;omega));have b9:=Hh aP;have F3:=Hh (show Fr (λb=>b=V) w2 w3 from f3);have bL:=Hh k0;clear aX bY aM bT f3 aK ab k0;obtain⟨a3,c3,rfl,zz⟩:=id aP;rw[uY]at *;clear zz aP;go_wp2_with fail;(with_reducible refine HO.out.mono ?_);rintro e i ⟨ob,j,rfl,c0,bz,hO,f4⟩;have bA:j<i.heap.size:=(yJ.1 hO.row).1;have aH:=Hh hO;have N:=Hh (show w3.heap.size<=j/\j<i.heap.size/\w.heap.size<w3.heap.size/\w.heap.size<V/\V<w3.heap.size from⟨bz,bA,by have l:=F3.out.size;have P:=bh.out;have h3:=bg.out;have h4:=bd.out;omega,by have h3:=bg.out;have h4:=bd.out;omega,by have l:=F3.out.size;have P:=bh.out;omega⟩);have F4:=Hh f4;have FW:=Hh (λf (v:Fr (λb=>b=j) i f)=>((b3.out.trans F3.out (λb U e=>by have l:=N.out;have e:b=V:=e;omega)).trans (F4.out.any (M:=λb=>b=j)) (λb U e=>by have l:=N.out;have e:b=j:=e;omega)).trans v (λb U e=>by have l:=N.out;have e:b=j:=e;omega) |> (λ(cb:Fr NoM w f)=>cb));have HK:=Hh (λf (v:Fr (λb=>b=j) i f)=>show f.cell? ⟨w.heap.size,0,none⟩=some (.slice na X nc)from by
  have e1:=(b3.out.trans (nW w2) kP);have g3:Fr (λb=>b=V\/b=j) w2 f:=(F3.out.mono (λ_ _ e=>.inl e)).trans ((F4.out.any (M:=λb=>b=j)).trans v kP) (λ_ _ e=>.inr e);have e2:w2.cell? ⟨w.heap.size,0,none⟩=some (.slice na X nc):=bL.out;exact g3.cell e2 (λe=>by have l:=N.out;rcases e with e|e <;> (first|(have e:w.heap.size=V:=e;omega)|(have e:w.heap.size=j:=e;omega))))
 have bM:=Hh (λ(a:Nat) (W:a<X)=>show ∃h Q lv rv,na=some ⟨h,Q,none⟩/\∀f,Fr (λb=>b=j) i f->f.cell? ⟨h,Q+a*2,none⟩=some lv/\f.cell? ⟨h,Q+a*2+1,none⟩=some rv/\Nats f lv (za4 I a).1/\Nats f rv (za4 I a).2 from by
  obtain⟨h,Q,lv,rv,ha,_,c1,c2,s1,s2⟩:=HN.out a W;exact⟨h,Q,lv,rv,ha,λf v=>⟨(FW.out f v).cell c1 id,(FW.out f v).cell c2 id,SliceOf.fr0 s1 (FW.out f v),SliceOf.fr0 s2 (FW.out f v)⟩⟩)
 have b4:=Hh (λ(a:Nat) (W:a<X)=>show ∃h Q,a3=some ⟨h,Q,none⟩/\∀f,Fr (λb=>b=j) i f->f.cell? ⟨h,Q+a,none⟩=some (.int .i64 (a:Int))from by
  obtain⟨_,_,ee,_,_,T⟩:=b9.out;obtain⟨rfl,_,rfl⟩:=Value.slice.inj ee;obtain⟨h,Q,ha,a9⟩:=T a a (by rw[List.getElem?_range W]);exact⟨h,Q,ha,λf v=>((F4.out.any (M:=λb=>b=j)).trans v kP).cell a9 (λe=>by have l:=N.out;have P:=World.block_lt_of_cell? w3 _ a9;have e:h=j:=e;have P:h<w3.heap.size:=P;omega)⟩)
 clear c0 bz hO f4 bA b9 HN;obtain⟨w5,aE⟩:=eX (i.alloc (.cells #[] 4));have f5:Fr NoM i w5:=by rw[aE];exact(nW i).alloc _
 have m5:w5.ownsRow i.heap.size 4 1 (.slice (some ⟨i.heap.size,0,none⟩) 0 0) 0 []:=by rw[aE];exact y3 i #[] 0 (xW _) (by decide) (by simp)
 have F5:=Hh f5;have M5:=Hh m5;clear f5 m5;go_upto_region 5 with fail;rw[<-aE];clear aE;go_wp2_with fail;go_loopw [6,7] (λv6 v7 f=>∃(bv:Value) (a:Nat) (S:List Nat),bv=v6/\v7=.int .i64 (a:Int)/\a<=X/\f.ownsRow i.heap.size 4 1 bv a ((isL k a).map encB)/\RowIs 3 encN f j S/\S.length=I.length*I.length/\KOK k I.length (2*I.length) S/\Fr (λb=>b=j) i f) (λ_ v7 _=>X-(intOf v7).toNat)
 case atStart=>exact⟨_,0,_,rfl,rfl,yV _,M5.out,aH.out.row.fr F5.out id,aH.out.len,KOK.start _ _ _ _,F5.out.any⟩
 case round =>
  obtain⟨bv,a,S,rfl,rfl,W,hr,aA,aB,aN,hf⟩:=hrel;obtain⟨w7,rfl⟩:=eX wr;have k0:=HK.out w7 hf;by_cases ah:a<X
  ·obtain⟨b1,o1,lv,rv,bl,ag⟩:=bM.out a ah
   obtain⟨c1,c2,n1,n2⟩:=ag w7 hf;have c7:=zbi na X nc a b1 o1 ah bl;have aL:(a:Int)<(X:Int):=by omega
   have cj:a<120:=by omega
   obtain⟨Lx,aO⟩:=eX ((za4 I a).1);obtain⟨Rx,aR⟩:=eX ((za4 I a).2);have aD:=zn4 HB.out (x:=a) (by have:=Hn.out;omega) (be.out a ah);obtain⟨q1,q2⟩:=bN.out a _ (za6 (by have:=Hn.out;omega));rw[<-aO]at n1 aD q1;rw[<-aR]at n2 aD q2;obtain⟨la,lc,rfl,a6,bW,bB⟩:=id n1;obtain⟨ra,rc,rfl,a7,c4,bC⟩:=id n2;have bX:Lx.length<=9223372036854775807:=by omega
   have c5:Rx.length<=9223372036854775807:=by omega
   obtain⟨d,aC⟩:=eX (w7.alloc (.cells #[.slice la Lx.length lc,.slice ra Rx.length rc] 102));obtain⟨bx,aT⟩:=eX w7.heap.size;have f6:Fr NoM w7 d:=by rw[aC];exact(nW w7).alloc _
   have e6:d.heap[bx]?=some (.cells #[.slice la Lx.length lc,.slice ra Rx.length rc] 102 (0,0)):=by rw[aC,aT];exact xJ w7 _
   have g6:Fr (λb=>b=j) i d:=hf.trans f6 (λ_ _ b=>b.elim);have HX:=Hh (λf (v:Fr NoM d f)=>show f.cell? ⟨bx,0,none⟩=some (.slice la Lx.length lc)/\f.cell? ⟨bx,1,none⟩=some (.slice ra Rx.length rc)from by
    have h0:=v.heap e6 id;exact⟨by rw[xX f _ 0 _ _ _ h0];rfl,by rw[xX f _ 1 _ _ _ h0];rfl⟩)
   obtain⟨J,L,ab,_,_,ap⟩:=(SliceOf.of_owns hr rfl:SliceOf encB w7 bv (isL k a));rw[ycq]at ab;subst ab;have ar:=Hh (λ(H:Nat) (hy:H<a)=>show ∃h Y,J=some ⟨h,Y,none⟩/\∀f,Fr NoM d f->f.cell? ⟨h,Y+H,none⟩=some (.bool (isNB (k.getD H 0)))from by
    obtain⟨h,Y,ha,a9⟩:=ap H _ (ycr k hy);exact⟨h,Y,ha,λf v=>(f6.trans v kP).cell a9 id⟩)
   have HR:=Hh (za1 hr f6 kP);have ae:=Hh (aA.fr f6 id);have a8:=Hh (And.intro aB aN);have G6:=Hh g6;have bO:=Hh (show OrdR d ob V j I S from aH.out.fr g6 (aA.fr f6 id) aB);have O:=Hh aD;have HQ:=Hh (And.intro q1 q2);have n:=Hh ah;have ac:=Hh (λ(H x:Nat) (hy:Lx[H]?=some x)=>show ∃h Y,la=some ⟨h,Y,none⟩/\∀f,Fr NoM d f->f.cell? ⟨h,Y+H,none⟩=some (.int .i64 (x:Int))from by
    obtain⟨h,Y,ha,a9⟩:=bB H x hy;exact⟨h,Y,ha,λf v=>(f6.trans v kP).cell a9 id⟩)
   have ad:=Hh (λ(H x:Nat) (hy:Rx[H]?=some x)=>show ∃h Y,ra=some ⟨h,Y,none⟩/\∀f,Fr NoM d f->f.cell? ⟨h,Y+H,none⟩=some (.int .i64 (x:Int))from by
    obtain⟨h,Y,ha,a9⟩:=bC H x hy;exact⟨h,Y,ha,λf v=>(f6.trans v kP).cell a9 id⟩)
   have aj:=Hh aO;have ak:=Hh aR;clear hr aA aB aN hf ag bl aD q1 q2 n1 n2 a6 bW bB a7 c4 bC f6 e6 g6 ap ah W aO aR;go_upto_region 9 with fail;rw[<-aC,<-aT];clear aC aT k0 c1 c2 c7 aL;have cd:=O;by_cases bR:1<Lx.length
   ·have a1:¬(Lx.length:Int)<=1:=by omega
    obtain⟨x0,x1⟩:=HX.out d (Fr.refl _ _);have t:=G6;have m:=HR;have K:=ae;have u:=a8;have A:=Hh (show i.heap.size<=d.heap.size from t.out.size);have z:=Hh (show(a+1)*1<=140737488355328 by have l:=n.out;omega);go_wp2_with (at_builtin;refine zah rfl _ _ 103 rfl i.heap.size 4 _ 1 1 Tryz.underlying103 zc3 rfl (by decide) (.slice J a L) a ((isL k a).map encB) rfl (by exact za1 m.out ((nW d).alloc _) kP) d.heap.size rfl [.bool false] 4 (xJ d _) rfl (by intro a5 p;simp at p;subst p;rfl) z.out (by decide) (by have:=A.out;simp;omega) ?_);intro F G s r E;have y:=Hh s;have q:=Hh r;clear s r E;go_wp2;go_roundw
    case rel =>
     have D:isNB (k.getD a 0)=false:=by
      cases T:isNB (k.getD a 0)with
      | false=>rfl
      | true=>have:=(O.out.1 T).1;omega
     have B:Fr (λb=>b=j) i G:=(t.out.trans ((nW d).alloc (.cells #[.bool false] 4)) (λ_ _ b=>b.elim)).trans q.out (λb U e=>by have l:=(m.out.lt b e).1;omega);have C:=n.out;refine⟨F,a+1,S,rfl,by go_num,by omega,?_,?_,u.out.1,u.out.2,B⟩
     ·rw[zdh,vQ,D]
      exact y.out
     ·exact(K.out.fr ((nW d).alloc (.cells #[.bool false] 4)) id).fr q.out (λe=>by have l:=(m.out.lt j e).1;have P:=N.out;omega)
    case measure=>have C:=n.out;simp[intOf];omega
   ·by_cases bS:1<Rx.length
    ·have a1:(Lx.length:Int)<=1:=by omega
     have a2:¬(Rx.length:Int)<=1:=by omega
     obtain⟨x0,x1⟩:=HX.out d (Fr.refl _ _);have t:=G6;have m:=HR;have K:=ae;have u:=a8;have A:=Hh (show i.heap.size<=d.heap.size from t.out.size);have z:=Hh (show(a+1)*1<=140737488355328 by have l:=n.out;omega);go_wp2_with (at_builtin;refine zah rfl _ _ 103 rfl i.heap.size 4 _ 1 1 Tryz.underlying103 zc3 rfl (by decide) (.slice J a L) a ((isL k a).map encB) rfl (by exact za1 m.out ((nW d).alloc _) kP) d.heap.size rfl [.bool false] 4 (xJ d _) rfl (by intro a5 p;simp at p;subst p;rfl) z.out (by decide) (by have:=A.out;simp;omega) ?_);intro F G s r E;have y:=Hh s;have q:=Hh r;clear s r E;go_wp2;go_roundw
     case rel =>
      have D:isNB (k.getD a 0)=false:=by
       cases T:isNB (k.getD a 0)with
       | false=>rfl
       | true=>have:=(O.out.1 T).2.1;omega
      have B:Fr (λb=>b=j) i G:=(t.out.trans ((nW d).alloc (.cells #[.bool false] 4)) (λ_ _ b=>b.elim)).trans q.out (λb U e=>by have l:=(m.out.lt b e).1;omega);have C:=n.out;refine⟨F,a+1,S,rfl,by go_num,by omega,?_,?_,u.out.1,u.out.2,B⟩
      ·rw[zdh,vQ,D]
       exact y.out
      ·exact(K.out.fr ((nW d).alloc (.cells #[.bool false] 4)) id).fr q.out (λe=>by have l:=(m.out.lt j e).1;have P:=N.out;omega)
     case measure=>have C:=n.out;simp[intOf];omega
    ·have a6:Lx.length<=1:=by omega
     have a7:Rx.length<=1:=by omega
     clear bR bS bX c5;match Lx,Rx,a6,a7,O,HQ,ac,ad,HX,aj,ak with
     | [],[],a6,a7,O,HQ,ac,ad,HX,aj,ak =>
      obtain⟨x0,x1⟩:=HX.out d (Fr.refl _ _);replace x0:d.cell? ⟨bx,0,none⟩=some (.slice la 0 lc):=x0
      replace x1:d.cell? ⟨bx,1,none⟩=some (.slice ra 0 rc):=x1
      have t:=G6;have m:=HR;have K:=ae;have u:=a8;have A:=Hh (show i.heap.size<=d.heap.size from t.out.size);have z:=Hh (show(a+1)*1<=140737488355328 by have l:=n.out;omega);go_wp2_with (at_builtin;refine zah rfl _ _ 103 rfl i.heap.size 4 _ 1 1 Tryz.underlying103 zc3 rfl (by decide) (.slice J a L) a ((isL k a).map encB) rfl (by exact za1 m.out ((nW d).alloc _) kP) d.heap.size rfl [.bool true] 4 (xJ d _) rfl (by intro a5 p;simp at p;subst p;rfl) z.out (by decide) (by have:=A.out;simp;omega) ?_);intro F G s r E;have y:=Hh s;have q:=Hh r;clear s r E;go_wp2;go_roundw
      case rel =>
       have D:isNB (k.getD a 0)=true:=by
        exact O.out.2 ⟨by simp,by simp,by simp,by simp,by simp⟩
       have B:Fr (λb=>b=j) i G:=(t.out.trans ((nW d).alloc (.cells #[.bool true] 4)) (λ_ _ b=>b.elim)).trans q.out (λb U e=>by have l:=(m.out.lt b e).1;omega);have C:=n.out;refine⟨F,a+1,S,rfl,by go_num,by omega,?_,?_,u.out.1,u.out.2,B⟩
       ·rw[zdh,vQ,D]
        exact y.out
       ·exact(K.out.fr ((nW d).alloc (.cells #[.bool true] 4)) id).fr q.out (λe=>by have l:=(m.out.lt j e).1;have P:=N.out;omega)
      case measure=>have C:=n.out;simp[intOf];omega
     | [o],[],a6,a7,O,HQ,ac,ad,HX,aj,ak =>
      obtain⟨x0,x1⟩:=HX.out d (Fr.refl _ _);replace x0:d.cell? ⟨bx,0,none⟩=some (.slice la 1 lc):=x0
      replace x1:d.cell? ⟨bx,1,none⟩=some (.slice ra 0 rc):=x1
      have aa:o<a:=HQ.out.1 o (by simp);obtain⟨b5,o5,al,d5⟩:=ac.out 0 o rfl;have aq:=za8 la 1 lc 0 b5 o5 (by omega) al;rw[show((0:Nat):Int)=0 from rfl]at aq;have d5:d.cell? ⟨b5,o5,none⟩=some (.int .i64 (o:Int)):=d5 d (Fr.refl _ _);obtain⟨b6,o6,am,d6⟩:=ar.out o aa;have c8:=ziq J a L o b6 o6 aa am;have d6:=d6 d (Fr.refl _ _);have bt:(o:Int)<(a:Int):=by omega
      obtain⟨ga,a4⟩:=eX (isNB (k.getD o 0));rw[<-a4]at d6;have a0:=Hh a4;clear al am a4;have t:=G6;have m:=HR;have K:=ae;have u:=a8;cases ga with
      | true =>
       have A:=Hh (show i.heap.size<=d.heap.size from t.out.size);have z:=Hh (show(a+1)*1<=140737488355328 by have l:=n.out;omega);go_wp2_with (at_builtin;refine zah rfl _ _ 103 rfl i.heap.size 4 _ 1 1 Tryz.underlying103 zc3 rfl (by decide) (.slice J a L) a ((isL k a).map encB) rfl (by exact za1 m.out ((nW d).alloc _) kP) d.heap.size rfl [.bool true] 4 (xJ d _) rfl (by intro a5 p;simp at p;subst p;rfl) z.out (by decide) (by have:=A.out;simp;omega) ?_);intro F G s r E;have y:=Hh s;have q:=Hh r;clear s r E;go_wp2;go_roundw
       case rel =>
        have D:isNB (k.getD a 0)=true:=by
         exact O.out.2 ⟨by simp,by simp,λaF hl=>by rw[yQ.1 hl,<-a0.out],by simp,by simp⟩
        have B:Fr (λb=>b=j) i G:=(t.out.trans ((nW d).alloc (.cells #[.bool true] 4)) (λ_ _ b=>b.elim)).trans q.out (λb U e=>by have l:=(m.out.lt b e).1;omega);have C:=n.out;refine⟨F,a+1,S,rfl,by go_num,by omega,?_,?_,u.out.1,u.out.2,B⟩
        ·rw[zdh,vQ,D]
         exact y.out
        ·exact(K.out.fr ((nW d).alloc (.cells #[.bool true] 4)) id).fr q.out (λe=>by have l:=(m.out.lt j e).1;have P:=N.out;omega)
       case measure=>have C:=n.out;simp[intOf];omega
      | false =>
       have A:=Hh (show i.heap.size<=d.heap.size from t.out.size);have z:=Hh (show(a+1)*1<=140737488355328 by have l:=n.out;omega);go_wp2_with (at_builtin;refine zah rfl _ _ 103 rfl i.heap.size 4 _ 1 1 Tryz.underlying103 zc3 rfl (by decide) (.slice J a L) a ((isL k a).map encB) rfl (by exact za1 m.out ((nW d).alloc _) kP) d.heap.size rfl [.bool false] 4 (xJ d _) rfl (by intro a5 p;simp at p;subst p;rfl) z.out (by decide) (by have:=A.out;simp;omega) ?_);intro F G s r E;have y:=Hh s;have q:=Hh r;clear s r E;go_wp2;go_roundw
       case rel =>
        have D:isNB (k.getD a 0)=false:=by
         cases T:isNB (k.getD a 0)with
         | false=>rfl
         | true=>rw[(O.out.1 T).2.2.1 o (by simp)]at a0;exact a0.out.symm
        have B:Fr (λb=>b=j) i G:=(t.out.trans ((nW d).alloc (.cells #[.bool false] 4)) (λ_ _ b=>b.elim)).trans q.out (λb U e=>by have l:=(m.out.lt b e).1;omega);have C:=n.out;refine⟨F,a+1,S,rfl,by go_num,by omega,?_,?_,u.out.1,u.out.2,B⟩
        ·rw[zdh,vQ,D]
         exact y.out
        ·exact(K.out.fr ((nW d).alloc (.cells #[.bool false] 4)) id).fr q.out (λe=>by have l:=(m.out.lt j e).1;have P:=N.out;omega)
       case measure=>have C:=n.out;simp[intOf];omega
     | [],[o],a6,a7,O,HQ,ac,ad,HX,aj,ak =>
      obtain⟨x0,x1⟩:=HX.out d (Fr.refl _ _);replace x0:d.cell? ⟨bx,0,none⟩=some (.slice la 0 lc):=x0
      replace x1:d.cell? ⟨bx,1,none⟩=some (.slice ra 1 rc):=x1
      have aa:o<a:=HQ.out.2 o (by simp);obtain⟨b5,o5,al,d5⟩:=ad.out 0 o rfl;have aq:=za8 ra 1 rc 0 b5 o5 (by omega) al;rw[show((0:Nat):Int)=0 from rfl]at aq;have d5:d.cell? ⟨b5,o5,none⟩=some (.int .i64 (o:Int)):=d5 d (Fr.refl _ _);obtain⟨b6,o6,am,d6⟩:=ar.out o aa;have c8:=ziq J a L o b6 o6 aa am;have d6:=d6 d (Fr.refl _ _);have bt:(o:Int)<(a:Int):=by omega
      obtain⟨ga,a4⟩:=eX (isNB (k.getD o 0));rw[<-a4]at d6;have a0:=Hh a4;clear al am a4;have t:=G6;have m:=HR;have K:=ae;have u:=a8;cases ga with
      | true =>
       have A:=Hh (show i.heap.size<=d.heap.size from t.out.size);have z:=Hh (show(a+1)*1<=140737488355328 by have l:=n.out;omega);go_wp2_with (at_builtin;refine zah rfl _ _ 103 rfl i.heap.size 4 _ 1 1 Tryz.underlying103 zc3 rfl (by decide) (.slice J a L) a ((isL k a).map encB) rfl (by exact za1 m.out ((nW d).alloc _) kP) d.heap.size rfl [.bool true] 4 (xJ d _) rfl (by intro a5 p;simp at p;subst p;rfl) z.out (by decide) (by have:=A.out;simp;omega) ?_);intro F G s r E;have y:=Hh s;have q:=Hh r;clear s r E;go_wp2;go_roundw
       case rel =>
        have D:isNB (k.getD a 0)=true:=by
         exact O.out.2 ⟨by simp,by simp,by simp,λaF hl=>by rw[yQ.1 hl,<-a0.out],by simp⟩
        have B:Fr (λb=>b=j) i G:=(t.out.trans ((nW d).alloc (.cells #[.bool true] 4)) (λ_ _ b=>b.elim)).trans q.out (λb U e=>by have l:=(m.out.lt b e).1;omega);have C:=n.out;refine⟨F,a+1,S,rfl,by go_num,by omega,?_,?_,u.out.1,u.out.2,B⟩
        ·rw[zdh,vQ,D]
         exact y.out
        ·exact(K.out.fr ((nW d).alloc (.cells #[.bool true] 4)) id).fr q.out (λe=>by have l:=(m.out.lt j e).1;have P:=N.out;omega)
       case measure=>have C:=n.out;simp[intOf];omega
      | false =>
       have A:=Hh (show i.heap.size<=d.heap.size from t.out.size);have z:=Hh (show(a+1)*1<=140737488355328 by have l:=n.out;omega);go_wp2_with (at_builtin;refine zah rfl _ _ 103 rfl i.heap.size 4 _ 1 1 Tryz.underlying103 zc3 rfl (by decide) (.slice J a L) a ((isL k a).map encB) rfl (by exact za1 m.out ((nW d).alloc _) kP) d.heap.size rfl [.bool false] 4 (xJ d _) rfl (by intro a5 p;simp at p;subst p;rfl) z.out (by decide) (by have:=A.out;simp;omega) ?_);intro F G s r E;have y:=Hh s;have q:=Hh r;clear s r E;go_wp2;go_roundw
       case rel =>
        have D:isNB (k.getD a 0)=false:=by
         cases T:isNB (k.getD a 0)with
         | false=>rfl
         | true=>rw[(O.out.1 T).2.2.2.1 o (by simp)]at a0;exact a0.out.symm
        have B:Fr (λb=>b=j) i G:=(t.out.trans ((nW d).alloc (.cells #[.bool false] 4)) (λ_ _ b=>b.elim)).trans q.out (λb U e=>by have l:=(m.out.lt b e).1;omega);have C:=n.out;refine⟨F,a+1,S,rfl,by go_num,by omega,?_,?_,u.out.1,u.out.2,B⟩
        ·rw[zdh,vQ,D]
         exact y.out
        ·exact(K.out.fr ((nW d).alloc (.cells #[.bool false] 4)) id).fr q.out (λe=>by have l:=(m.out.lt j e).1;have P:=N.out;omega)
       case measure=>have C:=n.out;simp[intOf];omega
     | [o],[h],a6,a7,O,HQ,ac,ad,HX,aj,ak =>
      obtain⟨x0,x1⟩:=HX.out d (Fr.refl _ _);replace x0:d.cell? ⟨bx,0,none⟩=some (.slice la 1 lc):=x0
      replace x1:d.cell? ⟨bx,1,none⟩=some (.slice ra 1 rc):=x1
      have aa:o<a:=HQ.out.1 o (by simp);obtain⟨aI,aY,bn,au⟩:=ac.out 0 o rfl;have aq:=za8 la 1 lc 0 aI aY (by omega) bn;rw[show((0:Nat):Int)=0 from rfl]at aq;have bI:=Hh au;have au:d.cell? ⟨aI,aY,none⟩=some (.int .i64 (o:Int)):=au d (Fr.refl _ _);obtain⟨bP,c9,bp,aw⟩:=ar.out o aa;have co:=ziq J a L o bP c9 aa bp;have aw:=aw d (Fr.refl _ _);have bt:(o:Int)<(a:Int):=by omega
      obtain⟨ga,a4⟩:=eX (isNB (k.getD o 0));rw[<-a4]at aw;have a0:=Hh a4;obtain⟨bi,bG,br,ay⟩:=b4.out o (by have:=n.out;omega);have cm:=za8 a3 X c3 o bi bG (by have:=n.out;omega) br;have ay:=ay d G6.out;clear bn bp a4 br;have bu:h<a:=HQ.out.2 h (by simp);obtain⟨aJ,aZ,bo,av⟩:=ad.out 0 h rfl;have c6:=za8 ra 1 rc 0 aJ aZ (by omega) bo;rw[show((0:Nat):Int)=0 from rfl]at c6;have bJ:=Hh av;have av:d.cell? ⟨aJ,aZ,none⟩=some (.int .i64 (h:Int)):=av d (Fr.refl _ _);obtain⟨bQ,ca,bq,ax⟩:=ar.out h bu;have cp:=ziq J a L h bQ ca bu bq;have ax:=ax d (Fr.refl _ _);have ch:(h:Int)<(a:Int):=by omega
      obtain⟨gb,aV⟩:=eX (isNB (k.getD h 0));rw[<-aV]at ax;have aG:=Hh aV;obtain⟨bj,bH,bs,az⟩:=b4.out h (by have:=n.out;omega);have cn:=za8 a3 X c3 h bj bH (by have:=n.out;omega) bs;have az:=az d G6.out;clear bo bq aV bs;cases ga with
      | false =>
       have t:=G6;have m:=HR;have K:=ae;have u:=a8;have A:=Hh (show i.heap.size<=d.heap.size from t.out.size);have z:=Hh (show(a+1)*1<=140737488355328 by have l:=n.out;omega);go_wp2_with (at_builtin;refine zah rfl _ _ 103 rfl i.heap.size 4 _ 1 1 Tryz.underlying103 zc3 rfl (by decide) (.slice J a L) a ((isL k a).map encB) rfl (by exact za1 m.out ((nW d).alloc _) kP) d.heap.size rfl [.bool false] 4 (xJ d _) rfl (by intro a5 p;simp at p;subst p;rfl) z.out (by decide) (by have:=A.out;simp;omega) ?_);intro F G s r E;have y:=Hh s;have q:=Hh r;clear s r E;go_wp2;go_roundw
       case rel =>
        have D:isNB (k.getD a 0)=false:=by
         cases T:isNB (k.getD a 0)with
         | false=>rfl
         | true=>rw[(O.out.1 T).2.2.1 o (by simp)]at a0;exact a0.out.symm
        have B:Fr (λb=>b=j) i G:=(t.out.trans ((nW d).alloc (.cells #[.bool false] 4)) (λ_ _ b=>b.elim)).trans q.out (λb U e=>by have l:=(m.out.lt b e).1;omega);have C:=n.out;refine⟨F,a+1,S,rfl,by go_num,by omega,?_,?_,u.out.1,u.out.2,B⟩
        ·rw[zdh,vQ,D]
         exact y.out
        ·exact(K.out.fr ((nW d).alloc (.cells #[.bool false] 4)) id).fr q.out (λe=>by have l:=(m.out.lt j e).1;have P:=N.out;omega)
       case measure=>have C:=n.out;simp[intOf];omega
      | true =>
       cases gb with
       | false =>
        have t:=G6;have m:=HR;have K:=ae;have u:=a8;have A:=Hh (show i.heap.size<=d.heap.size from t.out.size);have z:=Hh (show(a+1)*1<=140737488355328 by have l:=n.out;omega);go_wp2_with (at_builtin;refine zah rfl _ _ 103 rfl i.heap.size 4 _ 1 1 Tryz.underlying103 zc3 rfl (by decide) (.slice J a L) a ((isL k a).map encB) rfl (by exact za1 m.out ((nW d).alloc _) kP) d.heap.size rfl [.bool false] 4 (xJ d _) rfl (by intro a5 p;simp at p;subst p;rfl) z.out (by decide) (by have:=A.out;simp;omega) ?_);intro F G s r E;have y:=Hh s;have q:=Hh r;clear s r E;go_wp2;go_roundw
        case rel =>
         have D:isNB (k.getD a 0)=false:=by
          cases T:isNB (k.getD a 0)with
          | false=>rfl
          | true=>rw[(O.out.1 T).2.2.2.1 h (by simp)]at aG;exact aG.out.symm
         have B:Fr (λb=>b=j) i G:=(t.out.trans ((nW d).alloc (.cells #[.bool false] 4)) (λ_ _ b=>b.elim)).trans q.out (λb U e=>by have l:=(m.out.lt b e).1;omega);have C:=n.out;refine⟨F,a+1,S,rfl,by go_num,by omega,?_,?_,u.out.1,u.out.2,B⟩
         ·rw[zdh,vQ,D]
          exact y.out
         ·exact(K.out.fr ((nW d).alloc (.cells #[.bool false] 4)) id).fr q.out (λe=>by have l:=(m.out.lt j e).1;have P:=N.out;omega)
        case measure=>have C:=n.out;simp[intOf];omega
       | true =>
        have hn:=Hn.out;obtain⟨gv,aW⟩:=eX (geV k o h);have bK:=Hh (λf (v:Fr NoM d f)=>by
         have af:=zkk HB.out ob V j o h (by omega) (by have:=n.out;omega) (by have:=n.out;omega) S f (bO.out.fr0 v) a8.out.2;rw[<-aW]at af;exact af)
        have bf:=Hh aW;have ce:=Hh (λf (v:Fr NoM d f)=>show(f.cell? ⟨bx,0,none⟩=some (.slice la 1 lc)/\f.cell? ⟨bx,1,none⟩=some (.slice ra 1 rc))/\(f.cell? ⟨aI,aY,none⟩=some (.int .i64 (o:Int))/\f.cell? ⟨aJ,aZ,none⟩=some (.int .i64 (h:Int)))/\f.cell? ⟨bi,bG+o,none⟩=some (.int .i64 (o:Int))/\f.cell? ⟨bj,bH+h,none⟩=some (.int .i64 (h:Int))from
         ⟨HX.out f v,⟨bI.out f v,bJ.out f v⟩,v.cell ay id,v.cell az id⟩)
        have Q0:Fr NoM d d.drew:=(nW d).drew;clear hn aW;go_upto_region 11 with fail;go_region_law (first
         | (go_simp;first
          | (go_at_call 190;(with_reducible refine(bK.out _ (by first|exact Q0|exact Fr.refl _ _)).mono ?_);rintro e Z ⟨rfl,K',o8,bF,f8⟩;have g8:Fr (λb=>b=j) i Z:=(G6.out.trans Q0 (λ_ _ b=>b.elim)).trans f8 kP)
          | fail)
         | fail)
        all_goals
         have t:=Hh g8;have m:=Hh (show Z.ownsRow i.heap.size 4 1 (.slice J a L) a ((isL k a).map encB)from za1 HR.out ((Q0.any (M:=λb=>b=j)).trans f8 kP) (λb U e=>by have l:=(HR.out.lt b U).1;have P:=N.out;have e:b=j:=e;omega));have K:=Hh o8.row;have u:=Hh (And.intro o8.len bF);obtain⟨nb,bZ⟩:=eX (!gv);have cc:=Hh bZ;clear g8 o8 bF f8 au av aw ax ay az x0 x1;cases gv with
         | true =>
          have A:=Hh (show i.heap.size<=Z.heap.size from t.out.size);have z:=Hh (show(a+1)*1<=140737488355328 by have l:=n.out;omega);go_wp2_with (at_builtin;refine zah rfl _ _ 103 rfl i.heap.size 4 _ 1 1 Tryz.underlying103 zc3 rfl (by decide) (.slice J a L) a ((isL k a).map encB) rfl (by exact za1 m.out ((nW Z).alloc _) kP) Z.heap.size rfl [.bool false] 4 (xJ Z _) rfl (by intro a5 p;simp at p;subst p;rfl) z.out (by decide) (by have:=A.out;simp;omega) ?_);intro F G s r E;have y:=Hh s;have q:=Hh r;clear s r E;go_wp2;go_roundw
          case rel =>
           have D:isNB (k.getD a 0)=false:=by
            cases T:isNB (k.getD a 0)with
            | false=>rfl
            | true =>
             have l:=(O.out.1 T).2.2.2.2 o (by simp) h (by simp);rw[<-bf.out]at l;cases l
           have B:Fr (λb=>b=j) i G:=(t.out.trans ((nW Z).alloc (.cells #[.bool false] 4)) (λ_ _ b=>b.elim)).trans q.out (λb U e=>by have l:=(m.out.lt b e).1;omega);have C:=n.out;refine⟨F,a+1,K',rfl,by go_num,by omega,?_,?_,u.out.1,u.out.2,B⟩
           ·rw[zdh,vQ,D]
            exact y.out
           ·exact(K.out.fr ((nW Z).alloc (.cells #[.bool false] 4)) id).fr q.out (λe=>by have l:=(m.out.lt j e).1;have P:=N.out;omega)
          case measure=>have C:=n.out;simp[intOf];omega
         | false =>
          have A:=Hh (show i.heap.size<=Z.heap.size from t.out.size);have z:=Hh (show(a+1)*1<=140737488355328 by have l:=n.out;omega);go_wp2_with (at_builtin;refine zah rfl _ _ 103 rfl i.heap.size 4 _ 1 1 Tryz.underlying103 zc3 rfl (by decide) (.slice J a L) a ((isL k a).map encB) rfl (by exact za1 m.out ((nW Z).alloc _) kP) Z.heap.size rfl [.bool true] 4 (xJ Z _) rfl (by intro a5 p;simp at p;subst p;rfl) z.out (by decide) (by have:=A.out;simp;omega) ?_);intro F G s r E;have y:=Hh s;have q:=Hh r;clear s r E;go_wp2;go_roundw
          case rel =>
           have D:isNB (k.getD a 0)=true:=by
            exact O.out.2 ⟨by simp,by simp,λaF hl=>by rw[yQ.1 hl,<-a0.out],λaF hl=>by rw[yQ.1 hl,<-aG.out],λaF hl cq hr=>by rw[yQ.1 hl,yQ.1 hr,<-bf.out]⟩
           have B:Fr (λb=>b=j) i G:=(t.out.trans ((nW Z).alloc (.cells #[.bool true] 4)) (λ_ _ b=>b.elim)).trans q.out (λb U e=>by have l:=(m.out.lt b e).1;omega);have C:=n.out;refine⟨F,a+1,K',rfl,by go_num,by omega,?_,?_,u.out.1,u.out.2,B⟩
           ·rw[zdh,vQ,D]
            exact y.out
           ·exact(K.out.fr ((nW Z).alloc (.cells #[.bool true] 4)) id).fr q.out (λe=>by have l:=(m.out.lt j e).1;have P:=N.out;omega)
          case measure=>have C:=n.out;simp[intOf];omega
     | _::_::_,_,a6,_,_,_,_,_,_,_,_=>simp at a6
     | _,_::_::_,_,a7,_,_,_,_,_,_,_=>simp at a7
  ·have bV:a=X:=by omega
   subst bV;have hp:=Hp.out;obtain⟨J,L,ab,_,_,ap⟩:=(SliceOf.of_owns hr rfl:SliceOf encB w7 bv (isL k a));rw[ycq]at ab;subst ab;obtain⟨b2,o2,bm,d3⟩:=ap (a-1) _ (ycr k (by omega));have cl:=ziq J a L (a-1) b2 o2 (by omega) bm;have ci:((a:Int)-1)=((a-1:Nat):Int):=by omega
   rw[<-HG.out]at d3;unfold encB at d3;have aL:¬(a:Int)<(a:Int):=by omega
   have HM:=Hh (FW.out w7 hf);clear hr aA aB aN hf ap bm W ah hp;go_wp2_with fail;go_ret;exact⟨rfl,HM.out⟩
