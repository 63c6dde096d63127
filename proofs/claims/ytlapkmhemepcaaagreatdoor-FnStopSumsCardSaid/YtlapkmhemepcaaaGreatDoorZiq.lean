import Derived.Test.YtlapkmhemepcaaaGreatDoorZi11
import Derived.Test.YtlapkmhemepcaaaGreatDoorZi5
import Derived.Deep.SlicePairs
import Derived.ChangeSlices
import Derived.Test.YtlapkmhemepcaaaGreatDoorZil
/- Lemmas. -/
set_option linter.all false
set_option maxHeartbeats 8000000
set_option maxRecDepth 20000
namespace Go.Proofs.YtlapkmhemepcaaaGreatDoor
open Go.RowKit
def CodeOK (w:World)(b:Value)(L:List Int):Prop:=SliceOf encC w b L/\∀a∈L,0<=a/\a<=255
theorem CodeOK.fr0 {w c:World}{a:Value}{L:List Int}(b:CodeOK w a L)(d:Fr NoM w c):CodeOK c a L:=⟨b.1.fr0 d,b.2⟩
theorem zpv (b:Value)(L:List Int)(w:World)(c:CodeOK w b L):Calls Tryz.prog 9 #[b] w λe h=>e=.returned (.bool (decide (65536<L.length)))/\h=w:=by(obtain⟨i,j,rfl,f,g,_⟩:=c.1;have k:L.length<=9223372036854775807:=by omega);clear c f g;go_enter Tryz.func9,Tryz.ntmps9;go_wp2;go_ret;by_cases d:65536<L.length;{(have a:(65536:Int)<(L.length:Int):=by omega);simp[d,a]};{(have a:¬(65536:Int)<(L.length:Int):=by omega);simp[d,a]}
theorem CurS.start {w:World}{a:Value}{L:List Int}(b:CodeOK w a L):CurS (w.alloc (.cells #[a,.int .i64 0,.int .u64 0] 69)) w.heap.size 0:=by refine⟨a,L,0,0,xJ w _,b.1.fr0 ((nW w).alloc _),b.2,xW _,λe h f=>?_⟩;obtain⟨g,c,d⟩:=b.1.block e;rw[f]at c;cases c;exact d
structure BoxI (W:World) (b:Nat) (R:Nat->Prop) (v:Value) (Fi:List (List Int × List Int)):Prop where
 cell:W.cell? ⟨b,0,none⟩=some v
 node:NodeL R encI W v Fi
section
variable {W W':World}{b:Nat}{R:Nat->Prop}{v:Value}{Fi:List (List Int × List Int)}
theorem BoxI.fr0 (a:BoxI W b R v Fi)(c:Fr NoM W W'):BoxI W' b R v Fi:=⟨c.cell a.cell id,a.node.fr0 c⟩
theorem BoxI.made (a:NodeL R encI W v Fi)(b:W'=W.alloc (.cells #[v] 26)):BoxI W' W.heap.size R v Fi:=by subst b;exact⟨by rw[xX _ _ 0 _ _ _ (xJ W _)];rfl,a.fr0 ((nW W).alloc _)⟩
end
end Go.Proofs.YtlapkmhemepcaaaGreatDoor
namespace Go.Proofs.YtlapkmhemepcaaaGreatDoor
open Go.RowKit Go.ChangeShapes Go.WideShapes Go.Deep
theorem yk3 {w:World}{a:Addr}{v:Value}(b:w.cell? a=some v):a=⟨a.block,a.off,none⟩:=by obtain⟨d,f,c⟩:=a;cases c with| none=>rfl| some e =>{unfold World.cell? at b;simp only at b;split at b;{simp at b};{cases b}}
section
variable {H:Type}{enc:TypeId × Value->H}{w:World}{base:Nat}{spare:Nat->Bool}{held:Bool}
theorem openBytes {r:Reach}{n:Nat}{v:Value}{p:DataW H}{A:List MemPlace}(x:Value.okWide Tryz.prog w r n 22 v)(q:DataW.Trod enc Tryz.prog w base spare held 22 v p A):∃m,CodeOK w v m:=by obtain⟨B,d,o,rfl⟩:=okWide_slice Tryz.underlying22 x;obtain⟨D,s⟩:=q;rcases open_ints Tryz.underlying22 Tryz.underlying5 (by kernel_rfl) s with ⟨e,_⟩|⟨a,G,C,f,e,_,E,u,z,_,i,y⟩;{cases e;exact⟨[],⟨none,0,rfl,xW _,by decide,by simp⟩,by simp⟩};{cases e;(have F:d<=f.length:=by rw[z];split <;> omega);(have j:(f.take d).length=d:=by rw[kQ];omega);refine⟨f.take d,⟨some a,o,by rw[j],by omega,by unfold maxLen at u;omega,λk l c=>?_⟩,λl c=>?_⟩;{(have t:k<d:=by rw[<-j];exact(xV.1 c).1);have g:=i 0 (by omega);rw[show a.add 0=a from rfl]at g;have h:=yk3 g;have b:=i k (by omega);rw[List.getElem?_take,if_pos t]at c;refine⟨a.block,a.off,by rw[<-h],?_⟩;rw[h,add_plain]at b;rw[xY,c]at b;exact b};{have b:=y l (List.mem_of_mem_take c);simp[Lit.wf,IntKind.min,IntKind.max,IntKind.signed,IntKind.bits]at b;omega}}
end
end Go.Proofs.YtlapkmhemepcaaaGreatDoor
namespace Go.Proofs.YtlapkmhemepcaaaGreatDoor
open Go.RowKit
theorem zo7 {n:Nat}(a:World)(L:List Int)(c:n=a.heap.size)(f:L.length<=1000):Ints (a.alloc (.cells (L.map λb=>Value.int .i64 b).toArray 3)) (.slice (some ⟨n,0,none⟩) L.length L.length) L:=by subst c;have d:=xJ a (.cells (L.map λb=>Value.int .i64 b).toArray 3);refine⟨_,L.length,rfl,xW _,by omega,λg h e=>⟨a.heap.size,0,rfl,?_⟩⟩;rw[Nat.zero_add,xX _ _ _ _ _ _ d];simp[e,encI]
theorem zss {a n c q b:Nat}(d:(Value.slice (some ⟨a,0,none⟩) n c).ownBlock=some q)(f:b<a):q≠b:=by have e:a=q:=yK d;omega
theorem yg3 (a:Nat):geC a a=true:=by induction a using Nat.strongRecOn with| _ a h =>{rw[zdm];constructor;{intro d g;cases e:geC a d with| false=>rfl| true =>{have b:=((zdm a d).1 e).1 d g;rw[h d (za7 (.inr g))]at b;cases b}};{intro c f;cases e:geC c a with| false=>rfl| true =>{have b:=((zdm c a).1 e).2 c f;rw[h c (za7 (.inl f))]at b;cases b}}}
theorem yg2 (C:List Nat)(x:Nat):geV C x x=true:=yg3 _
theorem zbf (a:Option Addr)(n c k b d:Nat)(f:k<n)(e:a=some ⟨b,d,none⟩)(w:World) : (Instr.indexAt 107 (.slice a n c) (.int .i64 (k:Int))).run Tryz.prog w=.ok (.pointer (some ⟨b,d+k,none⟩)) w:=by subst e;go_simp
theorem PoolS.rd {M I:Nat->Prop} {w:World} {pb:Nat} {V:List PL} {BV:List Nat} {y v z x:Value} (C:PoolS M I w pb V BV y v z x) : ∃ j p k q, w.cell? ⟨pb, 0, none⟩ = some (.slice j V.length p)/\w.cell? ⟨pb, 1, none⟩ = some (.slice k V.length q)/\w.cell? ⟨pb, 4, none⟩ = some y/\w.cell? ⟨pb, 5, none⟩ = some v/\w.cell? ⟨pb, 6, none⟩ = some z/\w.cell? ⟨pb, 7, none⟩ = some x ∧ (∀ a,a < V.length->∃ b c d,j=some ⟨b,c,none⟩/\w.cell? ⟨b,c + a,none⟩=some d/\Nats w d (za4 V a).1/\((za4 V a).1≠[]->∀ h,d.ownBlock=some h->I h)) ∧ (∀ a,a < V.length->∃ b c d,k=some ⟨b,c,none⟩/\w.cell? ⟨b,c + a,none⟩=some d/\Nats w d (za4 V a).2/\((za4 V a).2≠[]->∀ h,d.ownBlock=some h->I h)):=by obtain ⟨K,N,H,J,t,u,f,D,E,_⟩:=C;obtain ⟨j,p,rfl,_,_,F⟩:=SliceOf.of_owns (enc:=encV) (L:=t) f.left (by rw [show (encV:Value->Value)=id from rfl,List.map_id]);obtain ⟨k,q,rfl,_,_,G⟩:=SliceOf.of_owns (enc:=encV) (L:=u) f.right (by rw [show (encV:Value->Value)=id from rfl,List.map_id]);have e:=f.blk;have A:=f.lenL;have B:=f.lenR;refine ⟨j,p,k,q,by rw [xX w pb 0 _ _ _ e,<-A];rfl,by rw [xX w pb 1 _ _ _ e,<-B];rfl,by rw [xX w pb 4 _ _ _ e];rfl,by rw [xX w pb 5 _ _ _ e];rfl,by rw [xX w pb 6 _ _ _ e];rfl,by rw [xX w pb 7 _ _ _ e];rfl,λa o=>?_,λa o=>?_⟩;{have g := xQ (l := t) (i := a) (by omega);obtain ⟨b,c,m,n⟩:=F a _ g;obtain ⟨r,s⟩:=D a _ _ g (za6 o);exact ⟨b,c,_,m,n,r,s⟩};{have g := xQ (l := u) (i := a) (by omega);obtain ⟨b,c,m,n⟩:=G a _ g;obtain ⟨r,s⟩:=E a _ _ g (za6 o);exact ⟨b,c,_,m,n,r,s⟩}
def OrdF (C:List Nat)(f:Nat × Nat->Option Bool):Prop:=∀a b,f a=some b->a.1<C.length/\a.2<C.length/\b=geV C a.1 a.2
theorem OrdF.none (C:List Nat):OrdF C (λ_=>none):=λ_ _ a=>by cases a
theorem OrdF.upd {C:List Nat}{f:Nat × Nat->Option Bool}{x y:Nat}(d:OrdF C f)(e:x<C.length)(g:y<C.length):OrdF C (upd f (x,y) (geV C x y)):=λh b a=>by unfold Go.Proofs.YtlapkmhemepcaaaGreatDoor.upd at a;split at a;{rename_i c;subst c;exact⟨e,g,(yK a).symm⟩};{exact d h b a}
theorem OrdF.mono {C a:List Nat}{f:Nat × Nat->Option Bool}(e:OrdF C f)(c:C <+: a):OrdF a f:=λj d i=>by obtain⟨g,h,b⟩:=e j d i;have k:=c.length_le;obtain⟨l,rfl⟩:=c;refine⟨by omega,by omega,?_⟩;unfold geV at b ⊢;rw[zfb g,zfb h];exact b
def GeIs (M I:Nat->Prop)(C:List Nat)(V:List PL)(BV:List Nat)(pb a:Nat)(g i h:Value)(x y:Nat):Prop:=∀(c:Nat × Nat->Option Bool) (b:World),PoolS M I b pb V BV (.map (some a)) g i h->MapF encP encB b a c->OrdF C c ->
  Calls Tryz.prog 161 #[.pointer (some ⟨pb,0,none⟩),.int .i64 (x:Int),.int .i64 (y:Int)] b λf e=>f=.returned (.bool (geV C x y))/\∃d,MapF encP encB e a d/\OrdF C d/\Fr (λj=>j=a) b e
theorem zte {M I:Nat->Prop}{C:List Nat}{V:List PL}{BV:List Nat}(B:BookC V C)(pb c:Nat)(mc ms mn:Value)(aX:¬M c)(ao:¬I c):∀f x y,x+y<f->x<V.length->y<V.length->GeIs M I C V BV pb c mc ms mn x y:=by
 intro f;induction f with
 | zero=>intro x y j;omega
 | succ f ih =>
  intro x y p A D h E hP hF hO;by_cases aM:x=y
  ·subst aM
   have HG:=Hh (show geV C x x=true from yg2 C x);have hb:((x:Int) == (x:Int))=true:=beq_self_eq_true _;have HF:=Hh hF;have HO:=Hh hO;clear hF hO hP ih;go_enter Tryz.func161,Tryz.ntmps161;go_wp2_with fail;go_ret;exact⟨by rw[HG.out];rfl,h,HF.out,HO.out,Fr.refl _ _⟩
  ·have hb:((x:Int) == (y:Int))=false:=by rw[beq_eq_false_iff_ne];omega
   have az:=Hh ih;have HP:=Hh hP;have HF:=Hh hF;have HO:=Hh hO;have aY:=zpr (x:Int) (y:Int);clear ih hP hF hO aM;obtain⟨X,au⟩:=eX (geV C x y);rw[<-au];have a6:=Hh au;clear au;go_enter Tryz.func161,Tryz.ntmps161;go_wp2_with fail;obtain⟨g,ak⟩:=eX (E.alloc (.cells #[.int .i64 (x:Int),.int .i64 (y:Int)] 178));have ah:Fr NoM E g:=by rw[ak];exact(nW E).alloc _
   have aH:g.heap[E.heap.size]?=some (.cells #[.int .i64 (x:Int),.int .i64 (y:Int)] 178 (0,0)):=by rw[ak];exact xJ E _
   rw[<-ak];have W:¬E.heap.size=c:=by have:=HF.out.lt;omega
   have HK:=Hh (λe (h:Fr (λb=>b=c) g e)=>show e.cell? ⟨E.heap.size,0,none⟩=some (.int .i64 (x:Int))/\e.cell? ⟨E.heap.size,1,none⟩=some (.int .i64 (y:Int))from by
    have j:=h.heap aH W;exact⟨by rw[xX e _ 0 _ _ _ j];rfl,by rw[xX e _ 1 _ _ _ j];rfl⟩)
   have t:=Hh (λe (h:Fr (λb=>b=c) g e)=>show PoolS M I e pb V BV (.map (some c)) mc ms mn from
    (HP.out.fr0 ah).fr h (λb N o=>aX (by rw[<-o];exact N)) (λb N o=>ao (by rw[<-o];exact N)))
   have af:=Hh (ah.any (M:=λb=>b=c));have ae:=Hh (HF.out.fr ah id);clear ah aH W ak HF HP aY;have hd:∀f,Fr NoM g (g.drewN f):=λf=>⟨rfl,rfl,rfl,xW _,λ_ _ _=>rfl⟩
   have L:∀f,(Instr.lookup 109 (.map (some c)) (.agg #[.int .i64 (x:Int),.int .i64 (y:Int)]) true).run Tryz.prog (g.drewN f)=.ok (.tuple #[((h (x,y)).map encB).getD (.bool false),.bool (h (x,y)).isSome]) (g.drewN f):=λf =>
    MapF.look (w:=g.drewN f) (ae.out.fr (hd f) id) zm9 Tryz.underlying109 (Tryz.zeroValue4 _) (x,y) true
   obtain⟨O,Q⟩:=HK.out g (Fr.refl _ _);obtain⟨_,_,_,_,_,_,R,_⟩:=(t.out g (Fr.refl _ _)).rd;have HD:=Hh hd;clear hd;cases aa:h (x,y)with
   | some ag =>
    rw[aa]at L;have L:∀f,(Instr.lookup 109 (.map (some c)) (.agg #[.int .i64 (x:Int),.int .i64 (y:Int)]) true).run Tryz.prog (g.drewN f)=.ok (.tuple #[.bool ag,.bool true]) (g.drewN f):=L;have ha:ag=X:=by rw[a6.out];exact(HO.out _ _ aa).2.2
    have HA:=Hh ha;clear aa ha;go_quiet (fail);go_wp2_with fail;go_ret;exact⟨by rw[HA.out];rfl,h,ae.out.fr (HD.out _) id,HO.out,af.out.trans (HD.out _) (λ_ _ b=>b.elim)⟩
   | none =>
    rw[aa]at L;have L:∀f,(Instr.lookup 109 (.map (some c)) (.agg #[.int .i64 (x:Int),.int .i64 (y:Int)]) true).run Tryz.prog (g.drewN f)=.ok (.tuple #[.bool false,.bool false]) (g.drewN f):=L;clear aa;go_quiet (fail);obtain⟨w2,av⟩:=eX (g.drewN nq);have ap:Fr NoM g w2:=by rw[av];exact HD.out nq
    rw[<-av];have aS:=Hh (ae.out.fr ap id);have F2:=Hh (ap.any (M:=λb=>b=c));clear L O Q R ap av ae;have v:=yd1 B A D;rw[<-a6.out]at v;obtain⟨u1,u2⟩:=B.opts x _ (za6 A);obtain⟨Y,v2⟩:=B.opts y _ (za6 D);obtain⟨_,_,ra,rc,_,p1,_,_,_,_,_,hR⟩:=(t.out w2 F2.out).rd;obtain⟨rb,ro,rv,rfl,r1,s1,i1⟩:=hR x A;have b0:=zbf (some ⟨rb,ro,none⟩) V.length rc x rb ro A rfl;obtain⟨m,aF⟩:=eX ((za4 V x).2);rw[<-aF]at v u2 s1 i1;have HU:=Hh (λe (h:Fr (λb=>b=c) w2 e)=>show Nats e rv m from s1.fr h (λW b N o=>ao (by rw[<-o];exact i1 W b N)));have b6:m.length<=9223372036854775807:=by obtain⟨ag,aW,_,h1,h2,_⟩:=s1;omega
    obtain⟨ua,uc,rfl,aw⟩:=id s1;have ax:=Hh v;have aT:=Hh u2;have aU:=Hh Y;clear aw v u1 u2 Y v2 s1 i1 aF hR;go_wp2_with fail;clear p1 r1 b0;go_loopw [10,40] (λam S e=>∃(a:Nat) (f':Nat × Nat->Option Bool),am=.bool true/\S=.int .i64 a/\a<=m.length/\(∀d∈m.take a,geV C y d=false)/\MapF encP encB e c f'/\OrdF C f'/\Fr (λb=>b=c) w2 e) (λ_ S _=>m.length-(intOf S).toNat)
    case atStart=>exact⟨0,h,rfl,rfl,yV _,by simp,aS.out,HO.out,Fr.refl _ _⟩
    case round =>
     obtain⟨a,f7,rfl,rfl,hk,a8,aJ,aL,aj⟩:=hrel;obtain⟨T,rfl⟩:=eX wr;have e4:=HU.out T aj;have U:=Hh a8;have aB:=Hh aJ;have aD:=Hh aL;have F7:=Hh (F2.out.trans aj kP);have aN:=Hh aj;clear a8 aJ aL aj;by_cases ab:a<m.length
     ·obtain⟨d,q⟩:∃d,m[a]?=some d:=⟨_,xQ ab⟩
      have aZ:=aT.out d (xK q);obtain⟨a',c',H,_,_,a9⟩:=e4;cases H
      obtain⟨b3,o3,a7,c3⟩:=a9 a d q;have an:T.cell? ⟨b3,o3+a,none⟩=some (.int .i64 (d:Int)):=c3;have b2:=za8 ua m.length uc a b3 o3 ab a7;have al:=Hh (az.out y d (by omega) D (by omega) f7 T (t.out T F7.out) aB.out aD.out);have a5:=Hh q;clear q a9 a7 c3;go_wp2_with fail;refine al.out.mono ?_
      rintro o l ⟨rfl,f8,ac,ad,J⟩;have a2:=Hh ac;have a4:=Hh ad;have G:=Hh (F7.out.trans J kP);have aO:=Hh (aN.out.trans J kP);clear ac ad J an;obtain⟨gb,K⟩:=eX (geV C y d);rw[<-K];have a1:=Hh K;clear K;cases gb with
      | true =>
       have p:X=false:=by
        cases hc:X with
        | false=>rfl
        | true=>have:=(ax.out.1 hc).1 d (xK a5.out);rw[<-a1.out]at this;cases this
       have s:=Hh p;clear p;obtain⟨O,Q⟩:=HK.out l G.out;obtain⟨_,_,_,_,_,_,R,_⟩:=(t.out l G.out).rd;obtain⟨F,k,z,u⟩:=MapF.store (P:=Tryz.prog) (w:=l.drew) (a2.out.fr ((nW l).drew) id) zm9 Tryz.underlying109 (x,y) false;have k:(Instr.mapUpdate 109 (.map (some c)) (.agg #[.int .i64 (x:Int),.int .i64 (y:Int)]) (.bool false)).run Tryz.prog l.drew=.ok () F:=k;have a3:=Hh z;have a0:=Hh u;clear z u;go_upto_region 21 with fail;go_cut []from 67 (λwx=>wx=F)
       case first =>
        go_region_law (fail);all_goals
         go_wp2_with fail;go_meet
         case rel=>rfl
       case rest =>
        subst hcut;clear k O Q R;go_wp2_with fail;go_ret;refine⟨by rw[s.out];rfl,_,a3.out,?_,af.out.trans ((G.out.drew).trans a0.out kP) kP⟩;have j:=OrdF.upd a4.out (x:=x) (y:=y) (by rw[B.len];exact A) (by rw[B.len];exact D);rw[<-a6.out,s.out]at j;exact j
      | false =>
       go_wp2_with fail;go_roundw
       case rel=>exact⟨a+1,f8,rfl,by go_num,by omega,λr' i=>by
        obtain⟨ar,H⟩:=xV.1 a5.out
        rw[yX ar,y4,yQ]at i;rcases i with i|i
        ·exact U.out r' i
        ·rw[i,H];exact a1.out.symm,a2.out,a4.out,aO.out⟩
       case measure=>simp[intOf];omega
     ·have aq:a=m.length:=by omega
      subst aq;have aG:∀d∈m,geV C y d=false:=by have:=U.out;rwa [y5]at this
      have aR:=Hh aG;obtain⟨la,lc,_,_,p0,_,_,_,_,_,hL,_⟩:=(t.out T F7.out).rd;obtain⟨lb,lo,lv,rfl,r2,s2,i2⟩:=hL y D;have b1:=zbf (some ⟨lb,lo,none⟩) V.length lc y lb lo D rfl;have v:=ax.out;have Y:=aU.out;obtain⟨n,aE⟩:=eX ((za4 V y).1);rw[<-aE]at v Y s2 i2;have HT:=Hh (λe (h:Fr (λb=>b=c) T e)=>show Nats e lv n from s2.fr h (λW b N o=>ao (by rw[<-o];exact i2 W b N)));have b5:n.length<=9223372036854775807:=by obtain⟨ag,aW,_,h1,h2,_⟩:=s2;omega
      obtain⟨ta,tc,rfl,aw⟩:=id s2;have ay:=Hh v;have aV:=Hh Y;clear aw aG U e4 v Y s2 i2 aE hL;go_wp2_with fail;clear p0 r2 b1;go_loopw [10,58] (λam S e=>∃(a:Nat) (f':Nat × Nat->Option Bool),am=.bool true/\S=.int .i64 a/\a<=n.length/\(∀b4∈n.take a,geV C b4 x=false)/\MapF encP encB e c f'/\OrdF C f'/\Fr (λb=>b=c) T e) (λ_ S _=>n.length-(intOf S).toNat)
      case atStart=>exact⟨0,f7,rfl,rfl,yV _,by simp,aB.out,aD.out,Fr.refl _ _⟩
      case round =>
       obtain⟨a,f6,rfl,rfl,hk,a8,aI,aK,ai⟩:=hrel;obtain⟨r,rfl⟩:=eX wr;have e4:=HT.out r ai;have U:=Hh a8;have aA:=Hh aI;have aC:=Hh aK;have Z:=Hh (F7.out.trans ai kP);have aP:=Hh ai;clear a8 aI aK ai;by_cases ab:a<n.length
       ·obtain⟨d,q⟩:∃d,n[a]?=some d:=⟨_,xQ ab⟩
        have aZ:=aV.out d (xK q);obtain⟨a',c',H,_,_,a9⟩:=e4;cases H
        obtain⟨b3,o3,a7,c3⟩:=a9 a d q;have an:r.cell? ⟨b3,o3+a,none⟩=some (.int .i64 (d:Int)):=c3;have b2:=za8 ta n.length tc a b3 o3 ab a7;have al:=Hh (az.out d x (by omega) (by omega) A f6 r (t.out r Z.out) aA.out aC.out);have a5:=Hh q;clear q a9 a7 c3;go_wp2_with fail;refine al.out.mono ?_
        rintro o l ⟨rfl,f8,ac,ad,J⟩;have a2:=Hh ac;have a4:=Hh ad;have G:=Hh (Z.out.trans J kP);have aQ:=Hh (aP.out.trans J kP);clear ac ad J an;obtain⟨gb,K⟩:=eX (geV C d x);rw[<-K];have a1:=Hh K;clear K;cases gb with
        | true =>
         have p:X=false:=by
          cases hc:X with
          | false=>rfl
          | true=>have:=(ay.out.1 hc).2 d (xK a5.out);rw[<-a1.out]at this;cases this
         have s:=Hh p;clear p;obtain⟨O,Q⟩:=HK.out l G.out;obtain⟨_,_,_,_,_,_,R,_⟩:=(t.out l G.out).rd;obtain⟨F,k,z,u⟩:=MapF.store (P:=Tryz.prog) (w:=l.drew) (a2.out.fr ((nW l).drew) id) zm9 Tryz.underlying109 (x,y) false;have k:(Instr.mapUpdate 109 (.map (some c)) (.agg #[.int .i64 (x:Int),.int .i64 (y:Int)]) (.bool false)).run Tryz.prog l.drew=.ok () F:=k;have a3:=Hh z;have a0:=Hh u;clear z u;go_upto_region 21 with fail;go_cut []from 67 (λwx=>wx=F)
         case first =>
          go_region_law (fail);all_goals
           go_wp2_with fail;go_meet
           case rel=>rfl
         case rest =>
          subst hcut;clear k O Q R;go_wp2_with fail;go_ret;refine⟨by rw[s.out];rfl,_,a3.out,?_,af.out.trans ((G.out.drew).trans a0.out kP) kP⟩;have j:=OrdF.upd a4.out (x:=x) (y:=y) (by rw[B.len];exact A) (by rw[B.len];exact D);rw[<-a6.out,s.out]at j;exact j
        | false =>
         go_wp2_with fail;go_roundw
         case rel=>exact⟨a+1,f8,rfl,by go_num,by omega,λr' i=>by
          obtain⟨ar,H⟩:=xV.1 a5.out
          rw[yX ar,y4,yQ]at i;rcases i with i|i
          ·exact U.out r' i
          ·rw[i,H];exact a1.out.symm,a2.out,a4.out,aQ.out⟩
         case measure=>simp[intOf];omega
       ·have aq:a=n.length:=by omega
        subst aq;have p:X=true:=ay.out.2 ⟨aR.out,by have:=U.out;rwa [y5]at this⟩;have s:=Hh p;clear p e4;obtain⟨O,Q⟩:=HK.out r Z.out;obtain⟨_,_,_,_,_,_,R,_⟩:=(t.out r Z.out).rd;obtain⟨F,k,z,u⟩:=MapF.store (P:=Tryz.prog) (w:=r.drew) (aA.out.fr ((nW r).drew) id) zm9 Tryz.underlying109 (x,y) true;have k:(Instr.mapUpdate 109 (.map (some c)) (.agg #[.int .i64 (x:Int),.int .i64 (y:Int)]) (.bool true)).run Tryz.prog r.drew=.ok () F:=k;have a3:=Hh z;have a0:=Hh u;clear z u;go_upto_region 21 with fail;go_cut []from 67 (λwx=>wx=F)
        case first =>
         go_region_law (fail);all_goals
          go_wp2_with fail;go_meet
          case rel=>rfl
        case rest =>
         subst hcut;clear k O Q R;go_wp2_with fail;go_ret;refine⟨by rw[s.out];rfl,_,a3.out,?_,af.out.trans ((Z.out.drew).trans a0.out kP) kP⟩;have j:=OrdF.upd aC.out (x:=x) (y:=y) (by rw[B.len];exact A) (by rw[B.len];exact D);rw[<-a6.out,s.out]at j;exact j
theorem yfi (n:Nat)(a:World)(i:n<1000000000):∃b:Array Value,b.size=n/\(Instr.makeSlice 100 (.int .i64 0) (.int .i64 (n:Int))).run Tryz.prog a=.ok (.slice (some ⟨a.heap.size,0,none⟩) 0 n) (a.alloc (.cells b 3)):=by obtain⟨h,d,e,f,g⟩:=info_parts zab;have c:=run_make (P:=Tryz.prog) a 100 3 h _ Tryz.underlying100 d e .i64 .i64 0 n (by omega) (by omega) (by rw[g];omega) (by omega);rw[f,Int.toNat_natCast]at c;exact⟨_,by simp[madeCells],c⟩
theorem NRow.start (a:World)(b:Array Value)(n:Nat)(c:b.size=n)(d:n<1000000000):NRow a.heap.size (a.alloc (.cells b 3)) (.slice (some ⟨a.heap.size,0,none⟩) 0 n) [] :=
 ⟨⟨rfl,.inr ⟨a.heap.size,n,b,rfl,xW _,xJ a _,yV _,by unfold maxLen;omega,by rw[c,Nat.mul_one],by simp⟩⟩,_,_,rfl⟩
theorem ycc {M I:Nat->Prop}(pb:Nat)(V:List PL)(BV L R:List Nat)(k i l j:Value)(g h m n:Nat)(p:m=L.length)(q:n=R.length)(w:World)(u:PoolS M I w pb V BV k i l j)(D:RowIs 3 encN w g L)(E:RowIs 3 encN w h R) (s:∀d∈L,d<V.length) (v:∀d∈R,d<V.length) (z:L.length<1000000000) (C:R.length<1000000000) (A:V.length<1000000000) (x:∀d∈BV,d<1000000000) : Calls Tryz.prog 89 #[.pointer (some ⟨pb,0,none⟩),.slice (some ⟨g,0,none⟩) m m,.slice (some ⟨h,0,none⟩) n n] w λo c=>o=.returned (.int .i64 ((za5 V BV L R).2.2:Nat)) ∧ ∃f e,PoolS f e c pb (za5 V BV L R).1 (za5 V BV L R).2.1 k i l j/\(∀a,f a->(M a\/w.heap.size<=a)/\a<c.heap.size)/\(∀a,e a->(I a\/w.heap.size<=a)/\a<c.heap.size)/\Fr M w c:=by subst p;subst q;refine(zn1 pb V BV L R k i l j g 0 L.length h 0 R.length w u (D.slice (by omega)) (E.slice (by omega)) s v z C A x).mono ?_;rintro o c ⟨rfl,f,e,B,t,r,y⟩;exact⟨rfl,_,_,B.low,λa b=>⟨t a b.1,b.2⟩,λa b=>⟨r a b.1,b.2⟩,y⟩
theorem later {e g:Nat->Prop}{a b c:World}(h:∀d,g d->(e d\/b.heap.size<=d)/\d<c.heap.size)(f:Fr NoM a b):∀d,g d->(e d\/a.heap.size<=d)/\d<c.heap.size :=
 λd i=>⟨(h d i).1.imp_right (vV f.size),(h d i).2⟩
theorem zgg {V:List PL}{BV:List Nat}(d:PoolOK V BV):BookOK V BV:=by have h:∀a,a<V.length->BV.getD a 0<=a:=by{intro a;induction a using Nat.strongRecOn with| _ a g =>{intro e;have f:=za6 e;obtain⟨i,j⟩:=d.opts a _ f;rw[d.born a _ f,zeg,zeg];exact⟨⟨yV _,λc b=>by have:=i c b;have:=g c this (by omega);omega⟩,λc b=>by have:=j c b;have:=g c this (by omega);omega⟩}};exact⟨d.len,d.opts,λa c b=>by{have e:=(xV.1 b).1;have:=h a (by rw[<-d.len];exact e);rw[xY,b]at this;exact this}⟩
theorem zxr {R M I:Nat->Prop}(pb:Nat)(nv:Value)(V Fs:List PL)(BV:List Nat)(mo mc ms mn:Value)(w:World)(hP:PoolS M I w pb V BV mo mc ms mn)(ar:∀a,M a->a<w.heap.size)(ap:∀a,I a->a<w.heap.size)(au:PoolOK V BV)(hF:NodeL R encN w nv Fs)(hR:∀ah,R ah->¬M ah)
  (u:OptsOK Fs) (hn:V.length+Fs.length<100000000) (ay:∀b∈Fs,b.1.length<100000000/\b.2.length<100000000) :
  Calls Tryz.prog 113 #[.pointer (some ⟨pb,0,none⟩),.agg #[nv]] w λf X=>∃(v':Value) (M' I':Nat->Prop),f=.returned v'/\NRow w.heap.size X v' (addB V BV Fs).2.2/\PoolS M' I' X pb (addB V BV Fs).1 (addB V BV Fs).2.1 mo mc ms mn ∧
   (∀a,M' a->(M a\/w.heap.size<=a)/\a<X.heap.size/\v'.ownBlock≠some a)/\(∀a,I' a->(I a\/w.heap.size<=a)/\a<X.heap.size/\v'.ownBlock≠some a)/\Fr M w X:=by
 obtain⟨O,P,rfl,_,_,aB⟩:=hF;obtain⟨o,z⟩:=eX (w.alloc (.cells #[.slice O Fs.length P] 26));have f1:Fr NoM w o:=by rw[z];exact(nW w).alloc _
 have af:o.heap.size=w.heap.size+1:=by rw[z];simp
 have e1:o.heap[w.heap.size]?=some (.cells #[.slice O Fs.length P] 26 (0,0)):=by rw[z];exact xJ w _
 have c1:o.cell? ⟨w.heap.size,0,none⟩=some (.slice O Fs.length P):=by rw[xX _ _ 0 _ _ _ e1];rfl
 obtain⟨an,aw,mk⟩:=yfi Fs.length o (by omega);rw[z]at mk;obtain⟨w2,a6⟩:=eX (o.alloc (.cells an 3));have f2:Fr NoM o w2:=by rw[a6];exact(nW o).alloc _
 have c2:w2.cell? ⟨w.heap.size,0,none⟩=some (.slice O Fs.length P):=f2.cell c1 id;have j:NRow o.heap.size w2 (.slice (some ⟨o.heap.size,0,none⟩) 0 Fs.length) []:=by rw[a6];exact NRow.start o an _ aw (by omega)
 rw[af]at j;have Z:=Hh (f1.trans f2 kP);have a3:=Hh j;have b9:=Hh af;have HP:=Hh hP;have al:=Hh ar;have ak:=Hh ap;have a9:=Hh au;have HR:=Hh hR;have HO:=Hh u;have aL:=Hh ay;have aM:=Hh aB;have ba:=Hh z;clear hP ar ap au hR u ay aB f1 f2 af e1 aw j;go_enter Tryz.func113,Tryz.ntmps113;go_wp2_with fail;rw[<-z,<-a6];clear mk c1 c2 z a6;go_loopw [5,15] (λv5 ai e=>∃(i:Nat) (W:Value) (k I1:Nat->Prop),W=v5/\ai=.int .i64 i/\i<=Fs.length/\NRow w.heap.size e W (addB V BV (Fs.take i)).2.2/\PoolS k I1 e pb (addB V BV (Fs.take i)).1 (addB V BV (Fs.take i)).2.1 mo mc ms mn ∧
   (∀a,k a->(M a\/w.heap.size<=a)/\a<e.heap.size/\W.ownBlock≠some a)/\(∀a,I1 a->(I a\/w.heap.size<=a)/\a<e.heap.size/\W.ownBlock≠some a)/\Fr M w e) (λ_ ai _=>Fs.length-(intOf ai).toNat)
 case atStart=>exact⟨0,_,M,I,rfl,rfl,yV _,⟨zb1 a3.out.own (by omega),a3.out.shape⟩,HP.out.fr0 Z.out,λa g=>⟨.inl g,by
   have h1:=al.out a g;have h2:=Z.out.size;omega,λf=>by have f:w.heap.size+1=a:=yK f;have h1:=al.out a g;omega⟩,λa g=>⟨.inl g,by
   have h1:=ak.out a g;have h2:=Z.out.size;omega,λf=>by have f:w.heap.size+1=a:=yK f;have h1:=ak.out a g;omega⟩,Z.out.any⟩
 case round =>
  clear a3;obtain⟨i,W,k,I1,rfl,rfl,b3,j,D,C,hI,s⟩:=hrel;obtain⟨p,rfl⟩:=eX wr;have a5:OptsOK (Fs.take i):=λb5 b r=>HO.out b5 b (by
   rw[List.getElem?_take]at r;split at r
   ·exact r
   ·cases r)
  obtain⟨Q,v,E,S,a7⟩:=zhm (zgg a9.out) (Fs.take i) a5;have H:=ztz (Fs.take i) a5 a9.out (zgg a9.out);rw[kQ,Nat.min_eq_left b3]at v S;obtain⟨m,n,rfl⟩:=j.shape;obtain⟨⟨x,A,c⟩,B⟩:∃b8,addB V BV (Fs.take i)=b8:=⟨_,rfl⟩;rw[B]at j D Q v E S a7 H ⊢;dsimp only at j D Q v E S a7 H ⊢
  by_cases az:i<Fs.length
  ·obtain⟨b,r⟩:∃b,Fs[i]?=some b:=⟨_,xQ az⟩
   obtain⟨b1,o1,lv,rv,av,ac,d1,d2,n1,n2,m1,m2⟩:=aM.out i b r;obtain⟨x1,x2⟩:=HO.out i b r;obtain⟨y1,y2⟩:=aL.out b (xK r);have ix:=zbi O Fs.length P i b1 o1 az av;have e1:=s.cell d1 (HR.out b1 ac);have e2:=s.cell d2 (HR.out b1 ac);have t1:=n1.fr s (λae G hb=>HR.out G (m1 ae G hb));have t2:=n2.fr s (λae G hb=>HR.out G (m2 ae G hb));have aA:addB V BV (Fs.take (i+1))=((za5 x A (za3 c b.1) (za3 c b.2)).1,(za5 x A (za3 c b.1) (za3 c b.2)).2.1,c ++ [(za5 x A (za3 c b.1) (za3 c b.2)).2.2]):=by
    obtain⟨b0,ee⟩:=xV.1 r
    rw[yX b0,ee,zei,B,<-zd2 H];rfl
   have aE:=zfv (L:=b.1) E (λq t=>by rw[v];exact x1 q t);have aF:=zfv (L:=b.2) E (λq t=>by rw[v];exact x2 q t);obtain⟨K,N,rfl,aj⟩:=id n1;clear aj;obtain⟨T,U,rfl,aj⟩:=id n2;clear aj;obtain⟨h,J⟩:=eX (p.alloc (.cells #[.slice K b.1.length N,.slice T b.2.length U] 102));have y:Fr NoM p h:=by rw[J];exact(nW p).alloc _
   have aC:h.heap.size=p.heap.size+1:=by rw[J];simp
   have aD:h.heap[p.heap.size]?=some (.cells #[.slice K b.1.length N,.slice T b.2.length U] 102 (0,0)):=by rw[J];exact xJ p _
   have ag:∀a,(Value.slice (some ⟨m,0,none⟩) c.length n).ownBlock=some a->w.heap.size<=a/\a<p.heap.size:=λa g=>j.own.lt a g
   have HC:=Hh (λe (l:Fr (λa=>k a\/(Value.slice (some ⟨m,0,none⟩) c.length n).ownBlock=some a) h e)=>show e.cell? ⟨p.heap.size,0,none⟩=some (.slice K b.1.length N)/\e.cell? ⟨p.heap.size,1,none⟩=some (.slice T b.2.length U)from by
    have d:=l.heap aD (λf=>by
     rcases f with f|f
     ·have:=(C _ f).2.1;omega
     ·have:=ag _ f;omega)
    exact⟨by rw[xX _ _ 0 _ _ _ d];rfl,by rw[xX _ _ 1 _ _ _ d];rfl⟩)
   have aQ:=Hh (λe (l:Fr NoM h e)=>(t1.fr0 y).fr0 l);have aR:=Hh (λe (l:Fr NoM h e)=>(t2.fr0 y).fr0 l);have HV:=Hh (λe (l:Fr NoM h e)=>((j.nats.fr0 y).fr0 l:Nats e (.slice (some ⟨m,0,none⟩) c.length n) c));have aN:=Hh (λe (l:Fr (λa=>k a) h e)=>(j.fr y kP).fr l (λa g f=>(C a f).2.2 g));have aa:=Hh (λe (l:Fr NoM h e)=>(D.fr0 y).fr0 l);have aT:=Hh J;have aU:=Hh x1;have aV:=Hh x2;have aW:=Hh y1;have aX:=Hh y2;have am:=Hh aA;have aY:=Hh aE;have aZ:=Hh aF;have F:=Hh C;have HI:=Hh hI;have a0:=Hh s;have F8:=Hh y;have aO:=Hh aC;have ab:=Hh ag;have a8:=Hh v;have aS:=Hh (show x.length<1000000000 from by omega);have aG:=Hh (show ∀q∈A,q<1000000000 from λq t=>by have:=Q.lt x.length (xW _) q t;omega);have a3:=Hh j;have aP:=Hh (λe (l:Fr k h e)=>(show w.heap.size<=e.heap.size from by have:=l.size;have:=s.size;omega));have aH:=Hh (show b.1.length=(za3 c b.1).length from by simp[za3]);have aI:=Hh (show b.2.length=(za3 c b.2).length from by simp[za3]);have aJ:=Hh (show(za3 c b.1).length<1000000000 from by simp[za3];omega);have aK:=Hh (show(za3 c b.2).length<1000000000 from by simp[za3];omega);clear j D Q v E S a7 H B a5 r av ac d1 d2 n1 n2 m1 m2 x1 x2 y1 y2 t1 t2 aA aE aF C hI s aD y aC ag J;have F0:Fr NoM h h.drew:=(nW h).drew;have G0:Fr (λa=>k a\/(Value.slice (some ⟨m,0,none⟩) c.length n).ownBlock=some a) h h.drew:=F0.any;go_upto_region 5 with fail;rw[<-aT.out];have hs:=HC.out h (Fr.refl _ _);go_region_held3 (λ(e:World)=>e.cell? ⟨p.heap.size,0,none⟩=some (.slice K b.1.length N)/\e.cell? ⟨p.heap.size,1,none⟩=some (.slice T b.2.length U))
    (first|exact HC.out _ (by assumption)|exact HC.out _ (Fr.alloc (by assumption) _))
    (first
     | (go_at_call 157;(with_reducible refine(zns (.slice K b.1.length N) _ b.1 c _ (aQ.out _ (by assumption)) (HV.out _ (by assumption)) (λq t=>by rw[a8.out];exact aU.out q t) (by have:=aW.out;omega)).mono ?_);rintro f wa ⟨rfl,b6,fa⟩;(try simp only[World.size_drew]at b6);have ga:Fr NoM h wa:=Fr.trans (by assumption) fa kP;have ka:Fr (λa=>k a\/(Value.slice (some ⟨m,0,none⟩) c.length n).ownBlock=some a) h wa:=ga.any;try (have be:=RowIs.fr (L:=za3 c b.2) (by assumption) fa id))
     | (go_at_call 157;(with_reducible refine(zns (.slice T b.2.length U) _ b.2 c _ (aR.out _ (by assumption)) (HV.out _ (by assumption)) (λq t=>by rw[a8.out];exact aV.out q t) (by have:=aX.out;omega)).mono ?_);rintro f wb ⟨rfl,b7,fb⟩;(try simp only[World.size_drew]at b7);have gb:Fr NoM h wb:=Fr.trans (by assumption) fb kP;have kb:Fr (λa=>k a\/(Value.slice (some ⟨m,0,none⟩) c.length n).ownBlock=some a) h wb:=gb.any;try (have bd:=RowIs.fr (L:=za3 c b.1) (by assumption) fb id))
     | (go_at_call 89;(with_reducible refine(ycc pb x A (za3 c b.1) (za3 c b.2) mo mc ms mn _ _ _ _ aH.out aI.out _ (aa.out _ (by assumption)) (by assumption) (by assumption) aY.out aZ.out aJ.out aK.out aS.out aG.out).mono ?_);rintro f Y ⟨rfl,M2,I2,p3,aq,ao,f3⟩;have a2:=Hh (later aq (by assumption));have a1:=Hh (later ao (by assumption));clear aq ao;have a4:Fr k h Y:=Fr.trans (Fr.any (by assumption)) f3 kP;have k3:Fr (λa=>k a\/(Value.slice (some ⟨m,0,none⟩) c.length n).ownBlock=some a) h Y:=a4.mono (λ_ _ a=>.inl a))
     | (refine zc1 (enc:=encN) rfl (.tmp 19) (.tmp 30) 100 rfl w.heap.size 3 (.int .i64 0) 8 Tryz.underlying100 zab rfl (.slice (some ⟨m,0,none⟩) c.length n) c.length (c.map encN) rfl (aN.out _ (a4.alloc _)).own (.slice (some ⟨Y.heap.size,0,none⟩) 1 1) rfl [(za5 x A (za3 c b.1) (za3 c b.2)).2.2] (SliceOf.one encN Y _ 3) (λ_=>rfl) (by have:=a8.out;simp;omega) (by decide) (by have:=f3.size;have:=aP.out _ a4;rw[xZ];omega) ?_;intro v4 w4 h4 f4 q4;have k4:Fr (λa=>k a\/(Value.slice (some ⟨m,0,none⟩) c.length n).ownBlock=some a) h w4:=(k3.alloc _).trans f4 (λ_ _ a=>.inr a))
     | fail)
   all_goals
    go_wp2;go_roundw
    case rel =>
     have hz:=aO.out;have bb:=a0.out.size;have bc:=a4.size;have b4:=f4.size;rw[xZ]at b4;have hd:∀a,M2 a->¬Own1 (.slice (some ⟨m,0,none⟩) c.length n) a:=λa g u=>by
      rcases (a2.out a g).1 with d|d
      ·exact(F.out a d).2.2 u
      ·have:=(ab.out a u).2;omega
     have ax:∀a,I2 a->¬Own1 (.slice (some ⟨m,0,none⟩) c.length n) a:=λa g u=>by
      rcases (a1.out a g).1 with d|d
      ·exact(HI.out a d).2.2 u
      ·have:=(ab.out a u).2;omega
     refine⟨i+1,v4,M2,I2,rfl,by go_num,by omega,?_,?_,λa g=>⟨?_,?_,λf=>?_⟩,λa g=>⟨?_,?_,λf=>?_⟩,?_⟩
     ·rw[am.out];exact NRow.snoc h4
     ·rw[am.out];exact(p3.fr0 ((nW Y).alloc _)).fr f4 hd ax
     ·rcases (a2.out a g).1 with d|d
      ·exact(F.out a d).1
      ·exact .inr (by omega)
     ·have:=(a2.out a g).2;omega
     ·rcases q4 with d|⟨b',d,ad⟩
      ·exact hd a g (d.symm.trans f)
      ·rw[d]at f;cases f
       rw[xZ]at ad;have:=(a2.out a g).2;omega
     ·rcases (a1.out a g).1 with d|d
      ·exact(HI.out a d).1
      ·exact .inr (by omega)
     ·have:=(a1.out a g).2;omega
     ·rcases q4 with d|⟨b',d,ad⟩
      ·exact ax a g (d.symm.trans f)
      ·rw[d]at f;cases f
       rw[xZ]at ad;have:=(a1.out a g).2;omega
     ·refine a0.out.trans (F8.out.any.trans k4 (λah hk a=>a)) (λa g d=>?_)
      rcases d with d|d
      ·rcases (F.out a d).1 with d|d
       ·exact d
       ·omega
      ·have:=(ab.out a d).1;omega
    case measure=>simp[intOf];omega
  ·have b2:i=Fs.length:=by omega
   subst b2;rw[y5]at B;have HO:=Hh j;have a0:=Hh s;have F:=Hh C;have HI:=Hh hI;have aa:=Hh D;have HA:=Hh B;clear j s C hI D B a5 Q v E S a7 H;go_wp2;go_ret;refine⟨_,k,I1,rfl,?_,?_,F.out,HI.out,a0.out⟩
   ·rw[HA.out];exact HO.out
   ·rw[HA.out];exact aa.out
theorem yce {w:World}{a:Option Addr}{c x:Nat}{l:List Nat}(g:Nats w (.slice a (l.length+1) c) (x::l)):Nats w (.slice (if c=1 then a else Option.map (λx=>{ block:=x.block,off:=x.off+1 }) a) l.length (c-1)) l:=by obtain⟨n,o,f,h,p,j⟩:=g;cases f;simp only[List.length_cons]at h;refine⟨_,_,rfl,by omega,by omega,λd m b=>?_⟩;have q:=(xV.1 b).1;obtain⟨e,off,i,k⟩:=j (d+1) m (by simpa using b);rw[if_neg (by omega),i];exact⟨e,off+1,rfl,by rw[Nat.add_assoc,Nat.add_comm 1 d];exact k⟩
theorem znf (lv pv:Value)(L P:List Nat)(w:World)(v:Nats w lv L)(N:Nats w pv P)(Y:P.Pairwise (· < ·))(T:L.length<1000000000) :
  Calls Tryz.prog 159 #[lv,pv] w λk A=>∃z,k=.returned z/\NRow w.heap.size A z (zan L P)/\Fr NoM w A:=by
 obtain⟨la,lc,rfl,a7,a8,v⟩:=v;have HL:=Hh v;clear v;have HP:=Hh N;have HU:=Hh Y;clear N Y;have M:=Hh T;clear T;go_enter Tryz.func159,Tryz.ntmps159;go_wp2_with fail;go_loopw [1,5,11] (λa5 a6 J wr=>∃(a:Nat) (i:List Nat),a<=L.length/\J=.int .i64 a/\NRow w.heap.size wr a6 (zan (L.take a) P)/\Nats w a5 i/\i.Pairwise (· < ·)/\(∀b,b∈i↔b∈P/\a<=b)/\Fr NoM w wr) (λ_ _ J _=>L.length-(intOf J).toNat)
 case atStart=>exact⟨0,P,by omega,rfl,NRow.made w,HP.out,HU.out,λb=>by simp,(Fr.refl _ _).alloc _⟩
 case round =>
  obtain⟨a,i,hk,rfl,m,y,j,e,l⟩:=hrel;obtain⟨w7,rfl⟩:=eX wr;obtain⟨lb,aa,rfl⟩:=m.shape;by_cases U:a<L.length
  ·obtain⟨b1,o1,O,Q⟩:=HL.out a L[a] (by simp)
   have R:=l.cell Q id;have a9:=za8 la L.length lc a b1 o1 U O;unfold encN at R;have g:=ziv L P a U;have G:=zd8 (L.take a) P;rw[kQ,Nat.min_eq_left hk]at G;obtain⟨n,hy⟩:∃n,L[a]=n:=⟨_,rfl⟩;rw[hy]at g R;obtain⟨pa,pc,rfl,_,_,x⟩:=id (y.fr0 l);have u:=Hh y;have E:=Hh m;have o:=Hh l;have K:=Hh G;clear Q O l G m y;have t:a ∉ i->a ∉ P:=λc hp=>c ((e a).2 ⟨hp,xW _⟩)
   have r:a ∉ i->∀b,b∈i↔b∈P/\a+1<=b:=λc b=>by
    rw[e b];constructor
    ·rintro⟨d,h⟩
     refine⟨d,?_⟩;by_cases k:b=a
     ·subst k;exact absurd ((e b).2 ⟨d,h⟩) c
     ·omega
    ·rintro⟨d,h⟩;exact⟨d,by omega⟩
   cases i with
   | nil =>
    have s:=r (by simp);rw[if_neg (t (by simp))]at g;have p:=Hh g;have D:=Hh s;clear g x t r e j s;go_wp2_with (at_builtin;refine zc7 (enc:=encN) w (o.out.alloc _) rfl _ _ 100 rfl 3 (.int .i64 0) 8 Tryz.underlying100 zab rfl _ (zan (L.take a) P).length _ rfl (E.out.own.alloc _) _ rfl [n] (SliceOf.one encN w7 n 3) (λ_=>rfl) ?c1 (by decide) ?_)
    case c1=>have:=K.out;have:=M.out;simp at *;omega
    intro z A d h;have B:=Hh d;have C:=Hh h;clear d h;go_wp2_with fail;go_roundw
    case rel=>exact⟨a+1,[],by omega,by go_num,by rw[p.out];exact NRow.snoc B.out,u.out,List.Pairwise.nil,D.out,C.out⟩
    case measure=>simp[intOf];omega
   | cons f q =>
    obtain⟨b2,o2,F,S⟩:=x 0 f rfl;have Z:=za8 pa (q.length+1) pc 0 b2 o2 (Nat.succ_pos _) F;have I:=yce u.out;unfold encN at S;rw[Nat.add_zero]at Z S;rw[show((0:Nat):Int)=0 from rfl]at Z;simp only[List.length_cons]at u ⊢;by_cases W:f=a
    ·subst W
     rw[if_pos ((e f).1 (by simp)).1]at g;have X:=(List.pairwise_cons.1 j).2;have V:∀b,b∈q↔b∈P/\f+1<=b:=λb=>by
      have h0:=(List.pairwise_cons.1 j).1;constructor
      ·intro c
       exact⟨((e b).1 (uX _ c)).1,h0 b c⟩
      ·rintro⟨d,h⟩
       rcases kK.1 ((e b).2 ⟨d,by omega⟩)with k|c
       ·omega
       ·exact c
     have hb:((f:Int) == (f:Int))=true:=beq_self_eq_true _;have p:=Hh g;have a3:=Hh X;have a0:=Hh V;have a2:=Hh I;clear g x t r e j F X V I;go_wp2_with fail;go_roundw
     case rel=>exact⟨f+1,q,by omega,by go_num,by rw[p.out];exact E.out,a2.out,a3.out,a0.out,o.out⟩
     case measure=>simp[intOf];omega
    ·have H:a ∉ f::q:=λc=>by
      rcases kK.1 c with k|c
      ·exact W k.symm
      ·have:=(List.pairwise_cons.1 j).1 a c
       have:=((e f).1 (by simp)).2;omega
     have s:=r H;rw[if_neg (t H)]at g;have hb:((f:Int) == (a:Int))=false:=by rw[beq_eq_false_iff_ne];omega
     have p:=Hh g;have D:=Hh s;have a1:=Hh j;clear g x t r e j s F I H;go_wp2_with (at_builtin;refine zc7 (enc:=encN) w (o.out.alloc _) rfl _ _ 100 rfl 3 (.int .i64 0) 8 Tryz.underlying100 zab rfl _ (zan (L.take a) P).length _ rfl (E.out.own.alloc _) _ rfl [n] (SliceOf.one encN w7 n 3) (λ_=>rfl) ?c1 (by decide) ?_)
     case c1=>have:=K.out;have:=M.out;simp at *;omega
     intro z A d h;have B:=Hh d;have C:=Hh h;clear d h;go_wp2_with fail;go_roundw
     case rel=>exact⟨a+1,f::q,by omega,by go_num,by rw[p.out];exact NRow.snoc B.out,u.out,a1.out,D.out,C.out⟩
     case measure=>simp[intOf];omega
  ·have a4:a=L.length:=by omega
   subst a4;rw[y5]at m ⊢;have HO:=Hh m;have o:=Hh l;clear m l y e j;go_wp2_with fail;go_ret;exact⟨_,rfl,HO.out,o.out⟩
def domI (g:Nat->Nat->Bool)(L:List Nat)(i:Nat):List Nat:=(List.range i).filter λa=>(List.range L.length).any (domP g L a)
theorem zy6 (g:Nat->Nat->Bool)(L:List Nat):domI g L L.length=domB g L:=rfl
theorem ygd {g:Nat->Nat->Bool}{L:List Nat}{i k:Nat}(b:k<L.length)(a:domP g L i k=true):domI g L (i+1)=domI g L i ++ [i]:=by have:(List.range L.length).any (domP g L i)=true:=List.any_eq_true.2 ⟨k,vW.2 b,a⟩;unfold domI;rw[List.range_succ,List.filter_append];simp[this]
theorem yiq {g:Nat->Nat->Bool}{L:List Nat}{i:Nat}(a:(List.range L.length).any (domP g L i)=false):domI g L (i+1)=domI g L i:=by unfold domI;rw[List.range_succ,List.filter_append];simp[a]
theorem yge (g:Nat->Nat->Bool)(L:List Nat)(i:Nat):(domI g L i).length<=i:=by have:=List.length_filter_le (λa=>(List.range L.length).any (domP g L a)) (List.range i);rw[uY]at this;exact this
theorem zkr {M I:Nat->Prop} {C:List Nat} {V:List PL} {BV:List Nat} (B:BookC V C) (pb e:Nat) (mc ms mn:Value) (a2:¬ M e) (a1:¬ I e) (n:Bool) (g:Nat->Nat->Bool) (hg:g=if n=true then gL C else gR C) (U:Value) (L:List Nat) (f:Nat × Nat->Option Bool) (w:World)
    (hP:PoolS M I w pb V BV (.map (some e)) mc ms mn) (hf:MapF encP encB w e f) (T:OrdF C f) (hL:Nats w U L) (au:L≠[]->∀ a,U.ownBlock=some a->a≠e) (av:∀ i∈L,i < V.length) (hl:L.length < 1000000) :
    Calls Tryz.prog 160 #[.pointer (some ⟨pb,0,none⟩),U,.bool n] w λk H=>∃ W,k=.returned W/\NRow w.heap.size H W (domB g L)/\∃ f',MapF encP encB H e f'/\OrdF C f'/\Fr (λa=>a=e) w H:=by
  have aL:e < w.heap.size:=hf.lt;have HL:=Hh (λh (f:Fr (λa=>a=e) w h)=>show Nats h U L from hL.fr f au);have HP:=Hh (λh (f:Fr (λa=>a=e) w h)=>hP.fr f (λa d k=>a2 (k ▸ d)) (λa d k=>a1 (k ▸ d)));have aj:=Hh (λi j (s:i < V.length) (t:j < V.length)=>(zte B pb e mc ms mn a2 a1 (i + j + 1) i j (vK _) s t:GeIs M I C V BV pb e mc ms mn i j));obtain ⟨la,lc,rfl,b7,b8,b6⟩:=hL;have ak:=Hh av;have HF:=Hh hf;have HO:=Hh T;have Hg:=Hh hg;have Hl:=Hh hl;have P:=Hh aL;clear hP hf T av b6 au a2 a1 hg hl aL;go_enter Tryz.func160,Tryz.ntmps160;go_wp2_with fail;go_loopw [7,17] (λac u h=>∃ (b:Nat) (E:Nat × Nat->Option Bool),u=.int .i64 b/\b<=L.length/\NRow w.heap.size h ac (domI g L b)/\MapF encP encB h e E/\OrdF C E/\Fr (λa=>a=e) w h) (λ_ u _=>L.length - (intOf u).toNat)
  case atStart=>exact ⟨0,f,rfl,yV _,NRow.made w,HF.out.fr ((nW w).alloc _) id,HO.out,(Fr.refl _ w).alloc _⟩
  case round =>
    obtain ⟨b,E,rfl,hi,r,ay,aH,aC⟩:=hrel;obtain ⟨X,rfl⟩:∃ X,X=wr:=⟨_,rfl⟩;obtain ⟨lb,aQ,rfl⟩:=r.shape;have Q:=Hh r;have af:=Hh ay;have al:=Hh aH;have p:=Hh aC;have aT:=Hh (yge g L b);clear r ay aH aC;by_cases aD:b < L.length
    · obtain ⟨i, s⟩ : ∃ i, L[b]? = some i := ⟨_, xQ aD⟩
      have aO:=ak.out i (xK s);obtain ⟨_,_,ee,_,_,A⟩:=HL.out X p.out;cases ee
      obtain ⟨b1,o1,a3,d1⟩:=A b i s;have b4:=za8 la L.length lc b b1 o1 aD a3;unfold encN at d1;go_wp2_with fail;clear d1 b4 A;go_loopw [7,24] (λac u h=>∃ (c:Nat) (z:Nat × Nat->Option Bool),ac=.slice (some ⟨lb,0,none⟩) (domI g L b).length aQ/\u=.int .i64 c/\c<=L.length/\(List.range c).any (domP g L b)=false/\MapF encP encB h e z/\OrdF C z/\Fr (λa=>a=e) X h) (λ_ u _=>L.length - (intOf u).toNat)
      case atStart=>exact ⟨0,E,rfl,rfl,yV _,rfl,af.out,al.out,Fr.refl _ _⟩
      case round =>
        obtain ⟨c,z,rfl,rfl,hk,aw,az,aI,a7⟩:=hrel;obtain ⟨J,rfl⟩:∃ J,J=wr:=⟨_,rfl⟩;have K:=Hh az;have O:=Hh aI;have v:=Hh a7;have ad:=Hh aw;have R:=Hh (Q.out.fr a7 (λa d k=>by have:=(Q.out.own.lt a d).1;have:=P.out;omega));clear az aI a7 aw;by_cases aa:c < L.length
        · obtain ⟨j, t⟩ : ∃ j, L[c]? = some j := ⟨_, xQ aa⟩
          have aP:=ak.out j (xK t);obtain ⟨_,_,ee,_,_,A⟩:=HL.out J (p.out.trans v.out kP);cases ee
          obtain ⟨b2,o2,a4,d2⟩:=A c j t;have b5:=za8 la L.length lc c b2 o2 aa a4;unfold encN at d2;have G:(List.range (c + 1)).any (domP g L b)=domP g L b c:=by
            rw [List.range_succ,List.any_append,ad.out];simp
          by_cases aE:c=b
          · subst aE
            have aG:(List.range (c + 1)).any (domP g L c)=false:=by rw [G];simp [domP]
            have hb:((c:Int) == (c:Int))=true:=beq_self_eq_true _;have D:=Hh aG;clear A G aG s t a3 a4;go_wp2_with fail;go_roundw
            case rel=>exact ⟨c + 1,z,rfl,by go_num,by omega,D.out,K.out,O.out,v.out⟩
            case measure=>simp [intOf];omega
          · have hb : ((c : Int) == (b : Int)) = false := by rw [beq_eq_false_iff_ne]; omega
            obtain ⟨x,a5⟩:∃ x,x=geV C j i:=⟨_,rfl⟩;obtain ⟨y,a6⟩:∃ y,y=geV C i j:=⟨_,rfl⟩;obtain ⟨l,S⟩:∃ l,l=domP g L b c:=⟨_,rfl⟩;have ax:l=if n=true then (x && (!y || decide (c < b))) else (y && (!x || decide (c < b))):=by
              rw [S,Hg.out,a5,a6];unfold domP;rw [xY,xY,s,t,vX aE];cases n <;> rfl
            have q:=aj.out j i aP aO;have m:=aj.out i j aO aP;unfold GeIs at q m;rw [<-a5] at q;rw [<-a6] at m;rw [<-S] at G;have H1:=Hh q;have H2:=Hh m;have ae:=Hh ax;have D:=Hh G;have aR:=Hh S;clear A G s t a3 a4 q m ax a5 a6 S;go_wp2_with fail;refine (H1.out z J (HP.out J (p.out.trans v.out kP)) K.out O.out).mono ?_
            rintro k w8 ⟨rfl,f3,aA,aJ,a8⟩;have ag:=Hh aA;have am:=Hh aJ;have Z:=Hh (v.out.trans a8 kP);have a0:=Hh (R.out.fr a8 (λa d k=>by have:=(R.out.own.lt a d).1;have:=P.out;omega));clear aA aJ a8 K O v R d2 b5;go_wp2_with fail;refine (H2.out f3 w8 (HP.out w8 (p.out.trans Z.out kP)) ag.out am.out).mono ?_
            rintro k w9 ⟨rfl,f4,aB,aK,a9⟩;have ah:=Hh aB;have an:=Hh aK;have ai:=Hh (Z.out.trans a9 kP);have ar:=Hh (a0.out.fr a9 (λa d k=>by have:=(a0.out.own.lt a d).1;have:=P.out;omega));clear aB aK a9 ag am Z a0 hb;obtain ⟨o,hp⟩:∃ o,o=if n=true then x else y:=⟨_,rfl⟩
            obtain ⟨a,d⟩:∃ a,a=if n=true then y else x:=⟨_,rfl⟩
            have aM:l=(o && (!a || decide (c < b))):=by
              rw [ae.out,hp,d];cases n <;> rfl
            have ap:=Hh aM;have ao:=Hh hp;have aq:=Hh d;clear aM hp d ae;go_upto_if 41 with fail
            go_cut [12,13] from 25 to 58 (λaW aX h=>aW=.bool o/\aX=.bool a/\h=w9)
            case first =>
              cases n <;>
                (go_wp2_with fail
                 go_meet
                 case rel=>exact ⟨by rw [ao.out] <;> rfl,by rw [aq.out] <;> rfl,rfl⟩)
            case rest =>
            obtain ⟨rfl,rfl,rfl⟩:=hcut;clear ao aq;go_upto_region 12 with fail;go_cut [53] from 25 to 58 (λaY h=>aY=.bool l/\h=wc)
            case first =>
              by_cases aF:c < b
              · have F : l = o := by rw [ap.out, vX aF]; simp
                have Y:=Hh F;clear F;cases o <;> cases a <;>
                  (go_wp2_with fail
                   go_meet
                   case rel=>exact ⟨by rw [Y.out] <;> rfl,rfl⟩)
              · have F : l = (o && !a) := by rw [ap.out, vY aF]; simp
                have Y:=Hh F;clear F;cases o <;> cases a <;>
                  (go_wp2_with fail
                   go_meet
                   case rel=>exact ⟨by rw [Y.out] <;> rfl,rfl⟩)
            case rest =>
              obtain ⟨rfl,rfl⟩:=hcut;cases l with
              | true =>
                have HY:=Hh (ygd aa aR.out.symm);have N:=Hh (p.out.trans ai.out kP);go_wp2_with (at_builtin;refine za9 (enc:=encN) _ rfl _ _ 100 rfl w.heap.size 3 (.int .i64 0) 8 Tryz.underlying100 zab rfl _ (domI g L b).length _ rfl (ar.out.own.alloc _) _ rfl [b] (SliceOf.one encN wc b 3) (λ_=>rfl) ?c1 (by decide) ?c2 ?_)
                case c1=>have:=aT.out;have:=Hl.out;simp at *;omega
                case c2=>have:=N.out.size;simp at *;omega
                intro W H q m h3;have aN:NRow w.heap.size H W (domI g L (b + 1)):=by rw [HY.out];exact NRow.snoc q
                have ab:∀ a,a < w.heap.size->Own1 (.slice (some ⟨lb,0,none⟩) (domI g L b).length aQ) a->False:=λa d T=>by have:=(ar.out.own.lt a T).1;omega
                have aV:=Hh aN;have aU:=Hh ((ah.out.fr ((nW _).alloc (.cells #[.int .i64 (b:Int)] 3)) id).fr m (ab _ P.out));have aS:=Hh ((N.out.alloc (.cells #[.int .i64 (b:Int)] 3)).trans m (λa d aZ=>(ab a d aZ).elim));clear q m h3 aN ab;go_wp2_with fail;go_roundw
                case rel=>exact ⟨b + 1,f4,by go_num,by omega,aV.out,aU.out,an.out,aS.out⟩
                case measure=>simp [intOf];omega
              | false =>
                go_wp2_with fail;go_roundw
                case rel=>exact ⟨c + 1,f4,rfl,by go_num,by omega,D.out,ah.out,an.out,ai.out⟩
                case measure=>simp [intOf];omega
        · have b3 : c = L.length := by omega
          subst b3;have D:=Hh (yiq ad.out);have N:=Hh (p.out.trans v.out kP);go_wp2_with fail;go_roundw
          case rel=>exact ⟨b + 1,z,by go_num,by omega,by rw [D.out];exact R.out,K.out,O.out,N.out⟩
          case measure=>simp [intOf];omega
    · have b0 : b = L.length := by omega
      subst b0;have r:=Q.out;rw [zy6] at r;rw [zy6] at *;have HO:=Hh r;clear r Q;go_wp2_with fail;go_ret;exact ⟨_,rfl,HO.out,E,af.out,al.out,p.out⟩
structure PSt {κ:Type}(ek:κ->Value) (MO:List PL->(κ->Option Nat)->Prop) (U:List Nat) (pb sb:Nat) (mo mc ms mn:Value) (W:World) (V:List PL) (BV:List Nat) (M I:Nat->Prop) (f:κ->Option Nat):Prop where
 pool:PoolS M I W pb V BV mo mc ms mn
 ok:PoolOK V BV
 inU:∀x,x<V.length->(za0 V).getD x 0∈U
 map:MapF ek encN W sb f
 memo:MO V f
 mlt:∀q,M q->q<W.heap.size/\q≠sb
 ilt:∀q,I q->q<W.heap.size/\q≠sb
structure PNx (sb:Nat) (W:World) (V:List PL) (M I:Nat->Prop) (W':World) (V':List PL) (M' I':Nat->Prop):Prop where
 pre:V <+: V'
 mM:∀q,M' q->M q\/W.heap.size<=q
 mI:∀q,I' q->I q\/W.heap.size<=q
 fr:Fr (λq=>M q\/q=sb) W W'
section
variable {κ:Type}{ek:κ->Value}{MO:List PL->(κ->Option Nat)->Prop}{U:List Nat}{pb sb:Nat}{mo mc ms mn:Value}{W W' W1 W2:World}{V V' V1 V2:List PL}{BV BV':List Nat}{M I M' I' M1 I1 M2 I2 X:Nat->Prop}{f f':κ->Option Nat}
theorem PoolS.sep (b:PoolS M I W pb V BV mo mc ms mn):∀a,M a->¬I a:=by obtain⟨h,i,f,g,d,e,_,_,_,_,_,_,_,_,c,_⟩:=b;exact c
theorem PSt.fr (b:PSt ek MO U pb sb mo mc ms mn W V BV M I f)(e:Fr X W W')(g:∀a,X a->¬M a/\¬I a/\a≠sb):PSt ek MO U pb sb mo mc ms mn W' V BV M I f :=
 ⟨b.pool.fr e (λa c d=>(g a d).1 c) (λa c d=>(g a d).2.1 c),b.ok,b.inU,b.map.fr e (λd=>(g sb d).2.2 rfl),b.memo,λa c=>⟨vJ (b.mlt a c).1 e.size,(b.mlt a c).2⟩,λa c=>⟨vJ (b.ilt a c).1 e.size,(b.ilt a c).2⟩⟩
theorem PSt.fr0 (a:PSt ek MO U pb sb mo mc ms mn W V BV M I f)(b:Fr NoM W W'):PSt ek MO U pb sb mo mc ms mn W' V BV M I f:=a.fr b (λ_ c=>c.elim)
theorem PSt.len (a:PSt ek MO U pb sb mo mc ms mn W V BV M I f):V.length<=U.length:=zde a.ok a.inU
theorem PNx.of0 (b:Fr NoM W W'):PNx sb W V M I W' V M I:=⟨List.prefix_refl _,λ_ a=>.inl a,λ_ a=>.inl a,b.any⟩
theorem PNx.trans (b:PNx sb W V M I W1 V1 M1 I1)(c:PNx sb W1 V1 M1 I1 W2 V2 M2 I2):PNx sb W V M I W2 V2 M2 I2 :=
 ⟨b.pre.trans c.pre,λa e=>(c.mM a e).elim (b.mM a) (λd=>.inr (vV b.fr.size d)),λa e=>(c.mI a e).elim (b.mI a) (λd=>.inr (vV b.fr.size d)),
  b.fr.trans c.fr (λf g a=>a.elim (λa=>(b.mM f a).elim .inl (λd=>by omega)) .inr)⟩
theorem PSt.node {L R cs ds:List Nat}(hMO:∀ {V V' f},MO V f->V <+: V'->MO V' f)(h:PSt ek MO U pb sb mo mc ms mn W V BV M I f)(hL:RowC V L cs)(hR:RowC V R ds)(hc:mkC cs ds∈U)
  (p:PoolS M' I' W' pb (za5 V BV L R).1 (za5 V BV L R).2.1 mo mc ms mn) (hM:∀q,M' q->M q\/W.heap.size<=q) (hI:∀q,I' q->I q\/W.heap.size<=q) (hf:Fr M W W') :
  PSt ek MO U pb sb mo mc ms mn W' (za5 V BV L R).1 (za5 V BV L R).2.1 (λq=>M' q/\q<W'.heap.size) (λq=>I' q/\q<W'.heap.size) f ∧
   PNx sb W V M I W' (za5 V BV L R).1 (λq=>M' q/\q<W'.heap.size) (λq=>I' q/\q<W'.heap.size)/\(za5 V BV L R).2.2<(za5 V BV L R).1.length/\(za0 (za5 V BV L R).1).getD (za5 V BV L R).2.2 0=mkC cs ds:=by
 obtain⟨q1,q2,q3,q4⟩:=zg0 h.ok hL hR;have hsb:=h.map.lt;exact⟨⟨p.low,q1,zhv h.inU (by rw[q4];exact hc),h.map.fr hf (λe=>(h.mlt sb e).2 rfl),hMO h.memo q2,λq hq=>⟨hq.2,λe=>by
   rcases hM q hq.1 with h1|h1
   ·exact(h.mlt q h1).2 e
   ·omega⟩,λq hq=>⟨hq.2,λe=>by
   rcases hI q hq.1 with h1|h1
   ·exact(h.ilt q h1).2 e
   ·omega⟩⟩,⟨q2,λq hq=>hM q hq.1,λq hq=>hI q hq.1,hf.mono (λ_ _ q=>.inl q)⟩,q3,q4⟩
end
section
variable {κ:Type}{ek:κ->Value}{MO:List PL->(κ->Option Nat)->Prop}{U:List Nat}{pb sb:Nat}{mo mc ms mn:Value}{w0 W W' Wa:World}{V0 V V':List PL}{BV BV' TL TR la L R:List Nat}{M0 I0 M I M' I':Nat->Prop}{f f':κ->Option Nat}{lv rv va v':Value}{i j x c:Nat}
end
def CanMO (V:List PL)(f:Nat->Option Nat):Prop:=∀b a,f b=some a->b<V.length/\a<V.length/\IsCan ((za0 V).getD a 0) ((za0 V).getD b 0)
theorem CanMO.mono {V b:List PL}{f:Nat->Option Nat}(h:CanMO V f)(a:V <+: b):CanMO b f:=λj i g=>by obtain⟨c,d,e⟩:=h j i g;have:=a.length_le;exact⟨by omega,by omega,by rw[zap a d,zap a c];exact e⟩
theorem CanMO.upd {V:List PL}{f:Nat->Option Nat}{x i:Nat}(c:CanMO V f)(g:x<V.length)(e:i<V.length)(d:IsCan ((za0 V).getD i 0) ((za0 V).getD x 0)):CanMO V (upd f x i):=λj h a=>by unfold Go.Proofs.YtlapkmhemepcaaaGreatDoor.upd at a;split at a;{rename_i b;subst b;cases a;exact⟨g,e,d⟩};{exact c j h a}
theorem CanMO.none (V:List PL):CanMO V (λ_=>none):=λ_ _ a=>by cases a
structure CSt (U:List Nat) (pb ob sb:Nat) (ms mn:Value) (W:World) (V:List PL) (BV:List Nat) (M I:Nat->Prop) (fo:Nat × Nat->Option Bool) (fc:Nat->Option Nat):Prop where
 pool:PoolS M I W pb V BV (.map (some ob)) (.map (some sb)) ms mn
 ok:PoolOK V BV
 inU:∀x,x<V.length->(za0 V).getD x 0∈U
 ord:MapF encP encB W ob fo
 ordOK:OrdF (za0 V) fo
 can:MapF encN encN W sb fc
 canOK:CanMO V fc
 mlt:∀q,M q->q<W.heap.size/\q≠ob/\q≠sb
 ilt:∀q,I q->q<W.heap.size/\q≠ob/\q≠sb
 os:ob≠sb
structure CNx (ob sb:Nat) (W:World) (V:List PL) (M I:Nat->Prop) (W':World) (V':List PL) (M' I':Nat->Prop):Prop where
 pre:V <+: V'
 mM:∀q,M' q->M q\/W.heap.size<=q
 mI:∀q,I' q->I q\/W.heap.size<=q
 fr:Fr (λq=>M q\/q=ob\/q=sb) W W'
section
variable {U:List Nat}{pb ob sb:Nat}{ms mn:Value}{W W' W1 W2:World}{V V' V1 V2:List PL}{BV BV':List Nat}{M I M' I' M1 I1 M2 I2 X:Nat->Prop}{fo fo':Nat × Nat->Option Bool}{fc fc':Nat->Option Nat}
theorem CSt.fr (b:CSt U pb ob sb ms mn W V BV M I fo fc)(e:Fr X W W')(f:∀a,X a->¬M a/\¬I a/\a≠ob/\a≠sb):CSt U pb ob sb ms mn W' V BV M I fo fc :=
 ⟨b.pool.fr e (λa c d=>(f a d).1 c) (λa c d=>(f a d).2.1 c),b.ok,b.inU,b.ord.fr e (λd=>(f ob d).2.2.1 rfl),b.ordOK,b.can.fr e (λd=>(f sb d).2.2.2 rfl),b.canOK,λa c=>⟨vJ (b.mlt a c).1 e.size,(b.mlt a c).2⟩,λa c=>⟨vJ (b.ilt a c).1 e.size,(b.ilt a c).2⟩,b.os⟩
theorem CSt.fr0 (a:CSt U pb ob sb ms mn W V BV M I fo fc)(b:Fr NoM W W'):CSt U pb ob sb ms mn W' V BV M I fo fc:=a.fr b (λ_ c=>c.elim)
theorem CSt.len (a:CSt U pb ob sb ms mn W V BV M I fo fc):V.length<=U.length:=zde a.ok a.inU
theorem CNx.refl (c sb:Nat)(b:World)(V:List PL)(M I:Nat->Prop):CNx c sb b V M I b V M I:=⟨List.prefix_refl _,λ_ a=>.inl a,λ_ a=>.inl a,Fr.refl _ _⟩
theorem CNx.of0 (b:Fr NoM W W'):CNx ob sb W V M I W' V M I:=⟨List.prefix_refl _,λ_ a=>.inl a,λ_ a=>.inl a,b.any⟩
theorem CNx.trans (b:CNx ob sb W V M I W1 V1 M1 I1)(c:CNx ob sb W1 V1 M1 I1 W2 V2 M2 I2):CNx ob sb W V M I W2 V2 M2 I2 :=
 ⟨b.pre.trans c.pre,λa e=>(c.mM a e).elim (b.mM a) (λd=>.inr (vV b.fr.size d)),λa e=>(c.mI a e).elim (b.mI a) (λd=>.inr (vV b.fr.size d)),
  b.fr.trans c.fr (λf g a=>a.elim (λa=>(b.mM f a).elim .inl (λd=>by omega)) .inr)⟩
theorem CNx.own {c:Nat->Prop}(a:CNx ob sb W V M I W1 V1 M1 I1)(d:Fr c W1 W2)(e:∀b,c b->W.heap.size<=b):CNx ob sb W V M I W2 V1 M1 I1 :=
 ⟨a.pre,a.mM,a.mI,a.fr.trans d (λf g b=>by have:=e f b;omega)⟩
theorem CSt.ords (a:CSt U pb ob sb ms mn W V BV M I fo fc)(e:Fr (λb=>b=ob) W W')(f:MapF encP encB W' ob fo')(g:OrdF (za0 V) fo'):CSt U pb ob sb ms mn W' V BV M I fo' fc/\CNx ob sb W V M I W' V M I :=
 ⟨⟨a.pool.fr e (λb c d=>(a.mlt b c).2.1 d) (λb c d=>(a.ilt b c).2.1 d),a.ok,a.inU,f,g,a.can.fr e (λd=>a.os d.symm),a.canOK,λb c=>⟨vJ (a.mlt b c).1 e.size,(a.mlt b c).2⟩,λb c=>⟨vJ (a.ilt b c).1 e.size,(a.ilt b c).2⟩,a.os⟩,
  ⟨List.prefix_refl _,λ_ a=>.inl a,λ_ a=>.inl a,e.mono (λ_ _ b=>.inr (.inl b))⟩⟩
theorem CSt.store (a:CSt U pb ob sb ms mn W V BV M I fo fc)(e:Fr (λb=>b=sb) W W')(f:MapF encN encN W' sb fc')(g:CanMO V fc'):CSt U pb ob sb ms mn W' V BV M I fo fc'/\CNx ob sb W V M I W' V M I :=
 ⟨⟨a.pool.fr e (λb c d=>(a.mlt b c).2.2 d) (λb c d=>(a.ilt b c).2.2 d),a.ok,a.inU,a.ord.fr e (λd=>a.os d),a.ordOK,f,g,λb c=>⟨vJ (a.mlt b c).1 e.size,(a.mlt b c).2⟩,λb c=>⟨vJ (a.ilt b c).1 e.size,(a.ilt b c).2⟩,a.os⟩,
  ⟨List.prefix_refl _,λ_ a=>.inl a,λ_ a=>.inl a,e.mono (λ_ _ b=>.inr (.inr b))⟩⟩
theorem CSt.node {L R f g:List Nat}(b:CSt U pb ob sb ms mn W V BV M I fo fc)(m:RowC V L f)(n:RowC V R g)(o:mkC f g∈U) (p:PoolS M' I' W' pb (za5 V BV L R).1 (za5 V BV L R).2.1 (.map (some ob)) (.map (some sb)) ms mn) (i:∀a,M' a->M a\/W.heap.size<=a) (h:∀a,I' a->I a\/W.heap.size<=a) (j:Fr M W W') : CSt U pb ob sb ms mn W' (za5 V BV L R).1 (za5 V BV L R).2.1 (λa=>M' a/\a<W'.heap.size) (λa=>I' a/\a<W'.heap.size) fo fc ∧ CNx ob sb W V M I W' (za5 V BV L R).1 (λa=>M' a/\a<W'.heap.size) (λa=>I' a/\a<W'.heap.size)/\(za5 V BV L R).2.2<(za5 V BV L R).1.length/\(za0 (za5 V BV L R).1).getD (za5 V BV L R).2.2 0=mkC f g:=by obtain⟨q,k,r,l⟩:=zg0 b.ok m n;have s:=b.ord.lt;have t:=b.can.lt;refine⟨⟨p.low,q,zhv b.inU (by rw[l];exact o),b.ord.fr j (λc=>(b.mlt ob c).2.1 rfl),b.ordOK.mono (zg2 k),b.can.fr j (λc=>(b.mlt sb c).2.2 rfl),b.canOK.mono k,λa d=>⟨d.2,λc=>?_,λc=>?_⟩,λa d=>⟨d.2,λc=>?_,λc=>?_⟩,b.os⟩,⟨k,λa d=>i a d.1,λa d=>h a d.1,j.mono (λ_ _ a=>.inl a)⟩,r,l⟩;{exact(i a d.1).elim (λe=>(b.mlt a e).2.1 c) (λe=>by omega)};{exact(i a d.1).elim (λe=>(b.mlt a e).2.2 c) (λe=>by omega)};{exact(h a d.1).elim (λe=>(b.ilt a e).2.1 c) (λe=>by omega)};{exact(h a d.1).elim (λe=>(b.ilt a e).2.2 c) (λe=>by omega)}
end
structure RSt (U:List Nat) (pb ob sb mb:Nat) (ms mn:Value) (w0:World) (V0:List PL) (M0 I0:Nat->Prop) (W:World) (qv kv va:Value) (Q Kp la:List Nat) (fs:Nat->Option Bool) (V:List PL) (BV:List Nat) (M I:Nat->Prop) (fo:Nat × Nat->Option Bool) (fc:Nat->Option Nat):Prop where
 st:CSt U pb ob sb ms mn W V BV M I fo fc
 nx:CNx ob sb w0 V0 M0 I0 W V M I
 rq:W.ownsRow w0.heap.size 3 1 qv Q.length (Q.map encN)
 rk:W.ownsRow w0.heap.size 3 1 kv Kp.length (Kp.map encN)
 sq:∀q,qv.ownBlock=some q->¬M q/\¬I q/\q≠ob/\q≠sb/\q≠mb/\kv.ownBlock≠some q
 sk:∀q,kv.ownBlock=some q->¬M q/\¬I q/\q≠ob/\q≠sb/\q≠mb
 smap:MapF encN encB W mb fs
 sm:¬M mb/\¬I mb/\mb≠ob/\mb≠sb/\w0.heap.size<=mb
 src:Nats W va la
 ss:la≠[]->∀q,va.ownBlock=some q->¬M q/\q≠ob/\q≠sb/\q≠mb/\qv.ownBlock≠some q/\kv.ownBlock≠some q
section
variable {U:List Nat}{pb ob sb mb:Nat}{ms mn:Value}{w0 W W' Wa:World}{V0 V V':List PL}{BV BV' Q Kp la L:List Nat}{M0 I0 M I M' I':Nat->Prop}{fo fo':Nat × Nat->Option Bool}{fc fc':Nat->Option Nat}{fs fs':Nat->Option Bool}{qv kv va v':Value}
theorem RSt.call (c:RSt U pb ob sb mb ms mn w0 V0 M0 I0 W qv kv va Q Kp la fs V BV M I fo fc)(q:CSt U pb ob sb ms mn W' V' BV' M' I' fo' fc')(i:CNx ob sb W V M I W' V' M' I') : RSt U pb ob sb mb ms mn w0 V0 M0 I0 W' qv kv va Q Kp la fs V' BV' M' I' fo' fc':=by have k:∀b,b<W.heap.size->¬M b->¬M' b:=λb d m a=>(i.mM b a).elim m (λr=>by omega);have n:∀b,b<W.heap.size->¬I b->¬I' b:=λb d m a=>(i.mI b a).elim m (λr=>by omega);have p:=c.smap.lt;refine⟨q,c.nx.trans i,za1 c.rq i.fr (λb d a=>?_),za1 c.rk i.fr (λb d a=>?_),λb d=>?_,λb d=>?_,c.smap.fr i.fr (λa=>?_),⟨k mb p c.sm.1,n mb p c.sm.2.1,c.sm.2.2⟩,c.src.fr i.fr (λj b d a=>?_),λj b d=>?_⟩;{obtain⟨e,g,f,l,_⟩:=c.sq b d;rcases a with a|a|a;{exact e a};{exact f a};{exact l a}};{obtain⟨e,g,f,l,_⟩:=c.sk b d;rcases a with a|a|a;{exact e a};{exact f a};{exact l a}};{obtain⟨e,g,f⟩:=c.sq b d;have h:=(c.rq.lt b d).2;exact⟨k b h e,n b h g,f⟩};{obtain⟨e,g,f⟩:=c.sk b d;have h:=(c.rk.lt b d).2;exact⟨k b h e,n b h g,f⟩};{rcases a with a|a|a;{exact c.sm.1 a};{exact c.sm.2.2.1 a};{exact c.sm.2.2.2.1 a}};{obtain⟨e,g,f,_⟩:=c.ss j b d;rcases a with a|a|a;{exact e a};{exact g a};{exact f a}};{obtain⟨g,o,h⟩:=c.src.block j;rw[d]at o;cases o;obtain⟨e,f⟩:=c.ss j b d;exact⟨k b h e,f⟩}
theorem RSt.fr0 (a:RSt U pb ob sb mb ms mn w0 V0 M0 I0 W qv kv va Q Kp la fs V BV M I fo fc)(b:Fr NoM W W'):RSt U pb ob sb mb ms mn w0 V0 M0 I0 W' qv kv va Q Kp la fs V BV M I fo fc :=
 a.call (a.st.fr0 b) (CNx.of0 b)
theorem RSt.pushQ (a:RSt U pb ob sb mb ms mn w0 V0 M0 I0 W qv kv va Q Kp la fs V BV M I fo fc)(r:Fr NoM W Wa)(s:W'.ownsRow w0.heap.size 3 1 v' (Q.length+L.length) (Q.map encN++L.map encN))(h:Fr (Own1 qv) Wa W') (t:v'.ownBlock=qv.ownBlock\/∃g,v'.ownBlock=some g/\Wa.heap.size<=g):RSt U pb ob sb mb ms mn w0 V0 M0 I0 W' v' kv va (Q++L) Kp la fs V BV M I fo fc:=by have a:=a.fr0 r;have m:∀b,v'.ownBlock=some b->qv.ownBlock=some b\/Wa.heap.size<=b:=λb c=>by{rcases t with i|⟨g,i,k⟩;{exact .inl (i ▸ c)};{rw[i]at c;cases c;exact .inr k}};have i:=a.st.ord.lt;have k:=a.st.can.lt;have v:=a.smap.lt;refine⟨a.st.fr h (λb d=>⟨(a.sq b d).1,(a.sq b d).2.1,(a.sq b d).2.2.1,(a.sq b d).2.2.2.1⟩),a.nx.own h (λb d=>(a.rq.lt b d).1),by rw[yZ,vQ];exact s,za1 a.rk h (λb d c=>(a.sq b c).2.2.2.2.2 d),λb c=>?_,a.sk,a.smap.fr h (λc=>(a.sq mb c).2.2.2.2.1 rfl),a.sm,a.src.fr h (λj b d c=>(a.ss j b d).2.2.2.2.1 c),λj b d=>?_⟩;{rcases m b c with f|f;{exact a.sq b f};{refine⟨λe=>?_,λe=>?_,λe=>by omega,λe=>by omega,λe=>by omega,λe=>?_⟩;{have:=(a.st.mlt b e).1;omega};{have:=(a.st.ilt b e).1;omega};{have:=(a.rk.lt b e).2;omega}}};{obtain⟨n,g,o,p,c,q⟩:=a.ss j b d;refine⟨n,g,o,p,λf=>?_,q⟩;rcases m b f with f|f;{exact c f};{obtain⟨u,l,w⟩:=a.src.block j;rw[d]at l;cases l;omega}}
theorem RSt.pushK {i:Nat}(b:RSt U pb ob sb mb ms mn w0 V0 M0 I0 W qv kv va Q Kp la fs V BV M I fo fc)(t:Fr NoM W Wa)(u:W'.ownsRow w0.heap.size 3 1 v' (Kp.length+1) (Kp.map encN ++ [i].map encN))(h:Fr (Own1 kv) Wa W') (v:v'.ownBlock=kv.ownBlock\/∃f,v'.ownBlock=some f/\Wa.heap.size<=f):RSt U pb ob sb mb ms mn w0 V0 M0 I0 W' qv v' va Q (Kp ++ [i]) la fs V BV M I fo fc:=by have b:=b.fr0 t;have p:∀a,v'.ownBlock=some a->kv.ownBlock=some a\/Wa.heap.size<=a:=λa c=>by{rcases v with j|⟨f,j,q⟩;{exact .inl (j ▸ c)};{rw[j]at c;cases c;exact .inr q}};have j:=b.st.ord.lt;have q:=b.st.can.lt;have x:=b.smap.lt;refine⟨b.st.fr h (λa d=>⟨(b.sk a d).1,(b.sk a d).2.1,(b.sk a d).2.2.1,(b.sk a d).2.2.2.1⟩),b.nx.own h (λa d=>(b.rk.lt a d).1),za1 b.rq h (λa d c=>(b.sq a d).2.2.2.2.2 c),by rw[yZ,vQ];exact u,λa c=>?_,λa c=>?_,b.smap.fr h (λc=>(b.sk mb c).2.2.2.2 rfl),b.sm,b.src.fr h (λk a d c=>(b.ss k a d).2.2.2.2.2 c),λk a d=>?_⟩;{obtain⟨l,f,m,n,s,o⟩:=b.sq a c;refine⟨l,f,m,n,s,λe=>?_⟩;rcases p a e with e|e;{exact o e};{have:=(b.rq.lt a c).2;omega}};{rcases p a c with g|g;{exact b.sk a g};{refine⟨λe=>?_,λe=>?_,λe=>by omega,λe=>by omega,λe=>by omega⟩;{have:=(b.st.mlt a e).1;omega};{have:=(b.st.ilt a e).1;omega}}};{obtain⟨l,f,m,n,c,o⟩:=b.ss k a d;refine⟨l,f,m,n,c,λg=>?_⟩;rcases p a g with g|g;{exact o g};{obtain⟨w,r,y⟩:=b.src.block k;rw[d]at r;cases r;omega}}
theorem RSt.see (a:RSt U pb ob sb mb ms mn w0 V0 M0 I0 W qv kv va Q Kp la fs V BV M I fo fc)(d:Fr (λc=>c=mb) W W')(f:MapF encN encB W' mb fs'):RSt U pb ob sb mb ms mn w0 V0 M0 I0 W' qv kv va Q Kp la fs' V BV M I fo fc :=
 ⟨a.st.fr d (λc b=>by subst b;exact⟨a.sm.1,a.sm.2.1,a.sm.2.2.1,a.sm.2.2.2.1⟩),a.nx.own d (λc b=>by rw[b];exact a.sm.2.2.2.2),za1 a.rq d (λc e b=>(a.sq c e).2.2.2.2.1 b),za1 a.rk d (λc e b=>(a.sk c e).2.2.2.2 b),a.sq,a.sk,f,a.sm,a.src.fr d (λg c e b=>(a.ss g c e).2.2.2.1 b),a.ss⟩
theorem RSt.look {h:Value}{g:List Nat}(a:RSt U pb ob sb mb ms mn w0 V0 M0 I0 W qv kv va Q Kp la fs V BV M I fo fc)(i:Nats W h g)(d:g≠[]->∀b,h.ownBlock=some b->I b):RSt U pb ob sb mb ms mn w0 V0 M0 I0 W qv kv h Q Kp g fs V BV M I fo fc :=
 ⟨a.st,a.nx,a.rq,a.rk,a.sq,a.sk,a.smap,a.sm,i,λe b f=>⟨λc=>a.st.pool.sep b c (d e b f),(a.st.ilt b (d e b f)).2.1,(a.st.ilt b (d e b f)).2.2,λc=>a.sm.2.1 (c ▸ d e b f),λc=>(a.sq b c).2.1 (d e b f),λc=>(a.sk b c).2.1 (d e b f)⟩⟩
theorem RSt.pop {i g c:Nat}(a:RSt U pb ob sb mb ms mn w0 V0 M0 I0 W (.slice (some ⟨g,0,none⟩) (Q.length+1) c) kv va (Q ++ [i]) Kp la fs V BV M I fo fc):RSt U pb ob sb mb ms mn w0 V0 M0 I0 W (.slice (some ⟨g,0,none⟩) Q.length c) kv va Q Kp la fs V BV M I fo fc:=by refine⟨a.st,a.nx,⟨by simp,?_⟩,a.rk,λe b=>a.sq e b,a.sk,a.smap,a.sm,a.src,λn e o=>a.ss n e o⟩;have f:=a.rq.2;rw[yZ]at f;rcases f with ⟨b,_⟩|⟨t,s,h,b,j,l,m,k,p,q⟩;{cases b};{cases b;refine .inr ⟨g,c,h,rfl,j,l,by simp at m;omega,k,p,?_⟩;have d:=congrArg (λr=>r.take (Q.length*1)) q;simp only[List.take_take,vQ]at d;rw[y9,Nat.mul_one,Nat.mul_one,Nat.min_eq_left (by omega)]at d;rw[Nat.mul_one,d,List.take_left' (by simp)]}
end
