import Derived.Test.YtghekfmfonoocaaGreatDoorZun
import Derived.Test.YtghekfmfonoocaaGreatDoorZu7
/- Lemmas. -/
set_option linter.all false
set_option maxHeartbeats 8000000
set_option maxRecDepth 4000
namespace Go.Proofs.YtghekfmfonoocaaGreatDoor
open Go.RowKit
def PostF (V:List PL)(BV:List Nat)(r:Nat)(w:World)(e:Ending)(c:World):Prop :=
 ∃(b:Value) (ok:Bool) (a:List PL),e=.returned (.tuple #[.agg #[b],.bool ok])/\FormRes V BV r ok a/\NodesS w.heap.size c b a/\Fr NoM w c
theorem PostF.mk {V:List PL}{BV:List Nat}{r:Nat}{w:World}{e:Ending}{c:World}(b:Value)(ok:Bool)(a:List PL)(d:e=.returned (.tuple #[.agg #[b],.bool ok]))(f:FormRes V BV r ok a)(g:NodesS w.heap.size c b a)(h:Fr NoM w c):PostF V BV r w e c:=⟨b,ok,a,d,f,g,h⟩
theorem yb8 {M I:Nat->Prop}(pb r:Nat)(V:List PL)(BV:List Nat)(mo mc ms mn:Value)(w:World)(hP:PoolS M I w pb V BV mo mc ms mn)(aj:PoolOK V BV)(hr:r<V.length)(hn:V.length<1000000000) :
  Calls Tryz.prog 60 #[.pointer (some ⟨pb,0,none⟩),.int .i64 (r:Int)] w λg w'=>PostF V BV r w g w':=by
 have aC:∀i∈[r],i<V.length:=λi j=>by rw[x9]at j;subst j;exact hr
 obtain⟨HP,K,Hr,O,a2⟩:=Hhp5 hP aj hr hn aC;clear hP aj hr hn aC;go_enter Tryz.func60,Tryz.ntmps60;go_wp2_with fail;obtain⟨u,L⟩:=eX ((w.alloc (.cells #[.slice none 0 0] 26)).alloc (.cells #[.int .i64 (r:Int)] 3));have ao:Fr NoM w u:=by rw[L];exact((nW w).alloc _).alloc _
 have am:u.heap[w.heap.size]?=some (.cells #[.slice none 0 0] 26 (0,0)):=by
  rw[L];exact((nW (w.alloc (.cells #[.slice none 0 0] 26))).alloc _).heap (xJ w _) id
 have D:Nats u (.slice (some ⟨w.heap.size+1,0,none⟩) 1 1) [r]:=by
  have e:=SliceOf.one encN (w.alloc (.cells #[.slice none 0 0] 26)) r 3;rw[xZ]at e;rw[L];exact e
 rw[<-L];obtain⟨y,ab,aE⟩:=Hhp3 ao am D;clear ao am D L;refine(zos pb V BV [r] mo mc ms mn _ u (HP.o.fr0 y.o) aE.o a2.o (λa b f=>K.o.opts' a b f) (by simp) O.o (K.o.lens O.o)).mono ?_
 rintro g G ⟨aO,aN,Q0,rfl,m,az,ax,f2⟩;have HK:=Hh (λd (A:Fr NoM u d)=>show d.cell? ⟨w.heap.size,0,none⟩=some (.slice none 0 0)/\d.frozen? ⟨w.heap.size,0,none⟩=false from by
  have hb:=A.heap ab.o id;exact⟨qR hb rfl,fZ hb⟩)
 obtain⟨n0,a5⟩:=eX Q0.length;rw[<-a5];obtain⟨ah,a0,X,ae⟩:=Hhp4 az ax f2 a5;clear m az ax f2 a5;by_cases aL:120<n0
 ·obtain⟨k2,z2⟩:=HK.o G X.o
  go_wp2;refine yJ (v:=.tuple #[.agg #[.slice none 0 0],.bool false]) (by simp[results,Tryz.results60,go_sem,k2]) rfl ?_
  exact PostF.mk _ false [] rfl (.inl ⟨rfl,rfl,Q0,ah.o,a0.o,by rw[<-ae.o];exact aL⟩) (NodesS.nil _ _) ((y.o.trans X.o kP).setCell ⟨w.heap.size,0,none⟩ _ (λe=>absurd e (Nat.lt_irrefl _)))
 ·go_wp2_with fail
  obtain⟨N,T⟩:=eX (G.alloc (.cells #[.int .i64 (r:Int)] 3));have ap:Fr NoM G N:=by rw[T];exact(nW G).alloc _
  have ay:Nats N (.slice (some ⟨G.heap.size,0,none⟩) 1 1) [r]:=by rw[T];exact SliceOf.one encN G r 3
  rw[<-T];have Y:=Hh (X.o.trans ap kP);have aF:=Hh ay;clear ap ay T;have an:=y.o.trans Y.o kP;refine(ydx pb V BV [r] mo mc ms mn _ N (HP.o.fr0 an) aF.o a2.o (by have:=Hr.o;omega) (λa b f=>K.o.opts' a b f) (by simp) O.o (K.o.lens O.o) (λz B m h3=>K.o.qok a2.o B m h3)).mono ?_
  clear an;rintro g W ⟨lv,nv,z,c,rfl,t,aK,hS,f4⟩;have aB:z.length=n0:=by
   rw[ae.o];exact Nat.le_antisymm (t.nodup.length_le_of_subset λi j=>(a0.o i).2 ((t.mem i).1 j)) (ah.o.length_le_of_subset λi j=>(t.mem i).2 ((a0.o i).1 j))
  have au:c.length=z.length:=by rw[t.nodes];simp
  have aA:1<=z.length:=List.length_pos_of_mem ((t.mem r).2 (.root (by simp)));obtain⟨NV,C⟩:=hS;obtain⟨P,Q,rfl,_,_,h6⟩:=Pairs.of_owns C.row;have a7:=C.len;rw[a7]at C ⊢;have aI:=Hh (λ(a:Nat) (hj:a<c.length) (d:World) (A:Fr NoM W d)=>show ∃l n o q p s b,c[a]?=some b/\P=some ⟨l,n,none⟩/\d.cell? ⟨l,n+a*2,none⟩=some (.slice o b.1.length q)/\d.cell? ⟨l,n+a*2+1,none⟩=some (.slice p b.2.length s)from by
   obtain⟨b,f⟩:∃b,c[a]?=some b:=⟨_,xQ hj⟩;obtain⟨⟨xl,xr⟩,j⟩:∃i,NV[a]?=some i:=⟨NV[a]'(by rw[a7];exact hj),xQ _⟩;obtain⟨l,n,ha,R,S⟩:=h6 a _ j;obtain⟨s1,s2⟩:=C.nats a _ _ j f;obtain⟨o,q,rfl,_⟩:=s1;obtain⟨p,s,rfl,_⟩:=s2;exact⟨l,n,o,q,p,s,b,f,ha,A.cell R id,A.cell S id⟩)
  obtain⟨HO,HN,F4,a1,ad,aH⟩:=Hhp6 t C f4 aB au aA;have aJ:=Hh (show w.heap.size+1<=N.heap.size from by
   have B:=Y.o.size;have m:w.heap.size<u.heap.size:=(yZ.1 ab.o).1;omega)
  have ai:Fr NoM u W:=Y.o.trans f4 kP;have J:=Hh ai;have aP:c.length<1000000000:=by omega
  clear t aK C f4 aB au aA h6 a7 ai;go_wp2_with fail;go_loopw [26] (λa8 d=>∃a:Nat,a8=.int .i64 a/\a<=c.length/\(∀(h:Nat) (b:PL),h<a->c[h]?=some b->b.1.length<=24/\b.2.length<=24)/\Fr NoM W d) (λa8 _=>c.length-(intOf a8).toNat)
  case atStart=>exact⟨0,rfl,yK _,by intros;omega,Fr.refl _ _⟩
  case round =>
   obtain⟨a,rfl,hj,ak,hf⟩:=hrel;obtain⟨k,rfl⟩:=eX wr;have aa:=Hh ak;have H:=Hh hf;clear ak hf;by_cases aw:a<c.length
   ·obtain⟨l,n,o,q,p,s,b,f,ha,R,S⟩:=aI.o a aw k H.o
    subst ha;have ix:=zbn (some ⟨l,n,none⟩) c.length Q a l n aw rfl;obtain⟨E,D⟩:=eX b.1.length;obtain⟨F,a6⟩:=eX b.2.length;rw[<-D]at R;rw[<-a6]at S;obtain⟨HY,af,ag⟩:=Hhp3 f D a6;clear f D a6;have aG:=Hh (λ(B:E<=24) (m:F<=24)=>show ∀(h:Nat) (b:PL),h<a+1->c[h]?=some b->b.1.length<=24/\b.2.length<=24 from λh aM hk hz=>by
     by_cases g:h=a
     ·subst g
      have g:=HY.o.symm.trans hz;cases g
      rw[<-af.o,<-ag.o];exact⟨B,m⟩
     ·exact aa.o h aM (by omega) hz)
    have ac:=Hh (λ(e:24<E\/24<F) (d:World) (A:Fr NoM w d)=>show PostF V BV r w (Ending.returned (.tuple #[.agg #[.slice none 0 0],.bool false])) d from
     PostF.mk _ false [] rfl (.inr ⟨z,c,HO.o,by have:=a1.o;omega,(yii HY.o (by rw[<-af.o,<-ag.o];exact e)).symm,rfl⟩) (NodesS.nil _ _) A)
    go_upto_region 7 with fail;obtain⟨x,U⟩:=eX (k.alloc (.cells #[.slice o E q,.slice p F s] 85));have a4:Fr NoM W x:=by rw[U];exact H.o.alloc _
    have a3:x.heap[k.heap.size]?=some (.cells #[.slice o E q,.slice p F s] 85 (0,0)):=by rw[U];exact xJ k _
    have d1:x.cell? ⟨k.heap.size,0,none⟩=some (.slice o E q):=by rw[xX x _ 0 _ _ _ a3];rfl
    have d2:x.cell? ⟨k.heap.size,1,none⟩=some (.slice p F s):=by rw[xX x _ 1 _ _ _ a3];rfl
    rw[<-U];obtain⟨k8,z8⟩:=HK.o x (J.o.trans a4 kP);have Z:=Hh a4;clear a4 a3 U R S ix;by_cases B:24<E
    ·go_wp2
     refine yJ (v:=.tuple #[.agg #[.slice none 0 0],.bool false]) (by simp[results,Tryz.results60,go_sem,k8]) rfl ?_
     exact ac.o (.inl B) _ (((y.o.trans J.o kP).trans Z.o kP).setCell ⟨w.heap.size,0,none⟩ _ (λe=>absurd e (Nat.lt_irrefl _)))
    ·by_cases m:24<F
     ·go_wp2
      refine yJ (v:=.tuple #[.agg #[.slice none 0 0],.bool false]) (by simp[results,Tryz.results60,go_sem,k8]) rfl ?_
      exact ac.o (.inr m) _ (((y.o.trans J.o kP).trans Z.o kP).setCell ⟨w.heap.size,0,none⟩ _ (λe=>absurd e (Nat.lt_irrefl _)))
     ·clear k8 z8
      go_wp2;go_roundw
      case rel=>exact⟨a+1,by go_num,by omega,aG.o (by omega) (by omega),Z.o⟩
      case measure=>simp[intOf];omega
   ·have av:a=c.length:=by omega
    obtain⟨k7,z7⟩:=HK.o k (J.o.trans H.o kP);have aq:zah c=true:=yff (by have:=ad.o;have:=a1.o;omega) (by have:=ad.o;have:=aH.o;omega) (λh b f=>aa.o h b (by rw[av];exact(xV.1 f).1) f);have aD:=Hh aq;clear av aq;go_wp2;refine yJ (v:=.tuple #[.agg #[.slice P c.length Q],.bool true]) (by simp[results,Tryz.results60,go_sem,k7]) rfl ?_
    refine PostF.mk _ true c rfl (.inr ⟨z,c,HO.o,by have:=a1.o;omega,aD.o.symm,rfl⟩) ?_ (((y.o.trans J.o kP).trans H.o kP).setCell ⟨w.heap.size,0,none⟩ _ (λe=>absurd e (Nat.lt_irrefl _)))
    have hS:NodesS N.heap.size k (.slice P c.length Q) c:=⟨NV,HN.o.fr H.o (λ_ _ _ a9=>a9)⟩;have aQ:=aJ.o;exact(hS.fr (Fr.set k ⟨w.heap.size,0,none⟩ (.slice P c.length Q)) (λa9 hq _ g=>by have g:a9=w.heap.size:=g;omega)).base (by omega)
theorem zkh {M I:Nat->Prop}(pb r:Nat)(V:List PL)(BV:List Nat)(d b e c:Value)(w:World)(k:PoolS M I w pb V BV d b e c)(j:PoolOK V BV)(m:r<V.length)(l:V.length<1000000000) :
  Calls Tryz.prog 60 #[.pointer (some ⟨pb,0,none⟩),.int .i64 (r:Int)] w λh g=>∃(f:Value) (ok:Bool) (a:List PL),h=.returned (.tuple #[.agg #[f],.bool ok])/\FormRes V BV r ok a/\NodesS w.heap.size g f a/\Fr NoM w g :=
 (yb8 pb r V BV d b e c w k j m l).mono λ_ _ i=>i
theorem yid (a:Nat):geC a a=true:=by induction a using Nat.strongRecOn with| _ a h =>{rw[zfn];constructor;{intro d g;cases e:geC a d with| false=>rfl| true =>{have b:=((zfn a d).1 e).1 d g;rw[h d (za6 (.inr g))]at b;cases b}};{intro c f;cases e:geC c a with| false=>rfl| true =>{have b:=((zfn c a).1 e).2 c f;rw[h c (za6 (.inl f))]at b;cases b}}}
theorem yic (C:List Nat)(x:Nat):geV C x x=true:=yid _
theorem zb9 (a:Option Addr)(n c k b d:Nat)(f:k<n)(e:a=some ⟨b,d,none⟩)(w:World) : (Instr.indexAt 130 (.slice a n c) (.int .i64 (k:Int))).run Tryz.prog w=.ok (.pointer (some ⟨b,d+k,none⟩)) w:=by subst e;go_simp
theorem PoolS.rd {M I:Nat->Prop} {w:World} {pb:Nat} {V:List PL} {BV:List Nat} {y v z x:Value} (C:PoolS M I w pb V BV y v z x) : ∃ j p k q, w.cell? ⟨pb, 0, none⟩ = some (.slice j V.length p)/\w.cell? ⟨pb, 1, none⟩ = some (.slice k V.length q)/\w.cell? ⟨pb, 4, none⟩ = some y/\w.cell? ⟨pb, 5, none⟩ = some v/\w.cell? ⟨pb, 6, none⟩ = some z/\w.cell? ⟨pb, 7, none⟩ = some x ∧ (∀ a,a < V.length->∃ b c d,j=some ⟨b,c,none⟩/\w.cell? ⟨b,c + a,none⟩=some d/\Nats w d (za5 V a).1/\((za5 V a).1≠[]->∀ h,d.ownBlock=some h->I h)) ∧ (∀ a,a < V.length->∃ b c d,k=some ⟨b,c,none⟩/\w.cell? ⟨b,c + a,none⟩=some d/\Nats w d (za5 V a).2/\((za5 V a).2≠[]->∀ h,d.ownBlock=some h->I h)):=by obtain ⟨K,N,H,J,t,u,f,D,E,_⟩:=C;obtain ⟨j,p,rfl,_,_,F⟩:=SliceOf.of_owns (enc:=encV) (L:=t) f.left (by rw [show (encV:Value->Value)=id from rfl,List.map_id]);obtain ⟨k,q,rfl,_,_,G⟩:=SliceOf.of_owns (enc:=encV) (L:=u) f.right (by rw [show (encV:Value->Value)=id from rfl,List.map_id]);have e:=f.blk;have A:=f.lenL;have B:=f.lenR;refine ⟨j,p,k,q,by rw [xX w pb 0 _ _ _ e,<-A];rfl,by rw [xX w pb 1 _ _ _ e,<-B];rfl,by rw [xX w pb 4 _ _ _ e];rfl,by rw [xX w pb 5 _ _ _ e];rfl,by rw [xX w pb 6 _ _ _ e];rfl,by rw [xX w pb 7 _ _ _ e];rfl,λa o=>?_,λa o=>?_⟩;{have g := xQ (l := t) (i := a) (by omega);obtain ⟨b,c,m,n⟩:=F a _ g;obtain ⟨r,s⟩:=D a _ _ g (za7 o);exact ⟨b,c,_,m,n,r,s⟩};{have g := xQ (l := u) (i := a) (by omega);obtain ⟨b,c,m,n⟩:=G a _ g;obtain ⟨r,s⟩:=E a _ _ g (za7 o);exact ⟨b,c,_,m,n,r,s⟩}
def OrdF (C:List Nat)(f:Nat × Nat->Option Bool):Prop:=∀a b,f a=some b->a.1<C.length/\a.2<C.length/\b=geV C a.1 a.2
theorem OrdF.none (C:List Nat):OrdF C (λ_=>none):=λ_ _ a=>by cases a
theorem OrdF.upd {C:List Nat}{f:Nat × Nat->Option Bool}{x y:Nat}(d:OrdF C f)(e:x<C.length)(g:y<C.length):OrdF C (upd f (x,y) (geV C x y)):=λh b a=>by unfold Go.Proofs.YtghekfmfonoocaaGreatDoor.upd at a;split at a;{rename_i c;subst c;exact⟨e,g,(yY a).symm⟩};{exact d h b a}
theorem OrdF.mono {C a:List Nat}{f:Nat × Nat->Option Bool}(e:OrdF C f)(c:C <+: a):OrdF a f:=λj d i=>by obtain⟨g,h,b⟩:=e j d i;have k:=c.length_le;obtain⟨l,rfl⟩:=c;refine⟨by omega,by omega,?_⟩;unfold geV at b ⊢;rw[zfm g,zfm h];exact b
def GeIs (M I:Nat->Prop)(C:List Nat)(V:List PL)(BV:List Nat)(pb a:Nat)(g i h:Value)(x y:Nat):Prop:=∀(c:Nat × Nat->Option Bool) (b:World),PoolS M I b pb V BV (.map (some a)) g i h->MapF encP encB b a c->OrdF C c ->
  Calls Tryz.prog 164 #[.pointer (some ⟨pb,0,none⟩),.int .i64 (x:Int),.int .i64 (y:Int)] b λf e=>f=.returned (.bool (geV C x y))/\∃d,MapF encP encB e a d/\OrdF C d/\Fr (λj=>j=a) b e
theorem yf6 {M I:Nat->Prop}{C:List Nat}{V:List PL}{BV:List Nat}(B:BookC V C)(pb c:Nat)(mc ms mn:Value)(aX:¬M c)(ao:¬I c):∀f x y,x+y<f->x<V.length->y<V.length->GeIs M I C V BV pb c mc ms mn x y:=by
 intro f;induction f with
 | zero=>intro x y j;omega
 | succ f ih =>
  intro x y p A D h E hP hF hO;by_cases aM:x=y
  ·subst aM
   have HG:=Hh (show geV C x x=true from yic C x);have hb:((x:Int) == (x:Int))=true:=beq_self_eq_true _;have HF:=Hh hF;have HO:=Hh hO;clear hF hO hP ih;go_enter Tryz.func164,Tryz.ntmps164;go_wp2_with fail;go_ret;exact⟨by rw[HG.o];rfl,h,HF.o,HO.o,Fr.refl _ _⟩
  ·have hb:((x:Int) == (y:Int))=false:=by rw[beq_eq_false_iff_ne];omega
   obtain⟨az,HP,HF,HO⟩:=Hhp4 ih hP hF hO;have aY:=zrz (x:Int) (y:Int);clear ih hP hF hO aM;obtain⟨X,au⟩:=eX (geV C x y);rw[<-au];have a6:=Hh au;clear au;go_enter Tryz.func164,Tryz.ntmps164;go_wp2_with fail;obtain⟨g,ak⟩:=eX (E.alloc (.cells #[.int .i64 (x:Int),.int .i64 (y:Int)] 174));have ah:Fr NoM E g:=by rw[ak];exact(nW E).alloc _
   have aH:g.heap[E.heap.size]?=some (.cells #[.int .i64 (x:Int),.int .i64 (y:Int)] 174 (0,0)):=by rw[ak];exact xJ E _
   rw[<-ak];have W:¬E.heap.size=c:=by have:=HF.o.lt;omega
   have HK:=Hh (λe (h:Fr (λb=>b=c) g e)=>show e.cell? ⟨E.heap.size,0,none⟩=some (.int .i64 (x:Int))/\e.cell? ⟨E.heap.size,1,none⟩=some (.int .i64 (y:Int))from by
    have j:=h.heap aH W;exact⟨qR j rfl,qR j rfl⟩)
   have t:=Hh (λe (h:Fr (λb=>b=c) g e)=>show PoolS M I e pb V BV (.map (some c)) mc ms mn from
    (HP.o.fr0 ah).fr h (λb N o=>aX (by rw[<-o];exact N)) (λb N o=>ao (by rw[<-o];exact N)))
   have af:=Hh (ah.any (M:=λb=>b=c));have ae:=Hh (HF.o.fr ah id);clear ah aH W ak HF HP aY;have hd:∀f,Fr NoM g (g.drewN f):=λf=>⟨rfl,rfl,rfl,xW _,λ_ _ _=>rfl⟩
   have L:∀f,(Instr.lookup 127 (.map (some c)) (.agg #[.int .i64 (x:Int),.int .i64 (y:Int)]) true).run Tryz.prog (g.drewN f)=.ok (.tuple #[((h (x,y)).map encB).getD (.bool false),.bool (h (x,y)).isSome]) (g.drewN f):=λf =>
    MapF.look (w:=g.drewN f) (ae.o.fr (hd f) id) zmy Tryz.underlying127 (Tryz.zeroValue4 _) (x,y) true
   obtain⟨O,Q⟩:=HK.o g (Fr.refl _ _);obtain⟨_,_,_,_,_,_,R,_⟩:=(t.o g (Fr.refl _ _)).rd;have HD:=Hh hd;clear hd;cases aa:h (x,y)with
   | some ag =>
    rw[aa]at L;have L:∀f,(Instr.lookup 127 (.map (some c)) (.agg #[.int .i64 (x:Int),.int .i64 (y:Int)]) true).run Tryz.prog (g.drewN f)=.ok (.tuple #[.bool ag,.bool true]) (g.drewN f):=L;have ha:ag=X:=by rw[a6.o];exact(HO.o _ _ aa).2.2
    have HA:=Hh ha;clear aa ha;go_quiet (fail);go_wp2_with fail;go_ret;exact⟨by rw[HA.o];rfl,h,ae.o.fr (HD.o _) id,HO.o,af.o.trans (HD.o _) (λ_ _ b=>b.elim)⟩
   | none =>
    rw[aa]at L;have L:∀f,(Instr.lookup 127 (.map (some c)) (.agg #[.int .i64 (x:Int),.int .i64 (y:Int)]) true).run Tryz.prog (g.drewN f)=.ok (.tuple #[.bool false,.bool false]) (g.drewN f):=L;clear aa;go_quiet (fail);obtain⟨w2,av⟩:=eX (g.drewN nq);have ap:Fr NoM g w2:=by rw[av];exact HD.o nq
    rw[<-av];have aS:=Hh (ae.o.fr ap id);have F2:=Hh (ap.any (M:=λb=>b=c));clear L O Q R ap av ae;have v:=yf7 B A D;rw[<-a6.o]at v;obtain⟨u1,u2⟩:=B.opts x _ (za7 A);obtain⟨Y,v2⟩:=B.opts y _ (za7 D);obtain⟨_,_,ra,rc,_,p1,_,_,_,_,_,hR⟩:=(t.o w2 F2.o).rd;obtain⟨rb,ro,rv,rfl,r1,s1,i1⟩:=hR x A;have b0:=zb9 (some ⟨rb,ro,none⟩) V.length rc x rb ro A rfl;obtain⟨m,aF⟩:=eX ((za5 V x).2);rw[<-aF]at v u2 s1 i1;have HU:=Hh (λe (h:Fr (λb=>b=c) w2 e)=>show Nats e rv m from s1.fr h (λW b N o=>ao (by rw[<-o];exact i1 W b N)));have b6:m.length<=9223372036854775807:=by obtain⟨ag,aW,_,h1,h2,_⟩:=s1;omega
    obtain⟨ua,uc,rfl,aw⟩:=id s1;obtain⟨ax,aT,aU⟩:=Hhp3 v u2 Y;clear aw v u1 u2 Y v2 s1 i1 aF hR;go_wp2_with fail;clear p1 r1 b0;go_loopw [10,40] (λam S e=>∃(a:Nat) (f':Nat × Nat->Option Bool),am=.bool true/\S=.int .i64 a/\a<=m.length/\(∀d∈m.take a,geV C y d=false)/\MapF encP encB e c f'/\OrdF C f'/\Fr (λb=>b=c) w2 e) (λ_ S _=>m.length-(intOf S).toNat)
    case atStart=>exact⟨0,h,rfl,rfl,yK _,by simp,aS.o,HO.o,Fr.refl _ _⟩
    case round =>
     obtain⟨a,f7,rfl,rfl,hk,a8,aJ,aL,aj⟩:=hrel;obtain⟨T,rfl⟩:=eX wr;have e4:=HU.o T aj;obtain⟨U,aB,aD,F7,aN⟩:=Hhp5 a8 aJ aL (F2.o.trans aj kP) aj;clear a8 aJ aL aj;by_cases ab:a<m.length
     ·obtain⟨d,q⟩:∃d,m[a]?=some d:=⟨_,xQ ab⟩
      have aZ:=aT.o d (xK q);obtain⟨a',c',H,_,_,a9⟩:=e4;cases H
      obtain⟨b3,o3,a7,c3⟩:=a9 a d q;have an:T.cell? ⟨b3,o3+a,none⟩=some (.int .i64 (d:Int)):=c3;have b2:=za9 ua m.length uc a b3 o3 ab a7;have al:=Hh (az.o y d (by omega) D (by omega) f7 T (t.o T F7.o) aB.o aD.o);have a5:=Hh q;clear q a9 a7 c3;go_wp2_with fail;refine al.o.mono ?_
      rintro o l ⟨rfl,f8,ac,ad,J⟩;obtain⟨a2,a4,G,aO⟩:=Hhp4 ac ad (F7.o.trans J kP) (aN.o.trans J kP);clear ac ad J an;obtain⟨gb,K⟩:=eX (geV C y d);rw[<-K];have a1:=Hh K;clear K;cases gb with
      | true =>
       have p:X=false:=by
        cases hc:X with
        | false=>rfl
        | true=>have:=(ax.o.1 hc).1 d (xK a5.o);rw[<-a1.o]at this;cases this
       have s:=Hh p;clear p;obtain⟨O,Q⟩:=HK.o l G.o;obtain⟨_,_,_,_,_,_,R,_⟩:=(t.o l G.o).rd;obtain⟨F,k,z,u⟩:=MapF.store (P:=Tryz.prog) (w:=l.drew) (a2.o.fr ((nW l).drew) id) zmy Tryz.underlying127 (x,y) false;have k:(Instr.mapUpdate 127 (.map (some c)) (.agg #[.int .i64 (x:Int),.int .i64 (y:Int)]) (.bool false)).run Tryz.prog l.drew=.ok () F:=k;have a3:=Hh z;have a0:=Hh u;clear z u;go_upto_region 21 with fail;go_cut []from 67 (λwx=>wx=F)
       case first =>
        go_region_law (fail);all_goals
         go_wp2_with fail;go_meet
         case rel=>rfl
       case rest =>
        subst hcut;clear k O Q R;go_wp2_with fail;go_ret;refine⟨by rw[s.o];rfl,_,a3.o,?_,af.o.trans ((G.o.drew).trans a0.o kP) kP⟩;have j:=OrdF.upd a4.o (x:=x) (y:=y) (by rw[B.len];exact A) (by rw[B.len];exact D);rw[<-a6.o,s.o]at j;exact j
      | false =>
       go_wp2_with fail;go_roundw
       case rel=>exact⟨a+1,f8,rfl,by go_num,by omega,λr' i=>by
        obtain⟨ar,H⟩:=xV.1 a5.o
        rw[yQ ar,y6,x9]at i;rcases i with i|i
        ·exact U.o r' i
        ·rw[i,H];exact a1.o.symm,a2.o,a4.o,aO.o⟩
       case measure=>simp[intOf];omega
     ·have aq:a=m.length:=by omega
      subst aq;have aG:∀d∈m,geV C y d=false:=by have:=U.o;rwa [y7]at this
      have aR:=Hh aG;obtain⟨la,lc,_,_,p0,_,_,_,_,_,hL,_⟩:=(t.o T F7.o).rd;obtain⟨lb,lo,lv,rfl,r2,s2,i2⟩:=hL y D;have b1:=zb9 (some ⟨lb,lo,none⟩) V.length lc y lb lo D rfl;have v:=ax.o;have Y:=aU.o;obtain⟨n,aE⟩:=eX ((za5 V y).1);rw[<-aE]at v Y s2 i2;have HT:=Hh (λe (h:Fr (λb=>b=c) T e)=>show Nats e lv n from s2.fr h (λW b N o=>ao (by rw[<-o];exact i2 W b N)));have b5:n.length<=9223372036854775807:=by obtain⟨ag,aW,_,h1,h2,_⟩:=s2;omega
      obtain⟨ta,tc,rfl,aw⟩:=id s2;have ay:=Hh v;have aV:=Hh Y;clear aw aG U e4 v Y s2 i2 aE hL;go_wp2_with fail;clear p0 r2 b1;go_loopw [10,58] (λam S e=>∃(a:Nat) (f':Nat × Nat->Option Bool),am=.bool true/\S=.int .i64 a/\a<=n.length/\(∀b4∈n.take a,geV C b4 x=false)/\MapF encP encB e c f'/\OrdF C f'/\Fr (λb=>b=c) T e) (λ_ S _=>n.length-(intOf S).toNat)
      case atStart=>exact⟨0,f7,rfl,rfl,yK _,by simp,aB.o,aD.o,Fr.refl _ _⟩
      case round =>
       obtain⟨a,f6,rfl,rfl,hk,a8,aI,aK,ai⟩:=hrel;obtain⟨r,rfl⟩:=eX wr;have e4:=HT.o r ai;obtain⟨U,aA,aC,Z,aP⟩:=Hhp5 a8 aI aK (F7.o.trans ai kP) ai;clear a8 aI aK ai;by_cases ab:a<n.length
       ·obtain⟨d,q⟩:∃d,n[a]?=some d:=⟨_,xQ ab⟩
        have aZ:=aV.o d (xK q);obtain⟨a',c',H,_,_,a9⟩:=e4;cases H
        obtain⟨b3,o3,a7,c3⟩:=a9 a d q;have an:r.cell? ⟨b3,o3+a,none⟩=some (.int .i64 (d:Int)):=c3;have b2:=za9 ta n.length tc a b3 o3 ab a7;have al:=Hh (az.o d x (by omega) (by omega) A f6 r (t.o r Z.o) aA.o aC.o);have a5:=Hh q;clear q a9 a7 c3;go_wp2_with fail;refine al.o.mono ?_
        rintro o l ⟨rfl,f8,ac,ad,J⟩;obtain⟨a2,a4,G,aQ⟩:=Hhp4 ac ad (Z.o.trans J kP) (aP.o.trans J kP);clear ac ad J an;obtain⟨gb,K⟩:=eX (geV C d x);rw[<-K];have a1:=Hh K;clear K;cases gb with
        | true =>
         have p:X=false:=by
          cases hc:X with
          | false=>rfl
          | true=>have:=(ay.o.1 hc).2 d (xK a5.o);rw[<-a1.o]at this;cases this
         have s:=Hh p;clear p;obtain⟨O,Q⟩:=HK.o l G.o;obtain⟨_,_,_,_,_,_,R,_⟩:=(t.o l G.o).rd;obtain⟨F,k,z,u⟩:=MapF.store (P:=Tryz.prog) (w:=l.drew) (a2.o.fr ((nW l).drew) id) zmy Tryz.underlying127 (x,y) false;have k:(Instr.mapUpdate 127 (.map (some c)) (.agg #[.int .i64 (x:Int),.int .i64 (y:Int)]) (.bool false)).run Tryz.prog l.drew=.ok () F:=k;have a3:=Hh z;have a0:=Hh u;clear z u;go_upto_region 21 with fail;go_cut []from 67 (λwx=>wx=F)
         case first =>
          go_region_law (fail);all_goals
           go_wp2_with fail;go_meet
           case rel=>rfl
         case rest =>
          subst hcut;clear k O Q R;go_wp2_with fail;go_ret;refine⟨by rw[s.o];rfl,_,a3.o,?_,af.o.trans ((G.o.drew).trans a0.o kP) kP⟩;have j:=OrdF.upd a4.o (x:=x) (y:=y) (by rw[B.len];exact A) (by rw[B.len];exact D);rw[<-a6.o,s.o]at j;exact j
        | false =>
         go_wp2_with fail;go_roundw
         case rel=>exact⟨a+1,f8,rfl,by go_num,by omega,λr' i=>by
          obtain⟨ar,H⟩:=xV.1 a5.o
          rw[yQ ar,y6,x9]at i;rcases i with i|i
          ·exact U.o r' i
          ·rw[i,H];exact a1.o.symm,a2.o,a4.o,aQ.o⟩
         case measure=>simp[intOf];omega
       ·have aq:a=n.length:=by omega
        subst aq;have p:X=true:=ay.o.2 ⟨aR.o,by have:=U.o;rwa [y7]at this⟩;have s:=Hh p;clear p e4;obtain⟨O,Q⟩:=HK.o r Z.o;obtain⟨_,_,_,_,_,_,R,_⟩:=(t.o r Z.o).rd;obtain⟨F,k,z,u⟩:=MapF.store (P:=Tryz.prog) (w:=r.drew) (aA.o.fr ((nW r).drew) id) zmy Tryz.underlying127 (x,y) true;have k:(Instr.mapUpdate 127 (.map (some c)) (.agg #[.int .i64 (x:Int),.int .i64 (y:Int)]) (.bool true)).run Tryz.prog r.drew=.ok () F:=k;have a3:=Hh z;have a0:=Hh u;clear z u;go_upto_region 21 with fail;go_cut []from 67 (λwx=>wx=F)
        case first =>
         go_region_law (fail);all_goals
          go_wp2_with fail;go_meet
          case rel=>rfl
        case rest =>
         subst hcut;clear k O Q R;go_wp2_with fail;go_ret;refine⟨by rw[s.o];rfl,_,a3.o,?_,af.o.trans ((Z.o.drew).trans a0.o kP) kP⟩;have j:=OrdF.upd aC.o (x:=x) (y:=y) (by rw[B.len];exact A) (by rw[B.len];exact D);rw[<-a6.o,s.o]at j;exact j
theorem zoa {M I:Nat->Prop}{C:List Nat}{V:List PL}{BV:List Nat}(B:BookC V C)(pb d:Nat)(mc ms mn:Value)(S:¬M d)(R:¬I d)(Z:Bool)(g:Nat->Nat->Bool)(hg:g=if Z=true then gR C else gL C)(x y:Nat)(J:Value)(a:List Nat)(f:Nat × Nat->Option Bool)(w:World) (hP:PoolS M I w pb V BV (.map (some d)) mc ms mn) (hf:MapF encP encB w d f) (ho:OrdF C f) (H:x<V.length) (hZ:Nats w J a) (a6:a≠[]->∀e,J.ownBlock=some e->e≠d) (a7:∀b∈a,b<V.length) : Calls Tryz.prog 159 #[.pointer (some ⟨pb,0,none⟩),.int .i64 (x:Int),.int .i64 (y:Int),.bool Z,J] w λk w'=>k=.returned (.int .i64 (thrI (a.find? (g x))))/\∃f',MapF encP encB w' d f'/\OrdF C f'/\Fr (λe=>e=d) w w':=by obtain⟨HL,HP,a1⟩:=Hhp3 (λi (f:Fr (λe=>e=d) w i)=>show Nats i J a from hZ.fr f a6) (λi (f:Fr (λe=>e=d) w i)=>hP.fr f (λe Y k=>S (k ▸ Y)) (λe Y k=>R (k ▸ Y))) (λx y (H:x<V.length) (hy:y<V.length)=>(yf6 B pb d mc ms mn S R (x+y+1) x y (vW _) H hy:GeIs M I C V BV pb d mc ms mn x y));obtain⟨la,lc,rfl,ai,aj,b⟩:=hZ;obtain⟨af,l⟩:=eX (thrI (a.find? (g x)));rw[<-l];obtain⟨ag,HF,HO,Hg,a4,HX⟩:=Hhp6 a7 hf ho hg l H;clear hP hf ho a7 b a6 S R hg l H;go_enter Tryz.func159,Tryz.ntmps159;go_wp2_with fail;go_loopw [15] (λa0 i=>∃(c:Nat) (n:Nat × Nat->Option Bool),a0=.int .i64 c/\c<=a.length/\(a.take c).find? (g x)=none/\MapF encP encB i d n/\OrdF C n/\Fr (λe=>e=d) w i) (λa0 _=>a.length-(intOf a0).toNat);(case atStart=>exact⟨0,f,rfl,yK _,rfl,HF.o,HO.o,Fr.refl _ _⟩);case round =>(obtain⟨c,n,rfl,hk,ab,a8,ac,a9⟩:=hrel;obtain⟨F,rfl⟩:=eX wr;obtain⟨L,O,m,a3⟩:=Hhp4 a8 ac a9 ab;clear a8 ac a9 ab;by_cases X:c<a.length;{obtain⟨b,E⟩:∃b,a[c]?=some b:=⟨_,xQ X⟩;have ad:=ag.o b (xK E);obtain⟨_,_,ee,_,_,U⟩:=HL.o F m.o;cases ee;obtain⟨b1,o1,T,P⟩:=U c b E;have ae:=za9 la a.length lc c b1 o1 X T;unfold encN at P;obtain⟨j,t⟩:=eX (g x b);obtain⟨ah,Q⟩:=xV.1 E;have G:(a.take (c+1)).find? (g x)=if j=true then some b else none:=by{rw[yQ X,Q,List.find?_append,a3.o,Option.none_or,t];cases hb:g x b <;> simp[hb]};have l:j=true->af=(b:Int):=λo=>by{rw[a4.o,<-List.take_append_drop (c+1) a,List.find?_append,G,if_pos o];rfl};(have W:j=false->(a.take (c+1)).find? (g x)=none:=λo=>by rw[G,o];rfl);have a5:=Hh l;have a2:=Hh W;cases Z with| true =>{(have u:j=geV C x b:=by rw[t,Hg.o];rfl);have h:=a1.o x b HX.o ad;unfold GeIs at h;rw[<-u]at h;have K:=Hh h;clear U E T t G l W h u Q;go_wp2_with fail;refine(K.o n F (HP.o F m.o) L.o O.o).mono ?_;rintro k w8 ⟨rfl,s,v,A,z⟩;obtain⟨p,r,q⟩:=Hhp3 v A (m.o.trans z kP);clear v A z P ae;cases j with| true =>{have D:=a5.o rfl;go_wp2_with fail;go_ret;exact⟨by rw[D] <;> rfl,s,p.o,r.o,q.o⟩}| false =>{have N:=Hh (a2.o rfl);go_wp2_with fail;go_roundw;(case rel=>exact⟨c+1,s,by go_num,by omega,N.o,p.o,r.o,q.o⟩);case measure=>simp[intOf];omega}}| false =>{(have u:j=geV C b x:=by rw[t,Hg.o];rfl);have h:=a1.o b x ad HX.o;unfold GeIs at h;rw[<-u]at h;have K:=Hh h;clear U E T t G l W h u Q;go_wp2_with fail;refine(K.o n F (HP.o F m.o) L.o O.o).mono ?_;rintro k w8 ⟨rfl,s,v,A,z⟩;obtain⟨p,r,q⟩:=Hhp3 v A (m.o.trans z kP);clear v A z P ae;cases j with| true =>{have D:=a5.o rfl;go_wp2_with fail;go_ret;exact⟨by rw[D] <;> rfl,s,p.o,r.o,q.o⟩}| false =>{have N:=Hh (a2.o rfl);go_wp2_with fail;go_roundw;(case rel=>exact⟨c+1,s,by go_num,by omega,N.o,p.o,r.o,q.o⟩);case measure=>simp[intOf];omega}}};{(have aa:c=a.length:=by omega);have D:af=-1:=by{have o:=a3.o;rw[aa,y7]at o;rw[a4.o,o];rfl};clear aa;go_wp2_with fail;go_ret;exact⟨by rw[D] <;> rfl,n,L.o,O.o,m.o⟩})
