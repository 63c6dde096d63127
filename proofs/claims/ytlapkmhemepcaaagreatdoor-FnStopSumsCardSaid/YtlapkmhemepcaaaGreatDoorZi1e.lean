import Derived.Test.YtlapkmhemepcaaaGreatDoorShelfG
import Derived.Test.YtlapkmhemepcaaaGreatDoorZi5
import Derived.Test.YtlapkmhemepcaaaGreatDoorZir
/- Lemmas. -/
set_option linter.all false
set_option maxHeartbeats 8000000
set_option maxRecDepth 4000
namespace Go.Proofs.YtlapkmhemepcaaaGreatDoor
open Go.RowKit
def zu9 (a:List Nat)(x:Nat):Option Bool:=if x∈a then some true else none
theorem zp6 (a:List Nat)(x:Nat):upd (zu9 a) x true=zu9 (a ++ [x]):=by funext y;unfold upd zu9;by_cases b:y=x;{subst b;simp};{simp[b]}
theorem yfv (a:Option Addr)(n c k b d:Nat)(f:k<n)(e:a=some ⟨b,d,none⟩)(w:World) : (Instr.indexAt 107 (.slice a n c) (.int .i64 (k:Int))).run Tryz.prog w=.ok (.pointer (some ⟨b,d+k,none⟩)) w:=by subst e;go_simp
theorem ybe (a b:Option Addr)(n c m e:Nat)(d:World):(Instr.index 157 (.agg #[.slice a n c,.slice b m e]) (.int .i64 0)).run Tryz.prog d=.ok (.slice a n c) d:=by simp[Instr.index,asIntOf,run_underlying Tryz.underlying157,part,Tryz.sizeOf100]
theorem ybd (a b:Option Addr)(n c m e:Nat)(d:World):(Instr.index 157 (.agg #[.slice a n c,.slice b m e]) (.int .i64 1)).run Tryz.prog d=.ok (.slice b m e) d:=by simp[Instr.index,asIntOf,run_underlying Tryz.underlying157,part,Tryz.sizeOf100]
structure PInv (V:List PL) (R Q:List Nat):Prop where
 nodup:Q.Nodup
 reach:∀x∈Q,ReachV V R x
theorem PInv.add {V:List PL}{R b:List Nat}{x:Nat}(c:PInv V R b)(h:ReachV V R x)(g:x ∉ b):PInv V R (b ++ [x]) :=
 ⟨List.nodup_append.2 ⟨c.nodup,by simp,λj f k d e=>by simp at d;subst d;subst e;exact g f⟩,λi a=>by
  rw[y4,yQ]at a;rcases a with a|rfl
  ·exact c.reach i a
  ·exact h⟩
theorem PInv.len {V:List PL}{R f:List Nat}(h:PInv V R f)(k:∀a∈R,a<V.length)(j:∀(m:Nat) (c:PL),V[m]?=some c->(∀g∈c.1,g<V.length)/\∀g∈c.2,g<V.length):(∀a∈f,a<V.length)/\f.length<=V.length:=by have l:∀a,ReachV V R a->a<V.length:=λa b=>by{induction b with| root b=>exact k _ b| @left a c _ d e =>{rw[xY,xQ e]at d;exact(j a _ (xQ e)).1 c d}| @right a c _ d e =>{rw[xY,xQ e]at d;exact(j a _ (xQ e)).2 c d}};have i:∀a∈f,a<V.length:=λa b=>l a (h.reach a b);refine⟨i,?_⟩;have:=h.nodup.length_le_of_subset (l₂:=List.range V.length) (λa b=>vW.2 (i a b));simpa using this
structure Seen (w0 w:World) (v:Value) (Q:List Nat):Prop where
 row:w.ownsRow (w0.heap.size+1) 3 1 v Q.length (Q.map encN)
 seen:MapF encN encB w w0.heap.size (zu9 Q)
 fr:Fr NoM w0 w
theorem Seen.look {b w:World}{v:Value}{a:List Nat}(c:Seen b w v a)(x:Nat):(Instr.lookup 156 (.map (some b.heap.size)) (.int .i64 (x:Int)) false).run Tryz.prog w=.ok (.bool (decide (x∈a))) w:=by have:=MapF.look (P:=Tryz.prog) c.seen (KeyAt.nat Tryz.underlying3) Tryz.underlying156 (Tryz.zeroValue4 _) x false;simp only[Bool.false_eq_true,if_false]at this;rw[show(.int .i64 (x:Int):Value)=encN x from rfl,this];unfold zu9;by_cases d:x∈a <;> simp[d,encB]
theorem znx {M I:Nat->Prop}(pb:Nat)(V:List PL)(BV R:List Nat)(mo mc ms mn rv:Value)(w:World)(hP:PoolS M I w pb V BV mo mc ms mn)(hR:Nats w rv R)(aY:∀a∈R,a<V.length)
  (b7:∀(g:Nat) (a6:PL),V[g]?=some a6->(∀m∈a6.1,m<V.length)/\∀m∈a6.2,m<V.length) (bY:R.length<1000000000) (hn:V.length<1000000000) (b5:∀a6∈V,a6.1.length<1000000000/\a6.2.length<1000000000) :
  Calls Tryz.prog 86 #[.pointer (some ⟨pb,0,none⟩),rv] w λe w'=>∃(p q:Nat) (b:List Nat),e=.returned (.slice (some ⟨p,0,none⟩) b.length q)/\w'.ownsRow w.heap.size 3 1 (.slice (some ⟨p,0,none⟩) b.length q) b.length (b.map encN)/\b.Nodup/\(∀a,a∈b↔ReachV V R a)/\Fr NoM w w':=by
 obtain⟨ra,rc,rfl,bW,bX,b9⟩:=id hR;have HP:=Hh hP;have bn:=Hh b9;have aD:=Hh aY;have aG:=Hh b7;have Hn:=Hh hn;have bg:=Hh b5;have bD:∀(aw:TypeId) (w:World),(Instr.makeMap aw none).run Tryz.prog w=.ok (.map (some w.heap.size)) (w.alloc (.map #[] 0)):=λaw w=>run_makeMap aw w
 clear hP hR b9 aY b7 b5;go_enter Tryz.func86,Tryz.ntmps86;go_wp2;obtain⟨w1,an⟩:=eX ((w.alloc (.map #[] 0)).alloc (.cells #[] 3));have bc:Seen w w1 (.slice (some ⟨w.heap.size+1,0,none⟩) 0 0) []:=by
  refine⟨?_,?_,by rw[an];exact((nW w).alloc _).alloc _⟩
  ·have o:=y3 (base:=w.heap.size+1) (e:=3) (size:=1) (w.alloc (.map #[] 0)) #[] 0 (by simp) (by decide) (by simp)
   simp only[xZ]at o;rw[an];exact o
  ·rw[an]
   have o:=(MapF.made encN encB w).fr ((nW _).alloc (.cells #[] 3)) id;rwa [show zu9 []=λ_=>none from funext λa=>by simp[zu9]]
 rw[<-an];have ap:=Hh bc;clear bc an bD;go_loopw [6,18] (λT m i=>∃(c:Nat) (n:Value) (b:List Nat),n=T/\m=.int .i64 c/\c<=R.length/\Seen w i n b/\PInv V R b/\(∃p q,n=.slice (some ⟨p,0,none⟩) b.length q)/\∀a∈R.take c,a∈b) (λ_ m _=>R.length-(intOf m).toNat)
 case atStart=>exact⟨0,_,[],rfl,rfl,yV _,ap.out,⟨by simp,by simp⟩,⟨_,_,rfl⟩,by simp⟩
 case round =>
  obtain⟨c,n,b,rfl,rfl,hk,l,z,⟨p,q,S⟩,A⟩:=hrel;subst S;by_cases af:c<R.length
  ·obtain⟨b1,o1,ha,d1⟩:=bn.out c R[c] (xQ _)
   have c1:wr.cell? ⟨b1,o1+c,none⟩=some (.int .i64 (R[c]:Int)):=l.fr.cell d1 id;have ix:=za8 ra R.length rc c b1 o1 af ha;have ae:=l.look R[c];have ai:ReachV V R R[c]:=.root (y7 _);have ag:∀C:List Nat,(∀a∈b,a∈C)->R[c]∈C->∀a∈R.take (c+1),a∈C:=λC h1 h2 a d=>by
    rw[yX af,y4,yQ]at d;rcases d with d|rfl
    ·exact h1 a (A a d)
    ·exact h2
   have t:=Hh l;have x:=Hh z;have aC:=Hh ai;have a8:=Hh ag;clear l z A ai ag ha d1;by_cases d:R[c]∈b
   ·rw[vX d]at ae
    have F:=Hh d;clear d;go_wp2;go_roundw
    case rel=>exact⟨c+1,_,b,rfl,by go_num,by omega,t.out,x.out,⟨_,_,rfl⟩,a8.out b (λ_ o=>o) F.out⟩
    case measure=>simp[intOf];omega
   ·rw[vY d]at ae
    have F:=Hh d;clear d;obtain⟨aM,aL⟩:=x.out.len aD.out aG.out;obtain⟨w6,Q,O,N⟩:=MapF.store (P:=Tryz.prog) (w:=wr) t.out.seen (KeyAt.nat Tryz.underlying3) Tryz.underlying156 R[c] true;have Q:(Instr.mapUpdate 156 (.map (some w.heap.size)) (.int .i64 (R[c]:Int)) (.bool true)).run Tryz.prog wr=.ok () w6:=Q;rw[zp6]at O;have ah:=za1 t.out.row N (λj v e=>by have:=(t.out.row.lt j v).1;omega);have aB:=Hh O;have aA:=Hh N;have B:=Hh ah;have bt:b.length<1000000000:=by omega
    clear O N ah aM aL;go_wp2_with (at_builtin;refine zch w6 rfl _ _ 100 rfl (w.heap.size+1) 3 (.int .i64 0) 8 Tryz.underlying100 zab rfl (.slice (some ⟨p,0,none⟩) b.length q) b.length (b.map encN) rfl B.out (encN R[c]) rfl rfl ?c1 (by decide) ?c2 ?_)
    case c1=>omega
    case c2=>have:=(B.out.lt p rfl);omega
    intro v7 w7 J H _;obtain⟨g7,p7,al,_,_⟩:=zbg J (Nat.succ_pos _);have aj:Seen w w7 v7 (b ++ [R[c]]):=by
     refine⟨by rw[yZ,vQ];exact J,aB.out.fr H (λe=>by have:=(B.out.lt _ e).1;omega),?_⟩;refine(t.out.fr.trans aA.out (λj v e=>by omega)).trans H (λj v e=>by have:=(B.out.lt j e).1;omega)
    have am:v7=.slice (some ⟨g7,0,none⟩) (b ++ [R[c]]).length p7:=by rw[yZ];exact al
    have aE:=Hh aj;have aF:=Hh am;clear J H aj al am Q;go_wp2;go_roundw
    case rel=>exact⟨c+1,_,b ++ [R[c]],rfl,by go_num,by omega,aE.out,x.out.add aC.out F.out,⟨_,_,aF.out⟩,a8.out _ (λ_ o=>y8 _ o) (by simp)⟩
    case measure=>simp[intOf];omega
  ·have aK:c=R.length:=by omega
   subst aK;rw[y5]at A;have t:=Hh l;have x:=Hh z;have aa:=Hh A;clear l z A hk
   -- what is read of the pool
   obtain⟨lv,rv,bv,fb,U,W,hA,ab,K,_⟩:=HP.out;obtain⟨la,lc,rfl,bT,bU,b4⟩:=SliceOf.of_owns (enc:=encV) (L:=U) hA.left (List.map_id'' (λ_=>rfl) U).symm;obtain⟨ua,uc,rfl,bZ,c0,bd⟩:=SliceOf.of_owns (enc:=encV) (L:=W) hA.right (List.map_id'' (λ_=>rfl) W).symm;have aI:=hA.blk;have aV:=hA.lenL;have aX:=hA.lenR;have HC:=Hh (λi (G:Fr NoM w i)=>show i.cell? ⟨pb,0,none⟩=some (.slice la U.length lc)/\i.cell? ⟨pb,1,none⟩=some (.slice ua W.length uc)from
    ⟨G.cell (by rw[xX w pb 0 _ _ _ aI];rfl) id,G.cell (by rw[xX w pb 1 _ _ _ aI];rfl) id⟩)
   have HO:=Hh (λi (G:Fr NoM w i) (a:Nat) (d:a<V.length)=>show ∃X y va Y ob vb,la=some ⟨X,y,none⟩/\i.cell? ⟨X,y+a,none⟩=some va/\Nats i va V[a].1/\ua=some ⟨Y,ob,none⟩/\i.cell? ⟨Y,ob+a,none⟩=some vb/\Nats i vb V[a].2 from by
    obtain⟨X,y,e1,c1⟩:=b4 a U[a] (xQ _);obtain⟨Y,ob,Z,c2⟩:=bd a W[a] (xQ _);exact⟨X,y,_,Y,ob,_,e1,G.cell c1 id,((ab a U[a] V[a] (xQ _) (xQ _)).1).fr0 G,Z,G.cell c2 id,((K a W[a] V[a] (xQ _) (xQ _)).1).fr0 G⟩)
   have bh:=Hh aV;have bo:=Hh aX;clear hA ab K b4 bd aI aV aX;go_wp2;go_loopw [6,9] (λT m i=>∃(c:Nat) (n:Value) (b:List Nat),n=T/\m=.int .i64 c/\c<=b.length/\Seen w i n b/\PInv V R b/\(∃p q,n=.slice (some ⟨p,0,none⟩) b.length q)/\(∀a∈R,a∈b)/\∀a∈b.take c,(∀h∈(V.getD a ([],[])).1,h∈b)/\∀h∈(V.getD a ([],[])).2,h∈b) (λ_ m _=>V.length-(intOf m).toNat)
   case atStart=>exact⟨0,_,b,rfl,rfl,yV _,t.out,x.out,⟨_,_,rfl⟩,aa.out,by simp⟩
   case round =>
    obtain⟨c,n,b,rfl,rfl,hk,l,z,⟨p,q,S⟩,A,ad⟩:=hrel;subst S;obtain⟨ac,bu⟩:=z.len aD.out aG.out;by_cases af:c<b.length
    ·obtain⟨j,v⟩:=eX (b[c])
     have a5:j<V.length:=by rw[v];exact ac _ (y7 _)
     obtain⟨bw,bx⟩:=HC.out _ l.fr;obtain⟨X,y,va,Y,ob,vb,e1,c1,n1,Z,c2,n2⟩:=HO.out w (Fr.refl _ _) j a5;have c1:=l.fr.cell c1 id;have c2:=l.fr.cell c2 id;have bH:=zdu p b.length q c af;have bG:=yfv la U.length lc j X y (by rw[bh.out];exact a5) e1;have bI:=yfv ua W.length uc j Y ob (by rw[bo.out];exact a5) Z;have cq:wr.cell? ⟨p,c,none⟩=some (.int .i64 (j:Int)):=by
      obtain⟨a',c',e,_,_,o⟩:=SliceOf.of_owns (L:=b) l.row rfl;obtain⟨aq,c5,Z,hc⟩:=o c b[c] (xQ _);subst Z;cases e;rw[v];simpa [encN] using hc
     have aJ:V[j]=V.getD j ([],[]):=by rw[xY,xQ a5];rfl
     rw[aJ]at n1 n2;obtain⟨L1,a0⟩:=eX ((V.getD j ([],[])).1);obtain⟨L2,a3⟩:=eX ((V.getD j ([],[])).2);rw[<-a0]at n1;rw[<-a3]at n2;obtain⟨a1,c3,rfl,bO,bP,bq⟩:=id n1;obtain⟨a2,c4,rfl,bQ,bR,br⟩:=id n2;have t:=Hh l;have x:=Hh z;have aa:=Hh A;have ao:=Hh ad;have bm:=Hh ac;have bK:=Hh bu;have HQ:=Hh v;have bL:=Hh a5;have bi:=Hh n1;have bj:=Hh n2;have ax:=Hh a0;have ay:=Hh a3;have be:=Hh aJ;clear aJ a0 a3 l z A ad ac v e1 Z n1 n2 bq br;go_wp2;go_quiet (fail);obtain⟨bJ,aO⟩:=eX (wr.drewN nq);have b2:Fr NoM wr bJ:=by rw[aO];exact⟨rfl,rfl,rfl,xW _,λ_ _ _=>rfl⟩
     rw[<-aO];have az:=Hh b2;clear b2 aO c1 c2 cq bw bx bH bG bI;go_wp2_with fail;go_loopw [6,60] (λT m i=>∃(s:Nat) (n:Value) (u:List Nat),n=T/\m=.int .i64 s/\s<=2/\Seen w i n u/\PInv V R u/\(∃p q,n=.slice (some ⟨p,0,none⟩) u.length q)/\b <+: u/\(1<=s->∀h∈L1,h∈u)/\(2<=s->∀h∈L2,h∈u)) (λ_ m _=>2-(intOf m).toNat)
     case atStart =>
      have l:=t.out;exact⟨0,_,b,rfl,rfl,by omega,⟨za1 l.row az.out kP,l.seen.fr az.out id,l.fr.trans az.out kP⟩,x.out,⟨_,_,rfl⟩,List.prefix_refl _,λo=>by omega,λo=>by omega⟩
     case round =>
      obtain⟨s,n,u,rfl,rfl,hm,aZ,ab,⟨g1,bN,S⟩,D,a0,a3⟩:=hrel;subst S;have ap:=Hh aZ;have aP:=Hh ab;have aT:=Hh D;have aQ:=Hh a0;have bf:=Hh a3;clear aZ ab D a0 a3;by_cases au:s<2
      ·obtain⟨y,oc,f,bS,ar,bs⟩:∃(y:Option Addr) (oc:Nat) (f:List Nat),(∀i,(Instr.index 157 (.agg #[.slice a1 L1.length c3,.slice a2 L2.length c4]) (.int .i64 (s:Int))).run Tryz.prog i=.ok (.slice y f.length oc) i)/\f=(if s=0 then L1 else L2)/\Nats w (.slice y f.length oc) f:=by
        have bA:s=0\/s=1:=by omega
        rcases bA with rfl|rfl
        ·exact⟨a1,c3,L1,λi=>ybe _ _ _ _ _ _ i,rfl,bi.out⟩
        ·exact⟨a2,c4,L2,λi=>ybd _ _ _ _ _ _ i,rfl,bj.out⟩
       have aN:ReachV V R j:=by rw[HQ.out];exact x.out.reach _ (y7 _)
       have b8:∀h∈f,ReachV V R h:=λh r=>by
        rw[ar]at r;split at r
        ·exact .left aN (by rw[<-ax.out];exact r)
        ·exact .right aN (by rw[<-ay.out];exact r)
       have bV:f.length<1000000000:=by
        have:=bg.out _ (y7 a5);rw[be.out]at this
        rw[ar,ax.out,ay.out];split <;> omega
       obtain⟨na,nc,e,_,_,aW⟩:=bs;cases e
       have aS:=Hh ar;have bl:=Hh b8;have bk:=Hh aW;clear ar b8 aW aN;go_wp2;rw[show decide ((s:Int)<2)=true from by simp;omega];have aR:=Hh au;clear au;go_loopw [6,65] (λT m i=>∃(g:Nat) (n:Value) (k:List Nat),n=T/\m=.int .i64 g/\g<=f.length/\Seen w i n k/\PInv V R k/\(∃p q,n=.slice (some ⟨p,0,none⟩) k.length q)/\u <+: k/\∀h∈f.take g,h∈k) (λ_ m _=>f.length-(intOf m).toNat)
       case atStart=>exact⟨0,_,u,rfl,rfl,yV _,ap.out,aP.out,⟨_,_,rfl⟩,List.prefix_refl _,by simp⟩
       case round =>
        obtain⟨g,n,k,rfl,rfl,hj,a4,K,⟨g2,bp,S⟩,av,ak⟩:=hrel;subst S;by_cases b6:g<f.length
        ·obtain⟨b3,o3,b0,d3⟩:=bk.out g f[g] (xQ _)
         have bM:wr.cell? ⟨b3,o3+g,none⟩=some (.int .i64 (f[g]:Int)):=a4.fr.cell d3 id;have ix:=za8 y f.length oc g b3 o3 b6 b0;have ae:=a4.look f[g];have ai:ReachV V R f[g]:=bl.out _ (y7 _);have ag:∀C:List Nat,(∀a∈k,a∈C)->f[g]∈C->∀a∈f.take (g+1),a∈C:=λC h1 h2 a d=>by
          rw[yX b6,y4,yQ]at d;rcases d with d|rfl
          ·exact h1 a (ak a d)
          ·exact h2
         have E:=Hh a4;have a7:=Hh K;have aC:=Hh ai;have a8:=Hh ag;have a9:=Hh av;clear a4 K ak ai ag b0 d3 av;by_cases d:f[g]∈k
         ·rw[vX d]at ae
          have F:=Hh d;clear d;go_wp2;go_roundw
          case rel=>exact⟨g+1,_,k,rfl,by go_num,by omega,E.out,a7.out,⟨_,_,rfl⟩,a9.out,a8.out k (λ_ o=>o) F.out⟩
          case measure=>simp[intOf];omega
         ·rw[vY d]at ae
          have F:=Hh d;clear d;obtain⟨aM,aL⟩:=a7.out.len aD.out aG.out;obtain⟨w6,Q,O,N⟩:=MapF.store (P:=Tryz.prog) (w:=wr) E.out.seen (KeyAt.nat Tryz.underlying3) Tryz.underlying156 f[g] true;have Q:(Instr.mapUpdate 156 (.map (some w.heap.size)) (.int .i64 (f[g]:Int)) (.bool true)).run Tryz.prog wr=.ok () w6:=Q;rw[zp6]at O;have ah:=za1 E.out.row N (λj v e=>by have:=(E.out.row.lt j v).1;omega);have aB:=Hh O;have aA:=Hh N;have B:=Hh ah;have bt:k.length<1000000000:=by omega
          clear O N ah aM aL;go_wp2_with (at_builtin;refine zch w6 rfl _ _ 100 rfl (w.heap.size+1) 3 (.int .i64 0) 8 Tryz.underlying100 zab rfl (.slice (some ⟨g2,0,none⟩) k.length bp) k.length (k.map encN) rfl B.out (encN f[g]) rfl rfl ?c1 (by decide) ?c2 ?_)
          case c1=>omega
          case c2=>have:=(B.out.lt g2 rfl);omega
          intro v7 w7 J H _;obtain⟨g7,p7,al,_,_⟩:=zbg J (Nat.succ_pos _);have aj:Seen w w7 v7 (k ++ [f[g]]):=by
           refine⟨by rw[yZ,vQ];exact J,aB.out.fr H (λe=>by have:=(B.out.lt _ e).1;omega),?_⟩;refine(E.out.fr.trans aA.out (λj v e=>by omega)).trans H (λj v e=>by have:=(B.out.lt j e).1;omega)
          have am:v7=.slice (some ⟨g7,0,none⟩) (k ++ [f[g]]).length p7:=by rw[yZ];exact al
          have aE:=Hh aj;have aF:=Hh am;clear J H aj al am Q;go_wp2;go_roundw
          case rel=>exact⟨g+1,_,k ++ [f[g]],rfl,by go_num,by omega,aE.out,a7.out.add aC.out F.out,⟨_,_,aF.out⟩,a9.out.trans (List.prefix_append _ _),a8.out _ (λ_ o=>y8 _ o) (by simp)⟩
          case measure=>simp[intOf];omega
        ·have bz:g=f.length:=by omega
         subst bz;rw[y5]at ak;have E:=Hh a4;have a7:=Hh K;have aU:=Hh ak;have a9:=Hh av;clear a4 K ak av;go_wp2;go_roundw
         case rel =>
          have au:=aR.out;have bE:∀h,h∈u->h∈k:=λh r=>a9.out.subset r
          refine⟨s+1,_,k,rfl,by go_num,by omega,E.out,a7.out,⟨_,_,rfl⟩,aT.out.trans a9.out,λ_ h r=>?_,λo h r=>?_⟩
          ·by_cases bB:s=0
           ·exact aU.out h (by rw[aS.out,if_pos bB];exact r)
           ·exact bE h (aQ.out (by omega) h r)
          ·exact aU.out h (by rw[aS.out,if_neg (by omega)];exact r)
         case measure=>have au:=aR.out;simp[intOf];omega
      ·have bC:s=2:=by omega
       subst bC;go_wp2;go_roundw
       case rel =>
        have D:=aT.out;refine⟨c+1,_,u,rfl,by go_num,by have:=D.length_le;omega,ap.out,aP.out,⟨_,_,rfl⟩,λa d=>D.subset (aa.out a d),λa d=>?_⟩;have bF:u.take (c+1)=b.take c ++ [j]:=by
         obtain⟨aw,rfl⟩:=D;rw[List.take_append_of_le_length (by omega),yX af,HQ.out]
        rw[bF,y4,yQ]at d;rcases d with d|rfl
        ·obtain⟨h1,h2⟩:=ao.out a d
         exact⟨λh r=>D.subset (h1 h r),λh r=>D.subset (h2 h r)⟩
        ·exact⟨by rw[<-ax.out];exact aQ.out (by omega),by rw[<-ay.out];exact bf.out (by omega)⟩
       case measure=>simp[intOf];omega
    ·have aK:c=b.length:=by omega
     subst aK;rw[y5]at ad;have t:=Hh l;have x:=Hh z;have aa:=Hh A;have ao:=Hh ad;have bm:=Hh ac;clear l z A ad ac hk;go_wp2;go_ret;refine⟨p,q,b,rfl,zb1 t.out.row (Nat.le_succ _),x.out.nodup,λa=>⟨x.out.reach a,λd=>?_⟩,t.out.fr⟩;induction d with
     | root o=>exact aa.out _ o
     | @left aH aq _ hb ih=>exact(ao.out aH ih).1 aq hb
     | @right aH aq _ hb ih=>exact(ao.out aH ih).2 aq hb
theorem zi6 (x y:Int)(w:World):Calls Tryz.prog 53 #[.int .i64 x,.int .i64 y] w λa b=>a=.returned (.int .i64 (Lib.compareInt x y))/\b=w:=Any.cmp_Compare_int Tryz.layCmp x y w
theorem zi5 (s v:Value)(A B:List Nat)(w:World)(j:Nats w s A)(k:Nats w v B):Calls Tryz.prog 109 #[s,v] w λi n=>i=.returned (.int .i64 (cmpL A B))/\n=w:=by
 obtain⟨I,J,rfl,O,P,j⟩:=j;obtain⟨K,L,rfl,Q,R,k⟩:=k;have F:=Hh j;have G:=Hh k;clear j k;go_enter Tryz.func109,Tryz.ntmps109;go_wp2;go_loopw [11] (λr H=>∃a:Nat,r=.int .i64 a/\a<=A.length/\a<=B.length/\cmpL A B=cmpL (A.drop a) (B.drop a)/\H=w) (λr _=>A.length-(intOf r).toNat)
 case atStart=>exact⟨0,rfl,yV _,yV _,rfl,rfl⟩
 case round =>
  obtain⟨a,rfl,S,T,C,h⟩:=hrel;have o:=Hh C;have f:=Hh h;clear C;by_cases q:a<A.length
  ·obtain⟨t,D,p,x⟩:=F.out a A[a] (xQ _)
   have U:=za8 I A.length J a t D q p;have x:wr.cell? ⟨t,D+a,none⟩=some (.int .i64 (A[a]:Int)):=by rw[h];exact x
   by_cases m:a<B.length
   ·obtain⟨u,E,z,y⟩:=G.out a B[a] (xQ _)
    have V:=za8 K B.length L a u E m z;have y:wr.cell? ⟨u,E+a,none⟩=some (.int .i64 (B[a]:Int)):=by rw[h];exact y
    have b:cmpL A B=if A[a]=B[a]then cmpL (A.drop (a+1)) (B.drop (a+1))else if A[a]<B[a]then -1 else 1:=by
     rw[o.out,uQ q,uQ m];rfl
    clear p z h;by_cases g:A[a]=B[a]
    ·have e:Lib.compareInt (A[a]:Int) (B[a]:Int)=0:=by unfold Lib.compareInt;rw[if_neg (by omega),if_neg (by omega)]
     rw[if_pos g]at b;have c:=Hh b;have N:=Hh g;clear b g;have d:=zi6 (A[a]:Int) (B[a]:Int) wr;rw[e]at d;go_wp2_with fail;refine d.mono ?_
     rintro i n ⟨rfl,rfl⟩;clear d e;go_wp2;go_roundw
     case rel=>exact⟨a+1,by go_num,by omega,by omega,c.out,f.out⟩
     case measure=>simp[intOf];omega
    ·rw[if_neg g]at b
     have d:=zi6 (A[a]:Int) (B[a]:Int) wr;by_cases l:A[a]<B[a]
     ·have e:Lib.compareInt (A[a]:Int) (B[a]:Int)=-1:=by unfold Lib.compareInt;rw[if_pos (by omega)]
      rw[if_pos l]at b;rw[e]at d;have c:=Hh b;clear b g l e;go_wp2_with fail;refine d.mono ?_
      rintro i n ⟨rfl,rfl⟩;clear d;go_wp2;go_ret;exact⟨by rw[c.out];rfl,f.out⟩
     ·have e:Lib.compareInt (A[a]:Int) (B[a]:Int)=1:=by unfold Lib.compareInt;rw[if_neg (by omega),if_pos (by omega)]
      rw[if_neg l]at b;rw[e]at d;have c:=Hh b;clear b g l e;go_wp2_with fail;refine d.mono ?_
      rintro i n ⟨rfl,rfl⟩;clear d;go_wp2;go_ret;exact⟨by rw[c.out];rfl,f.out⟩
   ·have b:cmpL A B=1:=by
     rw[o.out,uQ q,show B.drop a=[]from List.drop_eq_nil_of_le (by omega)];rfl
    have c:=Hh b;clear b p h;go_wp2;go_ret;exact⟨by rw[c.out];rfl,f.out⟩
  ·have M:a=A.length:=by omega
   subst M;have b:=o.out;rw[List.drop_length]at b;clear h;by_cases m:A.length<B.length
   ·rw[uQ m]at b
    have c:=Hh b;clear b;go_wp2;go_ret;exact⟨by rw[c.out];rfl,f.out⟩
   ·rw[List.drop_eq_nil_of_le (by omega)]at b
    have c:=Hh b;clear b;go_wp2;go_ret;exact⟨by rw[c.out];rfl,f.out⟩
def orI (x y:Int):Int:=if x=0 then y else x
theorem yk5 (x y:Int)(b:Nat)(w:World)(l:w.cell? ⟨b,0,none⟩=some (.int .i64 x))(m:w.cell? ⟨b,1,none⟩=some (.int .i64 y)) : Calls Tryz.prog 108 #[.slice (some ⟨b,0,none⟩) 2 2] w λt v=>t=.returned (.int .i64 (orI x y))/\v=w:=by have p:=Hh l;have q:=Hh m;clear l m;go_enter Tryz.func108,Tryz.ntmps108;go_wp2;go_loopw [8] (λj s=>∃c:Nat,j=.int .i64 c/\c<=2/\(1<=c->x=0)/\(2<=c->y=0)/\s=w) (λj _=>2-(intOf j).toNat);(case atStart=>exact⟨0,rfl,by omega,λk=>by omega,λk=>by omega,rfl⟩);case round =>((obtain⟨c,rfl,i,n,o,e⟩:=hrel;have g:=Hh n;have r:=Hh o;have f:=Hh e;clear n o;have u:c=0\/c=1\/c=2:=by omega);rcases u with rfl|rfl|rfl;{(have z:wr.cell? ⟨b,0,none⟩=some (.int .i64 x):=by rw[e];exact p.out);clear e i;by_cases a:x=0;{(have h:(x == 0)=true:=by simpa using a);have d:=Hh a;clear a;go_wp2;go_roundw;(case rel=>exact⟨1,rfl,by omega,λ_=>d.out,λk=>by omega,f.out⟩);case measure=>simp[intOf]};{(have h:(x == 0)=false:=by simpa using a);have d:=Hh a;clear a;go_wp2;go_ret;exact⟨by rw[show orI x y=x from if_neg d.out];rfl,f.out⟩}};{(have A:wr.cell? ⟨b,1,none⟩=some (.int .i64 y):=by rw[e];exact q.out);clear e i;by_cases a:y=0;{(have h:(y == 0)=true:=by simpa using a);have d:=Hh a;clear a;go_wp2;go_roundw;(case rel=>exact⟨2,rfl,by omega,λ_=>g.out (by omega),λ_=>d.out,f.out⟩);case measure=>simp[intOf]};{(have h:(y == 0)=false:=by simpa using a);have d:=Hh a;clear a;go_wp2;go_ret;exact⟨by rw[show orI x y=y from if_pos (g.out (by omega))];rfl,f.out⟩}};{clear e i;go_wp2;go_ret;exact⟨by rw[show orI x y=0 from(if_pos (g.out (by omega))).trans (r.out (by omega))];rfl,f.out⟩})
theorem yf4 (B pb a b:Nat)(BV:List Nat)(l:Value)(c:World)(C:c.cell? ⟨B,0,none⟩=some (.pointer (some ⟨pb,0,none⟩)))(D:c.cell? ⟨pb,2,none⟩=some l)(z:Nats c l BV)(x:a<BV.length)(y:b<BV.length) : Calls Tryz.prog 153 #[.int .i64 (a:Int),.int .i64 (b:Int),.pointer (some ⟨B,0,none⟩)] c λd i=>d=.returned (.int .i64 (Lib.compareInt (BV[a]:Int) (BV[b]:Int)))/\∃h,i=c.drewN h:=by(obtain⟨u,v,rfl,E,F,e⟩:=z;obtain⟨j,s,o,m⟩:=e a BV[a] (xQ _);obtain⟨k,t,p,n⟩:=e b BV[b] (xQ _);have G:=za8 u BV.length v a j s x o;have H:=za8 u BV.length v b k t y p;have m:c.cell? ⟨j,s+a,none⟩=some (.int .i64 (BV[a]:Int)):=m;have n:c.cell? ⟨k,t+b,none⟩=some (.int .i64 (BV[b]:Int)):=n;obtain⟨A,f⟩:=eX (Lib.compareInt (BV[a]:Int) (BV[b]:Int));have r:∀g,Calls Tryz.prog 53 #[encN BV[a],encN BV[b]] (c.drewN g) λd i=>d=.returned (.int .i64 A)/\∃h,i=(c.drewN g).drewN h:=λg=>by rw[f];exact(zi6 _ _ _).mono λ_ _ q=>⟨q.1,0,q.2⟩);have w:=Hh r;rw[<-f];clear e o p r f;go_enter Tryz.func153,Tryz.ntmps153;go_wp2;go_quiet ((go_at_call 53;with_reducible exact Calls.quiet_of (w.out _)));go_wp2;go_ret;exact⟨rfl,_,rfl⟩
def Gr (w c:World):Prop:=∃(b:Nat) (a:Array Obj),c=Go.Sort.grow (w.drewN b) a
theorem Gr.refl (w:World):Gr w w:=⟨0,#[],by simp[World.drewN]⟩
theorem Gr.drew {w a:World}(b:Gr w a):Gr w a.drew:=by obtain⟨d,c,rfl⟩:=b;exact⟨d+1,c,by rw[Go.Sort.drew_grow];congr 1⟩
theorem Gr.alloc {w b:World}(c:Gr w b)(a:Obj):Gr w (b.alloc a):=by obtain⟨e,d,rfl⟩:=c;exact⟨e,d ++ #[a],by rw[Go.Sort.alloc_eq_grow,Go.Sort.grow_grow]⟩
theorem zsb (w:World)(a b:Value)(e:TypeId):(w.alloc (.cells #[a,b] e)).cell? ⟨w.heap.size,0,none⟩=some a/\(w.alloc (.cells #[a,b] e)).cell? ⟨w.heap.size,1,none⟩=some b:=by have c:=xJ w (.cells #[a,b] e);exact⟨by rw[xX _ _ 0 _ _ _ c];rfl,by rw[xX _ _ 1 _ _ _ c];rfl⟩
theorem zni (w:World)(a b c:Value)(e:TypeId):(w.alloc (.cells #[a,b,c] e)).cell? ⟨w.heap.size,1,none⟩=some b/\(w.alloc (.cells #[a,b,c] e)).cell? ⟨w.heap.size,2,none⟩=some c:=by have d:=xJ w (.cells #[a,b,c] e);exact⟨by rw[xX _ _ 1 _ _ _ d];rfl,by rw[xX _ _ 2 _ _ _ d];rfl⟩
theorem yf3 (i j:Nat)(K M L N:Value)(e f g h:List Nat)(a:World)(E:Nats a K e)(F:Nats a M f)(G:Nats a L g)(H:Nats a N h) : Calls Tryz.prog 156 #[.agg #[encN i,K,M],.agg #[encN j,L,N]] a λv T=>v=.returned (.int .i64 (orI (cmpL e g) (cmpL f h)))/\Gr a T:=by(have w:=Hh (λb (c:Fr NoM a b)=>E.fr0 c);have x:=Hh (λb (c:Fr NoM a b)=>F.fr0 c);have y:=Hh (λb (c:Fr NoM a b)=>G.fr0 c);have z:=Hh (λb (c:Fr NoM a b)=>H.fr0 c);obtain⟨l,m,rfl,U⟩:=E;obtain⟨n,o,rfl,V⟩:=F;obtain⟨p,q,rfl,W⟩:=G;obtain⟨r,s,rfl,X⟩:=H;obtain⟨R,A⟩:=eX (cmpL e g);obtain⟨S,B⟩:=eX (cmpL f h);rw[<-A,<-B];have O:=Hh A;have P:=Hh B;clear A B U V W X;go_enter Tryz.func156,Tryz.ntmps156;go_wp2;obtain⟨d,u⟩:=eX (((a.alloc (.cells #[encN i,.slice l e.length m,.slice n f.length o] 172)).alloc (.cells #[encN j,.slice p g.length q,.slice r h.length s] 172)));have I:Gr a d:=by rw[u];exact((Gr.refl a).alloc _).alloc _);(have k:Fr NoM a d:=by rw[u];exact((nW a).alloc _).alloc _);have t:d.cell? ⟨a.heap.size,1,none⟩=some (.slice l e.length m)/\d.cell? ⟨a.heap.size,2,none⟩=some (.slice n f.length o)/\d.cell? ⟨a.heap.size+1,1,none⟩=some (.slice p g.length q)/\d.cell? ⟨a.heap.size+1,2,none⟩=some (.slice r h.length s):=by{have J:=zni a (encN i) (.slice l e.length m) (.slice n f.length o) 172;have C:=zni (a.alloc (.cells #[encN i,.slice l e.length m,.slice n f.length o] 172)) (encN j) (.slice p g.length q) (.slice r h.length s) 172;rw[xZ]at C;rw[u];have k:=(nW (a.alloc (.cells #[encN i,.slice l e.length m,.slice n f.length o] 172))).alloc (.cells #[encN j,.slice p g.length q,.slice r h.length s] 172);exact⟨k.cell J.1 id,k.cell J.2 id,C.1,C.2⟩};rw[<-u];have D:=Hh (λb (c:Fr NoM d b)=>show b.cell? ⟨a.heap.size,1,none⟩=some (.slice l e.length m)/\b.cell? ⟨a.heap.size,2,none⟩=some (.slice n f.length o)/\b.cell? ⟨a.heap.size+1,1,none⟩=some (.slice p g.length q)/\b.cell? ⟨a.heap.size+1,2,none⟩=some (.slice r h.length s)from ⟨c.cell t.1 id,c.cell t.2.1 id,c.cell t.2.2.1 id,c.cell t.2.2.2 id⟩);have w:=Hh (λb (c:Fr NoM d b)=>w.out b (k.trans c kP));have x:=Hh (λb (c:Fr NoM d b)=>x.out b (k.trans c kP));have y:=Hh (λb (c:Fr NoM d b)=>y.out b (k.trans c kP));have z:=Hh (λb (c:Fr NoM d b)=>z.out b (k.trans c kP));clear k t u;have Q:=Hh I;clear I;have Y:Fr NoM d d.drew:=(nW d).drew;go_region_held3 (λ(b:World)=>b.cell? ⟨a.heap.size,1,none⟩=some (.slice l e.length m)/\b.cell? ⟨a.heap.size,2,none⟩=some (.slice n f.length o)/\b.cell? ⟨a.heap.size+1,1,none⟩=some (.slice p g.length q)/\b.cell? ⟨a.heap.size+1,2,none⟩=some (.slice r h.length s)) (first|exact D.out _ (by assumption)|exact D.out _ (Fr.alloc (by assumption) _)) (first| (go_at_call 109;(with_reducible refine(zi5 (.slice l e.length m) (.slice p g.length q) e g _ (w.out _ (by assumption)) (y.out _ (by assumption))).mono ?_);rw[<-O.out];rintro v Z ⟨rfl,rfl⟩)| (go_at_call 109;(with_reducible refine(zi5 (.slice n f.length o) (.slice r h.length s) f h _ (x.out _ (by assumption)) (z.out _ (by assumption))).mono ?_);rw[<-P.out];rintro v w6 ⟨rfl,rfl⟩)| (go_at_call 108;(refine(yk5 R S d.heap.size _ (zsb d.drew _ _ _).1 (zsb d.drew _ _ _).2).mono ?_);rintro v w7 ⟨rfl,rfl⟩)| fail);all_goals(go_wp2;go_ret;exact⟨rfl,((Q.out.drew).alloc _)⟩)
end Go.Proofs.YtlapkmhemepcaaaGreatDoor
namespace Go.Proofs.YtlapkmhemepcaaaGreatDoor
open Go.RowKit Go.Sort
def ecmp (x y:PL):Int:=orI (cmpL x.1 y.1) (cmpL x.2 y.2)
theorem yd9 (x y:PL):decide (ecmp x y<0)=zaq x y:=by unfold ecmp orI zaq;split <;> rfl
theorem yas {g:Type}[Inhabited g](f:g->PL):SWO (ltOf λa b:g=>ecmp (f a) (f b)):=by have j:∀a b:g,ltOf (λa b:g=>ecmp (f a) (f b)) a b=zaq (f a) (f b):=λa b=>yd9 _ _;have m:∀h i:PL,zaq h i=true->zaq i h=false:=λh i=>zeh;refine⟨λa=>?_,λa b l e c=>?_,λa b l e c=>?_⟩;{rw[j];cases d:zaq (f a) (f a)with| false=>rfl| true=>have:=zeh d;rw[d]at this;cases this};{rw[j]at e c ⊢;exact zfx e c};{rw[j]at e c ⊢;cases d:zaq (f a) (f l)with| false=>rfl| true =>{exfalso;cases k:zaq (f b) (f a)with| true=>rw[zfx k d]at c;cases c| false=>rw[zmi e k]at d;rw[d]at c;cases c}}
theorem yef {e:Type}[Inhabited e](f:e->Nat):SWO (ltOf λa b:e=>Lib.compareInt (f a:Int) (f b:Int)):=by have g:∀a b:e,ltOf (λa b:e=>Lib.compareInt (f a:Int) (f b:Int)) a b=decide (f a<f b):=λa b=>by{unfold ltOf;apply decide_eq_decide.2;show Lib.compareInt (f a:Int) (f b:Int)<0↔f a<f b;unfold Lib.compareInt;constructor;{intro h;split at h;{omega};{split at h <;> omega}};{intro h;rw[if_pos (by omega)];omega}};refine⟨λa=>?_,λa b i c d=>?_,λa b i c d=>?_⟩;{rw[g];simp};{rw[g]at c d ⊢;simp at c d ⊢;omega};{rw[g]at c d ⊢;simp at c d ⊢;omega}
theorem zic {c:Type}[Inhabited c]{a b:Array c}(f:PermIn 0 a.size a b):b.toList.Perm a.toList:=by
 obtain⟨h,_,g⟩:=f;have d:a.extract 0 a.size=a:=by simp
 have e:b.extract 0 a.size=b:=by rw[<-h];simp
 rwa [d,e]at g
theorem zep {b:Type}[Inhabited b]{f:b->b->Bool}{a:Array b}(i:SortedIn f 0 a.size a):a.toList.Pairwise λg h=>f h g=false:=by refine List.pairwise_iff_getElem.2 λd e j c k=>?_;have:=i d e (yV _) k (by simpa using c);rw[getElem!_pos a d (by simpa using j),getElem!_pos a e (by simpa using c)]at this;simpa using this
theorem zsd {n:Nat}(c:List Nat)(d:∀a∈c,a<n):∃b:List {a:Nat // a<n},b.map Subtype.val=c:=by induction c with| nil=>exact⟨[],rfl⟩| cons e i h =>{obtain⟨b,f⟩:=h λa g=>d a (uX _ g);exact⟨⟨e,d e (kW ..)⟩::b,by simp[f]⟩}
theorem yb8 {base g cap B pb:Nat}(b BV:List Nat)(l:Value)(w:World)(n:w.ownsRow base 3 1 (.slice (some ⟨g,0,none⟩) b.length cap) b.length (b.map encN))(R:∀a∈b,a<BV.length)(V:0<BV.length)(hl:b.length<1000000000) (L:w.cell? ⟨B,0,none⟩=some (.pointer (some ⟨pb,0,none⟩))) (M:w.cell? ⟨pb,2,none⟩=some l) (S:Nats w l BV) (I:B≠g) (K:pb≠g) (J:∀e,l.ownBlock=some e->e≠g) : Calls Tryz.prog 152 #[.slice (some ⟨g,0,none⟩) b.length cap,.func (.func 153) #[] #[.pointer (some ⟨B,0,none⟩)]] w λs r => s=.returned (.tuple #[])/\∃h:List Nat,h.Perm b/\(h.Pairwise λi j=>BV.getD i 0<=BV.getD j 0)/\r.ownsRow base 3 1 (.slice (some ⟨g,0,none⟩) h.length cap) h.length (h.map encN)/\Fr (λa0=>a0=g) w r:=by obtain⟨d,t⟩:=zsd b R;haveI:Inhabited {a:Nat // a<BV.length}:=⟨⟨0,V⟩⟩;let c:{a:Nat // a<BV.length}->Value:=λa=>encN a.1;let z:{a:Nat // a<BV.length}->{a:Nat // a<BV.length}->Int:=λa f=>Lib.compareInt (BV.getD a.1 0:Int) (BV.getD f.1 0:Int);(have U:d.length=b.length:=by rw[<-t];simp);(have Z:b.map encN=d.toArray.toList.map c:=by rw[<-t,List.map_map];rfl);(have p:d.toArray.size=b.length:=by simpa using U);have Q:=zgs (enc:=c) n d.toArray Z;have C:g<w.heap.size:=(n.lt g rfl).2;have H:∀y w,(callFunc 153 y).run Tryz.prog w=.ok (.enter 153 y) w:=enters_of Tryz.func153 (by kernel_rfl) rfl;have T:CmpLays1 Tryz.prog 153 #[.pointer (some ⟨B,0,none⟩)] c z g 0 d.toArray.size w:=by{intro F q A Y a f;obtain⟨_,u⟩:=zgp (enc:=c) n A (by rw[Y,p]) F q;have o:=yf4 B pb a.1 f.1 BV l (sortWorld c w g 0 F A q) (u.cell L I) (u.cell M K) (S.fr u (λ_ e X=>J e X)) a.2 f.2;refine Calls.mono (P:=Tryz.prog) o ?_;rintro s r ⟨rfl,e,rfl⟩;refine⟨?_,e,#[],by rw[grow_empty]⟩;show _=Ending.returned (.int .i64 (Lib.compareInt (BV.getD a.1 0:Int) (BV.getD f.1 0:Int)));rw[xY,xQ a.2,xY,xQ f.2];rfl};have o:=Any.slices_SortFunc Tryz.laySortI c (λ_=>rfl) z (yef λa:{a:Nat // a<BV.length}=>BV.getD a.1 0) 153 #[.pointer (some ⟨B,0,none⟩)] g 0 cap d.toArray w H T Q C (by omega);rw[p]at o;refine Calls.mono (P:=Tryz.prog) o ?_;(rintro s r ⟨rfl,m,a1,q,v,E,rfl⟩;have x:m.size=b.length:=by rw[v.1,p]);rw[<-p]at v;have D:=(zic v).map Subtype.val;rw[List.toList_toArray,t]at D;rw[<-x]at E;have W:=zep E;obtain⟨N,O⟩:=zgp (enc:=c) n m x a1 q;refine⟨rfl,m.toList.map Subtype.val,D,List.pairwise_map.2 (W.imp λ{i j} k=>?_),?_,O⟩;{unfold ltOf at k;simp only[decide_eq_false_iff_not]at k;show BV.getD i.1 0<=BV.getD j.1 0;have k:¬Lib.compareInt (BV.getD j.1 0:Int) (BV.getD i.1 0:Int)<0:=k;rcases Nat.lt_or_ge (BV.getD j.1 0) (BV.getD i.1 0)with C|hge;{exfalso;apply k;unfold Lib.compareInt;rw[if_pos (by omega)];omega};{exact hge}};{(have G:(m.toList.map Subtype.val).length=b.length:=by simp[x]);rw[G,List.map_map];exact N}
theorem zp1 {w:World}{base:Nat}{e:TypeId}{g n cap s:Nat}{xs:List Value}(d:w.ownsRow base e s (.slice (some ⟨g,0,none⟩) n cap) n xs)(b:Array Value)(j:b.toList=xs):Holds id w g 0 b:=by rcases d.2 with ⟨k,_⟩|⟨p,o,c,m,q,f,u,r,v,l⟩;{cases k};{cases m;(have i:xs.length=n*s:=d.1;intro a h;have t:a<n*s:=by rw[<-j]at i;simp at i;omega);refine⟨?_,by simp[World.frozen?,f]⟩;rw[Nat.zero_add,xX w g a c _ _ f];have:(c.toList.take (n*s))[a]?=some (id b[a]!):=by{rw[l,<-j,Array.getElem?_toList,Array.getElem?_eq_getElem h,getElem!_pos b a h];rfl};rw[List.getElem?_take,if_pos (by omega)]at this;simpa using this}
theorem zmn {w:World}{base:Nat}{e:TypeId}{g n cap s:Nat}{xs:List Value}(k:w.ownsRow base e s (.slice (some ⟨g,0,none⟩) n cap) n xs)(a:Array Value)(t:a.size=n*s)(q:Nat)(c:Array Obj) : (grow (putRow id (Sort.ahead w q) g 0 a) c).ownsRow base e s (.slice (some ⟨g,0,none⟩) n cap) n a.toList/\Fr (λx=>x=g) w (grow (putRow id (Sort.ahead w q) g 0 a) c):=by rcases k.2 with ⟨l,_⟩|⟨z,y,j,v,p,u,f,r,h,B⟩;{cases l};{cases v;(obtain⟨m,o⟩:=zo8 (enc:=id) u a q c;refine⟨⟨by simp[t],.inr ⟨g,cap,_,rfl,p,m,f,r,by simp[putCells,h],?_⟩⟩,o⟩;have A:n*s<=j.size:=by rw[h];exact Nat.mul_le_mul_right _ f);apply List.ext_getElem?;intro b;rw[List.getElem?_take];by_cases d:b<n*s;{rw[if_pos d,Array.getElem?_toList,Array.getElem?_toList,Array.getElem?_eq_getElem (xs:=a) (i:=b) (by omega)];unfold putCells;rw[Array.getElem?_mapIdx,Array.getElem?_eq_getElem (by omega)];simp only[Option.map_some];rw[if_pos ⟨yV _,by omega⟩,Nat.sub_zero,getElem!_pos a b (by omega)];rfl};{rw[if_neg d,Array.getElem?_toList,Array.getElem?_eq_none (by omega)]}}
theorem zod (d e:Nat->Value)(a:Array Nat):(flatK (enc3 d e) 3 a).toList=zhe d e a.toList:=by apply List.ext_getElem?;(intro f;have p:(flatK (enc3 d e) 3 a).size=a.size*3:=by simp[flatK]);by_cases q:f<a.size*3;{obtain⟨b,c,o,rfl⟩:∃b c,c<3/\f=b*3+c:=⟨f/3,f%3,by omega,by omega⟩;(have h:(b*3+c)/3=b:=by omega);(have i:(b*3+c)%3=c:=by omega);(have g:b<a.size:=by omega);(have n:a.toList[b]?=some a[b]! := by rw[Array.getElem?_toList,Array.getElem?_eq_getElem g,getElem!_pos a _ g]);obtain⟨j,k,l⟩:=zti d e a.toList b _ n;have m:(flatK (enc3 d e) 3 a).toList[b*3+c]?=some ((enc3 d e a[b]!)[c]!):=by{rw[Array.getElem?_toList];unfold flatK;rw[Array.getElem?_map,Array.getElem?_range,if_pos q];simp only[Option.map_some,h,i]};rw[m];match c,o with| 0,_=>exact j.symm| 1,_=>exact k.symm| 2,_=>exact l.symm| c+3,r=>omega};{rw[List.getElem?_eq_none (by simp[p];omega),List.getElem?_eq_none (by rw[zth];simp;omega)]}
theorem yb9 {base g cap:Nat}(G:List Nat)(b c:Nat->Value)(f:Nat->PL)(w:World)(n:w.ownsRow base 172 3 (.slice (some ⟨g,0,none⟩) G.length cap) G.length (zhe b c G))(Y:G.length<1000000000) (k:∀d,Nats w (b d) (f d).1/\∀e,(b d).ownBlock=some e->e≠g) (l:∀d,Nats w (c d) (f d).2/\∀e,(c d).ownBlock=some e->e≠g) : Calls Tryz.prog 155 #[.slice (some ⟨g,0,none⟩) G.length cap,.func (.func 156) #[] #[]] w λB y => B=.returned (.tuple #[])/\∃j:List Nat,j.Perm G/\(j.Pairwise λr A=>zaq (f A) (f r)=false)/\y.ownsRow base 172 3 (.slice (some ⟨g,0,none⟩) j.length cap) j.length (zhe b c j)/\Fr (λT=>T=g) w y:=by have p:∀d,(b d).oneCell'=true/\(c d).oneCell'=true:=λd=>by{obtain⟨⟨r,W,t,_⟩,_⟩:=k d;obtain⟨⟨V,X,K,_⟩,_⟩:=l d;rw[t,K];exact⟨rfl,rfl⟩};have D:=zod b c G.toArray;rw[List.toList_toArray]at D;have N:HoldsK (enc3 b c) 3 w g 0 G.toArray:=zp1 n _ D;have R:g<w.heap.size:=(n.lt g rfl).2;have L:∀z w,(callFunc 156 z).run Tryz.prog w=.ok (.enter 156 z) w:=enters_of Tryz.func156 (by kernel_rfl) rfl;have O:CmpLays Tryz.prog 156 #[] (enc3 b c) 3 (λa h=>ecmp (f a) (f h)) g 0 G.toArray.size w:=by{(intro J q s p a h;have Q:(flatK (enc3 b c) 3 s).size=G.length*3:=by simp[flatK,p]);obtain⟨_,o⟩:=zmn n (flatK (enc3 b c) 3 s) Q J q;have v:=yf3 a h (b a) (c a) (b h) (c h) (f a).1 (f a).2 (f h).1 (f h).2 (sortWorldK (enc3 b c) 3 w g 0 J s q) ((k a).1.fr o (λ_ e i=>(k a).2 e i)) ((l a).1.fr o (λ_ e i=>(l a).2 e i)) ((k h).1.fr o (λ_ e i=>(k h).2 e i)) ((l h).1.fr o (λ_ e i=>(l h).2 e i));exact v};have v:=AnyQ.slices_SortFunc Tryz.laySortE 3 (λw=>Tryz.isAgg172 w) (λw=>Tryz.sizeOf172 w) (enc3 b c) (λ_=>rfl) (λa Z I=>by{simp only[enc3,kK,List.not_mem_nil,or_false]at I;rcases I with rfl|rfl|rfl;{rfl};{exact(p a).1};{exact(p a).2}}) (λa h=>ecmp (f a) (f h)) (yas f) 156 #[] g 0 cap G.toArray w L O N R (by simp;omega);refine Calls.mono (P:=Tryz.prog) v ?_;(rintro B y ⟨rfl,m,U,q,E,H,rfl⟩;have x:m.size=G.length:=by rw[E.1];simp);have F:=zic E;rw[List.toList_toArray]at F;rw[List.size_toArray,<-x]at H;have S:=zep H;obtain⟨C,M⟩:=zmn n (flatK (enc3 b c) 3 m) (by simp[flatK,x]) U q;rw[zod]at C;refine⟨rfl,m.toList,F,S.imp λ{r A} u=>?_,?_,M⟩;{unfold ltOf at u;rw[yd9]at u;exact u};{(have t:m.toList.length=G.length:=by simp[x]);rw[t];exact C}
end Go.Proofs.YtlapkmhemepcaaaGreatDoor
namespace Go.Proofs.YtlapkmhemepcaaaGreatDoor
open Go.RowKit
theorem yi8 (b n c k:Nat)(a:k<n)(w:World) : (Instr.indexAt 169 (.slice (some ⟨b,0,none⟩) n c) (.int .i64 (k:Int))).run Tryz.prog w=.ok (.pointer (some ⟨b,k*3,none⟩)) w:=by go_simp
theorem zot (n:Nat)(a:World)(i:n<1000000000):∃b:Array Value,b.size=n*2/\(Instr.makeSlice 24 (.int .i64 0) (.int .i64 (n:Int))).run Tryz.prog a=.ok (.slice (some ⟨a.heap.size,0,none⟩) 0 n) (a.alloc (.cells b 102)):=by obtain⟨h,d,e,f,g⟩:=info_parts zcm;have c:=run_make (P:=Tryz.prog) a 24 102 h _ Tryz.underlying24 d e .i64 .i64 0 n (by omega) (by omega) (by rw[g];omega) (by omega);rw[f,Int.toNat_natCast]at c;exact⟨_,by simp[madeCells],c⟩
structure OutS (V:List PL) (w1:World) (g cap rb:Nat) (Q A:List Nat) (n:Nat) (W:World) (nv:Value):Prop where
 list:W.ownsRow w1.heap.size 3 1 (.slice (some ⟨g,0,none⟩) Q.length cap) Q.length ((A++Q.drop n).map encN)
 rank:MapF encN encN W rb (zmu A)
 nodes:NodesS (rb+1) W nv (A.map λx=>zca A (za4 V x))
 fr:Fr NoM w1 W
theorem Fr.drewN {M:Nat->Prop}{a w:World}(b:Fr M a w)(n:Nat):Fr M a (w.drewN n):=⟨b.os,b.tape,b.output,b.size,b.block⟩
theorem zrd {base g cap n k x:Nat}{xs:List Nat}{w:World}(d:w.ownsRow base 3 1 (.slice (some ⟨g,0,none⟩) n cap) n (xs.map encN))(f:xs[k]?=some x):w.cell? ⟨g,k,none⟩=some (.int .i64 (x:Int)):=by obtain⟨h,j,b,_,_,e⟩:=SliceOf.of_owns d rfl;obtain⟨i,l,c,a⟩:=e k x f;subst c;cases b;simpa [encN] using a
theorem yby {w:World}{base g n cap:Nat}{L:List Nat}(c:w.ownsRow base 3 1 (.slice (some ⟨g,0,none⟩) n cap) n (L.map encN))(k x:Nat)(s:k<n) : (∃p,w.cell? ⟨g,k,none⟩=some p)/\w.frozen? ⟨g,k,none⟩=false/\(w.setCell ⟨g,k,none⟩ (encN x)).ownsRow base 3 1 (.slice (some ⟨g,0,none⟩) n cap) n ((L.set k x).map encN):=by have d:=c.1;rcases c.2 with ⟨f,_⟩|⟨r,q,b,o,i,a,l,j,m,e⟩;{cases f};{cases o;(have h:k<L.length:=by simp at d;omega);refine⟨⟨encN L[k],?_⟩,by simp[World.frozen?,a],by simpa using d,.inr ⟨g,cap,_,rfl,i,heap_set a (encN x),l,j,by simp[m],?_⟩⟩;{rw[xX w g k b _ _ a];(have:(b.toList.take (n*1))[k]?=some (encN L[k]):=by rw[e,vZ,xQ h];rfl);rw[List.getElem?_take,if_pos (by omega)]at this;simpa using this};{rw[Array.toList_setIfInBounds,List.take_set,e,List.map_set]}}
theorem zza {base g cap n j x:Nat}{G:List Nat}{c d:Nat->Value}{w:World}(o:w.ownsRow base 172 3 (.slice (some ⟨g,0,none⟩) n cap) n (zhe c d G))(A:n=G.length)(h:G[j]?=some x) : w.cell? ⟨g,j*3,none⟩=some (.int .i64 (x:Int))/\w.cell? ⟨g,j*3+1,none⟩=some (c x)/\w.cell? ⟨g,j*3+2,none⟩=some (d x):=by rcases o.2 with ⟨p,_⟩|⟨u,t,i,b,v,q,B,y,C,s⟩;{cases p};{cases b;have z:=(xV.1 h).1;obtain⟨k,l,m⟩:=zti c d G j x h;have e:∀a f,a<n*3->(zhe c d G)[a]?=some f->w.cell? ⟨g,a,none⟩=some f:=by{intro a f r b;rw[xX w g a i _ _ q];rw[<-s,List.getElem?_take,if_pos r]at b;simpa using b};exact⟨e _ _ (by omega) k,e _ _ (by omega) l,e _ _ (by omega) m⟩}
theorem zsc {a:List Nat}{n m:Nat}(c:n+m<a.length):(a.drop n).take (m+1)=(a.drop n).take m ++ [a[n+m]]:=by(have b:m<(a.drop n).length:=by simp;omega);rw[yX b,List.getElem_drop]
theorem yfe {a:List Nat}{n m:Nat}(d:a.Nodup)(c:n+m<a.length):a[n+m] ∉ (a.drop n).take m:=by have b:((a.drop n).take (m+1)).Nodup:=(List.take_sublist _ _).nodup ((List.drop_sublist _ _).nodup d);rw[zsc c,List.nodup_append]at b;intro e;exact b.2.2 _ e _ (yQ.2 rfl) rfl
theorem ybz {M I:Nat->Prop}(pb:Nat)(V:List PL)(BV R:List Nat)(mo mc ms mn W:Value)(w:World)(hP:PoolS M I w pb V BV mo mc ms mn)(hR:Nats w W R)(cZ:∀b∈R,b<V.length)(d3:0<V.length)
  (dG:∀(f:Nat) (H:PL),V[f]?=some H->(∀k∈H.1,k<V.length)/\∀k∈H.2,k<V.length) (dL:R.length<1000000000) (hn:V.length<1000000000) (dv:∀H∈V,H.1.length<1000000000/\H.2.length<1000000000)
  (hQ:∀c:List Nat,c.Nodup->(∀b,b∈c↔ReachV V R b)->c.Pairwise (λar a7=>BV.getD ar 0<=BV.getD a7 0)->QOk V BV c) :
  Calls Tryz.prog 112 #[.pointer (some ⟨pb,0,none⟩),W] w λe w'=>∃(U nv:Value) (c:List Nat) (FN:List PL),e=.returned (.tuple #[U,nv])/\OrderIs V BV R c FN/\w'.ownsRow w.heap.size 3 1 U c.length (c.map encN)/\NodesS w.heap.size w' nv FN/\Fr NoM w w':=by
 obtain⟨ra,rc,rfl,z1⟩:=id hR;clear z1;have HP:=Hh hP;have HR:=Hh hR;have cA:=Hh cZ;have bK:=Hh dG;have Hn:=Hh hn;have cr:=Hh dv;have HQ:=Hh hQ;have er:=Hh dL;have eu:=Hh d3;clear hP hR cZ dG dv hQ hn dL d3;go_enter Tryz.func112,Tryz.ntmps112;go_wp2_with fail;obtain⟨Q,bk⟩:=eX (w.alloc (.cells #[.pointer (some ⟨pb,0,none⟩)] 77));have dc:Fr NoM w Q:=by rw[bk];exact(nW w).alloc _
 have cL:Q.heap[w.heap.size]?=some (.cells #[.pointer (some ⟨pb,0,none⟩)] 77 (0,0)):=by rw[bk];exact xJ w _
 rw[<-bk];have a0:=Hh dc;have br:=Hh cL;clear dc cL bk;refine(znx pb V BV R mo mc ms mn (.slice ra R.length rc) Q (HP.out.fr0 a0.out) (HR.out.fr0 a0.out) cA.out bK.out er.out Hn.out cr.out).mono ?_
 rintro e w2 ⟨s,ac,Q0,rfl,y,aQ,dA,f2⟩;have H2:=Hh y;have bD:=Hh aQ;have aG:=Hh dA;have F2:=Hh f2;clear y aQ dA f2;go_wp2_with fail;obtain⟨fB,fC,bv,fb,LS,RS,Z,cV,cW,_⟩:=HP.out;have d6:Nats w bv BV:=SliceOf.of_owns Z.born rfl;have aw:BV.length=V.length:=Z.lenB;have e6:=Hh (λa (hq:bv.ownBlock=some a)=>(Z.born.lt a hq).2);have dH:pb<w.heap.size:=(yJ.1 Z.blk).1;have c6:w.cell? ⟨pb,2,none⟩=some bv:=by rw[xX w pb 2 _ _ _ Z.blk];rfl
 have bT:=(H2.out.lt s rfl).1;have eU:=a0.out.size;have bd:∀b∈Q0,b<BV.length:=λb m=>by
  rw[aw];have hr:=(aG.out b).1 m;clear m;induction hr with
  | root h=>exact cA.out _ h
  | @left b H _ hy ih=>rw[xY,xQ ih]at hy;exact(bK.out b _ (xQ ih)).1 H hy
  | @right b H _ hy ih=>rw[xY,xQ ih]at hy;exact(bK.out b _ (xQ ih)).2 H hy
 have eG:Q0.length<=V.length:=by
  have:=bD.out.length_le_of_subset (l₂:=List.range V.length) (λb m=>vW.2 (by rw[<-aw];exact bd b m));simpa using this
 have cM:w2.cell? ⟨w.heap.size,0,none⟩=some (.pointer (some ⟨pb,0,none⟩)):=F2.out.cell (by rw[xX Q _ 0 _ _ _ br.out];rfl) id;have cN:w.heap.size<Q.heap.size:=(yJ.1 br.out).1;have bS:Fr NoM w w2:=a0.out.trans F2.out kP;refine(yb8 (B:=w.heap.size) (pb:=pb) Q0 BV bv w2 H2.out bd (by rw[aw];exact eu.out) (by have:=Hn.out;omega) cM (bS.cell c6 id) (d6.fr0 bS) (by omega) (by omega) (λa hq=>by have:=e6.out a hq;omega)).mono ?_
 rintro e w3 ⟨rfl,c,ax,dN,h3,f3⟩;have dx:Q0.length=c.length:=ax.length_eq.symm;rw[dx];have hq:=HQ.out c ((ax.nodup_iff).2 bD.out) (λb=>(ax.mem_iff).trans (aG.out b)) dN;have cY:∀b∈c,b<V.length:=λb m=>by rw[<-aw];exact bd b ((ax.mem_iff).1 m)
 have bO:c.length<1000000000:=by have:=Hn.out;omega
 have dB:∀b,b∈c↔ReachV V R b:=λb=>(ax.mem_iff).trans (aG.out b)
 have de:Fr NoM Q w3:=F2.out.trans f3 (λa hq e=>by omega);have ab:=Hh hq;have bG:=Hh cY;have aq:=Hh bO;have aG:=Hh dB;have H3:=Hh h3;have F3:=Hh de;have cl:=Hh bT;have fg:=Hh dH;have e5:=Hh cN;have aZ:=Hh aw;clear cM bS bd eG ax dN dx hq cY dB de h3 f3 bT eU dH cN aw;clear bD H2 F2
 -- what is read of the pool
 obtain⟨la,lc,rfl,fo,fp,du⟩:=SliceOf.of_owns (enc:=encV) (L:=LS) Z.left (List.map_id'' (λ_=>rfl) LS).symm;obtain⟨ua,uc,rfl,ft,fu,dQ⟩:=SliceOf.of_owns (enc:=encV) (L:=RS) Z.right (List.map_id'' (λ_=>rfl) RS).symm;obtain⟨va,vc,rfl,fv,fw,dR⟩:=d6;have HC:=Hh (λg (Y:Fr NoM Q g)=>show g.cell? ⟨w.heap.size,0,none⟩=some (.pointer (some ⟨pb,0,none⟩))/\g.cell? ⟨pb,0,none⟩=some (.slice la LS.length lc)/\g.cell? ⟨pb,1,none⟩=some (.slice ua RS.length uc)/\g.cell? ⟨pb,2,none⟩=some (.slice va BV.length vc)from
  have f0:=a0.out.trans Y kP
  ⟨Y.cell (by rw[xX Q _ 0 _ _ _ br.out];rfl) id,f0.cell (by rw[xX w pb 0 _ _ _ Z.blk];rfl) id,f0.cell (by rw[xX w pb 1 _ _ _ Z.blk];rfl) id,f0.cell c6 id⟩)
 have HO:=Hh (λ(b:Nat) (m:b<V.length)=>show ∃ba oa va bb ob vb,la=some ⟨ba,oa,none⟩/\w.cell? ⟨ba,oa+b,none⟩=some va/\Nats w va (za4 V b).1/\ua=some ⟨bb,ob,none⟩/\w.cell? ⟨bb,ob+b,none⟩=some vb/\Nats w vb (za4 V b).2 from by
  have e3:LS[b]?=some (LS[b]'(by rw[Z.lenL];exact m)):=xQ _
  have e4:RS[b]?=some (RS[b]'(by rw[Z.lenR];exact m)):=xQ _
  obtain⟨ba,oa,S,F⟩:=du b _ e3;obtain⟨bb,ob,e2,G⟩:=dQ b _ e4;have hn:za4 V b=V[b]:=by unfold za4;rw[xY,xQ m];rfl
  rw[hn];exact⟨ba,oa,_,bb,ob,_,S,F,(cV b _ V[b] e3 (xQ _)).1,e2,G,(cW b _ V[b] e4 (xQ _)).1⟩)
 have HV:=Hh dR;have ek:=Hh Z.lenL;have es:=Hh Z.lenR;clear Z cV cW du dQ dR c6;have eN:∀(cf:TypeId) (w:World),(Instr.makeMap cf none).run Tryz.prog w=.ok (.map (some w.heap.size)) (w.alloc (.map #[] 0)):=λcf w=>run_makeMap cf w
 obtain⟨bL,d9,mk⟩:=zot c.length (w3.alloc (.map #[] 0)) bO;have e7:=Hh d9;clear d9 bO;go_wp2_with fail;obtain⟨z,a9⟩:=eX w3.heap.size;obtain⟨w4,aA⟩:=eX ((w3.alloc (.map #[] 0)).alloc (.cells bL 102));have dF:OutS V Q s ac z c [] 0 w4 (.slice (some ⟨z+1,0,none⟩) 0 c.length):=by
  have f4:Fr NoM w3 w4:=by rw[aA];exact((nW w3).alloc _).alloc _
  refine⟨by simpa using za1 H3.out f4 kP,?_,?_,F3.out.trans f4 kP⟩
  ·rw[aA,a9]
   have h:=(MapF.made encN encN w3).fr ((nW _).alloc (.cells bL 102)) id;rwa [show zmu []=λ_=>none from funext λb=>by simp[zmu]]
  ·rw[aA,show z+1=(w3.alloc (.map #[] 0)).heap.size from by rw[a9];simp]
   exact NodesS.made _ _ (by have:=aq.out;omega) bL e7.out
 have dm:s<z/\w.heap.size<s:=by have:=(H3.out.lt s rfl).2;have:=cl.out;have:=e5.out;omega
 rw[<-aA,<-a9];have ep:=Hh dF;have af:=Hh dm;have eq:=Hh (show z<w4.heap.size from by rw[aA,a9];simp;omega);clear dF dm aA a9 mk eN;go_loopw [8,9] (λv0 k g=>∃(i:Nat) (nv:Value) (d:List Nat),nv=v0/\k=.int .i64 i/\GInv V BV c d i/\OutS V Q s ac z c d i g nv/\z<g.heap.size) (λ_ k _=>c.length-(intOf k).toNat)
 case atStart=>exact⟨0,_,[],rfl,rfl,GInv.start V BV c,ep.out,eq.out⟩
 case round =>
  obtain⟨i,nv,d,rfl,rfl,hG,hO,a9⟩:=hrel;have aa:=Hh hG;have a6:=Hh hO;have ai:=Hh a9;clear hG hO a9;by_cases bW:i<c.length
  ·go_wp2_with fail
   obtain⟨w5,bl⟩:=eX (wr.alloc (.cells #[] 172));have bP:=ERow.made wr V d;have df:Fr NoM wr w5:=by rw[bl];exact(nW wr).alloc _
   rw[<-bl]at bP;rw[<-bl];have cj:=Hh bP;have ed:=Hh df;clear bP df bl;have dI:c.getD i 0=c[i]:=by rw[xY,xQ bW];rfl
   obtain⟨H,hy⟩:=eX (c[i]);have cK:d.length=i:=by have:=aa.out.perm.length_eq;simp at this;omega
   have aH:=Hh (show c.getD i 0=H from dI.trans hy.symm);have HY:=Hh hy;have bq:=Hh cK;have aF:=Hh bW;clear dI hy cK;obtain⟨zs,bp⟩:=eX wr.heap.size;rw[<-bp]at cj ⊢;have aj:=Hh bp;clear bp;go_loopw [10,11] (λgv k g=>∃(A u gb gc:Nat) (U W:Nat->Value) (E:List Nat),gv=.slice (some ⟨gb,0,none⟩) u gc/\k=.int .i64 A/\A=i+u/\A<=c.length/\u=E.length/\E=(c.drop i).take u/\(∀b∈E,BV.getD b 0=BV.getD H 0)/\ERow zs g (.slice (some ⟨gb,0,none⟩) u gc) E U W (fG V d E)/\Fr NoM wr g) (λ_ k _=>c.length-(intOf k).toNat)
   case atStart=>exact⟨i,0,_,_,_,_,[],rfl,rfl,by omega,by have:=aF.out;omega,rfl,by simp,by simp,cj.out,ed.out⟩
   case round =>
    obtain⟨w6,rfl⟩:=eX wr;obtain⟨A,u,gb,gc,U,W,E,rfl,rfl,hk,bV,hm,hG,cT,hE,hF⟩:=hrel;have be:Fr NoM Q w6:=a6.out.fr.trans hF kP;obtain⟨c0,F,G,c3⟩:=HC.out w6 be;have a8:=za1 a6.out.list hF kP;have bU:∀f,i<=f->(d++c.drop i)[f]?=c[f]?:=λf hj=>by
     have:=bq.out;rw[kZ (by omega),List.getElem?_drop];congr 1;omega
    have bo:H<V.length:=by rw[HY.out];exact bG.out _ (y7 _)
    have cn:w6.cell? ⟨s,i,none⟩=some (.int .i64 (H:Int)):=zrd a8 (by rw[bU i (xW _),HY.out];exact xQ _);have eZ:=zdu s c.length ac i aF.out;obtain⟨b1,o1,S,d1⟩:=HV.out H (BV.getD H 0) (by rw[xY,xQ (by rw[aZ.out];exact bo)];rfl);have f5:=za8 va BV.length vc H b1 o1 (by rw[aZ.out];exact bo) S;obtain⟨yb,ce⟩:=eX (BV.getD H 0);rw[<-ce]at d1;have cy:w6.cell? ⟨b1,o1+H,none⟩=some (.int .i64 (yb:Int)):=(a0.out.trans be kP).cell d1 id;obtain⟨cb,d7⟩:=eX (decide (A<c.length/\BV.getD (c.getD A 0) 0=yb):Bool);have b0:=Hh d7;have b6:=Hh ce;have X:=Hh hk;have an:=Hh bV;have HM:=Hh hm;have bA:=Hh hG;have bz:=Hh cT;have HE:=Hh hE;have HF:=Hh hF;have bC:=Hh a8;have cm:=Hh bU;have bx:=Hh be;have fk:=Hh bo;clear d7 ce hk bV hm hG cT hE hF a8 bU be bo d1 S;go_upto_region 9 with fail;go_cut [57]from 31 to 57 (λaK wx=>aK=.bool cb/\Fr NoM w6 wx)
    case first =>
     -- <<d
     by_cases j:A<c.length
     ·obtain⟨b,m⟩:=eX (c[A])
      have a3:b<V.length:=by rw[m];exact bG.out _ (y7 _)
      have ck:w6.cell? ⟨s,A,none⟩=some (.int .i64 (b:Int)):=zrd bC.out (by rw[cm.out A (by have:=X.out;omega),m];exact xQ _);have eY:=zdu s c.length ac A j;obtain⟨b2,o2,e2,d2⟩:=HV.out b (BV.getD b 0) (by rw[xY,xQ (by rw[aZ.out];exact a3)];rfl);have fA:=za8 va BV.length vc b b2 o2 (by rw[aZ.out];exact a3) e2;obtain⟨xb,bn⟩:=eX (BV.getD b 0);rw[<-bn]at d2;have cx:w6.cell? ⟨b2,o2+b,none⟩=some (.int .i64 (xb:Int)):=(a0.out.trans bx.out kP).cell d2 id;have ay:c.getD A 0=b:=by rw[m,xY,xQ j];rfl
      have ad:cb=decide (xb=yb):=by rw[b0.out,ay,<-bn];simp[j]
      have hd:decide ((A:Int)<(c.length:Int))=true:=by simp;exact j
      have HX:=Hh m;have ex:=Hh a3;have fj:=Hh bn;have fh:=Hh ay;clear m a3 d2 e2 bn ay;by_cases y:xb=yb
      ·subst y
       rw[vX rfl]at ad;have aC:=Hh ad;clear ad;go_quiet (fail);go_wp2;go_meet
       case rel=>exact⟨congrArg Value.bool aC.out.symm,(nW w6).drewN _⟩
      ·rw[vY y]at ad
       have aC:=Hh ad;clear ad;have h3:((xb:Int) == (yb:Int))=false:=by simp;omega
       have h4:¬(xb:Int)=(yb:Int):=by omega
       clear y;go_quiet (fail);go_wp2;go_meet
       case rel=>exact⟨congrArg Value.bool aC.out.symm,(nW w6).drewN _⟩
     ·have hd:decide ((A:Int)<(c.length:Int))=false:=by simp;omega
      have ad:cb=false:=by rw[b0.out];simp[j]
      have aC:=Hh ad;clear ad;go_quiet (fail);go_wp2;go_meet
      case rel=>exact⟨congrArg Value.bool aC.out.symm,(nW w6).drewN _⟩
     -- d>>
    case rest =>
     obtain⟨rfl,aO⟩:=hcut;obtain⟨T,rfl⟩:=eX wc;clear c0 F G c3 cn eZ f5 cy;have cO:=HE.out.fr aO (λ_ _ _ a=>a);have cQ:=HF.out.trans aO kP;have dh:=bx.out.trans aO kP;have dt:=za1 bC.out aO kP;have x:=Hh cO;have aD:=Hh cQ;have aI:=Hh dh;have ej:=Hh dt;clear cO cQ dh dt aO HE HF bx bC;by_cases hc:A<c.length/\BV.getD (c.getD A 0) 0=yb
     ·-- <<d
      obtain⟨j,y⟩:=hc;have e:cb=true:=by rw[b0.out];exact vX ⟨j,y⟩
      subst e;obtain⟨b,m⟩:=eX (c[A]);have ay:c.getD A 0=b:=by rw[m,xY,xQ j];rfl
      rw[ay]at y;have a3:b∈c:=by rw[m];exact y7 _
      have aB:=bG.out b a3;have ck:T.cell? ⟨s,A,none⟩=some (.int .i64 (b:Int)):=zrd ej.out (by rw[cm.out A (by have:=X.out;omega),m];exact xQ _);have eY:=zdu s c.length ac A j;obtain⟨c0,F,G,_⟩:=HC.out T aI.out;obtain⟨ba,oa,v1,bb,ob,v2,S,d1,C,e2,d2,D⟩:=HO.out b aB;have bM:=a0.out.trans aI.out kP;have cF:=a0.out.cell d1 id;have cG:=a0.out.cell d2 id;clear d1 d2;have fy:=yfv la LS.length lc b ba oa (by rw[ek.out];exact aB) S;have fz:=yfv ua RS.length uc b bb ob (by rw[es.out];exact aB) e2;have bg:=ab.out.group aa.out aF.out a3 (by rw[y,b6.out,aH.out]);have bj:=ab.out.up b a3;obtain⟨p,b7⟩:=eX ((za4 V b).1);obtain⟨q,bc⟩:=eX ((za4 V b).2);have dw:p.length<1000000000/\q.length<1000000000:=by
       have hm:za4 V b∈V:=by unfold za4;rw[xY,xQ aB];exact y7 _
       rw[b7,bc];exact cr.out _ hm
      rw[<-b7]at C bg bj;rw[<-bc]at D bg bj;obtain⟨N,c3,rfl,z1⟩:=id C;obtain⟨O,c4,rfl,z2⟩:=id D;clear z1 z2;have C:=C.fr0 bM;have D:=D.fr0 bM;have HX:=Hh m;have ex:=Hh a3;have fi:=Hh aB;have ef:=Hh y;have ao:=Hh C;have ap:=Hh D;have cp:=Hh bg;have cC:=Hh bj;have eg:=Hh b7;have ei:=Hh bc;have cq:=Hh dw;have aE:=Hh j;have cz:=Hh (λg (Y:Fr NoM T g)=>a6.out.rank.fr (aD.out.trans Y kP) id);have em:=Hh (λg (Y:Fr NoM T g)=>ao.out.fr0 Y);have en:=Hh (λg (Y:Fr NoM T g)=>ap.out.fr0 Y);have cB:=Hh (λg (Y:Fr NoM Q g)=>have aK:=HC.out g Y;(⟨aK.1,aK.2.1,aK.2.2.1,Y.cell cF id,Y.cell cG id⟩:g.cell? ⟨w.heap.size,0,none⟩=some (.pointer (some ⟨pb,0,none⟩))/\g.cell? ⟨pb,0,none⟩=some (.slice la LS.length lc)/\g.cell? ⟨pb,1,none⟩=some (.slice ua RS.length uc)/\g.cell? ⟨ba,oa+b,none⟩=some (.slice N p.length c3)/\g.cell? ⟨bb,ob+b,none⟩=some (.slice O q.length c4)));clear c0 F G cF cG m a3 aB y C D bg bj b7 bc dw S e2 bM ay;go_upto_region 12 with fail;have cU:(c.drop i).take (u+1)=E ++ [b]/\b ∉ E:=by
       have hk:=X.out;subst hk;rw[bA.out,HX.out];exact⟨zsc aE.out,yfe ab.out.nodup aE.out⟩
      have co:=Hh cU;have dZ:=Hh (show(u+1)*56<=140737488355328 by have:=X.out;have:=aE.out;have:=aq.out;omega);have ez:=Hh (show zs<=T.heap.size by rw[aj.out];exact aD.out.size);have F0:Fr NoM T T.drew:=(nW T).drew;have J0:Fr NoM Q T.drew:=aI.out.drew;clear cU;go_region_held3 (λ(g:World)=>g.cell? ⟨w.heap.size,0,none⟩=some (.pointer (some ⟨pb,0,none⟩))/\g.cell? ⟨pb,0,none⟩=some (.slice la LS.length lc)/\g.cell? ⟨pb,1,none⟩=some (.slice ua RS.length uc)/\g.cell? ⟨ba,oa+b,none⟩=some (.slice N p.length c3)/\g.cell? ⟨bb,ob+b,none⟩=some (.slice O q.length c4))
       (first|exact cB.out _ (by assumption)|exact cB.out _ (Fr.alloc (by assumption) _))
       (first
        | (go_at_call 154;(with_reducible refine(znv (.slice N p.length c3) p d z _ (em.out _ (by assumption)) (cz.out _ (by assumption)) cp.out.1 cC.out.1 cq.out.1).mono ?_);rintro e w8 ⟨J,rfl,n8,dS,dn,f8,b8⟩;have F8:Fr NoM T w8:=Fr.trans (by assumption) f8 kP;have J8:Fr NoM Q w8:=aI.out.trans F8 kP)
        | (go_at_call 154;(with_reducible refine(znv (.slice O q.length c4) q d z _ (en.out _ (by assumption)) (cz.out _ (by assumption)) cp.out.2 cC.out.2 cq.out.2).mono ?_);rintro e t ⟨K,rfl,n9,dT,dp,f9,b9⟩;have F9:Fr NoM T t:=Fr.trans (by assumption) f9 kP;have J9:Fr NoM Q t:=aI.out.trans F9 kP)
        | (refine zse rfl (.tmp 64) (.tmp 86) 169 rfl zs 172 _ 3 56 Tryz.underlying169 yct rfl (by decide) (.slice (some ⟨gb,0,none⟩) u gc) u (zhe U W E) rfl (by have h:=za1 x.out.row (F9.alloc (.cells #[.int .i64 (b:Int),.slice (some ⟨J,0,none⟩) p.length p.length,.slice (some ⟨K,0,none⟩) q.length q.length] 172)) kP;rw[<-HM.out]at h;exact h) t.heap.size rfl [encN b,.slice (some ⟨J,0,none⟩) p.length p.length,.slice (some ⟨K,0,none⟩) q.length q.length] 172 (xJ t _) rfl (by intro ak hu;simp at hu;rcases hu with rfl|rfl|rfl <;> rfl) dZ.out (by decide) (by have:=ez.out;have:=F9.size;simp;omega) ?_;intro fD a4 av au aJ;have eA:Fr NoM Q a4:=(J9.alloc _).trans au (λa hq e=>by have j:=(x.out.row.lt a e).1;have y:=a6.out.fr.size;have h3:=aj.out;omega))
        | fail)
      all_goals
       obtain⟨eC,eD,rfl,z3,z4⟩:=zbg av (Nat.succ_pos u);have dV:=Hh av;have ci:=Hh au;have dU:=Hh aJ;have N8:=Hh n8;have N9:=Hh n9;have G8:=Hh f8;have G9:=Hh f9;have K8:=Hh F8;have K9:=Hh F9;have B8:=Hh b8;have B9:=Hh b9;have S8:=Hh (And.intro dS dn);have S9:=Hh (And.intro dT dp);clear av au aJ n8 n9 b8 b9 f8 f9 F8 F9 F0 J0 J8 J9 eA z3 z4 dS dn dT dp;have dJ:=aq.out;go_wp2;go_roundw
       case rel =>
        have az:=x.out.row;have hE:=x.out;rw[HM.out]at hE;have hZ:=aj.out;have fx:=aD.out.size;have s8:=S8.out;have s9:=S9.out;have k8:=K8.out.size;have k9:=K9.out.size;have fl:=G9.out.size;have o8:∀a,(Value.slice (some ⟨J,0,none⟩) p.length p.length).ownBlock=some a->zs<=a/\a<(t.alloc (.cells #[.int .i64 (b:Int),.slice (some ⟨J,0,none⟩) p.length p.length,.slice (some ⟨K,0,none⟩) q.length q.length] 172)).heap.size/\(Value.slice (some ⟨gb,0,none⟩) E.length gc).ownBlock≠some a:=λa hq=>by
         have e:J=a:=yK hq;subst e;have j:T.heap.size<=J:=s8.1;have y:=(az.lt gb rfl).2;exact⟨by omega,by simp;omega,λe=>by have e:gb=J:=yK e;omega⟩
        have o9:∀a,(Value.slice (some ⟨K,0,none⟩) q.length q.length).ownBlock=some a->zs<=a/\a<(t.alloc (.cells #[.int .i64 (b:Int),.slice (some ⟨J,0,none⟩) p.length p.length,.slice (some ⟨K,0,none⟩) q.length q.length] 172)).heap.size/\(Value.slice (some ⟨gb,0,none⟩) E.length gc).ownBlock≠some a:=λa hq=>by
         have e:K=a:=yK hq;subst e;have j:w8.heap.size<=K:=s9.1;have y:=(az.lt gb rfl).2;exact⟨by omega,by simp;omega,λe=>by have e:gb=K:=yK e;omega⟩
        have di:=K9.out.alloc (.cells #[.int .i64 (b:Int),.slice (some ⟨J,0,none⟩) p.length p.length,.slice (some ⟨K,0,none⟩) q.length q.length] 172);refine⟨A+1,u+1,eC,eD,setV U b (.slice (some ⟨J,0,none⟩) p.length p.length),setV W b (.slice (some ⟨K,0,none⟩) q.length q.length),E ++ [b],rfl,by go_num,by have:=X.out;omega,by have:=aE.out;omega,by have:=HM.out;simp;omega,co.out.1.symm,λfc hz=>?_,?_,?_⟩
        ·rcases y4.1 hz with hz|hz
         ·exact bz.out fc hz
         ·rw[yQ]at hz;subst hz;rw[ef.out,b6.out]
        ·have av:=dV.out
         have au:=ci.out;have aJ:=dU.out;rw[HM.out]at av au aJ ⊢;have f6:∀a,(Value.slice (some ⟨J,0,none⟩) p.length p.length).ownBlock=some a->(Value.slice (some ⟨K,0,none⟩) q.length q.length).ownBlock≠some a:=λa hq c7=>by
          have e8:J=a:=yK hq;have e9:K=a:=yK c7;have j:w8.heap.size<=K:=s9.1;have y:J<w8.heap.size:=s8.2;omega
         have f7:∀a,(Value.slice (some ⟨J,0,none⟩) p.length p.length).ownBlock=some a\/(Value.slice (some ⟨K,0,none⟩) q.length q.length).ownBlock=some a->T.heap.size<=a:=λa hq=>by
          rcases hq with hq|hq
          ·have e8:J=a:=yK hq
           have j:T.heap.size<=J:=s8.1;omega
          ·have e9:K=a:=yK hq
           have j:w8.heap.size<=K:=s9.1;omega
         have fa:∀a,(Value.slice (some ⟨J,0,none⟩) p.length p.length).ownBlock=some a\/(Value.slice (some ⟨K,0,none⟩) q.length q.length).ownBlock=some a->RowB (t.alloc (.cells #[.int .i64 (b:Int),.slice (some ⟨J,0,none⟩) p.length p.length,.slice (some ⟨K,0,none⟩) q.length q.length] 172)) a:=λa hq=>by
          rcases hq with hq|hq
          ·have e8:J=a:=yK hq
           subst e8;exact B8.out.fr (G9.out.alloc _) id
          ·have e9:K=a:=yK hq
           subst e9;exact B9.out.fr ((nW t).alloc _) id
         refine hE.snoc co.out.2 di f6 f7 fa ⟨?_,o8⟩ ⟨?_,o9⟩ av au aJ
         ·rw[show(zca d (za4 V b)).1=zg7 d p from by rw[eg.out];rfl]
          exact N8.out.fr0 (G9.out.alloc _)
         ·rw[show(zca d (za4 V b)).2=zg7 d q from by rw[ei.out];rfl]
          exact N9.out.fr0 ((nW t).alloc _)
        ·exact(aD.out.trans di kP).trans ci.out (λa hq e=>by have j:=(az.lt a e).1;omega)
       case measure=>simp[intOf];have:=aE.out;omega
      -- d>>
     ·have e:cb=false:=by rw[b0.out];exact vY hc
      subst e;have dy:0<u:=by
       rcases Nat.eq_zero_or_pos u with h|h
       ·exfalso;apply hc
        have hk:A=i:=by have:=X.out;omega
        rw[hk];exact⟨aF.out,by rw[aH.out,b6.out]⟩
       ·exact h
      have da:i+u=c.length\/BV.getD (c.getD (i+u) 0) 0≠BV.getD (c.getD i 0) 0:=by
       rcases Nat.lt_or_ge (i+u) c.length with h|h
       ·right
        intro e;exact hc ⟨by have:=X.out;omega,by rw[X.out,e,aH.out,b6.out]⟩
       ·left;have:=X.out;have:=an.out;omega
      have cs:=Hh dy;have eb:=Hh da;clear dy da hc;go_wp2_with fail;have hs:=yb9 E U W (fG V d E) T (by have h:=x.out.row;rw[HM.out]at h;exact h) (by have:=HM.out;have:=X.out;have:=an.out;have:=aq.out;omega)
       (λk=>⟨(x.out.left k).1,λa hq e=>((x.out.left k).2 a hq).2.2 (by rw[e];rfl)⟩) (λk=>⟨(x.out.right k).1,λa hq e=>((x.out.right k).2 a hq).2.2 (by rw[e];rfl)⟩)
      rw[<-HM.out]at hs;refine hs.mono ?_
      clear hs;rintro e w8 ⟨rfl,o,hp,dP,h8,f8⟩;have bf:o.length=u:=by rw[hp.length_eq,<-HM.out]
      rw[bf]at h8;have dk:=x.out.row.lt gb rfl;have cP:ERow zs w8 (.slice (some ⟨gb,0,none⟩) u gc) o U W (fG V d E):=by
       refine⟨by rw[bf];exact h8,λk=>⟨(x.out.left k).1.fr f8 (λ_ a hq e=>((x.out.left k).2 a hq).2.2 (by rw[e];rfl)),λa hq=>⟨((x.out.left k).2 a hq).1,vJ ((x.out.left k).2 a hq).2.1 f8.size,((x.out.left k).2 a hq).2.2⟩⟩,
        λk=>⟨(x.out.right k).1.fr f8 (λ_ a hq e=>((x.out.right k).2 a hq).2.2 (by rw[e];rfl)),λa hq=>⟨((x.out.right k).2 a hq).1,vJ ((x.out.right k).2 a hq).2.1 f8.size,((x.out.right k).2 a hq).2.2⟩⟩,(ztx hp).nodup_iff.2 x.out.sep,λk a hq=>(x.out.thaw k a hq).fr f8 (λe=>by
        rcases hq with hq|hq
        ·exact((x.out.left k).2 a hq).2.2 (by rw[e];rfl)
        ·exact((x.out.right k).2 a hq).2.2 (by rw[e];rfl))⟩
      have cR:Fr NoM wr w8:=aD.out.trans f8 (λa hq e=>by have:=aj.out;omega);have dO:o.Pairwise λar a7=>zaq (zca d (za4 V a7)) (zca d (za4 V ar))=false:=dP.imp_of_mem λ{ar a7} ha hb h=>by
       have S:fG V d E ar=zca d (za4 V ar):=if_pos ((hp.mem_iff).1 ha);have e2:fG V d E a7=zca d (za4 V a7):=if_pos ((hp.mem_iff).1 hb);rw[S,e2]at h;exact h
      have dC:=aa.out.step ab.out cs.out (by have:=X.out;have:=an.out;omega) bA.out (λb m=>by rw[aH.out];exact bz.out b m) eb.out hp dO;have cu:=Hh dC;have al:=Hh cP;have ae:=Hh cR;have am:=Hh bf;have cw:=Hh hp;have ee:=Hh dk;clear dC cP cR bf hp dk dO dP h8 f8;go_wp2_with fail;have eE:=a6.out.nodes;obtain⟨cD,bX⟩:=eE;have d4:∀a∈zc6 cD,a<zs:=λa hq=>by have j:=(bX.blk a hq).2.1;have y:=aj.out;omega
      have b4:=Hh bX;have dX:=Hh d4;clear bX d4;go_loopw [8,92] (λv0 k g=>∃(f:Nat) (ag:Value),ag=v0/\k=.int .i64 f/\f<=u/\g.ownsRow Q.heap.size 3 1 (.slice (some ⟨s,0,none⟩) c.length ac) c.length ((d++o.take f++(c.drop i).drop f).map encN)/\MapF encN encN g z (zmu (d++o.take f)) ∧
       (∃NV,NodesN (z+1) g ag ((d.map λb=>zca d (za4 V b))++(o.take f).map λb=>zca d (za4 V b)) NV/\∀a∈zc6 NV,a<zs\/a∈zcn U W (o.take f))/\(∀a,ag.ownBlock=some a->nv.ownBlock=some a\/w8.heap.size<=a)/\Fr (λa=>a=s\/a=z\/nv.ownBlock=some a) w8 g) (λ_ k _=>u-(intOf k).toNat)
      case atStart =>
       refine⟨0,_,rfl,rfl,yV _,?_,?_,?_,λa hq=>.inl hq,Fr.refl _ _⟩
       ·simpa using za1 a6.out.list ae.out kP
       ·simpa using a6.out.rank.fr ae.out id
       ·exact⟨cD,by simpa using b4.out.fr ae.out (λ_ _ _ a=>a),λa hq=>.inl (dX.out a hq)⟩
      case round =>
       obtain⟨t,rfl⟩:=eX wr;obtain⟨f,ag,rfl,rfl,hj,a8,aT,aS,c5,aP⟩:=hrel;by_cases bh:f<u
       ·have fm:f<o.length:=by rw[am.out];exact bh
        obtain⟨b,m⟩:=eX (o[f]);have bm:o[f]?=some b:=by rw[m];exact xQ _
        have eK:=ee.out;have aL:=al.out.fr aP (λa j y e=>by
         have hz:=aj.out;have dl:=af.out;have a9:=ai.out;rcases e with rfl|rfl|e
         ·omega
         ·omega
         ·have:=(b4.out.row.lt a e).2;omega)
        obtain⟨d0,d1,d2⟩:=zza (n:=u) (by have h:=aL.row;rw[am.out]at h;exact h) am.out.symm bm;obtain⟨xl,cc⟩:=eX (U b);obtain⟨xr,cd⟩:=eX (W b);have aM:Nats t (U b) (fG V d E b).1/\∀a,(U b).ownBlock=some a->zs<=a/\a<w8.heap.size:=⟨(aL.left b).1,λa hq=>⟨((al.out.left b).2 a hq).1,((al.out.left b).2 a hq).2.1⟩⟩;have aN:Nats t (W b) (fG V d E b).2/\∀a,(W b).ownBlock=some a->zs<=a/\a<w8.heap.size:=⟨(aL.right b).1,λa hq=>⟨((al.out.right b).2 a hq).1,((al.out.right b).2 a hq).2.1⟩⟩;rw[<-cc]at d1 aM;rw[<-cd]at d2 aN;have dj:fG V d E b=zca d (za4 V b):=if_pos ((cw.out.mem_iff).1 (by rw[m];exact y7 _));rw[dj]at aM aN;obtain⟨N,F,rfl,z1⟩:=id aM.1;obtain⟨O,G,rfl,z2⟩:=id aN.1;clear z1 z2;have eW:=yi8 gb u gc f bh;have HX:=Hh m;have ev:=Hh bm;have bt:=Hh aM;have bu:=Hh aN;have bB:=Hh a8;have bH:=Hh aT;have bF:=Hh aS;have bE:=Hh c5;have ah:=Hh aP;have ea:=Hh aL;have HJ:=Hh hj;have ew:=Hh cc.symm;have ey:=Hh cd.symm;clear m bm cc cd aM aN dj a8 aT aS c5 aP aL eK hj;go_upto_region 17 with fail;obtain⟨C,bY⟩:=eX ((zca d (za4 V b)).1.length);obtain⟨D,bZ⟩:=eX ((zca d (za4 V b)).2.length);rw[<-bY,<-bZ];obtain⟨a4,aV⟩:=eX (t.alloc (.cells #[.int .i64 (b:Int),.slice N C F,.slice O D G] 172));have dd:Fr NoM t a4:=by rw[aV];exact(nW t).alloc _
        have d5:a4.heap[t.heap.size]?=some (.cells #[.int .i64 (b:Int),.slice N C F,.slice O D G] 172 (0,0)):=by rw[aV];exact xJ t _
        rw[<-aV];have eQ:i+f<c.length:=by have:=X.out;have:=an.out;omega
        have dJ:=aq.out;have d8:∀g:World,Fr (λa=>a=s\/a=z) a4 g->g.cell? ⟨t.heap.size,0,none⟩=some (.int .i64 (b:Int))/\g.cell? ⟨t.heap.size,1,none⟩=some (.slice N C F)/\g.cell? ⟨t.heap.size,2,none⟩=some (.slice O D G):=λg Y=>by
         have eO:¬(t.heap.size=s\/t.heap.size=z):=by
          have:=af.out;have:=ai.out;have:=ae.out.size;have:=ah.out.size;omega
         have hb:=Y.heap d5 eO;exact⟨by rw[xX _ _ 0 _ _ _ hb];rfl,by rw[xX _ _ 1 _ _ _ hb];rfl,by rw[xX _ _ 2 _ _ _ hb];rfl⟩
        have bs:=Hh d8;have bw:=Hh dd;have cv:=Hh eQ;have ao:=Hh bY;have ap:=Hh bZ;have fd:=Hh (show a4.heap.size=t.heap.size+1 from by rw[aV];simp);clear d5 aV d8 dd bY bZ d0 d1 d2 eW;obtain⟨⟨u0,eV⟩,eJ,dM⟩:=yby (za1 bB.out bw.out kP) (i+f) b cv.out;have f1:∀g,(Instr.indexAt 100 (.slice (some ⟨s,0,none⟩) c.length ac) (.int .i64 ((i:Int)+(f:Int)))).run Tryz.prog g=.ok (.pointer (some ⟨s,i+f,none⟩)) g:=λg=>zdu s c.length ac (i+f) cv.out g
        obtain⟨e0,_,_⟩:=bs.out a4 (Fr.refl _ _);have et:=Hh dM;clear dM;go_upto_region 18 with fail;obtain⟨aX,aW⟩:=eX (a4.setCell ⟨s,i+f,none⟩ (.int .i64 (b:Int)));have bQ:Fr (λa=>a=s\/a=z) a4 aX:=by rw[aW];exact Fr.setCell (Fr.refl _ a4) _ _ (λ_=>.inl rfl)
        have dr:aX.ownsRow Q.heap.size 3 1 (.slice (some ⟨s,0,none⟩) c.length ac) c.length (((d++o.take f++(c.drop i).drop f).set (i+f) b).map encN):=by rw[aW];exact et.out
        have dK:MapF encN encN aX z (zmu (d++o.take f)):=by
         rw[aW];exact(bH.out.fr bw.out id).fr (Fr.setCell (Fr.refl (λa=>a=s) a4) _ _ (λ_=>rfl)) (by have:=af.out;omega)
        rw[<-aW];obtain⟨a5,c8,dz,bR⟩:=MapF.store (P:=Tryz.prog) dK (KeyAt.nat Tryz.underlying3) Tryz.underlying110 b (i+f);have c8:(Instr.mapUpdate 110 (.map (some z)) (.int .i64 (b:Int)) (.int .i64 ((i:Int)+(f:Int)))).run Tryz.prog aX=.ok () a5:=c8;have bN:Fr (λa=>a=s\/a=z) a4 a5:=bQ.trans bR (λa _ e=>.inr e);have ds:=za1 dr bR (λa hq e=>by have j:s=a:=yK hq;have e:a=z:=e;have:=af.out;omega);obtain⟨S,_,_⟩:=bs.out aX bQ;obtain⟨_,e2,e3⟩:=bs.out a5 bN;have ec:=Hh bN;have eh:=Hh ds;have el:=Hh dz;clear bQ dr dK aW bR bN ds dz eV eJ f1 e0;obtain⟨NV,hN,cX⟩:=bF.out;have az:=hN.row;have aR:=hN.len;have b5:=Hh az;have fe:=Hh aR;have eo:=Hh hN;have ct:=Hh cX;have dE:NV.length=i+f:=by
         have j:=bq.out;have y:=am.out;rw[aR];simp;omega
        have ff:=Hh dE;have dY:=Hh (show(NV.length+1)*48<=140737488355328 by omega);have cS:Fr (λa=>a=s\/a=z) t a5:=((bw.out.mono (λ_ _ a=>a.elim)).trans ec.out kP);have b3:=Hh cS;clear az aR hN cX dE cS;go_wp2_with (at_builtin;refine zah rfl _ _ 24 rfl (z+1) 102 _ 2 48 Tryz.underlying24 zcm rfl (by decide) ag NV.length (zav NV) rfl (by exact za1 b5.out (b3.out.alloc _) (λa hq e=>by have j:=(b5.out.lt a hq).1;have:=af.out;rcases e with e|e <;> omega)) a5.heap.size rfl [.slice N C F,.slice O D G] 102 (xJ a5 _) rfl (by intro ak hu;simp at hu;rcases hu with rfl|rfl <;> rfl) dY.out (by decide) (by have:=ai.out;have:=ae.out.size;have:=ah.out.size;have:=b3.out.size;simp;omega) ?_);intro cg fE cI cH cE;have dW:=Hh cI;have aY:=Hh cH;have ch:=Hh cE;clear cI cH cE c8 S e2 e3;go_wp2;go_roundw
        case rel =>
         have dl:=af.out;have bp:=aj.out;have fq:=ae.out.size;have eT:=ah.out.size;have aU:Fr (λa=>a=s\/a=z) t (a5.alloc (.cells #[.slice N C F,.slice O D G] 102)):=b3.out.alloc _;have eF:=eo.out.fr aU (λa j _ e=>by rcases e with e|e <;> omega);have db:∀(ak:Value) (L:List Nat),(Nats t ak L/\∀a,ak.ownBlock=some a->zs<=a/\a<w8.heap.size)->Nats (a5.alloc (.cells #[.slice N C F,.slice O D G] 102)) ak L/\∀a,ak.ownBlock=some a->z+1<=a/\a<(a5.alloc (.cells #[.slice N C F,.slice O D G] 102)).heap.size/\ag.ownBlock≠some a:=λak L ⟨j,y⟩ =>
          ⟨j.fr aU (λ_ a hq e=>by have:=(y a hq).1;have:=ai.out;rcases e with e|e <;> omega),λa hq=>by
           obtain⟨h3,h4⟩:=y a hq;have h5:=aU.size;have h6:=ai.out;refine⟨by omega,by omega,λe=>?_⟩;rcases bE.out a e with h|h
           ·have:=(b4.out.row.lt a h).2
            omega
           ·omega⟩
         have bm:=ev.out;have dq:f<o.length:=by rw[am.out];exact bh
         have bi:o.take (f+1)=o.take f ++ [b]:=by rw[yX dq,HX.out]
         have cJ:(d++o.take f).length=i+f:=by have:=bq.out;simp;omega
         have eS:b ∉ d++o.take f:=by
          have aQ:(d++o).Nodup:=(cu.out.perm.nodup_iff).2 ((List.take_sublist _ _).nodup ab.out.nodup);rw[show d++o=(d++o.take f)++o.drop f from by rw[List.append_assoc,List.take_append_drop],uQ dq,<-HX.out,List.nodup_append]at aQ;intro h;exact aQ.2.2 b h b (kW ..) rfl
         refine⟨f+1,cg,rfl,by go_num,by omega,?_,?_,?_,λa hq=>?_,?_⟩
         ·have j:=za1 (eh.out.alloc (.cells #[.slice N C F,.slice O D G] 102)) aY.out (λa hq e=>by
           have S:s=a:=yK hq;have:=(b5.out.lt a e).1;omega)
          have S:(d++o.take f++(c.drop i).drop f).set (i+f) b=d++o.take (f+1)++(c.drop i).drop (f+1):=by
           have eL:f<(c.drop i).length:=by simp;omega
           rw[uQ eL,List.set_append_right _ _ (by omega),cJ,Nat.sub_self,List.set_cons_zero,bi];simp
          rw[S]at j;exact j
         ·have j:=(el.out.fr ((nW a5).alloc (.cells #[.slice N C F,.slice O D G] 102)) id).fr aY.out (λe=>by
           have:=(b5.out.lt z e).1;omega)
          rw[show i+f=(d++o.take f).length from cJ.symm,zz5 _ _ eS,List.append_assoc,<-bi]at j;exact j
         ·rw[bi,vQ,List.map_cons,List.map_nil,<-List.append_assoc]
          have eI:cg.ownBlock=ag.ownBlock\/∃a7,cg.ownBlock=some a7/\(a5.alloc (.cells #[.slice N C F,.slice O D G] 102)).heap.size<=a7:=by
           rw[xZ];exact ch.out
          have bI:=Hh (show U b=.slice N C F from by rw[ao.out];exact ew.out);have bJ:=Hh (show W b=.slice O D G from by rw[ap.out];exact ey.out);have c9:(zcn U W (o.take f ++ [b])).Nodup:=by
           have j:=al.out.sep;rw[<-List.take_append_drop (f+1) o,bi,zec,List.nodup_append]at j;exact j.1
          rw[zec,zis,List.nodup_append,bI.out,bJ.out]at c9;refine⟨_,NodesN.snoc (w:=a5.alloc (.cells #[.slice N C F,.slice O D G] 102)) (l:=.slice N C F) (r:=.slice O D G) (v:=ag) eF ?_ ?_ ?_ ?_ ?_ dW.out aY.out eI,?_⟩
          ·have he:=db _ _ bt.out;rw[<-ao.out]at he;exact he
          ·have he:=db _ _ bu.out;rw[<-ap.out]at he;exact he
          ·intro a hq c7
           have j:=c9.2.1;simp[List.filterMap_cons,hq,c7]at j
          ·intro a hq
           have dD:a ∉ [Value.slice N C F,Value.slice O D G].filterMap Value.ownBlock:=λhp=>by
            rcases ct.out a hq with h|h
            ·rcases zhx hp with hp|hp
             ·have:=(bt.out.2 a (by rw[<-ao.out];exact hp)).1;omega
             ·have:=(bu.out.2 a (by rw[<-ap.out];exact hp)).1;omega
            ·exact c9.2.2 a h a hp rfl
           exact⟨λe=>dD (List.mem_filterMap.2 ⟨_,kW ..,e⟩),λe=>dD (List.mem_filterMap.2 ⟨_,uX _ (kW ..),e⟩)⟩
          ·intro a hq
           have j:=ea.out.thaw b a (by rw[bI.out,bJ.out];exact hq);refine j.fr aU (λe=>?_);have y:zs<=a:=by
            rcases hq with hq|hq
            ·exact(bt.out.2 a (by rw[<-ao.out];exact hq)).1
            ·exact(bu.out.2 a (by rw[<-ap.out];exact hq)).1
           have:=ai.out;rcases e with e|e <;> omega
          ·intro a hq
           rw[zey,y4]at hq;rw[zec,zis,bI.out,bJ.out];rcases hq with hq|hq
           ·rcases ct.out a hq with h|h
            ·exact .inl h
            ·exact .inr (y8 _ h)
           ·exact .inr (List.mem_append_right _ hq)
         ·rcases ch.out with h|⟨a7,h,y⟩
          ·rw[h]at hq;exact bE.out a hq
          ·rw[h]at hq;cases hq
           right
           have:=b3.out.size;omega
         ·refine(ah.out.trans aU (λa _ e=>?_)).trans aY.out (λa hq e=>?_)
          ·rcases e with e|e
           ·exact .inl e
           ·exact .inr (.inl e)
          ·rcases bE.out a e with h|h
           ·exact .inr (.inr h)
           ·omega
        case measure=>simp[intOf];omega
       ·have eM:f=u:=by omega
        subst eM;rw[show o.take f=o from by rw[<-am.out,y5]]at a8 aT aS;rw[List.drop_drop]at a8;have bB:=Hh a8;have bH:=Hh aT;have bF:=Hh aS;have ah:=Hh aP;clear a8 aT aS c5 aP bh hj;have fn:=X.out;have bV:=an.out;have dJ:=aq.out;clear X an;go_wp2;go_roundw
        case rel =>
         have dl:=af.out;have fs:=ae.out.size;have eT:=ah.out.size;have a9:=ai.out;have bT:=cl.out;refine⟨i+f,_,d++o,rfl,by go_num,cu.out,⟨bB.out,bH.out,?_,?_⟩,by omega⟩
         ·have hn:=bF.out
          rw[vQ];have S:(d.map λb=>zca (d++o) (za4 V b))=d.map λb=>zca d (za4 V b):=kV λb m=>zd9 (ab.out.closed aa.out m).1 (ab.out.closed aa.out m).2
          have e2:(o.map λb=>zca (d++o) (za4 V b))=o.map λb=>zca d (za4 V b):=kV λb m=>by
           have ca:=(cw.out.mem_iff).1 m;have a3:b∈c:=by rw[bA.out]at ca;exact List.mem_of_mem_drop (List.mem_of_mem_take ca)
           have hg:=ab.out.group aa.out aF.out a3 (by rw[aH.out];exact bz.out b ca);exact zd9 hg.1 hg.2
          rw[S,e2];obtain⟨eB,eP,_⟩:=hn;exact⟨eB,eP⟩
         ·refine(a6.out.fr.trans ae.out kP).trans ah.out (λa hq e=>?_)
          rcases e with e|e|e
          ·omega
          ·omega
          ·have:=(b4.out.row.lt a e).1
           omega
        case measure=>simp[intOf];have:=cs.out;omega
  ·have aR:=aa.out.le
   have eR:i=c.length:=by omega
   subst eR;clear bW aR;go_wp2;go_ret2;have hl:=a6.out.list;have eH:d.length=c.length:=by have:=aa.out.perm.length_eq;simpa using this
   rw[List.drop_length,List.append_nil]at hl;refine⟨_,_,d,_,rfl,aa.out.order ab.out.nodup aG.out,?_,a6.out.nodes.base (by have:=af.out;omega),a0.out.trans a6.out.fr kP⟩;rw[eH];exact zb1 hl a0.out.size
def PostF (V:List PL)(BV:List Nat)(r:Nat)(w:World)(e:Ending)(c:World):Prop :=
 ∃(b:Value) (ok:Bool) (a:List PL),e=.returned (.tuple #[.agg #[b],.bool ok])/\FormRes V BV r ok a/\NodesS w.heap.size c b a/\Fr NoM w c
theorem PostF.mk {V:List PL}{BV:List Nat}{r:Nat}{w:World}{e:Ending}{b:World}(a:Value)(ok:Bool)(FN:List PL)(c:e=.returned (.tuple #[.agg #[a],.bool ok]))(d:FormRes V BV r ok FN)(f:NodesS w.heap.size b a FN)(g:Fr NoM w b):PostF V BV r w e b:=⟨a,ok,FN,c,d,f,g⟩
theorem zz7 {M I:Nat->Prop}(pb r:Nat)(V:List PL)(BV:List Nat)(mo mc ms mn:Value)(w:World)(hP:PoolS M I w pb V BV mo mc ms mn)(aj:PoolOK V BV)(hr:r<V.length)(hn:V.length<1000000000) :
  Calls Tryz.prog 57 #[.pointer (some ⟨pb,0,none⟩),.int .i64 (r:Int)] w λg w'=>PostF V BV r w g w':=by
 have aC:∀i∈[r],i<V.length:=λi j=>by rw[yQ]at j;subst j;exact hr
 have HP:=Hh hP;have K:=Hh aj;have Hr:=Hh hr;have O:=Hh hn;have a2:=Hh aC;clear hP aj hr hn aC;go_enter Tryz.func57,Tryz.ntmps57;go_wp2_with fail;obtain⟨u,L⟩:=eX ((w.alloc (.cells #[.slice none 0 0] 26)).alloc (.cells #[.int .i64 (r:Int)] 3));have ao:Fr NoM w u:=by rw[L];exact((nW w).alloc _).alloc _
 have am:u.heap[w.heap.size]?=some (.cells #[.slice none 0 0] 26 (0,0)):=by
  rw[L];exact((nW (w.alloc (.cells #[.slice none 0 0] 26))).alloc _).heap (xJ w _) id
 have D:Nats u (.slice (some ⟨w.heap.size+1,0,none⟩) 1 1) [r]:=by
  have e:=SliceOf.one encN (w.alloc (.cells #[.slice none 0 0] 26)) r 3;rw[xZ]at e;rw[L];exact e
 rw[<-L];have y:=Hh ao;have ab:=Hh am;have aE:=Hh D;clear ao am D L;refine(znx pb V BV [r] mo mc ms mn _ u (HP.out.fr0 y.out) aE.out a2.out (λa b f=>K.out.opts' a b f) (by simp) O.out (K.out.lens O.out)).mono ?_
 rintro g G ⟨aO,aN,Q0,rfl,m,az,ax,f2⟩;have HK:=Hh (λd (A:Fr NoM u d)=>show d.cell? ⟨w.heap.size,0,none⟩=some (.slice none 0 0)/\d.frozen? ⟨w.heap.size,0,none⟩=false from by
  have hb:=A.heap ab.out id;exact⟨by rw[xX d _ 0 _ _ _ hb];rfl,by simp[World.frozen?,hb]⟩)
 obtain⟨n0,a5⟩:=eX Q0.length;rw[<-a5];have ah:=Hh az;have a0:=Hh ax;have X:=Hh f2;have ae:=Hh a5;clear m az ax f2 a5;by_cases aL:120<n0
 ·obtain⟨k2,z2⟩:=HK.out G X.out
  go_wp2;refine yY (v:=.tuple #[.agg #[.slice none 0 0],.bool false]) (by simp[results,Tryz.results57,go_sem,k2]) rfl ?_
  exact PostF.mk _ false [] rfl (.inl ⟨rfl,rfl,Q0,ah.out,a0.out,by rw[<-ae.out];exact aL⟩) (NodesS.nil _ _) ((y.out.trans X.out kP).setCell ⟨w.heap.size,0,none⟩ _ (λe=>absurd e (Nat.lt_irrefl _)))
 ·go_wp2_with fail
  obtain⟨N,T⟩:=eX (G.alloc (.cells #[.int .i64 (r:Int)] 3));have ap:Fr NoM G N:=by rw[T];exact(nW G).alloc _
  have ay:Nats N (.slice (some ⟨G.heap.size,0,none⟩) 1 1) [r]:=by rw[T];exact SliceOf.one encN G r 3
  rw[<-T];have Y:=Hh (X.out.trans ap kP);have aF:=Hh ay;clear ap ay T;have an:=y.out.trans Y.out kP;refine(ybz pb V BV [r] mo mc ms mn _ N (HP.out.fr0 an) aF.out a2.out (by have:=Hr.out;omega) (λa b f=>K.out.opts' a b f) (by simp) O.out (K.out.lens O.out) (λz B m h3=>K.out.qok a2.out B m h3)).mono ?_
  clear an;rintro g W ⟨lv,nv,z,c,rfl,t,aK,hS,f4⟩;have aB:z.length=n0:=by
   rw[ae.out];exact Nat.le_antisymm (t.nodup.length_le_of_subset λi j=>(a0.out i).2 ((t.mem i).1 j)) (ah.out.length_le_of_subset λi j=>(t.mem i).2 ((a0.out i).1 j))
  have au:c.length=z.length:=by rw[t.nodes];simp
  have aA:1<=z.length:=List.length_pos_of_mem ((t.mem r).2 (.root (by simp)));obtain⟨NV,C⟩:=hS;obtain⟨P,Q,rfl,_,_,h6⟩:=Pairs.of_owns C.row;have a7:=C.len;rw[a7]at C ⊢;have aI:=Hh (λ(a:Nat) (hj:a<c.length) (d:World) (A:Fr NoM W d)=>show ∃l n o q p s b,c[a]?=some b/\P=some ⟨l,n,none⟩/\d.cell? ⟨l,n+a*2,none⟩=some (.slice o b.1.length q)/\d.cell? ⟨l,n+a*2+1,none⟩=some (.slice p b.2.length s)from by
   obtain⟨b,f⟩:∃b,c[a]?=some b:=⟨_,xQ hj⟩;obtain⟨⟨xl,xr⟩,j⟩:∃i,NV[a]?=some i:=⟨NV[a]'(by rw[a7];exact hj),xQ _⟩;obtain⟨l,n,ha,R,S⟩:=h6 a _ j;obtain⟨s1,s2⟩:=C.nats a _ _ j f;obtain⟨o,q,rfl,_⟩:=s1;obtain⟨p,s,rfl,_⟩:=s2;exact⟨l,n,o,q,p,s,b,f,ha,A.cell R id,A.cell S id⟩)
  have HO:=Hh t;have HN:=Hh C;have F4:=Hh f4;have a1:=Hh aB;have ad:=Hh au;have aH:=Hh aA;have aJ:=Hh (show w.heap.size+1<=N.heap.size from by
   have B:=Y.out.size;have m:w.heap.size<u.heap.size:=(yJ.1 ab.out).1;omega)
  have ai:Fr NoM u W:=Y.out.trans f4 kP;have J:=Hh ai;have aP:c.length<1000000000:=by omega
  clear t aK C f4 aB au aA h6 a7 ai;go_wp2_with fail;go_loopw [26] (λa8 d=>∃a:Nat,a8=.int .i64 a/\a<=c.length/\(∀(h:Nat) (b:PL),h<a->c[h]?=some b->b.1.length<=24/\b.2.length<=24)/\Fr NoM W d) (λa8 _=>c.length-(intOf a8).toNat)
  case atStart=>exact⟨0,rfl,yV _,by intros;omega,Fr.refl _ _⟩
  case round =>
   obtain⟨a,rfl,hj,ak,hf⟩:=hrel;obtain⟨k,rfl⟩:=eX wr;have aa:=Hh ak;have H:=Hh hf;clear ak hf;by_cases aw:a<c.length
   ·obtain⟨l,n,o,q,p,s,b,f,ha,R,S⟩:=aI.out a aw k H.out
    subst ha;have ix:=zbi (some ⟨l,n,none⟩) c.length Q a l n aw rfl;obtain⟨E,D⟩:=eX b.1.length;obtain⟨F,a6⟩:=eX b.2.length;rw[<-D]at R;rw[<-a6]at S;have HY:=Hh f;have af:=Hh D;have ag:=Hh a6;clear f D a6;have aG:=Hh (λ(B:E<=24) (m:F<=24)=>show ∀(h:Nat) (b:PL),h<a+1->c[h]?=some b->b.1.length<=24/\b.2.length<=24 from λh aM hk hz=>by
     by_cases g:h=a
     ·subst g
      have g:=HY.out.symm.trans hz;cases g
      rw[<-af.out,<-ag.out];exact⟨B,m⟩
     ·exact aa.out h aM (by omega) hz)
    have ac:=Hh (λ(e:24<E\/24<F) (d:World) (A:Fr NoM w d)=>show PostF V BV r w (Ending.returned (.tuple #[.agg #[.slice none 0 0],.bool false])) d from
     PostF.mk _ false [] rfl (.inr ⟨z,c,HO.out,by have:=a1.out;omega,(yg9 HY.out (by rw[<-af.out,<-ag.out];exact e)).symm,rfl⟩) (NodesS.nil _ _) A)
    go_upto_region 7 with fail;obtain⟨x,U⟩:=eX (k.alloc (.cells #[.slice o E q,.slice p F s] 102));have a4:Fr NoM W x:=by rw[U];exact H.out.alloc _
    have a3:x.heap[k.heap.size]?=some (.cells #[.slice o E q,.slice p F s] 102 (0,0)):=by rw[U];exact xJ k _
    have d1:x.cell? ⟨k.heap.size,0,none⟩=some (.slice o E q):=by rw[xX x _ 0 _ _ _ a3];rfl
    have d2:x.cell? ⟨k.heap.size,1,none⟩=some (.slice p F s):=by rw[xX x _ 1 _ _ _ a3];rfl
    rw[<-U];obtain⟨k8,z8⟩:=HK.out x (J.out.trans a4 kP);have Z:=Hh a4;clear a4 a3 U R S ix;by_cases B:24<E
    ·go_wp2
     refine yY (v:=.tuple #[.agg #[.slice none 0 0],.bool false]) (by simp[results,Tryz.results57,go_sem,k8]) rfl ?_
     exact ac.out (.inl B) _ (((y.out.trans J.out kP).trans Z.out kP).setCell ⟨w.heap.size,0,none⟩ _ (λe=>absurd e (Nat.lt_irrefl _)))
    ·by_cases m:24<F
     ·go_wp2
      refine yY (v:=.tuple #[.agg #[.slice none 0 0],.bool false]) (by simp[results,Tryz.results57,go_sem,k8]) rfl ?_
      exact ac.out (.inr m) _ (((y.out.trans J.out kP).trans Z.out kP).setCell ⟨w.heap.size,0,none⟩ _ (λe=>absurd e (Nat.lt_irrefl _)))
     ·clear k8 z8
      go_wp2;go_roundw
      case rel=>exact⟨a+1,by go_num,by omega,aG.out (by omega) (by omega),Z.out⟩
      case measure=>simp[intOf];omega
   ·have av:a=c.length:=by omega
    obtain⟨k7,z7⟩:=HK.out k (J.out.trans H.out kP);have aq:zax c=true:=yd7 (by have:=ad.out;have:=a1.out;omega) (by have:=ad.out;have:=aH.out;omega) (λh b f=>aa.out h b (by rw[av];exact(xV.1 f).1) f);have aD:=Hh aq;clear av aq;go_wp2;refine yY (v:=.tuple #[.agg #[.slice P c.length Q],.bool true]) (by simp[results,Tryz.results57,go_sem,k7]) rfl ?_
    refine PostF.mk _ true c rfl (.inr ⟨z,c,HO.out,by have:=a1.out;omega,aD.out.symm,rfl⟩) ?_ (((y.out.trans J.out kP).trans H.out kP).setCell ⟨w.heap.size,0,none⟩ _ (λe=>absurd e (Nat.lt_irrefl _)))
    have hS:NodesS N.heap.size k (.slice P c.length Q) c:=⟨NV,HN.out.fr H.out (λ_ _ _ a9=>a9)⟩;have aQ:=aJ.out;exact(hS.fr (Fr.set k ⟨w.heap.size,0,none⟩ (.slice P c.length Q)) (λa9 hq _ g=>by have g:a9=w.heap.size:=g;omega)).base (by omega)
theorem zk2 {M I:Nat->Prop}(pb r:Nat)(V:List PL)(BV:List Nat)(d b e c:Value)(w:World)(k:PoolS M I w pb V BV d b e c)(j:PoolOK V BV)(m:r<V.length)(l:V.length<1000000000) :
  Calls Tryz.prog 57 #[.pointer (some ⟨pb,0,none⟩),.int .i64 (r:Int)] w λh g=>∃(f:Value) (ok:Bool) (a:List PL),h=.returned (.tuple #[.agg #[f],.bool ok])/\FormRes V BV r ok a/\NodesS w.heap.size g f a/\Fr NoM w g :=
 (zz7 pb r V BV d b e c w k j m l).mono λ_ _ i=>i
