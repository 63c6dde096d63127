import Derived.Test.YtlapkmhemepcaaaGreatDoorZsp
import Derived.Test.YtlapkmhemepcaaaGreatDoorZsr
/- Lemmas. -/
set_option linter.all false
set_option maxHeartbeats 8000000
set_option maxRecDepth 8000
namespace Go.Proofs.YtlapkmhemepcaaaGreatDoor
open Go.RowKit
def zkk (U:List Nat) (pb sb:Nat) (mo mc ms:Value) (w:World) (V:List PL) (M I:Nat->Prop) (g:Bool) (T P:Int) (e:Ending) (w':World):Prop :=
  ∃ (i : Nat) (okn : Bool) (V' : List PL) (BV' : List Nat) (M' I' : Nat->Prop) (f' : Nat->Option Nat), e = .returned (.tuple #[.int .i64 (i : Int), .bool okn]) ∧
    PSt encN NegMO U pb sb mo mc ms (.map (some sb)) w' V' BV' M' I' f'/\PNx sb w V M I w' V' M' I'/\(okn=true->g=true/\i < V'.length/\(za0 V').getD i 0=numC T P.toNat)/\(okn=false->(g && zap (numN T P.toNat))=false)
theorem zit {U:List Nat}(hUl:U.length<1000000)(pb sb:Nat)(mo mc ms:Value)(T P:Int)(g:Bool)(hg:g=true↔GoodD T P)(hU:g=true->T.natAbs/2^P.toNat<120->∀a,SubC (numC T P.toNat) a->a∈U) (V:List PL) (BV:List Nat) (M I:Nat->Prop) (f:Nat->Option Nat) (w:World) (hst:PSt encN NegMO U pb sb mo mc ms (.map (some sb)) w V BV M I f) : Calls Tryz.prog 88 #[.pointer (some ⟨pb,0,none⟩),.agg #[.int .i64 T,.int .i64 P]] w λe w'=>zkk U pb sb mo mc ms w V M I g T P e w':=by(obtain⟨w1,hw1⟩:=eX (w.alloc (.cells #[.int .i64 T,.int .i64 P] 29));have f1:Fr NoM w w1:=by rw[hw1];exact(nW w).alloc _);(have e1:w1.heap[w.heap.size]?=some (.cells #[.int .i64 T,.int .i64 P] 29 (0,0)):=by rw[hw1];exact xJ w _);have HK:=Hh (λW (f:Fr NoM w1 W)=>(by{have h0:=f.heap e1 id;exact⟨by rw[xX W _ 0 _ _ _ h0];rfl,by rw[xX W _ 1 _ _ _ h0];rfl⟩}:W.cell? ⟨w.heap.size,0,none⟩=some (.int .i64 T)/\W.cell? ⟨w.heap.size,1,none⟩=some (.int .i64 P)));have HGd:=Hh (zb2 T P w1 g hg);have HSt:=Hh (hst.fr0 f1);have F1:=Hh f1;have HUl:=Hh hUl;have HG:=Hh hg;have HU:=Hh hU;clear hst f1 e1 hUl hg hU;obtain⟨k0,k1⟩:=HK.out w1 (Fr.refl _ _);go_enter Tryz.func88,Tryz.ntmps88;go_wp2_with fail;rw[<-hw1];clear hw1;(with_reducible refine HGd.out.mono ?_);rintro e w2 ⟨rfl,f2⟩;have F2:=Hh f2;clear f2 k0 k1;obtain⟨k0,k1⟩:=HK.out w2 F2.out;cases g with| false =>{have HE:=Hh (show zkk U pb sb mo mc ms w V M I false T P (.returned (.tuple #[.int .i64 ((0:Nat):Int),.bool false])) w2 from⟨0,false,V,BV,M,I,f,rfl,HSt.out.fr0 F2.out,PNx.of0 (F1.out.trans F2.out (λ_ _ q=>q)),(λh=>by cases h),(λ_=>rfl)⟩);go_wp2;go_ret2;exact HE.out}| true =>{(have hgd:GoodD T P:=by have h:=HG.out;simpa using h);(obtain⟨p,rfl,hp,hr,ht⟩:=hgd.nat;obtain⟨n,hn⟩:=eX T.natAbs;have hmax:max T (-T)=(n:Int):=by omega);(have htb:-1000000<=T/\T<=1000000:=by omega);(obtain⟨m,hm⟩:=eX (n/2^p);have hml:m<=n:=by rw[hm];exact Nat.div_le_self _ _);(have hmi:(n:Int)/2^p=(m:Int):=by rw[hm];simp);have hnb:m<=numB T p:=by{unfold numB;rw[hm,hn];by_cases h0:p=0;{rw[if_pos h0,h0];simp};{rw[if_neg h0];omega}};by_cases hbig:120<=m;{(have hfit:(true && zap (numN T p))=false:=by rw[ztb hr (by omega)];rfl);have HE:=Hh (show zkk U pb sb mo mc ms w V M I true T (p:Int) (.returned (.tuple #[.int .i64 ((0:Nat):Int),.bool false])) w2 from⟨0,false,V,BV,M,I,f,rfl,HSt.out.fr0 F2.out,PNx.of0 (F1.out.trans F2.out (λ_ _ q=>q)),(λh=>by cases h),(λ_=>hfit)⟩);clear hm hn hfit hnb hr;go_wp2;go_ret2;exact HE.out};{have hU:=HU.out (by simp) (by show T.natAbs/2^p<120;rw[<-hn,<-hm];omega);have hU:∀a,SubC (numC T p) a->a∈U:=hU;have HN:=Hh (zv4 HUl.out pb sb mo mc ms _ T p (kZ _) hr (by omega) hp hU V BV M I f w2 (HSt.out.fr0 F2.out));clear hm hn hnb hr hU;go_wp2_with fail;(with_reducible refine HN.out.mono ?_);rintro e w3 ⟨i,V3,B3,M3,I3,f3',rfl,st3,nx3,l3,q3⟩;have hlen:=st3.len;have hul:=HUl.out;have hn4:Nats (w3.alloc (.cells #[.int .i64 (i:Int)] 3)) (.slice (some ⟨w3.heap.size,0,none⟩) 1 1) [i]:=SliceOf.one encN w3 i 3;have HPa:=Hh (zkz pb V3 B3 [i] mo mc ms (.map (some sb)) _ (w3.alloc (.cells #[.int .i64 (i:Int)] 3)) (st3.pool.fr0 ((nW w3).alloc _)) hn4 (λx hx=>by rw[x4.1 hx];exact l3) (λj y hy=>st3.ok.opts' j y hy) (by simp) (by omega) (st3.ok.lens (by omega)));have HSt3:=Hh st3;have HNx3:=Hh ((PNx.of0 (F1.out.trans F2.out (λ_ _ q=>q))).trans nx3);have HI3:=Hh (And.intro l3 q3);clear st3 nx3 l3 q3 hlen hul hn4 k0 k1;go_wp2_with fail;(with_reducible refine HPa.out.mono ?_);rintro e w4 ⟨gq,cq,Q,rfl,hQ,hnd,hmem,f4⟩;have f34:Fr NoM w3 w4:=((nW w3).alloc _).trans f4 (λ_ _ q=>q);obtain⟨okn,hok⟩:=eX (decide ((Q.length:Int)<=120));have HE:=Hh (show zkk U pb sb mo mc ms w V M I true T (p:Int) (.returned (.tuple #[.int .i64 (i:Int),.bool okn])) w4 from⟨i,okn,V3,B3,M3,I3,f3',rfl,HSt3.out.fr0 f34,HNx3.out.trans (PNx.of0 f34),(λ_=>⟨rfl,HI3.out.1,HI3.out.2⟩),(λh=>by{rw[hok,decide_eq_false_iff_not]at h;have hres:FormRes V3 B3 i false []:=.inl ⟨rfl,rfl,Q,hnd,hmem,by omega⟩;have h1:=(FormRes.is HSt3.out.ok HI3.out.1 hres).1;rw[zgm HSt3.out.ok HI3.out.1 HI3.out.2]at h1;show(true && zap (numN T p))=false;unfold numN;rw[<-h1];rfl})⟩);have hql:Q.length<=1000000:=by{have h1:=hnd.length_le_of_subset (l₂:=List.range V3.length) (λz hz=>kY.2 (by{have h2:=(hmem z).1 hz;exact HSt3.out.ok.reach (λr hr=>by rw[x4.1 hr];exact HI3.out.1) h2}));rw[uW]at h1;have:=HSt3.out.len;have:=HUl.out;omega};clear hQ hnd hmem f4 f34;have hE:=HE.out;rw[hok]at hE;have HE:=Hh hE;clear hok hE;go_wp2;all_goals(go_ret2;first|exact HE.out|(rename_i hx;have hE:=HE.out;simp[hx]at hE;exact hE))}}
theorem zkd:(Tryz.prog.info? 26).map (λi=>(i.zero,i.size,i.bytes))=some (some (.agg #[.slice none 0 0]),1,24):=by kernel_rfl
theorem zh6 (a:Option Addr)(n c k b off:Nat)(hk:k<n)(ha:a=some ⟨b,off,none⟩)(w:World) : (Instr.indexAt 59 (.slice a n c) (.int .i64 (k:Int))).run Tryz.prog w=.ok (.pointer (some ⟨b,off+k,none⟩)) w:=by subst ha;go_simp
def FormsL (R:Nat->Prop)(w:World)(v:Value)(FL:List (List PL)):Prop :=
 ∃VS:List Value,Vals w v VS/\VS.length=FL.length/\∀(j:Nat) (nv:Value) (Fm:List PL),VS[j]?=some nv->FL[j]?=some Fm->NodeL R encN w nv Fm
theorem NodeL.low {α:Type}{R:Nat->Prop}{enc:α->Value}{w:World}{v:Value}{NL:List (List α × List α)}(h:NodeL R enc w v NL):NodeL (· < w.heap.size) enc w v NL:=by obtain⟨a,c,rfl,h1,h2,h3⟩:=h;refine⟨a,c,rfl,h1,h2,λj y hy=>?_⟩;obtain⟨b,off,lv,rv,ha,hb,c1,c2,s1,s2,r1,r2⟩:=h3 j y hy;refine⟨b,off,lv,rv,ha,World.block_lt_of_cell? w _ c1,c1,c2,s1,s2,λhne q hq=>?_,λhne q hq=>?_⟩;{obtain⟨b',hb',hl⟩:=s1.block hne;rw[hq]at hb';cases hb';exact hl};{obtain⟨b',hb',hl⟩:=s2.block hne;rw[hq]at hb';cases hb';exact hl}
structure Mk (w1 W:World) (bb:Nat) (s:List PL × List Nat) (S1:Nat->Prop) (v:Value) (A:List Nat) (u:Value) (B:List Nat):Prop where
 book:BookS S1 W bb s.1 s.2
 sub:∀q,S1 q->w1.heap.size<=q/\q<W.heap.size
 own1:W.ownsRow w1.heap.size 3 1 v A.length (A.map encN)
 own2:W.ownsRow w1.heap.size 3 1 u B.length (B.map encN)
 no1:∀b,v.ownBlock=some b->¬S1 b
 no2:∀b,u.ownBlock=some b->¬S1 b
 sep:∀b,v.ownBlock=some b->u.ownBlock≠some b
 fr:Fr NoM w1 W
theorem Mk.swap {w1 W:World}{bb:Nat}{s:List PL × List Nat}{S1:Nat->Prop}{v u:Value}{A B:List Nat}(h:Mk w1 W bb s S1 v A u B):Mk w1 W bb s S1 u B v A :=
 ⟨h.book,h.sub,h.own2,h.own1,h.no2,h.no1,λb h1 h2=>h.sep b h2 h1,h.fr⟩
theorem Mk.root {w1 W W':World}{bb:Nat}{s s':List PL × List Nat}{S1 S':Nat->Prop}{v u:Value}{A B:List Nat}(h:Mk w1 W bb s S1 v A u B)(hb:BookS S' W' bb s'.1 s'.2)(hs:∀k,S' k->S1 k\/W.heap.size<=k)(hf:Fr S1 W W'):Mk w1 W' bb s' (λk=>S' k/\k<W'.heap.size) v A u B:=by
 have key:∀b,(¬S1 b/\b<W.heap.size)->¬(S' b/\b<W'.heap.size):=λb ⟨h1,h2⟩ ⟨h3,_⟩=>by
  rcases hs b h3 with h|h
  ·exact h1 h
  ·omega
 exact⟨hb.cut,λq hq=>⟨by
   rcases hs q hq.1 with h1|h1
   ·exact(h.sub q h1).1
   ·exact kJ h.fr.size h1,hq.2⟩,za1 h.own1 hf (λb hb=>h.no1 b hb),za1 h.own2 hf (λb hb=>h.no2 b hb),λb hb=>key b ⟨h.no1 b hb,(h.own1.lt b hb).2⟩,λb hb=>key b ⟨h.no2 b hb,(h.own2.lt b hb).2⟩,h.sep,
  h.fr.trans hf (λq hq hS=>by have:=(h.sub q hS).1;omega)⟩
theorem Mk.app {w1 W Wa W4:World}{bb:Nat}{s:List PL × List Nat}{S1:Nat->Prop}{v v4 u:Value}{A B:List Nat}{x:Nat}(h:Mk w1 W bb s S1 v A u B)(ha:Fr NoM W Wa)(ho:W4.ownsRow w1.heap.size 3 1 v4 (A.length+1) (A.map encN ++ [x].map encN))(hf:Fr (Own1 v) Wa W4)(hq:v4.ownBlock=v.ownBlock\/∃b,v4.ownBlock=some b/\Wa.heap.size<=b):Mk w1 W4 bb s S1 v4 (A ++ [x]) u B:=by
 have hfa:Fr (Own1 v) W W4:=ha.any.trans hf (λq _ e=>e);have hlt:∀b,v4.ownBlock=some b->v.ownBlock=some b\/W.heap.size<=b:=λb hb=>by
  rcases hq with h1|⟨b',h1,h2⟩
  ·rw[h1]at hb;exact .inl hb
  ·rw[h1]at hb;cases hb;exact .inr (kJ ha.size h2)
 exact⟨h.book.fr hfa (λk hk e=>h.no1 k e hk),λq hq=>⟨(h.sub q hq).1,kQ (h.sub q hq).2 hfa.size⟩,by rw[yX,vK];exact ho,za1 h.own2 hfa (λb hb e=>h.sep b e hb),
  λb hb hS=>by
   rcases hlt b hb with h1|h1
   ·exact h.no1 b h1 hS
   ·have:=(h.sub b hS).2;omega,
  h.no2,λb hb hu=>by
   rcases hlt b hb with h1|h1
   ·exact h.sep b h1 hu
   ·have:=(h.own2.lt b hu).2;omega,
  h.fr.trans hfa (λq hq e=>by have:=(h.own1.lt q e).1;omega)⟩
theorem BookS.made {w:World}{bb:Nat}(h:w.heap[bb]?=some (.cells #[.slice none 0 0,.slice none 0 0] 147 (0,0))):BookS (λq=>q=bb) w bb [] [] :=
 ⟨.slice none 0 0,.slice none 0 0,[],⟨h,World.ownsRow_nil _ _ _ _,World.ownsRow_nil _ _ _ _,rfl,rfl,by simp,by simp[Value.ownBlock],by simp[Value.ownBlock],by simp[Value.ownBlock]⟩,λk hk=>by
  rcases (zbn h).1 hk with h|h|h
  ·exact h
  ·simp[Value.ownBlock]at h
  ·simp[Value.ownBlock]at h,by intro j x y hx;simp at hx⟩
theorem yai {FL:List (List PL)}:∀ {n:Nat}{s:List PL × List Nat × List Nat},RootsOK n s->(∀Fm∈FL,GoodF Fm)->s.1.length<=(FL.foldl zb9 s).1.length:=by induction FL with| nil=>{intro n s _ _;exact xW _}| cons f l ih =>{intro n s h hF;have hf:=hF f uZ;have h1:=ih (h.step hf) (λg hg=>hF g (uY _ hg));have h2:=(zg5 h.ok f hf.opts).2.2.2.2.length_le;rw[List.foldl_cons];exact kJ h2 h1}
theorem RootsOK.start:RootsOK 0 ([],[],[]):=⟨BookOK.nil,BookUp.nil,by simp,by simp⟩
theorem zn1 {NL:List PL}{BL:List Nat}{FL:List (List PL)}{j:Nat}(hj:j<FL.length):zbh NL BL (FL.take (j+1))=zb9 (zbh NL BL (FL.take j)) FL[j]:=by rw[yQ hj,zre]
theorem zn8 {R:Nat->Prop}(lv rv:Value)(FL FR:List (List PL))(w:World)(hL:FormsL R w lv FL)(hR:FormsL R w rv FR)(gL:∀Fm∈FL,GoodF Fm)(gR:∀Fm∈FR,GoodF Fm)(nL:FL.length<=1000)(nR:FR.length<=1000) : Calls Tryz.prog 92 #[lv,rv] w λe w'=>∃v',e=.returned (.agg #[v'])/\NodeOwn w.heap.size w' v' (zm2 FL FR)/\Fr NoM w w':=by(obtain⟨VL,hvl,hll,hfl⟩:=hL;obtain⟨VR,hvr,hlr,hfr⟩:=hR;obtain⟨al,cl,rfl,zl1,zl2,hcl⟩:=hvl;obtain⟨ar,cr,rfl,zr1,zr2,hcr⟩:=hvr;rw[hll,hlr];have HFl:=Hh hfl;have HFr:=Hh hfr;have HCl:=Hh hcl;have HCr:=Hh hcr;have GL:=Hh gL;have GR:=Hh gR;have HLl:=Hh hll;have HLr:=Hh hlr;clear hfl hfr hcl hcr gL gR hll hlr zl1 zl2 zr1 zr2;go_enter Tryz.func92,Tryz.ntmps92;go_wp2_with fail;obtain⟨w1,hw1⟩:=eX (w.alloc (.cells #[.slice none 0 0] 26));have hs1:w1.heap.size=w.heap.size+1:=by rw[hw1];simp);(have hf1:Fr NoM w w1:=by rw[hw1];exact(nW w).alloc _);(have hb1:w1.heap[w.heap.size]?=some (.cells #[.slice none 0 0] 26 (0,0)):=by rw[hw1];exact xJ w _);rw[<-hw1];obtain⟨bb,hbb⟩:=eX (w.heap.size+1);obtain⟨w4,hw4⟩:=eX (((w1.alloc (.cells #[.slice none 0 0,.slice none 0 0] 147)).alloc (.cells #[] 3)).alloc (.cells #[] 3));have hmk:Mk w1 w4 bb ([],[]) (λq=>q=bb) (.slice (some ⟨bb+1,0,none⟩) 0 0) [] (.slice (some ⟨bb+1+1,0,none⟩) 0 0) []:=by{(rw[hbb];have hF:Fr NoM w1 w4:=by rw[hw4];exact(((nW w1).alloc _).alloc _).alloc _);(have hsz:w4.heap.size=w.heap.size+4:=by rw[hw4];simp[hs1]);have k0:w4.heap[w.heap.size+1]?=some (.cells #[.slice none 0 0,.slice none 0 0] 147 (0,0)):=by{have h:=xJ w1 (.cells #[.slice none 0 0,.slice none 0 0] 147);rw[hs1]at h;rw[hw4];exact(((nW _).alloc _).alloc _).heap h id};have o1:w4.ownsRow w1.heap.size 3 1 (.slice (some ⟨w.heap.size+1+1,0,none⟩) 0 0) 0 []:=by{have h:=yW (base:=w1.heap.size) (e:=3) (size:=1) (w1.alloc (.cells #[.slice none 0 0,.slice none 0 0] 147)) #[] 0 (by simp) (by decide) (by simp);simp only[xZ,hs1]at h;rw[hw4,hs1];exact za1 h ((nW _).alloc _) (λ_ _ q=>q)};have o2:w4.ownsRow w1.heap.size 3 1 (.slice (some ⟨w.heap.size+1+1+1,0,none⟩) 0 0) 0 []:=by{have h:=yW (base:=w1.heap.size) (e:=3) (size:=1) ((w1.alloc (.cells #[.slice none 0 0,.slice none 0 0] 147)).alloc (.cells #[] 3)) #[] 0 (by simp;omega) (by decide) (by simp);simp only[xZ,hs1]at h;rw[hw4,hs1];exact h};refine⟨BookS.made k0,λq hq=>⟨by omega,by omega⟩,o1,o2,λb hb e=>?_,λb hb e=>?_,λb hb e=>?_,hF⟩;{have hb:w.heap.size+1+1=b:=yY hb;omega};{have hb:w.heap.size+1+1+1=b:=yY hb;omega};{have hb:w.heap.size+1+1=b:=yY hb;have e:w.heap.size+1+1+1=b:=yY e;omega}};rw[<-hw4];have HMk:=Hh hmk;have HF1:=Hh hf1;have HB1:=Hh hb1;have HS1:=Hh hs1;clear hmk hf1 hb1 hs1 hw4 hw1;rw[<-hbb];have HBb:=Hh hbb;clear hbb;go_loopw [6,8] (λv0 i W=>∃(j:Nat) (S1:Nat->Prop) (v:Value),v=v0/\i=.int .i64 j/\j<=FL.length/\Mk w1 W bb ((zbh [] [] (FL.take j)).1,(zbh [] [] (FL.take j)).2.1) S1 v (zbh [] [] (FL.take j)).2.2 (.slice (some ⟨bb+1+1,0,none⟩) 0 0) []) (λ_ i _=>FL.length-(intOf i).toNat);(case atStart=>exact⟨0,_,_,rfl,rfl,yK _,HMk.out⟩);case round =>(obtain⟨j,S1,v,rfl,rfl,hj,hm⟩:=hrel;obtain⟨w7,rfl⟩:=eX wr;by_cases hlt:j<FL.length;{have hro:=zec (FL:=FL.take j) RootsOK.start (λFm h=>GL.out Fm (List.mem_of_mem_take h));(have hnx:=zn1 (NL:=[]) (BL:=[]) hlt;have hg:=GL.out FL[j] (vZ _);obtain⟨Fm,hFm⟩:=eX (FL[j]);have hFe:FL[j]?=some Fm:=by rw[hFm];exact xQ _);(obtain⟨nv,hnv⟩:∃nv,VL[j]?=some nv:=⟨VL[j]'(by rw[HLl.out];exact hlt),xQ _⟩;have hN:=(HFl.out j nv Fm hnv hFe).low;obtain⟨an,cn,rfl,z⟩:=id hN;clear z;obtain⟨b1,o1,rfl,c1⟩:=HCl.out j _ hnv;have ix:=zh6 (some ⟨b1,o1,none⟩) FL.length cl j b1 o1 hlt rfl;rw[<-hFm]at hg hnx;have hro:RootsOK (0+120*(FL.take j).length) (zbh [] [] (FL.take j)):=hro;obtain⟨⟨NLk,BLk,A⟩,hA⟩:∃s,zbh [] [] (FL.take j)=s:=⟨_,rfl⟩;rw[hA]at hm hro hnx;have hwf:=HF1.out.trans hm.fr (λ_ _ q=>q);have d1:w7.cell? ⟨b1,o1+j,none⟩=some (.slice an Fm.length cn):=hwf.cell c1 id;have hlen:NLk.length<=120*j:=by have h1:=hro.len;rw[kK,Nat.min_eq_left (by omega)]at h1;have h1:NLk.length<=0+120*j:=h1;omega);have hal:A.length=j:=by{have h1:=zg8 (FL.take j) ([],[],[]);have h1:(zbh [] [] (FL.take j)).2.2.length=0+(FL.take j).length:=h1;rw[hA,kK,Nat.min_eq_left (by omega)]at h1;have h1:A.length=0+j:=h1;omega};have hroot:=zns (R:=(· < w.heap.size)) bb (.slice an Fm.length cn) NLk Fm BLk w7 hm.book hro.ok (hN.fr0 hwf) (λk hk hS=>by have h1:k<w.heap.size:=hk;have:=(hm.sub k hS).1;have:=HS1.out;omega) hg.opts (by have:=hg.le;omega) (λy hy=>by have:=hg.lens y hy;omega) hg.pos;have HRoot:=Hh hroot;have HM:=Hh hm;have HNx:=Hh hnx;have HAl:=Hh hal;have HA:=Hh hA;clear hroot hm hnx hal hA hro hlen hN hg hFm hFe hnv c1 hwf;go_wp2_with fail;refine HRoot.out.mono ?_;rintro e w8 ⟨S',rfl,b8,s8,f8⟩;have hM8:=HM.out.root (s':=((addB NLk BLk Fm).1,(addB NLk BLk Fm).2.1)) b8 s8 f8;obtain⟨x,hx⟩:=eX (zf7 NLk BLk Fm);rw[<-hx];have HM8:=Hh hM8;have HX:=Hh hx;clear hM8 b8 s8 f8 hx d1 ix;go_wp2_with (at_builtin;refine zax (enc:=encN) _ rfl (.tmp 20) (.tmp 27) 100 rfl w1.heap.size 3 (.int .i64 0) 8 Tryz.underlying100 zab rfl v A.length (A.map encN) rfl (za1 HM8.out.own1 ((nW w8).alloc _) (λ_ _ q=>q)) (.slice (some ⟨w8.heap.size,0,none⟩) 1 1) rfl [x] (SliceOf.one encN w8 x 3) (λ_=>rfl) (by have:=HAl.out;simp;omega) (by decide) (by have:=HM8.out.fr.size;rw[xZ];omega) ?_);intro v9 w9 h9 f9 q9;have hM9:=HM8.out.app ((nW w8).alloc _) h9 f9 (by rw[xZ];exact q9);have HM9:=Hh hM9;clear hM9 h9 f9 q9;go_wp2;go_roundw;(case rel =>(refine⟨j+1,λk=>S' k/\k<w8.heap.size,v9,rfl,by go_num,by omega,?_⟩;have h:=HM9.out;rw[HNx.out];rw[HX.out]at h;exact h));case measure=>simp[intOf];omega};{(have hje:j=FL.length:=by omega);(subst hje;rw[vQ]at hm;clear hlt hj;have hro:=zec (FL:=FL) RootsOK.start GL.out;have hro:RootsOK (0+120*FL.length) (zbh [] [] FL):=hro;have hal:=zg8 FL ([],[],[]);have hal:(zbh [] [] FL).2.2.length=0+FL.length:=hal;obtain⟨⟨NL1,BL1,A1⟩,hA1⟩:∃s,zbh [] [] FL=s:=⟨_,rfl⟩;rw[hA1]at hm hro hal;have hal:A1.length=FL.length:=by have h1:A1.length=0+FL.length:=hal;omega);have hst:RootsOK (120*FL.length) (NL1,BL1,[]):=⟨hro.ok,hro.up,by have h1:NL1.length<=0+120*FL.length:=hro.len;show NL1.length<=120*FL.length;omega,by simp⟩;have HM:=Hh hm.swap;have HRo:=Hh hro;have HAl1:=Hh hal;have HA1:=Hh hA1;have HSt:=Hh hst;clear hm hro hal hA1 hst;go_wp2_with fail;go_loopw [7,9] (λv0 i W=>∃(j:Nat) (S2:Nat->Prop) (u:Value),u=v0/\i=.int .i64 j/\j<=FR.length/\Mk w1 W bb ((zbh NL1 BL1 (FR.take j)).1,(zbh NL1 BL1 (FR.take j)).2.1) S2 u (zbh NL1 BL1 (FR.take j)).2.2 v A1) (λ_ i _=>FR.length-(intOf i).toNat);(case atStart=>exact⟨0,_,_,rfl,rfl,yK _,HM.out⟩);case round =>(obtain⟨j,S2,u,rfl,rfl,hj,hm⟩:=hrel;obtain⟨w17,rfl⟩:=eX wr;by_cases hlt:j<FR.length;{have hro:=zec (FL:=FR.take j) HSt.out (λFm h=>GR.out Fm (List.mem_of_mem_take h));(have hnx:=zn1 (NL:=NL1) (BL:=BL1) hlt;have hg:=GR.out FR[j] (vZ _);obtain⟨Fm,hFm⟩:=eX (FR[j]);have hFe:FR[j]?=some Fm:=by rw[hFm];exact xQ _);(obtain⟨nv,hnv⟩:∃nv,VR[j]?=some nv:=⟨VR[j]'(by rw[HLr.out];exact hlt),xQ _⟩;have hN:=(HFr.out j nv Fm hnv hFe).low;obtain⟨an,cn,rfl,z⟩:=id hN;clear z;obtain⟨b1,o1,rfl,c1⟩:=HCr.out j _ hnv;have ix:=zh6 (some ⟨b1,o1,none⟩) FR.length cr j b1 o1 hlt rfl;rw[<-hFm]at hg hnx;have hro:RootsOK (120*FL.length+120*(FR.take j).length) (zbh NL1 BL1 (FR.take j)):=hro;obtain⟨⟨NLk,BLk,A⟩,hA⟩:∃s,zbh NL1 BL1 (FR.take j)=s:=⟨_,rfl⟩;rw[hA]at hm hro hnx;have hwf:=HF1.out.trans hm.fr (λ_ _ q=>q);have d1:w17.cell? ⟨b1,o1+j,none⟩=some (.slice an Fm.length cn):=hwf.cell c1 id;have hlen:NLk.length<=120*FL.length+120*j:=by have h1:=hro.len;rw[kK,Nat.min_eq_left (by omega)]at h1;exact h1);have hal:A.length=j:=by{have h1:=zg8 (FR.take j) (NL1,BL1,[]);have h1:(zbh NL1 BL1 (FR.take j)).2.2.length=0+(FR.take j).length:=h1;rw[hA,kK,Nat.min_eq_left (by omega)]at h1;have h1:A.length=0+j:=h1;omega};have hroot:=zns (R:=(· < w.heap.size)) bb (.slice an Fm.length cn) NLk Fm BLk w17 hm.book hro.ok (hN.fr0 hwf) (λk hk hS=>by have h1:k<w.heap.size:=hk;have:=(hm.sub k hS).1;have:=HS1.out;omega) hg.opts (by have:=hg.le;omega) (λy hy=>by have:=hg.lens y hy;omega) hg.pos;have HRoot:=Hh hroot;have HM2:=Hh hm;have HNx:=Hh hnx;have HAl:=Hh hal;have HA:=Hh hA;clear hroot hm hnx hal hA hro hlen hN hg hFm hFe hnv c1 hwf;go_wp2_with fail;refine HRoot.out.mono ?_;rintro e w18 ⟨S',rfl,b8,s8,f8⟩;have hM8:=HM2.out.root (s':=((addB NLk BLk Fm).1,(addB NLk BLk Fm).2.1)) b8 s8 f8;obtain⟨x,hx⟩:=eX (zf7 NLk BLk Fm);rw[<-hx];have HM8:=Hh hM8;have HX:=Hh hx;clear hM8 b8 s8 f8 hx d1 ix;go_wp2_with (at_builtin;refine zax (enc:=encN) _ rfl (.tmp 35) (.tmp 42) 100 rfl w1.heap.size 3 (.int .i64 0) 8 Tryz.underlying100 zab rfl u A.length (A.map encN) rfl (za1 HM8.out.own1 ((nW w18).alloc _) (λ_ _ q=>q)) (.slice (some ⟨w18.heap.size,0,none⟩) 1 1) rfl [x] (SliceOf.one encN w18 x 3) (λ_=>rfl) (by have:=HAl.out;simp;omega) (by decide) (by have:=HM8.out.fr.size;rw[xZ];omega) ?_);intro v9 w9 h9 f9 q9;have hM9:=HM8.out.app ((nW w18).alloc _) h9 f9 (by rw[xZ];exact q9);have HM9:=Hh hM9;clear hM9 h9 f9 q9;go_wp2;go_roundw;(case rel =>(refine⟨j+1,λk=>S' k/\k<w18.heap.size,v9,rfl,by go_num,by omega,?_⟩;have h:=HM9.out;rw[HNx.out];rw[HX.out]at h;exact h));case measure=>simp[intOf];omega};{(have hje:j=FR.length:=by omega);subst hje;rw[vQ]at hm;clear hlt hj;have hro:=zec (FL:=FR) HSt.out GR.out;have hle:=yai (FL:=FR) HSt.out GR.out;have hro:RootsOK (120*FL.length+120*FR.length) (zbh NL1 BL1 FR):=hro;have hle:NL1.length<=(zbh NL1 BL1 FR).1.length:=hle;have hal:=zg8 FR (NL1,BL1,[]);have hal:(zbh NL1 BL1 FR).2.2.length=0+FR.length:=hal;obtain⟨⟨NL2,BL2,A2⟩,hA2⟩:∃s,zbh NL1 BL1 FR=s:=⟨_,rfl⟩;rw[hA2]at hm hro hal hle;have hlen:NL2.length<=120*FL.length+120*FR.length:=hro.len;have hA1l:∀x∈A1,x<NL2.length:=λx hx=>kQ (HRo.out.lt x hx) hle;have hA2l:∀x∈A2,x<NL2.length:=λx hx=>hro.lt x hx;(have hal:A2.length=FR.length:=by have h1:A2.length=0+FR.length:=hal;omega);obtain⟨k1,k2,k3,k4,k5⟩:=zy1 hro.ok A1 A2 hA1l hA2l;have hup:=zy0 (BL:=BL2) hro.up A1 A2;have hfin:zm2 FL FR=zdg (putB NL2 BL2 A1 A2).1 (putB NL2 BL2 A1 A2).2.1 (putB NL2 BL2 A1 A2).2.2:=by{unfold zm2;simp only[HA1.out,hA2]};have hput:=zi8 bb v u NL2 BL2 A1 A2 w17 hm.book (SliceOf.of_owns hm.own2 rfl) (SliceOf.of_owns hm.own1 rfl) (λj x hx=>hA1l x (xK hx)) (λj x hx=>hA2l x (xK hx)) (by have:=HAl1.out;omega) (by omega) (by omega) (λx hx=>by have:=hro.ok.lt NL2.length (xW _) x hx;omega);have hlens:=hup.lens k1;have HPut:=Hh hput;have HM2:=Hh hm;have HFin:=Hh hfin;have HK:=Hh (And.intro k1 (And.intro k2 (And.intro k3 hlens)));have HLen:=Hh hlen;clear hput hm hfin k1 k2 k3 k4 k5 hlens hlen hup hA1l hA2l hal hle hro hA2;go_wp2_with fail;refine HPut.out.mono ?_;rintro e w18 ⟨rfl,b8,f8⟩;obtain⟨x,hx⟩:=eX ((putB NL2 BL2 A1 A2).2.2);have hform:=zo9 bb x _ _ w18 b8 HK.out.1 (by rw[hx];exact HK.out.2.1) (by have:=HK.out.2.2.1;have:=HLen.out;omega) (λy hy=>by have:=HK.out.2.2.2 y hy;have:=HK.out.2.2.1;have:=HLen.out;omega);have hf8:Fr NoM w1 w18:=HM2.out.fr.trans f8 (λq hq e=>by{have h1:=(HM2.out.sub q (HM2.out.book.m q e)).1;omega});rw[<-hx];have HForm:=Hh hform;have HF8:=Hh hf8;have HX:=Hh hx;clear hform hf8 b8 f8 hx;go_wp2_with fail;refine HForm.out.mono ?_;(rintro e w19 ⟨v',rfl,n9,f9⟩;obtain⟨av,cv,rfl,z⟩:=id n9.nodeL;clear z;have hb9:=(HF8.out.trans f9 (λ_ _ q=>q)).heap HB1.out id;have k9:w19.cell? ⟨w.heap.size,0,none⟩=some (.slice none 0 0):=by rw[xX w19 _ 0 _ _ _ hb9];rfl);(have z9:w19.frozen? ⟨w.heap.size,0,none⟩=false:=by simp[World.frozen?,hb9]);have HN9:=Hh n9;have HF9:=Hh f9;clear n9 f9 hb9;go_wp2;refine yJ (v:=.agg #[.slice av (zdg (putB NL2 BL2 A1 A2).1 (putB NL2 BL2 A1 A2).2.1 x).length cv]) (by simp[results,Tryz.results92,go_sem,k9]) rfl ?_;(have hlow:w.heap.size<w18.heap.size:=by have:=HF8.out.size;have:=HS1.out;omega);refine⟨_,rfl,?_,(((HF1.out.trans HF8.out (λ_ _ q=>q)).trans HF9.out (λ_ _ q=>q))).setCell _ _ (λh=>absurd h (Nat.lt_irrefl _))⟩;rw[HFin.out,<-HX.out];refine(HN9.out.fr (Fr.set w19 ⟨w.heap.size,0,none⟩ _) (λq hq e=>?_)).mono (Nat.le_of_lt hlow);have e:q=w.heap.size:=e;omega})})
theorem zvc {R:Nat->Prop}(lv rv:Value)(FL FR:List (List PL))(w:World)(hL:FormsL R w lv FL)(hR:FormsL R w rv FR)(gL:∀Fm∈FL,GoodF Fm)(gR:∀Fm∈FR,GoodF Fm)(nL:FL.length<=1000)(nR:FR.length<=1000) : Calls Tryz.prog 92 #[lv,rv] w λe w'=>∃v',e=.returned (.agg #[v'])/\NodeL (λb=>w.heap.size<=b) encN w' v' (zm2 FL FR)/\Fr NoM w w':=by refine(zn8 lv rv FL FR w hL hR gL gR nL nR).mono ?_;rintro e w' ⟨v',rfl,h,f⟩;exact⟨v',rfl,h.nodeL,f⟩
theorem SliceOf.unmap {α β:Type}{enc:α->Value}{enc':β->Value}{w:World}{v:Value}{L:List α}{f:α->β}(h:SliceOf enc' w v (L.map f))(hf:∀x,enc' (f x)=enc x):SliceOf enc w v L:=by obtain⟨a,c,rfl,h1,h2,h3⟩:=h;refine⟨a,c,by simp,by simpa using h1,h2,λj x hx=>?_⟩;obtain⟨b,off,ha,hc⟩:=h3 j (f x) (by rw[vW,hx];rfl);exact⟨b,off,ha,by rw[<-hf];exact hc⟩
theorem NodeL.toI {R:Nat->Prop}{w:World}{v:Value}{Fm:List PL}(h:NodeL R encN w v Fm):NodeL R encI w v (i2 Fm):=by obtain⟨a,c,rfl,h1,h2,h3⟩:=h;refine⟨a,c,by rw[zcb],by rw[zcb];exact h1,h2,λj y hy=>?_⟩;obtain⟨x,hx,rfl⟩:=yct hy;obtain⟨b,off,lv,rv,ha,hb,c1,c2,s1,s2,r1,r2⟩:=h3 j x hx;exact⟨b,off,lv,rv,ha,hb,c1,c2,Nats.ints s1,Nats.ints s2,λhne=>r1 (λe=>hne (by rw[e];rfl)),λhne=>r2 (λe=>hne (by rw[e];rfl))⟩
theorem NodeL.ofI {R:Nat->Prop}{w:World}{v:Value}{Fm:List PL}(h:NodeL R encI w v (i2 Fm)):NodeL R encN w v Fm:=by obtain⟨a,c,rfl,h1,h2,h3⟩:=h;rw[zcb]at h1 ⊢;refine⟨a,c,rfl,h1,h2,λj x hx=>?_⟩;obtain⟨b,off,lv,rv,ha,hb,c1,c2,s1,s2,r1,r2⟩:=h3 j (ints x.1,ints x.2) (by unfold i2;rw[vW,hx];rfl);have hne:∀L:List Nat,L≠[]->ints L≠[]:=λL h e=>h (by unfold ints at e;simpa using e);exact⟨b,off,lv,rv,ha,hb,c1,c2,SliceOf.unmap s1 (λ_=>rfl),SliceOf.unmap s2 (λ_=>rfl),λh=>r1 (hne _ h),λh=>r2 (hne _ h)⟩
theorem zu5 {Fm:List PL}(h:zap Fm=true)(ho:∀(j:Nat) (y:PL),Fm[j]?=some y->(∀i∈y.1,i<j)/\∀i∈y.2,i<j):GoodF Fm:=by obtain⟨h1,h2,h3⟩:=of_decide_eq_true h;exact⟨by omega,h1,ho,λy hy=>by have:=h3 y hy;omega⟩
theorem zvd {R:Nat->Prop}(nv:Value)(Fi:List (List Int × List Int))(w:World)(h:NodeL R encI w nv Fi) :
  Calls Tryz.prog 72 #[.agg #[nv]] w λe w'=>∃b,e=.returned (.bool b)/\(b=true↔zd6 Fi)/\Fr NoM w w':=by
 have hN:=h.low;obtain⟨a,c,rfl,h1,h2,h3⟩:=id h;clear h h1 h2;obtain⟨w1,hw1⟩:=eX (w.alloc (.cells #[.slice a Fi.length c] 26));have hf1:Fr NoM w w1:=by rw[hw1];exact(nW w).alloc _
 have hb1:w1.heap[w.heap.size]?=some (.cells #[.slice a Fi.length c] 26 (0,0)):=by rw[hw1];exact xJ w _
 have HK:=Hh (λW (f:Fr NoM w1 W)=>show W.cell? ⟨w.heap.size,0,none⟩=some (.slice a Fi.length c)from by rw[xX W _ 0 _ _ _ (f.heap hb1 id)];rfl);have HRd:=Hh (λ(k:Nat) (hk:k<Fi.length) (W:World) (f:Fr NoM w1 W)=>show ∃b off al cl ar cr,a=some ⟨b,off,none⟩/\W.cell? ⟨b,off+k*2,none⟩=some (.slice al Fi[k].1.length cl)/\W.cell? ⟨b,off+k*2+1,none⟩=some (.slice ar Fi[k].2.length cr)/\Ints W (.slice al Fi[k].1.length cl) Fi[k].1/\Ints W (.slice ar Fi[k].2.length cr) Fi[k].2 from by
  obtain⟨b,off,lv,rv,ha,_,c1,c2,s1,s2,_,_⟩:=h3 k Fi[k] (xQ hk);have f0:=hf1.trans f (λ_ _ q=>q);have s1:=s1.fr0 f0;have s2:=s2.fr0 f0;obtain⟨al,cl,rfl,_⟩:=id s1;obtain⟨ar,cr,rfl,_⟩:=id s2;exact⟨b,off,al,cl,ar,cr,ha,f0.cell c1 id,f0.cell c2 id,s1,s2⟩)
 have HN:=Hh hN;have HF1:=Hh hf1;have HB1:=Hh hb1;have hk1:=HK.out w1 (Fr.refl _ _);clear hN hf1 hb1 h3;go_enter Tryz.func72,Tryz.ntmps72;go_wp2_with fail;rw[<-hw1];clear hw1;refine(zn9 (.slice a Fi.length c) Fi w1 (HN.out.fr0 HF1.out)).mono ?_
 rintro e w2 ⟨rfl,f2⟩;have F2:=Hh f2;clear f2 hk1;cases hfit:zap Fi with
 | false =>
  have HFit:=Hh hfit;clear hfit;go_wp2;go_ret;exact⟨false,rfl,⟨λe=>(by cases e),λe=>by have:=e.1;rw[HFit.out]at this;cases this⟩,HF1.out.trans F2.out (λ_ _ q=>q)⟩
 | true =>
  have HFit:=Hh hfit;clear hfit;go_wp2_with fail;go_loopw [3] (λi W=>∃k:Nat,i=.int .i64 k/\k<=Fi.length/\risI Fi k/\Fr NoM w1 W) (λi _=>Fi.length-(intOf i).toNat)
  case atStart=>exact⟨0,rfl,yK _,λj y hj=>by omega,F2.out⟩
  case round =>
   obtain⟨k,rfl,hk,hris,hfr⟩:=hrel;obtain⟨w3,rfl⟩:=eX wr;have HRis:=Hh hris;have HFr:=Hh hfr;have HKl:=Hh hk;clear hris hfr hk;have k3:=HK.out w3 HFr.out;have hfl:Fi.length<=120:=(of_decide_eq_true HFit.out).1;by_cases hlt:k<Fi.length
   ·obtain⟨b,off,al,cl,ar,cr,ha,c1,c2,s1,s2⟩:=HRd.out k hlt w3 HFr.out
    subst ha;have ix:=zba (some ⟨b,off,none⟩) Fi.length c k b off hlt rfl;have hc1:=zix (.slice al Fi[k].1.length cl) Fi[k].1 0 ((k:Int)-1) w3 s1;obtain⟨b1,hb1⟩:=eX (zam 0 ((k:Int)-1) none Fi[k].1);obtain⟨b2,hb2⟩:=eX (zam 0 ((k:Int)-1) none Fi[k].2);have HC2:=Hh (λW (f:Fr NoM w3 W)=>zix (.slice ar Fi[k].2.length cr) Fi[k].2 0 ((k:Int)-1) W (s2.fr0 f));rw[<-hb1]at hc1;rw[<-hb2]at HC2;have HCell:=Hh (λW (f:Fr NoM w3 W)=>show W.cell? ⟨w.heap.size,0,none⟩=some (.slice (some ⟨b,off,none⟩) Fi.length c)/\W.cell? ⟨b,off+k*2+1,none⟩=some (.slice ar Fi[k].2.length cr)from⟨f.cell k3 id,f.cell c2 id⟩);have HC1:=Hh hc1;have HB1':=Hh hb1;have HB2':=Hh hb2;clear hc1 hb1 hb2 s1 s2 c2;go_wp2_with fail;refine HC1.out.mono ?_
    rintro e w4 ⟨rfl,q,hw4⟩;have hf4:Fr NoM w3 w4:=by rw[hw4];exact⟨rfl,rfl,rfl,xW _,λ_ _ _=>rfl⟩
    obtain⟨k4,c4⟩:=HCell.out w4 hf4;have hc2:=HC2.out w4 hf4;have HC2':=Hh hc2;have HF4:=Hh hf4;clear hc2 hf4 hw4 k3 c1;cases hb:b1 with
    | false =>
     have HBad:=Hh (show zam 0 ((k:Int)-1) none Fi[k].1=false from by rw[<-HB1'.out,hb]);subst hb;go_wp2;go_ret;exact⟨false,rfl,⟨λe=>(by cases e),λe=>by have h1:=(e.2.1 k Fi[k] hlt (xQ hlt)).1;rw[HBad.out]at h1;cases h1⟩,(HF1.out.trans HFr.out (λ_ _ q=>q)).trans HF4.out (λ_ _ q=>q)⟩
    | true =>
     have HGood:=Hh (show zam 0 ((k:Int)-1) none Fi[k].1=true from by rw[<-HB1'.out,hb]);subst hb;go_wp2_with fail;refine HC2'.out.mono ?_
     rintro e w5 ⟨rfl,q5,hw5⟩;have hf5:Fr NoM w4 w5:=by rw[hw5];exact⟨rfl,rfl,rfl,xW _,λ_ _ _=>rfl⟩
     have HF5:=Hh hf5;clear hf5 hw5 k4 c4;cases hb:b2 with
     | false =>
      have HBad:=Hh (show zam 0 ((k:Int)-1) none Fi[k].2=false from by rw[<-HB2'.out,hb]);subst hb;go_wp2;go_ret;exact⟨false,rfl,⟨λe=>(by cases e),λe=>by have h1:=(e.2.1 k Fi[k] hlt (xQ hlt)).2;rw[HBad.out]at h1;cases h1⟩,((HF1.out.trans HFr.out (λ_ _ q=>q)).trans HF4.out (λ_ _ q=>q)).trans HF5.out (λ_ _ q=>q)⟩
     | true =>
      have HGood2:=Hh (show zam 0 ((k:Int)-1) none Fi[k].2=true from by rw[<-HB2'.out,hb]);subst hb;go_wp2;go_roundw
      case rel =>
       refine⟨k+1,by go_num,by omega,λj y hj hy=>?_,(HFr.out.trans HF4.out (λ_ _ q=>q)).trans HF5.out (λ_ _ q=>q)⟩;by_cases e:j=k
       ·subst e
        rw[xQ hlt]at hy;cases hy
        exact⟨HGood.out,HGood2.out⟩
       ·exact HRis.out j y (by omega) hy
      case measure=>simp[intOf];omega
   ·have hke:k=Fi.length:=by have:=HKl.out;omega
    subst hke;obtain⟨Fm,hFm,ho,hu⟩:=zk9 HRis.out;have hgF:GoodF Fm:=zu5 (by rw[<-zob,<-hFm];exact HFit.out) ho;have hfin:∀b:Bool,b=decide (i2 (zdg (addB [] [] Fm).1 (addB [] [] Fm).2.1 (zf7 [] [] Fm))=Fi)->(b=true↔zd6 Fi):=λb hb=>by
     rw[hb,decide_eq_true_iff];constructor
     ·intro e
      refine⟨HFit.out,HRis.out,λF' hF'=>?_⟩;have e1:Fm=F':=zu3 (hFm.symm.trans hF');subst e1;rw[hFm]at e;exact zu3 e
     ·intro e
      rw[e.2.2 Fm hFm];exact hFm.symm
    obtain⟨k1,k2,k3',k4,k5⟩:=zg5 BookOK.nil Fm hgF.opts;have hup:=zzx (BL:=[]) BookUp.nil Fm;have hlens:=hup.lens k1;obtain⟨NL1,hNL⟩:=eX ((addB [] [] Fm).1);obtain⟨BL1,hBL⟩:=eX ((addB [] [] Fm).2.1);obtain⟨x,hx⟩:=eX (zf7 [] [] Fm);have hxl:x<NL1.length:=by
     rw[hx,hNL];unfold zf7;have hp:=hgF.pos;rw[xY,xQ (by omega)];exact k3' _ (vZ _)
    have hnl:NL1.length<=120:=by have h1:=hgF.le;have h2:(addB [] [] Fm).1.length<=0+Fm.length:=k4;rw[hNL];omega
    rw[<-hNL,<-hBL,<-hx]at hfin;rw[<-hNL,<-hBL]at k1;rw[<-hNL]at hlens;obtain⟨w5,hw5⟩:=eX (w3.alloc (.cells #[.slice none 0 0,.slice none 0 0] 147));have hf5:Fr NoM w3 w5:=by rw[hw5];exact(nW w3).alloc _
    have hb5:w5.heap[w3.heap.size]?=some (.cells #[.slice none 0 0,.slice none 0 0] 147 (0,0)):=by rw[hw5];exact xJ w3 _
    obtain⟨bb,hbb⟩:=eX w3.heap.size;rw[<-hbb]at hb5;have hwb:w.heap.size<bb:=by
     have e1:=HFr.out.size;have e2:w.heap.size<w1.heap.size:=(yZ.1 HB1.out).1;omega
    have hf05:=(HF1.out.trans HFr.out (λ_ _ q=>q)).trans hf5 (λ_ _ q=>q);have hNm:NodeL (· < w.heap.size) encN w5 (.slice a Fi.length c) Fm:=by
     have h:=HN.out.fr0 hf05;rw[hFm]at h ⊢;exact h.ofI
    have HRoot:=Hh (λW (f:Fr NoM w5 W)=>show Calls Tryz.prog 126 #[.pointer (some ⟨bb,0,none⟩),.agg #[.slice a Fi.length c]] W λe w'=>∃S',e=.returned (.int .i64 (x:Nat))/\BookS S' w' bb NL1 BL1/\(∀k,S' k->k=bb\/W.heap.size<=k)/\Fr (λk=>k=bb) W w' from by
     have h:=zns (R:=(· < w.heap.size)) bb (.slice a Fi.length c) [] Fm [] W ((BookS.made hb5).fr0 f) BookOK.nil (hNm.fr0 f) (λk hk e=>by have hk:k<w.heap.size:=hk;omega) hgF.opts (by have:=hgF.le;simp;omega) (λy hy=>by have:=hgF.lens y hy;omega) hgF.pos;rw[<-hNL,<-hBL,<-hx]at h;exact h)
    have HForm:=Hh (λ(S':Nat->Prop) (W:World) (b:BookS S' W bb NL1 BL1)=>zoa bb x NL1 BL1 W b k1 hxl (by omega) (λy hy=>by have:=hlens y hy;omega));have HSame:=Hh (λW (f:Fr (λk=>k=bb) w5 W) (R2:Nat->Prop) (v':Value) (G:List PL) (n:NodeL R2 encN W v' G)=>zvb v' (.slice a Fi.length c) (i2 G) Fi W n.toI ((HN.out.fr0 hf05).fr f (λk hk e=>by have hk:k<w.heap.size:=hk;omega)));have HCell:=Hh (λW (f:Fr (λk=>k=bb) w5 W)=>show W.cell? ⟨w.heap.size,0,none⟩=some (.slice a Fi.length c)from f.cell (hf5.cell k3 id) (λe=>by have e:w.heap.size=bb:=e;omega));have HFin:=Hh hfin;have HBb:=Hh hbb;have HF05:=Hh hf05;have HWb:=Hh hwb;clear hfin hf5 hb5 hf05 hNm hwb k1 k2 k3' k4 k5 hup hlens hNL hBL hx hxl hnl hgF ho hu hFm;go_upto_region 9 with fail;rw[<-hw5,<-hbb];have HW5:=Hh hw5;clear hw5 hbb k3;have F0:Fr NoM w5 w5.drew:=(nW w5).drew;have G0:Fr (λk=>k=bb) w5 w5.drew:=(Fr.refl _ w5).drew;have hc5:=HCell.out w5 (Fr.refl _ _);go_region_held3 (λ(W:World)=>W.cell? ⟨w.heap.size,0,none⟩=some (.slice a Fi.length c))
     (exact HCell.out _ (by assumption))
     (first
      | (go_at_call 126;(with_reducible refine(HRoot.out _ (by assumption)).mono ?_);rintro e w6 ⟨S',rfl,b6,s6,f6⟩;have G6:Fr (λk=>k=bb) w5 w6:=Fr.trans (by assumption) f6 (λ_ _ q=>q))
      | (go_at_call 125;(with_reducible refine(HForm.out _ _ b6).mono ?_);rintro e w7 ⟨v7,rfl,n7,f7⟩;obtain⟨a7,c7,rfl,z7⟩:=id n7;clear z7;have G7:Fr (λk=>k=bb) w5 w7:=Fr.trans G6 f7 (λ_ _ q=>q.elim))
      | (go_at_call 124;(with_reducible refine(HSame.out _ (by assumption) _ _ _ n7).mono ?_);rintro e w8 ⟨rfl,f8⟩;have G8:Fr (λk=>k=bb) w5 w8:=Fr.trans G7 f8 (λ_ _ q=>q.elim))
      | fail)
    all_goals
     have HG8:=Hh G8;clear n7 f7 f8 G6 G7 G8 b6 s6 f6 hc5 F0 G0;obtain⟨bR,hbR⟩:=eX (decide (i2 (zdg NL1 BL1 x)=Fi));rw[<-hbR];have HBR:=Hh hbR;clear hbR;go_wp2;go_ret;refine⟨bR,rfl,HFin.out bR HBR.out,HF05.out.trans HG8.out (λq hq e=>?_)⟩;have:=HWb.out;omega
structure BkSt (w1 W:World) (bb:Nat) (V:List PL) (BV:List Nat) (S:Nat->Prop) (v1:Value) (A1 c1:List Nat) (v2:Value) (A2 c2:List Nat) (v3:Value) (A3 c3:List Nat):Prop where
 book:BookS S W bb V BV
 ok:PoolOK V BV
 sub:∀q,S q->w1.heap.size<=q/\q<W.heap.size
 o1:W.ownsRow w1.heap.size 3 1 v1 A1.length (A1.map encN)
 o2:W.ownsRow w1.heap.size 3 1 v2 A2.length (A2.map encN)
 o3:W.ownsRow w1.heap.size 3 1 v3 A3.length (A3.map encN)
 n1:∀b,v1.ownBlock=some b->¬S b
 n2:∀b,v2.ownBlock=some b->¬S b
 n3:∀b,v3.ownBlock=some b->¬S b
 s12:∀b,v1.ownBlock=some b->v2.ownBlock≠some b
 s13:∀b,v1.ownBlock=some b->v3.ownBlock≠some b
 s23:∀b,v2.ownBlock=some b->v3.ownBlock≠some b
 r1:RowC V A1 c1
 r2:RowC V A2 c2
 r3:RowC V A3 c3
 fr:Fr NoM w1 W
section
variable {w1 W W' Wa:World}{bb:Nat}{V:List PL}{BV:List Nat}{S S':Nat->Prop}{v1 v2 v3 v4:Value}{A1 c1 A2 c2 A3 c3:List Nat}{x c:Nat}
theorem BkSt.fr0 (h:BkSt w1 W bb V BV S v1 A1 c1 v2 A2 c2 v3 A3 c3)(hf:Fr NoM W W'):BkSt w1 W' bb V BV S v1 A1 c1 v2 A2 c2 v3 A3 c3 :=
 ⟨h.book.fr0 hf,h.ok,λq hq=>⟨(h.sub q hq).1,kQ (h.sub q hq).2 hf.size⟩,za1 h.o1 hf (λ_ _ q=>q),za1 h.o2 hf (λ_ _ q=>q),za1 h.o3 hf (λ_ _ q=>q),h.n1,h.n2,h.n3,h.s12,h.s13,h.s23,h.r1,h.r2,h.r3,h.fr.trans hf (λ_ _ q=>q)⟩
theorem BkSt.app (h:BkSt w1 W bb V BV S v1 A1 c1 v2 A2 c2 v3 A3 c3)(ha:Fr NoM W Wa)(ho:W'.ownsRow w1.heap.size 3 1 v4 (A1.length+1) (A1.map encN ++ [x].map encN))(hf:Fr (Own1 v1) Wa W')(hq:v4.ownBlock=v1.ownBlock\/∃b,v4.ownBlock=some b/\Wa.heap.size<=b)(hx:x<V.length)(hc:(za0 V).getD x 0=c) :
  BkSt w1 W' bb V BV S v4 (A1 ++ [x]) (c1 ++ [c]) v2 A2 c2 v3 A3 c3:=by
 have h:=h.fr0 ha;have hlt:∀b,v4.ownBlock=some b->v1.ownBlock=some b\/Wa.heap.size<=b:=λb hb=>by
  rcases hq with h1|⟨b',h1,h2⟩
  ·rw[h1]at hb;exact .inl hb
  ·rw[h1]at hb;cases hb;exact .inr h2
 exact⟨h.book.fr hf (λk hk e=>h.n1 k e hk),h.ok,λq hq=>⟨(h.sub q hq).1,kQ (h.sub q hq).2 hf.size⟩,by rw[yX,vK];exact ho,za1 h.o2 hf (λb hb e=>h.s12 b e hb),za1 h.o3 hf (λb hb e=>h.s13 b e hb),
  λb hb hS=>by
   rcases hlt b hb with h1|h1
   ·exact h.n1 b h1 hS
   ·have:=(h.sub b hS).2;omega,
  h.n2,h.n3,λb hb hu=>by
   rcases hlt b hb with h1|h1
   ·exact h.s12 b h1 hu
   ·have:=(h.o2.lt b hu).2;omega,λb hb hu=>by
   rcases hlt b hb with h1|h1
   ·exact h.s13 b h1 hu
   ·have:=(h.o3.lt b hu).2;omega,h.s23,h.r1.snoc hx hc,h.r2,h.r3,
  h.fr.trans hf (λq hq e=>by have:=(h.o1.lt q e).1;omega)⟩
theorem BkSt.nats1 (h:BkSt w1 W bb V BV S v1 A1 c1 v2 A2 c2 v3 A3 c3):Nats W v1 A1:=SliceOf.of_owns h.o1 rfl
end
structure BkN (U:List Nat) (S:Nat->Prop) (W:World) (bb:Nat) (V:List PL) (BV:List Nat):Prop where
 book:BookS S W bb V BV
 ok:PoolOK V BV
 lt:∀q,S q->q<W.heap.size
 inU:∀x,x<V.length->(za0 V).getD x 0∈U
def BkPost (U:List Nat)(bb:Nat)(w:World)(S:Nat->Prop)(V:List PL)(c:Nat)(e:Ending)(w':World):Prop :=
 ∃(i:Nat) (V':List PL) (BV':List Nat) (S':Nat->Prop),e=.returned (.int .i64 (i:Int))/\BkN U S' w' bb V' BV'/\V <+: V'/\(∀q,S' q->S q\/w.heap.size<=q)/\Fr S w w'/\i<V'.length/\(za0 V').getD i 0=c
section
variable {U:List Nat}{S:Nat->Prop}{w w':World}{bb:Nat}{V:List PL}{BV:List Nat}
theorem BkN.fr0 (h:BkN U S w bb V BV)(hf:Fr NoM w w'):BkN U S w' bb V BV:=⟨h.book.fr0 hf,h.ok,λq hq=>kQ (h.lt q hq) hf.size,h.inU⟩
theorem BkN.len (h:BkN U S w bb V BV):V.length<=U.length:=zhc h.ok h.inU
theorem BkN.start {W:World}(h:W.heap[bb]?=some (.cells #[.slice none 0 0,.slice none 0 0] 147 (0,0))):BkN U (λq=>q=bb) W bb [] [] :=
 ⟨BookS.made h,PoolOK.nil,λq hq=>by
  have:=(yZ.1 h).1;rw[hq];exact this,λx hx=>by simp at hx⟩
theorem BkPost.of0 {w0:World}{c:Nat}{e:Ending}(hf:Fr NoM w0 w)(h:BkPost U bb w S V c e w'):BkPost U bb w0 S V c e w':=by obtain⟨i,V',BV',S',h1,h2,h3,h4,h5,h6⟩:=h;exact⟨i,V',BV',S',h1,h2,h3,λq hq=>(h4 q hq).imp_right (kJ hf.size),hf.any.trans h5 (λ_ _ q=>q),h6⟩
theorem yas (lv rv:Value)(L R cs ds:List Nat)(h:BkN U S w bb V BV)(hL:Nats w lv L)(hR:Nats w rv R)(rL:RowC V L cs)(rR:RowC V R ds)(hin:mkC cs ds∈U)(hUl:U.length<1000000)(ll:L.length<1000000000)(lr:R.length<1000000000) : Calls Tryz.prog 140 #[.pointer (some ⟨bb,0,none⟩),lv,rv] w λe w'=>BkPost U bb w S V (mkC cs ds) e w':=by have hlen:=h.len;refine(zi8 bb lv rv V BV L R w h.book hL hR (λj x hx=>rL.1 x (xK hx)) (λj x hx=>rR.1 x (xK hx)) ll lr (by omega) (λx hx=>by have:=(zfg h.ok).lt V.length (xW _) x hx;omega)).mono ?_;rintro e w' ⟨rfl,hb,hf⟩;obtain⟨q1,q2,q3,q4⟩:=zf9 h.ok rL rR;rw[zck h.ok]at hb ⊢;have hm:=h.book.m;refine⟨(za4 V BV L R).2.2,(za4 V BV L R).1,(za4 V BV L R).2.1,_,rfl,⟨hb.cut,q1,λq hq=>hq.2,zga h.inU (by rw[q4];exact hin)⟩,q2,λq hq=>hq.1,hf.mono (λk _ z=>hm k z),q3,q4⟩
end
theorem zux {t:Int}{p:Nat}(hp:p<=24)(x:Int):redT (t*2^(24-p)+x*2^(24-p)) 24=redT (t+x) p:=by rw[<-Int.add_mul];have h:=zc6 (24-p) p (t+x);rw[show p+(24-p)=24 from by omega]at h;exact h
def yf1 (U:List Nat)(bb:Nat)(t:Int)(p:Nat):Prop:=∀(S:Nat->Prop) (V:List PL) (BV:List Nat) (w:World),BkN U S w bb V BV ->
  Calls Tryz.prog 146 #[.pointer (some ⟨bb,0,none⟩),.agg #[.int .i64 t,.int .i64 (p:Int)]] w λe w'=>BkPost U bb w S V (numC t p) e w'
theorem zyp {U:List Nat}(hUl:U.length<1000000)(bb:Nat):∀(n:Nat) (t:Int) (p:Nat),numC t p<n->Red t p->t.natAbs<=1000000->p<=16->(∀a,SubC (numC t p) a->a∈U)->yf1 U bb t p:=by
 intro n;induction n with
 | zero=>intro t p h;omega
 | succ n ih =>
  intro t p hn hr ht hp hU S V BV w hB;have hin:numC t p∈U:=hU _ .root;obtain⟨w1,hw1⟩:=eX (w.alloc (.cells #[.int .i64 t,.int .i64 (p:Int)] 29));obtain⟨w2,hw2⟩:=eX (w1.alloc (.cells #[.int .i64 1,.int .i64 (p:Int)] 29));have f1:Fr NoM w w1:=by rw[hw1];exact(nW w).alloc _
  have f2:Fr NoM w1 w2:=by rw[hw2];exact(nW w1).alloc _
  have hs1:w1.heap.size=w.heap.size+1:=by rw[hw1];simp
  have e1:w2.heap[w.heap.size]?=some (.cells #[.int .i64 t,.int .i64 (p:Int)] 29 (0,0)):=by rw[hw2,hw1];exact((nW _).alloc _).heap (xJ w _) id
  have e2:w2.heap[w.heap.size+1]?=some (.cells #[.int .i64 1,.int .i64 (p:Int)] 29 (0,0)):=by rw[hw2,<-hs1];exact xJ w1 _
  have hlt:=hB.lt;have HK:=Hh (λW (f:Fr (λq=>S q\/w2.heap.size<=q) w2 W)=>show W.cell? ⟨w.heap.size,0,none⟩=some (.int .i64 t)/\W.cell? ⟨w.heap.size,1,none⟩=some (.int .i64 (p:Int))/\W.cell? ⟨w.heap.size+1,0,none⟩=some (.int .i64 1)/\W.cell? ⟨w.heap.size+1,1,none⟩=some (.int .i64 (p:Int))from by
   have l1:=(yZ.1 e1).1;have l2:=(yZ.1 e2).1;have h1:=f.heap e1 (λq=>by
    rcases q with q|q
    ·have:=hlt _ q;omega
    ·omega)
   have h2:=f.heap e2 (λq=>by
    rcases q with q|q
    ·have:=hlt _ q;omega
    ·omega)
   exact⟨by rw[xX W _ 0 _ _ _ h1];rfl,by rw[xX W _ 1 _ _ _ h1];rfl,by rw[xX W _ 0 _ _ _ h2];rfl,by rw[xX W _ 1 _ _ _ h2];rfl⟩)
  have HB:=Hh (hB.fr0 (f1.trans f2 (λ_ _ q=>q)));have F2:=Hh (f1.trans f2 (λ_ _ q=>q));have HNeg:=Hh (λ(W:World)=>zfx 1 (p:Int) W (by omega));have HAdd:=Hh (λ(W:World) (x:Int) (hx:x=1\/x=-1)=>show Calls Tryz.prog 188 #[.agg #[.int .i64 t,.int .i64 (p:Int)],.agg #[.int .i64 x,.int .i64 (p:Int)]] W λe w'=>e=.returned (dyV (redT (t+x) p))/\Fr NoM W w' from by
   have h:=zm5 t x p p W (by omega) (by omega) (by omega) (by omega);rw[zux (by omega)]at h;exact h)
  have HIh:=Hh ih;have HUl:=Hh hUl;have Hn:=Hh hn;have HR:=Hh hr;have HU:=Hh hU;have HIn:=Hh hin;have HLt:=Hh hlt;have HPt:=Hh (And.intro ht hp);have htb:-1000000<=t/\t<=1000000:=by omega
  clear f1 f2 hs1 e1 e2 hB ih hn hr hU hin hUl hlt ht;obtain⟨k0,k1,k2,k3⟩:=HK.out w2 (Fr.refl _ _);obtain⟨⟨x1,y1⟩,hx1⟩:∃x,x=redT (t-1) p:=⟨_,rfl⟩;obtain⟨⟨x2,y2⟩,hx2⟩:∃x,x=redT (t+1) p:=⟨_,rfl⟩;have HX1:=Hh hx1;have HX2:=Hh hx2;have HA1:=Hh (λ(W:World)=>show Calls Tryz.prog 188 #[.agg #[.int .i64 t,.int .i64 (p:Int)],.agg #[.int .i64 (-1),.int .i64 (p:Int)]] W λe w'=>e=.returned (.agg #[.int .i64 x1,.int .i64 (y1:Int)])/\Fr NoM W w' from by
   have h:=HAdd.out W (-1) (.inr rfl);rw[show t + -1=t-1 from by omega,<-hx1]at h;exact h)
  have HA2:=Hh (λ(W:World)=>show Calls Tryz.prog 188 #[.agg #[.int .i64 t,.int .i64 (p:Int)],.agg #[.int .i64 1,.int .i64 (p:Int)]] W λe w'=>e=.returned (.agg #[.int .i64 x2,.int .i64 (y2:Int)])/\Fr NoM W w' from by
   have h:=HAdd.out W 1 (.inl rfl);rw[<-hx2]at h;exact h)
  clear HAdd hx1 hx2
  -- what comes of a call of put for rows of one game each
  have HPut:=Hh (λ(W:World) (S':Nat->Prop) (V':List PL) (BV':List Nat) (lv rv:Value) (L R cs ds:List Nat) (hb:BkN U S' W bb V' BV') (hL:Nats W lv L) (hR:Nats W rv R) (rL:RowC V' L cs) (rR:RowC V' R ds) (hc:mkC cs ds=numC t p) (ll:L.length<=1) (lr:R.length<=1)=>show Calls Tryz.prog 140 #[.pointer (some ⟨bb,0,none⟩),lv,rv] W λe w'=>BkPost U bb W S' V' (numC t p) e w' from by
   have h:=yas lv rv L R cs ds hb hL hR rL rR (by rw[hc];exact HIn.out) HUl.out (by omega) (by omega);rw[hc]at h;exact h)
  by_cases ht0:t=0
  ·have hq:(t == 0)=true:=by simp[ht0]
   have hp0:p=0:=HR.out.resolve_right (by rw[ht0];simp);have hc:mkC [] []=numC t p:=by rw[ht0,hp0];rfl
   have HP:=Hh (HPut.out w2 S V BV (.slice none 0 0) (.slice none 0 0) [] [] [] [] HB.out (SliceOf.nil _ _) (SliceOf.nil _ _) (RowC.nil _) (RowC.nil _) hc (by simp) (by simp));clear hc hp0 ht0;go_enter Tryz.func146,Tryz.ntmps146;go_wp2_with fail;rw[<-hw1,<-hw2];clear hw1 hw2;(with_reducible refine HP.out.mono ?_);rintro e w3 ⟨i,V',BV',S',rfl,h2,h3,h4,h5,h6⟩;have HE:=Hh (BkPost.of0 F2.out ⟨i,V',BV',S',rfl,h2,h3,h4,h5,h6⟩:BkPost U bb w S V (numC t p) (.returned (.int .i64 (i:Int))) w3);clear h2 h3 h4 h5 h6;go_wp2_with fail;go_ret;exact HE.out
  ·have hq:(t == 0)=false:=by simp[ht0]
   by_cases hpp:0<p
   ·have hside:=zt8 HR.out hpp
    rw[<-HX1.out,<-HX2.out]at hside;have hside:numC t p=mkC [numC x1 y1] [numC x2 y2]:=hside;have g1:=zf4 HR.out HPt.out.1 hpp HPt.out.2 (t-1) (.inl rfl);have g2:=zf4 HR.out HPt.out.1 hpp HPt.out.2 (t+1) (.inr rfl);rw[<-HX1.out]at g1;rw[<-HX2.out]at g2;have o1:optC (numC t p) (numC x1 y1):=by rw[hside];exact .inl ((zag _ _ _).2 (by simp))
    have o2:optC (numC t p) (numC x2 y2):=by rw[hside];exact .inr ((zaf _ _ _).2 (by simp))
    have HI1:=Hh (HIh.out x1 y1 (by have:=zah o1;have:=Hn.out;omega) g1.2.2.1 g1.2.2.2 (by have:=g1.2.1;have:=HPt.out.2;show y1<=16;omega) (λa ha=>HU.out a ((SubC.root.step o1).trans ha)));have HI2:=Hh (HIh.out x2 y2 (by have:=zah o2;have:=Hn.out;omega) g2.2.2.1 g2.2.2.2 (by have:=g2.2.1;have:=HPt.out.2;show y2<=16;omega) (λa ha=>HU.out a ((SubC.root.step o2).trans ha)));have HL1:=Hh (λW (f:Fr NoM w2 W)=>show Calls Tryz.prog 146 #[.pointer (some ⟨bb,0,none⟩),.agg #[.int .i64 x1,.int .i64 (y1:Int)]] W λe w'=>BkPost U bb W S V (numC x1 y1) e w' from HI1.out S V BV W (HB.out.fr0 f));have HSd:=Hh hside;have K0:Fr NoM w2 w2.drew:=(nW w2).drew;obtain⟨k4,k5,k6,k7⟩:=HK.out w2.drew K0.any;clear ht0 hside g1 g2 o1 o2;go_enter Tryz.func146,Tryz.ntmps146;go_upto_region 5 with fail;rw[<-hw1,<-hw2];clear hw1 hw2;clear k4 k5 k6 k7;go_cut [6]from 21 to 26 (λv W=>BkPost U bb w2 S V (numC x1 y1) (.returned v) W)
    case first =>
     obtain⟨k4,k5,k6,k7⟩:=HK.out w2.drew K0.any;go_region_law (first
      | (go_simp;first
       | (go_at_call 189;(with_reducible refine(HNeg.out _).mono ?_);rintro e wa ⟨rfl,fa⟩;have ka:Fr NoM w2 wa:=Fr.trans (by assumption) fa (λ_ _ q=>q);obtain⟨i0,i1,i2,i3⟩:=HK.out wa ka.any)
       | (go_at_call 188;(with_reducible refine(HA1.out _).mono ?_);rintro e wb ⟨rfl,fb⟩;have kb:Fr NoM w2 wb:=Fr.trans (by assumption) fb (λ_ _ q=>q);obtain⟨j0,j1,j2,j3⟩:=HK.out wb kb.any)
       | (go_at_call 146;(with_reducible refine(HL1.out wb kb).mono ?_);rintro e wc ⟨p1,V1,B1,S1,rfl,b1,v1,s1,f1,l1,q1⟩;have HPst:=Hh (BkPost.of0 kb ⟨p1,V1,B1,S1,rfl,b1,v1,s1,f1,l1,q1⟩:BkPost U bb w2 S V (numC x1 y1) (.returned (.int .i64 (p1:Int))) wc);clear b1 v1 s1 f1 l1 q1)
       | fail)
      | fail)
     all_goals
      go_wp2_with fail;go_meet
      case rel=>exact HPst.out
    case rest =>
    obtain⟨p1,V1,B1,S1,he,b1,v1,s1,f1,l1,q1⟩:=hcut;have he:=Ending.returned.inj he;subst he;have FC:=Hh (f1.mono (λ_ _ q=>.inl q):Fr (λq=>S q\/w2.heap.size<=q) w2 wc);have HP2:=Hh (λW (f:Fr NoM wc W)=>show Calls Tryz.prog 146 #[.pointer (some ⟨bb,0,none⟩),.agg #[.int .i64 x2,.int .i64 (y2:Int)]] W λe w'=>BkPost U bb W S1 V1 (numC x2 y2) e w' from HI2.out S1 V1 B1 W (b1.fr0 f));have HS1:=Hh s1;have HV1:=Hh v1;have HL1':=Hh l1;have HQ1:=Hh q1;have HF1:=Hh f1;clear b1 v1 s1 f1 l1 q1;obtain⟨k4,k5,k6,k7⟩:=HK.out wc FC.out;go_wp2_with fail;(with_reducible refine(HA2.out wc).mono ?_);rintro e wd ⟨rfl,fd⟩;have FD:=Hh fd;clear k4 k5 k6 k7 fd;go_wp2_with fail;(with_reducible refine(HP2.out wd FD.out).mono ?_);rintro e we ⟨p2,V2,B2,S2,rfl,b2,v2,s2,f2,l2,q2⟩;obtain⟨w6,hw6⟩:=eX ((we.alloc (.cells #[.int .i64 (p1:Int)] 3)).alloc (.cells #[.int .i64 (p2:Int)] 3));have f6:Fr NoM we w6:=by rw[hw6];exact((nW we).alloc _).alloc _
    have n1:Nats w6 (.slice (some ⟨we.heap.size,0,none⟩) 1 1) [p1]:=by
     rw[hw6];exact(SliceOf.one encN we p1 3).fr0 ((nW _).alloc _)
    have n2:Nats w6 (.slice (some ⟨we.heap.size+1,0,none⟩) 1 1) [p2]:=by
     have h:=SliceOf.one encN (we.alloc (.cells #[.int .i64 (p1:Int)] 3)) p2 3;rw[xZ]at h;rw[hw6];exact h
    have r1:RowC V2 [p1] [numC x1 y1]:=(RowC.nil V2).snoc (by have:=v2.length_le;have:=HL1'.out;omega) (by rw[zan v2 HL1'.out];exact HQ1.out);have r2:RowC V2 [p2] [numC x2 y2]:=(RowC.nil V2).snoc l2 q2;have HP3:=Hh (HPut.out w6 S2 V2 B2 _ _ [p1] [p2] [numC x1 y1] [numC x2 y2] (b2.fr0 f6) n1 n2 r1 r2 HSd.out.symm (by simp) (by simp));have HV2:=Hh (HV1.out.trans v2);have HF6:=Hh f6;have HF2:=Hh f2;have HS2:=Hh s2;clear b2 v2 s2 f2 l2 q2 f6 n1 n2 r1 r2;go_wp2_with fail;rw[<-hw6];clear hw6;(with_reducible refine HP3.out.mono ?_);rintro e w7 ⟨p3,V3,B3,S3,rfl,b3,v3,s3,f3,l3,q3⟩;have hS2:∀q,S2 q->S q\/w2.heap.size<=q:=λq hq=>by
     rcases HS2.out q hq with h|h
     ·exact HS1.out q h
     ·have:=FD.out.size;have:=HF1.out.size;exact .inr (by omega)
    have hfr:Fr S w2 we:=(HF1.out.trans FD.out (λ_ _ q=>q.elim)).trans HF2.out (λk hk h=>by
     rcases HS1.out k h with h|h
     ·exact h
     ·omega)
    have HE:=Hh (BkPost.of0 F2.out ⟨p3,V3,B3,S3,rfl,b3,HV2.out.trans v3,(λq hq=>by
     rcases s3 q hq with h|h
     ·exact hS2 q h
     ·have:=HF6.out.size;have:=hfr.size;exact .inr (by omega)),(hfr.trans HF6.out (λ_ _ q=>q.elim)).trans f3 (λk hk h=>by
      rcases hS2 k h with h|h
      ·exact h
      ·omega),l3,q3⟩:BkPost U bb w S V (numC t p) (.returned (.int .i64 (p3:Int))) w7)
    clear b3 v3 s3 f3 l3 q3 hS2 hfr;go_wp2_with fail;go_ret;exact HE.out
   ·have hp0:p=0:=by omega
    have HEnd:=Hh (λ(we W':World) (p1:Nat) (V1:List PL) (S1:Nat->Prop) (e:Ending) (hv1:V <+: V1) (hS1:∀q,S1 q->S q\/w2.heap.size<=q) (hF1:Fr S w2 we) (h:BkPost U bb we S1 V1 (numC t p) e W')=>show BkPost U bb w S V (numC t p) e W' from by
     obtain⟨p3,V3,B3,S3,he,b3,v3,s3,f3,l3,q3⟩:=h;exact BkPost.of0 F2.out ⟨p3,V3,B3,S3,he,b3,hv1.trans v3,(λq hq=>by
      rcases s3 q hq with h|h
      ·exact hS1 q h
      ·have:=hF1.size;exact .inr (by omega)),hF1.trans f3 (λk hk h=>by
      rcases hS1 k h with h|h
      ·exact h
      ·omega),l3,q3⟩)
    by_cases htp:0<t
    ·have ex:x1=t-1/\y1=0:=by
      have h:=HX1.out;rw[hp0]at h;exact⟨congrArg Prod.fst h,congrArg Prod.snd h⟩
     have hside:numC t p=mkC [numC x1 y1] []:=by rw[hp0,ex.1,ex.2,zee,zee];exact zhn htp
     have o1:optC (numC t p) (numC x1 y1):=by rw[hside];exact .inl ((zag _ _ _).2 (by simp))
     have HI1:=Hh (HIh.out x1 y1 (by have:=zah o1;have:=Hn.out;omega) (.inl ex.2) (by have:=HPt.out.1;omega) (by omega) (λa ha=>HU.out a ((SubC.root.step o1).trans ha)));have HL1:=Hh (λW (f:Fr NoM w2 W)=>show Calls Tryz.prog 146 #[.pointer (some ⟨bb,0,none⟩),.agg #[.int .i64 x1,.int .i64 (y1:Int)]] W λe w'=>BkPost U bb W S V (numC x1 y1) e w' from HI1.out S V BV W (HB.out.fr0 f));have HSd:=Hh hside;have K0:Fr NoM w2 w2.drew:=(nW w2).drew;obtain⟨k4,k5,k6,k7⟩:=HK.out w2.drew K0.any;have hpf:¬(0:Int)<(p:Int):=by omega
     clear ht0 hside ex o1 hp0;go_enter Tryz.func146,Tryz.ntmps146;go_upto_region 9 with fail;rw[<-hw1,<-hw2];clear hw1 hw2;go_region_law (first
      | (go_simp;first
       | (go_at_call 189;(with_reducible refine(HNeg.out _).mono ?_);rintro e wa ⟨rfl,fa⟩;have ka:Fr NoM w2 wa:=Fr.trans (by assumption) fa (λ_ _ q=>q);obtain⟨i0,i1,i2,i3⟩:=HK.out wa ka.any)
       | (go_at_call 188;(with_reducible refine(HA1.out _).mono ?_);rintro e wb ⟨rfl,fb⟩;have kb:Fr NoM w2 wb:=Fr.trans (by assumption) fb (λ_ _ q=>q);obtain⟨j0,j1,j2,j3⟩:=HK.out wb kb.any)
       | (go_at_call 146;(with_reducible refine(HL1.out wb kb).mono ?_);rintro e wc ⟨p1,V1,B1,S1,rfl,b1,v1,s1,f1,l1,q1⟩;have HPp:=Hh (HPut.out (wc.alloc (.cells #[.int .i64 (p1:Int)] 3)) S1 V1 B1 (.slice (some ⟨wc.heap.size,0,none⟩) 1 1) (.slice none 0 0) [p1] [] [numC x1 y1] [] (b1.fr0 ((nW wc).alloc _)) (SliceOf.one encN wc p1 3) (SliceOf.nil _ _) ((RowC.nil V1).snoc l1 q1) (RowC.nil _) HSd.out.symm (by simp) (by simp));have HPq:=Hh (λ(W':World) (e:Ending) (h:BkPost U bb (wc.alloc (.cells #[.int .i64 (p1:Int)] 3)) S1 V1 (numC t p) e W')=>HEnd.out (wc.alloc (.cells #[.int .i64 (p1:Int)] 3)) W' p1 V1 S1 e v1 (λq hq=>(s1 q hq).imp_right (λh=>kJ kb.size h)) ((kb.any.trans f1 (λ_ _ q=>q)).alloc _) h);clear b1 v1 s1 f1 l1 q1)
       | (go_at_call 140;(with_reducible refine HPp.out.mono ?_);rintro e wd hP;have HPr:=Hh (HPq.out wd e hP);obtain⟨p3,V3,B3,S3,rfl,z⟩:=hP;clear z)
       | fail)
      | fail)
     all_goals
      go_wp2;go_ret;exact HPr.out
    ·have ex:x2=t+1/\y2=0:=by
      have h:=HX2.out;rw[hp0]at h;exact⟨congrArg Prod.fst h,congrArg Prod.snd h⟩
     have htn:t<0:=by omega
     have hside:numC t p=mkC [] [numC x2 y2]:=by rw[hp0,ex.1,ex.2,zee,zee];exact zhp htn
     have o1:optC (numC t p) (numC x2 y2):=by rw[hside];exact .inr ((zaf _ _ _).2 (by simp))
     have HI1:=Hh (HIh.out x2 y2 (by have:=zah o1;have:=Hn.out;omega) (.inl ex.2) (by have:=HPt.out.1;omega) (by omega) (λa ha=>HU.out a ((SubC.root.step o1).trans ha)));have HL1:=Hh (λW (f:Fr NoM w2 W)=>show Calls Tryz.prog 146 #[.pointer (some ⟨bb,0,none⟩),.agg #[.int .i64 x2,.int .i64 (y2:Int)]] W λe w'=>BkPost U bb W S V (numC x2 y2) e w' from HI1.out S V BV W (HB.out.fr0 f));have HSd:=Hh hside;have hpf:¬(0:Int)<(p:Int):=by omega
     clear ht0 hside ex o1 hp0;go_enter Tryz.func146,Tryz.ntmps146;go_upto_region 10 with fail;rw[<-hw1,<-hw2];clear hw1 hw2;go_wp2_with fail;(with_reducible refine(HA2.out w2).mono ?_);rintro e wb ⟨rfl,kb⟩;go_wp2_with fail;(with_reducible refine(HL1.out wb kb).mono ?_);rintro e wc ⟨p1,V1,B1,S1,rfl,b1,v1,s1,f1,l1,q1⟩;have HPp:=Hh (HPut.out (wc.alloc (.cells #[.int .i64 (p1:Int)] 3)) S1 V1 B1 (.slice none 0 0) (.slice (some ⟨wc.heap.size,0,none⟩) 1 1) [] [p1] [] [numC x2 y2] (b1.fr0 ((nW wc).alloc _)) (SliceOf.nil _ _) (SliceOf.one encN wc p1 3) (RowC.nil _) ((RowC.nil V1).snoc l1 q1) HSd.out.symm (by simp) (by simp));have HPq:=Hh (λ(W':World) (e:Ending) (h:BkPost U bb (wc.alloc (.cells #[.int .i64 (p1:Int)] 3)) S1 V1 (numC t p) e W')=>HEnd.out (wc.alloc (.cells #[.int .i64 (p1:Int)] 3)) W' p1 V1 S1 e v1 (λq hq=>(s1 q hq).imp_right (λh=>kJ kb.size h)) ((kb.any.trans f1 (λ_ _ q=>q)).alloc _) h);clear b1 v1 s1 f1 l1 q1;go_wp2_with fail;(with_reducible refine HPp.out.mono ?_);rintro e wd hP;have HPr:=Hh (HPq.out wd e hP);obtain⟨p3,V3,B3,S3,rfl,z⟩:=hP;clear z;go_wp2_with fail;go_ret;exact HPr.out
theorem zmc {t p:Nat}(hp:p<=24):(t:Int)*2^(24-p)/2^24=((t/2^p:Nat):Int):=by
 have e1:(t:Int)*2^(24-p)=((t*2^(24-p):Nat):Int):=by simp
 have e2:(2:Int)^24=((2^24:Nat):Int):=by simp
 rw[e1,e2,<-Int.natCast_ediv,show(2:Nat)^24=2^p*2^(24-p)from by rw[<-Nat.pow_add,show p+(24-p)=24 from by omega],Nat.mul_div_mul_right _ _ (Nat.pow_pos (by decide))]
theorem zm4 (t p:Nat)(w:World)(hp:p<=24)(ht:t<=1073741824):Calls Tryz.prog 187 #[.agg #[.int .i64 (t:Int),.int .i64 (p:Int)]] w λe w'=>e=.returned (.int .i64 ((t/2^p:Nat):Int))/\Fr NoM w w':=by(obtain⟨w1,hw1⟩:=eX (w.alloc (.cells #[.int .i64 (t:Int),.int .i64 (p:Int)] 29));have f1:Fr NoM w w1:=by rw[hw1];exact(nW w).alloc _);obtain⟨m,hm⟩:=eX ((t:Int)*2^(24-p):Int);have hb:=zfn (T:=(t:Int)) hp (by omega);rw[<-hm]at hb;have HS:=Hh (show Calls Tryz.prog 139 #[.agg #[.int .i64 (t:Int),.int .i64 (p:Int)]] w1 λe w'=>e=.returned (.int .i64 m)/\Fr NoM w1 w' from by rw[hm];exact zc5 (t:Int) p w1 hp (by omega));have HE:=Hh (show m/16777216=((t/2^p:Nat):Int)from by rw[<-zmc hp,hm];rfl);have F1:=Hh f1;clear f1 hm;go_enter Tryz.func187,Tryz.ntmps187;go_wp2_with fail;rw[<-hw1];clear hw1;(with_reducible refine HS.out.mono ?_);rintro e w2 ⟨rfl,f2⟩;have F2:=Hh (F1.out.trans f2 (λ_ _ q=>q));clear f2;go_wp2;go_ret;exact⟨by rw[<-HE.out];rfl,F2.out⟩
theorem zve (t:Int)(p:Nat)(w:World)(hp:p<=16)(ht:t.natAbs<=1000000):Calls Tryz.prog 145 #[.agg #[.int .i64 t,.int .i64 (p:Int)]] w λe w'=>e=.returned (.int .i64 ((numB t p:Nat):Int))/\Fr NoM w w':=by
 obtain⟨n,hn⟩:=eX t.natAbs;obtain⟨w1,hw1⟩:=eX (w.alloc (.cells #[.int .i64 (n:Int),.int .i64 (p:Int)] 29));have f1:Fr NoM w w1:=by rw[hw1];exact(nW w).alloc _
 have e1:w1.heap[w.heap.size]?=some (.cells #[.int .i64 (n:Int),.int .i64 (p:Int)] 29 (0,0)):=by rw[hw1];exact xJ w _
 obtain⟨q,hq⟩:=eX (n/2^p);have hql:q<=n:=by rw[hq];exact Nat.div_le_self _ _
 have HFl:=Hh (λ(W:World)=>show Calls Tryz.prog 187 #[.agg #[.int .i64 (n:Int),.int .i64 (p:Int)]] W λe w'=>e=.returned (.int .i64 (q:Int))/\Fr NoM W w' from by rw[hq];exact zm4 n p W (by omega) (by omega));have HK:=Hh (λW (f:Fr NoM w1 W)=>(by
  have h0:=f.heap e1 id;exact⟨by rw[xX W _ 0 _ _ _ h0];rfl,by rw[xX W _ 1 _ _ _ h0];rfl⟩:W.cell? ⟨w.heap.size,0,none⟩=some (.int .i64 (n:Int))/\W.cell? ⟨w.heap.size,1,none⟩=some (.int .i64 (p:Int))))
 have F1:=Hh f1;have HNB:=Hh (show numB t p=if p=0 then n else q+p+1 from by unfold numB;rw[<-hn,<-hq]);clear hq;have HN:=Hh hn;have hnb:n<=1000000:=by omega
 have K0:Fr NoM w1 w1.drew:=(nW w1).drew;by_cases hneg:t<0
 ·have hnt:-t=(n:Int):=by omega
  clear f1 e1 ht hn;by_cases hp0:p=0
  ·have hq0:((p:Int) == 0)=true:=by simp[hp0]
   have HE:=Hh (show numB t p=n from by rw[HNB.out,if_pos hp0]);clear hp0;go_enter Tryz.func145,Tryz.ntmps145;go_wp2;go_ret;rw[<-hw1];exact⟨by rw[HE.out];rfl,F1.out⟩
  ·have hq0:((p:Int) == 0)=false:=by simp[hp0]
   have HE:=Hh (show numB t p=q+p+1 from by rw[HNB.out,if_neg hp0]);clear hp0;go_enter Tryz.func145,Tryz.ntmps145;go_upto_region 5 with fail;rw[<-hw1];clear hw1;obtain⟨k0,k1⟩:=HK.out w1.drew K0;go_region_law (first
    | (go_simp;first
     | (go_at_call 187;(with_reducible refine(HFl.out _).mono ?_);rintro e wa ⟨rfl,fa⟩;have ka:Fr NoM w1 wa:=Fr.trans (by assumption) fa (λ_ _ q=>q);obtain⟨i0,i1⟩:=HK.out wa ka)
     | fail)
    | fail)
   all_goals
    go_wp2;go_ret;refine⟨?_,F1.out.trans ka (λ_ _ q=>q)⟩;rw[HE.out];first|rfl|(refine congrArg (λx=>Ending.returned (Value.int .i64 x)) ?_;rw[IntKind.wrap_i64,IntKind.wrap_i64];omega)
 ·have hnt:t=(n:Int):=by omega
  clear f1 e1 ht hn;subst hnt;by_cases hp0:p=0
  ·have hq0:((p:Int) == 0)=true:=by simp[hp0]
   have HE:=Hh (show numB (n:Int) p=n from by rw[HNB.out,if_pos hp0]);clear hp0;go_enter Tryz.func145,Tryz.ntmps145;go_wp2;go_ret;rw[<-hw1];exact⟨by rw[HE.out];rfl,F1.out⟩
  ·have hq0:((p:Int) == 0)=false:=by simp[hp0]
   have HE:=Hh (show numB (n:Int) p=q+p+1 from by rw[HNB.out,if_neg hp0]);clear hp0;go_enter Tryz.func145,Tryz.ntmps145;go_upto_region 5 with fail;rw[<-hw1];clear hw1;obtain⟨k0,k1⟩:=HK.out w1.drew K0;go_region_law (first
    | (go_simp;first
     | (go_at_call 187;(with_reducible refine(HFl.out _).mono ?_);rintro e wa ⟨rfl,fa⟩;have ka:Fr NoM w1 wa:=Fr.trans (by assumption) fa (λ_ _ q=>q);obtain⟨i0,i1⟩:=HK.out wa ka)
     | fail)
    | fail)
   all_goals
    go_wp2;go_ret;refine⟨?_,F1.out.trans ka (λ_ _ q=>q)⟩;rw[HE.out];first|rfl|(refine congrArg (λx=>Ending.returned (Value.int .i64 x)) ?_;rw[IntKind.wrap_i64,IntKind.wrap_i64];omega)
noncomputable def zk4 (t:Int)(p:Nat):List PL:=if 120<=numB t p then []else numN t p
theorem zvk {t:Int}{p:Nat}(hr:Red t p):zap (zk4 t p)=zap (numN t p)/\(if zap (zk4 t p)=true then zk4 t p else [])=if zap (numN t p)=true then numN t p else []:=by unfold zk4;by_cases h:120<=numB t p;{rw[if_pos h,ztb hr h];exact⟨by decide,by simp[zap]⟩};{rw[if_neg h];exact⟨rfl,rfl⟩}
theorem zyd {t:Int}{p:Nat}(h:¬ 120<=numB t p):t.natAbs/2^p<120:=by unfold numB at h;by_cases hp:p=0;{rw[if_pos hp]at h;subst hp;simp;omega};{rw[if_neg hp]at h;omega}
theorem zv7 (t:Int)(p:Nat)(w:World)(hr:Red t p)(ht:t.natAbs<=1000000)(hp:p<=16) : Calls Tryz.prog 98 #[.agg #[.int .i64 t,.int .i64 (p:Int)]] w λe w'=>∃v',e=.returned (.agg #[v'])/\NodeL (λb=>w.heap.size<=b) encN w' v' (zk4 t p)/\Fr NoM w w':=by(obtain⟨w1,hw1⟩:=eX ((w.alloc (.cells #[.int .i64 t,.int .i64 (p:Int)] 29)).alloc (.cells #[.slice none 0 0] 26));have f1:Fr NoM w w1:=by rw[hw1];exact((nW w).alloc _).alloc _);(have hs1:w1.heap.size=w.heap.size+2:=by rw[hw1];simp);(have e0:w1.heap[w.heap.size]?=some (.cells #[.int .i64 t,.int .i64 (p:Int)] 29 (0,0)):=by rw[hw1];exact((nW _).alloc _).heap (xJ w _) id);have e1:w1.heap[w.heap.size+1]?=some (.cells #[.slice none 0 0] 26 (0,0)):=by{have h:=xJ (w.alloc (.cells #[.int .i64 t,.int .i64 (p:Int)] 29)) (.cells #[.slice none 0 0] 26);rw[xZ]at h;rw[hw1];exact h};have HK:=Hh (λW (f:Fr (λq=>w1.heap.size<=q) w1 W)=>(by{have h0:=f.heap e0 (λq=>by omega);have h1:=f.heap e1 (λq=>by omega);exact⟨by rw[xX W _ 0 _ _ _ h0];rfl,by rw[xX W _ 1 _ _ _ h0];rfl,by rw[xX W _ 0 _ _ _ h1];rfl,by simp[World.frozen?,h1]⟩}:W.cell? ⟨w.heap.size,0,none⟩=some (.int .i64 t)/\W.cell? ⟨w.heap.size,1,none⟩=some (.int .i64 (p:Int))/\W.cell? ⟨w.heap.size+1,0,none⟩=some (.slice none 0 0)/\W.frozen? ⟨w.heap.size+1,0,none⟩=false));obtain⟨bn,hbn⟩:=eX (numB t p);have HBo:=Hh (show Calls Tryz.prog 145 #[.agg #[.int .i64 t,.int .i64 (p:Int)]] w1 λe w'=>e=.returned (.int .i64 (bn:Int))/\Fr NoM w1 w' from by rw[hbn];exact zve t p w1 hp ht);have F1:=Hh f1;have HS1:=Hh hs1;have HBn:=Hh hbn;have HR:=Hh hr;have HT:=Hh ht;have HP:=Hh hp;clear f1 hs1 e0 e1 hbn hr ht hp;obtain⟨k0,k1,k2,k3⟩:=HK.out w1 (Fr.refl _ _);go_enter Tryz.func98,Tryz.ntmps98;go_wp2_with fail;rw[<-hw1];clear hw1;(with_reducible refine HBo.out.mono ?_);rintro e w2 ⟨rfl,f2⟩;have F2:=Hh f2;clear k0 k1 k2 k3 f2;obtain⟨k0,k1,k2,k3⟩:=HK.out w2 F2.out.any;by_cases hbig:120<=bn;{go_wp2;refine yJ (v:=.agg #[.slice none 0 0]) (by simp[results,Tryz.results98,go_sem,k2,k3]) rfl ?_;(have hf:zk4 t p=[]:=by unfold zk4;rw[<-HBn.out,if_pos hbig]);rw[hf];exact⟨_,rfl,⟨none,0,rfl,xW _,by decide,by simp⟩,(F1.out.trans F2.out (λ_ _ q=>q)).setCell _ _ (λh=>by have h:w.heap.size+1<w.heap.size:=h;omega)⟩};{have hsm:=zyd (t:=t) (p:=p) (by rw[<-HBn.out];exact hbig);(obtain⟨w3,hw3⟩:=eX (w2.alloc (.cells #[.slice none 0 0,.slice none 0 0] 147));have f3:Fr NoM w2 w3:=by rw[hw3];exact(nW w2).alloc _);(have e3:w3.heap[w2.heap.size]?=some (.cells #[.slice none 0 0,.slice none 0 0] 147 (0,0)):=by rw[hw3];exact xJ w2 _);(obtain⟨bb,hbb⟩:=eX w2.heap.size;rw[<-hbb]at e3;obtain⟨U,hU⟩:=eX (numU t p 121);have hUl:U.length<1000:=by rw[hU,znx];have:=HP.out;omega);have HPu:=Hh (zyp (U:=U) (by omega) bb _ t p (kZ _) HR.out HT.out HP.out (λa ha=>by rw[hU];exact zrt HR.out hsm a ha));have HPt:=Hh (show Calls Tryz.prog 146 #[.pointer (some ⟨bb,0,none⟩),.agg #[.int .i64 t,.int .i64 (p:Int)]] w3 λe w'=>BkPost U bb w3 (λq=>q=bb) [] (numC t p) e w' from HPu.out _ [] [] w3 (BkN.start e3));have F3:=Hh (F2.out.trans f3 (λ_ _ q=>q));have HBB:=Hh hbb;have HUl:=Hh hUl;have HD:=Hh (show zk4 t p=za5 (numC t p)from by unfold zk4;rw[<-HBn.out,if_neg hbig];rfl);clear k0 k1 k2 k3 f3 e3 hU hUl hsm;go_upto_region 4 with fail;rw[<-hw3,<-hbb];clear hw3 hbb;obtain⟨k0,k1,k2,k3⟩:=HK.out w3 F3.out.any;go_wp2_with fail;(with_reducible refine HPt.out.mono ?_);rintro e w4 ⟨i,V,BV,S,rfl,b4,_,s4,f4,i4,q4⟩;have hlen:=b4.len;have HFo:=Hh (zoa bb i V BV w4 b4.book (zfg b4.ok) i4 (by have:=HUl.out;omega) (b4.ok.lens (n:=100000000) (by have:=HUl.out;omega)));have HFe:=Hh (show zdg V BV i=zk4 t p from by rw[HD.out];exact zgm b4.ok i4 q4);have F4:=Hh (F3.out.any.trans f4 (λk _ h=>by have h:k=bb:=h;have:=HBB.out;have:=F2.out.size;omega):Fr (λq=>w1.heap.size<=q) w1 w4);clear b4 s4 f4 i4 q4 hlen k0 k1 k2 k3;obtain⟨k0,k1,k2,k3⟩:=HK.out w4 F4.out;go_wp2_with fail;(with_reducible refine HFo.out.mono ?_);rintro e w5 ⟨v',rfl,n5,f5⟩;rw[HFe.out]at n5;have F5:=Hh (F4.out.trans f5 (λ_ _ q=>q.elim));have HN5:=Hh n5;have HZ:=Hh (show w.heap.size+2<=w4.heap.size from by have:=F4.out.size;have:=HS1.out;omega);obtain⟨va,vc,rfl,zz⟩:=id n5;clear zz n5 f5 k0 k1 k2 k3;obtain⟨k0,k1,k2,k3⟩:=HK.out w5 F5.out;go_wp2;refine yJ (v:=.agg #[.slice va (zk4 t p).length vc]) (by simp[results,Tryz.results98,go_sem,k2,k3]) rfl ?_;refine⟨_,rfl,?_,(F1.out.trans F5.out (λk hk h=>by have h:w1.heap.size<=k:=h;have:=HS1.out;omega)).setCell _ _ (λh=>by have h:w.heap.size+1<w.heap.size:=h;omega)⟩;exact(HN5.out.fr (Fr.set w5 ⟨w.heap.size+1,0,none⟩ _) (λq hq e=>by have e:q=w.heap.size+1:=e;have hq:w4.heap.size<=q:=hq;have:=HZ.out;omega)).mono (λq hq=>by have hq:w4.heap.size<=q:=hq;have:=HZ.out;omega)}
