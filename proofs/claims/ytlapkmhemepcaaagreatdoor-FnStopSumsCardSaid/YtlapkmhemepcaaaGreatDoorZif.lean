import Derived.Test.YtlapkmhemepcaaaGreatDoorZib
import Derived.Test.YtlapkmhemepcaaaGreatDoorZil
/- Lemmas. -/
set_option linter.all false
set_option maxHeartbeats 8000000
set_option maxRecDepth 8000
namespace Go.Proofs.YtlapkmhemepcaaaGreatDoor
open Go.RowKit
theorem zyy {t:Int}{p:Nat}(b:p<=24)(x:Int):redT (t*2^(24-p)+x*2^(24-p)) 24=redT (t+x) p:=by rw[<-Int.add_mul];have a:=zbz (24-p) p (t+x);rw[show p+(24-p)=24 from by omega]at a;exact a
def ykt (U:List Nat)(a:Nat)(t:Int)(p:Nat):Prop:=∀(c:Nat->Prop) (d:List PL) (e:List Nat) (b:World),BkN U c b a d e ->
  Calls Tryz.prog 146 #[.pointer (some ⟨a,0,none⟩),.agg #[.int .i64 t,.int .i64 (p:Int)]] b λf g=>BkPost U a b c d (numC t p) f g
theorem yck {U:List Nat}(ay:U.length<1000000)(i:Nat):∀(a8:Nat) (d:Int) (c:Nat),numC d c<a8->Red d c->d.natAbs<=1000000->c<=16->(∀x,SubC (numC d c) x->x∈U)->ykt U i d c:=by
 intro a8;induction a8 with
 | zero=>intro d c a;omega
 | succ a8 ih =>
  intro d c hn hr ht hp hU j u BV t hB;have az:numC d c∈U:=hU _ .root;obtain⟨W,A⟩:=eX (t.alloc (.cells #[.int .i64 d,.int .i64 (c:Int)] 29));obtain⟨g,B⟩:=eX (W.alloc (.cells #[.int .i64 1,.int .i64 (c:Int)] 29));have n:Fr NoM t W:=by rw[A];exact(nW t).alloc _
  have T:Fr NoM W g:=by rw[B];exact(nW W).alloc _
  have aA:W.heap.size=t.heap.size+1:=by rw[A];simp
  have e1:g.heap[t.heap.size]?=some (.cells #[.int .i64 d,.int .i64 (c:Int)] 29 (0,0)):=by rw[B,A];exact((nW _).alloc _).heap (xJ t _) id
  have e2:g.heap[t.heap.size+1]?=some (.cells #[.int .i64 1,.int .i64 (c:Int)] 29 (0,0)):=by rw[B,<-aA];exact xJ W _
  have a7:=hB.lt;have I:=Hh (λb (H:Fr (λe=>j e\/g.heap.size<=e) g b)=>show b.cell? ⟨t.heap.size,0,none⟩=some (.int .i64 d)/\b.cell? ⟨t.heap.size,1,none⟩=some (.int .i64 (c:Int))/\b.cell? ⟨t.heap.size+1,0,none⟩=some (.int .i64 1)/\b.cell? ⟨t.heap.size+1,1,none⟩=some (.int .i64 (c:Int))from by
   have w:=(yJ.1 e1).1;have l2:=(yJ.1 e2).1;have h1:=H.heap e1 (λe=>by
    rcases e with e|e
    ·have:=a7 _ e;omega
    ·omega)
   have h2:=H.heap e2 (λe=>by
    rcases e with e|e
    ·have:=a7 _ e;omega
    ·omega)
   exact⟨by rw[xX b _ 0 _ _ _ h1];rfl,by rw[xX b _ 1 _ _ _ h1];rfl,by rw[xX b _ 0 _ _ _ h2];rfl,by rw[xX b _ 1 _ _ _ h2];rfl⟩)
  have HB:=Hh (hB.fr0 (n.trans T kP));have F2:=Hh (n.trans T kP);have au:=Hh (λ(b:World)=>zh9 1 (c:Int) b (by omega));have aa:=Hh (λ(b:World) (M:Int) (hx:M=1\/M=-1)=>show Calls Tryz.prog 188 #[.agg #[.int .i64 d,.int .i64 (c:Int)],.agg #[.int .i64 M,.int .i64 (c:Int)]] b λf r=>f=.returned (dyV (redT (d+M) c))/\Fr NoM b r from by
   have a:=zo4 d M c c b (by omega) (by omega) (by omega) (by omega);rw[zyy (by omega)]at a;exact a)
  have a3:=Hh ih;have aK:=Hh ay;have Hn:=Hh hn;have HR:=Hh hr;have HU:=Hh hU;have aE:=Hh az;have aS:=Hh a7;have N:=Hh (And.intro ht hp);have aT:-1000000<=d/\d<=1000000:=by omega
  clear n T aA e1 e2 hB ih hn hr hU az ay a7 ht;obtain⟨k0,k1,k2,k3⟩:=I.out g (Fr.refl _ _);obtain⟨⟨m,k⟩,aj⟩:∃M,M=redT (d-1) c:=⟨_,rfl⟩;obtain⟨⟨s,o⟩,ak⟩:∃M,M=redT (d+1) c:=⟨_,rfl⟩;have ae:=Hh aj;have af:=Hh ak;have am:=Hh (λ(b:World)=>show Calls Tryz.prog 188 #[.agg #[.int .i64 d,.int .i64 (c:Int)],.agg #[.int .i64 (-1),.int .i64 (c:Int)]] b λf r=>f=.returned (.agg #[.int .i64 m,.int .i64 (k:Int)])/\Fr NoM b r from by
   have a:=aa.out b (-1) (.inr rfl);rw[show d + -1=d-1 from by omega,<-aj]at a;exact a)
  have an:=Hh (λ(b:World)=>show Calls Tryz.prog 188 #[.agg #[.int .i64 d,.int .i64 (c:Int)],.agg #[.int .i64 1,.int .i64 (c:Int)]] b λf r=>f=.returned (.agg #[.int .i64 s,.int .i64 (o:Int)])/\Fr NoM b r from by
   have a:=aa.out b 1 (.inl rfl);rw[<-ak]at a;exact a)
  clear aa aj ak
  -- what comes of x call of put for rows of one game each
  have a4:=Hh (λ(b:World) (S':Nat->Prop) (S:List PL) (a9:List Nat) (lv rv:Value) (a5 a6 cs ds:List Nat) (hb:BkN U S' b i S a9) (hL:Nats b lv a5) (hR:Nats b rv a6) (rL:RowC S a5 cs) (rR:RowC S a6 ds) (hc:mkC cs ds=numC d c) (ll:a5.length<=1) (lr:a6.length<=1)=>show Calls Tryz.prog 140 #[.pointer (some ⟨i,0,none⟩),lv,rv] b λf r=>BkPost U i b S' S (numC d c) f r from by
   have a:=yex lv rv a5 a6 cs ds hb hL hR rL rR (by rw[hc];exact aE.out) aK.out (by omega) (by omega);rw[hc]at a;exact a)
  by_cases P:d=0
  ·have z:(d == 0)=true:=by simp[P]
   have K:c=0:=HR.out.resolve_right (by rw[P];simp);have hc:mkC [] []=numC d c:=by rw[P,K];rfl
   have HP:=Hh (a4.out g j u BV (.slice none 0 0) (.slice none 0 0) [] [] [] [] HB.out (SliceOf.nil _ _) (SliceOf.nil _ _) (RowC.nil _) (RowC.nil _) hc (by simp) (by simp));clear hc K P;go_enter Tryz.func146,Tryz.ntmps146;go_wp2_with fail;rw[<-A,<-B];clear A B;(with_reducible refine HP.out.mono ?_);rintro f w3 ⟨aB,S,a9,S',rfl,h2,h3,h4,h5,h6⟩;have HE:=Hh (BkPost.of0 F2.out ⟨aB,S,a9,S',rfl,h2,h3,h4,h5,h6⟩:BkPost U i t j u (numC d c) (.returned (.int .i64 (aB:Int))) w3);clear h2 h3 h4 h5 h6;go_wp2_with fail;go_ret;exact HE.out
  ·have z:(d == 0)=false:=by simp[P]
   by_cases ai:0<c
   ·have q:=zxf HR.out ai
    rw[<-ae.out,<-af.out]at q;have q:numC d c=mkC [numC m k] [numC s o]:=q;have g1:=zgd HR.out N.out.1 ai N.out.2 (d-1) (.inl rfl);have g2:=zgd HR.out N.out.1 ai N.out.2 (d+1) (.inr rfl);rw[<-ae.out]at g1;rw[<-af.out]at g2;have C:optC (numC d c) (numC m k):=by rw[q];exact .inl ((zam _ _ _).2 (by simp))
    have o2:optC (numC d c) (numC s o):=by rw[q];exact .inr ((zak _ _ _).2 (by simp))
    have Y:=Hh (a3.out m k (by have:=za7 C;have:=Hn.out;omega) g1.2.2.1 g1.2.2.2 (by have:=g1.2.1;have:=N.out.2;show k<=16;omega) (λx R=>HU.out x ((SubC.root.step C).trans R)));have aD:=Hh (a3.out s o (by have:=za7 o2;have:=Hn.out;omega) g2.2.2.1 g2.2.2.2 (by have:=g2.2.1;have:=N.out.2;show o<=16;omega) (λx R=>HU.out x ((SubC.root.step o2).trans R)));have Z:=Hh (λb (H:Fr NoM g b)=>show Calls Tryz.prog 146 #[.pointer (some ⟨i,0,none⟩),.agg #[.int .i64 m,.int .i64 (k:Int)]] b λf r=>BkPost U i b j u (numC m k) f r from Y.out j u BV b (HB.out.fr0 H));have a0:=Hh q;have K0:Fr NoM g g.drew:=(nW g).drew;obtain⟨k4,k5,k6,k7⟩:=I.out g.drew K0.any;clear P q g1 g2 C o2;go_enter Tryz.func146,Tryz.ntmps146;go_upto_region 5 with fail;rw[<-A,<-B];clear A B;clear k4 k5 k6 k7;go_cut [6]from 21 to 26 (λaR b=>BkPost U i g j u (numC m k) (.returned aR) b)
    case first =>
     obtain⟨k4,k5,k6,k7⟩:=I.out g.drew K0.any;go_region_law (first
      | (go_simp;first
       | (go_at_call 189;(with_reducible refine(au.out _).mono ?_);rintro f wa ⟨rfl,fa⟩;have ka:Fr NoM g wa:=Fr.trans (by assumption) fa kP;obtain⟨i0,i1,i2,i3⟩:=I.out wa ka.any)
       | (go_at_call 188;(with_reducible refine(am.out _).mono ?_);rintro f L ⟨rfl,fb⟩;have v:Fr NoM g L:=Fr.trans (by assumption) fb kP;obtain⟨j0,j1,j2,j3⟩:=I.out L v.any)
       | (go_at_call 146;(with_reducible refine(Z.out L v).mono ?_);rintro f wc ⟨h,l,Q,p,rfl,y,F,E,n,w,D⟩;have aH:=Hh (BkPost.of0 v ⟨h,l,Q,p,rfl,y,F,E,n,w,D⟩:BkPost U i g j u (numC m k) (.returned (.int .i64 (h:Int))) wc);clear y F E n w D)
       | fail)
      | fail)
     all_goals
      go_wp2_with fail;go_meet
      case rel=>exact aH.out
    case rest =>
    obtain⟨h,l,Q,p,he,y,F,E,n,w,D⟩:=hcut;have he:=Ending.returned.inj he;subst he;have FC:=Hh (n.mono (λ_ _ e=>.inl e):Fr (λe=>j e\/g.heap.size<=e) g wc);have aF:=Hh (λb (H:Fr NoM wc b)=>show Calls Tryz.prog 146 #[.pointer (some ⟨i,0,none⟩),.agg #[.int .i64 s,.int .i64 (o:Int)]] b λf r=>BkPost U i b p l (numC s o) f r from aD.out p l Q b (y.fr0 H));have av:=Hh E;have aL:=Hh F;have ar:=Hh w;have aI:=Hh D;have ap:=Hh n;clear y F E n w D;obtain⟨k4,k5,k6,k7⟩:=I.out wc FC.out;go_wp2_with fail;(with_reducible refine(an.out wc).mono ?_);rintro f wd ⟨rfl,fd⟩;have FD:=Hh fd;clear k4 k5 k6 k7 fd;go_wp2_with fail;(with_reducible refine(aF.out wd FD.out).mono ?_);rintro f G ⟨p2,V2,B2,S2,rfl,b2,v2,s2,T,l2,q2⟩;obtain⟨w6,a1⟩:=eX ((G.alloc (.cells #[.int .i64 (h:Int)] 3)).alloc (.cells #[.int .i64 (p2:Int)] 3));have f6:Fr NoM G w6:=by rw[a1];exact((nW G).alloc _).alloc _
    have n1:Nats w6 (.slice (some ⟨G.heap.size,0,none⟩) 1 1) [h]:=by
     rw[a1];exact(SliceOf.one encN G h 3).fr0 ((nW _).alloc _)
    have n2:Nats w6 (.slice (some ⟨G.heap.size+1,0,none⟩) 1 1) [p2]:=by
     have a:=SliceOf.one encN (G.alloc (.cells #[.int .i64 (h:Int)] 3)) p2 3;rw[xZ]at a;rw[a1];exact a
    have r1:RowC V2 [h] [numC m k]:=(RowC.nil V2).snoc (by have:=v2.length_le;have:=ar.out;omega) (by rw[zap v2 ar.out];exact aI.out);have r2:RowC V2 [p2] [numC s o]:=(RowC.nil V2).snoc l2 q2;have aG:=Hh (a4.out w6 S2 V2 B2 _ _ [h] [p2] [numC m k] [numC s o] (b2.fr0 f6) n1 n2 r1 r2 a0.out.symm (by simp) (by simp));have aM:=Hh (aL.out.trans v2);have aq:=Hh f6;have aC:=Hh T;have aJ:=Hh s2;clear b2 v2 s2 T l2 q2 f6 n1 n2 r1 r2;go_wp2_with fail;rw[<-a1];clear a1;(with_reducible refine aG.out.mono ?_);rintro f w7 ⟨V,V3,X,S3,rfl,b3,v3,s3,f3,l3,q3⟩;have ag:∀e,S2 e->j e\/g.heap.size<=e:=λe z=>by
     rcases aJ.out e z with a|a
     ·exact av.out e a
     ·have:=FD.out.size;have:=ap.out.size;exact .inr (by omega)
    have ah:Fr j g G:=(ap.out.trans FD.out (λ_ _ e=>e.elim)).trans aC.out (λa2 hk a=>by
     rcases av.out a2 a with a|a
     ·exact a
     ·omega)
    have HE:=Hh (BkPost.of0 F2.out ⟨V,V3,X,S3,rfl,b3,aM.out.trans v3,(λe z=>by
     rcases s3 e z with a|a
     ·exact ag e a
     ·have:=aq.out.size;have:=ah.size;exact .inr (by omega)),(ah.trans aq.out (λ_ _ e=>e.elim)).trans f3 (λa2 hk a=>by
      rcases ag a2 a with a|a
      ·exact a
      ·omega),l3,q3⟩:BkPost U i t j u (numC d c) (.returned (.int .i64 (V:Int))) w7)
    clear b3 v3 s3 f3 l3 q3 ag ah;go_wp2_with fail;go_ret;exact HE.out
   ·have K:c=0:=by omega
    have ao:=Hh (λ(G O:World) (h:Nat) (l:List PL) (p:Nat->Prop) (f:Ending) (aQ:u <+: l) (ax:∀e,p e->j e\/g.heap.size<=e) (aw:Fr j g G) (a:BkPost U i G p l (numC d c) f O)=>show BkPost U i t j u (numC d c) f O from by
     obtain⟨V,V3,X,S3,he,b3,v3,s3,f3,l3,q3⟩:=a;exact BkPost.of0 F2.out ⟨V,V3,X,S3,he,b3,aQ.trans v3,(λe z=>by
      rcases s3 e z with a|a
      ·exact ax e a
      ·have:=aw.size;exact .inr (by omega)),aw.trans f3 (λa2 hk a=>by
      rcases ax a2 a with a|a
      ·exact a
      ·omega),l3,q3⟩)
    by_cases aP:0<d
    ·have J:m=d-1/\k=0:=by
      have a:=ae.out;rw[K]at a;exact⟨congrArg Prod.fst a,congrArg Prod.snd a⟩
     have q:numC d c=mkC [numC m k] []:=by rw[K,J.1,J.2,zfm,zfm];exact zke aP
     have C:optC (numC d c) (numC m k):=by rw[q];exact .inl ((zam _ _ _).2 (by simp))
     have Y:=Hh (a3.out m k (by have:=za7 C;have:=Hn.out;omega) (.inl J.2) (by have:=N.out.1;omega) (by omega) (λx R=>HU.out x ((SubC.root.step C).trans R)));have Z:=Hh (λb (H:Fr NoM g b)=>show Calls Tryz.prog 146 #[.pointer (some ⟨i,0,none⟩),.agg #[.int .i64 m,.int .i64 (k:Int)]] b λf r=>BkPost U i b j u (numC m k) f r from Y.out j u BV b (HB.out.fr0 H));have a0:=Hh q;have K0:Fr NoM g g.drew:=(nW g).drew;obtain⟨k4,k5,k6,k7⟩:=I.out g.drew K0.any;have aN:¬(0:Int)<(c:Int):=by omega
     clear P q J C K;go_enter Tryz.func146,Tryz.ntmps146;go_upto_region 9 with fail;rw[<-A,<-B];clear A B;go_region_law (first
      | (go_simp;first
       | (go_at_call 189;(with_reducible refine(au.out _).mono ?_);rintro f wa ⟨rfl,fa⟩;have ka:Fr NoM g wa:=Fr.trans (by assumption) fa kP;obtain⟨i0,i1,i2,i3⟩:=I.out wa ka.any)
       | (go_at_call 188;(with_reducible refine(am.out _).mono ?_);rintro f L ⟨rfl,fb⟩;have v:Fr NoM g L:=Fr.trans (by assumption) fb kP;obtain⟨j0,j1,j2,j3⟩:=I.out L v.any)
       | (go_at_call 146;(with_reducible refine(Z.out L v).mono ?_);rintro f wc ⟨h,l,Q,p,rfl,y,F,E,n,w,D⟩;have ab:=Hh (a4.out (wc.alloc (.cells #[.int .i64 (h:Int)] 3)) p l Q (.slice (some ⟨wc.heap.size,0,none⟩) 1 1) (.slice none 0 0) [h] [] [numC m k] [] (y.fr0 ((nW wc).alloc _)) (SliceOf.one encN wc h 3) (SliceOf.nil _ _) ((RowC.nil l).snoc w D) (RowC.nil _) a0.out.symm (by simp) (by simp));have ac:=Hh (λ(O:World) (f:Ending) (a:BkPost U i (wc.alloc (.cells #[.int .i64 (h:Int)] 3)) p l (numC d c) f O)=>ao.out (wc.alloc (.cells #[.int .i64 (h:Int)] 3)) O h l p f F (λe z=>(E e z).imp_right (λa=>vV v.size a)) ((v.any.trans n kP).alloc _) a);clear y F E n w D)
       | (go_at_call 140;(with_reducible refine ab.out.mono ?_);rintro f wd hP;have ad:=Hh (ac.out wd f hP);obtain⟨V,V3,X,S3,rfl,al⟩:=hP;clear al)
       | fail)
      | fail)
     all_goals
      go_wp2;go_ret;exact ad.out
    ·have J:s=d+1/\o=0:=by
      have a:=af.out;rw[K]at a;exact⟨congrArg Prod.fst a,congrArg Prod.snd a⟩
     have aO:d<0:=by omega
     have q:numC d c=mkC [] [numC s o]:=by rw[K,J.1,J.2,zfm,zfm];exact zkf aO
     have C:optC (numC d c) (numC s o):=by rw[q];exact .inr ((zak _ _ _).2 (by simp))
     have Y:=Hh (a3.out s o (by have:=za7 C;have:=Hn.out;omega) (.inl J.2) (by have:=N.out.1;omega) (by omega) (λx R=>HU.out x ((SubC.root.step C).trans R)));have Z:=Hh (λb (H:Fr NoM g b)=>show Calls Tryz.prog 146 #[.pointer (some ⟨i,0,none⟩),.agg #[.int .i64 s,.int .i64 (o:Int)]] b λf r=>BkPost U i b j u (numC s o) f r from Y.out j u BV b (HB.out.fr0 H));have a0:=Hh q;have aN:¬(0:Int)<(c:Int):=by omega
     clear P q J C K;go_enter Tryz.func146,Tryz.ntmps146;go_upto_region 10 with fail;rw[<-A,<-B];clear A B;go_wp2_with fail;(with_reducible refine(an.out g).mono ?_);rintro f L ⟨rfl,v⟩;go_wp2_with fail;(with_reducible refine(Z.out L v).mono ?_);rintro f wc ⟨h,l,Q,p,rfl,y,F,E,n,w,D⟩;have ab:=Hh (a4.out (wc.alloc (.cells #[.int .i64 (h:Int)] 3)) p l Q (.slice none 0 0) (.slice (some ⟨wc.heap.size,0,none⟩) 1 1) [] [h] [] [numC s o] (y.fr0 ((nW wc).alloc _)) (SliceOf.nil _ _) (SliceOf.one encN wc h 3) (RowC.nil _) ((RowC.nil l).snoc w D) a0.out.symm (by simp) (by simp));have ac:=Hh (λ(O:World) (f:Ending) (a:BkPost U i (wc.alloc (.cells #[.int .i64 (h:Int)] 3)) p l (numC d c) f O)=>ao.out (wc.alloc (.cells #[.int .i64 (h:Int)] 3)) O h l p f F (λe z=>(E e z).imp_right (λa=>vV v.size a)) ((v.any.trans n kP).alloc _) a);clear y F E n w D;go_wp2_with fail;(with_reducible refine ab.out.mono ?_);rintro f wd hP;have ad:=Hh (ac.out wd f hP);obtain⟨V,V3,X,S3,rfl,al⟩:=hP;clear al;go_wp2_with fail;go_ret;exact ad.out
theorem zoc {t p:Nat}(c:p<=24):(t:Int)*2^(24-p)/2^24=((t/2^p:Nat):Int):=by
 have a:(t:Int)*2^(24-p)=((t*2^(24-p):Nat):Int):=by simp
 have b:(2:Int)^24=((2^24:Nat):Int):=by simp
 rw[a,b,<-Int.natCast_ediv,show(2:Nat)^24=2^p*2^(24-p)from by rw[<-Nat.pow_add,show p+(24-p)=24 from by omega],Nat.mul_div_mul_right _ _ (Nat.pow_pos (by decide))]
theorem zo3 (t p:Nat)(w:World)(d:p<=24)(o:t<=1073741824):Calls Tryz.prog 187 #[.agg #[.int .i64 (t:Int),.int .i64 (p:Int)]] w λa f=>a=.returned (.int .i64 ((t/2^p:Nat):Int))/\Fr NoM w f:=by(obtain⟨c,e⟩:=eX (w.alloc (.cells #[.int .i64 (t:Int),.int .i64 (p:Int)] 29));have g:Fr NoM w c:=by rw[e];exact(nW w).alloc _);obtain⟨i,b⟩:=eX ((t:Int)*2^(24-p):Int);have n:=zh4 (T:=(t:Int)) d (by omega);rw[<-b]at n;have m:=Hh (show Calls Tryz.prog 139 #[.agg #[.int .i64 (t:Int),.int .i64 (p:Int)]] c λa f=>a=.returned (.int .i64 i)/\Fr NoM c f from by rw[b];exact zcx (t:Int) p c d (by omega));have l:=Hh (show i/16777216=((t/2^p:Nat):Int)from by rw[<-zoc d,b];rfl);have j:=Hh g;clear g b;go_enter Tryz.func187,Tryz.ntmps187;go_wp2_with fail;rw[<-e];clear e;(with_reducible refine m.out.mono ?_);rintro a q ⟨rfl,h⟩;have k:=Hh (j.out.trans h kP);clear h;go_wp2;go_ret;exact⟨by rw[<-l.out];rfl,k.out⟩
theorem zzu (t:Int)(p:Nat)(w:World)(L:p<=16)(C:t.natAbs<=1000000):Calls Tryz.prog 145 #[.agg #[.int .i64 t,.int .i64 (p:Int)]] w λg v=>g=.returned (.int .i64 ((numB t p:Nat):Int))/\Fr NoM w v:=by(obtain⟨a,n⟩:=eX t.natAbs;obtain⟨c,e⟩:=eX (w.alloc (.cells #[.int .i64 (a:Int),.int .i64 (p:Int)] 29));have r:Fr NoM w c:=by rw[e];exact(nW w).alloc _);(have q:c.heap[w.heap.size]?=some (.cells #[.int .i64 (a:Int),.int .i64 (p:Int)] 29 (0,0)):=by rw[e];exact xJ w _);(obtain⟨i,o⟩:=eX (a/2^p);have M:i<=a:=by rw[o];exact Nat.div_le_self _ _);have y:=Hh (λ(d:World)=>show Calls Tryz.prog 187 #[.agg #[.int .i64 (a:Int),.int .i64 (p:Int)]] d λg v=>g=.returned (.int .i64 (i:Int))/\Fr NoM d v from by rw[o];exact zo3 a p d (by omega) (by omega));have l:=Hh (λd (D:Fr NoM c d)=>(by{have A:=D.heap q id;exact⟨by rw[xX d _ 0 _ _ _ A];rfl,by rw[xX d _ 1 _ _ _ A];rfl⟩}:d.cell? ⟨w.heap.size,0,none⟩=some (.int .i64 (a:Int))/\d.cell? ⟨w.heap.size,1,none⟩=some (.int .i64 (p:Int))));(have k:=Hh r;have m:=Hh (show numB t p=if p=0 then a else i+p+1 from by unfold numB;rw[<-n,<-o]);clear o;have I:=Hh n;have J:a<=1000000:=by omega);have z:Fr NoM c c.drew:=(nW c).drew;by_cases K:t<0;{(have B:-t=(a:Int):=by omega);clear r q C n;by_cases b:p=0;{(have u:((p:Int) == 0)=true:=by simp[b]);have f:=Hh (show numB t p=a from by rw[m.out,if_pos b]);clear b;go_enter Tryz.func145,Tryz.ntmps145;go_wp2;go_ret;rw[<-e];exact⟨by rw[f.out];rfl,k.out⟩};{(have u:((p:Int) == 0)=false:=by simp[b]);have f:=Hh (show numB t p=i+p+1 from by rw[m.out,if_neg b]);clear b;go_enter Tryz.func145,Tryz.ntmps145;go_upto_region 5 with fail;rw[<-e];clear e;obtain⟨G,H⟩:=l.out c.drew z;go_region_law (first| (go_simp;first| (go_at_call 187;(with_reducible refine(y.out _).mono ?_);rintro g j ⟨rfl,s⟩;have h:Fr NoM c j:=Fr.trans (by assumption) s kP;obtain⟨E,F⟩:=l.out j h)| fail)| fail);all_goals(go_wp2;go_ret;refine⟨?_,k.out.trans h kP⟩;rw[f.out];first|rfl|(refine congrArg (λx=>Ending.returned (Value.int .i64 x)) ?_;rw[IntKind.wrap_i64,IntKind.wrap_i64];omega))}};{(have B:t=(a:Int):=by omega);clear r q C n;subst B;by_cases b:p=0;{(have u:((p:Int) == 0)=true:=by simp[b]);have f:=Hh (show numB (a:Int) p=a from by rw[m.out,if_pos b]);clear b;go_enter Tryz.func145,Tryz.ntmps145;go_wp2;go_ret;rw[<-e];exact⟨by rw[f.out];rfl,k.out⟩};{(have u:((p:Int) == 0)=false:=by simp[b]);have f:=Hh (show numB (a:Int) p=i+p+1 from by rw[m.out,if_neg b]);clear b;go_enter Tryz.func145,Tryz.ntmps145;go_upto_region 5 with fail;rw[<-e];clear e;obtain⟨G,H⟩:=l.out c.drew z;go_region_law (first| (go_simp;first| (go_at_call 187;(with_reducible refine(y.out _).mono ?_);rintro g j ⟨rfl,s⟩;have h:Fr NoM c j:=Fr.trans (by assumption) s kP;obtain⟨E,F⟩:=l.out j h)| fail)| fail);all_goals(go_wp2;go_ret;refine⟨?_,k.out.trans h kP⟩;rw[f.out];first|rfl|(refine congrArg (λx=>Ending.returned (Value.int .i64 x)) ?_;rw[IntKind.wrap_i64,IntKind.wrap_i64];omega))}}
noncomputable def zp3 (t:Int)(p:Nat):List PL:=if 120<=numB t p then []else numN t p
theorem yc9 {t:Int}{p:Nat}(a:¬ 120<=numB t p):t.natAbs/2^p<120:=by unfold numB at a;by_cases b:p=0;{rw[if_pos b]at a;subst b;simp;omega};{rw[if_neg b]at a;omega}
theorem zzi (t:Int)(p:Nat)(w:World)(hr:Red t p)(J:t.natAbs<=1000000)(I:p<=16) : Calls Tryz.prog 98 #[.agg #[.int .i64 t,.int .i64 (p:Int)]] w λd o=>∃M,d=.returned (.agg #[M])/\NodeL (λad=>w.heap.size<=ad) encN o M (zp3 t p)/\Fr NoM w o:=by(obtain⟨c,m⟩:=eX ((w.alloc (.cells #[.int .i64 t,.int .i64 (p:Int)] 29)).alloc (.cells #[.slice none 0 0] 26));have f1:Fr NoM w c:=by rw[m];exact((nW w).alloc _).alloc _);(have a2:c.heap.size=w.heap.size+2:=by rw[m];simp);(have Z:c.heap[w.heap.size]?=some (.cells #[.int .i64 t,.int .i64 (p:Int)] 29 (0,0)):=by rw[m];exact((nW _).alloc _).heap (xJ w _) id);have e1:c.heap[w.heap.size+1]?=some (.cells #[.slice none 0 0] 26 (0,0)):=by{have a:=xJ (w.alloc (.cells #[.int .i64 t,.int .i64 (p:Int)] 29)) (.cells #[.slice none 0 0] 26);rw[xZ]at a;rw[m];exact a};have s:=Hh (λg (a0:Fr (λb=>c.heap.size<=b) c g)=>(by{have h0:=a0.heap Z (λb=>by omega);have h1:=a0.heap e1 (λb=>by omega);exact⟨by rw[xX g _ 0 _ _ _ h0];rfl,by rw[xX g _ 1 _ _ _ h0];rfl,by rw[xX g _ 0 _ _ _ h1];rfl,by simp[World.frozen?,h1]⟩}:g.cell? ⟨w.heap.size,0,none⟩=some (.int .i64 t)/\g.cell? ⟨w.heap.size,1,none⟩=some (.int .i64 (p:Int))/\g.cell? ⟨w.heap.size+1,0,none⟩=some (.slice none 0 0)/\g.frozen? ⟨w.heap.size+1,0,none⟩=false));obtain⟨Y,H⟩:=eX (numB t p);have a6:=Hh (show Calls Tryz.prog 145 #[.agg #[.int .i64 t,.int .i64 (p:Int)]] c λd o=>d=.returned (.int .i64 (Y:Int))/\Fr NoM c o from by rw[H];exact zzu t p c I J);have O:=Hh f1;have T:=Hh a2;have C:=Hh H;have S:=Hh hr;have HT:=Hh J;have R:=Hh I;clear f1 a2 Z e1 H hr J I;obtain⟨h,i,e,f⟩:=s.out c (Fr.refl _ _);go_enter Tryz.func98,Tryz.ntmps98;go_wp2_with fail;rw[<-m];clear m;(with_reducible refine a6.out.mono ?_);rintro d j ⟨rfl,f2⟩;have x:=Hh f2;clear h i e f f2;obtain⟨h,i,e,f⟩:=s.out j x.out.any;by_cases G:120<=Y;{go_wp2;refine yY (v:=.agg #[.slice none 0 0]) (by simp[results,Tryz.results98,go_sem,e,f]) rfl ?_;(have hf:zp3 t p=[]:=by unfold zp3;rw[<-C.out,if_pos G]);rw[hf];exact⟨_,rfl,⟨none,0,rfl,xW _,by decide,by simp⟩,(O.out.trans x.out kP).setCell _ _ (λa=>by have a:w.heap.size+1<w.heap.size:=a;omega)⟩};{have a3:=yc9 (t:=t) (p:=p) (by rw[<-C.out];exact G);(obtain⟨q,z⟩:=eX (j.alloc (.cells #[.slice none 0 0,.slice none 0 0] 147));have f3:Fr NoM j q:=by rw[z];exact(nW j).alloc _);(have E:q.heap[j.heap.size]?=some (.cells #[.slice none 0 0,.slice none 0 0] 147 (0,0)):=by rw[z];exact xJ j _);(obtain⟨l,y⟩:=eX j.heap.size;rw[<-y]at E;obtain⟨D,F⟩:=eX (numU t p 121);have a1:D.length<1000:=by rw[F,zxg];have:=R.out;omega);have ab:=Hh (yck (U:=D) (by omega) l _ t p (vK _) S.out HT.out R.out (λac ha=>by rw[F];exact yc5 S.out a3 ac ha));have aa:=Hh (show Calls Tryz.prog 146 #[.pointer (some ⟨l,0,none⟩),.agg #[.int .i64 t,.int .i64 (p:Int)]] q λd o=>BkPost D l q (λb=>b=l) [] (numC t p) d o from ab.out _ [] [] q (BkN.start E));have P:=Hh (x.out.trans f3 kP);have a5:=Hh y;have V:=Hh a1;have HD:=Hh (show zp3 t p=zad (numC t p)from by unfold zp3;rw[<-C.out,if_neg G];rfl);clear h i e f f3 E F a1 a3;go_upto_region 4 with fail;rw[<-z,<-y];clear z y;obtain⟨h,i,e,f⟩:=s.out q P.out.any;go_wp2_with fail;(with_reducible refine aa.out.mono ?_);rintro d r ⟨a4,X,N,af,rfl,k,_,s4,f4,K,q4⟩;have ae:=k.len;have a8:=Hh (zn9 l a4 X N r k.book (zex k.ok) K (by have:=V.out;omega) (k.ok.lens (n:=100000000) (by have:=V.out;omega)));have a7:=Hh (show zdp X N a4=zp3 t p from by rw[HD.out];exact zea k.ok K q4);have B:=Hh (P.out.any.trans f4 (λL _ a=>by have a:L=l:=a;have:=a5.out;have:=x.out.size;omega):Fr (λb=>c.heap.size<=b) c r);clear k s4 f4 K q4 ae h i e f;obtain⟨h,i,e,f⟩:=s.out r B.out;go_wp2_with fail;(with_reducible refine a8.out.mono ?_);rintro d w5 ⟨M,rfl,A,f5⟩;rw[a7.out]at A;have Q:=Hh (B.out.trans f5 (λ_ _ b=>b.elim));have a9:=Hh A;have W:=Hh (show w.heap.size+2<=r.heap.size from by have:=B.out.size;have:=T.out;omega);obtain⟨va,vc,rfl,zz⟩:=id A;clear zz A f5 h i e f;obtain⟨h,i,e,f⟩:=s.out w5 Q.out;go_wp2;refine yY (v:=.agg #[.slice va (zp3 t p).length vc]) (by simp[results,Tryz.results98,go_sem,e,f]) rfl ?_;refine⟨_,rfl,?_,(O.out.trans Q.out (λL hk a=>by have a:c.heap.size<=L:=a;have:=T.out;omega)).setCell _ _ (λa=>by have a:w.heap.size+1<w.heap.size:=a;omega)⟩;exact(a9.out.fr (Fr.set w5 ⟨w.heap.size+1,0,none⟩ _) (λb u d=>by have d:b=w.heap.size+1:=d;have u:r.heap.size<=b:=u;have:=W.out;omega)).mono (λb u=>by have u:r.heap.size<=b:=u;have:=W.out;omega)}
