import Derived.OpenShut
import Derived.WalkSmall
import Derived.IntWalk
import Derived.Test.YtcalpapdkmnblaaGreatDoorZl2
/- Lemmas. -/
namespace Go.Proofs.YtcalpapdkmnblaaGreatDoor
set_option linter.unusedVariables false
set_option linter.unusedSimpArgs false
open Go.RowKit
def encC (n:Int):Value:=.int .u8 n
theorem ztn (a:Option Addr)(n c k b off:Nat)(hk:k<n)(ha:a=some ⟨b,off,none⟩)(w:World) :
  (Instr.indexAt 22 (.slice a n c) (.int .i64 (k:Int))).run Tryz.prog w=.ok (.pointer (some ⟨b,off+k,none⟩)) w:=by
 subst ha;go_simp
def CurS (w:World)(cb n:Nat):Prop:=∃(cv:Value) (L:List Int) (a:Nat) (sd:Int),w.heap[cb]?=some (.cells #[cv,.int .i64 (a:Int),.int .u64 sd] 79 (0,0))/\SliceOf encC w cv L/\(∀x∈L,0≤x/\x≤255)/\a≤n/\(L≠[]→∀q,cv.ownBlock=some q→q<cb)
theorem CurS.lt {w:World}{cb n:Nat}(h:CurS w cb n):cb<w.heap.size:=by
 obtain⟨cv,L,a,sd,h1,_⟩:=h;exact(Array.getElem?_eq_some_iff.1 h1).1
theorem CurS.fr {M:Nat→Prop}{w w':World}{cb n:Nat}(h:CurS w cb n)(hf:Fr M w w')(hM:∀q,q≤cb→¬M q):CurS w' cb n:=by
 obtain⟨cv,L,a,sd,h1,h2,h3,h4,h5⟩:=h;exact⟨cv,L,a,sd,hf.heap h1 (hM cb (Nat.le_refl _)),h2.fr hf (fun hne q hq=>hM q (Nat.le_of_lt (h5 hne q hq))),h3,h4,h5⟩
theorem CurS.fr0 {w w':World}{cb n:Nat}(h:CurS w cb n)(hf:Fr NoM w w'):CurS w' cb n:=h.fr hf (fun _ _ q=>q)
theorem CurS.mono {w:World}{cb n m:Nat}(h:CurS w cb n)(hm:n≤m):CurS w cb m:=by
 obtain⟨cv,L,a,sd,h1,h2,h3,h4,h5⟩:=h;exact⟨cv,L,a,sd,h1,h2,h3,Nat.le_trans h4 hm,h5⟩
theorem zz3 (E:Int)(h:(Lit.int .u64 E).wf=true):0≤bits BinOp.and IntKind.u64 E 255/\bits BinOp.and IntKind.u64 E 255≤255:=by
 obtain⟨h0,h1⟩:=bounds_u64 h;have h2:=bits_and_u64_nat E.toNat 255 (by omega) (by omega);rw[Int.toNat_of_nonneg h0]at h2;have h3:bits BinOp.and IntKind.u64 E 255=((E.toNat &&& 255:Nat):Int):=h2;have h4:E.toNat &&& 255≤255:=Nat.and_le_right;rw[h3];omega
theorem zsx (X:Int):0≤wrap64 (bits BinOp.and IntKind.u64 (IntKind.u64.wrap X/1099511627776) 255)/\wrap64 (bits BinOp.and IntKind.u64 (IntKind.u64.wrap X/1099511627776) 255)≤255:=by
 obtain⟨h0,h1⟩:=bounds_u64 (wf_wrap .u64 X);have hw:(Lit.int .u64 (IntKind.u64.wrap X/1099511627776)).wf=true:=by
  simp[Lit.wf,IntKind.min,IntKind.max,IntKind.signed,IntKind.bits];omega
 obtain⟨h2,h3⟩:=zz3 _ hw;obtain⟨B,hB⟩:∃B,B=bits BinOp.and IntKind.u64 (IntKind.u64.wrap X/1099511627776) 255:=⟨_,rfl⟩;rw[←hB]at h2 h3 ⊢;unfold wrap64;omega
def zxi (cb n:Nat)(w:World)(e:Ending)(w':World):Prop:=∃b:Int,e=.returned (.int .i64 b)/\0≤b/\b≤255/\CurS w' cb (n+1)/\Fr (fun q=>q=cb) w w'
theorem zyi {w:World}{cb:Nat}{c0 c1 c2 u1 u2:Value}{e:TypeId}(h:w.heap[cb]?=some (.cells #[c0,c1,c2] e (0,0))):((w.setCell ⟨cb,1,none⟩ u1).setCell ⟨cb,2,none⟩ u2).heap[cb]?=some (.cells #[c0,u1,u2] e (0,0))/\Fr (fun q=>q=cb) w ((w.setCell ⟨cb,1,none⟩ u1).setCell ⟨cb,2,none⟩ u2):=by
 constructor
 ·have h1:(w.setCell ⟨cb,1,none⟩ u1).heap[cb]?=some (.cells #[c0,u1,c2] e (0,0)):=by rw[heap_set h];rfl
  rw[heap_set h1];rfl
 ·exact Fr.setCell (Fr.setCell (Fr.refl (fun q=>q=cb) w) ⟨cb,1,none⟩ u1 (fun _=>rfl)) ⟨cb,2,none⟩ u2 (fun _=>rfl)
set_option maxRecDepth 4000 in
set_option maxHeartbeats 4000000 in
theorem zpr (cb n:Nat)(w:World)(h:CurS w cb n)(hn:n<1000000000000):Calls Tryz.prog 132 #[.pointer (some ⟨cb,0,none⟩)] w fun e w'=>zxi cb n w e w':=by
 obtain⟨cv,L,a,sd,hb,hc,hr,ha,hne⟩:=h;obtain⟨ca,cc,rfl,hl1,hl2,hcell⟩:=id hc;have c0:w.cell? ⟨cb,0,none⟩=some (.slice ca L.length cc):=by rw[cell_of_row _ _ 0 _ _ _ hb];rfl
 have c1:w.cell? ⟨cb,1,none⟩=some (.int .i64 (a:Int)):=by rw[cell_of_row _ _ 1 _ _ _ hb];rfl
 have c2:w.cell? ⟨cb,2,none⟩=some (.int .u64 sd):=by rw[cell_of_row _ _ 2 _ _ _ hb];rfl
 have z1:w.frozen? ⟨cb,1,none⟩=false:=by simp[World.frozen?,hb]
 have z2:w.frozen? ⟨cb,2,none⟩=false:=by simp[World.frozen?,hb]
 have hfin:=fun(k q:Nat) (u:Int)=>(show CurS ((((w.drewN k).setCell ⟨cb,1,none⟩ (.int .i64 ((a:Int)+1))).setCell ⟨cb,2,none⟩ (.int .u64 u)).drewN q) cb (n+1)/\Fr (fun q=>q=cb) w ((((w.drewN k).setCell ⟨cb,1,none⟩ (.int .i64 ((a:Int)+1))).setCell ⟨cb,2,none⟩ (.int .u64 u)).drewN q)from by
  have h0:Fr NoM w (w.drewN k):=⟨rfl,rfl,rfl,Nat.le_refl _,fun _ _ _=>rfl⟩;obtain⟨h1,h2⟩:=zyi (u1:=.int .i64 ((a:Int)+1)) (u2:=.int .u64 u) (h0.heap hb (fun q=>q));have h3:Fr NoM (((w.drewN k).setCell ⟨cb,1,none⟩ (.int .i64 ((a:Int)+1))).setCell ⟨cb,2,none⟩ (.int .u64 u)) ((((w.drewN k).setCell ⟨cb,1,none⟩ (.int .i64 ((a:Int)+1))).setCell ⟨cb,2,none⟩ (.int .u64 u)).drewN q):=⟨rfl,rfl,rfl,Nat.le_refl _,fun _ _ _=>rfl⟩;have h4:Fr (fun q=>q=cb) w ((((w.drewN k).setCell ⟨cb,1,none⟩ (.int .i64 ((a:Int)+1))).setCell ⟨cb,2,none⟩ (.int .u64 u)).drewN q):=Fr.trans (Fr.trans h0.any h2 (fun _ _ q=>q)) h3.any (fun _ _ q=>q);exact⟨⟨_,L,a+1,u,h3.heap h1 (fun q=>q),hc.fr h4 (fun e q hq=>Nat.ne_of_lt (hne e q hq)),hr,by omega,hne⟩,h4⟩)
 have HFin:=Hh hfin;have ha2:a<1000000000000:=by omega
 by_cases hlt:a<L.length
 ·obtain⟨x,hx⟩:∃x,L[a]?=some x:=⟨_,List.getElem?_eq_getElem hlt⟩
  obtain⟨b,off,hca,hcx⟩:=hcell a x hx;obtain⟨x0,x1⟩:=hr x (List.mem_of_getElem? hx);have ix:=ztn ca L.length cc a b off hlt hca;unfold encC at hcx;have aL:(a:Int)<(L.length:Int):=by omega
  clear hb hc hr hne hcell hfin hx hca ha hn hl1 hl2;go_enter Tryz.func132,Tryz.ntmps132;go_wp2;go_quiet (fail);go_wp2;go_quiet (fail);go_wp2;go_quiet (fail);go_wp2;go_ret;exact⟨x,rfl,x0,x1,(HFin.out _ _ _).1,(HFin.out _ _ _).2⟩
 ·have aL:¬((a:Int)<(L.length:Int)):=by omega
  clear hb hc hr hne hcell hfin ha hn hl1 hl2;go_enter Tryz.func132,Tryz.ntmps132;go_wp2;go_quiet (fail);go_wp2;go_quiet (fail);go_wp2;go_ret;exact⟨_,rfl,(zsx _).1,(zsx _).2,(HFin.out _ _ _).1,(HFin.out _ _ _).2⟩
def zxg (cb n:Nat)(m:Int)(w:World)(e:Ending)(w':World):Prop:=∃b:Int,e=.returned (.int .i64 b)/\0≤b/\(b<m∨b=0)/\CurS w' cb (n+2)/\Fr (fun q=>q=cb) w w'
set_option maxRecDepth 4000 in
theorem zd9 (cb n:Nat)(m:Int)(w:World)(h:CurS w cb n)(hn:n<100000000000)(hm:-1000000≤m/\m<1000000):Calls Tryz.prog 69 #[.pointer (some ⟨cb,0,none⟩),.int .i64 m] w fun e w'=>zxg cb n m w e w':=by
 have HN:=Hh (zpr cb n w h (by omega));have HN2:=Hh (fun(W:World) (g:CurS W cb (n+1))=>zpr cb (n+1) W g (by omega));have HC:=Hh (h.mono (show n≤n+2 by omega));clear h hn;obtain⟨m1,m2⟩:=hm;by_cases h1:m≤1
 ·go_enter Tryz.func69,Tryz.ntmps69
  go_wp2_with fail;go_ret;exact⟨0,rfl,by omega,.inr rfl,HC.out,Fr.refl _ _⟩
 ·have h1':1<m:=by omega
  by_cases h2:m>200
  ·go_enter Tryz.func69,Tryz.ntmps69
   go_wp2_with fail;refine HN.out.mono ?_
   rintro e w1 ⟨b,rfl,b0,b1,g1,f1⟩;have HN3:=Hh (HN2.out w1 g1);have F1:=Hh f1;clear g1 f1;go_wp2_with fail;refine HN3.out.mono ?_
   rintro e w2 ⟨c,rfl,c0,c1,g2,f2⟩;have HE:=Hh (And.intro g2 (F1.out.trans f2 (fun _ _ q=>q)));clear g2 f2;go_wp2_with fail;go_ret;exact⟨_,rfl,Int.emod_nonneg _ (by omega),.inl (Int.emod_lt_of_pos _ (by omega)),HE.out.1,HE.out.2⟩
  ·go_enter Tryz.func69,Tryz.ntmps69
   go_wp2_with fail;refine HN.out.mono ?_
   rintro e w1 ⟨b,rfl,b0,b1,g1,f1⟩;have HE:=Hh (And.intro (g1.mono (show n+1≤n+2 by omega)) f1);clear g1 f1;go_wp2_with fail;go_ret;exact⟨_,rfl,Int.emod_nonneg _ (by omega),.inl (Int.emod_lt_of_pos _ (by omega)),HE.out.1,HE.out.2⟩
def zyr (cb n:Nat)(w:World)(e:Ending)(w':World):Prop:=∃b:Bool,e=.returned (.bool b)/\CurS w' cb (n+2)/\Fr (fun q=>q=cb) w w'
theorem ztd (cb n:Nat)(m:Int)(w:World)(h:CurS w cb n)(hn:n<100000000000)(hm:-1000000≤m/\m<1000000):Calls Tryz.prog 66 #[.pointer (some ⟨cb,0,none⟩),.int .i64 m] w fun e w'=>zyr cb n w e w':=by
 have HN:=Hh (zd9 cb n m w h hn hm);clear h hn hm;go_enter Tryz.func66,Tryz.ntmps66;go_wp2_with fail;refine HN.out.mono ?_
 rintro e w1 ⟨b,rfl,b0,b1,g1,f1⟩;have HE:=Hh (And.intro g1 f1);clear g1 f1 b0 b1;go_wp2_with fail;go_ret;exact⟨_,rfl,HE.out.1,HE.out.2⟩
def zur (cb n:Nat)(L:List Int)(w:World)(e:Ending)(w':World):Prop:=∃b:Int,e=.returned (.int .i64 b)/\b∈L/\CurS w' cb (n+2)/\Fr (fun q=>q=cb) w w'
theorem zug (cb n:Nat)(v:Value)(L:List Int)(w:World)(h:CurS w cb n)(hL:Ints w v L)(hv:∀q,v.ownBlock=some q→q≠cb)(hp:0<L.length)(hl:L.length<100000)(hn:n<100000000000):Calls Tryz.prog 121 #[.pointer (some ⟨cb,0,none⟩),v] w fun e w'=>zur cb n L w e w':=by
 have HN:=Hh (zd9 cb n L.length w h hn ⟨by omega,by omega⟩);have HL:=Hh (fun(W:World) (f:Fr (fun q=>q=cb) w W)=>hL.fr f (fun _ q hq=>hv q hq));obtain⟨a,c,rfl,z⟩:=id hL;clear z hL hv h hn;go_enter Tryz.func121,Tryz.ntmps121;go_wp2_with fail;refine HN.out.mono ?_
 rintro e w1 ⟨b,rfl,b0,b1,g1,f1⟩;obtain⟨k,rfl⟩:∃k:Nat,b=(k:Int):=⟨b.toNat,by omega⟩;have hk:k<L.length:=by omega
 obtain⟨x,hx⟩:∃x,L[k]?=some x:=⟨_,List.getElem?_eq_getElem hk⟩;obtain⟨_,_,ee,_,_,hcc⟩:=HL.out w1 f1;obtain⟨rfl,hz,rfl⟩:=Value.slice.inj ee;obtain⟨b2,o2,ha,hc⟩:=hcc k x hx;have ix:=za9 a L.length c k b2 o2 hk ha;unfold encI at hc;have HE:=Hh (And.intro g1 (And.intro f1 (List.mem_of_getElem? hx)));clear g1 f1 b0 b1 hcc hz ee hx ha;go_wp2_with fail;go_ret;exact⟨x,rfl,HE.out.2.2,HE.out.1,HE.out.2.1⟩
def DF (U:List Nat)(Fm:List PL):Prop:=∃c,Fm=zb9 c/\∀x,SubC c x→x∈U
theorem DF.mono {U U':List Nat}{Fm:List PL}(h:DF U Fm)(hs:∀x∈U,x∈U'):DF U' Fm:=by
 obtain⟨c,e,h⟩:=h;exact⟨c,e,fun x hx=>hs x (h x hx)⟩
theorem zsi {L:List Nat}{n:Nat}(hu:L.Pairwise (· < ·))(hl:∀x∈L,x<n):L.length≤n:=by
 have:=List.Nodup.length_le_of_subset (show L.Nodup from hu.imp (fun h=>Nat.ne_of_lt h)) (fun x hx=>List.mem_range.2 (hl x hx));rwa [List.length_range]at this
theorem DF.props {U:List Nat}{Fm:List PL}(h:DF U Fm):0<Fm.length/\Fm.length≤U.length/\OptsOK Fm/\∀y∈Fm,y.1.length≤U.length/\y.2.length≤U.length:=by
 obtain⟨c,rfl,hs⟩:=h;obtain⟨p1,p2,p3,_⟩:=zez (zc4 c);obtain⟨P,hA⟩:=zc4 c;have hPl:=hA.book.len;have hle:P.length≤U.length:=hA.book.nodup.length_le_of_subset fun x hx=>hs x ((hA.sub x).1 hx)
 refine⟨p1,by omega,p2,fun y hy=>?_⟩;obtain⟨j,hj,rfl⟩:=List.getElem_of_mem hy;have ej:=List.getElem?_eq_getElem hj
 obtain⟨o1,o2⟩:=p2 j _ ej;obtain⟨u1,u2⟩:=p3 j _ ej;have h1:=zsi u1 o1;have h2:=zsi u2 o2;exact⟨by omega,by omega⟩
theorem DF.good {U:List Nat}{Fm:List PL}(h:DF U Fm)(hU:U.length≤120):GoodF Fm:=by
 obtain⟨p1,p2,p3,p4⟩:=h.props;exact⟨p1,by omega,p3,fun y hy=>by have:=p4 y hy;omega⟩
theorem zrv {a x:Nat}(h:SubC a x):x=a∨∃y,optC a y/\SubC y x:=by
 induction h with
 | root=>exact .inl rfl
 | step _ hop ih =>
  rcases ih with rfl|⟨y,hy,hs⟩
  ·exact .inr ⟨_,hop,.root⟩
  ·exact .inr ⟨y,hy,hs.step hop⟩
theorem zkc (FL:List (List PL)):∀(s:List PL × List Nat × List Nat) (cs:List Nat),(∀Fm∈FL,0<Fm.length/\OptsOK Fm)→PoolOK s.1 s.2.1→RowC s.1 s.2.2 cs →
  PoolOK (FL.foldl zb8 s).1 (FL.foldl zb8 s).2.1/\s.1 <+: (FL.foldl zb8 s).1/\RowC (FL.foldl zb8 s).1 (FL.foldl zb8 s).2.2 (cs++FL.map zak):=by
 induction FL with
 | nil=>intro s cs _ h hr;exact⟨h,List.prefix_refl _,by simpa using hr⟩
 | cons f l ih =>
  intro s cs hF h hr;obtain⟨hp,ho⟩:=hF f List.mem_cons_self;obtain⟨a1,a2,a3,_⟩:=zo2 f ho h;have hlen:(addB s.1 s.2.1 f).2.2.length=f.length:=by rw[a3.len,za1]
  have hr1:RowC (zb8 s f).1 (zb8 s f).2.2 (cs ++ [zak f]):=by
   refine(hr.mono a2).snoc ?_ ?_
   ·exact a3.1 _ (zcb (by omega))
   ·have h1:=a3.2
    unfold zee zak;have h2:(za3 (za0 (addB s.1 s.2.1 f).1) (addB s.1 s.2.1 f).2.2).getD (f.length-1) 0=(za0 f).getD (f.length-1) 0:=by rw[h1]
    rw[←h2];unfold za3;rw[List.getD_eq_getElem?_getD,List.getD_eq_getElem?_getD,List.getD_eq_getElem?_getD,List.getElem?_map,List.getElem?_eq_getElem (show f.length-1<(addB s.1 s.2.1 f).2.2.length by omega)];simp[List.getD_eq_getElem?_getD]
  obtain⟨i1,i2,i3⟩:=ih (zb8 s f) (cs ++ [zak f]) (fun Fm hm=>hF Fm (List.mem_cons_of_mem _ hm)) a1 hr1;rw[List.foldl_cons];refine⟨i1,a2.trans i2,?_⟩;rw[List.map_cons,show cs++zak f::l.map zak=cs ++ [zak f]++l.map zak from by simp];exact i3
theorem zs4 {FL FR:List (List PL)}(hL:∀Fm∈FL,0<Fm.length/\OptsOK Fm)(hR:∀Fm∈FR,0<Fm.length/\OptsOK Fm):zne FL FR=zb9 (mkC (FL.map zak) (FR.map zak)):=by
 obtain⟨a1,a2,a3⟩:=zkc FL ([],[],[]) [] hL PoolOK.nil (RowC.nil _);obtain⟨b1,b2,b3⟩:=zkc FR ((zbg [] [] FL).1,(zbg [] [] FL).2.1,[]) [] hR a1 (RowC.nil _);rw[List.nil_append]at a3 b3;obtain⟨q1,q2,q3,q4⟩:=zeg b1 (a3.mono b2) b3;have:=zgi q1 q3 q4;rw[←this];unfold zne;show zd3 (putB _ _ _ _).1 (putB _ _ _ _).2.1 (putB _ _ _ _).2.2=_
 rw[←zch b1];rfl
theorem DF.code {U:List Nat}{Fm:List PL}(h:DF U Fm):Fm=zb9 (zak Fm)/\∀x,SubC (zak Fm) x→x∈U:=by
 obtain⟨c,rfl,hs⟩:=h;have e:zak (zb9 c)=c:=(zez (zc4 c)).2.2.2.2.2;rw[e];exact⟨rfl,hs⟩
theorem zvk {U:List Nat}{FL FR:List (List PL)}(hL:∀Fm∈FL,DF U Fm)(hR:∀Fm∈FR,DF U Fm):DF (U ++ [mkC (FL.map zak) (FR.map zak)]) (zne FL FR)/\zak (zne FL FR)=mkC (FL.map zak) (FR.map zak):=by
 have hm:zne FL FR=zb9 (mkC (FL.map zak) (FR.map zak)):=zs4 (fun Fm h=>⟨(hL Fm h).props.1,(hL Fm h).props.2.2.1⟩) (fun Fm h=>⟨(hR Fm h).props.1,(hR Fm h).props.2.2.1⟩);refine⟨⟨_,hm,fun x hx=>?_⟩,by rw[hm];exact(zez (zc4 _)).2.2.2.2.2⟩;rcases zrv hx with rfl|⟨y,hy,hs⟩
 ·simp
 ·refine List.mem_append_left _ ?_
  rcases hy with h|h
  ·obtain⟨Fm,hm,rfl⟩:=List.mem_map.1 ((zau _ _ y).1 h)
   exact(hL Fm hm).code.2 x hs
  ·obtain⟨Fm,hm,rfl⟩:=List.mem_map.1 ((zas _ _ y).1 h)
   exact(hR Fm hm).code.2 x hs
def nn1:Nat:=mkC [] []
def nn2:Nat:=mkC [nn1] []
def nn3:Nat:=mkC [] [nn1]
def nn4:Nat:=mkC [nn1] [nn1]
def nn5:Nat:=mkC [nn1] [nn4]
def nn6:Nat:=mkC [nn1] [nn2]
def nn7:Nat:=mkC [nn2] [nn3]
def nn8:Nat:=mkC [nn1,nn4] [nn1,nn4]
def nn9:Nat:=mkC [nn4] [nn1]
def zdh:List Nat:=[nn1,nn2,nn3,nn4,nn5,nn6,nn7,nn8,nn9]
def NineU (U:List Nat)(i:Nat):Prop:=∃E,U=zdh++E/\E.length=i
theorem NineU.len {U:List Nat}{i:Nat}(h:NineU U i):U.length=9+i:=by
 obtain⟨E,rfl,rfl⟩:=h;rw[List.length_append];rfl
theorem NineU.snoc {U:List Nat}{i:Nat}(h:NineU U i)(c:Nat):NineU (U ++ [c]) (i+1):=by
 obtain⟨E,rfl,rfl⟩:=h;exact⟨E ++ [c],by rw[List.append_assoc],by simp⟩
structure FRow (B:Nat) (W:World) (v:Value) (VS:List Value) (FSs:List (List PL)) (T:Nat→Prop):Prop where
 row:W.ownsRow B 26 1 v VS.length VS
 len:VS.length=FSs.length
 nodes:∀(j:Nat) (nv:Value) (Fm:List PL),VS[j]?=some nv→FSs[j]?=some Fm→NodeL T encN W nv Fm
 sep:∀q,T q→q<W.heap.size/\v.ownBlock≠some q
theorem FRow.fr {B:Nat}{W W':World}{v:Value}{VS:List Value}{FSs:List (List PL)}{T M:Nat→Prop}(h:FRow B W v VS FSs T)(hf:Fr M W W')(hv:∀q,v.ownBlock=some q→¬M q)(hT:∀q,T q→¬M q):FRow B W' v VS FSs T :=
 ⟨za2 h.row hf hv,h.len,fun j nv Fm h1 h2=>(h.nodes j nv Fm h1 h2).fr hf hT,fun q hq=>⟨Nat.lt_of_lt_of_le (h.sep q hq).1 hf.size,(h.sep q hq).2⟩⟩
theorem FRow.forms {B:Nat}{W:World}{v:Value}{VS:List Value}{FSs:List (List PL)}{T:Nat→Prop}(h:FRow B W v VS FSs T):FormsL T W v FSs :=
 ⟨VS,SliceOf.of_owns (enc:=encV) h.row (List.map_id'' (fun _=>rfl) VS).symm,h.len,h.nodes⟩
theorem FRow.made (W:World)(T:Nat→Prop)(hT:∀q,T q→q<W.heap.size):FRow W.heap.size (W.alloc (.cells #[] 26)) (.slice (some ⟨W.heap.size,0,none⟩) 0 0) [] [] T :=
 ⟨World.ownsRow_made W #[] 0 (Nat.le_refl _) (by decide) (by simp),rfl,by simp,fun q hq=>⟨by have:=hT q hq;simp;omega,fun e=>by have e:W.heap.size=q:=Option.some.inj e;have:=hT q hq;omega⟩⟩
theorem FRow.snoc {B:Nat}{W Wa W':World}{v v' nv:Value}{VS:List Value}{FSs:List (List PL)}{T T':Nat→Prop}{Fm:List PL}(h:FRow B W v VS FSs T)(ha:Fr NoM W Wa)(ho:W'.ownsRow B 26 1 v' (VS.length+1) (VS ++ [nv]))(hf:Fr (Own1 v) Wa W')
  (hq:v'.ownBlock=v.ownBlock∨∃b,v'.ownBlock=some b/\Wa.heap.size≤b) (hn:NodeL T' encN Wa nv Fm) (hTT:∀q,T q→T' q) (hT':∀q,T' q→q<Wa.heap.size/\v.ownBlock≠some q):FRow B W' v' (VS ++ [nv]) (FSs ++ [Fm]) T':=by
 refine⟨by rw[List.length_append];exact ho,by simp[h.len],fun j u G h1 h2=>?_,fun q hq'=>⟨Nat.lt_of_lt_of_le (hT' q hq').1 hf.size,fun e=>?_⟩⟩
 ·by_cases hj:j<VS.length
  ·rw[List.getElem?_append_left hj]at h1
   rw[List.getElem?_append_left (by rw[←h.len];exact hj)]at h2;exact((h.nodes j u G h1 h2).fr (ha.any.trans hf (fun q _ e=>e)) (fun q hT e=>(h.sep q hT).2 e)).mono hTT
  ·have hl:=(List.getElem?_eq_some_iff.1 h1).1
   have hje:j=VS.length:=by simp at hl;omega
   subst hje;have e1:u=nv:=by simpa using h1.symm
   have e2:G=Fm:=by rw[h.len]at h2;simpa using h2.symm
   subst e1;subst e2;exact hn.fr hf (fun q hT e=>(hT' q hT).2 e)
 ·rcases hq with h1|⟨b,h1,h2⟩
  ·rw[h1]at e;exact(hT' q hq').2 e
  ·rw[h1]at e;cases e
   have:=(hT' q hq').1;omega
theorem NodeRow.nodeOf {T R:Nat→Prop}{base:Nat}{w:World}{v:Value}{LL:List PL}(h:NodeRow T base w v LL)(hR:∀b,v.ownBlock=some b→R b)(hT:∀b,T b→R b):NodeL R encN w v LL:=by
 obtain⟨NV,h1,h2,h3⟩:=h;obtain⟨a,c,rfl,h4,h5,h6⟩:=Pairs.of_owns h1;rw[h2]at h4 hR ⊢;refine⟨a,c,rfl,h4,h5,fun j y hy=>?_⟩;have hj:=(List.getElem?_eq_some_iff.1 hy).1;obtain⟨x,hx⟩:∃x,NV[j]?=some x:=⟨NV[j]'(by rw[h2];exact hj),List.getElem?_eq_getElem _⟩;obtain⟨b,off,rfl,c1,c2⟩:=h6 j x hx;obtain⟨s1,s2,t1,t2⟩:=h3 j x y hx hy;exact⟨b,off,x.1,x.2,rfl,hR b rfl,c1,c2,s1,s2,fun hne q hq=>hT q (t1 hne q hq),fun hne q hq=>hT q (t2 hne q hq)⟩
def NodeT (D:Nat)(T:Nat→Prop)(w:World)(v:Value)(LL:List PL):Prop:=∃T0:Nat→Prop,NodeRow T0 D w v LL/\(∀q,T0 q→T q)/\∀q,v.ownBlock=some q→T q/\¬T0 q
section
variable {D:Nat}{T T':Nat→Prop}{w w':World}{v:Value}{LL:List PL}
theorem NodeT.fr {M:Nat→Prop}(h:NodeT D T w v LL)(hf:Fr M w w')(hM:∀q,T q→¬M q):NodeT D T w' v LL:=by
 obtain⟨T0,h1,h2,h3⟩:=h;exact⟨T0,h1.fr hf (fun b hb=>hM b (h3 b hb).1) (fun b hb=>hM b (h2 b hb)),h2,h3⟩
theorem NodeT.fr0 (h:NodeT D T w v LL)(hf:Fr NoM w w'):NodeT D T w' v LL:=h.fr hf (fun _ _ q=>q)
theorem NodeT.mono (h:NodeT D T w v LL)(ht:∀q,T q→T' q):NodeT D T' w v LL:=by
 obtain⟨T0,h1,h2,h3⟩:=h;exact⟨T0,h1,fun q hq=>ht q (h2 q hq),fun q hq=>⟨ht q (h3 q hq).1,(h3 q hq).2⟩⟩
theorem NodeT.nodeL (h:NodeT D T w v LL):NodeL T encN w v LL:=by
 obtain⟨T0,h1,h2,h3⟩:=h;exact h1.nodeOf (fun b hb=>(h3 b hb).1) h2
theorem NodeOwn.nodeT (h:NodeOwn D w v LL):NodeT D (fun q=>D≤q/\q<w.heap.size) w v LL:=by
 obtain⟨T0,base,h1,h2,h3,h4⟩:=h;obtain⟨NV,o1,o2,o3⟩:=h1.mono (T':=fun q=>T0 q/\q<w.heap.size) (fun b hb hl=>⟨hb,hl⟩);exact⟨_,⟨NV,zar o1 h2,o2,o3⟩,fun q hq=>⟨h3 q hq.1,hq.2⟩,fun q hq=>⟨⟨Nat.le_trans h2 (o1.lt q hq).1,(o1.lt q hq).2⟩,fun e=>h4 q hq e.1⟩⟩
end
structure GRow (D:Nat) (W:World) (v:Value) (VS:List Value) (FSs:List (List PL)) (T:Nat→Prop):Prop where
 row:W.ownsRow D 26 1 v VS.length VS
 len:VS.length=FSs.length
 nodes:∀(j:Nat) (nv:Value) (Fm:List PL),VS[j]?=some nv→FSs[j]?=some Fm→NodeT D T W nv Fm
 sep:∀q,T q→D≤q/\q<W.heap.size/\v.ownBlock≠some q
section
variable {D:Nat}{W W' Wa:World}{v v' nv:Value}{VS:List Value}{FSs:List (List PL)}{T T':Nat→Prop}{Fm:List PL}
theorem GRow.fr {M:Nat→Prop}(h:GRow D W v VS FSs T)(hf:Fr M W W')(hv:∀q,v.ownBlock=some q→¬M q)(hT:∀q,T q→¬M q):GRow D W' v VS FSs T :=
 ⟨za2 h.row hf hv,h.len,fun j nv Fm h1 h2=>(h.nodes j nv Fm h1 h2).fr hf hT,fun q hq=>⟨(h.sep q hq).1,Nat.lt_of_lt_of_le (h.sep q hq).2.1 hf.size,(h.sep q hq).2.2⟩⟩
theorem GRow.fr0 (h:GRow D W v VS FSs T)(hf:Fr NoM W W'):GRow D W' v VS FSs T:=h.fr hf (fun _ _ q=>q) (fun _ _ q=>q)
theorem GRow.forms (h:GRow D W v VS FSs T):FormsL T W v FSs :=
 ⟨VS,SliceOf.of_owns (enc:=encV) h.row (List.map_id'' (fun _=>rfl) VS).symm,h.len,fun j nv Fm h1 h2=>(h.nodes j nv Fm h1 h2).nodeL⟩
theorem GRow.cell (h:GRow D W v VS FSs T):∃a c,v=.slice a VS.length c/\∀(j:Nat) (nv:Value),VS[j]?=some nv→∃b off,a=some ⟨b,off,none⟩/\W.cell? ⟨b,off+j,none⟩=some nv:=by
 obtain⟨a,c,e,_,_,h3⟩:=SliceOf.of_owns (enc:=encV) h.row (List.map_id'' (fun _=>rfl) VS).symm;exact⟨a,c,e,h3⟩
theorem GRow.ofBlock {b:Nat}(hb:W.heap[b]?=some (.cells VS.toArray 26 (0,0)))(hD:D≤b)(hm:VS.length≤1000)(hl:VS.length=FSs.length)(hN:∀p∈VS.zip FSs,NodeT D T W p.1 p.2)(hT:∀q,T q→D≤q/\q<b):GRow D W (.slice (some ⟨b,0,none⟩) VS.length VS.length) VS FSs T:=by
 have hlt:=(Array.getElem?_eq_some_iff.1 hb).1;refine⟨⟨by simp,.inr ⟨b,VS.length,VS.toArray,rfl,hD,hb,Nat.le_refl _,by unfold maxLen;omega,by simp,by simp⟩⟩,hl,fun j nv Fm h1 h2=>?_,fun q hq=>⟨(hT q hq).1,Nat.lt_trans (hT q hq).2 hlt,fun e=>?_⟩⟩
 ·exact hN (nv,Fm) (List.mem_of_getElem? (i:=j) (by rw[List.getElem?_zip_eq_some];exact⟨h1,h2⟩))
 ·have e:b=q:=Option.some.inj e
  have:=(hT q hq).2;omega
theorem GRow.snoc (h:GRow D W v VS FSs T)(ha:Fr NoM W Wa)(ho:W'.ownsRow D 26 1 v' (VS.length+1) (VS ++ [nv]))(hf:Fr (Own1 v) Wa W')
  (hq:v'.ownBlock=v.ownBlock∨∃b,v'.ownBlock=some b/\Wa.heap.size≤b) (hn:NodeT D T' Wa nv Fm) (hTT:∀q,T q→T' q) (hT':∀q,T' q→D≤q/\q<Wa.heap.size/\v.ownBlock≠some q):GRow D W' v' (VS ++ [nv]) (FSs ++ [Fm]) T':=by
 refine⟨by rw[List.length_append];exact ho,by simp[h.len],fun j u G h1 h2=>?_,fun q hq'=>⟨(hT' q hq').1,Nat.lt_of_lt_of_le (hT' q hq').2.1 hf.size,fun e=>?_⟩⟩
 ·by_cases hj:j<VS.length
  ·rw[List.getElem?_append_left hj]at h1
   rw[List.getElem?_append_left (by rw[←h.len];exact hj)]at h2;exact((h.nodes j u G h1 h2).fr (ha.any.trans hf (fun q _ e=>e)) (fun q hT e=>(h.sep q hT).2.2 e)).mono hTT
  ·have hl:=(List.getElem?_eq_some_iff.1 h1).1
   have hje:j=VS.length:=by simp at hl;omega
   subst hje;have e1:u=nv:=by simpa using h1.symm
   have e2:G=Fm:=by rw[h.len]at h2;simpa using h2.symm
   subst e1;subst e2;exact hn.fr hf (fun q hT e=>(hT' q hT).2.2 e)
 ·rcases hq with h1|⟨b,h1,h2⟩
  ·rw[h1]at e;exact(hT' q hq').2.2 e
  ·rw[h1]at e;cases e
   have:=(hT' q hq').2.1;omega
end
theorem FormsL.fr {R M:Nat→Prop}{w w':World}{v:Value}{FL:List (List PL)}(h:FormsL R w v FL)(hf:Fr M w w')(hv:∀q,v.ownBlock=some q→¬M q)(hR:∀q,R q→¬M q):FormsL R w' v FL:=by
 obtain⟨VS,h1,h2,h3⟩:=h;exact⟨VS,h1.fr hf (fun _ q hq=>hv q hq),h2,fun j nv Fm e1 e2=>(h3 j nv Fm e1 e2).fr hf hR⟩
theorem FormsL.fr0 {R:Nat→Prop}{w w':World}{v:Value}{FL:List (List PL)}(h:FormsL R w v FL)(hf:Fr NoM w w'):FormsL R w' v FL:=h.fr hf (fun _ _ q=>q) (fun _ _ q=>q)
def zxk (U:List Nat)(c:Nat)(w:World)(e:Ending)(w':World):Prop:=∃(v':Value) (Fm:List PL),e=.returned (.agg #[v'])/\NodeOwn w.heap.size w' v' Fm/\DF (U ++ [c]) Fm/\zak Fm=c/\Fr NoM w w'
theorem zpx {R:Nat→Prop}(U:List Nat)(lv rv:Value)(FL FR:List (List PL))(w:World)(hL:FormsL R w lv FL)(hR:FormsL R w rv FR)(dL:∀Fm∈FL,DF U Fm)(dR:∀Fm∈FR,DF U Fm)(hU:U.length≤120)(nL:FL.length≤1000)(nR:FR.length≤1000) :
  Calls Tryz.prog 115 #[lv,rv] w fun e w'=>zxk U (mkC (FL.map zak) (FR.map zak)) w e w':=by
 refine(zs9 lv rv FL FR w hL hR (fun Fm h=>(dL Fm h).good hU) (fun Fm h=>(dR Fm h).good hU) nL nR).mono ?_
 rintro e w' ⟨v',rfl,h,f⟩;obtain⟨hc,hd⟩:=zvk dL dR;exact⟨v',_,rfl,h,hc,hd,f⟩
theorem zrb (R:Nat→Prop)(w:World):FormsL R w (.slice none 0 0) []:=⟨[],SliceOf.nil _ _,rfl,by simp⟩
theorem zet {R:Nat→Prop}{w:World}{nv:Value}{Fm:List PL}{a:Nat}(ha:a=w.heap.size)(h:NodeL R encN w nv Fm):FormsL R (w.alloc (.cells #[nv] 26)) (.slice (some ⟨a,0,none⟩) 1 1) [Fm]:=by
 subst ha;refine⟨[nv],SliceOf.one encV w nv 26,rfl,fun j u G h1 h2=>?_⟩;cases j with
 | zero =>
  have e1:nv=u:=by simpa using h1
  have e2:Fm=G:=by simpa using h2
  subst e1;subst e2;exact h.fr0 ((Fr.refl NoM w).alloc _)
 | succ j=>simp at h1
theorem zxt {R:Nat→Prop}{w:World}{nv mv:Value}{Fm Gm:List PL}{a:Nat}(ha:a=w.heap.size)(h:NodeL R encN w nv Fm)(h':NodeL R encN w mv Gm):FormsL R (w.alloc (.cells #[nv,mv] 26)) (.slice (some ⟨a,0,none⟩) 2 2) [Fm,Gm]:=by
 subst ha;have hb:(w.alloc (.cells #[nv,mv] 26)).heap[w.heap.size]?=some (.cells #[nv,mv] 26 (0,0)):=heap_alloc_new w _;refine⟨[nv,mv],⟨_,2,rfl,by simp,by decide,fun j u hu=>⟨w.heap.size,0,rfl,?_⟩⟩,rfl,fun j u G h1 h2=>?_⟩
 ·rw[Nat.zero_add,cell_of_row _ _ _ _ _ _ hb]
  match j,hu with
  | 0,hu=>exact hu
  | 1,hu=>exact hu
  | j+2,hu=>simp at hu
 ·match j,h1,h2 with
  | 0,h1,h2 =>
   have e1:nv=u:=by simpa using h1
   have e2:Fm=G:=by simpa using h2
   subst e1;subst e2;exact h.fr0 ((Fr.refl NoM w).alloc _)
  | 1,h1,h2 =>
   have e1:mv=u:=by simpa using h1
   have e2:Gm=G:=by simpa using h2
   subst e1;subst e2;exact h'.fr0 ((Fr.refl NoM w).alloc _)
  | j+2,h1,h2=>simp at h1
structure BoxF (D:Nat) (W:World) (b:Nat) (nv:Value) (U:List Nat) (Fm:List PL):Prop where
 blk:W.heap[b]?=some (.cells #[nv] 26 (0,0))
 node:NodeT D (fun q=>D≤q/\q<W.heap.size) W nv Fm
 df:DF U Fm
section
variable {D:Nat}{W W':World}{b:Nat}{nv:Value}{U U':List Nat}{Fm:List PL}
theorem BoxF.fr0 (h:BoxF D W b nv U Fm)(hf:Fr NoM W W'):BoxF D W' b nv U Fm:=⟨hf.heap h.blk (fun q=>q),(h.node.fr0 hf).mono (fun q hq=>⟨hq.1,Nat.lt_of_lt_of_le hq.2 hf.size⟩),h.df⟩
theorem BoxF.cell (h:BoxF D W b nv U Fm):W.cell? ⟨b,0,none⟩=some nv:=by rw[cell_of_row _ _ 0 _ _ _ h.blk];rfl
theorem BoxF.make {w:World}(h:NodeOwn w.heap.size W nv Fm)(hd:DF U Fm)(hD:D≤w.heap.size)(hW:W'=W.alloc (.cells #[nv] 26)):BoxF D W' W.heap.size nv U Fm:=by
 subst hW;exact⟨heap_alloc_new W _,((h.mono hD).nodeT.fr0 ((Fr.refl NoM W).alloc _)).mono (fun q hq=>⟨hq.1,by rw[World.size_alloc];omega⟩),hd⟩
end
def zum (w:World)(e:Ending)(w':World):Prop:=∃(v:Value) (VS:List Value) (FSs:List (List PL)) (U:List Nat) (T:Nat→Prop),e=.returned v/\GRow w.heap.size w' v VS FSs T/\(∀Fm∈FSs,DF U Fm)/\U=zdh/\FSs.length=9/\Fr NoM w w'
theorem zmb {R:Nat→Prop}(c:Nat){lv rv:Value}{FL FR:List (List PL)}{w:World}(hL:FormsL R w lv FL)(hR:FormsL R w rv FR)(dL:∀Fm∈FL,DF zdh Fm)(dR:∀Fm∈FR,DF zdh Fm)(hc:mkC (FL.map zak) (FR.map zak)=c)(hm:c∈zdh)(nL:FL.length≤1000)(nR:FR.length≤1000) :
  Calls Tryz.prog 115 #[lv,rv] w fun e w'=>∃(v':Value) (Fm:List PL),e=.returned (.agg #[v'])/\NodeOwn w.heap.size w' v' Fm/\DF zdh Fm/\zak Fm=c/\Fr NoM w w':=by
 refine(zpx zdh lv rv FL FR w hL hR dL dR (by decide) nL nR).mono ?_
 rintro e w' ⟨v',Fm,rfl,h1,h2,h3,h4⟩;rw[hc]at h2 h3;exact⟨v',Fm,rfl,h1,h2.mono (fun x hx=>(List.mem_append.1 hx).elim id (fun h=>by rw[List.mem_singleton.1 h];exact hm)),h3,h4⟩
theorem df1 {A:List PL}(h:DF zdh A):∀Fm∈[A],DF zdh Fm:=fun Fm e=>by rw[List.mem_singleton.1 e];exact h
theorem df2 {A B:List PL}(h:DF zdh A)(h':DF zdh B):∀Fm∈[A,B],DF zdh Fm:=fun Fm e=>by
 simp only[List.mem_cons,List.not_mem_nil,or_false]at e;rcases e with rfl|rfl
 ·exact h
 ·exact h'
theorem df0:∀Fm∈([]:List (List PL)),DF zdh Fm:=by simp
set_option maxRecDepth 8000 in
set_option maxHeartbeats 16000000 in
theorem zos (W0:World):Calls Tryz.prog 175 #[] W0 fun e w'=>zum W0 e w':=by
 obtain⟨D,hD⟩:∃D,D=W0.heap.size:=⟨_,rfl⟩;have G0:=Hh (Fr.refl NoM W0);have HD:=Hh hD;clear hD;go_enter Tryz.func175,Tryz.ntmps175;go_wp2_with fail;refine(zmb (R:=fun q=>D≤q/\q<W0.heap.size) nn1 (zrb _ _) (zrb _ _) df0 df0 rfl (by simp[zdh]) (by simp) (by simp)).mono ?_
 rintro e w1 ⟨v1,F1,rfl,o,d,t,f⟩;obtain⟨a1,n1,rfl,z⟩:=id o.nodeL;obtain⟨W1,hW⟩:∃W,W=w1.alloc (.cells #[.slice a1 F1.length n1] 26):=⟨_,rfl⟩;have g:Fr NoM W0 W1:=((Fr.refl NoM W0).trans f (fun _ _ q=>q)).trans (show Fr NoM w1 W1 by rw[hW];exact(Fr.refl NoM w1).alloc _) (fun _ _ q=>q);have E1:=Hh t;have B1:=Hh (BoxF.make (D:=D) o d (by have h1:=G0.out.size;have h2:=HD.out;(try simp only[World.size_alloc]);omega) hW);have G1:=Hh (G0.out.trans g (fun _ _ q=>q));clear o d t f g z ;go_upto_region 2 with fail;rw[←hW];clear hW;have k1:=B1.out.cell;go_wp2_with fail;refine(zmb (R:=fun q=>D≤q/\q<W1.heap.size) nn2 (zet rfl (B1.out.node.nodeL)) (zrb _ _) (df1 B1.out.df) df0 (by simp only[List.map_cons,List.map_nil,E1.out];rfl) (by simp[zdh]) (by simp) (by simp)).mono ?_
 rintro e w2 ⟨v2,F2,rfl,o,d,t,f⟩;obtain⟨a2,n2,rfl,z⟩:=id o.nodeL;obtain⟨W2,hW⟩:∃W,W=w2.alloc (.cells #[.slice a2 F2.length n2] 26):=⟨_,rfl⟩;have g:Fr NoM W1 W2:=(((Fr.refl NoM W1).alloc _).trans f (fun _ _ q=>q)).trans (show Fr NoM w2 W2 by rw[hW];exact(Fr.refl NoM w2).alloc _) (fun _ _ q=>q);have E2:=Hh t;have B2:=Hh (BoxF.make (D:=D) o d (by have h1:=G1.out.size;have h2:=HD.out;(try simp only[World.size_alloc]);omega) hW);have B1:=Hh (B1.out.fr0 g);have G2:=Hh (G1.out.trans g (fun _ _ q=>q));clear o d t f g z k1;go_upto_region 3 with fail;rw[←hW];clear hW;have k1:=B1.out.cell;go_wp2_with fail;refine(zmb (R:=fun q=>D≤q/\q<W2.heap.size) nn3 (zrb _ _) (zet rfl (B1.out.node.nodeL)) df0 (df1 B1.out.df) (by simp only[List.map_cons,List.map_nil,E1.out];rfl) (by simp[zdh]) (by simp) (by simp)).mono ?_
 rintro e w3 ⟨v3,F3,rfl,o,d,t,f⟩;obtain⟨a3,n3,rfl,z⟩:=id o.nodeL;obtain⟨W3,hW⟩:∃W,W=w3.alloc (.cells #[.slice a3 F3.length n3] 26):=⟨_,rfl⟩;have g:Fr NoM W2 W3:=(((Fr.refl NoM W2).alloc _).trans f (fun _ _ q=>q)).trans (show Fr NoM w3 W3 by rw[hW];exact(Fr.refl NoM w3).alloc _) (fun _ _ q=>q);have E3:=Hh t;have B3:=Hh (BoxF.make (D:=D) o d (by have h1:=G2.out.size;have h2:=HD.out;(try simp only[World.size_alloc]);omega) hW);have B1:=Hh (B1.out.fr0 g);have B2:=Hh (B2.out.fr0 g);have G3:=Hh (G2.out.trans g (fun _ _ q=>q));clear o d t f g z k1;go_upto_region 4 with fail;rw[←hW];clear hW;have k1:=B1.out.cell;have j1:=(B1.out.fr0 ((Fr.refl NoM W3).alloc (.cells #[.slice a1 F1.length n1] 26))).cell;go_wp2_with fail;refine(zmb (R:=fun q=>D≤q/\q<W3.heap.size) nn4 (FormsL.fr0 (zet rfl (B1.out.node.nodeL)) ((Fr.refl NoM _).alloc _)) (zet (World.size_alloc _ _).symm (B1.out.node.nodeL.fr0 ((Fr.refl NoM _).alloc _))) (df1 B1.out.df) (df1 B1.out.df) (by simp only[List.map_cons,List.map_nil,E1.out];rfl) (by simp[zdh]) (by simp) (by simp)).mono ?_
 rintro e w4 ⟨v4,F4,rfl,o,d,t,f⟩;obtain⟨a4,n4,rfl,z⟩:=id o.nodeL;obtain⟨W4,hW⟩:∃W,W=w4.alloc (.cells #[.slice a4 F4.length n4] 26):=⟨_,rfl⟩;have g:Fr NoM W3 W4:=((((Fr.refl NoM W3).alloc _).alloc _).trans f (fun _ _ q=>q)).trans (show Fr NoM w4 W4 by rw[hW];exact(Fr.refl NoM w4).alloc _) (fun _ _ q=>q);have E4:=Hh t;have B4:=Hh (BoxF.make (D:=D) o d (by have h1:=G3.out.size;have h2:=HD.out;(try simp only[World.size_alloc]);omega) hW);have B1:=Hh (B1.out.fr0 g);have B2:=Hh (B2.out.fr0 g);have B3:=Hh (B3.out.fr0 g);have G4:=Hh (G3.out.trans g (fun _ _ q=>q));clear o d t f g z k1 j1;go_upto_region 5 with fail;rw[←hW];clear hW;have k1:=B1.out.cell;have k4:=B4.out.cell;have j4:=(B4.out.fr0 ((Fr.refl NoM W4).alloc (.cells #[.slice a1 F1.length n1] 26))).cell;go_wp2_with fail;refine(zmb (R:=fun q=>D≤q/\q<W4.heap.size) nn5 (FormsL.fr0 (zet rfl (B1.out.node.nodeL)) ((Fr.refl NoM _).alloc _)) (zet (World.size_alloc _ _).symm (B4.out.node.nodeL.fr0 ((Fr.refl NoM _).alloc _))) (df1 B1.out.df) (df1 B4.out.df) (by simp only[List.map_cons,List.map_nil,E1.out,E4.out];rfl) (by simp[zdh]) (by simp) (by simp)).mono ?_
 rintro e w5 ⟨v5,F5,rfl,o,d,t,f⟩;obtain⟨a5,n5,rfl,z⟩:=id o.nodeL;obtain⟨W5,hW⟩:∃W,W=w5.alloc (.cells #[.slice a5 F5.length n5] 26):=⟨_,rfl⟩;have g:Fr NoM W4 W5:=((((Fr.refl NoM W4).alloc _).alloc _).trans f (fun _ _ q=>q)).trans (show Fr NoM w5 W5 by rw[hW];exact(Fr.refl NoM w5).alloc _) (fun _ _ q=>q);have E5:=Hh t;have B5:=Hh (BoxF.make (D:=D) o d (by have h1:=G4.out.size;have h2:=HD.out;(try simp only[World.size_alloc]);omega) hW);have B1:=Hh (B1.out.fr0 g);have B2:=Hh (B2.out.fr0 g);have B3:=Hh (B3.out.fr0 g);have B4:=Hh (B4.out.fr0 g);have G5:=Hh (G4.out.trans g (fun _ _ q=>q));clear o d t f g z k1 k4 j4;go_upto_region 6 with fail;rw[←hW];clear hW;have k1:=B1.out.cell;have k2:=B2.out.cell;have j2:=(B2.out.fr0 ((Fr.refl NoM W5).alloc (.cells #[.slice a1 F1.length n1] 26))).cell;go_wp2_with fail;refine(zmb (R:=fun q=>D≤q/\q<W5.heap.size) nn6 (FormsL.fr0 (zet rfl (B1.out.node.nodeL)) ((Fr.refl NoM _).alloc _)) (zet (World.size_alloc _ _).symm (B2.out.node.nodeL.fr0 ((Fr.refl NoM _).alloc _))) (df1 B1.out.df) (df1 B2.out.df) (by simp only[List.map_cons,List.map_nil,E1.out,E2.out];rfl) (by simp[zdh]) (by simp) (by simp)).mono ?_
 rintro e w6 ⟨v6,F6,rfl,o,d,t,f⟩;obtain⟨a6,n6,rfl,z⟩:=id o.nodeL;obtain⟨W6,hW⟩:∃W,W=w6.alloc (.cells #[.slice a6 F6.length n6] 26):=⟨_,rfl⟩;have g:Fr NoM W5 W6:=((((Fr.refl NoM W5).alloc _).alloc _).trans f (fun _ _ q=>q)).trans (show Fr NoM w6 W6 by rw[hW];exact(Fr.refl NoM w6).alloc _) (fun _ _ q=>q);have E6:=Hh t;have B6:=Hh (BoxF.make (D:=D) o d (by have h1:=G5.out.size;have h2:=HD.out;(try simp only[World.size_alloc]);omega) hW);have B1:=Hh (B1.out.fr0 g);have B2:=Hh (B2.out.fr0 g);have B3:=Hh (B3.out.fr0 g);have B4:=Hh (B4.out.fr0 g);have B5:=Hh (B5.out.fr0 g);have G6:=Hh (G5.out.trans g (fun _ _ q=>q));clear o d t f g z k1 k2 j2;go_upto_region 7 with fail;rw[←hW];clear hW;have k2:=B2.out.cell;have k3:=B3.out.cell;have j3:=(B3.out.fr0 ((Fr.refl NoM W6).alloc (.cells #[.slice a2 F2.length n2] 26))).cell;go_wp2_with fail;refine(zmb (R:=fun q=>D≤q/\q<W6.heap.size) nn7 (FormsL.fr0 (zet rfl (B2.out.node.nodeL)) ((Fr.refl NoM _).alloc _)) (zet (World.size_alloc _ _).symm (B3.out.node.nodeL.fr0 ((Fr.refl NoM _).alloc _))) (df1 B2.out.df) (df1 B3.out.df) (by simp only[List.map_cons,List.map_nil,E2.out,E3.out];rfl) (by simp[zdh]) (by simp) (by simp)).mono ?_
 rintro e w7 ⟨v7,F7,rfl,o,d,t,f⟩;obtain⟨a7,n7,rfl,z⟩:=id o.nodeL;obtain⟨W7,hW⟩:∃W,W=w7.alloc (.cells #[.slice a7 F7.length n7] 26):=⟨_,rfl⟩;have g:Fr NoM W6 W7:=((((Fr.refl NoM W6).alloc _).alloc _).trans f (fun _ _ q=>q)).trans (show Fr NoM w7 W7 by rw[hW];exact(Fr.refl NoM w7).alloc _) (fun _ _ q=>q);have E7:=Hh t;have B7:=Hh (BoxF.make (D:=D) o d (by have h1:=G6.out.size;have h2:=HD.out;(try simp only[World.size_alloc]);omega) hW);have B1:=Hh (B1.out.fr0 g);have B2:=Hh (B2.out.fr0 g);have B3:=Hh (B3.out.fr0 g);have B4:=Hh (B4.out.fr0 g);have B5:=Hh (B5.out.fr0 g);have B6:=Hh (B6.out.fr0 g);have G7:=Hh (G6.out.trans g (fun _ _ q=>q));clear o d t f g z k2 k3 j3;go_upto_region 8 with fail;rw[←hW];clear hW;have k1:=B1.out.cell;have k4:=B4.out.cell;have j1:=(B1.out.fr0 ((Fr.refl NoM W7).alloc (.cells #[.slice a1 F1.length n1,.slice a4 F4.length n4] 26))).cell;have j4:=(B4.out.fr0 ((Fr.refl NoM W7).alloc (.cells #[.slice a1 F1.length n1,.slice a4 F4.length n4] 26))).cell;go_wp2_with fail;refine(zmb (R:=fun q=>D≤q/\q<W7.heap.size) nn8 (FormsL.fr0 (zxt rfl (B1.out.node.nodeL) (B4.out.node.nodeL)) ((Fr.refl NoM _).alloc _)) (zxt (World.size_alloc _ _).symm (B1.out.node.nodeL.fr0 ((Fr.refl NoM _).alloc _)) (B4.out.node.nodeL.fr0 ((Fr.refl NoM _).alloc _))) (df2 B1.out.df B4.out.df) (df2 B1.out.df B4.out.df) (by simp only[List.map_cons,List.map_nil,E1.out,E4.out];rfl) (by simp[zdh]) (by simp) (by simp)).mono ?_
 rintro e w8 ⟨v8,F8,rfl,o,d,t,f⟩;obtain⟨a8,n8,rfl,z⟩:=id o.nodeL;obtain⟨W8,hW⟩:∃W,W=w8.alloc (.cells #[.slice a8 F8.length n8] 26):=⟨_,rfl⟩;have g:Fr NoM W7 W8:=((((Fr.refl NoM W7).alloc _).alloc _).trans f (fun _ _ q=>q)).trans (show Fr NoM w8 W8 by rw[hW];exact(Fr.refl NoM w8).alloc _) (fun _ _ q=>q);have E8:=Hh t;have B8:=Hh (BoxF.make (D:=D) o d (by have h1:=G7.out.size;have h2:=HD.out;(try simp only[World.size_alloc]);omega) hW);have B1:=Hh (B1.out.fr0 g);have B2:=Hh (B2.out.fr0 g);have B3:=Hh (B3.out.fr0 g);have B4:=Hh (B4.out.fr0 g);have B5:=Hh (B5.out.fr0 g);have B6:=Hh (B6.out.fr0 g);have B7:=Hh (B7.out.fr0 g);have G8:=Hh (G7.out.trans g (fun _ _ q=>q));clear o d t f g z k1 k4 j1 j4;go_upto_region 9 with fail;rw[←hW];clear hW;have k1:=B1.out.cell;have k4:=B4.out.cell;have j1:=(B1.out.fr0 ((Fr.refl NoM W8).alloc (.cells #[.slice a4 F4.length n4] 26))).cell;go_wp2_with fail;refine(zmb (R:=fun q=>D≤q/\q<W8.heap.size) nn9 (FormsL.fr0 (zet rfl (B4.out.node.nodeL)) ((Fr.refl NoM _).alloc _)) (zet (World.size_alloc _ _).symm (B1.out.node.nodeL.fr0 ((Fr.refl NoM _).alloc _))) (df1 B4.out.df) (df1 B1.out.df) (by simp only[List.map_cons,List.map_nil,E1.out,E4.out];rfl) (by simp[zdh]) (by simp) (by simp)).mono ?_
 rintro e w9 ⟨v9,F9,rfl,o,d,t,f⟩;obtain⟨a9,n9,rfl,z⟩:=id o.nodeL;obtain⟨W9,hW⟩:∃W,W=w9.alloc (.cells #[.slice a9 F9.length n9] 26):=⟨_,rfl⟩;have g:Fr NoM W8 W9:=((((Fr.refl NoM W8).alloc _).alloc _).trans f (fun _ _ q=>q)).trans (show Fr NoM w9 W9 by rw[hW];exact(Fr.refl NoM w9).alloc _) (fun _ _ q=>q);have E9:=Hh t;have B9:=Hh (BoxF.make (D:=D) o d (by have h1:=G8.out.size;have h2:=HD.out;(try simp only[World.size_alloc]);omega) hW);have B1:=Hh (B1.out.fr0 g);have B2:=Hh (B2.out.fr0 g);have B3:=Hh (B3.out.fr0 g);have B4:=Hh (B4.out.fr0 g);have B5:=Hh (B5.out.fr0 g);have B6:=Hh (B6.out.fr0 g);have B7:=Hh (B7.out.fr0 g);have B8:=Hh (B8.out.fr0 g);have G9:=Hh (G8.out.trans g (fun _ _ q=>q));clear o d t f g z k1 k4 j1;go_upto_region 10 with fail;rw[←hW];clear hW;have k1:=B1.out.cell;have k2:=B2.out.cell;have k3:=B3.out.cell;have k4:=B4.out.cell;have k5:=B5.out.cell;have k6:=B6.out.cell;have k7:=B7.out.cell;have k8:=B8.out.cell;have k9:=B9.out.cell;go_wp2_with fail;go_ret;obtain⟨W10,hW10⟩:∃W10,W10=W9.alloc (.cells #[.slice a1 F1.length n1,.slice a2 F2.length n2,.slice a3 F3.length n3,.slice a4 F4.length n4,.slice a5 F5.length n5,.slice a6 F6.length n6,.slice a7 F7.length n7,.slice a8 F8.length n8,.slice a9 F9.length n9] 26):=⟨_,rfl⟩;have hb:W10.heap[W9.heap.size]?=some (.cells #[.slice a1 F1.length n1,.slice a2 F2.length n2,.slice a3 F3.length n3,.slice a4 F4.length n4,.slice a5 F5.length n5,.slice a6 F6.length n6,.slice a7 F7.length n7,.slice a8 F8.length n8,.slice a9 F9.length n9] 26 (0,0)):=by rw[hW10];exact heap_alloc_new W9 _
 have fb:Fr NoM W9 W10:=by rw[hW10];exact(Fr.refl NoM W9).alloc _
 have hD:=HD.out;have hG:=G9.out;have hrow:GRow D W10 (.slice (some ⟨W9.heap.size,0,none⟩) 9 9) [.slice a1 F1.length n1,.slice a2 F2.length n2,.slice a3 F3.length n3,.slice a4 F4.length n4,.slice a5 F5.length n5,.slice a6 F6.length n6,.slice a7 F7.length n7,.slice a8 F8.length n8,.slice a9 F9.length n9] [F1,F2,F3,F4,F5,F6,F7,F8,F9] (fun q=>D≤q/\q<W9.heap.size):=by
  refine GRow.ofBlock hb (by have:=hG.size;omega) (by simp) rfl (fun p hp=>?_) (fun q hq=>hq);simp only[List.zip_cons_cons,List.zip_nil_right,List.mem_cons,List.not_mem_nil,or_false]at hp;rcases hp with rfl|rfl|rfl|rfl|rfl|rfl|rfl|rfl|rfl
  ·exact B1.out.node.fr0 fb
  ·exact B2.out.node.fr0 fb
  ·exact B3.out.node.fr0 fb
  ·exact B4.out.node.fr0 fb
  ·exact B5.out.node.fr0 fb
  ·exact B6.out.node.fr0 fb
  ·exact B7.out.node.fr0 fb
  ·exact B8.out.node.fr0 fb
  ·exact B9.out.node.fr0 fb
 rw[hD]at hrow;rw[←hW10];refine⟨_,_,_,zdh,_,rfl,hrow,fun Fm hm=>?_,rfl,rfl,hG.trans fb (fun _ _ q=>q)⟩;simp only[List.mem_cons,List.not_mem_nil,or_false]at hm;rcases hm with rfl|rfl|rfl|rfl|rfl|rfl|rfl|rfl|rfl
 ·exact B1.out.df
 ·exact B2.out.df
 ·exact B3.out.df
 ·exact B4.out.df
 ·exact B5.out.df
 ·exact B6.out.df
 ·exact B7.out.df
 ·exact B8.out.df
 ·exact B9.out.df
def zuk (R:Nat→Prop)(cb n k:Nat)(FSs:List (List PL))(w:World)(e:Ending)(w':World):Prop :=
 ∃(v:Value) (VS:List Value) (FL:List (List PL)),e=.returned v/\FRow w.heap.size w' v VS FL R/\FL.length≤k/\(∀Fm∈FL,Fm∈FSs)/\CurS w' cb (n+2+2*k)/\Fr (fun q=>q=cb) w w'
set_option maxRecDepth 4000 in
set_option maxHeartbeats 4000000 in
theorem zsv {R:Nat→Prop}(cb n k:Nat)(lv:Value)(FSs:List (List PL))(w:World)(h:CurS w cb n)(hL:FormsL R w lv FSs)(hv:∀q,lv.ownBlock=some q→q≠cb)(hR:∀q,R q→q≠cb/\q<w.heap.size)(hp:0<FSs.length)(hl:FSs.length≤1000)(hk:k≤10)(hn:n<1000000) :
  Calls Tryz.prog 131 #[.pointer (some ⟨cb,0,none⟩),lv,.int .i64 (k:Int)] w fun e w'=>zuk R cb n k FSs w e w':=by
 have hcl:=h.lt;obtain⟨LVS,hls,hll,hln⟩:=id hL;have HLv:=Hh (fun(W:World) (f:Fr (fun q=>q=cb) w W)=>hls.fr f (fun _ q hq=>hv q hq));have HNd:=Hh (fun(W:World) (f:Fr (fun q=>q=cb) w W) (j:Nat) (nv:Value) (Fm:List PL) (h1:LVS[j]?=some nv) (h2:FSs[j]?=some Fm)=>(hln j nv Fm h1 h2).fr f (fun q hq=>(hR q hq).1));have HR:=Hh hR;have HCl:=Hh hcl;have HLl:=Hh hll;have HP:=Hh hp;have HFl:=Hh hl;have HN:=Hh hn;have HK:=Hh hk;obtain⟨la,lc,rfl,z⟩:=id hls;clear z;obtain⟨w1,hw1⟩:∃w1,w1=w.alloc (.cells #[] 26):=⟨_,rfl⟩;have f1:Fr NoM w w1:=by rw[hw1];exact(Fr.refl NoM w).alloc _
 have hr1:FRow w.heap.size w1 (.slice (some ⟨w.heap.size,0,none⟩) 0 0) [] [] R:=by rw[hw1];exact FRow.made w R (fun q hq=>(hR q hq).2)
 have HPk:=Hh (zd9 cb n ((k:Int)+1) w1 (h.fr0 f1) (by omega) ⟨by omega,by omega⟩);have F1:=Hh f1;have HR1:=Hh hr1;clear h hL hls hll hln hv hR hcl hp hl hn f1 hr1;go_enter Tryz.func131,Tryz.ntmps131;go_upto_region 2 with fail;rw[←hw1];clear hw1;go_wp2_with fail;(with_reducible refine HPk.out.mono ?_);rintro e w2 ⟨m,rfl,m0,m1,c2,f2⟩;have hm:m≤(k:Int):=by omega
 have F2:=Hh (F1.out.any.trans f2 (fun _ _ q=>q));have HC2:=Hh c2;have HR2:=Hh (HR1.out.fr f2 (fun q hq e=>by have h1:=(HR1.out.row.lt q hq).1;have e:q=cb:=e;have:=HCl.out;omega) (fun q hq=>(HR.out q hq).1));clear m1 c2 f2;go_wp2_with fail;go_loopw [7,9] (fun v7 t W=>∃(i:Nat) (va:Value) (VS:List Value) (FL:List (List PL)),va=v7/\t=.int .i64 i/\(i:Int)≤m/\FRow w.heap.size W va VS FL R/\FL.length=i/\(∀Fm∈FL,Fm∈FSs)/\CurS W cb (n+2+2*i)/\Fr (fun q=>q=cb) w W) (fun _ t _=>m.toNat-(intOf t).toNat)
 case atStart=>exact⟨0,_,[],[],rfl,rfl,m0,HR2.out,rfl,by simp,HC2.out,F2.out⟩
 case round =>
  obtain⟨i,va,VS,FL,rfl,rfl,hi,hr,hfl,hmem,hc,hf⟩:=hrel;obtain⟨w7,rfl⟩:∃w7,w7=wr:=⟨_,rfl⟩;by_cases hlt:(i:Int)<m
  ·have HPi:=Hh (zd9 cb (n+2+2*i) (LVS.length:Int) w7 hc (by have:=HN.out;have:=HK.out;omega) ⟨by omega,by have:=HFl.out;have:=HLl.out;omega⟩)
   have HRo:=Hh hr;have HMem:=Hh hmem;have HF:=Hh hf;have HLn:=Hh hfl;clear hr hfl hmem hc hf;obtain⟨va',hva⟩:∃va',va'=va:=⟨_,rfl⟩;go_wp2_with fail;(with_reducible refine HPi.out.mono ?_);rintro e w8 ⟨b,rfl,b0,b1,c8,f8⟩;obtain⟨x,rfl⟩:∃x:Nat,b=(x:Int):=⟨b.toNat,by omega⟩;have hx:x<LVS.length:=by have:=HP.out;have:=HLl.out;omega
   obtain⟨nv,hnv⟩:∃nv,LVS[x]?=some nv:=⟨_,List.getElem?_eq_getElem hx⟩;obtain⟨Fm,hFm⟩:∃Fm,FSs[x]?=some Fm:=⟨_,List.getElem?_eq_getElem (by have:=HLl.out;omega)⟩;have g8:Fr (fun q=>q=cb) w w8:=HF.out.trans f8 (fun _ _ q=>q);obtain⟨_,_,ee,_,_,hcc⟩:=HLv.out w8 g8;obtain⟨rfl,hz,rfl⟩:=Value.slice.inj ee;obtain⟨b2,o2,ha,hc2⟩:=hcc x nv hnv;have ix:=zim la LVS.length lc x b2 o2 hx ha;unfold encV at hc2;have HNv:=Hh (HNd.out w8 g8 x nv Fm hnv hFm);have HMm:=Hh (List.mem_of_getElem? hFm);have HC8:=Hh c8;have F8:=Hh f8;have G8:=Hh g8;have HRo8:=Hh (HRo.out.fr f8 (fun q hq e=>by have:=(HRo.out.row.lt q hq).1;have:=HCl.out;omega) (fun q hq=>(HR.out q hq).1));obtain⟨na,nc,rfl,zz⟩:=id HNv.out;clear b0 b1 hnv hFm hcc ee hz ha c8 f8 g8 zz;go_wp2_with (at_builtin;refine zdf rfl (.tmp 20) (.tmp 28) 59 rfl w.heap.size 26 _ 1 24 Tryz.underlying59 zr8 rfl (by decide) va VS.length VS rfl (by exact za2 HRo8.out.row ((Fr.refl NoM w8).alloc (.cells #[.slice na Fm.length nc] 26)) (fun _ _ q=>q)) w8.heap.size rfl [.slice na Fm.length nc] 26 (heap_alloc_new w8 _) rfl (by intro u hu;simp at hu;subst hu;rfl) (by have:=HRo8.out.len;have:=HLn.out;have:=HK.out;omega) (by decide) (by have:=G8.out.size;rw[World.size_alloc];omega) ?_);intro v9 w9 h9 f9 q9;have hsn:=HRo8.out.snoc (Wa:=w8.alloc (.cells #[.slice na Fm.length nc] 26)) (T':=R) (Fm:=Fm) ((Fr.refl NoM w8).alloc _) h9 f9 (by rw[World.size_alloc];exact q9) (HNv.out.fr0 ((Fr.refl NoM w8).alloc _)) (fun q hq=>hq) (fun q hq=>⟨by rw[World.size_alloc];have:=(HR.out q hq).2;have:=G8.out.size;omega,(HRo8.out.sep q hq).2⟩);have k9:Fr (fun q=>q=cb) w w9:=(G8.out.trans ((Fr.refl NoM w8).alloc _).any (fun _ _ q=>q)).trans f9 (fun q hq e=>by have:=(HRo8.out.row.lt q e).1;omega);have c9:CurS w9 cb (n+2+2*i+2):=(HC8.out.fr0 ((Fr.refl NoM w8).alloc (.cells #[.slice na Fm.length nc] 26))).fr f9 (fun q hq e=>by have:=(HRo8.out.row.lt q e).1;have:=HCl.out;omega);have HSn:=Hh hsn;have K9:=Hh k9;have HC9:=Hh c9;clear h9 f9 q9 hsn k9 c9;go_wp2;go_roundw
   case rel=>exact⟨i+1,v9,_,_,rfl,by go_num,by omega,HSn.out,by have:=HLn.out;simp;omega,fun G hG=>by
    rcases List.mem_append.1 hG with h|h
    ·exact HMem.out G h
    ·rw[List.mem_singleton.1 h];exact HMm.out,HC9.out,K9.out⟩
   case measure=>simp[intOf];omega
  ·have HRo:=Hh hr;have HMem:=Hh hmem;have HF:=Hh hf;have HLn:=Hh hfl;have HC:=Hh hc
   clear hr hfl hmem hc hf;have hik:i≤k:=by omega
   go_wp2_with fail;go_ret;exact⟨va,VS,FL,rfl,HRo.out,by have:=HLn.out;omega,HMem.out,HC.out.mono (by omega),HF.out⟩
def zxe (R:Nat→Prop)(cb n k:Nat)(FSs:List (List PL))(w:World)(e:Ending)(w':World):Prop :=
 ∃(v:Value) (FL:List (List PL)),e=.returned v/\FormsL R w' v FL/\FL.length≤k/\(∀Fm∈FL,Fm∈FSs)/\(∀q,v.ownBlock=some q→w.heap.size≤q)/\CurS w' cb (n+2+2*k)/\Fr (fun q=>q=cb) w w'
theorem zpd {R:Nat→Prop}(cb n k:Nat)(lv:Value)(FSs:List (List PL))(w:World)(h:CurS w cb n)(hL:FormsL R w lv FSs)(hv:∀q,lv.ownBlock=some q→q≠cb)(hR:∀q,R q→q≠cb/\q<w.heap.size)(hp:0<FSs.length)(hl:FSs.length≤1000)(hk:k≤10)(hn:n<1000000) :
  Calls Tryz.prog 131 #[.pointer (some ⟨cb,0,none⟩),lv,.int .i64 (k:Int)] w fun e w'=>zxe R cb n k FSs w e w':=(zsv cb n k lv FSs w h hL hv hR hp hl hk hn).mono fun e w' h=>by
 obtain⟨v,VS,FL,e1,r,h1,h2,h3,h4⟩:=h;exact⟨v,FL,e1,r.forms,h1,h2,fun q hq=>(r.row.lt q hq).1,h3,h4⟩
theorem NodeT.base {D D':Nat}{T:Nat→Prop}{w:World}{v:Value}{LL:List PL}(h:NodeT D T w v LL)(hD:D'≤D):NodeT D' T w v LL:=by
 obtain⟨T0,⟨NV,o1,o2,o3⟩,h2,h3⟩:=h;exact⟨T0,⟨NV,zar o1 hD,o2,o3⟩,h2,h3⟩
theorem NodeT.val {D:Nat}{T:Nat→Prop}{w:World}{v:Value}{LL:List PL}(h:NodeT D T w v LL):∃a c,v=.slice a LL.length c:=by
 obtain⟨a,c,e,_⟩:=h.nodeL;exact⟨a,c,e⟩
def zun (cb n k:Nat)(w:World)(e:Ending)(w':World):Prop :=
 ∃(v:Value) (Fm:List PL) (U:List Nat),e=.returned (.agg #[v])/\NodeT w.heap.size (fun q=>w.heap.size≤q/\q<w'.heap.size) w' v Fm/\DF U Fm/\NineU U k/\CurS w' cb (n+12*k+4)/\Fr (fun q=>q=cb) w w'
set_option maxRecDepth 8000 in
set_option maxHeartbeats 8000000 in
theorem ztx (cb n k:Nat)(w:World)(h:CurS w cb n)(hk:k≤20)(hn:n<100000) :
  Calls Tryz.prog 126 #[.pointer (some ⟨cb,0,none⟩),.int .i64 (k:Int)] w fun e w'=>zun cb n k w e w':=by
 obtain⟨w1,hw1⟩:∃w1,w1=w.alloc (.cells #[.slice none 0 0] 26):=⟨_,rfl⟩;have f1:Fr NoM w w1:=by rw[hw1];exact(Fr.refl NoM w).alloc _
 have hs1:w1.heap.size=w.heap.size+1:=by rw[hw1];simp
 have e1:w1.heap[w.heap.size]?=some (.cells #[.slice none 0 0] 26 (0,0)):=by rw[hw1];exact heap_alloc_new w _
 have HCl:=Hh h.lt;have HK:=Hh (fun(W:World) (f:Fr (fun q=>q=cb) w1 W)=>(⟨by rw[cell_of_row W _ 0 _ _ _ (f.heap e1 (fun e=>by have:=HCl.out;omega))];rfl,by simp[World.frozen?,f.heap e1 (fun e=>by have:=HCl.out;omega)]⟩:W.cell? ⟨w.heap.size,0,none⟩=some (.slice none 0 0)/\W.frozen? ⟨w.heap.size,0,none⟩=false));have HC1:=Hh (h.fr0 f1);have F1:=Hh f1;have HS1:=Hh hs1;have HN:=Hh hn;clear h f1 hs1 e1 hn;go_enter Tryz.func126,Tryz.ntmps126;go_upto_region 1 with fail;rw[←hw1];clear hw1;go_wp2_with fail;(with_reducible refine(zos w1).mono ?_);rintro e w2 ⟨v2,VS2,FS2,U2,T2,rfl,g2,d2,l2,m2,f2⟩;have HG2:=Hh g2;have HD2:=Hh d2;have HL2:=Hh (And.intro (show NineU U2 0 from⟨[],by rw[l2,List.append_nil],rfl⟩) m2);have F2:=Hh f2;have HC2:=Hh (HC1.out.fr0 f2);clear g2 d2 l2 m2 f2;go_wp2_with fail;go_loopw [5,6] (fun v5 t W=>∃(i:Nat) (va:Value) (VS:List Value) (FSs:List (List PL)) (U:List Nat) (Tb:Nat→Prop),va=v5/\t=.int .i64 i/\i≤k/\GRow w1.heap.size W va VS FSs Tb/\(∀Fm∈FSs,DF U Fm)/\NineU U i/\FSs.length=9+i/\CurS W cb (n+12*i)/\Fr (fun q=>q=cb) w1 W) (fun _ t _=>k-(intOf t).toNat)
 case atStart=>exact⟨0,_,_,_,_,_,rfl,rfl,Nat.zero_le _,HG2.out,HD2.out,HL2.out.1,HL2.out.2,HC2.out,F2.out.any⟩
 case round =>
  obtain⟨i,va,VS,FSs,U,Tb,rfl,rfl,hi,hg,hd,hu,hl,hc,hf⟩:=hrel;obtain⟨w7,rfl⟩:∃w7,w7=wr:=⟨_,rfl⟩;have HT:=Hh (fun(q:Nat) (hq:Tb q)=>(by have h1:=hg.sep q hq;have h2:=HCl.out;have h3:=HS1.out;exact⟨by omega,h1.2.1,h1.1⟩:q≠cb/\q<w7.heap.size/\w1.heap.size≤q));have HV:=Hh (fun(q:Nat) (hq:va.ownBlock=some q)=>(by have h1:=(hg.row.lt q hq).1;have h2:=HCl.out;have h3:=HS1.out;exact⟨by omega,h1⟩:q≠cb/\w1.heap.size≤q));by_cases hlt:i<k
  ·have HSo:=Hh (zpd (R:=Tb) cb (n+12*i) 2 va FSs w7 hc hg.forms (fun q hq=>(HV.out q hq).1) (fun q hq=>⟨(HT.out q hq).1,(HT.out q hq).2.1⟩) (by omega) (by omega) (by omega) (by have:=HN.out;omega))
   have HG:=Hh hg;have HD:=Hh hd;have HU:=Hh hu;have HUl:=Hh hu.len;have HL:=Hh hl;have HF:=Hh hf;have hso:=HSo.out;rw[show((2:Nat):Int)=2 from rfl]at hso;have HSo:=Hh hso;clear hg hd hu hl hc hf hso;go_wp2_with fail;(with_reducible refine HSo.out.mono ?_);rintro e w8 ⟨v8,FL8,rfl,s8,n8,m8,q8,c8,f8⟩;have g8:=HG.out.fr f8 (fun q hq=>(HV.out q hq).1) (fun q hq=>(HT.out q hq).1);have HSo2:=Hh (zpd (R:=Tb) cb (n+12*i+2+2*2) 2 va FSs w8 c8 g8.forms (fun q hq=>(HV.out q hq).1) (fun q hq=>⟨(HT.out q hq).1,by have:=(HT.out q hq).2.1;have:=f8.size;omega⟩) (by have:=HL.out;omega) (by have:=HL.out;omega) (by omega) (by have:=HN.out;omega));have hso:=HSo2.out;rw[show((2:Nat):Int)=2 from rfl]at hso;have HSo2:=Hh hso;clear hso;have HG8:=Hh g8;have HS8:=Hh s8;have HM8:=Hh (And.intro n8 (And.intro m8 q8));have F8:=Hh f8;obtain⟨v8a,v8c,rfl,zz⟩:∃a c,v8=.slice a FL8.length c/\True:=by
    obtain⟨VS8,hv8,hl8,_⟩:=s8;obtain⟨a,c,e,_⟩:=hv8;exact⟨a,c,by rw[e,hl8],trivial⟩
   clear g8 s8 n8 m8 q8 c8 f8 zz HSo;go_wp2_with fail;(with_reducible refine HSo2.out.mono ?_);rintro e w9 ⟨v9,FL9,rfl,s9,n9,m9,q9,c9,f9⟩;have g9:=HG8.out.fr f9 (fun q hq=>(HV.out q hq).1) (fun q hq=>(HT.out q hq).1);have s8:FormsL Tb w9 (.slice v8a FL8.length v8c) FL8:=HS8.out.fr f9 (fun q hq=>by have h1:=HM8.out.2.2 q hq;have h2:=HCl.out;have h3:=HS1.out;have h4:=HF.out.size;omega) (fun q hq=>(HT.out q hq).1);have HMk:=Hh (zpx (R:=Tb) U (.slice v8a FL8.length v8c) v9 FL8 FL9 w9 s8 s9 (fun Fm hm=>HD.out Fm (HM8.out.2.1 Fm hm)) (fun Fm hm=>HD.out Fm (m9 Fm hm)) (by have:=HUl.out;omega) (by have:=HM8.out.1;omega) (by omega));have HG9:=Hh g9;have HC9:=Hh c9;have F9:=Hh (HF.out.trans (F8.out.trans f9 (fun _ _ q=>q)) (fun _ _ q=>q));have F79:=Hh (F8.out.trans f9 (fun _ _ q=>q));clear g9 s8 s9 n9 m9 q9 c9 f9 HSo2;go_wp2_with fail;(with_reducible refine HMk.out.mono ?_);rintro e wa ⟨va2,Fm,rfl,o10,d10,_,f10⟩;obtain⟨c,hc⟩:∃c,c=mkC (FL8.map zak) (FL9.map zak):=⟨_,rfl⟩;rw[←hc]at d10;clear hc;obtain⟨na,nc,rfl⟩:=(o10.nodeT).val;have HO:=Hh o10.nodeT;have HDn:=Hh d10;have FA:=Hh f10;have HGa:=Hh (HG9.out.fr0 f10);have HCa:=Hh (HC9.out.fr0 f10);clear o10 d10 f10;go_wp2_with (at_builtin;refine zdf rfl (.tmp 17) (.tmp 23) 59 rfl w1.heap.size 26 _ 1 24 Tryz.underlying59 zr8 rfl (by decide) va VS.length VS rfl (by exact za2 HGa.out.row ((Fr.refl NoM wa).alloc (.cells #[.slice na Fm.length nc] 26)) (fun _ _ q=>q)) wa.heap.size rfl [.slice na Fm.length nc] 26 (heap_alloc_new wa _) rfl (by intro u hu;simp at hu;subst hu;rfl) (by have:=HGa.out.len;have:=HL.out;omega) (by decide) (by have:=F9.out.size;have:=FA.out.size;rw[World.size_alloc];omega) ?_);intro vb wb hb fb qb;have hw9:=F79.out.size;have hsn:=HGa.out.snoc (Wa:=wa.alloc (.cells #[.slice na Fm.length nc] 26)) (T':=fun q=>Tb q∨w9.heap.size≤q/\q<wa.heap.size) (Fm:=Fm) ((Fr.refl NoM wa).alloc _) hb fb (by rw[World.size_alloc];exact qb)
    (((HO.out.fr0 ((Fr.refl NoM wa).alloc _)).base (by have:=F9.out.size;omega)).mono (fun q hq=>.inr hq)) (fun q hq=>.inl hq) (fun q hq=>by
     rw[World.size_alloc];rcases hq with hq|hq
     ·have h1:=HG9.out.sep q hq;have h2:=FA.out.size;exact⟨h1.1,by omega,h1.2.2⟩
     ·exact⟨by have:=F9.out.size;omega,by omega,fun e=>by have:=(HG9.out.row.lt q e).2;omega⟩)
   have kb:Fr (fun q=>q=cb) w1 wb:=((F9.out.trans FA.out (fun _ _ q=>q.elim)).trans ((Fr.refl NoM wa).alloc _) (fun _ _ q=>q.elim)).trans fb (fun q hq e=>by have:=(HGa.out.row.lt q e).1;omega);have cb':CurS wb cb (n+12*i+2+2*2+2+2*2):=(HCa.out.fr0 ((Fr.refl NoM wa).alloc (.cells #[.slice na Fm.length nc] 26))).fr fb (fun q hq e=>by have:=(HGa.out.row.lt q e).1;have:=HCl.out;have:=HS1.out;omega);have HSn:=Hh hsn;have KB:=Hh kb;have HCb:=Hh (cb'.mono (show n+12*i+2+2*2+2+2*2≤n+12*(i+1)by omega));clear hb fb qb hw9 hsn kb cb';go_wp2;go_roundw
   case rel=>exact⟨i+1,vb,_,_,U ++ [c],_,rfl,by go_num,by omega,HSn.out,fun G hG=>by
    rcases List.mem_append.1 hG with h|h
    ·exact(HD.out G h).mono (fun x hx=>List.mem_append_left _ hx)
    ·rw[List.mem_singleton.1 h];exact HDn.out,HU.out.snoc _,by have:=HL.out;simp;omega,HCb.out,KB.out⟩
   case measure=>simp[intOf];omega
  ·obtain rfl:i=k:=by omega
   have HOne:=Hh (ztd cb (n+12*i) 3 w7 hc (by have:=HN.out;omega) ⟨by omega,by omega⟩);have hvl:=hg.len;have HG:=Hh hg;have HD:=Hh hd;have HU:=Hh hu;have HUl:=Hh hu.len;have HL:=Hh (show VS.length=9+i by omega);have HF:=Hh hf;obtain⟨va1,vc1,hva,_⟩:=hg.cell;subst hva;clear hg hd hu hl hc hf hvl;go_wp2_with fail;(with_reducible refine HOne.out.mono ?_);rintro e w8 ⟨b,rfl,c8,f8⟩;have g8:=HG.out.fr f8 (fun q hq=>(HV.out q hq).1) (fun q hq=>(HT.out q hq).1);have HG8:=Hh g8;have HC8:=Hh c8;have F8:=Hh (HF.out.trans f8 (fun _ _ q=>q));clear g8 c8 f8;have hfin:=fun(W:World) (f:Fr (fun q=>q=cb) w8 W) (x:Nat) (hx:x<VS.length)=>(by
    have g:=HG8.out.fr f (fun q hq=>(HV.out q hq).1) (fun q hq=>(HT.out q hq).1);obtain⟨a',c',e,hc⟩:=g.cell;obtain⟨rfl,_,rfl⟩:=Value.slice.inj e;obtain⟨nv,hnv⟩:∃nv,VS[x]?=some nv:=⟨_,List.getElem?_eq_getElem hx⟩;obtain⟨Fm,hFm⟩:∃Fm,FSs[x]?=some Fm:=⟨_,List.getElem?_eq_getElem (by have:=g.len;omega)⟩;obtain⟨b,off,ha,hcc⟩:=hc x nv hnv;have hn:=(g.nodes x nv Fm hnv hFm);obtain⟨na,nc,rfl⟩:=hn.val;refine⟨na,nc,Fm,b,off,ha,hcc,?_,HD.out Fm (List.mem_of_getElem? hFm)⟩;have hz:=f.size;refine((hn.fr (Fr.set W ⟨w.heap.size,0,none⟩ (.slice na Fm.length nc)) (fun q hq e=>by have e:q=w.heap.size:=e;have:=(HT.out q hq).2.2;have:=HS1.out;omega)).base (D':=w.heap.size) (by have:=HS1.out;omega)).mono (fun q hq=>⟨by have:=(HT.out q hq).2.2;have:=HS1.out;omega,?_⟩);have h1:=(g.sep q hq).2.1;have h2:=(Fr.set W ⟨w.heap.size,0,none⟩ (.slice na Fm.length nc)).size;omega:∃(na:Option Addr) (nc:Nat) (Fm:List PL) (b off:Nat),va1=some ⟨b,off,none⟩/\W.cell? ⟨b,off+x,none⟩=some (.slice na Fm.length nc)/\NodeT w.heap.size (fun q=>w.heap.size≤q/\q<(W.setCell ⟨w.heap.size,0,none⟩ (.slice na Fm.length nc)).heap.size) (W.setCell ⟨w.heap.size,0,none⟩ (.slice na Fm.length nc)) (.slice na Fm.length nc) Fm/\DF U Fm)
   have HFin:=Hh hfin;clear hfin;cases b with
   | true =>
    have HPk:=Hh (zd9 cb (n+12*i+2) (VS.length:Int) w8 HC8.out (by have:=HN.out;omega) ⟨by omega,by have:=HL.out;omega⟩);go_wp2_with fail;(with_reducible refine HPk.out.mono ?_);rintro e w9 ⟨y,rfl,y0,y1,c9,f9⟩;obtain⟨x,rfl⟩:∃x:Nat,y=(x:Int):=⟨y.toNat,by omega⟩;have hx:x<VS.length:=by have:=HL.out;omega
    obtain⟨na,nc,Fm,b2,o2,ha,hcc,hn9,hd9⟩:=HFin.out w9 f9 x hx;have ix:=zim va1 VS.length vc1 x b2 o2 hx ha;obtain⟨k0,k1⟩:=HK.out w9 (F8.out.trans f9 (fun _ _ q=>q));have HC9:=Hh c9;have F9:=Hh (F8.out.trans f9 (fun _ _ q=>q));have HN9:=Hh hn9;have HD9:=Hh hd9;clear y0 y1 c9 f9 hn9 hd9 ha;go_wp2;refine bodyPost_ret (v:=.agg #[.slice na Fm.length nc]) (by simp[results,Tryz.results126,go_sem,k0]) rfl ?_
    refine⟨_,Fm,U,rfl,HN9.out,HD9.out,HU.out,(HC9.out.mono (by omega)).fr (Fr.set w9 ⟨w.heap.size,0,none⟩ _) (fun q hq e=>by have e:q=w.heap.size:=e;have:=HCl.out;omega),?_⟩;exact(F1.out.any.trans F9.out (fun _ _ q=>q)).setCell _ _ (fun h=>by have h:w.heap.size<w.heap.size:=h;omega)
   | false =>
    have hL:=HL.out;obtain⟨x,hx⟩:∃x:Nat,VS.length=x+1:=⟨VS.length-1,by omega⟩;obtain⟨na,nc,Fm,b2,o2,ha,hcc,hn9,hd9⟩:=HFin.out w8 (Fr.refl _ _) x (by omega);have ix:=zim va1 VS.length vc1 x b2 o2 (by omega) ha;have hcast:((VS.length:Int)-1)=(x:Int):=by omega
    have hVb:VS.length<1000000:=by omega
    obtain⟨k0,k1⟩:=HK.out w8 F8.out;have HN9:=Hh hn9;have HD9:=Hh hd9;clear hn9 hd9 ha hL hx;go_wp2;refine bodyPost_ret (v:=.agg #[.slice na Fm.length nc]) (by simp[results,Tryz.results126,go_sem,k0]) rfl ?_
    refine⟨_,Fm,U,rfl,HN9.out,HD9.out,HU.out,(HC8.out.mono (by omega)).fr (Fr.set w8 ⟨w.heap.size,0,none⟩ _) (fun q hq e=>by have e:q=w.heap.size:=e;have:=HCl.out;omega),?_⟩;exact(F1.out.any.trans F8.out (fun _ _ q=>q)).setCell _ _ (fun h=>by have h:w.heap.size<w.heap.size:=h;omega)
theorem zp0 {α:Type}{P:Nat→α→Prop}:∀n,(∀j,j<n→∃y,P j y)→∃L:List α,L.length=n/\∀j y,L[j]?=some y→P j y:=by
 intro n;induction n with
 | zero=>exact fun _=>⟨[],rfl,by simp⟩
 | succ n ih =>
  intro h;obtain⟨L,h1,h2⟩:=ih (fun j hj=>h j (by omega));obtain⟨y,hy⟩:=h n (by omega);refine⟨L ++ [y],by simp[h1],fun j z hz=>?_⟩;by_cases hj:j<L.length
  ·rw[List.getElem?_append_left hj]at hz;exact h2 j z hz
  ·have h3:=(List.getElem?_eq_some_iff.1 hz).1
   simp at h3;have h4:j=L.length:=by omega
   subst h4;simp at hz;subst hz;rw[h1];exact hy
def IntOK (m:Nat)(W:World)(Z:Nat→Prop)(v:Value):Prop:=∃A:List Int,Ints W v A/\A.length≤m/\(A≠[]→∀q,v.ownBlock=some q→Z q)
theorem IntOK.fr {m:Nat}{W W':World}{Z M:Nat→Prop}{v:Value}(h:IntOK m W Z v)(hf:Fr M W W')(hM:∀q,Z q→¬M q):IntOK m W' Z v:=by
 obtain⟨A,h1,hl,h2⟩:=h;exact⟨A,h1.fr hf (fun hne q hq=>hM q (h2 hne q hq)),hl,h2⟩
theorem IntOK.fr0 {m:Nat}{W W':World}{Z:Nat→Prop}{v:Value}(h:IntOK m W Z v)(hf:Fr NoM W W'):IntOK m W' Z v:=h.fr hf (fun _ _ q=>q)
theorem IntOK.mono {m:Nat}{W:World}{Z Z':Nat→Prop}{v:Value}(h:IntOK m W Z v)(hz:∀q,Z q→Z' q):IntOK m W Z' v:=by
 obtain⟨A,h1,hl,h2⟩:=h;exact⟨A,h1,hl,fun hne q hq=>hz q (h2 hne q hq)⟩
theorem IntOK.val {m:Nat}{W:World}{Z:Nat→Prop}{v:Value}(h:IntOK m W Z v):∃a n c,v=.slice a n c:=by
 obtain⟨A,⟨a,c,e,_⟩,_,_⟩:=h;exact⟨a,_,c,e⟩
structure NB (m:Nat) (W:World) (b n:Nat) (cur:Array Value) (Z:Nat→Prop):Prop where
 blk:W.heap[b]?=some (.cells cur 110 (0,0))
 fine:∀i,i<n*2→∃v,cur[i]?=some v/\IntOK m W Z v
 out:¬Z b
section
variable {m:Nat}{W W':World}{b n:Nat}{cur:Array Value}{Z Z':Nat→Prop}
theorem NB.fr {M:Nat→Prop}(h:NB m W b n cur Z)(hf:Fr M W W')(hb:¬M b)(hM:∀q,Z q→¬M q):NB m W' b n cur Z :=
 ⟨hf.heap h.blk hb,fun i hi=>by obtain⟨v,h1,h2⟩:=h.fine i hi;exact⟨v,h1,h2.fr hf hM⟩,h.out⟩
theorem NB.fr0 (h:NB m W b n cur Z)(hf:Fr NoM W W'):NB m W' b n cur Z:=h.fr hf (fun q=>q) (fun _ _ q=>q)
theorem NB.mono (h:NB m W b n cur Z)(hz:∀q,Z q→Z' q)(hb:¬Z' b):NB m W b n cur Z' :=
 ⟨h.blk,fun i hi=>by obtain⟨v,h1,h2⟩:=h.fine i hi;exact⟨v,h1,h2.mono hz⟩,hb⟩
theorem NB.less {k:Nat}(h:NB m W b n cur Z)(hm:k≤n):NB m W b k cur Z:=⟨h.blk,fun i hi=>h.fine i (by omega),h.out⟩
theorem NB.more {k:Nat}(h:NB m W b n cur Z)(hm:m≤k):NB k W b n cur Z:=⟨h.blk,fun i hi=>by obtain⟨v,h1,A,h2,h3,h4⟩:=h.fine i hi;exact⟨v,h1,A,h2,Nat.le_trans h3 hm,h4⟩,h.out⟩
theorem NB.cell (h:NB m W b n cur Z){i:Nat}(hi:i<n*2):∃v,W.cell? ⟨b,i,none⟩=some v/\IntOK m W Z v:=by
 obtain⟨v,h1,h2⟩:=h.fine i hi;exact⟨v,by rw[cell_of_row W b i _ _ _ h.blk];exact h1,h2⟩
theorem NB.free (h:NB m W b n cur Z)(i:Nat):W.frozen? ⟨b,i,none⟩=false:=by simp[World.frozen?,h.blk]
theorem NB.set (h:NB m W b n cur Z)(i:Nat){u:Value}(hu:IntOK m W Z u):NB m (W.setCell ⟨b,i,none⟩ u) b n (cur.setIfInBounds i u) Z:=by
 refine⟨heap_set h.blk u,fun j hj=>?_,h.out⟩;obtain⟨v,h1,h2⟩:=h.fine j hj;have hM:∀q,Z q→¬(fun q=>q=(⟨b,i,none⟩:Addr).block) q:=fun q hq e=>h.out (by have e:q=b:=e;rw[←e];exact hq)
 rw[Array.getElem?_setIfInBounds];by_cases e:i=j
 ·subst e
  have hs:i<cur.size:=(Array.getElem?_eq_some_iff.1 h1).1;exact⟨u,by simp[hs],hu.fr (Fr.set W ⟨b,i,none⟩ u) hM⟩
 ·exact⟨v,by rw[if_neg e];exact h1,h2.fr (Fr.set W ⟨b,i,none⟩ u) hM⟩
theorem NB.nodeL {R:Nat→Prop}{c:Nat}(h:NB m W b n cur Z)(hc:n≤c)(hm:c≤9223372036854775807)(hb:R b)(hZ:∀q,Z q→R q):∃Fi:List (List Int × List Int),NodeL R encI W (.slice (some ⟨b,0,none⟩) n c) Fi:=by
 obtain⟨Fi,hl,hF⟩:=zp0 (P:=fun j (y:List Int × List Int)=>∃lv rv,W.cell? ⟨b,0+j*2,none⟩=some lv/\W.cell? ⟨b,0+j*2+1,none⟩=some rv/\SliceOf encI W lv y.1/\SliceOf encI W rv y.2/\(y.1≠[]→∀q,lv.ownBlock=some q→R q)/\(y.2≠[]→∀q,rv.ownBlock=some q→R q)) n (fun j hj=>by
  obtain⟨lv,h1,A,h2,_,h3⟩:=h.cell (i:=j*2) (by omega);obtain⟨rv,h4,B,h5,_,h6⟩:=h.cell (i:=j*2+1) (by omega);refine⟨(A,B),lv,rv,by rw[Nat.zero_add];exact h1,by rw[Nat.zero_add];exact h4,h2,h5,fun hne q hq=>hZ q (h3 hne q hq),fun hne q hq=>hZ q (h6 hne q hq)⟩)
 refine⟨Fi,some ⟨b,0,none⟩,c,by rw[hl],by omega,hm,fun j y hy=>?_⟩;obtain⟨lv,rv,h1,h2,h3,h4,h5,h6⟩:=hF j y hy;exact⟨b,0,lv,rv,rfl,hb,h1,h2,h3,h4,h5,h6⟩
theorem NB.of_owns {D:Nat}{v:Value}{NV:List (Value × Value)}(h:W.ownsRow D 110 2 v NV.length (zay NV))(hn:0<NV.length)(hZ:∀q,v.ownBlock=some q→¬Z q)(hN:∀x∈NV,IntOK m W Z x.1/\IntOK m W Z x.2) :
  ∃(b c:Nat) (cur:Array Value),v=.slice (some ⟨b,0,none⟩) NV.length c/\NV.length≤c/\c≤9223372036854775807/\NB m W b NV.length cur Z:=by
 rcases h.2 with ⟨_,h0⟩|⟨g,cap,cur,rfl,hb,hg,hnc,hcm,hs,ht⟩
 ·omega
 ·refine⟨g,cap,cur,rfl,hnc,by simpa [maxLen] using hcm,hg,fun i hi=>?_,hZ g rfl⟩
  obtain⟨x,hx⟩:∃x,NV[i/2]?=some x:=⟨_,List.getElem?_eq_getElem (by omega)⟩;obtain⟨f1,f2⟩:=zgk NV (i/2) x hx;obtain⟨g1,g2⟩:=hN x (List.mem_of_getElem? hx);have key:∀u,(zay NV)[i]?=some u→cur[i]?=some u:=fun u hu=>by
   rw[←ht,List.getElem?_take]at hu;simpa [show i<NV.length*2 from hi] using hu
  rcases Nat.mod_two_eq_zero_or_one i with e|e
  ·rw[show i/2*2=i by omega]at f1
   exact⟨_,key _ f1,g1⟩
  ·rw[show i/2*2+1=i by omega]at f2
   exact⟨_,key _ f2,g2⟩
end
theorem NodeT.nb {D m:Nat}{T:Nat→Prop}{w:World}{v:Value}{LL:List PL}(h:NodeT D T w v LL)(hp:0<LL.length)(hm:∀y∈LL,y.1.length≤m/\y.2.length≤m):∃(NV:List (Value × Value)) (Z:Nat→Prop),w.ownsRow D 110 2 v NV.length (zay NV)/\NV.length=LL.length/\(∀q,Z q→T q)/\(∀q,v.ownBlock=some q→T q/\¬Z q)/\(∀x∈NV,IntOK m w Z x.1/\IntOK m w Z x.2):=by
 obtain⟨T0,⟨NV,o1,o2,o3⟩,h2,h3⟩:=h;refine⟨NV,T0,o1,o2,h2,h3,fun x hx=>?_⟩;obtain⟨j,hj,rfl⟩:=List.getElem_of_mem hx;obtain⟨y,hy⟩:∃y,LL[j]?=some y:=⟨_,List.getElem?_eq_getElem (by omega)⟩;obtain⟨s1,s2,t1,t2⟩:=o3 j _ y (List.getElem?_eq_getElem hj) hy;have key:∀(v:Value) (L:List Nat),Nats w v L→Ints w v (ints L):=fun v L h=>by
  obtain⟨a,c,rfl,h1,h2,h3⟩:=h;refine⟨a,c,by simp[ints],by simpa [ints] using h1,h2,fun j x hx=>?_⟩;unfold ints at hx;rw[List.getElem?_map]at hx;obtain⟨y,hy,rfl⟩:=Option.map_eq_some_iff.1 hx;exact h3 j y hy
 obtain⟨l1,l2⟩:=hm y (List.mem_of_getElem? hy);exact⟨⟨_,key _ _ s1,by simpa [ints] using l1,fun hne=>t1 (fun e=>hne (by rw[e];rfl))⟩,⟨_,key _ _ s2,by simpa [ints] using l2,fun hne=>t2 (fun e=>hne (by rw[e];rfl))⟩⟩
theorem zpq (v:Value)(A:List Int)(w:World)(h:Ints w v A)(hl:A.length<1000000) :
  Calls Tryz.prog 127 #[v] w fun e w'=>∃v',e=.returned v'∧w'.ownsRow w.heap.size 3 1 v' A.length (A.map encI)/\Fr NoM w w':=by
 obtain⟨a,c,rfl,zz⟩:=id h;have HL:=Hh h;have HN:=Hh hl;clear zz h hl;go_enter Tryz.func127,Tryz.ntmps127;go_wp2_with (at_builtin;refine zad (enc:=encI) _ rfl (.tmp 3) (.tmp 4) 63 rfl w.heap.size 3 (.int .i64 0) 8 Tryz.underlying63 za8 rfl (.slice (some ⟨w.heap.size,0,none⟩) 0 0) 0 [] rfl (World.ownsRow_made w #[] 0 (Nat.le_refl _) (by decide) (by simp)) (.slice a A.length c) rfl A (HL.out.fr0 ((Fr.refl NoM w).alloc _)) (fun _=>rfl) (by have:=HN.out;omega) (by decide) (by rw[World.size_alloc];omega) ?_);intro v1 w1 h1 f1 q1;have hfw:Fr NoM w w1:=((Fr.refl NoM w).alloc _).trans f1 (fun q hq e=>by have e:w.heap.size=q:=Option.some.inj e;omega);have HO:=Hh h1;have HF:=Hh hfw;clear h1 f1 q1 hfw;go_wp2;go_ret;exact⟨v1,rfl,HO.out,HF.out⟩
theorem zy9 {a:Nat}(W:World)(k:Int)(ha:a=W.heap.size):Ints (W.alloc (.cells #[.int .i64 0,.int .i64 k,.int .i64 (-1),.int .i64 1] 3)) (.slice (some ⟨a,0,none⟩) 4 4) [0,k,-1,1]:=by
 subst ha;have hb:=heap_alloc_new W (.cells #[.int .i64 0,.int .i64 k,.int .i64 (-1),.int .i64 1] 3);refine⟨_,4,rfl,by simp,by decide,fun j u hu=>⟨W.heap.size,0,rfl,?_⟩⟩;rw[Nat.zero_add,cell_of_row _ _ _ _ _ _ hb];match j,hu with
 | 0,hu=>cases hu;rfl
 | 1,hu=>cases hu;rfl
 | 2,hu=>cases hu;rfl
 | 3,hu=>cases hu;rfl
 | j+4,hu=>simp at hu
theorem own4 {a n c q:Nat}(h:(Value.slice (some ⟨a,0,none⟩) n c).ownBlock=some q):a=q:=Option.some.inj h
theorem zn1 {W:World}{b4 b5:Nat}{u4 u5 v:Value}{e4 e5:TypeId}(h4:W.heap[b4]?=some (.cells #[u4] e4 (0,0)))(h5:W.heap[b5]?=some (.cells #[u5] e5 (0,0)))(hne:b4≠b5) :
  (W.setCell ⟨b5,0,none⟩ v).cell? ⟨b5,0,none⟩=some v/\(W.setCell ⟨b5,0,none⟩ v).cell? ⟨b4,0,none⟩=some u4/\(W.setCell ⟨b5,0,none⟩ v).frozen? ⟨b4,0,none⟩=false:=by
 have g5:=heap_set (i:=0) h5 v;have g4:=(Fr.set W ⟨b5,0,none⟩ v).heap h4 hne;exact⟨by rw[cell_of_row _ _ 0 _ _ _ g5];rfl,by rw[cell_of_row _ _ 0 _ _ _ g4];rfl,by simp[World.frozen?,g4]⟩
def zmk (cb n m:Nat)(w:World)(e:Ending)(w':World):Prop:=∃(v:Value) (Fi:List (List Int × List Int)),e=.returned (.agg #[v])/\NodeL (fun b=>w.heap.size≤b) encI w' v Fi/\CurS w' cb n/\Fr (fun q=>q=cb) w w'∧Fi.length≤m
theorem zyn {w W:World}{mb cb m nb n c k:Nat}{cur:Array Value}{Z:Nat→Prop}(hc:n≤c)(hm:c≤9223372036854775807)(h:NB mb W nb n cur Z)(hZ:∀q,Z q→w.heap.size<q)(hb:w.heap.size<nb)(hC:CurS W cb m)(hcb:cb<w.heap.size)(hf:Fr (fun q=>q=cb) w W)(hk:n≤k) :
  zmk cb m k w (.returned (.agg #[.slice (some ⟨nb,0,none⟩) n c])) (W.setCell ⟨w.heap.size,0,none⟩ (.slice (some ⟨nb,0,none⟩) n c)):=by
 have h2:=h.fr (Fr.set W ⟨w.heap.size,0,none⟩ (.slice (some ⟨nb,0,none⟩) n c)) (fun e=>by have e:nb=w.heap.size:=e;omega) (fun q hq e=>by have e:q=w.heap.size:=e;have:=hZ q hq;omega);obtain⟨Fi,hF⟩:=h2.nodeL (R:=fun b=>w.heap.size≤b) hc hm (Nat.le_of_lt hb) (fun q hq=>Nat.le_of_lt (hZ q hq));exact⟨_,Fi,rfl,hF,hC.fr (Fr.set W ⟨w.heap.size,0,none⟩ _) (fun q hq e=>by have e:q=w.heap.size:=e;omega),hf.setCell _ _ (fun h=>by have h:w.heap.size<w.heap.size:=h;omega),by obtain⟨a',c',e,_⟩:=hF;have:=(Value.slice.inj e).2.1;omega⟩
theorem zot (nb n c k:Nat)(hk:k<n)(w:World):(Instr.indexAt 24 (.slice (some ⟨nb,0,none⟩) n c) (.int .i64 (k:Int))).run Tryz.prog w=.ok (.pointer (some ⟨nb,k*2,none⟩)) w:=by
 have h:=zbc (some ⟨nb,0,none⟩) n c k nb 0 hk rfl w;rw[Nat.zero_add]at h;exact h
set_option maxRecDepth 8000 in
set_option maxHeartbeats 8000000 in
theorem zp4 (cb n k:Nat)(w:World)(h:CurS w cb n)(hk:k≤20)(hn:n<10000) :
  Calls Tryz.prog 67 #[.pointer (some ⟨cb,0,none⟩),.int .i64 (k:Int)] w fun e w'=>zmk cb (n+12*k+10) (10+k) w e w':=by
 obtain⟨w1,hw1⟩:∃w1,w1=w.alloc (.cells #[.slice none 0 0] 26):=⟨_,rfl⟩;have f1:Fr NoM w w1:=by rw[hw1];exact(Fr.refl NoM w).alloc _
 have hs1:w1.heap.size=w.heap.size+1:=by rw[hw1];simp
 have e1:w1.heap[w.heap.size]?=some (.cells #[.slice none 0 0] 26 (0,0)):=by rw[hw1];exact heap_alloc_new w _
 have HCl:=Hh h.lt;have HFo:=Hh (ztx cb n k w1 (h.fr0 f1) hk (by omega));have HE1:=Hh e1;have F1:=Hh f1;have HS1:=Hh hs1;have HN:=Hh hn;have HKk:=Hh hk;clear h f1 hs1 e1 hn;go_enter Tryz.func67,Tryz.ntmps67;go_upto_region 1 with fail;rw[←hw1];clear hw1;go_wp2_with fail;(with_reducible refine HFo.out.mono ?_);rintro e w2 ⟨v,Fm,U,rfl,nt,df,ul,c2,f2⟩;obtain⟨p1,p2,_,p4⟩:=df.props;obtain⟨NV,Z,o1,o2,z1,z2,z3⟩:=nt.nb (m:=29) p1 (fun y hy=>by have:=p4 y hy;have:=ul.len;omega);obtain⟨nb,c,cur,rfl,n1,n2,hB⟩:=NB.of_owns o1 (by omega) (fun q hq=>(z2 q hq).2) z3;have hnb:=(z2 nb rfl).1;obtain⟨N,hN⟩:∃N,N=NV.length:=⟨_,rfl⟩;rw[←hN]at o1 o2 n1 hB ⊢;obtain⟨w3,hw3⟩:∃w3,w3=w2.alloc (.cells #[.slice (some ⟨nb,0,none⟩) N c] 26):=⟨_,rfl⟩;have f3:Fr NoM w2 w3:=by rw[hw3];exact(Fr.refl NoM w2).alloc _
 have hs3:w3.heap.size=w2.heap.size+1:=by rw[hw3];simp
 have e3:w3.heap[w2.heap.size]?=some (.cells #[.slice (some ⟨nb,0,none⟩) N c] 26 (0,0)):=by rw[hw3];exact heap_alloc_new w2 _
 obtain⟨b5,hb5⟩:∃b5,b5=w2.heap.size:=⟨_,rfl⟩;rw[←hb5]at e3;have hN0:0<N:=by omega
 have ul:=ul.len;have hN1:N≤9+k:=by omega
 have HZ:=Hh (fun(q:Nat) (hq:Z q)=>(by have h1:=z1 q hq;have h2:=HS1.out;have h3:=HCl.out;exact⟨by omega,by omega,by omega,by omega⟩:w.heap.size<q/\q<b5/\q≠cb/\q<w3.heap.size));have HNb:=Hh (by have h2:=HS1.out;have h3:=HCl.out;exact⟨by omega,by omega,by omega⟩:w.heap.size<nb/\nb<b5/\nb≠cb);have HB5:=Hh (by have h2:=HS1.out;have h3:=HCl.out;have h4:=f2.size;exact⟨by omega,by omega,by omega⟩:w.heap.size<b5/\b5≠cb/\b5<w3.heap.size);have HNc:=Hh (And.intro n1 n2);have HC3:=Hh (c2.fr0 f3);have HF3:=Hh (f2.trans f3 (fun _ _ q=>q.elim):Fr (fun q=>q=cb) w1 w3);have HK:=Hh (fun(W:World) (f:Fr (fun q=>q=cb∨q=nb) w3 W)=>(by
  have h5:=f.heap e3 (fun e=>by have:=HB5.out;have:=HNb.out;omega);have h4:=f.heap (HF3.out.heap HE1.out (fun e=>by have:=HCl.out;omega)) (fun e=>by have:=HCl.out;have:=HNb.out;omega);exact⟨by rw[cell_of_row W _ 0 _ _ _ h5];rfl,by rw[cell_of_row W _ 0 _ _ _ h4];rfl,by simp[World.frozen?,h4],by simp[World.frozen?,h5],h5,h4⟩:W.cell? ⟨b5,0,none⟩=some (.slice (some ⟨nb,0,none⟩) N c)/\W.cell? ⟨w.heap.size,0,none⟩=some (.slice none 0 0)/\W.frozen? ⟨w.heap.size,0,none⟩=false/\W.frozen? ⟨b5,0,none⟩=false/\W.heap[b5]?=some (.cells #[.slice (some ⟨nb,0,none⟩) N c] 26 (0,0))/\W.heap[w.heap.size]?=some (.cells #[.slice none 0 0] 26 (0,0))))
 have HNB:=Hh (fun(W:World) (f:Fr (fun q=>q=cb) w3 W)=>(hB.fr0 f3).fr f (HNb.out.2.2) (fun q hq=>(HZ.out q hq).2.2.1));have HOw:=Hh (fun(W:World) (f:Fr (fun q=>q=cb) w3 W)=>za2 (za2 o1 f3 (fun _ _ q=>q)) f (fun q hq e=>by have e2:nb=q:=Option.some.inj hq;have:=HNb.out.2.2;exact this (e2.trans e)));have HNV:=Hh hN;have HNB_out:∀q,Z q→q≠nb:=fun q hq e=>hB.out (e ▸ hq)
 have HNO:=Hh HNB_out;have HNV2:=Hh (fun(W:World) (f:Fr (fun q=>q=cb) w3 W) (y:Value × Value) (hy:y∈NV)=>(⟨((z3 y hy).1.fr f3 (fun _ _ q=>q)).fr f (fun q hq=>(HZ.out q hq).2.2.1),((z3 y hy).2.fr f3 (fun _ _ q=>q)).fr f (fun q hq=>(HZ.out q hq).2.2.1)⟩:IntOK 29 W Z y.1/\IntOK 29 W Z y.2));clear HNB_out;have HFw:=Hh (fun(W:World) (f:Fr (fun q=>q=cb∨q=b5∨w.heap.size<q) w3 W)=>(((F1.out.any.trans HF3.out (fun _ _ q=>q))).trans f (fun q hq e=>by
  rcases e with e|e|e
  ·exact e
  ·have:=HB5.out;omega
  ·omega):Fr (fun q=>q=cb) w W))
 clear nt df ul c2 f2 p1 p2 p4 o1 o2 z1 z2 z3 n1 n2 hB hnb f3 hs3 e3 hN HFo;go_upto_region 2 with fail;rw[←hw3,←hb5];clear hw3 hb5;have HPk:=Hh (zd9 cb (n+12*k+4) (N:Int) w3 HC3.out (by have:=HN.out;have:=HKk.out;omega) ⟨by omega,by omega⟩);have k5:=(HK.out w3 (Fr.refl _ _)).1;go_wp2_with fail;(with_reducible refine HPk.out.mono ?_);rintro e w4 ⟨y,rfl,y0,y1,c4,f4⟩;obtain⟨x,rfl⟩:∃x:Nat,y=(x:Int):=⟨y.toNat,by omega⟩;have hx:x<N:=by omega
 have HPk2:=Hh (zd9 cb (n+12*k+4+2) 24 w4 c4 (by have:=HN.out;have:=HKk.out;omega) ⟨by omega,by omega⟩);have F4:=Hh f4;clear y0 y1 c4 f4 HPk k5;go_wp2_with fail;(with_reducible refine HPk2.out.mono ?_);rintro e w5 ⟨d,rfl,d0,d1,c5,f5⟩;have F5:=Hh (F4.out.trans f5 (fun _ _ q=>q));have HC5:=Hh c5;clear c5 f5 d0 d1 HPk2;obtain⟨k5,k4,z4,z5,_⟩:=HK.out w5 (F5.out.mono (fun _ _ q=>.inl q));have hret:=fun(W:World) (mb m nb' n' c':Nat) (cur':Array Value) (Z':Nat→Prop) (hc:n'≤c') (hm:c'≤9223372036854775807) (h:NB mb W nb' n' cur' Z') (hZ:∀q,Z' q→w.heap.size<q) (hb:w.heap.size<nb') (hC:CurS W cb m) (hle:m≤n+12*k+10) (hf:Fr (fun q=>q=cb∨q=b5∨w.heap.size<q) w3 W) (hk':n'≤10+k)=>zyn hc hm h hZ hb (hC.mono hle) HCl.out (HFw.out W hf) hk'
 have HRet:=Hh hret;clear hret;by_cases d0:d=0
 ·subst d0
  have hB:=HNB.out w5 F5.out;obtain⟨lx,hlx,ilx⟩:=hB.cell (i:=x*2) (by omega);obtain⟨A,hA,hAl,hAz⟩:=id ilx;obtain⟨aA,cA,rfl,hAc,hAm,zz⟩:=id hA;clear zz hAc hAm;have HAi:=Hh (fun(W:World) (f:Fr NoM w5 W)=>hA.fr0 f);have HAl:=Hh hAl;have HS:=Hh (fun(W:World) (f:Fr (fun q=>q=cb) w5 W)=>(⟨(HK.out W ((F5.out.trans f (fun _ _ q=>q)).mono (fun _ _ q=>.inl q))).1,f.cell hlx (HNb.out.2.2)⟩:W.cell? ⟨b5,0,none⟩=some (.slice (some ⟨nb,0,none⟩) N c)/\W.cell? ⟨nb,x*2,none⟩=some (.slice aA A.length cA)));have HBx:=Hh (fun(W:World) (f:Fr (fun q=>q=cb) w5 W)=>(HK.out W ((F5.out.trans f (fun _ _ q=>q)).mono (fun _ _ q=>.inl q))).1);have HNx:=Hh (fun(W:World) (f:Fr (fun q=>q=cb) w5 W)=>(⟨f.cell hlx (HNb.out.2.2),(HNB.out W (F5.out.trans f (fun _ _ q=>q))).free (x*2)⟩:W.cell? ⟨nb,x*2,none⟩=some (.slice aA A.length cA)/\W.frozen? ⟨nb,x*2,none⟩=false));clear hlx ilx hA hAz hB hAl;have ix:=zot nb N c x hx;have F0:Fr NoM w5 w5.drew:=(Fr.refl NoM w5).drew;have G0:Fr (fun q=>q=cb) w5 w5.drew:=F0.any;have s0:=HBx.out w5.drew G0;have t0:=(HNx.out w5.drew G0).1;have t1:=fun(o:Obj)=>(HNx.out (w5.drew.alloc o) (Fr.alloc G0 o)).1
  go_upto_region 5 with fail;have hfin:=fun(wd:World) (y:Int) (a4:Option Addr) (c4:Nat) (gd:Fr (fun q=>q=cb) w5 wd) (cd:CurS wd cb (n+12*k+4+2+2+2)) (h4:wd.ownsRow w5.heap.size 3 1 (.slice a4 (A.length+1) c4) (A.length+1) ((A ++ [y]).map encI))=>(by
   have h35:=F5.out.size;have hnl:=HNb.out;have hb5:=HB5.out;have B:=(HNB.out wd (F5.out.trans gd (fun _ _ q=>q))).mono (Z':=fun q=>Z q∨w5.heap.size≤q) (fun q hq=>.inl hq) (fun e=>e.elim (fun e=>HNO.out nb e rfl) (fun e=>by omega));have B:=B.more (k:=30) (by omega);have hI:IntOK 30 wd (fun q=>Z q∨w5.heap.size≤q) (.slice a4 (A.length+1) c4):=⟨A ++ [y],by have h:=SliceOf.of_owns (enc:=encI) h4 rfl;exact h,by have:=HAl.out;simp;omega,fun _ q hq=>.inr (h4.lt q hq).1⟩;have B2:=B.set (x*2) hI;have hs:Fr (fun q=>q=nb) wd (wd.setCell ⟨nb,x*2,none⟩ (.slice a4 (A.length+1) c4)):=Fr.setCell (Fr.refl (fun q=>q=nb) wd) ⟨nb,x*2,none⟩ _ (fun _=>rfl);have g3:Fr (fun q=>q=cb∨q=nb) w3 (wd.setCell ⟨nb,x*2,none⟩ (.slice a4 (A.length+1) c4)):=((F5.out.trans gd (fun _ _ q=>q)).mono (fun _ _ q=>.inl q)).trans hs (fun q _ e=>.inr e);obtain⟨s1,s2,s5,_⟩:=HK.out _ g3;obtain⟨t1,t2⟩:=HNx.out wd gd;exact⟨s1,s2,s5,t1,t2,HRet.out _ _ _ nb N c _ _ HNc.out.1 HNc.out.2 B2 (fun q hq=>hq.elim (fun h=>(HZ.out q h).1) (fun h=>by omega)) hnl.1 (cd.fr hs (fun q hq e=>by have:=HCl.out;omega)) (by omega) (g3.mono (fun q _ e=>e.elim .inl (fun e=>.inr (.inr (by omega))))) (by omega)⟩ :
   (wd.setCell ⟨nb,x*2,none⟩ (.slice a4 (A.length+1) c4)).cell? ⟨b5,0,none⟩=some (.slice (some ⟨nb,0,none⟩) N c)/\(wd.setCell ⟨nb,x*2,none⟩ (.slice a4 (A.length+1) c4)).cell? ⟨w.heap.size,0,none⟩=some (.slice none 0 0)/\(wd.setCell ⟨nb,x*2,none⟩ (.slice a4 (A.length+1) c4)).frozen? ⟨w.heap.size,0,none⟩=false/\wd.cell? ⟨nb,x*2,none⟩=some (.slice aA A.length cA)/\wd.frozen? ⟨nb,x*2,none⟩=false ∧
    zmk cb (n+12*k+10) (10+k) w (.returned (.agg #[.slice (some ⟨nb,0,none⟩) N c])) ((wd.setCell ⟨nb,x*2,none⟩ (.slice a4 (A.length+1) c4)).setCell ⟨w.heap.size,0,none⟩ (.slice (some ⟨nb,0,none⟩) N c)))
  have HFin:=Hh hfin;have HCb:=Hh (show cb<w5.heap.size from by have h1:=HCl.out;have h2:=HB5.out;have h3:=F5.out.size;omega);have HAx:=Hh (show n+12*k+4+2+2<100000000000 from by have:=HN.out;have:=HKk.out;omega);clear hfin;obtain⟨j01,j02⟩:=HS.out _ G0;have j03:=fun(o:Obj)=>(HS.out (w5.drew.alloc o) (Fr.alloc G0 o)).1
  have j04:=fun(o:Obj)=>(HS.out (w5.drew.alloc o) (Fr.alloc G0 o)).2
  have j05:=fun(o:Obj)=>(HS.out (w5.alloc o).drew ((Fr.alloc (Fr.refl NoM w5) o).drew.any)).1
  have j06:=fun(o:Obj)=>(HS.out (w5.alloc o).drew ((Fr.alloc (Fr.refl NoM w5) o).drew.any)).2
  obtain⟨j07,j08⟩:=HS.out w5 (Fr.refl _ _);clear s0 t0 t1;go_region_law (first
   | (refine zbd (enc:=encI) rfl (.tmp 29) (.tmp 34) 63 rfl w5.heap.size 3 (.int .i64 0) 8 Tryz.underlying63 za8 rfl va A.length (A.map encI) rfl (za2 ob ((Fr.refl NoM wb).alloc _) (fun _ _ q=>q)) (.slice (some ⟨wb.heap.size,0,none⟩) 1 1) rfl [y] (SliceOf.one encI wb y 3) (fun _=>rfl) (by have:=HAl.out;simp only[List.length_singleton];omega) (by decide) (by have:=gb.size;rw[World.size_alloc];omega) ?_;intro v4 wd h4 f4 q4;have h4':=(show wd.ownsRow w5.heap.size 3 1 v4 (A.length+1) ((A ++ [y]).map encI)from by rw[List.map_append];exact h4);obtain⟨a4,c4,rfl⟩:∃a c,v4=.slice a (A.length+1) c:=(by obtain⟨a,c,e,_⟩:=SliceOf.of_owns (enc:=encI) h4' rfl;exact⟨a,c,by rw[e];simp⟩);have gd:Fr (fun q=>q=cb) w5 wd:=(gb.trans ((Fr.refl NoM wb).alloc _) (fun _ _ q=>q.elim)).trans f4 (fun q hq e=>by have h1:=(oa'.lt q e).1;omega);have cd:=(cy.fr0 ((Fr.refl NoM wb).alloc _)).fr f4 (fun q hq e=>by have h1:=(oa'.lt q e).1;have h2:=HCb.out;omega);obtain⟨j31,j32⟩:=HS.out wd gd;obtain⟨s1,s2,s5,s3,s4,hend⟩:=HFin.out wd y a4 c4 gd cd h4';have HEnd:=Hh hend)
   | (go_simp;first
    | (go_at_call 127;(with_reducible refine(zpq _ A _ (HAi.out _ (by first|exact F0|exact Fr.alloc F0 _|exact(Fr.alloc (Fr.refl NoM w5) _).drew)) (by have:=HAl.out;omega)).mono ?_);rintro e wa ⟨va,rfl,oa,fa⟩;have ga0:Fr NoM w5 wa:=Fr.trans (by first|exact F0|exact Fr.alloc F0 _|exact(Fr.alloc (Fr.refl NoM w5) _).drew) fa (fun _ _ q=>q);have ga:Fr (fun q=>q=cb) w5 wa:=ga0.any;have oa':=zar (base':=w5.heap.size) oa (by(try simp only[World.size_alloc,World.size_drew]);omega);obtain⟨jwa1,jwa2⟩:=HS.out wa ga;have jwa3:=fun o=>(HS.out (wa.alloc o) (Fr.alloc ga o)).1;have jwa4:=fun o=>(HS.out (wa.alloc o) (Fr.alloc ga o)).2)
    | (go_at_call 121;(with_reducible refine(zug cb (n+12*k+4+2+2) _ [0,(x:Int),-1,1] _ (by first|exact(HC5.out.fr0 ga0).fr0 ((Fr.refl NoM wa).alloc _)|exact HC5.out.fr0 ga0) (by first|exact zy9 wa x rfl|exact(zy9 w5.drew x (by simp)).fr0 fa|exact((zy9 w5 x rfl).fr0 (Fr.refl NoM _).drew).fr0 fa) (fun q hq=>by have e:=own4 hq;have h1:=HCb.out;have h2:=ga0.size;omega) (by simp) (by simp) HAx.out).mono ?_);rintro e wb ⟨y,rfl,ym,cy,fy⟩;have gab:Fr (fun q=>q=cb) wa wb:=(by first|exact fy|exact Fr.trans ((Fr.refl NoM wa).alloc _).any fy (fun _ _ q=>q));have gb:Fr (fun q=>q=cb) w5 wb:=ga.trans gab (fun _ _ q=>q);have ob:=za2 oa' gab (fun q hq e=>by have h1:=(oa'.lt q hq).1;have h2:=HCb.out;omega);obtain⟨jwb1,jwb2⟩:=HS.out wb gb;have jwb3:=fun o=>(HS.out (wb.alloc o) (Fr.alloc gb o)).1;have jwb4:=fun o=>(HS.out (wb.alloc o) (Fr.alloc gb o)).2)
    | fail)
   | fail)
  all_goals
   clear oa fa oa' cy fy ob h4 h4' f4 q4 cd hend;go_wp2;refine bodyPost_ret (v:=.agg #[.slice (some ⟨nb,0,none⟩) N c]) (by simp[results,Tryz.results67,go_sem,s2]) rfl ?_
   exact HEnd.out
 by_cases d1:d=1
 ·subst d1
  have hf5:Fr NoM w5 ((w5.alloc (.cells #[.int .i64 0] 3)).alloc (.cells #[.slice none 0 0,.slice (some ⟨w5.heap.size,0,none⟩) 1 1] 110)):=((Fr.refl NoM w5).alloc _).alloc _;have HAl:=Hh hf5;clear hf5;go_wp2_with (at_builtin;refine zdf rfl (.tmp 41) (.tmp 44) 24 rfl w1.heap.size 110 _ 2 48 Tryz.underlying24 zbv rfl (by decide) (.slice (some ⟨nb,0,none⟩) N c) N (zay NV) rfl (by exact za2 (HOw.out w5 F5.out) HAl.out (fun _ _ q=>q)) (w5.heap.size+1) rfl [.slice none 0 0,.slice (some ⟨w5.heap.size,0,none⟩) 1 1] 110 (by have h:=heap_alloc_new (w5.alloc (.cells #[.int .i64 0] 3)) (.cells #[.slice none 0 0,.slice (some ⟨w5.heap.size,0,none⟩) 1 1] 110);rw[World.size_alloc]at h;exact h) rfl (by intro u hu;simp at hu;rcases hu with rfl|rfl <;> rfl) (by omega) (by decide) (by have:=F5.out.size;have:=HF3.out.size;rw[World.size_alloc,World.size_alloc];omega) ?_);intro v8 w8 h8 f8 q8;have hz8:=HAl.out.size;have h35:=F5.out.size;have f58:Fr (fun q=>q=nb) w5 w8:=HAl.out.any.trans f8 (fun q hq e=>(Option.some.inj e).symm);have e8:zay (NV ++ [(.slice none 0 0,.slice (some ⟨w5.heap.size,0,none⟩) 1 1)])=zay NV ++ [.slice none 0 0,.slice (some ⟨w5.heap.size,0,none⟩) 1 1]:=by simp[zay]
  have hl8:(NV ++ [((.slice none 0 0:Value),(.slice (some ⟨w5.heap.size,0,none⟩) 1 1:Value))]).length=N+1:=by have:=HNV.out;simp;omega
  rw[←e8,←hl8]at h8;have hq8:∀q,v8.ownBlock=some q→q=nb∨w5.heap.size+2≤q:=fun q hq=>by
   rcases q8 with e|⟨b,e,hb⟩
   ·rw[e]at hq;exact .inl (Option.some.inj hq).symm
   ·rw[e]at hq;cases hq;have hb':=hb;(try simp only[World.size_alloc]at hb');exact .inr (by omega)
  have hI8:IntOK 29 w8 (fun q=>Z q∨q=w5.heap.size) (.slice (some ⟨w5.heap.size,0,none⟩) 1 1):=by
   refine⟨[0],(((SliceOf.one encI w5 0 3).fr0 ((Fr.refl NoM _).alloc _)).fr f8 (fun _ q hq e=>?_)),by simp,fun _ q hq=>.inr (Option.some.inj hq).symm⟩;have e1:w5.heap.size=q:=Option.some.inj hq;have e2:nb=q:=Option.some.inj e;have:=HNb.out;have:=HB5.out;omega
  obtain⟨nb8,c8,cur8,rfl,n8,m8,B8⟩:=NB.of_owns (Z:=fun q=>Z q∨q=w5.heap.size) h8 (by omega) (fun q hq e=>by
   rcases hq8 q hq with e2|e2
   ·rcases e with e|e
    ·exact HNO.out q e e2
    ·have:=HNb.out;have:=HB5.out;omega
   ·rcases e with e|e
    ·have:=(HZ.out q e).2.2.2;omega
    ·omega) (fun y hy=>by
   rcases List.mem_append.1 hy with h|h
   ·obtain⟨h1,h2⟩:=HNV2.out w5 F5.out y h
    exact⟨(h1.fr f58 (fun q hq e=>HNO.out q hq e)).mono (fun q hq=>.inl hq),(h2.fr f58 (fun q hq e=>HNO.out q hq e)).mono (fun q hq=>.inl hq)⟩
   ·rw[List.mem_singleton.1 h]
    exact⟨⟨[],SliceOf.nil _ _,by simp,fun h=>absurd rfl h⟩,hI8⟩)
  rw[hl8]at n8 B8 ⊢;obtain⟨_,_,_,z8,kb5,kb4⟩:=HK.out w8 ((F5.out.mono (fun _ _ q=>.inl q)).trans f58 (fun _ _ q=>.inr q));obtain⟨s1,s2,s3⟩:=zn1 (v:=.slice (some ⟨nb8,0,none⟩) (N+1) c8) kb4 kb5 (by have:=HB5.out;omega);have hb8:=hq8 nb8 rfl;have hNb8:w.heap.size<nb8/\nb8≠b5:=by have:=HNb.out;have:=HB5.out;omega
  have g8:Fr (fun q=>q=cb∨q=b5∨w.heap.size<q) w3 (w8.setCell ⟨b5,0,none⟩ (.slice (some ⟨nb8,0,none⟩) (N+1) c8)):=((F5.out.mono (fun _ _ q=>.inl q)).trans f58 (fun q _ e=>.inr (.inr (by have:=HNb.out;omega)))).trans (Fr.set w8 _ _) (fun q _ e=>.inr (.inl e));have B9:=B8.fr (Fr.set w8 ⟨b5,0,none⟩ (.slice (some ⟨nb8,0,none⟩) (N+1) c8)) (fun e=>hNb8.2 e) (fun q hq e=>by
   have e:q=b5:=e;rcases hq with h|h
   ·have:=(HZ.out q h).2.1;omega
   ·have:=HB5.out;omega)
  have C9:CurS (w8.setCell ⟨b5,0,none⟩ (.slice (some ⟨nb8,0,none⟩) (N+1) c8)) cb (n+12*k+4+2+2):=(HC5.out.fr f58 (fun q hq e=>by have:=HNb.out;have:=HCl.out;omega)).fr (Fr.set w8 _ _) (fun q hq e=>by have e:q=b5:=e;have:=HB5.out;have:=HCl.out;omega);have HEnd:=Hh (HRet.out _ _ _ nb8 (N+1) c8 cur8 _ n8 m8 B9 (fun q hq=>by
   rcases hq with h|h
   ·exact(HZ.out q h).1
   ·have:=HB5.out;omega) hNb8.1 C9 (by omega) g8 (by omega))
  clear h8 f8 q8 hz8 h35 f58 e8 hl8 hq8 hI8 n8 m8 B8 kb5 kb4 hb8 hNb8 g8 B9 C9;go_wp2;refine bodyPost_ret (v:=.agg #[.slice (some ⟨nb8,0,none⟩) (N+1) c8]) (by simp[results,Tryz.results67,go_sem,s2]) rfl ?_
  exact HEnd.out
 by_cases d2:d=2
 ·subst d2
  obtain⟨N',hN'⟩:∃N',N=N'+1:=⟨N-1,by omega⟩;have hcast:((N:Int)-1)=(N':Int):=by omega
  have hcap:N≤c:=HNc.out.1;have hcap2:c≤9223372036854775807:=HNc.out.2;have HN':=Hh hN';clear hN';obtain⟨_,_,_,_,kb5,kb4⟩:=HK.out w5 (F5.out.mono (fun _ _ q=>.inl q));obtain⟨s1,s2,s3⟩:=zn1 (v:=.slice (some ⟨nb,0,none⟩) N' c) kb4 kb5 (by have:=HB5.out;omega);have g8:Fr (fun q=>q=cb∨q=b5∨w.heap.size<q) w3 (w5.setCell ⟨b5,0,none⟩ (.slice (some ⟨nb,0,none⟩) N' c)):=(F5.out.mono (fun _ _ q=>.inl q)).trans (Fr.set w5 _ _) (fun q _ e=>.inr (.inl e));have B9:=((HNB.out w5 F5.out).less (k:=N') (by have:=HN'.out;omega)).fr (Fr.set w5 ⟨b5,0,none⟩ (.slice (some ⟨nb,0,none⟩) N' c)) (fun e=>by have e:nb=b5:=e;have:=HNb.out;omega) (fun q hq e=>by have e:q=b5:=e;have:=(HZ.out q hq).2.1;omega);have C9:CurS (w5.setCell ⟨b5,0,none⟩ (.slice (some ⟨nb,0,none⟩) N' c)) cb (n+12*k+4+2+2):=HC5.out.fr (Fr.set w5 _ _) (fun q hq e=>by have e:q=b5:=e;have:=HB5.out;have:=HCl.out;omega);have HEnd:=Hh (HRet.out _ _ _ nb N' c cur _ (by have:=HN'.out;omega) hcap2 B9 (fun q hq=>(HZ.out q hq).1) HNb.out.1 C9 (by omega) g8 (by have:=HN'.out;omega));clear kb5 kb4 g8 B9 C9;go_wp2;refine bodyPost_ret (v:=.agg #[.slice (some ⟨nb,0,none⟩) N' c]) (by simp[results,Tryz.results67,go_sem,s2]) rfl ?_
  exact HEnd.out
 by_cases d3:d=3
 ·subst d3
  have hB:=HNB.out w5 F5.out;obtain⟨l0,hl0,il0⟩:=hB.cell (i:=0) (by omega);obtain⟨r0,hr0,ir0⟩:=hB.cell (i:=1) (by omega);obtain⟨lx,hlx,ilx⟩:=hB.cell (i:=x*2) (by omega);obtain⟨rx,hrx,irx⟩:=hB.cell (i:=x*2+1) (by omega);obtain⟨a1,n1,c1,rfl⟩:=il0.val;obtain⟨a2,n2,c2,rfl⟩:=ir0.val;obtain⟨a3,n3,c3,rfl⟩:=ilx.val;obtain⟨a4,n4,c4,rfl⟩:=irx.val;have HI:=Hh (And.intro il0 (And.intro ir0 (And.intro ilx irx)));have HB:=Hh hB;clear il0 ir0 ilx irx hB;go_upto_region 12 with fail;obtain⟨w6,hw6⟩:∃w6,w6=w5.alloc (.cells #[.slice a1 n1 c1,.slice a2 n2 c2] 110):=⟨_,rfl⟩;have f6:Fr NoM w5 w6:=by rw[hw6];exact(Fr.refl NoM w5).alloc _
  have e6:w6.heap[w5.heap.size]?=some (.cells #[.slice a1 n1 c1,.slice a2 n2 c2] 110 (0,0)):=by rw[hw6];exact heap_alloc_new w5 _
  rw[←hw6];have HE6:=Hh e6;have F6:=Hh f6;have f36:=F5.out.trans f6 (fun _ _ q=>q.elim);have HCE:=Hh (fun(W:World) (f:Fr NoM w6 W)=>(by
   have g:=f36.trans f (fun _ _ q=>q.elim);exact⟨(HK.out W (g.mono (fun _ _ q=>.inl q))).1,(f6.trans f (fun _ _ q=>q)).cell hlx (fun q=>q),(f6.trans f (fun _ _ q=>q)).cell hrx (fun q=>q),(HNB.out W g).free 0,(HNB.out W g).free 1,(f6.trans f (fun _ _ q=>q)).cell hl0 (fun q=>q),(f6.trans f (fun _ _ q=>q)).cell hr0 (fun q=>q)⟩:W.cell? ⟨b5,0,none⟩=some (.slice (some ⟨nb,0,none⟩) N c)/\W.cell? ⟨nb,x*2,none⟩=some (.slice a3 n3 c3)/\W.cell? ⟨nb,x*2+1,none⟩=some (.slice a4 n4 c4)/\W.frozen? ⟨nb,0,none⟩=false/\W.frozen? ⟨nb,1,none⟩=false/\W.cell? ⟨nb,0,none⟩=some (.slice a1 n1 c1)/\W.cell? ⟨nb,1,none⟩=some (.slice a2 n2 c2)))
  have HB6:=Hh (fun(W:World) (f:Fr NoM w6 W)=>HB.out.fr0 (f6.trans f (fun _ _ q=>q)));have HI6:=Hh (fun(W:World) (f:Fr (fun q=>q=nb) w6 W) (v:Value) (h:IntOK 29 w5 Z v)=>(h.fr0 f6).fr f (fun q hq e=>HNO.out q hq e));clear hw6 e6 f6 f36 hl0 hr0 hlx hrx;have ix:=zot nb N c x hx;have ix0:=zot nb N c 0 hN0;obtain⟨j1,j2,j3,j4,j5,j6,j7⟩:=HCE.out w6 (Fr.refl NoM w6);obtain⟨i1,i2,i3,i4,i5,i6,i7⟩:=HCE.out w6.drew ((Fr.refl NoM w6).drew);go_cut []from 63 to 70 (fun W=>∃cur',NB 29 W nb N cur' Z/\Fr (fun q=>q=nb) w6 W)
  case first =>
   go_region;all_goals
    go_wp2_with fail;go_meet
    case rel=>exact⟨_,(((HB6.out w6 (Fr.refl _ _)).set 0 (HI.out.2.2.1.fr0 F6.out)).set 1 ((HI.out.2.2.2.fr0 F6.out).fr (Fr.set w6 _ _) (fun q hq e=>HNO.out q hq e))).fr0 (Fr.refl NoM _).drew,(Fr.setCell (Fr.setCell (Fr.refl (fun q=>q=nb) w6) ⟨nb,0,none⟩ _ (fun _=>rfl)) ⟨nb,1,none⟩ _ (fun _=>rfl)).drew⟩
  case rest =>
   obtain⟨cur7,hB7,hf7⟩:=hcut;obtain⟨w7,rfl⟩:∃w7,w7=wc:=⟨_,rfl⟩;have HB7:=Hh hB7;have f37:Fr (fun q=>q=cb∨q=nb) w3 w7:=((F5.out.trans F6.out (fun _ _ q=>q.elim)).mono (fun _ _ q=>.inl q)).trans hf7 (fun q _ e=>.inr e);have HF37:=Hh f37;obtain⟨m1,m2,m3,_,_,_⟩:=HK.out w7 f37;have e7:=hf7.heap HE6.out (fun e=>by have:=HNb.out;have:=HB5.out;have:=F5.out.size;omega);have n1':w7.cell? ⟨w5.heap.size,0,none⟩=some (.slice a1 n1 c1):=by rw[cell_of_row w7 _ 0 _ _ _ e7];rfl
   have n2':w7.cell? ⟨w5.heap.size,1,none⟩=some (.slice a2 n2 c2):=by rw[cell_of_row w7 _ 1 _ _ _ e7];rfl
   obtain⟨u1,hu1,_⟩:=hB7.cell (i:=x*2) (by omega);obtain⟨u2,hu2,_⟩:=hB7.cell (i:=x*2+1) (by omega);have z7:=hB7.free (x*2);have z8:=hB7.free (x*2+1);have B8:=(hB7.set (x*2) (HI6.out w7 hf7 _ HI.out.1)).set (x*2+1) (u:=.slice a2 n2 c2) ((HI6.out w7 hf7 _ HI.out.2.1).fr (Fr.set w7 _ _) (fun q hq e=>HNO.out q hq e));have g8:Fr (fun q=>q=nb) w7 ((w7.setCell ⟨nb,x*2,none⟩ (.slice a1 n1 c1)).setCell ⟨nb,x*2+1,none⟩ (.slice a2 n2 c2)):=Fr.setCell (Fr.setCell (Fr.refl (fun q=>q=nb) w7) ⟨nb,x*2,none⟩ _ (fun _=>rfl)) ⟨nb,x*2+1,none⟩ _ (fun _=>rfl);have f38:=f37.trans g8 (fun q _ e=>.inr e);obtain⟨s1,s2,s3,_⟩:=HK.out _ f38;have C8:CurS ((w7.setCell ⟨nb,x*2,none⟩ (.slice a1 n1 c1)).setCell ⟨nb,x*2+1,none⟩ (.slice a2 n2 c2)) cb (n+12*k+4+2+2):=((HC5.out.fr0 F6.out).fr hf7 (fun q hq e=>by have:=HNb.out;have:=HCl.out;omega)).fr g8 (fun q hq e=>by have:=HNb.out;have:=HCl.out;omega);have HEnd:=Hh (HRet.out _ _ _ nb N c _ Z HNc.out.1 HNc.out.2 B8 (fun q hq=>(HZ.out q hq).1) HNb.out.1 C8 (by omega) (f38.mono (fun q _ e=>e.elim .inl (fun e=>.inr (.inr (by have:=HNb.out;omega))))) (by omega));clear hB7 hf7 f37 e7 B8 g8 f38 C8;go_wp2;refine bodyPost_ret (v:=.agg #[.slice (some ⟨nb,0,none⟩) N c]) (by simp[results,Tryz.results67,go_sem,s2]) rfl ?_
   exact HEnd.out
 go_wp2;refine bodyPost_ret (v:=.agg #[.slice (some ⟨nb,0,none⟩) N c]) (by simp[results,Tryz.results67,go_sem,k4]) rfl ?_
 exact HRet.out w5 _ _ nb N c cur Z HNc.out.1 HNc.out.2 (HNB.out w5 F5.out) (fun q hq=>(HZ.out q hq).1) HNb.out.1 HC5.out (by omega) (F5.out.mono (fun _ _ q=>.inl q)) (by omega)
def zbt (k:Nat):List PL:=(List.range k).map fun j=>(List.range j,List.range j)
theorem zbk (k:Nat):(zbt k).length=k:=by unfold zbt;rw[List.length_map,List.length_range]
theorem zib {k j:Nat}(h:j<k):(zbt k)[j]?=some (List.range j,List.range j):=by unfold zbt;rw[List.getElem?_map,List.getElem?_range h];rfl
structure StarS (B fb k:Nat) (W:World) (fv lv:Value) (NV:List (Value × Value)):Prop where
 box:W.heap[fb]?=some (.cells #[fv] 26 (0,0))
 rowN:W.ownsRow B 110 2 fv k (zay NV)
 len:NV.length=k
 rowL:W.ownsRow B 3 1 lv k ((List.range k).map encN)
 fine:∀(j:Nat) (x:Value × Value),NV[j]?=some x→(Nats W x.1 (List.range j)/\Nats W x.2 (List.range j))/\(∀q,x.1.ownBlock=some q∨x.2.ownBlock=some q→B≤q/\q<W.heap.size/\fv.ownBlock≠some q/\lv.ownBlock≠some q/\q≠fb)
 f1:∀q,fv.ownBlock=some q→lv.ownBlock≠some q/\q≠fb
 f2:∀q,lv.ownBlock=some q→q≠fb
 low:B≤fb
section
variable {B fb k:Nat}{W W':World}{fv lv:Value}{NV:List (Value × Value)}{M:Nat→Prop}
theorem StarS.nodeL {D:Nat}(h:StarS B fb k W fv lv NV)(hD:D≤B):NodeL (fun b=>D≤b) encN W fv (zbt k):=by
 obtain⟨a,c,e,h1,h2,hc⟩:=Pairs.of_owns h.rowN;refine⟨a,c,by rw[zbk,←h.len];exact e,by rw[zbk,←h.len];exact h1,h2,fun j y hy=>?_⟩;have hj:j<k:=by have:=(List.getElem?_eq_some_iff.1 hy).1;rw[zbk]at this;exact this
 rw[zib hj]at hy;cases hy
 have hx:=List.getElem?_eq_getElem (l:=NV) (i:=j) (by rw[h.len];exact hj)
 obtain⟨b,off,ha,c1,c2⟩:=hc j _ hx;obtain⟨⟨n1,n2⟩,n3⟩:=h.fine j _ hx;have hb:=(h.rowN.lt b (by rw[e,ha];rfl)).1;exact⟨b,off,_,_,ha,by omega,c1,c2,n1,n2,fun _ q hq=>by have:=(n3 q (.inl hq)).1;omega,fun _ q hq=>by have:=(n3 q (.inr hq)).1;omega⟩
theorem StarS.start (w:World):StarS (w.heap.size+1) (w.heap.size+2) 0 ((((w.alloc (.cells #[.slice none 0 0] 26)).alloc (.cells #[] 110)).alloc (.cells #[.slice (some ⟨w.heap.size+1,0,none⟩) 0 0] 26)).alloc (.cells #[] 3)) (.slice (some ⟨w.heap.size+1,0,none⟩) 0 0) (.slice (some ⟨w.heap.size+3,0,none⟩) 0 0) []:=by
 obtain⟨w1,hw1⟩:∃w1,w1=w.alloc (.cells #[.slice none 0 0] 26):=⟨_,rfl⟩;have hs1:w1.heap.size=w.heap.size+1:=by rw[hw1];simp
 obtain⟨w2,hw2⟩:∃w2,w2=w1.alloc (.cells #[] 110):=⟨_,rfl⟩;have hs2:w2.heap.size=w.heap.size+2:=by rw[hw2,World.size_alloc,hs1]
 obtain⟨w3,hw3⟩:∃w3,w3=w2.alloc (.cells #[.slice (some ⟨w.heap.size+1,0,none⟩) 0 0] 26):=⟨_,rfl⟩;have hs3:w3.heap.size=w.heap.size+3:=by rw[hw3,World.size_alloc,hs2]
 rw[←hw1,←hw2,←hw3];have mN:w2.ownsRow (w.heap.size+1) 110 2 (.slice (some ⟨w.heap.size+1,0,none⟩) 0 0) 0 (zay []):=by
  have h:=World.ownsRow_made (base:=w1.heap.size) (e:=110) (size:=2) w1 #[] 0 (Nat.le_refl _) (by decide) (by simp);rw[←hw2,hs1]at h;exact h
 have mL:(w3.alloc (.cells #[] 3)).ownsRow (w.heap.size+1) 3 1 (.slice (some ⟨w.heap.size+3,0,none⟩) 0 0) 0 []:=by
  have h:=World.ownsRow_made (base:=w3.heap.size) (e:=3) (size:=1) w3 #[] 0 (Nat.le_refl _) (by decide) (by simp);rw[hs3]at h;exact zar h (by omega)
 have f23:Fr NoM w2 w3:=by rw[hw3];exact(Fr.refl NoM w2).alloc _
 have eb:w3.heap[w.heap.size+2]?=some (.cells #[.slice (some ⟨w.heap.size+1,0,none⟩) 0 0] 26 (0,0)):=by
  have h:=heap_alloc_new w2 (.cells #[.slice (some ⟨w.heap.size+1,0,none⟩) 0 0] 26);rw[hs2,←hw3]at h;exact h
 refine⟨((Fr.refl NoM w3).alloc _).heap eb (fun q=>q),za2 (za2 mN f23 (fun _ _ q=>q)) ((Fr.refl NoM w3).alloc _) (fun _ _ q=>q),rfl,mL,fun j x hx=>by simp at hx,fun q hq=>?_,fun q hq=>?_,Nat.le_succ _⟩
 ·have e:w.heap.size+1=q:=Option.some.inj hq
  refine⟨fun e2=>?_,by omega⟩;have e2:w.heap.size+3=q:=Option.some.inj e2;omega
 ·have e:w.heap.size+3=q:=Option.some.inj hq
  omega
theorem StarS.next {Wa Wb Wc Wd We:World}{x1 x2 fv' lv':Value}(h:StarS B fb k W fv lv NV)(ha:Fr NoM W Wa)(n1:Nats Wa x1 (List.range k))(n2:Nats Wa x2 (List.range k))(b1:∀q,x1.ownBlock=some q∨x2.ownBlock=some q→W.heap.size≤q/\q<Wa.heap.size)
  (o1:Wb.ownsRow B 110 2 fv' (k+1) (zay NV ++ [x1,x2])) (g1:Fr (Own1 fv) Wa Wb) (s1:fv'.ownBlock=fv.ownBlock∨∃b,fv'.ownBlock=some b/\Wa.heap.size≤b)
  (hc:Wc=Wb.setCell ⟨fb,0,none⟩ fv') (hd:Fr NoM Wc Wd) (o2:We.ownsRow B 3 1 lv' (k+1) ((List.range k).map encN ++ [encN k])) (g2:Fr (Own1 lv) Wd We) (s2:lv'.ownBlock=lv.ownBlock∨∃b,lv'.ownBlock=some b/\Wd.heap.size≤b) :
  StarS B fb (k+1) We fv' lv' (NV ++ [(x1,x2)]):=by
 have nfb:¬Own1 fv fb:=fun e=>(h.f1 fb e).2 rfl
 have nlb:¬Own1 lv fb:=fun e=>h.f2 fb e rfl
 have hbb:Wb.heap[fb]?=some (.cells #[fv] 26 (0,0)):=g1.heap (ha.heap h.box (fun q=>q)) nfb;have hlt:fb<W.heap.size:=(Array.getElem?_eq_some_iff.1 h.box).1;have fc:Fr (fun q=>q=fb) Wb Wc:=by rw[hc];exact Fr.setCell (M:=fun q=>q=fb) (Fr.refl _ Wb) _ _ (fun _=>rfl)
 have hcb:Wc.heap[fb]?=some (.cells #[fv'] 26 (0,0)):=by rw[hc,heap_set hbb];rfl
 have z1:=ha.size;have z2:=g1.size;have z3:=fc.size;have z4:=hd.size;have z5:=g2.size;have fv1:∀q,fv'.ownBlock=some q→lv.ownBlock≠some q/\q≠fb:=fun q hq=>by
  rcases s1 with s|⟨b,s,hb⟩
  ·exact h.f1 q (by rw[←s];exact hq)
  ·rw[hq]at s;cases s
   exact⟨fun e=>by have:=(h.rowL.lt q e).2;omega,by omega⟩
 have keep:∀ {v:Value}{L:List Nat},Nats Wa v L→(∀q,v.ownBlock=some q→fv.ownBlock≠some q/\lv.ownBlock≠some q/\q≠fb)→Nats We v L:=fun hn hq =>
  (((hn.fr g1 (fun _ q e e2=>(hq q e).1 e2)).fr fc (fun _ q e=>(hq q e).2.2)).fr0 hd).fr g2 (fun _ q e e2=>(hq q e).2.1 e2)
 have new:∀q,x1.ownBlock=some q∨x2.ownBlock=some q→fv.ownBlock≠some q/\lv.ownBlock≠some q/\q≠fb:=fun q hq=>by
  have hb:=b1 q hq;exact⟨fun e=>by have:=(h.rowN.lt q e).2;omega,fun e=>by have:=(h.rowL.lt q e).2;omega,by omega⟩
 have out:∀q,q<Wa.heap.size→(fv.ownBlock≠some q/\lv.ownBlock≠some q)→fv'.ownBlock≠some q/\lv'.ownBlock≠some q:=fun q hq hn=>by
  constructor
  ·intro e
   rcases s1 with s|⟨b,s,hb⟩
   ·exact hn.1 (by rw[←s];exact e)
   ·rw[e]at s;cases s;omega
  ·intro e
   rcases s2 with s|⟨b,s,hb⟩
   ·exact hn.2 (by rw[←s];exact e)
   ·rw[e]at s;cases s;omega
 refine⟨g2.heap (hd.heap hcb (fun q=>q)) nlb,?_,by rw[List.length_append,h.len];rfl,?_,fun j x hx=>?_,fun q hq=>⟨fun e=>?_,(fv1 q hq).2⟩,fun q hq=>?_,h.low⟩
 ·have e:zay (NV ++ [(x1,x2)])=zay NV ++ [x1,x2]:=by simp[zay]
  rw[e];exact za2 (za2 (za2 o1 fc (fun q hq=>(fv1 q hq).2)) hd (fun _ _ q=>q)) g2 (fun q hq e=>(fv1 q hq).1 e)
 ·rw[List.range_succ,List.map_append]
  exact o2
 ·by_cases hj:j<k
  ·rw[List.getElem?_append_left (by rw[h.len];exact hj)]at hx
   obtain⟨⟨m1,m2⟩,m3⟩:=h.fine j x hx;refine⟨⟨keep (m1.fr0 ha) (fun q e=>(m3 q (.inl e)).2.2),keep (m2.fr0 ha) (fun q e=>(m3 q (.inr e)).2.2)⟩,fun q hq=>?_⟩;obtain⟨c1,c2,c3,c4,c5⟩:=m3 q hq;obtain⟨d1,d2⟩:=out q (by omega) ⟨c3,c4⟩;exact⟨c1,by omega,d1,d2,c5⟩
  ·have hjk:j=k:=by
    have:=(List.getElem?_eq_some_iff.1 hx).1;rw[List.length_append,h.len]at this
    simp at this
    omega
   subst hjk;rw[List.getElem?_append_right (by rw[h.len];exact Nat.le_refl _),h.len,Nat.sub_self]at hx;cases hx
   refine⟨⟨keep n1 (fun q e=>new q (.inl e)),keep n2 (fun q e=>new q (.inr e))⟩,fun q hq=>?_⟩;obtain⟨c1,c2,c3⟩:=new q hq;have hb:=b1 q hq;obtain⟨d1,d2⟩:=out q hb.2 ⟨c1,c2⟩;have:=h.low;exact⟨by omega,by omega,d1,d2,c3⟩
 ·rcases s2 with s|⟨b,s,hb⟩
  ·exact(fv1 q hq).1 (by rw[←s];exact e)
  ·rw[e]at s;cases s
   have:=(o1.lt q hq).2;omega
 ·rcases s2 with s|⟨b,s,hb⟩
  ·exact h.f2 q (by rw[←s];exact hq)
  ·rw[hq]at s;cases s;omega
end
theorem zr6 {L:List Nat}:(ints L).map encI=L.map encN:=by unfold ints;rw[List.map_map];rfl
set_option maxRecDepth 8000 in
set_option maxHeartbeats 8000000 in
theorem zh2 (n:Nat)(hn:n≤1000)(w:World):Calls Tryz.prog 109 #[.int .i64 (n:Int)] w fun e w'=>∃v',e=.returned (.agg #[v'])/\NodeL (fun b=>w.heap.size≤b) encN w' v' (zbt (n+1))/\Fr NoM w w':=by
 obtain⟨w1,hw1⟩:∃w1,w1=w.alloc (.cells #[.slice none 0 0] 26):=⟨_,rfl⟩;have f1:Fr NoM w w1:=by rw[hw1];exact(Fr.refl NoM w).alloc _
 have e1:w1.heap[w.heap.size]?=some (.cells #[.slice none 0 0] 26 (0,0)):=by rw[hw1];exact heap_alloc_new w _
 have HRs:=Hh (fun(W:World) (f:Fr NoM w1 W)=>show W.cell? ⟨w.heap.size,0,none⟩=some (.slice none 0 0)/\W.frozen? ⟨w.heap.size,0,none⟩=false from by
  have h1:=f.heap e1 (fun q=>q);exact⟨by rw[cell_of_row W _ 0 _ _ _ h1];rfl,by simp[World.frozen?,h1]⟩)
 have hst:=StarS.start w;rw[←hw1]at hst;obtain⟨w4,hw4⟩:∃w4,w4=((w1.alloc (.cells #[] 110)).alloc (.cells #[.slice (some ⟨w.heap.size+1,0,none⟩) 0 0] 26)).alloc (.cells #[] 3):=⟨_,rfl⟩;rw[←hw4]at hst;have f4:Fr NoM w1 w4:=by rw[hw4];exact(((Fr.refl NoM w1).alloc _).alloc _).alloc _
 have hs1:w1.heap.size=w.heap.size+1:=by rw[hw1];simp
 have HSt:=Hh hst;have F4:=Hh f4;have F1:=Hh f1;have HS1:=Hh hs1;obtain⟨fb,hfb⟩:∃fb,fb=w.heap.size+2:=⟨_,rfl⟩;rw[←hfb]at HSt;have Hfb:=Hh hfb;clear f1 e1 hst f4;go_enter Tryz.func109,Tryz.ntmps109;go_upto_region 3 with fail;rw[←hw1,show w.heap.size+1+1+1=w.heap.size+3 from rfl,show w.heap.size+1+1=fb from hfb.symm,←hw4];clear hw1 hw4 hfb;go_wp2_with fail;go_loopw [4,5] (fun v4 v5 W=>∃(k:Nat) (fv lv:Value) (NV:List (Value × Value)),lv=v4/\v5=.int .i64 (k:Int)/\k≤n+1/\StarS (w.heap.size+1) fb k W fv lv NV/\Fr NoM w1 W) (fun _ v5 _=>n+1-(intOf v5).toNat)
 case atStart=>exact⟨0,_,_,_,rfl,rfl,Nat.zero_le _,HSt.out,F4.out⟩
 case round =>
  obtain⟨k,fv,lv,NV,rfl,rfl,hk,hs,hf⟩:=hrel;obtain⟨w7,rfl⟩:∃w7,w7=wr:=⟨_,rfl⟩;obtain⟨fa,fc,hfv,_,_,_⟩:=Pairs.of_owns hs.rowN;rw[hs.len]at hfv;subst hfv;have hnl:Nats w7 lv (List.range k):=SliceOf.of_owns hs.rowL rfl;obtain⟨la,lc,hlv,_,_,_⟩:=id hnl;rw[List.length_range]at hlv;subst hlv;have c0:w7.cell? ⟨fb,0,none⟩=some (.slice fa k fc):=by rw[cell_of_row w7 _ 0 _ _ _ hs.box];rfl
  by_cases hlt:k≤n
  ·have HC:=Hh (fun(W:World) (f:Fr NoM w7 W)=>f.cell c0 (fun q=>q))
   have HOwn:=Hh (fun(W:World) (f:Fr NoM w7 W)=>zpq (.slice la k lc) (ints (List.range k)) W (SliceOf.conv (enc':=encI) (f:=fun x:Nat=>(x:Int)) (hnl.fr0 f) (fun _=>rfl)) (by unfold ints;rw[List.length_map,List.length_range];omega));have HS:=Hh hs;have HF:=Hh hf;have HKl:=Hh (show ∃d,n=k+d from⟨n-k,by omega⟩);have G0:Fr NoM w7 w7.drew:=(Fr.refl NoM w7).drew;have aL:(k:Int)≤(n:Int):=by omega
   have HBn:=Hh (show(k+1)*48≤140737488355328 by omega);have HBl:=Hh (show(k+1)*8≤140737488355328 by omega);have HSz:=Hh (show w.heap.size+1≤w7.heap.size by have h1:=hf.size;have h2:=HS1.out;omega);have hk9:k≤1000:=by omega
   clear hs hf hnl hlt hk;go_upto_region 6 with fail;go_region_law (first
    | (refine zmt rfl (.tmp 15) (.tmp 21) 24 rfl (w.heap.size+1) 110 _ 2 48 Tryz.underlying24 zbv rfl (by decide) (.slice fa k fc) k (zay NV) rfl (by exact za2 HS.out.rowN (gb.alloc _) (fun _ _ q=>q)) wb.heap.size rfl [.slice a1 k c1,.slice a2 k c2] 110 (by exact heap_alloc_new wb _) rfl (by intro u hu;simp at hu;rcases hu with rfl|rfl <;> rfl) (by exact HBn.out) (by decide) (by have h1:=gb.size;have h2:=HSz.out;rw[World.size_alloc];omega) ?_;intro v9 w9 h9 f9 s9;have hbx:=f9.heap ((gb.alloc _).heap HS.out.box (fun q=>q)) (fun e=>(HS.out.f1 fb e).2 rfl);have zf:w9.frozen? ⟨fb,0,none⟩=false:=(by simp[World.frozen?,hbx]);have zc:w9.cell? ⟨fb,0,none⟩=some (.slice fa k fc):=(by rw[cell_of_row w9 _ 0 _ _ _ hbx];rfl);obtain⟨g9,k9,hv9,_,_⟩:=zbi h9 (Nat.succ_pos _);subst hv9)
    | (go_simp;first
     | (go_at_call 127;(with_reducible refine(HOwn.out _ ga).mono ?_);rintro e wb ⟨vb,rfl,ob,fb1⟩;have gb:Fr NoM w7 wb:=Fr.trans ga fb1 (fun _ _ q=>q);have n2:Nats wb vb (List.range k):=SliceOf.of_owns (by rw[zr6]at ob;exact ob) rfl;have b2:∀q,vb.ownBlock=some q→wa.heap.size≤q/\q<wb.heap.size:=ob.lt;obtain⟨a2,c2,hv2,_⟩:=id n2;rw[List.length_range]at hv2;subst hv2;have cb:=HC.out wb gb;have cbo:=fun o=>HC.out (wb.alloc o) (gb.alloc o);have n1:=n1.fr0 fb1)
     | (go_at_call 127;(with_reducible refine(HOwn.out _ G0).mono ?_);rintro e wa ⟨va,rfl,oa,fa1⟩;have ga:Fr NoM w7 wa:=Fr.trans G0 fa1 (fun _ _ q=>q);have n1:Nats wa va (List.range k):=SliceOf.of_owns (by rw[zr6]at oa;exact oa) rfl;have b1:∀q,va.ownBlock=some q→w7.heap.size≤q/\q<wa.heap.size:=oa.lt;obtain⟨a1,c1,hv1,_⟩:=id n1;rw[List.length_range]at hv1;subst hv1;have ca:=HC.out wa ga)
     | fail)
    | fail)
   all_goals
    have HN1:=Hh (SliceOf.fr0 n1 ((Fr.refl NoM wb).alloc (.cells #[.slice a1 k c1,.slice a2 k c2] 110)));have HN2:=Hh (SliceOf.fr0 n2 ((Fr.refl NoM wb).alloc (.cells #[.slice a1 k c1,.slice a2 k c2] 110)));have HB12:=Hh (show ∀q,(Value.slice a1 k c1).ownBlock=some q∨(Value.slice a2 k c2).ownBlock=some q→w7.heap.size≤q/\q<(wb.alloc (.cells #[.slice a1 k c1,.slice a2 k c2] 110)).heap.size from fun q hq=>by
     have z1:=ga.size;have z2:=gb.size;have z3:=fb1.size;rw[World.size_alloc];rcases hq with hq|hq
     ·have:=b1 q hq;omega
     ·have:=b2 q hq;omega)
    have H9:=Hh h9;have F9:=Hh f9;have S9:=Hh s9;have GB:=Hh (show Fr NoM w7 (wb.alloc (.cells #[.slice a1 k c1,.slice a2 k c2] 110))from gb.alloc _);obtain⟨Wc,hWc⟩:∃Wc,Wc=w9.setCell ⟨fb,0,none⟩ (.slice (some ⟨g9,0,none⟩) (k+1) k9):=⟨_,rfl⟩;have hfc:Fr (fun q=>q=fb) w9 Wc:=by rw[hWc];exact Fr.setCell (M:=fun q=>q=fb) (Fr.refl _ w9) _ _ (fun _=>rfl)
    have HRl:=Hh (show Wc.ownsRow (w.heap.size+1) 3 1 (.slice la k lc) k ((List.range k).map encN)from za2 (za2 (za2 HS.out.rowL GB.out (fun _ _ q=>q)) f9 (fun q hq e=>(HS.out.f1 q e).1 hq)) hfc (fun q hq e=>HS.out.f2 q hq e));have HWc:=Hh hWc;have HSc:=Hh (show w.heap.size+1≤Wc.heap.size by have h1:=GB.out.size;have h2:=f9.size;have h3:=hfc.size;have h4:=HSz.out;omega);rw[←hWc];clear hWc hfc n1 n2 b1 b2 h9 f9 s9 ga gb fb1 ca cb cbo zf zc hbx oa ob fa1 c0 G0;go_wp2_with (at_builtin;refine zdf rfl _ _ 63 rfl (w.heap.size+1) 3 _ 1 8 Tryz.underlying63 za8 rfl (by decide) (.slice la k lc) k ((List.range k).map encN) rfl (by exact za2 HRl.out ((Fr.refl NoM Wc).alloc _) (fun _ _ q=>q)) Wc.heap.size rfl [.int .i64 (k:Int)] 3 (heap_alloc_new Wc _) rfl (by intro u hu;simp at hu;subst hu;rfl) HBl.out (by decide) (by have:=HSc.out;simp;omega) ?_);intro lv' w10 h10 f10 s10;have HNx:=Hh (HS.out.next GB.out HN1.out HN2.out HB12.out H9.out F9.out S9.out HWc.out ((Fr.refl NoM Wc).alloc (.cells #[.int .i64 (k:Int)] 3)) h10 f10 (by rw[World.size_alloc];exact s10));have HF10:=Hh (show Fr NoM w1 w10 from by
     have k1:=HF.out.trans GB.out (fun _ _ q=>q);have k2:=k1.trans F9.out (fun q hq e=>by have h1:=(HS.out.rowN.lt q e).1;have h2:=HS1.out;omega);have k3:=k2.trans (show Fr (fun q=>q=fb) w9 Wc by rw[HWc.out];exact Fr.setCell (M:=fun q=>q=fb) (Fr.refl _ w9) _ _ (fun _=>rfl)) (fun q hq e=>by have h1:=Hfb.out;have h2:=HS1.out;omega);exact(k3.trans ((Fr.refl NoM Wc).alloc (.cells #[.int .i64 (k:Int)] 3)) (fun _ _ q=>q)).trans f10 (fun q hq e=>by have h1:=(HRl.out.lt q e).1;have h2:=HS1.out;omega))
    clear h10 f10 s10;go_wp2;go_roundw
    case rel =>
     obtain⟨d,hd⟩:=HKl.out;exact⟨k+1,_,lv',_,rfl,by go_num,by omega,HNx.out,HF10.out⟩
    case measure=>obtain⟨d,hd⟩:=HKl.out;simp[intOf];omega
  ·have hkn:k=n+1:=by omega
   subst hkn;obtain⟨r0,r1⟩:=HRs.out w7 hf;have hnl:=hs.nodeL (D:=w.heap.size) (by omega);have fset:Fr (fun q=>q=w.heap.size) w7 (w7.setCell ⟨w.heap.size,0,none⟩ (.slice fa (n+1) fc)):=Fr.setCell (M:=fun q=>q=w.heap.size) (Fr.refl _ w7) _ _ (fun _=>rfl);have HNl:=Hh (show NodeL (fun b=>w.heap.size≤b) encN (w7.setCell ⟨w.heap.size,0,none⟩ (.slice fa (n+1) fc)) (.slice fa (n+1) fc) (zbt (n+1))from((hs.nodeL (D:=w.heap.size+1) (Nat.le_refl _)).fr fset (fun q hq e=>by have e:q=w.heap.size:=e;have hq:w.heap.size+1≤q:=hq;omega)).mono (fun q hq=>by have hq:w.heap.size+1≤q:=hq;show w.heap.size≤q;omega));have HM:=Hh (show Fr NoM w (w7.setCell ⟨w.heap.size,0,none⟩ (.slice fa (n+1) fc))from(F1.out.trans hf (fun _ _ q=>q)).setCell _ _ (fun h=>by have h:w.heap.size<w.heap.size:=h;omega));have aL:¬(((n+1:Nat):Int)≤(n:Int)):=by omega
   have aL2:¬(((n:Int)+1)≤(n:Int)):=by omega
   clear hs hf hnl fset hlt hk;go_wp2_with fail;refine bodyPost_ret (v:=.agg #[.slice fa (n+1) fc]) (by simp[results,Tryz.results109,go_sem,r0,r1]) rfl ?_
   exact⟨_,rfl,HNl.out,HM.out⟩
end Go.Proofs.YtcalpapdkmnblaaGreatDoor
