import Derived.OpenShut
import Derived.WalkSmall
import Derived.IntWalk
import Derived.Test.YtkofnbjjbcohgaaGreatDoorZw4
/- Lemmas. -/
namespace Go.Proofs.YtkofnbjjbcohgaaGreatDoor
set_option linter.unusedVariables false
set_option linter.unusedSimpArgs false
open Go.RowKit
def encC (n:Int):Value:=.int .u8 n
theorem zxz (a:Option Addr)(n c k b off:Nat)(hk:k<n)(ha:a=some ⟨b,off,none⟩)(w:World) :
  (Instr.indexAt 22 (.slice a n c) (.int .i64 (k:Int))).run Tryz.prog w=.ok (.pointer (some ⟨b,off+k,none⟩)) w:=by
 subst ha;go_simp
def CurS (w:World)(cb n:Nat):Prop:=∃(cv:Value) (L:List Int) (a:Nat) (sd:Int),w.heap[cb]?=some (.cells #[cv,.int .i64 (a:Int),.int .u64 sd] 39 (0,0))/\SliceOf encC w cv L/\(∀x∈L,0≤x/\x≤255)/\a≤n/\(L≠[]→∀q,cv.ownBlock=some q→q<cb)
theorem CurS.lt {w:World}{cb n:Nat}(h:CurS w cb n):cb<w.heap.size:=by
 obtain⟨cv,L,a,sd,h1,_⟩:=h;exact(Array.getElem?_eq_some_iff.1 h1).1
theorem CurS.fr {M:Nat→Prop}{w w':World}{cb n:Nat}(h:CurS w cb n)(hf:Fr M w w')(hM:∀q,q≤cb→¬M q):CurS w' cb n:=by
 obtain⟨cv,L,a,sd,h1,h2,h3,h4,h5⟩:=h;exact⟨cv,L,a,sd,hf.heap h1 (hM cb (Nat.le_refl _)),h2.fr hf (fun hne q hq=>hM q (Nat.le_of_lt (h5 hne q hq))),h3,h4,h5⟩
theorem CurS.fr0 {w w':World}{cb n:Nat}(h:CurS w cb n)(hf:Fr NoM w w'):CurS w' cb n:=h.fr hf (fun _ _ q=>q)
theorem CurS.mono {w:World}{cb n m:Nat}(h:CurS w cb n)(hm:n≤m):CurS w cb m:=by
 obtain⟨cv,L,a,sd,h1,h2,h3,h4,h5⟩:=h;exact⟨cv,L,a,sd,h1,h2,h3,Nat.le_trans h4 hm,h5⟩
theorem zz4 (E:Int)(h:(Lit.int .u64 E).wf=true):0≤bits BinOp.and IntKind.u64 E 255/\bits BinOp.and IntKind.u64 E 255≤255:=by
 obtain⟨h0,h1⟩:=bounds_u64 h;have h2:=bits_and_u64_nat E.toNat 255 (by omega) (by omega);rw[Int.toNat_of_nonneg h0]at h2;have h3:bits BinOp.and IntKind.u64 E 255=((E.toNat &&& 255:Nat):Int):=h2;have h4:E.toNat &&& 255≤255:=Nat.and_le_right;rw[h3];omega
theorem zs2 (X:Int):0≤wrap64 (bits BinOp.and IntKind.u64 (IntKind.u64.wrap X/1099511627776) 255)/\wrap64 (bits BinOp.and IntKind.u64 (IntKind.u64.wrap X/1099511627776) 255)≤255:=by
 obtain⟨h0,h1⟩:=bounds_u64 (wf_wrap .u64 X);have hw:(Lit.int .u64 (IntKind.u64.wrap X/1099511627776)).wf=true:=by
  simp[Lit.wf,IntKind.min,IntKind.max,IntKind.signed,IntKind.bits];omega
 obtain⟨h2,h3⟩:=zz4 _ hw;obtain⟨B,hB⟩:∃B,B=bits BinOp.and IntKind.u64 (IntKind.u64.wrap X/1099511627776) 255:=⟨_,rfl⟩;rw[←hB]at h2 h3 ⊢;unfold wrap64;omega
def zx5 (cb n:Nat)(w:World)(e:Ending)(w':World):Prop:=∃b:Int,e=.returned (.int .i64 b)/\0≤b/\b≤255/\CurS w' cb (n+1)/\Fr (fun q=>q=cb) w w'
theorem zyc {w:World}{cb:Nat}{c0 c1 c2 u1 u2:Value}{e:TypeId}(h:w.heap[cb]?=some (.cells #[c0,c1,c2] e (0,0))):((w.setCell ⟨cb,1,none⟩ u1).setCell ⟨cb,2,none⟩ u2).heap[cb]?=some (.cells #[c0,u1,u2] e (0,0))/\Fr (fun q=>q=cb) w ((w.setCell ⟨cb,1,none⟩ u1).setCell ⟨cb,2,none⟩ u2):=by
 constructor
 ·have h1:(w.setCell ⟨cb,1,none⟩ u1).heap[cb]?=some (.cells #[c0,u1,c2] e (0,0)):=by rw[heap_set h];rfl
  rw[heap_set h1];rfl
 ·exact Fr.setCell (Fr.setCell (Fr.refl (fun q=>q=cb) w) ⟨cb,1,none⟩ u1 (fun _=>rfl)) ⟨cb,2,none⟩ u2 (fun _=>rfl)
set_option maxRecDepth 4000 in
set_option maxHeartbeats 4000000 in
theorem zou (cb n:Nat)(w:World)(h:CurS w cb n)(hn:n<1000000000000):Calls Tryz.prog 53 #[.pointer (some ⟨cb,0,none⟩)] w fun e w'=>zx5 cb n w e w':=by
 obtain⟨cv,L,a,sd,hb,hc,hr,ha,hne⟩:=h;obtain⟨ca,cc,rfl,hl1,hl2,hcell⟩:=id hc;have c0:w.cell? ⟨cb,0,none⟩=some (.slice ca L.length cc):=by rw[cell_of_row _ _ 0 _ _ _ hb];rfl
 have c1:w.cell? ⟨cb,1,none⟩=some (.int .i64 (a:Int)):=by rw[cell_of_row _ _ 1 _ _ _ hb];rfl
 have c2:w.cell? ⟨cb,2,none⟩=some (.int .u64 sd):=by rw[cell_of_row _ _ 2 _ _ _ hb];rfl
 have z1:w.frozen? ⟨cb,1,none⟩=false:=by simp[World.frozen?,hb]
 have z2:w.frozen? ⟨cb,2,none⟩=false:=by simp[World.frozen?,hb]
 have hfin:=fun(k q:Nat) (u:Int)=>(show CurS ((((w.drewN k).setCell ⟨cb,1,none⟩ (.int .i64 ((a:Int)+1))).setCell ⟨cb,2,none⟩ (.int .u64 u)).drewN q) cb (n+1)/\Fr (fun q=>q=cb) w ((((w.drewN k).setCell ⟨cb,1,none⟩ (.int .i64 ((a:Int)+1))).setCell ⟨cb,2,none⟩ (.int .u64 u)).drewN q)from by
  have h0:Fr NoM w (w.drewN k):=⟨rfl,rfl,rfl,Nat.le_refl _,fun _ _ _=>rfl⟩;obtain⟨h1,h2⟩:=zyc (u1:=.int .i64 ((a:Int)+1)) (u2:=.int .u64 u) (h0.heap hb (fun q=>q));have h3:Fr NoM (((w.drewN k).setCell ⟨cb,1,none⟩ (.int .i64 ((a:Int)+1))).setCell ⟨cb,2,none⟩ (.int .u64 u)) ((((w.drewN k).setCell ⟨cb,1,none⟩ (.int .i64 ((a:Int)+1))).setCell ⟨cb,2,none⟩ (.int .u64 u)).drewN q):=⟨rfl,rfl,rfl,Nat.le_refl _,fun _ _ _=>rfl⟩;have h4:Fr (fun q=>q=cb) w ((((w.drewN k).setCell ⟨cb,1,none⟩ (.int .i64 ((a:Int)+1))).setCell ⟨cb,2,none⟩ (.int .u64 u)).drewN q):=Fr.trans (Fr.trans h0.any h2 (fun _ _ q=>q)) h3.any (fun _ _ q=>q);exact⟨⟨_,L,a+1,u,h3.heap h1 (fun q=>q),hc.fr h4 (fun e q hq=>Nat.ne_of_lt (hne e q hq)),hr,by omega,hne⟩,h4⟩)
 have HFin:=Hh hfin;have ha2:a<1000000000000:=by omega
 by_cases hlt:a<L.length
 ·obtain⟨x,hx⟩:∃x,L[a]?=some x:=⟨_,List.getElem?_eq_getElem hlt⟩
  obtain⟨b,off,hca,hcx⟩:=hcell a x hx;obtain⟨x0,x1⟩:=hr x (List.mem_of_getElem? hx);have ix:=zxz ca L.length cc a b off hlt hca;unfold encC at hcx;have aL:(a:Int)<(L.length:Int):=by omega
  clear hb hc hr hne hcell hfin hx hca ha hn hl1 hl2;go_enter Tryz.func53,Tryz.ntmps53;go_wp2;go_quiet (fail);go_wp2;go_quiet (fail);go_wp2;go_quiet (fail);go_wp2;go_ret;exact⟨x,rfl,x0,x1,(HFin.out _ _ _).1,(HFin.out _ _ _).2⟩
 ·have aL:¬((a:Int)<(L.length:Int)):=by omega
  clear hb hc hr hne hcell hfin ha hn hl1 hl2;go_enter Tryz.func53,Tryz.ntmps53;go_wp2;go_quiet (fail);go_wp2;go_quiet (fail);go_wp2;go_ret;exact⟨_,rfl,(zs2 _).1,(zs2 _).2,(HFin.out _ _ _).1,(HFin.out _ _ _).2⟩
def zx4 (cb n:Nat)(m:Int)(w:World)(e:Ending)(w':World):Prop:=∃b:Int,e=.returned (.int .i64 b)/\0≤b/\(b<m∨b=0)/\CurS w' cb (n+2)/\Fr (fun q=>q=cb) w w'
set_option maxRecDepth 4000 in
theorem zdx (cb n:Nat)(m:Int)(w:World)(h:CurS w cb n)(hn:n<100000000000)(hm:-1000000≤m/\m<1000000):Calls Tryz.prog 26 #[.pointer (some ⟨cb,0,none⟩),.int .i64 m] w fun e w'=>zx4 cb n m w e w':=by
 have HN:=Hh (zou cb n w h (by omega));have HN2:=Hh (fun(W:World) (g:CurS W cb (n+1))=>zou cb (n+1) W g (by omega));have HC:=Hh (h.mono (show n≤n+2 by omega));clear h hn;obtain⟨m1,m2⟩:=hm;by_cases h1:m≤1
 ·go_enter Tryz.func26,Tryz.ntmps26
  go_wp2_with fail;go_ret;exact⟨0,rfl,by omega,.inr rfl,HC.out,Fr.refl _ _⟩
 ·have h1':1<m:=by omega
  by_cases h2:m>200
  ·go_enter Tryz.func26,Tryz.ntmps26
   go_wp2_with fail;refine HN.out.mono ?_
   rintro e w1 ⟨b,rfl,b0,b1,g1,f1⟩;have HN3:=Hh (HN2.out w1 g1);have F1:=Hh f1;clear g1 f1;go_wp2_with fail;refine HN3.out.mono ?_
   rintro e w2 ⟨c,rfl,c0,c1,g2,f2⟩;have HE:=Hh (And.intro g2 (F1.out.trans f2 (fun _ _ q=>q)));clear g2 f2;go_wp2_with fail;go_ret;exact⟨_,rfl,Int.emod_nonneg _ (by omega),.inl (Int.emod_lt_of_pos _ (by omega)),HE.out.1,HE.out.2⟩
  ·go_enter Tryz.func26,Tryz.ntmps26
   go_wp2_with fail;refine HN.out.mono ?_
   rintro e w1 ⟨b,rfl,b0,b1,g1,f1⟩;have HE:=Hh (And.intro (g1.mono (show n+1≤n+2 by omega)) f1);clear g1 f1;go_wp2_with fail;go_ret;exact⟨_,rfl,Int.emod_nonneg _ (by omega),.inl (Int.emod_lt_of_pos _ (by omega)),HE.out.1,HE.out.2⟩
def zyg (cb n:Nat)(w:World)(e:Ending)(w':World):Prop:=∃b:Bool,e=.returned (.bool b)/\CurS w' cb (n+2)/\Fr (fun q=>q=cb) w w'
theorem zxn (cb n:Nat)(m:Int)(w:World)(h:CurS w cb n)(hn:n<100000000000)(hm:-1000000≤m/\m<1000000):Calls Tryz.prog 28 #[.pointer (some ⟨cb,0,none⟩),.int .i64 m] w fun e w'=>zyg cb n w e w':=by
 have HN:=Hh (zdx cb n m w h hn hm);clear h hn hm;go_enter Tryz.func28,Tryz.ntmps28;go_wp2_with fail;refine HN.out.mono ?_
 rintro e w1 ⟨b,rfl,b0,b1,g1,f1⟩;have HE:=Hh (And.intro g1 f1);clear g1 f1 b0 b1;go_wp2_with fail;go_ret;exact⟨_,rfl,HE.out.1,HE.out.2⟩
def zu3 (cb n:Nat)(L:List Int)(w:World)(e:Ending)(w':World):Prop:=∃b:Int,e=.returned (.int .i64 b)/\b∈L/\CurS w' cb (n+2)/\Fr (fun q=>q=cb) w w'
theorem ztx (cb n:Nat)(v:Value)(L:List Int)(w:World)(h:CurS w cb n)(hL:Ints w v L)(hv:∀q,v.ownBlock=some q→q≠cb)(hp:0<L.length)(hl:L.length<100000)(hn:n<100000000000):Calls Tryz.prog 12 #[.pointer (some ⟨cb,0,none⟩),v] w fun e w'=>zu3 cb n L w e w':=by
 have HN:=Hh (zdx cb n L.length w h hn ⟨by omega,by omega⟩);have HL:=Hh (fun(W:World) (f:Fr (fun q=>q=cb) w W)=>hL.fr f (fun _ q hq=>hv q hq));obtain⟨a,c,rfl,z⟩:=id hL;clear z hL hv h hn;go_enter Tryz.func12,Tryz.ntmps12;go_wp2_with fail;refine HN.out.mono ?_
 rintro e w1 ⟨b,rfl,b0,b1,g1,f1⟩;obtain⟨k,rfl⟩:∃k:Nat,b=(k:Int):=⟨b.toNat,by omega⟩;have hk:k<L.length:=by omega
 obtain⟨x,hx⟩:∃x,L[k]?=some x:=⟨_,List.getElem?_eq_getElem hk⟩;obtain⟨_,_,ee,_,_,hcc⟩:=HL.out w1 f1;obtain⟨rfl,hz,rfl⟩:=Value.slice.inj ee;obtain⟨b2,o2,ha,hc⟩:=hcc k x hx;have ix:=zaa a L.length c k b2 o2 hk ha;unfold encI at hc;have HE:=Hh (And.intro g1 (And.intro f1 (List.mem_of_getElem? hx)));clear g1 f1 b0 b1 hcc hz ee hx ha;go_wp2_with fail;go_ret;exact⟨x,rfl,HE.out.2.2,HE.out.1,HE.out.2.1⟩
structure FRow (B:Nat) (W:World) (v:Value) (VS:List Value) (FSs:List (List PL)) (T:Nat→Prop):Prop where
 row:W.ownsRow B 27 1 v VS.length VS
 len:VS.length=FSs.length
 nodes:∀(j:Nat) (nv:Value) (Fm:List PL),VS[j]?=some nv→FSs[j]?=some Fm→NodeL T encN W nv Fm
 sep:∀q,T q→q<W.heap.size/\v.ownBlock≠some q
theorem FRow.fr {B:Nat}{W W':World}{v:Value}{VS:List Value}{FSs:List (List PL)}{T M:Nat→Prop}(h:FRow B W v VS FSs T)(hf:Fr M W W')(hv:∀q,v.ownBlock=some q→¬M q)(hT:∀q,T q→¬M q):FRow B W' v VS FSs T :=
 ⟨za2 h.row hf hv,h.len,fun j nv Fm h1 h2=>(h.nodes j nv Fm h1 h2).fr hf hT,fun q hq=>⟨Nat.lt_of_lt_of_le (h.sep q hq).1 hf.size,(h.sep q hq).2⟩⟩
theorem FRow.fr0 {B:Nat}{W W':World}{v:Value}{VS:List Value}{FSs:List (List PL)}{T:Nat→Prop}(h:FRow B W v VS FSs T)(hf:Fr NoM W W'):FRow B W' v VS FSs T:=h.fr hf (fun _ _ q=>q) (fun _ _ q=>q)
theorem FRow.forms {B:Nat}{W:World}{v:Value}{VS:List Value}{FSs:List (List PL)}{T:Nat→Prop}(h:FRow B W v VS FSs T):zn1 T W v FSs :=
 ⟨VS,SliceOf.of_owns (enc:=encV) h.row (List.map_id'' (fun _=>rfl) VS).symm,h.len,h.nodes⟩
theorem FRow.made (W:World)(T:Nat→Prop)(hT:∀q,T q→q<W.heap.size):FRow W.heap.size (W.alloc (.cells #[] 27)) (.slice (some ⟨W.heap.size,0,none⟩) 0 0) [] [] T :=
 ⟨World.ownsRow_made W #[] 0 (Nat.le_refl _) (by decide) (by simp),rfl,by simp,fun q hq=>⟨by have:=hT q hq;simp;omega,fun e=>by have e:W.heap.size=q:=Option.some.inj e;have:=hT q hq;omega⟩⟩
theorem FRow.snoc {B:Nat}{W Wa W':World}{v v' nv:Value}{VS:List Value}{FSs:List (List PL)}{T T':Nat→Prop}{Fm:List PL}(h:FRow B W v VS FSs T)(ha:Fr NoM W Wa)(ho:W'.ownsRow B 27 1 v' (VS.length+1) (VS ++ [nv]))(hf:Fr (Own1 v) Wa W')
  (hq:v'.ownBlock=v.ownBlock∨∃b,v'.ownBlock=some b/\Wa.heap.size≤b) (hn:NodeL T' encN Wa nv Fm) (hTT:∀q,T q→T' q) (hT':∀q,T' q→q<Wa.heap.size/\v.ownBlock≠some q):FRow B W' v' (VS ++ [nv]) (FSs ++ [Fm]) T':=by
 refine⟨by rw[List.length_append];exact ho,by simp[h.len],fun j u G h1 h2=>?_,fun q hq'=>⟨Nat.lt_of_lt_of_le (hT' q hq').1 hf.size,fun e=>?_⟩⟩
 ·by_cases hj:j<VS.length
  ·rw[List.getElem?_append_left hj]at h1
   rw[List.getElem?_append_left (by rw[←h.len];exact hj)]at h2;exact((h.nodes j u G h1 h2).fr (ha.any.trans hf (fun q _ e=>e)) (fun q hT e=>(h.sep q hT).2 e)).mono hTT
  ·have hl:=(List.getElem?_eq_some_iff.1 h1).1
   have hje:j=VS.length:=by simp at hl;omega
   subst hje;have e1:u=nv:=by simpa using h1.symm
   have e2:G=Fm:=by rw[h.len]at h2;simpa using h2.symm
   subst e1;subst e2;exact hn.fr hf (fun q hT e=>(hT' q hT).2 e)
 ·rcases hq with h1|⟨b,h1,h2⟩
  ·rw[h1]at e;exact(hT' q hq').2 e
  ·rw[h1]at e;cases e
   have:=(hT' q hq').1;omega
theorem FRow.cell {B:Nat}{W:World}{v:Value}{VS:List Value}{FSs:List (List PL)}{T:Nat→Prop}(h:FRow B W v VS FSs T):∃a c,v=.slice a VS.length c/\∀(j:Nat) (nv:Value),VS[j]?=some nv→∃b off,a=some ⟨b,off,none⟩/\W.cell? ⟨b,off+j,none⟩=some nv:=by
 obtain⟨a,c,e,_,_,h3⟩:=SliceOf.of_owns (enc:=encV) h.row (List.map_id'' (fun _=>rfl) VS).symm;exact⟨a,c,e,h3⟩
section
variable {D:Nat}{T T':Nat→Prop}{w w':World}{v:Value}{LL:List PL}
end
section
variable {D:Nat}{W W' Wa:World}{v v' nv:Value}{VS:List Value}{FSs:List (List PL)}{T T':Nat→Prop}{Fm:List PL}
end
section
variable {D:Nat}{W W':World}{b:Nat}{nv:Value}{U U':List Nat}{Fm:List PL}
end
section
variable {m:Nat}{W W':World}{b n:Nat}{cur:Array Value}{Z Z':Nat→Prop}
end
end Go.Proofs.YtkofnbjjbcohgaaGreatDoor
