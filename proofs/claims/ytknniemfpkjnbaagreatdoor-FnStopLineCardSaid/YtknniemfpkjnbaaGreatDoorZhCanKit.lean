import Derived.Test.YtknniemfpkjnbaaGreatDoorZhStopRes
import Derived.Test.YtknniemfpkjnbaaGreatDoorZhPoolNode
import Derived.StillTailTactics
/- What the claim of FnStopLineCard needs of: LineKit OrderFn PoolGe ThroughP IsNumP ValueP PoolLoad WithoutP SumKit CanKit. -/
namespace Go.Proofs.YtknniemfpkjnbaaGreatDoor
set_option linter.unusedVariables false
set_option linter.unusedSimpArgs false
open Go.RowKit
def ztc (ok:Bool)(N:List Nat)(w:World)(e:Ending)(w':World):Prop:=∃v':Value,e=.returned (.tuple #[v',.bool ok])/\NRow w.heap.size w' v' N/\Fr NoM w w'
theorem NRow.base {B B':Nat}{W:World}{v:Value}{L:List Nat}(h:NRow B W v L)(hB:B'≤B):NRow B' W v L:=⟨zbb h.own hB,h.shape⟩
structure LineS (W:World) (F:List PL) (n:Nat) (na la ra ba:Option Addr):Prop where
 node:∀k,k<n→∃b off lv rv,na=some ⟨b,off,none⟩/\W.cell? ⟨b,off+k*2,none⟩=some lv/\W.cell? ⟨b,off+k*2+1,none⟩=some rv/\Nats W lv (za2 F k).1/\Nats W rv (za2 F k).2
 l:∀k,k<n→∃b off,la=some ⟨b,off,none⟩/\W.cell? ⟨b,off+k*2,none⟩=some (.int .i64 (sL F k).1)/\W.cell? ⟨b,off+k*2+1,none⟩=some (.int .i64 ((sL F k).2:Int))
 r:∀k,k<n→∃b off,ra=some ⟨b,off,none⟩/\W.cell? ⟨b,off+k*2,none⟩=some (.int .i64 (sR F k).1)/\W.cell? ⟨b,off+k*2+1,none⟩=some (.int .i64 ((sR F k).2:Int))
 b:∀k,k<n→∃b off,ba=some ⟨b,off,none⟩/\W.cell? ⟨b,off+k,none⟩=some (.bool (isNB (xAt F k)))
theorem LineS.fr0 {W W':World}{F:List PL}{n:Nat}{na la ra ba:Option Addr}(h:LineS W F n na la ra ba)(f:Fr NoM W W'):LineS W' F n na la ra ba:=by
 refine⟨fun k hk=>?_,fun k hk=>?_,fun k hk=>?_,fun k hk=>?_⟩
 ·obtain⟨b,off,lv,rv,e,c1,c2,s1,s2⟩:=h.node k hk
  exact⟨b,off,lv,rv,e,f.cell c1 (fun q=>q),f.cell c2 (fun q=>q),s1.fr0 f,s2.fr0 f⟩
 ·obtain⟨b,off,e,c1,c2⟩:=h.l k hk
  exact⟨b,off,e,f.cell c1 (fun q=>q),f.cell c2 (fun q=>q)⟩
 ·obtain⟨b,off,e,c1,c2⟩:=h.r k hk
  exact⟨b,off,e,f.cell c1 (fun q=>q),f.cell c2 (fun q=>q)⟩
 ·obtain⟨b,off,e,c1⟩:=h.b k hk
  exact⟨b,off,e,f.cell c1 (fun q=>q)⟩
theorem SliceOf.frC {α:Type}{enc:α→Value}{M:Nat→Prop}{W W':World}{v:Value}{L:List α}(h:SliceOf enc W v L)(f:Fr M W W')(hM:∀b i v,W.cell? ⟨b,i,none⟩=some v→¬M b):SliceOf enc W' v L :=
 h.fr f fun hne q hq=>by
  obtain⟨a,c,rfl,_,_,hc⟩:=h;cases L with
  | nil=>exact absurd rfl hne
  | cons x l =>
   obtain⟨b,off,rfl,d⟩:=hc 0 x rfl;have e:b=q:=Option.some.inj hq;subst e;exact hM _ _ _ d
theorem LineS.frC {M:Nat→Prop}{W W':World}{F:List PL}{n:Nat}{na la ra ba:Option Addr}(h:LineS W F n na la ra ba)(f:Fr M W W')(hM:∀b i v,W.cell? ⟨b,i,none⟩=some v→¬M b):LineS W' F n na la ra ba:=by
 refine⟨fun k hk=>?_,fun k hk=>?_,fun k hk=>?_,fun k hk=>?_⟩
 ·obtain⟨b,off,lv,rv,e,c1,c2,s1,s2⟩:=h.node k hk
  exact⟨b,off,lv,rv,e,f.cell c1 (hM _ _ _ c1),f.cell c2 (hM _ _ _ c2),s1.frC f hM,s2.frC f hM⟩
 ·obtain⟨b,off,e,c1,c2⟩:=h.l k hk
  exact⟨b,off,e,f.cell c1 (hM _ _ _ c1),f.cell c2 (hM _ _ _ c2)⟩
 ·obtain⟨b,off,e,c1,c2⟩:=h.r k hk
  exact⟨b,off,e,f.cell c1 (hM _ _ _ c1),f.cell c2 (hM _ _ _ c2)⟩
 ·obtain⟨b,off,e,c1⟩:=h.b k hk
  exact⟨b,off,e,f.cell c1 (hM _ _ _ c1)⟩
theorem LineS.mk' {W:World}{R:Nat→Prop}{F:List PL}{na la ra ba:Option Addr}{nc l2 r2 b2:Nat}{l1 r1 b1:Nat}(h:NodeL R encN W (.slice na F.length nc) F)
  (hl:Pairs W (.slice la l1 l2) (dyL (sL F) F.length)) (hr:Pairs W (.slice ra r1 r2) (dyL (sR F) F.length)) (hb:SliceOf encB W (.slice ba b1 b2) (numL F F.length)):LineS W F F.length na la ra ba:=by
 obtain⟨na',nc',e1,_,_,hn⟩:=h;obtain⟨la',lc',e2,_,_,hl⟩:=hl;obtain⟨ra',rc',e3,_,_,hr⟩:=hr;obtain⟨ba',bc',e4,_,_,hb⟩:=hb;obtain⟨rfl,_⟩:=Value.slice.inj e1;obtain⟨rfl,_⟩:=Value.slice.inj e2;obtain⟨rfl,_⟩:=Value.slice.inj e3;obtain⟨rfl,_⟩:=Value.slice.inj e4;refine⟨fun k hk=>?_,fun k hk=>?_,fun k hk=>?_,fun k hk=>?_⟩
 ·obtain⟨b,off,lv,rv,ha,_,c1,c2,s1,s2,_⟩:=hn k _ (za4 hk)
  exact⟨b,off,lv,rv,ha,c1,c2,s1,s2⟩
 ·obtain⟨b,off,ha,c1,c2⟩:=hl k _ (zi0 _ hk)
  exact⟨b,off,ha,c1,c2⟩
 ·obtain⟨b,off,ha,c1,c2⟩:=hr k _ (zi0 _ hk)
  exact⟨b,off,ha,c1,c2⟩
 ·obtain⟨b,off,ha,c1⟩:=hb k _ (zsb F hk)
  exact⟨b,off,ha,c1⟩
theorem ziv (x y:Int)(w:World):Calls Tryz.prog 59 #[.int .i64 x,.int .i64 y] w fun e w'=>e=.returned (.int .i64 (Lib.compareInt x y))/\w'=w:=Any.cmp_Compare_int Tryz.layCmp x y w
set_option maxRecDepth 4000 in
set_option maxHeartbeats 4000000 in
theorem ziu (av bv:Value)(A B:List Nat)(w:World)(hA:Nats w av A)(hB:Nats w bv B):Calls Tryz.prog 94 #[av,bv] w fun e w'=>e=.returned (.int .i64 (cmpL A B))/\w'=w:=by
 obtain⟨aa,ac,rfl,hac,hacm,hA⟩:=hA;obtain⟨ba,bc,rfl,hbc,hbcm,hB⟩:=hB;have HA:=Hh hA;have HB:=Hh hB;clear hA hB;go_enter Tryz.func94,Tryz.ntmps94;go_wp2;go_loopw [11] (fun i W=>∃k:Nat,i=.int .i64 k/\k≤A.length/\k≤B.length/\cmpL A B=cmpL (A.drop k) (B.drop k)/\W=w) (fun i _=>A.length-(intOf i).toNat)
 case atStart=>exact⟨0,rfl,Nat.zero_le _,Nat.zero_le _,rfl,rfl⟩
 case round =>
  obtain⟨k,rfl,hk,hkb,hc,hw⟩:=hrel;have HC:=Hh hc;have HW:=Hh hw;clear hc;by_cases hlt:k<A.length
  ·obtain⟨b1,o1,ha1,c1⟩:=HA.out k A[k] (List.getElem?_eq_getElem _)
   have ix1:=za7 aa A.length ac k b1 o1 hlt ha1;have c1:wr.cell? ⟨b1,o1+k,none⟩=some (.int .i64 (A[k]:Int)):=by rw[hw];exact c1
   by_cases hltb:k<B.length
   ·obtain⟨b2,o2,ha2,c2⟩:=HB.out k B[k] (List.getElem?_eq_getElem _)
    have ix2:=za7 ba B.length bc k b2 o2 hltb ha2;have c2:wr.cell? ⟨b2,o2+k,none⟩=some (.int .i64 (B[k]:Int)):=by rw[hw];exact c2
    have hd:cmpL A B=if A[k]=B[k]then cmpL (A.drop (k+1)) (B.drop (k+1))else if A[k]<B[k]then -1 else 1:=by
     rw[HC.out,List.drop_eq_getElem_cons hlt,List.drop_eq_getElem_cons hltb];rfl
    clear ha1 ha2 hw;by_cases he:A[k]=B[k]
    ·have hcmp:Lib.compareInt (A[k]:Int) (B[k]:Int)=0:=by unfold Lib.compareInt;rw[if_neg (by omega),if_neg (by omega)]
     rw[if_pos he]at hd;have HD:=Hh hd;have HE:=Hh he;clear hd he;have hcall:=ziv (A[k]:Int) (B[k]:Int) wr;rw[hcmp]at hcall;go_wp2_with fail;refine hcall.mono ?_
     rintro e w' ⟨rfl,rfl⟩;clear hcall hcmp;go_wp2;go_roundw
     case rel=>exact⟨k+1,by go_num,by omega,by omega,HD.out,HW.out⟩
     case measure=>simp[intOf];omega
    ·rw[if_neg he]at hd
     have hcall:=ziv (A[k]:Int) (B[k]:Int) wr;by_cases hl:A[k]<B[k]
     ·have hcmp:Lib.compareInt (A[k]:Int) (B[k]:Int)=-1:=by unfold Lib.compareInt;rw[if_pos (by omega)]
      rw[if_pos hl]at hd;rw[hcmp]at hcall;have HD:=Hh hd;clear hd he hl hcmp;go_wp2_with fail;refine hcall.mono ?_
      rintro e w' ⟨rfl,rfl⟩;clear hcall;go_wp2;go_ret;exact⟨by rw[HD.out];rfl,HW.out⟩
     ·have hcmp:Lib.compareInt (A[k]:Int) (B[k]:Int)=1:=by unfold Lib.compareInt;rw[if_neg (by omega),if_pos (by omega)]
      rw[if_neg hl]at hd;rw[hcmp]at hcall;have HD:=Hh hd;clear hd he hl hcmp;go_wp2_with fail;refine hcall.mono ?_
      rintro e w' ⟨rfl,rfl⟩;clear hcall;go_wp2;go_ret;exact⟨by rw[HD.out];rfl,HW.out⟩
   ·have hd:cmpL A B=1:=by
     rw[HC.out,List.drop_eq_getElem_cons hlt,show B.drop k=[]from List.drop_eq_nil_of_le (by omega)];rfl
    have HD:=Hh hd;clear hd ha1 hw;go_wp2;go_ret;exact⟨by rw[HD.out];rfl,HW.out⟩
  ·have hk':k=A.length:=by omega
   subst hk';have hd:=HC.out;rw[List.drop_length]at hd;clear hw;by_cases hltb:A.length<B.length
   ·rw[List.drop_eq_getElem_cons hltb]at hd
    have HD:=Hh hd;clear hd;go_wp2;go_ret;exact⟨by rw[HD.out];rfl,HW.out⟩
   ·rw[List.drop_eq_nil_of_le (by omega)]at hd
    have HD:=Hh hd;clear hd;go_wp2;go_ret;exact⟨by rw[HD.out];rfl,HW.out⟩
def orI (x y:Int):Int:=if x=0 then y else x
theorem ya6 (a:Nat):geC a a=true:=by
 induction a using Nat.strongRecOn with
 | _ a ih =>
  rw[zed];constructor
  ·intro r hr
   cases h:geC a r with
   | false=>rfl
   | true =>
    have h1:=((zed a r).1 h).1 r hr;rw[ih r (zah (.inr hr))]at h1;cases h1
  ·intro l hl
   cases h:geC l a with
   | false=>rfl
   | true =>
    have h1:=((zed l a).1 h).2 l hl;rw[ih l (zah (.inl hl))]at h1;cases h1
theorem ya5 (C:List Nat)(x:Nat):geV C x x=true:=ya6 _
theorem zbf (a:Option Addr)(n c k b off:Nat)(hk:k<n)(ha:a=some ⟨b,off,none⟩)(w:World) :
  (Instr.indexAt 129 (.slice a n c) (.int .i64 (k:Int))).run Tryz.prog w=.ok (.pointer (some ⟨b,off+k,none⟩)) w:=by
 subst ha;go_simp
theorem PoolS.rd {M I:Nat→Prop} {w:World} {pb:Nat} {V:List PL} {BV:List Nat} {mo mc ms mn:Value} (h:PoolS M I w pb V BV mo mc ms mn) :
    ∃ la lc ra rc, w.cell? ⟨pb, 0, none⟩ = some (.slice la V.length lc) ∧ w.cell? ⟨pb, 1, none⟩ = some (.slice ra V.length rc) ∧ w.cell? ⟨pb, 4, none⟩ = some mo ∧ w.cell? ⟨pb, 5, none⟩ = some mc ∧ w.cell? ⟨pb, 6, none⟩ = some ms ∧ w.cell? ⟨pb, 7, none⟩ = some mn ∧
      (∀ x,x < V.length→∃ b off v,la=some ⟨b,off,none⟩∧w.cell? ⟨b,off + x,none⟩=some v∧Nats w v (za2 V x).1∧((za2 V x).1≠[]→∀ q,v.ownBlock=some q→I q)) ∧
      (∀ x,x < V.length→∃ b off v,ra=some ⟨b,off,none⟩∧w.cell? ⟨b,off + x,none⟩=some v∧Nats w v (za2 V x).2∧((za2 V x).2≠[]→∀ q,v.ownBlock=some q→I q)):=by
  obtain ⟨lv,rv,bv,fb,LS,RS,hp,h1,h2,_⟩:=h;obtain ⟨la,lc,rfl,_,_,hl⟩:=SliceOf.of_owns (enc:=encV) (L:=LS) hp.left (by rw [show (encV:Value→Value)=id from rfl,List.map_id]);obtain ⟨ra,rc,rfl,_,_,hr⟩:=SliceOf.of_owns (enc:=encV) (L:=RS) hp.right (by rw [show (encV:Value→Value)=id from rfl,List.map_id]);have hb:=hp.blk;have e1:=hp.lenL;have e2:=hp.lenR;refine ⟨la,lc,ra,rc,by rw [cell_of_row w pb 0 _ _ _ hb,← e1];rfl,by rw [cell_of_row w pb 1 _ _ _ hb,← e2];rfl,by rw [cell_of_row w pb 4 _ _ _ hb];rfl,by rw [cell_of_row w pb 5 _ _ _ hb];rfl,by rw [cell_of_row w pb 6 _ _ _ hb];rfl,by rw [cell_of_row w pb 7 _ _ _ hb];rfl,fun x hx=>?_,fun x hx=>?_⟩
  · have hv := List.getElem?_eq_getElem (l := LS) (i := x) (by omega)
    obtain ⟨b,off,ha,hc⟩:=hl x _ hv;obtain ⟨s1,s2⟩:=h1 x _ _ hv (za4 hx);exact ⟨b,off,_,ha,hc,s1,s2⟩
  · have hv := List.getElem?_eq_getElem (l := RS) (i := x) (by omega)
    obtain ⟨b,off,ha,hc⟩:=hr x _ hv;obtain ⟨s1,s2⟩:=h2 x _ _ hv (za4 hx);exact ⟨b,off,_,ha,hc,s1,s2⟩
def OrdF (C:List Nat)(f:Nat × Nat→Option Bool):Prop:=∀k a,f k=some a→k.1<C.length/\k.2<C.length/\a=geV C k.1 k.2
theorem OrdF.none (C:List Nat):OrdF C (fun _=>none):=fun _ _ h=>by cases h
theorem OrdF.upd {C:List Nat}{f:Nat × Nat→Option Bool}{x y:Nat}(h:OrdF C f)(hx:x<C.length)(hy:y<C.length):OrdF C (upd f (x,y) (geV C x y)):=fun k a hk=>by
 unfold Go.Proofs.YtknniemfpkjnbaaGreatDoor.upd at hk;split at hk
 ·rename_i e;subst e;exact⟨hx,hy,(Option.some.inj hk).symm⟩
 ·exact h k a hk
theorem OrdF.mono {C C':List Nat}{f:Nat × Nat→Option Bool}(h:OrdF C f)(hp:C <+: C'):OrdF C' f:=fun k a hk=>by
 obtain⟨h1,h2,h3⟩:=h k a hk;have hl:=hp.length_le;obtain⟨t,rfl⟩:=hp;refine⟨by omega,by omega,?_⟩;unfold geV at h3 ⊢;rw[zdy h1,zdy h2];exact h3
def GeIs (M I:Nat→Prop)(C:List Nat)(V:List PL)(BV:List Nat)(pb ob:Nat)(mc ms mn:Value)(x y:Nat):Prop:=∀(f:Nat × Nat→Option Bool) (w:World),PoolS M I w pb V BV (.map (some ob)) mc ms mn→MapF encP encB w ob f→OrdF C f →
  Calls Tryz.prog 135 #[.pointer (some ⟨pb,0,none⟩),.int .i64 (x:Int),.int .i64 (y:Int)] w fun e w'=>e=.returned (.bool (geV C x y))/\∃f',MapF encP encB w' ob f'∧OrdF C f'∧Fr (fun q=>q=ob) w w'
set_option maxRecDepth 4000 in
set_option maxHeartbeats 8000000 in
theorem zxr {M I:Nat→Prop}{C:List Nat}{V:List PL}{BV:List Nat}(B:BookC V C)(pb ob:Nat)(mc ms mn:Value)(hMo:¬M ob)(hIo:¬I ob):∀n x y,x+y<n→x<V.length→y<V.length→GeIs M I C V BV pb ob mc ms mn x y:=by
 intro n;induction n with
 | zero=>intro x y h;omega
 | succ n ih =>
  intro x y hn hx hy f w hP hF hO;by_cases hxy:x=y
  ·subst hxy
   have HG:=Hh (show geV C x x=true from ya5 C x);have hb:((x:Int) == (x:Int))=true:=beq_self_eq_true _;have HF:=Hh hF;have HO:=Hh hO;clear hF hO hP ih;go_enter Tryz.func135,Tryz.ntmps135;go_wp2_with fail;go_ret;exact⟨by rw[HG.out];rfl,f,HF.out,HO.out,Fr.refl _ _⟩
  ·have hb:((x:Int) == (y:Int))=false:=by rw[beq_eq_false_iff_ne];omega
   have HIh:=Hh ih;have HP:=Hh hP;have HF:=Hh hF;have HO:=Hh hO;have hbd:=zum (x:Int) (y:Int);clear ih hP hF hO hxy;obtain⟨res,hres⟩:∃res,res=geV C x y:=⟨_,rfl⟩;rw[←hres];have HRes:=Hh hres;clear hres;go_enter Tryz.func135,Tryz.ntmps135;go_wp2_with fail;obtain⟨w1,hw1⟩:∃w1,w1=w.alloc (.cells #[.int .i64 (x:Int),.int .i64 (y:Int)] 168):=⟨_,rfl⟩;have hf1:Fr NoM w w1:=by rw[hw1];exact(Fr.refl NoM w).alloc _
   have hb1:w1.heap[w.heap.size]?=some (.cells #[.int .i64 (x:Int),.int .i64 (y:Int)] 168 (0,0)):=by rw[hw1];exact heap_alloc_new w _
   rw[←hw1];have hne:¬w.heap.size=ob:=by have:=HF.out.lt;omega
   have HK:=Hh (fun(W:World) (f:Fr (fun q=>q=ob) w1 W)=>show W.cell? ⟨w.heap.size,0,none⟩=some (.int .i64 (x:Int))/\W.cell? ⟨w.heap.size,1,none⟩=some (.int .i64 (y:Int))from by
    have h:=f.heap hb1 hne;exact⟨by rw[cell_of_row W _ 0 _ _ _ h];rfl,by rw[cell_of_row W _ 1 _ _ _ h];rfl⟩)
   have HPs:=Hh (fun(W:World) (f:Fr (fun q=>q=ob) w1 W)=>show PoolS M I W pb V BV (.map (some ob)) mc ms mn from
    (HP.out.fr0 hf1).fr f (fun q hq e=>hMo (by rw[←e];exact hq)) (fun q hq e=>hIo (by rw[←e];exact hq)))
   have HFW:=Hh (hf1.any (M:=fun q=>q=ob));have HF1:=Hh (HF.out.fr hf1 (fun q=>q));clear hf1 hb1 hne hw1 HF HP hbd;have hd:∀n,Fr NoM w1 (w1.drewN n):=fun n=>⟨rfl,rfl,rfl,Nat.le_refl _,fun _ _ _=>rfl⟩
   have hlook:∀n,(Instr.lookup 126 (.map (some ob)) (.agg #[.int .i64 (x:Int),.int .i64 (y:Int)]) true).run Tryz.prog (w1.drewN n)=.ok (.tuple #[((f (x,y)).map encB).getD (.bool false),.bool (f (x,y)).isSome]) (w1.drewN n):=fun n =>
    MapF.look (w:=w1.drewN n) (HF1.out.fr (hd n) (fun q=>q)) znc Tryz.underlying126 (Tryz.zeroValue4 _) (x,y) true
   obtain⟨k0,k1⟩:=HK.out w1 (Fr.refl _ _);obtain⟨_,_,_,_,_,_,p4,_⟩:=(HPs.out w1 (Fr.refl _ _)).rd;have HD:=Hh hd;clear hd;cases hfx:f (x,y)with
   | some a =>
    rw[hfx]at hlook;have hlook:∀n,(Instr.lookup 126 (.map (some ob)) (.agg #[.int .i64 (x:Int),.int .i64 (y:Int)]) true).run Tryz.prog (w1.drewN n)=.ok (.tuple #[.bool a,.bool true]) (w1.drewN n):=hlook;have ha:a=res:=by rw[HRes.out];exact(HO.out _ _ hfx).2.2
    have HA:=Hh ha;clear hfx ha;go_quiet (fail);go_wp2_with fail;go_ret;exact⟨by rw[HA.out];rfl,f,HF1.out.fr (HD.out _) (fun q=>q),HO.out,HFW.out.trans (HD.out _) (fun _ _ q=>q.elim)⟩
   | none =>
    rw[hfx]at hlook;have hlook:∀n,(Instr.lookup 126 (.map (some ob)) (.agg #[.int .i64 (x:Int),.int .i64 (y:Int)]) true).run Tryz.prog (w1.drewN n)=.ok (.tuple #[.bool false,.bool false]) (w1.drewN n):=hlook;clear hfx;go_quiet (fail);obtain⟨w2,hw2⟩:∃w2,w2=w1.drewN nq:=⟨_,rfl⟩;have hf2:Fr NoM w1 w2:=by rw[hw2];exact HD.out nq
    rw[←hw2];have HF2:=Hh (HF1.out.fr hf2 (fun q=>q));have F2:=Hh (hf2.any (M:=fun q=>q=ob));clear hlook k0 k1 p4 hf2 hw2 HF1;have hge:=zxs B hx hy;rw[←HRes.out]at hge;obtain⟨u1,u2⟩:=B.opts x _ (za4 hx);obtain⟨v1,v2⟩:=B.opts y _ (za4 hy);obtain⟨_,_,ra,rc,_,p1,_,_,_,_,_,hR⟩:=(HPs.out w2 F2.out).rd;obtain⟨rb,ro,rv,rfl,r1,s1,i1⟩:=hR x hx;have ix1:=zbf (some ⟨rb,ro,none⟩) V.length rc x rb ro hx rfl;obtain⟨R,hRe⟩:∃R,R=(za2 V x).2:=⟨_,rfl⟩;rw[←hRe]at hge u2 s1 i1;have HU:=Hh (fun(W:World) (f:Fr (fun q=>q=ob) w2 W)=>show Nats W rv R from s1.fr f (fun hne q hq e=>hIo (by rw[←e];exact i1 hne q hq)));have hR9:R.length≤9223372036854775807:=by obtain⟨a,c,_,h1,h2,_⟩:=s1;omega
    obtain⟨ua,uc,rfl,z⟩:=id s1;have HGe:=Hh hge;have HU2:=Hh u2;have HV1:=Hh v1;clear z hge u1 u2 v1 v2 s1 i1 hRe hR;go_wp2_with fail;clear p1 r1 ix1;go_loopw [10,40] (fun b t W=>∃(k:Nat) (f':Nat × Nat→Option Bool),b=.bool true/\t=.int .i64 k/\k≤R.length/\(∀r∈R.take k,geV C y r=false)/\MapF encP encB W ob f'∧OrdF C f'∧Fr (fun q=>q=ob) w2 W) (fun _ t _=>R.length-(intOf t).toNat)
    case atStart=>exact⟨0,f,rfl,rfl,Nat.zero_le _,by simp,HF2.out,HO.out,Fr.refl _ _⟩
    case round =>
     obtain⟨k,f7,rfl,rfl,hk,hall,hm7,ho7,hf7⟩:=hrel;obtain⟨w7,rfl⟩:∃w7,w7=wr:=⟨_,rfl⟩;have e4:=HU.out w7 hf7;have HAll:=Hh hall;have HM7:=Hh hm7;have HO7:=Hh ho7;have F7:=Hh (F2.out.trans hf7 (fun _ _ q=>q));have F27:=Hh hf7;clear hall hm7 ho7 hf7;by_cases hkl:k<R.length
     ·obtain⟨r,hr⟩:∃r,R[k]?=some r:=⟨_,List.getElem?_eq_getElem hkl⟩
      have hrx:=HU2.out r (List.mem_of_getElem? hr);obtain⟨a',c',ee,_,_,hcc⟩:=e4;cases ee
      obtain⟨b3,o3,ha3,c3⟩:=hcc k r hr;have c3':w7.cell? ⟨b3,o3+k,none⟩=some (.int .i64 (r:Int)):=c3;have ix3:=za7 ua R.length uc k b3 o3 hkl ha3;have HGq:=Hh (HIh.out y r (by omega) hy (by omega) f7 w7 (HPs.out w7 F7.out) HM7.out HO7.out);have HR':=Hh hr;clear hr hcc ha3 c3;go_wp2_with fail;refine HGq.out.mono ?_
      rintro e w8 ⟨rfl,f8,hm8,ho8,hf8⟩;have HM8:=Hh hm8;have HO8:=Hh ho8;have F8:=Hh (F7.out.trans hf8 (fun _ _ q=>q));have F28:=Hh (F27.out.trans hf8 (fun _ _ q=>q));clear hm8 ho8 hf8 c3';obtain⟨gb,hgb⟩:∃gb,gb=geV C y r:=⟨_,rfl⟩;rw[←hgb];have HGb:=Hh hgb;clear hgb;cases gb with
      | true =>
       have hn:res=false:=by
        cases hc:res with
        | false=>rfl
        | true=>have:=(HGe.out.1 hc).1 r (List.mem_of_getElem? HR'.out);rw[←HGb.out]at this;cases this
       have HN:=Hh hn;clear hn;obtain⟨k0,k1⟩:=HK.out w8 F8.out;obtain⟨_,_,_,_,_,_,p4,_⟩:=(HPs.out w8 F8.out).rd;obtain⟨w9,hrun,hm9,hf9⟩:=MapF.store (P:=Tryz.prog) (w:=w8.drew) (HM8.out.fr ((Fr.refl NoM w8).drew) (fun q=>q)) znc Tryz.underlying126 (x,y) false;have hrun:(Instr.mapUpdate 126 (.map (some ob)) (.agg #[.int .i64 (x:Int),.int .i64 (y:Int)]) (.bool false)).run Tryz.prog w8.drew=.ok () w9:=hrun;have HM9:=Hh hm9;have HF9:=Hh hf9;clear hm9 hf9;go_upto_region 21 with fail;go_cut []from 67 (fun wx=>wx=w9)
       case first =>
        go_region_law (fail);all_goals
         go_wp2_with fail;go_meet
         case rel=>rfl
       case rest =>
        subst hcut;clear hrun k0 k1 p4;go_wp2_with fail;go_ret;refine⟨by rw[HN.out];rfl,_,HM9.out,?_,HFW.out.trans ((F8.out.drew).trans HF9.out (fun _ _ q=>q)) (fun _ _ q=>q)⟩;have h:=OrdF.upd HO8.out (x:=x) (y:=y) (by rw[B.len];exact hx) (by rw[B.len];exact hy);rw[←HRes.out,HN.out]at h;exact h
      | false =>
       go_wp2_with fail;go_roundw
       case rel=>exact⟨k+1,f8,rfl,by go_num,by omega,fun r' hr'=>by
        obtain⟨hkl',ee⟩:=List.getElem?_eq_some_iff.1 HR'.out
        rw[List.take_succ_eq_append_getElem hkl',List.mem_append,List.mem_singleton]at hr';rcases hr' with hr'|hr'
        ·exact HAll.out r' hr'
        ·rw[hr',ee];exact HGb.out.symm,HM8.out,HO8.out,F28.out⟩
       case measure=>simp[intOf];omega
     ·have hk':k=R.length:=by omega
      subst hk';have hallR:∀r∈R,geV C y r=false:=by have:=HAll.out;rwa [List.take_length]at this
      have HAllR:=Hh hallR;obtain⟨la,lc,_,_,p0,_,_,_,_,_,hL,_⟩:=(HPs.out w7 F7.out).rd;obtain⟨lb,lo,lv,rfl,r2,s2,i2⟩:=hL y hy;have ix2:=zbf (some ⟨lb,lo,none⟩) V.length lc y lb lo hy rfl;have hge:=HGe.out;have v1:=HV1.out;obtain⟨L,hLe⟩:∃L,L=(za2 V y).1:=⟨_,rfl⟩;rw[←hLe]at hge v1 s2 i2;have HT:=Hh (fun(W:World) (f:Fr (fun q=>q=ob) w7 W)=>show Nats W lv L from s2.fr f (fun hne q hq e=>hIo (by rw[←e];exact i2 hne q hq)));have hL9:L.length≤9223372036854775807:=by obtain⟨a,c,_,h1,h2,_⟩:=s2;omega
      obtain⟨ta,tc,rfl,z⟩:=id s2;have HGe2:=Hh hge;have HV2:=Hh v1;clear z hallR HAll e4 hge v1 s2 i2 hLe hL;go_wp2_with fail;clear p0 r2 ix2;go_loopw [10,58] (fun b t W=>∃(k:Nat) (f':Nat × Nat→Option Bool),b=.bool true/\t=.int .i64 k/\k≤L.length/\(∀l∈L.take k,geV C l x=false)/\MapF encP encB W ob f'∧OrdF C f'∧Fr (fun q=>q=ob) w7 W) (fun _ t _=>L.length-(intOf t).toNat)
      case atStart=>exact⟨0,f7,rfl,rfl,Nat.zero_le _,by simp,HM7.out,HO7.out,Fr.refl _ _⟩
      case round =>
       obtain⟨k,f6,rfl,rfl,hk,hall,hm6,ho6,hf6⟩:=hrel;obtain⟨w6,rfl⟩:∃w6,w6=wr:=⟨_,rfl⟩;have e4:=HT.out w6 hf6;have HAll:=Hh hall;have HM6:=Hh hm6;have HO6:=Hh ho6;have F6:=Hh (F7.out.trans hf6 (fun _ _ q=>q));have F76:=Hh hf6;clear hall hm6 ho6 hf6;by_cases hkl:k<L.length
       ·obtain⟨r,hr⟩:∃r,L[k]?=some r:=⟨_,List.getElem?_eq_getElem hkl⟩
        have hrx:=HV2.out r (List.mem_of_getElem? hr);obtain⟨a',c',ee,_,_,hcc⟩:=e4;cases ee
        obtain⟨b3,o3,ha3,c3⟩:=hcc k r hr;have c3':w6.cell? ⟨b3,o3+k,none⟩=some (.int .i64 (r:Int)):=c3;have ix3:=za7 ta L.length tc k b3 o3 hkl ha3;have HGq:=Hh (HIh.out r x (by omega) (by omega) hx f6 w6 (HPs.out w6 F6.out) HM6.out HO6.out);have HR':=Hh hr;clear hr hcc ha3 c3;go_wp2_with fail;refine HGq.out.mono ?_
        rintro e w8 ⟨rfl,f8,hm8,ho8,hf8⟩;have HM8:=Hh hm8;have HO8:=Hh ho8;have F8:=Hh (F6.out.trans hf8 (fun _ _ q=>q));have F78:=Hh (F76.out.trans hf8 (fun _ _ q=>q));clear hm8 ho8 hf8 c3';obtain⟨gb,hgb⟩:∃gb,gb=geV C r x:=⟨_,rfl⟩;rw[←hgb];have HGb:=Hh hgb;clear hgb;cases gb with
        | true =>
         have hn:res=false:=by
          cases hc:res with
          | false=>rfl
          | true=>have:=(HGe2.out.1 hc).2 r (List.mem_of_getElem? HR'.out);rw[←HGb.out]at this;cases this
         have HN:=Hh hn;clear hn;obtain⟨k0,k1⟩:=HK.out w8 F8.out;obtain⟨_,_,_,_,_,_,p4,_⟩:=(HPs.out w8 F8.out).rd;obtain⟨w9,hrun,hm9,hf9⟩:=MapF.store (P:=Tryz.prog) (w:=w8.drew) (HM8.out.fr ((Fr.refl NoM w8).drew) (fun q=>q)) znc Tryz.underlying126 (x,y) false;have hrun:(Instr.mapUpdate 126 (.map (some ob)) (.agg #[.int .i64 (x:Int),.int .i64 (y:Int)]) (.bool false)).run Tryz.prog w8.drew=.ok () w9:=hrun;have HM9:=Hh hm9;have HF9:=Hh hf9;clear hm9 hf9;go_upto_region 21 with fail;go_cut []from 67 (fun wx=>wx=w9)
         case first =>
          go_region_law (fail);all_goals
           go_wp2_with fail;go_meet
           case rel=>rfl
         case rest =>
          subst hcut;clear hrun k0 k1 p4;go_wp2_with fail;go_ret;refine⟨by rw[HN.out];rfl,_,HM9.out,?_,HFW.out.trans ((F8.out.drew).trans HF9.out (fun _ _ q=>q)) (fun _ _ q=>q)⟩;have h:=OrdF.upd HO8.out (x:=x) (y:=y) (by rw[B.len];exact hx) (by rw[B.len];exact hy);rw[←HRes.out,HN.out]at h;exact h
        | false =>
         go_wp2_with fail;go_roundw
         case rel=>exact⟨k+1,f8,rfl,by go_num,by omega,fun r' hr'=>by
          obtain⟨hkl',ee⟩:=List.getElem?_eq_some_iff.1 HR'.out
          rw[List.take_succ_eq_append_getElem hkl',List.mem_append,List.mem_singleton]at hr';rcases hr' with hr'|hr'
          ·exact HAll.out r' hr'
          ·rw[hr',ee];exact HGb.out.symm,HM8.out,HO8.out,F78.out⟩
         case measure=>simp[intOf];omega
       ·have hk':k=L.length:=by omega
        subst hk';have hn:res=true:=HGe2.out.2 ⟨HAllR.out,by have:=HAll.out;rwa [List.take_length]at this⟩;have HN:=Hh hn;clear hn e4;obtain⟨k0,k1⟩:=HK.out w6 F6.out;obtain⟨_,_,_,_,_,_,p4,_⟩:=(HPs.out w6 F6.out).rd;obtain⟨w9,hrun,hm9,hf9⟩:=MapF.store (P:=Tryz.prog) (w:=w6.drew) (HM6.out.fr ((Fr.refl NoM w6).drew) (fun q=>q)) znc Tryz.underlying126 (x,y) true;have hrun:(Instr.mapUpdate 126 (.map (some ob)) (.agg #[.int .i64 (x:Int),.int .i64 (y:Int)]) (.bool true)).run Tryz.prog w6.drew=.ok () w9:=hrun;have HM9:=Hh hm9;have HF9:=Hh hf9;clear hm9 hf9;go_upto_region 21 with fail;go_cut []from 67 (fun wx=>wx=w9)
        case first =>
         go_region_law (fail);all_goals
          go_wp2_with fail;go_meet
          case rel=>rfl
        case rest =>
         subst hcut;clear hrun k0 k1 p4;go_wp2_with fail;go_ret;refine⟨by rw[HN.out];rfl,_,HM9.out,?_,HFW.out.trans ((F6.out.drew).trans HF9.out (fun _ _ q=>q)) (fun _ _ q=>q)⟩;have h:=OrdF.upd HO6.out (x:=x) (y:=y) (by rw[B.len];exact hx) (by rw[B.len];exact hy);rw[←HRes.out,HN.out]at h;exact h
set_option maxRecDepth 4000 in
set_option maxHeartbeats 8000000 in
theorem zk2 {M I:Nat→Prop}{C:List Nat}{V:List PL}{BV:List Nat}(B:BookC V C)(pb ob:Nat)(mc ms mn:Value)(hMo:¬M ob)(hIo:¬I ob)(lf:Bool)(g:Nat→Nat→Bool)(hg:g=if lf=true then gR C else gL C)(x y:Nat)(zv:Value)(Z:List Nat)(f:Nat × Nat→Option Bool)(w:World)
  (hP:PoolS M I w pb V BV (.map (some ob)) mc ms mn) (hf:MapF encP encB w ob f) (ho:OrdF C f) (hx:x<V.length) (hZ:Nats w zv Z) (hZb:Z≠[]→∀q,zv.ownBlock=some q→q≠ob) (hZt:∀z∈Z,z<V.length) :
  Calls Tryz.prog 149 #[.pointer (some ⟨pb,0,none⟩),.int .i64 (x:Int),.int .i64 (y:Int),.bool lf,zv] w fun e w'=>e=.returned (.int .i64 (thrI (Z.find? (g x))))/\∃f',MapF encP encB w' ob f'∧OrdF C f'∧Fr (fun q=>q=ob) w w':=by
 have HL:=Hh (fun(W:World) (f:Fr (fun q=>q=ob) w W)=>show Nats W zv Z from hZ.fr f hZb);have HP:=Hh (fun(W:World) (f:Fr (fun q=>q=ob) w W)=>hP.fr f (fun q hq e=>hMo (e ▸ hq)) (fun q hq e=>hIo (e ▸ hq)));have HGe:=Hh (fun x y (hx:x<V.length) (hy:y<V.length)=>(zxr B pb ob mc ms mn hMo hIo (x+y+1) x y (Nat.lt_succ_self _) hx hy:GeIs M I C V BV pb ob mc ms mn x y));obtain⟨la,lc,rfl,hlc,hlcm,z⟩:=hZ;obtain⟨res,hres⟩:∃res,res=thrI (Z.find? (g x)):=⟨_,rfl⟩;rw[←hres];have HLt:=Hh hZt;have HF:=Hh hf;have HO:=Hh ho;have Hg:=Hh hg;have HRes:=Hh hres;have HX:=Hh hx;clear hP hf ho hZt z hZb hMo hIo hg hres hx;go_enter Tryz.func149,Tryz.ntmps149;go_wp2_with fail;go_loopw [15] (fun t W=>∃(k:Nat) (f1:Nat × Nat→Option Bool),t=.int .i64 k/\k≤Z.length/\(Z.take k).find? (g x)=none/\MapF encP encB W ob f1/\OrdF C f1/\Fr (fun q=>q=ob) w W) (fun t _=>Z.length-(intOf t).toNat)
 case atStart=>exact⟨0,f,rfl,Nat.zero_le _,rfl,HF.out,HO.out,Fr.refl _ _⟩
 case round =>
  obtain⟨k,f1,rfl,hk,hno,hf1,ho1,hfr⟩:=hrel;obtain⟨w6,rfl⟩:∃w6,w6=wr:=⟨_,rfl⟩;have HF1:=Hh hf1;have HO1:=Hh ho1;have HFr:=Hh hfr;have HNo:=Hh hno;clear hf1 ho1 hfr hno;by_cases hkl:k<Z.length
  ·obtain⟨z,hz⟩:∃z,Z[k]?=some z:=⟨_,List.getElem?_eq_getElem hkl⟩
   have hzl:=HLt.out z (List.mem_of_getElem? hz);obtain⟨_,_,ee,_,_,hcc⟩:=HL.out w6 HFr.out;cases ee
   obtain⟨b1,o1,ha1,d1⟩:=hcc k z hz;have ix1:=za7 la Z.length lc k b1 o1 hkl ha1;unfold encN at d1;obtain⟨a,ha⟩:∃a,a=g x z:=⟨_,rfl⟩;obtain⟨hi',ez⟩:=List.getElem?_eq_some_iff.1 hz
   have htk:(Z.take (k+1)).find? (g x)=if a=true then some z else none:=by
    rw[List.take_succ_eq_append_getElem hkl,ez,List.find?_append,HNo.out,Option.none_or,ha];cases hb:g x z <;> simp[hb]
   have hres:a=true→res=(z:Int):=fun h=>by
    rw[HRes.out,←List.take_append_drop (k+1) Z,List.find?_append,htk,if_pos h];rfl
   have hgo:a=false→(Z.take (k+1)).find? (g x)=none:=fun h=>by rw[htk,h];rfl
   have HRs:=Hh hres;have HGo:=Hh hgo;cases lf with
   | true =>
    have ha':a=geV C x z:=by rw[ha,Hg.out];rfl
    have h1:=HGe.out x z HX.out hzl;unfold GeIs at h1;rw[←ha']at h1;have H1:=Hh h1;clear hcc hz ha1 ha htk hres hgo h1 ha' ez;go_wp2_with fail;refine(H1.out f1 w6 (HP.out w6 HFr.out) HF1.out HO1.out).mono ?_
    rintro e w8 ⟨rfl,f3,hf3,ho3,hfr3⟩;have HF3:=Hh hf3;have HO3:=Hh ho3;have HFr3:=Hh (HFr.out.trans hfr3 (fun _ _ q=>q));clear hf3 ho3 hfr3 d1 ix1;cases a with
    | true =>
     have hr:=HRs.out rfl;go_wp2_with fail;go_ret;exact⟨by rw[hr] <;> rfl,f3,HF3.out,HO3.out,HFr3.out⟩
    | false =>
     have HNx:=Hh (HGo.out rfl);go_wp2_with fail;go_roundw
     case rel=>exact⟨k+1,f3,by go_num,by omega,HNx.out,HF3.out,HO3.out,HFr3.out⟩
     case measure=>simp[intOf];omega
   | false =>
    have ha':a=geV C z x:=by rw[ha,Hg.out];rfl
    have h1:=HGe.out z x hzl HX.out;unfold GeIs at h1;rw[←ha']at h1;have H1:=Hh h1;clear hcc hz ha1 ha htk hres hgo h1 ha' ez;go_wp2_with fail;refine(H1.out f1 w6 (HP.out w6 HFr.out) HF1.out HO1.out).mono ?_
    rintro e w8 ⟨rfl,f3,hf3,ho3,hfr3⟩;have HF3:=Hh hf3;have HO3:=Hh ho3;have HFr3:=Hh (HFr.out.trans hfr3 (fun _ _ q=>q));clear hf3 ho3 hfr3 d1 ix1;cases a with
    | true =>
     have hr:=HRs.out rfl;go_wp2_with fail;go_ret;exact⟨by rw[hr] <;> rfl,f3,HF3.out,HO3.out,HFr3.out⟩
    | false =>
     have HNx:=Hh (HGo.out rfl);go_wp2_with fail;go_roundw
     case rel=>exact⟨k+1,f3,by go_num,by omega,HNx.out,HF3.out,HO3.out,HFr3.out⟩
     case measure=>simp[intOf];omega
  ·have hk':k=Z.length:=by omega
   have hr:res=-1:=by
    have h:=HNo.out;rw[hk',List.take_length]at h;rw[HRes.out,h];rfl
   clear hk';go_wp2_with fail;go_ret;exact⟨by rw[hr] <;> rfl,f1,HF1.out,HO1.out,HFr.out⟩
theorem yb8 {V:List PL}{C:List Nat}(B:BookC V C){x:Nat}(hx:x<V.length) :
  (∀L,L=(za2 V x).1→(∀a b,a∈L→b∈L→C.getD a 0=C.getD b 0→a=b)/\L.Pairwise (· < ·))/\∀L,L=(za2 V x).2→(∀a b,a∈L→b∈L→C.getD a 0=C.getD b 0→a=b)/\L.Pairwise (· < ·):=by
 obtain⟨o1,o2⟩:=B.opts x _ (za4 hx);obtain⟨u1,u2⟩:=B.up x _ (za4 hx);have inj:∀a b,a<x→b<x→C.getD a 0=C.getD b 0→a=b:=fun a b ha hb e=>by
  have hl:=B.len;rw[List.getD_eq_getElem?_getD,List.getD_eq_getElem?_getD,List.getElem?_eq_getElem (show a<C.length by omega),List.getElem?_eq_getElem (show b<C.length by omega)]at e;exact(List.getElem_inj B.nodup).1 e
 exact⟨fun L e=>⟨fun a b ha hb h=>inj a b (o1 a (e ▸ ha)) (o1 b (e ▸ hb)) h,e ▸ u1⟩,fun L e=>⟨fun a b ha hb h=>inj a b (o2 a (e ▸ ha)) (o2 b (e ▸ hb)) h,e ▸ u2⟩⟩
theorem zxd {L:List Nat}(hu:L.Pairwise (· < ·))(h:∀a∈L,∀b∈L,a=b):L.length≤1:=by
 match L,hu,h with
 | [],_,_=>simp
 | [_],_,_=>simp
 | a::b::l,hu,h =>
  have h1:=List.rel_of_pairwise_cons hu (show b∈b::l by simp);have h2:=h a (by simp) b (by simp);omega
theorem zn4 {L:List Nat}(h:L.length≤1):∀a∈L,∀b∈L,a=b:=by
 match L,h with
 | [],_=>simp
 | [_],_=>simp
 | a::b::l,h=>simp at h
theorem zir {V:List PL}{C:List Nat}(B:BookC V C){x:Nat}(hx:x<V.length)(hc:CanC (C.getD x 0)) :
  isNB (C.getD x 0)=true↔(za2 V x).1.length≤1/\(za2 V x).2.length≤1/\(∀l∈(za2 V x).1,isNB (C.getD l 0)=true)/\(∀r∈(za2 V x).2,isNB (C.getD r 0)=true)/\∀l∈(za2 V x).1,∀r∈(za2 V x).2,geV C l r=false:=by
 obtain⟨oL,oR⟩:=zax B hx;obtain⟨rL,rR⟩:=yb8 B hx;obtain⟨iL,pL⟩:=rL _ rfl;obtain⟨iR,pR⟩:=rR _ rfl;constructor
 ·intro h
  refine⟨zxd pL fun a ha b hb=>iL a b ha hb (zzk h ((oL _).2 ⟨a,ha,rfl⟩) ((oL _).2 ⟨b,hb,rfl⟩)),zxd pR fun a ha b hb=>iR a b ha hb (zzi h ((oR _).2 ⟨a,ha,rfl⟩) ((oR _).2 ⟨b,hb,rfl⟩)),
   fun l hl=>zzh h ((oL _).2 ⟨l,hl,rfl⟩),fun r hr=>zzg h ((oR _).2 ⟨r,hr,rfl⟩),fun l hl r hr=>zvz h ((oL _).2 ⟨l,hl,rfl⟩) ((oR _).2 ⟨r,hr,rfl⟩)⟩
 ·rintro⟨h1,h2,h3,h4,h5⟩
  refine zzm hc (fun l l' a b=>?_) (fun l l' a b=>?_) (fun l a=>?_) (fun l a=>?_) (fun l r a b=>?_)
  ·obtain⟨y,hy,rfl⟩:=(oL _).1 a
   obtain⟨z,hz,rfl⟩:=(oL _).1 b;rw[zn4 h1 y hy z hz]
  ·obtain⟨y,hy,rfl⟩:=(oR _).1 a
   obtain⟨z,hz,rfl⟩:=(oR _).1 b;rw[zn4 h2 y hy z hz]
  ·obtain⟨y,hy,rfl⟩:=(oL _).1 a
   exact h3 y hy
  ·obtain⟨y,hy,rfl⟩:=(oR _).1 a
   exact h4 y hy
  ·obtain⟨y,hy,rfl⟩:=(oL _).1 a
   obtain⟨z,hz,rfl⟩:=(oR _).1 b;exact h5 y hy z hz
theorem zae (w:World)(n:Nat):Fr NoM w (w.drewN n):=⟨rfl,rfl,rfl,Nat.le_refl _,fun _ _ _=>rfl⟩
def ycb (M I:Nat→Prop)(C:List Nat)(ob:Nat)(res:Bool)(w:World)(e:Ending)(w':World):Prop:=e=.returned (.bool res)/\∃f',MapF encP encB w' ob f'∧OrdF C f'∧Fr (fun q=>q=ob) w w'
set_option maxRecDepth 4000 in
set_option maxHeartbeats 8000000 in
theorem zxg {M I:Nat→Prop}{C:List Nat}{V:List PL}{BV:List Nat}(B:BookC V C)(pb ob:Nat)(mc ms mn:Value)(hMo:¬M ob)(hIo:¬I ob):∀n x,x<n→x<V.length→CanC (C.getD x 0)→∀(f:Nat × Nat→Option Bool) (w:World),PoolS M I w pb V BV (.map (some ob)) mc ms mn→MapF encP encB w ob f→OrdF C f →
  Calls Tryz.prog 89 #[.pointer (some ⟨pb,0,none⟩),.int .i64 (x:Int)] w fun e w'=>ycb M I C ob (isNB (C.getD x 0)) w e w':=by
 intro n;induction n with
 | zero=>intro x h;omega
 | succ n ih =>
  intro x hn hx hc f w hP hF hO;have hiff:=zir B hx hc;obtain⟨res,hres⟩:∃res,res=isNB (C.getD x 0):=⟨_,rfl⟩;rw[←hres]at hiff ⊢;have hsub:∀(y:Nat),(y∈(za2 V x).1∨y∈(za2 V x).2)→y<x/\CanC (C.getD y 0):=fun y hy=>by
   obtain⟨o1,o2⟩:=B.opts x _ (za4 hx);obtain⟨oL,oR⟩:=zax B hx;rcases hy with h|h
   ·exact⟨o1 y h,hc.opt (.inl ((oL _).2 ⟨y,h,rfl⟩))⟩
   ·exact⟨o2 y h,hc.opt (.inr ((oR _).2 ⟨y,h,rfl⟩))⟩
  have HSub:=Hh hsub;have HIh:=Hh ih;have HPs:=Hh (fun(W:World) (f:Fr (fun q=>q=ob) w W)=>show PoolS M I W pb V BV (.map (some ob)) mc ms mn from hP.fr f (fun q hq e=>hMo (by rw[←e];exact hq)) (fun q hq e=>hIo (by rw[←e];exact hq)));have HF:=Hh hF;have HO:=Hh hO;have HGe:=Hh (fun(a b:Nat) (ha:a<x) (hb:b<x)=>zxr (BV:=BV) B pb ob mc ms mn hMo hIo _ a b (Nat.lt_succ_self _) (by omega) (by omega));obtain⟨la,lc,ra,rc,p0,p1,_,_,_,_,hL,hR⟩:=hP.rd;obtain⟨lb,lo,lv,rfl,r1,s1,i1⟩:=hL x hx;obtain⟨rb,ro,rv,rfl,r2,s2,i2⟩:=hR x hx;have ix1:=zbf (some ⟨lb,lo,none⟩) V.length lc x lb lo hx rfl;have ix2:=zbf (some ⟨rb,ro,none⟩) V.length rc x rb ro hx rfl;obtain⟨L,hLe⟩:∃L,L=(za2 V x).1:=⟨_,rfl⟩;obtain⟨R,hRe⟩:∃R,R=(za2 V x).2:=⟨_,rfl⟩;rw[←hLe,←hRe]at hiff;rw[←hLe]at s1 i1;rw[←hRe]at s2 i2;have HUL:=Hh (fun(W:World) (f:Fr (fun q=>q=ob) w W)=>show Nats W lv L from s1.fr f (fun hne q hq e=>hIo (by rw[←e];exact i1 hne q hq)));have HUR:=Hh (fun(W:World) (f:Fr (fun q=>q=ob) w W)=>show Nats W rv R from s2.fr f (fun hne q hq e=>hIo (by rw[←e];exact i2 hne q hq)));have hsub:=HSub.out;rw[←hLe,←hRe]at hsub;have HSub:=Hh hsub;have HIff:=Hh hiff;have hL9:L.length≤9223372036854775807:=by obtain⟨a,c,_,h1,h2,_⟩:=s1;omega
  have hR9:R.length≤9223372036854775807:=by obtain⟨a,c,_,h1,h2,_⟩:=s2;omega
  obtain⟨ua,uc,rfl,z⟩:=id s1;clear z;obtain⟨va,vc,rfl,z⟩:=id s2;clear z hL hR s1 s2 i1 i2 hLe hRe hsub hiff hP hF hO hc ih hres;go_enter Tryz.func89,Tryz.ntmps89;go_upto_region 1 with fail;go_quiet (fail);obtain⟨w2,hw2⟩:∃w2,w2=w.drewN nq:=⟨_,rfl⟩;have hf2:Fr NoM w w2:=by rw[hw2];exact⟨rfl,rfl,rfl,Nat.le_refl _,fun _ _ _=>rfl⟩
  rw[←hw2];have F2:=Hh (hf2.any (M:=fun q=>q=ob));have HF2:=Hh (HF.out.fr hf2 (fun q=>q));clear hf2 hw2 p0 p1 r1 r2 ix1 ix2;by_cases h1:1<L.length
  ·have HN:=Hh (show res=false from by
    cases hc:res with
    | false=>rfl
    | true=>have:=(HIff.out.1 hc).1;omega)
   have h1':(1:Int)<(L.length:Int):=by omega
   go_wp2_with fail;go_ret;exact⟨by rw[HN.out];rfl,f,HF2.out,HO.out,F2.out⟩
  ·by_cases h2:1<R.length
   ·have HN:=Hh (show res=false from by
     cases hc:res with
     | false=>rfl
     | true=>have:=(HIff.out.1 hc).2.1;omega)
    have h1':¬(1:Int)<(L.length:Int):=by omega
    have h2':(1:Int)<(R.length:Int):=by omega
    go_wp2_with fail;go_ret;exact⟨by rw[HN.out];rfl,f,HF2.out,HO.out,F2.out⟩
   ·have h1':¬(1:Int)<(L.length:Int):=by omega
    have h2':¬(1:Int)<(R.length:Int):=by omega
    go_wp2_with fail;go_loopw [35] (fun t W=>∃(k:Nat) (f':Nat × Nat→Option Bool),t=.int .i64 (k:Int)/\k≤L.length/\(∀r∈L.take k,isNB (C.getD r 0)=true)/\MapF encP encB W ob f'∧OrdF C f'∧Fr (fun q=>q=ob) w2 W) (fun t _=>L.length-(intOf t).toNat)
    case atStart=>exact⟨0,f,rfl,Nat.zero_le _,by simp,HF2.out,HO.out,Fr.refl _ _⟩
    case round =>
     obtain⟨k,f7,rfl,hk,hall,hm7,ho7,hf7⟩:=hrel;obtain⟨w7,rfl⟩:∃w7,w7=wr:=⟨_,rfl⟩;have F7:=Hh (F2.out.trans hf7 (fun _ _ q=>q));have F27:=Hh hf7;have e4:=HUL.out w7 F7.out;have HAll:=Hh hall;have HM7:=Hh hm7;have HO7:=Hh ho7;clear hall hm7 ho7 hf7;by_cases hkl:k<L.length
     ·obtain⟨r,hr⟩:∃r,L[k]?=some r:=⟨_,List.getElem?_eq_getElem hkl⟩
      obtain⟨hrx,hrc⟩:=HSub.out r (.inl (List.mem_of_getElem? hr));obtain⟨a',c',ee,_,_,hcc⟩:=e4;cases ee
      obtain⟨b3,o3,ha3,c3⟩:=hcc k r hr;have c3':w7.cell? ⟨b3,o3+k,none⟩=some (.int .i64 (r:Int)):=c3;have ix3:=za7 ua L.length uc k b3 o3 hkl ha3;have hq:=HIh.out r (by omega) (by omega) hrc f7 w7 (HPs.out w7 F7.out) HM7.out HO7.out;obtain⟨gb,hgb⟩:∃gb,gb=isNB (C.getD r 0):=⟨_,rfl⟩;rw[←hgb]at hq;have HGq:=Hh hq;have HGb:=Hh hgb;have HR':=Hh hr;clear hr hcc ha3 c3 hq hgb;go_wp2_with fail;(with_reducible refine HGq.out.mono ?_);rintro e w8 ⟨rfl,f8,hm8,ho8,hf8⟩;have HM8:=Hh hm8;have HO8:=Hh ho8;have F8:=Hh (F7.out.trans hf8 (fun _ _ q=>q));have F28:=Hh (F27.out.trans hf8 (fun _ _ q=>q));clear hm8 ho8 hf8 c3';cases gb with
      | false =>
       have hn:res=false:=by
        cases hc:res with
        | false=>rfl
        | true=>have:=(HIff.out.1 hc).2.2.1 r (List.mem_of_getElem? HR'.out);rw[←HGb.out]at this;cases this
       have HN:=Hh hn;clear hn;go_wp2_with fail;go_ret;exact⟨by rw[HN.out];rfl,f8,HM8.out,HO8.out,F8.out⟩
      | true =>
       go_wp2_with fail;go_roundw
       case rel=>exact⟨k+1,f8,by go_num,by omega,fun r' hr'=>by
        obtain⟨hkl',ee⟩:=List.getElem?_eq_some_iff.1 HR'.out
        rw[List.take_succ_eq_append_getElem hkl',List.mem_append,List.mem_singleton]at hr';rcases hr' with hr'|hr'
        ·exact HAll.out r' hr'
        ·rw[hr',ee];exact HGb.out.symm,HM8.out,HO8.out,F28.out⟩
       case measure=>simp[intOf];omega
     ·have hk':k=L.length:=by omega
      subst hk';have hallL:∀r∈L,isNB (C.getD r 0)=true:=by have:=HAll.out;rwa [List.take_length]at this
      have HAllL:=Hh hallL;clear hallL HAll e4;go_wp2_with fail;go_loopw [46] (fun t W=>∃(k:Nat) (f':Nat × Nat→Option Bool),t=.int .i64 (k:Int)/\k≤R.length/\(∀r∈R.take k,isNB (C.getD r 0)=true)/\MapF encP encB W ob f'∧OrdF C f'∧Fr (fun q=>q=ob) w7 W) (fun t _=>R.length-(intOf t).toNat)
      case atStart=>exact⟨0,f7,rfl,Nat.zero_le _,by simp,HM7.out,HO7.out,Fr.refl _ _⟩
      case round =>
       obtain⟨k,f6,rfl,hk,hall,hm6,ho6,hf6⟩:=hrel;obtain⟨w6,rfl⟩:∃w6,w6=wr:=⟨_,rfl⟩;have F6:=Hh (F7.out.trans hf6 (fun _ _ q=>q));have F76:=Hh hf6;have e4:=HUR.out w6 F6.out;have HAll:=Hh hall;have HM6:=Hh hm6;have HO6:=Hh ho6;clear hall hm6 ho6 hf6;by_cases hkl:k<R.length
       ·obtain⟨r,hr⟩:∃r,R[k]?=some r:=⟨_,List.getElem?_eq_getElem hkl⟩
        obtain⟨hrx,hrc⟩:=HSub.out r (.inr (List.mem_of_getElem? hr));obtain⟨a',c',ee,_,_,hcc⟩:=e4;cases ee
        obtain⟨b3,o3,ha3,c3⟩:=hcc k r hr;have c3':w6.cell? ⟨b3,o3+k,none⟩=some (.int .i64 (r:Int)):=c3;have ix3:=za7 va R.length vc k b3 o3 hkl ha3;have hq:=HIh.out r (by omega) (by omega) hrc f6 w6 (HPs.out w6 F6.out) HM6.out HO6.out;obtain⟨gb,hgb⟩:∃gb,gb=isNB (C.getD r 0):=⟨_,rfl⟩;rw[←hgb]at hq;have HGq:=Hh hq;have HGb:=Hh hgb;have HR':=Hh hr;clear hr hcc ha3 c3 hq hgb;go_wp2_with fail;(with_reducible refine HGq.out.mono ?_);rintro e w8 ⟨rfl,f8,hm8,ho8,hf8⟩;have HM8:=Hh hm8;have HO8:=Hh ho8;have F8:=Hh (F6.out.trans hf8 (fun _ _ q=>q));have F78:=Hh (F76.out.trans hf8 (fun _ _ q=>q));clear hm8 ho8 hf8 c3';cases gb with
        | false =>
         have hn:res=false:=by
          cases hc:res with
          | false=>rfl
          | true=>have:=(HIff.out.1 hc).2.2.2.1 r (List.mem_of_getElem? HR'.out);rw[←HGb.out]at this;cases this
         have HN:=Hh hn;clear hn;go_wp2_with fail;go_ret;exact⟨by rw[HN.out];rfl,f8,HM8.out,HO8.out,F8.out⟩
        | true =>
         go_wp2_with fail;go_roundw
         case rel=>exact⟨k+1,f8,by go_num,by omega,fun r' hr'=>by
          obtain⟨hkl',ee⟩:=List.getElem?_eq_some_iff.1 HR'.out
          rw[List.take_succ_eq_append_getElem hkl',List.mem_append,List.mem_singleton]at hr';rcases hr' with hr'|hr'
          ·exact HAll.out r' hr'
          ·rw[hr',ee];exact HGb.out.symm,HM8.out,HO8.out,F78.out⟩
         case measure=>simp[intOf];omega
       ·have hk':k=R.length:=by omega
        subst hk';have hallR:∀r∈R,isNB (C.getD r 0)=true:=by have:=HAll.out;rwa [List.take_length]at this
        have HAllR:=Hh hallR;clear hallR HAll;have HL1:=Hh (show L.length≤1 by omega);have HR1:=Hh (show R.length≤1 by omega);by_cases hz:L.length=0∨R.length=0
        ·have hn:res=true:=HIff.out.2 ⟨HL1.out,HR1.out,HAllL.out,HAllR.out,fun l hl r hr=>by
          rcases hz with h|h
          ·rw[List.length_eq_zero_iff]at h;rw[h]at hl;simp at hl
          ·rw[List.length_eq_zero_iff]at h;rw[h]at hr;simp at hr⟩
         have HN:=Hh hn;clear hn;by_cases hl0:L.length=0
         ·have hl0':((L.length:Int) == 0)=true:=by rw[hl0];rfl
          have hl1':(L.length:Int)=0:=by omega
          clear e4 hz;go_upto_region 16 with fail;go_quiet (fail);go_wp2_with fail;go_ret;exact⟨by rw[HN.out];rfl,f6,HM6.out.fr (zae w6 nq) (fun q=>q),HO6.out,F6.out.trans (zae w6 nq) (fun _ _ q=>q.elim)⟩
         ·have hr0:R.length=0:=hz.resolve_left hl0
          have hl0':((L.length:Int) == 0)=false:=by rw[beq_eq_false_iff_ne];omega
          have hr0':((R.length:Int) == 0)=true:=by rw[hr0];rfl
          have hl1':¬(L.length:Int)=0:=by omega
          have hr1':(R.length:Int)=0:=by omega
          clear e4 hz;go_upto_region 16 with fail;go_quiet (fail);go_wp2_with fail;go_ret;exact⟨by rw[HN.out];rfl,f6,HM6.out.fr (zae w6 nq) (fun q=>q),HO6.out,F6.out.trans (zae w6 nq) (fun _ _ q=>q.elim)⟩
        ·obtain⟨a,ha⟩:∃a,L[0]?=some a:=⟨_,List.getElem?_eq_getElem (by omega)⟩
         obtain⟨b,hb⟩:∃b,R[0]?=some b:=⟨_,List.getElem?_eq_getElem (by omega)⟩;have hma:=List.mem_of_getElem? ha;have hmb:=List.mem_of_getElem? hb;obtain⟨hax,_⟩:=HSub.out a (.inl hma);obtain⟨hbx,_⟩:=HSub.out b (.inr hmb);have hn:res=!geV C a b:=by
          cases hc:geV C a b with
          | true =>
           cases hd:res with
           | false=>rfl
           | true=>have:=(HIff.out.1 hd).2.2.2.2 a hma b hmb;rw[hc]at this;cases this
          | false =>
           exact HIff.out.2 ⟨HL1.out,HR1.out,HAllL.out,HAllR.out,fun l hl r hr=>by
            rw[zn4 HL1.out l hl a hma,zn4 HR1.out r hr b hmb];exact hc⟩
         have hl0':((L.length:Int) == 0)=false:=by rw[beq_eq_false_iff_ne];omega
         have hr0':((R.length:Int) == 0)=false:=by rw[beq_eq_false_iff_ne];omega
         have hl1':¬(L.length:Int)=0:=by omega
         have hr1':¬(R.length:Int)=0:=by omega
         obtain⟨_,_,ee,_,_,hcc⟩:=HUL.out w6 F6.out;cases ee
         obtain⟨b3,o3,ha3,c3⟩:=hcc 0 a ha;have c3':w6.cell? ⟨b3,o3,none⟩=some (.int .i64 (a:Int)):=c3;obtain⟨_,_,ee,_,_,hcd⟩:=e4;cases ee
         obtain⟨b4,o4,ha4,c4⟩:=hcd 0 b hb;have c4':w6.cell? ⟨b4,o4,none⟩=some (.int .i64 (b:Int)):=c4;have ix3:∀W,(Instr.indexAt 26 (.slice ua L.length uc) (.int .i64 0)).run Tryz.prog W=.ok (.pointer (some ⟨b3,o3,none⟩)) W:=za7 ua L.length uc 0 b3 o3 (by omega) ha3;have ix4:∀W,(Instr.indexAt 26 (.slice va R.length vc) (.int .i64 0)).run Tryz.prog W=.ok (.pointer (some ⟨b4,o4,none⟩)) W:=za7 va R.length vc 0 b4 o4 (by omega) ha4;have FD:=Hh (F6.out.trans ((Fr.refl NoM w6).drew) (fun _ _ q=>q.elim));have hgq:=HGe.out a b hax hbx f6 w6.drew (HPs.out _ FD.out) (HM6.out.fr ((Fr.refl NoM w6).drew) (fun q=>q)) HO6.out;obtain⟨gb,hgb⟩:∃gb,gb=geV C a b:=⟨_,rfl⟩;rw[←hgb]at hn hgq;have HGq:=Hh hgq;have HN:=Hh hn;clear hgq hgb;clear hcc hcd c3 c4 ha3 ha4 hn ha hb hma hmb hz;go_upto_region 16 with fail;go_still_tail 16,(by kernel_rfl);change wpList _ _ _ _ _ w6.drew
         clear c3' c4' ix3 ix4;go_wp2_with fail;(with_reducible refine HGq.out.mono ?_);rintro e w8 ⟨rfl,f8,hm8,ho8,hf8⟩;have HM8:=Hh hm8;have HO8:=Hh ho8;have F8:=Hh (FD.out.trans hf8 (fun _ _ q=>q));clear hm8 ho8 hf8;cases gb with
         | true =>
          go_wp2_with fail;go_ret;exact⟨by rw[HN.out];rfl,f8,HM8.out,HO8.out,F8.out⟩
         | false =>
          go_wp2_with fail;go_ret;exact⟨by rw[HN.out];rfl,f8,HM8.out,HO8.out,F8.out⟩
def zi5 (C:List Nat)(ob:Nat)(T P:Int)(g:Bool)(w:World)(e:Ending)(w':World):Prop:=e=.returned (.tuple #[.agg #[.int .i64 T,.int .i64 P],.bool g])/\∃f',MapF encP encB w' ob f'∧OrdF C f'∧Fr (fun q=>q=ob) w w'
set_option maxRecDepth 4000 in
set_option maxHeartbeats 8000000 in
theorem zns {M I:Nat→Prop}{C:List Nat}{V:List PL}{BV:List Nat}(B:BookC V C)(pb ob:Nat)(mc ms mn:Value)(hMo:¬M ob)(hIo:¬I ob):∀n x,x<n→x<V.length→CanC (C.getD x 0)→∀(f:Nat × Nat→Option Bool) (w:World),PoolS M I w pb V BV (.map (some ob)) mc ms mn→MapF encP encB w ob f→OrdF C f →
  Calls Tryz.prog 52 #[.pointer (some ⟨pb,0,none⟩),.int .i64 (x:Int)] w fun e w'=>zi5 C ob (valD (C.getD x 0)).1 ((valD (C.getD x 0)).2:Int) (valB (C.getD x 0)) w e w':=by
 intro n;induction n with
 | zero=>intro x h;omega
 | succ n ih =>
  intro x hn hx hc f w hP hF hO;obtain⟨c,hcx⟩:∃c,c=C.getD x 0:=⟨_,rfl⟩;have hrows:=zir B hx hc;have hisn:=zxg (BV:=BV) B pb ob mc ms mn hMo hIo _ x (Nat.lt_succ_self _) hx hc;obtain⟨oL,oR⟩:=zax B hx;have hsub:∀(y:Nat),(y∈(za2 V x).1∨y∈(za2 V x).2)→y<x/\CanC (C.getD y 0):=fun y hy=>by
   obtain⟨o1,o2⟩:=B.opts x _ (za4 hx);rcases hy with h|h
   ·exact⟨o1 y h,hc.opt (.inl ((oL _).2 ⟨y,h,rfl⟩))⟩
   ·exact⟨o2 y h,hc.opt (.inr ((oR _).2 ⟨y,h,rfl⟩))⟩
  rw[←hcx]at hrows hisn oL oR hc ⊢;obtain⟨w1,hw1⟩:∃w1,w1=w.alloc (.cells #[.int .i64 0,.int .i64 0] 43):=⟨_,rfl⟩;have f1:Fr NoM w w1:=by rw[hw1];exact(Fr.refl NoM w).alloc _
  have hs1:w1.heap.size=w.heap.size+1:=by rw[hw1];simp
  have e1:w1.heap[w.heap.size]?=some (.cells #[.int .i64 0,.int .i64 0] 43 (0,0)):=by rw[hw1];exact heap_alloc_new w _
  have hob:=hF.lt;have HR:=Hh (fun(W:World) (f:Fr (fun q=>q=ob) w1 W)=>show W.cell? ⟨w.heap.size,0,none⟩=some (.int .i64 0)/\W.cell? ⟨w.heap.size,1,none⟩=some (.int .i64 0)/\W.frozen? ⟨w.heap.size,0,none⟩=false/\W.frozen? ⟨w.heap.size,1,none⟩=false from by
   have h0:=f.heap e1 (fun q=>by omega);exact⟨by rw[cell_of_row W _ 0 _ _ _ h0];rfl,by rw[cell_of_row W _ 1 _ _ _ h0];rfl,by simp[World.frozen?,h0],by simp[World.frozen?,h0]⟩)
  have HPs:=Hh (fun(W:World) (f:Fr (fun q=>q=ob) w1 W)=>show PoolS M I W pb V BV (.map (some ob)) mc ms mn from(hP.fr0 f1).fr f (fun q hq e=>hMo (by rw[←e];exact hq)) (fun q hq e=>hIo (by rw[←e];exact hq)));have hIs:=hisn f w1 (hP.fr0 f1) (hF.fr f1 (fun q=>q)) hO;have HEnd:=Hh (fun(W:World) (g:Nat × Nat→Option Bool) (T P:Int) (hm:MapF encP encB W ob g) (ho:OrdF C g) (hf:Fr (fun q=>q=ob) w1 W)=>(by
   have h1:=(f1.any.trans hf (fun _ _ q=>q)).setCell ⟨w.heap.size,0,none⟩ (.int .i64 T) (fun h=>by have h:w.heap.size<w.heap.size:=h;omega);have h2:=h1.setCell ⟨w.heap.size,1,none⟩ (.int .i64 P) (fun h=>by have h:w.heap.size<w.heap.size:=h;omega);refine⟨g,(hm.fr (Fr.set W ⟨w.heap.size,0,none⟩ (.int .i64 T)) (fun h=>by have h:ob=w.heap.size:=h;omega)).fr (Fr.set _ ⟨w.heap.size,1,none⟩ (.int .i64 P)) (fun h=>by have h:ob=w.heap.size:=h;omega),ho,h2⟩:∃f',MapF encP encB ((W.setCell ⟨w.heap.size,0,none⟩ (.int .i64 T)).setCell ⟨w.heap.size,1,none⟩ (.int .i64 P)) ob f'∧OrdF C f'∧Fr (fun q=>q=ob) w ((W.setCell ⟨w.heap.size,0,none⟩ (.int .i64 T)).setCell ⟨w.heap.size,1,none⟩ (.int .i64 P))))
  have HIs:=Hh hIs;have HS1:=Hh hs1;have HOb:=Hh hob;obtain⟨T,hT⟩:∃T,T=(valD c).1:=⟨_,rfl⟩;obtain⟨P,hP2⟩:∃P,P=((valD c).2:Int):=⟨_,rfl⟩;obtain⟨g,hg⟩:∃g,g=valB c:=⟨_,rfl⟩;rw[←hT,←hP2,←hg];have HV:=Hh (And.intro hT (And.intro hP2 hg));clear hT hP2 hg hisn hIs;cases hisb:isNB c with
  | false =>
   have hv:T=0/\P=0/\g=false:=by
    obtain⟨a,b,d⟩:=HV.out;have h1:=zhm hisb;have h2:=zda h1;rw[h2]at a b;exact⟨a,b,d.trans h1⟩
   obtain⟨rfl,rfl,rfl⟩:=hv;rw[hisb]at HIs;clear hP hF hO hrows oL oR hsub ih hc hisb HV f1 hs1 e1 hob;go_enter Tryz.func52,Tryz.ntmps52;go_wp2_with fail;rw[←hw1];clear hw1;(with_reducible refine HIs.out.mono ?_);rintro e w2 ⟨rfl,f2,hm2,ho2,hf2⟩;have HM:=Hh (HEnd.out w2 f2 0 0 hm2 ho2 hf2);obtain⟨r0,r1,r2,r3⟩:=HR.out w2 hf2;clear hm2 ho2 hf2;go_wp2_with fail;refine bodyPost_ret (v:=.tuple #[.agg #[.int .i64 0,.int .i64 0],.bool false]) (by simp[results,Tryz.results52,go_sem,r0,r1,r2,r3]) rfl ?_
   exact⟨rfl,HM.out⟩
  | true =>
   rw[hisb]at HIs;obtain⟨hl1,hr1,_,_,_⟩:=hrows.1 hisb;obtain⟨L,hLe⟩:∃L,L=(za2 V x).1:=⟨_,rfl⟩;obtain⟨R,hRe⟩:∃R,R=(za2 V x).2:=⟨_,rfl⟩;rw[←hLe]at hl1 oL hsub;rw[←hRe]at hr1 oR hsub;have HIh:=Hh (fun(y:Nat) (hy:y<x) (hcy:CanC (C.getD y 0)) (f:Nat × Nat→Option Bool) (W:World) (hf:Fr (fun q=>q=ob) w1 W) (hm:MapF encP encB W ob f) (ho:OrdF C f)=>ih y (by omega) (by omega) hcy f W (HPs.out W hf) hm ho);clear hP hF hO hrows ih hc f1 hs1 e1 hob;match L,R,hl1,hr1,hLe,hRe,oL,oR,hsub with
   | [],[],hl1,hr1,hLe,hRe,oL,oR,hsub =>
    have hv:T=0/\P=0/\g=true:=by
     obtain⟨a,b,d⟩:=HV.out;obtain⟨h1,h2⟩:=zrn hisb (fun l hl=>by obtain⟨y,hy,_⟩:=(oL l).1 hl;simp at hy) (fun l hl=>by obtain⟨y,hy,_⟩:=(oR l).1 hl;simp at hy);rw[h2]at a b;exact⟨a,b,d.trans h1⟩
    obtain⟨rfl,rfl,rfl⟩:=hv;have HLe:=Hh hLe;have HRe:=Hh hRe;clear hLe hRe oL oR hsub hl1 hr1;go_enter Tryz.func52,Tryz.ntmps52;go_wp2_with fail;rw[←hw1];clear hw1;(with_reducible refine HIs.out.mono ?_);rintro e w2 ⟨rfl,f2,hm2,ho2,hf2⟩;have HM2:=Hh hm2;have HO2:=Hh ho2;have F2:=Hh hf2;obtain⟨la,lc,ra,rc,p0,p1,_,_,_,_,hL,hR⟩:=(HPs.out w2 hf2).rd;obtain⟨lb,lo,lv,rfl,r1,s1,i1⟩:=hL x hx;obtain⟨rb,ro,rv,rfl,r2,s2,i2⟩:=hR x hx;have ix1:=zbf (some ⟨lb,lo,none⟩) V.length lc x lb lo hx rfl;have ix2:=zbf (some ⟨rb,ro,none⟩) V.length rc x rb ro hx rfl;rw[←HLe.out]at s1 i1;rw[←HRe.out]at s2 i2;have HUL:=Hh (fun(W:World) (f:Fr (fun q=>q=ob) w2 W)=>s1.fr f (fun hne q hq e=>hIo (by rw[←e];exact i1 hne q hq)));have HUR:=Hh (fun(W:World) (f:Fr (fun q=>q=ob) w2 W)=>s2.fr f (fun hne q hq e=>hIo (by rw[←e];exact i2 hne q hq)));obtain⟨ua,uc,hlv,z⟩:=id s1;have hlv:lv=.slice ua 0 uc:=hlv;subst hlv;clear z;obtain⟨va,vc,hrv,z⟩:=id s2;have hrv:rv=.slice va 0 vc:=hrv;subst hrv;clear z hL hR s1 s2 i1 i2 hm2 ho2 hf2;go_wp2_with fail;go_quiet (fail);obtain⟨w3,hw3⟩:∃w3,w3=w2.drewN nq:=⟨_,rfl⟩;have hf3:Fr NoM w2 w3:=by rw[hw3];exact zae w2 nq
    rw[←hw3];have F23:=Hh (hf3.any (M:=fun q=>q=ob));have F3:=Hh (F2.out.trans F23.out (fun _ _ q=>q));have HM3:=Hh (HM2.out.fr hf3 (fun q=>q));have HO3:=HO2;clear hf3 hw3 p0 p1 r1 r2 ix1 ix2;have HM:=Hh (HEnd.out w3 f2 0 0 HM3.out HO3.out F3.out);obtain⟨r0,r1,r2,r3⟩:=HR.out w3 F3.out;go_wp2_with fail;refine bodyPost_ret (v:=.tuple #[.agg #[.int .i64 0,.int .i64 0],.bool true]) (by simp[results,Tryz.results52,go_sem,r0,r1,r2,r3]) rfl ?_
    exact⟨rfl,HM.out⟩
   | [a],[],hl1,hr1,hLe,hRe,oL,oR,hsub =>
    have hv:=zrq hisb ((oL _).2 ⟨a,by simp,rfl⟩) (fun r hr=>by obtain⟨y,hy,_⟩:=(oR r).1 hr;simp at hy);obtain⟨Ta,hTa⟩:∃T,T=(valD (C.getD a 0)).1:=⟨_,rfl⟩;obtain⟨Pa,hPa⟩:∃P,P=(valD (C.getD a 0)).2:=⟨_,rfl⟩;obtain⟨ga,hga⟩:∃g,g=valB (C.getD a 0):=⟨_,rfl⟩;have hgooda:ga=true→GoodD Ta Pa:=fun e=>by rw[hTa,hPa];exact(zcb (by rw[←hga];exact e)).2
    obtain⟨hlta,hcana⟩:=hsub a (by simp);have HCalla:=Hh (fun(f:Nat × Nat→Option Bool) (W:World) (hf:Fr (fun q=>q=ob) w1 W) (hm:MapF encP encB W ob f) (ho:OrdF C f)=>show Calls Tryz.prog 52 #[.pointer (some ⟨pb,0,none⟩),.int .i64 (a:Int)] W fun e w'=>zi5 C ob Ta (Pa:Int) ga W e w' from by rw[hTa,hPa,hga];exact HIh.out a hlta hcana f W hf hm ho);rw[←hTa,←hPa,←hga,←HV.out.2.2]at hv;have HVa:=Hh hv;have HGood:=Hh hgooda;clear hTa hPa hga hgooda hlta hcana hv;have HLe:=Hh hLe;have HRe:=Hh hRe;clear hLe hRe oL oR hsub hl1 hr1;go_enter Tryz.func52,Tryz.ntmps52;go_wp2_with fail;rw[←hw1];clear hw1;(with_reducible refine HIs.out.mono ?_);rintro e w2 ⟨rfl,f2,hm2,ho2,hf2⟩;have HM2:=Hh hm2;have HO2:=Hh ho2;have F2:=Hh hf2;obtain⟨la,lc,ra,rc,p0,p1,_,_,_,_,hL,hR⟩:=(HPs.out w2 hf2).rd;obtain⟨lb,lo,lv,rfl,r1,s1,i1⟩:=hL x hx;obtain⟨rb,ro,rv,rfl,r2,s2,i2⟩:=hR x hx;have ix1:=zbf (some ⟨lb,lo,none⟩) V.length lc x lb lo hx rfl;have ix2:=zbf (some ⟨rb,ro,none⟩) V.length rc x rb ro hx rfl;rw[←HLe.out]at s1 i1;rw[←HRe.out]at s2 i2;have HUL:=Hh (fun(W:World) (f:Fr (fun q=>q=ob) w2 W)=>s1.fr f (fun hne q hq e=>hIo (by rw[←e];exact i1 hne q hq)));have HUR:=Hh (fun(W:World) (f:Fr (fun q=>q=ob) w2 W)=>s2.fr f (fun hne q hq e=>hIo (by rw[←e];exact i2 hne q hq)));obtain⟨ua,uc,hlv,z⟩:=id s1;have hlv:lv=.slice ua 1 uc:=hlv;subst hlv;clear z;obtain⟨va,vc,hrv,z⟩:=id s2;have hrv:rv=.slice va 0 vc:=hrv;subst hrv;clear z hL hR s1 s2 i1 i2 hm2 ho2 hf2;go_wp2_with fail;go_quiet (fail);obtain⟨w3,hw3⟩:∃w3,w3=w2.drewN nq:=⟨_,rfl⟩;have hf3:Fr NoM w2 w3:=by rw[hw3];exact zae w2 nq
    rw[←hw3];have F23:=Hh (hf3.any (M:=fun q=>q=ob));have F3:=Hh (F2.out.trans F23.out (fun _ _ q=>q));have HM3:=Hh (HM2.out.fr hf3 (fun q=>q));have HO3:=HO2;clear hf3 hw3 p0 p1 r1 r2 ix1 ix2;obtain⟨_,_,ee,_,_,hcc⟩:=HUL.out w3 F23.out;cases ee
    obtain⟨bba,ooa,haa,ca⟩:=hcc 0 a rfl;have ca':w3.cell? ⟨bba,ooa,none⟩=some (.int .i64 (a:Int)):=ca;have ixa:∀W,(Instr.indexAt 26 (.slice ua 1 uc) (.int .i64 0)).run Tryz.prog W=.ok (.pointer (some ⟨bba,ooa,none⟩)) W:=za7 ua 1 uc 0 bba ooa (by omega) haa;have HCa:=Hh (HCalla.out _ w3 F3.out HM3.out HO3.out);clear hcc ca haa;go_wp2_with fail;(with_reducible refine HCa.out.mono ?_);rintro e w4 ⟨rfl,f4,hm4,ho4,hf4⟩;obtain⟨W4,hW4⟩:∃W,W=w4.alloc (.cells #[.int .i64 Ta,.int .i64 (Pa:Int)] 43):=⟨_,rfl⟩;have gw4:Fr NoM w4 W4:=by rw[hW4];exact(Fr.refl NoM w4).alloc _
    have ew4:W4.heap[w4.heap.size]?=some (.cells #[.int .i64 Ta,.int .i64 (Pa:Int)] 43 (0,0)):=by rw[hW4];exact heap_alloc_new w4 _
    have hnb4:ob<w4.heap.size:=hm4.lt;have HK4:=Hh (fun(W:World) (f:Fr (fun q=>q=ob) W4 W)=>show W.cell? ⟨w4.heap.size,0,none⟩=some (.int .i64 Ta)/\W.cell? ⟨w4.heap.size,1,none⟩=some (.int .i64 (Pa:Int))from by
     have h0:=f.heap ew4 (fun q=>by omega);exact⟨by rw[cell_of_row W _ 0 _ _ _ h0];rfl,by rw[cell_of_row W _ 1 _ _ _ h0];rfl⟩)
    have FF4:=Hh (hf4.trans gw4 (fun _ _ q=>q.elim));have F4:=Hh (F3.out.trans FF4.out (fun _ _ q=>q));have HM4:=Hh (hm4.fr gw4 (fun q=>q));have HO4:=Hh ho4;clear hm4 ho4 hf4 gw4 ew4 hnb4 ca' ixa HCa;go_upto_region 8 with fail;rw[←hW4];clear hW4;cases ga with
    | false =>
     have hg0:=HVa.out.1 rfl;have hv:T=0/\P=0:=by
      obtain⟨u,v,d⟩:=HV.out;rw[zda (d.symm.trans hg0)]at u v;exact⟨u,v⟩
     subst hg0;obtain⟨rfl,rfl⟩:=hv;have HM:=Hh (HEnd.out W4 f4 0 0 HM4.out HO4.out F4.out);obtain⟨r0,r1,r2,r3⟩:=HR.out W4 F4.out;go_wp2_with fail;refine bodyPost_ret (v:=.tuple #[.agg #[.int .i64 0,.int .i64 0],.bool false]) (by simp[results,Tryz.results52,go_sem,r0,r1,r2,r3]) rfl ?_
     exact⟨rfl,HM.out⟩
    | true =>
     have hlow:=zpu hisb (HVa.out.2 rfl);have hadd:=zhi Ta 1 Pa 0 W4 (HGood.out rfl) ⟨by decide,by decide,.inl rfl⟩ g T P (by rw[HV.out.2.2];exact hlow.1) (by rw[HV.out.2.2,hlow.2,HV.out.1,HV.out.2.1];rfl);rw[show((0:Nat):Int)=0 from rfl]at hadd;have HAdd:=Hh hadd;clear hlow hadd;obtain⟨k0,k1⟩:=HK4.out W4 (Fr.refl _ _);go_wp2_with fail;(with_reducible refine HAdd.out.mono ?_);rintro e w5 ⟨rfl,f5⟩;have F5:=Hh (F4.out.trans f5 (fun _ _ q=>q.elim));have HM5:=Hh (HM4.out.fr f5 (fun q=>q));clear f5 k0 k1;have HM:=Hh (HEnd.out w5 f4 T P HM5.out HO4.out F5.out);obtain⟨r0,r1,r2,r3⟩:=HR.out w5 F5.out;go_wp2_with fail;refine bodyPost_ret (v:=.tuple #[.agg #[.int .i64 T,.int .i64 P],.bool g]) (by simp[results,Tryz.results52,go_sem,r0,r1,r2,r3]) rfl ?_
     exact⟨rfl,HM.out⟩
   | [],[b],hl1,hr1,hLe,hRe,oL,oR,hsub =>
    have hv:=zrp hisb ((oR _).2 ⟨b,by simp,rfl⟩) (fun r hr=>by obtain⟨y,hy,_⟩:=(oL r).1 hr;simp at hy);obtain⟨Tb,hTb⟩:∃T,T=(valD (C.getD b 0)).1:=⟨_,rfl⟩;obtain⟨Pb,hPb⟩:∃P,P=(valD (C.getD b 0)).2:=⟨_,rfl⟩;obtain⟨gb,hgb⟩:∃g,g=valB (C.getD b 0):=⟨_,rfl⟩;have hgoodb:gb=true→GoodD Tb Pb:=fun e=>by rw[hTb,hPb];exact(zcb (by rw[←hgb];exact e)).2
    obtain⟨hltb,hcanb⟩:=hsub b (by simp);have HCallb:=Hh (fun(f:Nat × Nat→Option Bool) (W:World) (hf:Fr (fun q=>q=ob) w1 W) (hm:MapF encP encB W ob f) (ho:OrdF C f)=>show Calls Tryz.prog 52 #[.pointer (some ⟨pb,0,none⟩),.int .i64 (b:Int)] W fun e w'=>zi5 C ob Tb (Pb:Int) gb W e w' from by rw[hTb,hPb,hgb];exact HIh.out b hltb hcanb f W hf hm ho);rw[←hTb,←hPb,←hgb,←HV.out.2.2]at hv;have HVa:=Hh hv;have HGood:=Hh hgoodb;clear hTb hPb hgb hgoodb hltb hcanb hv;have HLe:=Hh hLe;have HRe:=Hh hRe;clear hLe hRe oL oR hsub hl1 hr1;go_enter Tryz.func52,Tryz.ntmps52;go_wp2_with fail;rw[←hw1];clear hw1;(with_reducible refine HIs.out.mono ?_);rintro e w2 ⟨rfl,f2,hm2,ho2,hf2⟩;have HM2:=Hh hm2;have HO2:=Hh ho2;have F2:=Hh hf2;obtain⟨la,lc,ra,rc,p0,p1,_,_,_,_,hL,hR⟩:=(HPs.out w2 hf2).rd;obtain⟨lb,lo,lv,rfl,r1,s1,i1⟩:=hL x hx;obtain⟨rb,ro,rv,rfl,r2,s2,i2⟩:=hR x hx;have ix1:=zbf (some ⟨lb,lo,none⟩) V.length lc x lb lo hx rfl;have ix2:=zbf (some ⟨rb,ro,none⟩) V.length rc x rb ro hx rfl;rw[←HLe.out]at s1 i1;rw[←HRe.out]at s2 i2;have HUL:=Hh (fun(W:World) (f:Fr (fun q=>q=ob) w2 W)=>s1.fr f (fun hne q hq e=>hIo (by rw[←e];exact i1 hne q hq)));have HUR:=Hh (fun(W:World) (f:Fr (fun q=>q=ob) w2 W)=>s2.fr f (fun hne q hq e=>hIo (by rw[←e];exact i2 hne q hq)));obtain⟨ua,uc,hlv,z⟩:=id s1;have hlv:lv=.slice ua 0 uc:=hlv;subst hlv;clear z;obtain⟨va,vc,hrv,z⟩:=id s2;have hrv:rv=.slice va 1 vc:=hrv;subst hrv;clear z hL hR s1 s2 i1 i2 hm2 ho2 hf2;go_wp2_with fail;go_quiet (fail);obtain⟨w3,hw3⟩:∃w3,w3=w2.drewN nq:=⟨_,rfl⟩;have hf3:Fr NoM w2 w3:=by rw[hw3];exact zae w2 nq
    rw[←hw3];have F23:=Hh (hf3.any (M:=fun q=>q=ob));have F3:=Hh (F2.out.trans F23.out (fun _ _ q=>q));have HM3:=Hh (HM2.out.fr hf3 (fun q=>q));have HO3:=HO2;clear hf3 hw3 p0 p1 r1 r2 ix1 ix2;obtain⟨_,_,ee,_,_,hcc⟩:=HUR.out w3 F23.out;cases ee
    obtain⟨bbb,oob,hab,cb⟩:=hcc 0 b rfl;have cb':w3.cell? ⟨bbb,oob,none⟩=some (.int .i64 (b:Int)):=cb;have ixb:∀W,(Instr.indexAt 26 (.slice va 1 vc) (.int .i64 0)).run Tryz.prog W=.ok (.pointer (some ⟨bbb,oob,none⟩)) W:=za7 va 1 vc 0 bbb oob (by omega) hab;have HCb:=Hh (HCallb.out _ w3 F3.out HM3.out HO3.out);clear hcc cb hab;go_wp2_with fail;(with_reducible refine HCb.out.mono ?_);rintro e w4 ⟨rfl,f4,hm4,ho4,hf4⟩;obtain⟨W4,hW4⟩:∃W,W=w4.alloc (.cells #[.int .i64 Tb,.int .i64 (Pb:Int)] 43):=⟨_,rfl⟩;have gw4:Fr NoM w4 W4:=by rw[hW4];exact(Fr.refl NoM w4).alloc _
    have ew4:W4.heap[w4.heap.size]?=some (.cells #[.int .i64 Tb,.int .i64 (Pb:Int)] 43 (0,0)):=by rw[hW4];exact heap_alloc_new w4 _
    have hnb4:ob<w4.heap.size:=hm4.lt;have HK4:=Hh (fun(W:World) (f:Fr (fun q=>q=ob) W4 W)=>show W.cell? ⟨w4.heap.size,0,none⟩=some (.int .i64 Tb)/\W.cell? ⟨w4.heap.size,1,none⟩=some (.int .i64 (Pb:Int))from by
     have h0:=f.heap ew4 (fun q=>by omega);exact⟨by rw[cell_of_row W _ 0 _ _ _ h0];rfl,by rw[cell_of_row W _ 1 _ _ _ h0];rfl⟩)
    have FF4:=Hh (hf4.trans gw4 (fun _ _ q=>q.elim));have F4:=Hh (F3.out.trans FF4.out (fun _ _ q=>q));have HM4:=Hh (hm4.fr gw4 (fun q=>q));have HO4:=Hh ho4;clear hm4 ho4 hf4 gw4 ew4 hnb4 cb' ixb HCb;go_upto_region 13 with fail;rw[←hW4];clear hW4;cases gb with
    | false =>
     have hg0:=HVa.out.1 rfl;have hv:T=0/\P=0:=by
      obtain⟨u,v,d⟩:=HV.out;rw[zda (d.symm.trans hg0)]at u v;exact⟨u,v⟩
     subst hg0;obtain⟨rfl,rfl⟩:=hv;have HM:=Hh (HEnd.out W4 f4 0 0 HM4.out HO4.out F4.out);obtain⟨r0,r1,r2,r3⟩:=HR.out W4 F4.out;go_wp2_with fail;refine bodyPost_ret (v:=.tuple #[.agg #[.int .i64 0,.int .i64 0],.bool false]) (by simp[results,Tryz.results52,go_sem,r0,r1,r2,r3]) rfl ?_
     exact⟨rfl,HM.out⟩
    | true =>
     have hlow:=zpu hisb (HVa.out.2 rfl);have hadd:=zhi Tb (-1) Pb 0 W4 (HGood.out rfl) ⟨by decide,by decide,.inl rfl⟩ g T P (by rw[HV.out.2.2];exact hlow.1) (by rw[HV.out.2.2,hlow.2,HV.out.1,HV.out.2.1];rfl);rw[show((0:Nat):Int)=0 from rfl]at hadd;have HAdd:=Hh hadd;clear hlow hadd;obtain⟨k0,k1⟩:=HK4.out W4 (Fr.refl _ _);go_wp2_with fail;(with_reducible refine HAdd.out.mono ?_);rintro e w5 ⟨rfl,f5⟩;have F5:=Hh (F4.out.trans f5 (fun _ _ q=>q.elim));have HM5:=Hh (HM4.out.fr f5 (fun q=>q));clear f5 k0 k1;have HM:=Hh (HEnd.out w5 f4 T P HM5.out HO4.out F5.out);obtain⟨r0,r1,r2,r3⟩:=HR.out w5 F5.out;go_wp2_with fail;refine bodyPost_ret (v:=.tuple #[.agg #[.int .i64 T,.int .i64 P],.bool g]) (by simp[results,Tryz.results52,go_sem,r0,r1,r2,r3]) rfl ?_
     exact⟨rfl,HM.out⟩
   | [a],[b],hl1,hr1,hLe,hRe,oL,oR,hsub =>
    have hv:=zk1 hisb ((oL _).2 ⟨a,by simp,rfl⟩) ((oR _).2 ⟨b,by simp,rfl⟩);obtain⟨Ta,hTa⟩:∃T,T=(valD (C.getD a 0)).1:=⟨_,rfl⟩;obtain⟨Pa,hPa⟩:∃P,P=(valD (C.getD a 0)).2:=⟨_,rfl⟩;obtain⟨ga,hga⟩:∃g,g=valB (C.getD a 0):=⟨_,rfl⟩;have hgooda:ga=true→GoodD Ta Pa:=fun e=>by rw[hTa,hPa];exact(zcb (by rw[←hga];exact e)).2
    obtain⟨hlta,hcana⟩:=hsub a (by simp);have HCalla:=Hh (fun(f:Nat × Nat→Option Bool) (W:World) (hf:Fr (fun q=>q=ob) w1 W) (hm:MapF encP encB W ob f) (ho:OrdF C f)=>show Calls Tryz.prog 52 #[.pointer (some ⟨pb,0,none⟩),.int .i64 (a:Int)] W fun e w'=>zi5 C ob Ta (Pa:Int) ga W e w' from by rw[hTa,hPa,hga];exact HIh.out a hlta hcana f W hf hm ho);obtain⟨Tb,hTb⟩:∃T,T=(valD (C.getD b 0)).1:=⟨_,rfl⟩;obtain⟨Pb,hPb⟩:∃P,P=(valD (C.getD b 0)).2:=⟨_,rfl⟩;obtain⟨gb,hgb⟩:∃g,g=valB (C.getD b 0):=⟨_,rfl⟩;have hgoodb:gb=true→GoodD Tb Pb:=fun e=>by rw[hTb,hPb];exact(zcb (by rw[←hgb];exact e)).2
    obtain⟨hltb,hcanb⟩:=hsub b (by simp);have HCallb:=Hh (fun(f:Nat × Nat→Option Bool) (W:World) (hf:Fr (fun q=>q=ob) w1 W) (hm:MapF encP encB W ob f) (ho:OrdF C f)=>show Calls Tryz.prog 52 #[.pointer (some ⟨pb,0,none⟩),.int .i64 (b:Int)] W fun e w'=>zi5 C ob Tb (Pb:Int) gb W e w' from by rw[hTb,hPb,hgb];exact HIh.out b hltb hcanb f W hf hm ho);rw[←hTa,←hPa,←hga,←hTb,←hPb,←hgb,←HV.out.2.2]at hv;have HVa:=Hh hv;have HGa:=Hh hgooda;have HGb:=Hh hgoodb;clear hTa hPa hga hgooda hlta hcana hTb hPb hgb hgoodb hltb hcanb hv;have HLe:=Hh hLe;have HRe:=Hh hRe;clear hLe hRe oL oR hsub hl1 hr1;go_enter Tryz.func52,Tryz.ntmps52;go_wp2_with fail;rw[←hw1];clear hw1;(with_reducible refine HIs.out.mono ?_);rintro e w2 ⟨rfl,f2,hm2,ho2,hf2⟩;have HM2:=Hh hm2;have HO2:=Hh ho2;have F2:=Hh hf2;obtain⟨la,lc,ra,rc,p0,p1,_,_,_,_,hL,hR⟩:=(HPs.out w2 hf2).rd;obtain⟨lb,lo,lv,rfl,r1,s1,i1⟩:=hL x hx;obtain⟨rb,ro,rv,rfl,r2,s2,i2⟩:=hR x hx;have ix1:=zbf (some ⟨lb,lo,none⟩) V.length lc x lb lo hx rfl;have ix2:=zbf (some ⟨rb,ro,none⟩) V.length rc x rb ro hx rfl;rw[←HLe.out]at s1 i1;rw[←HRe.out]at s2 i2;have HUL:=Hh (fun(W:World) (f:Fr (fun q=>q=ob) w2 W)=>s1.fr f (fun hne q hq e=>hIo (by rw[←e];exact i1 hne q hq)));have HUR:=Hh (fun(W:World) (f:Fr (fun q=>q=ob) w2 W)=>s2.fr f (fun hne q hq e=>hIo (by rw[←e];exact i2 hne q hq)));obtain⟨ua,uc,hlv,z⟩:=id s1;have hlv:lv=.slice ua 1 uc:=hlv;subst hlv;clear z;obtain⟨va,vc,hrv,z⟩:=id s2;have hrv:rv=.slice va 1 vc:=hrv;subst hrv;clear z hL hR s1 s2 i1 i2 hm2 ho2 hf2;go_wp2_with fail;go_quiet (fail);obtain⟨w3,hw3⟩:∃w3,w3=w2.drewN nq:=⟨_,rfl⟩;have hf3:Fr NoM w2 w3:=by rw[hw3];exact zae w2 nq
    rw[←hw3];have F23:=Hh (hf3.any (M:=fun q=>q=ob));have F3:=Hh (F2.out.trans F23.out (fun _ _ q=>q));have HM3:=Hh (HM2.out.fr hf3 (fun q=>q));have HO3:=HO2;clear hf3 hw3 p0 p1 r1 r2 ix1 ix2;obtain⟨_,_,ee,_,_,hcc⟩:=HUL.out w3 F23.out;cases ee
    obtain⟨bba,ooa,haa,ca⟩:=hcc 0 a rfl;have ca':w3.cell? ⟨bba,ooa,none⟩=some (.int .i64 (a:Int)):=ca;have ixa:∀W,(Instr.indexAt 26 (.slice ua 1 uc) (.int .i64 0)).run Tryz.prog W=.ok (.pointer (some ⟨bba,ooa,none⟩)) W:=za7 ua 1 uc 0 bba ooa (by omega) haa;have HCa:=Hh (HCalla.out _ w3 F3.out HM3.out HO3.out);clear hcc ca haa;go_wp2_with fail;(with_reducible refine HCa.out.mono ?_);rintro e w4 ⟨rfl,f4,hm4,ho4,hf4⟩;obtain⟨W4,hW4⟩:∃W,W=w4.alloc (.cells #[.int .i64 Ta,.int .i64 (Pa:Int)] 43):=⟨_,rfl⟩;have gw4:Fr NoM w4 W4:=by rw[hW4];exact(Fr.refl NoM w4).alloc _
    have ew4:W4.heap[w4.heap.size]?=some (.cells #[.int .i64 Ta,.int .i64 (Pa:Int)] 43 (0,0)):=by rw[hW4];exact heap_alloc_new w4 _
    have hnb4:ob<w4.heap.size:=hm4.lt;have HK4:=Hh (fun(W:World) (f:Fr (fun q=>q=ob) W4 W)=>show W.cell? ⟨w4.heap.size,0,none⟩=some (.int .i64 Ta)/\W.cell? ⟨w4.heap.size,1,none⟩=some (.int .i64 (Pa:Int))from by
     have h0:=f.heap ew4 (fun q=>by omega);exact⟨by rw[cell_of_row W _ 0 _ _ _ h0];rfl,by rw[cell_of_row W _ 1 _ _ _ h0];rfl⟩)
    have FF4:=Hh (hf4.trans gw4 (fun _ _ q=>q.elim));have F4:=Hh (F3.out.trans FF4.out (fun _ _ q=>q));have HM4:=Hh (hm4.fr gw4 (fun q=>q));have HO4:=Hh ho4;clear hm4 ho4 hf4 gw4 ew4 hnb4 ca' ixa HCa;go_upto_region 17 with fail;rw[←hW4];clear hW4;have F24:=Hh (F23.out.trans FF4.out (fun _ _ q=>q));obtain⟨_,_,ee,_,_,hcc⟩:=HUR.out W4 F24.out;cases ee
    obtain⟨bbb,oob,hab,cb⟩:=hcc 0 b rfl;have cb':W4.cell? ⟨bbb,oob,none⟩=some (.int .i64 (b:Int)):=cb;have ixb:∀W,(Instr.indexAt 26 (.slice va 1 vc) (.int .i64 0)).run Tryz.prog W=.ok (.pointer (some ⟨bbb,oob,none⟩)) W:=za7 va 1 vc 0 bbb oob (by omega) hab;have HCb:=Hh (HCallb.out _ W4 F4.out HM4.out HO4.out);clear hcc cb hab;go_wp2_with fail;(with_reducible refine HCb.out.mono ?_);rintro e w5 ⟨rfl,f5,hm5,ho5,hf5⟩;obtain⟨W5,hW5⟩:∃W,W=w5.alloc (.cells #[.int .i64 Tb,.int .i64 (Pb:Int)] 43):=⟨_,rfl⟩;have gw5:Fr NoM w5 W5:=by rw[hW5];exact(Fr.refl NoM w5).alloc _
    have ew5:W5.heap[w5.heap.size]?=some (.cells #[.int .i64 Tb,.int .i64 (Pb:Int)] 43 (0,0)):=by rw[hW5];exact heap_alloc_new w5 _
    have hnb5:ob<w5.heap.size:=hm5.lt;have HK5:=Hh (fun(W:World) (f:Fr (fun q=>q=ob) W5 W)=>show W.cell? ⟨w5.heap.size,0,none⟩=some (.int .i64 Tb)/\W.cell? ⟨w5.heap.size,1,none⟩=some (.int .i64 (Pb:Int))from by
     have h0:=f.heap ew5 (fun q=>by omega);exact⟨by rw[cell_of_row W _ 0 _ _ _ h0];rfl,by rw[cell_of_row W _ 1 _ _ _ h0];rfl⟩)
    have FF5:=Hh (hf5.trans gw5 (fun _ _ q=>q.elim));have F5:=Hh (F4.out.trans FF5.out (fun _ _ q=>q));have HM5:=Hh (hm5.fr gw5 (fun q=>q));have HO5:=Hh ho5;clear hm5 ho5 hf5 gw5 ew5 hnb5 cb' ixb HCb;go_upto_region 18 with fail;rw[←hW5];clear hW5;have HK4:=Hh (fun(W:World) (f:Fr (fun q=>q=ob) W5 W)=>HK4.out W (FF5.out.trans f (fun _ _ q=>q)));by_cases hgg:ga=true/\gb=true
    ·obtain⟨rfl,rfl⟩:=hgg
     have hlow:=zpu hisb (HVa.out.2 rfl rfl);have ga:=HGa.out rfl;have gb:=HGb.out rfl;have b1:=zeh (p:=Pa) ga.1;have b2:=zeh (p:=Pb) gb.1;obtain⟨s1,hs1⟩:∃s1,s1=Ta*2^(16-Pa):=⟨_,rfl⟩;obtain⟨s2,hs2⟩:∃s2,s2=Tb*2^(16-Pb):=⟨_,rfl⟩;rw[←hs1,←hs2]at hlow;rw[←hs1]at b1;rw[←hs2]at b2;have H1:=Hh (fun(W:World)=>show Calls Tryz.prog 60 #[.agg #[.int .i64 Ta,.int .i64 (Pa:Int)]] W fun e w'=>e=.returned (.int .i64 s1)/\Fr NoM W w' from by rw[hs1];exact zcv Ta Pa W (by have:=ga.2.1;omega) ga.1);have H2:=Hh (fun(W:World)=>show Calls Tryz.prog 60 #[.agg #[.int .i64 Tb,.int .i64 (Pb:Int)]] W fun e w'=>e=.returned (.int .i64 s2)/\Fr NoM W w' from by rw[hs2];exact zcv Tb Pb W (by have:=gb.2.1;omega) gb.1);have H3:=Hh (fun(W:World)=>show Calls Tryz.prog 75 #[.int .i64 (s1+s2),.int .i64 17] W fun e w'=>e=.returned (.tuple #[.agg #[.int .i64 T,.int .i64 P],.bool g])/\Fr NoM W w' from by
      have h:=zme (s1+s2) 17 W (by omega) (by decide) g (by rw[HV.out.2.2];exact hlow.1);rw[HV.out.2.2,hlow.2,←HV.out.2.2]at h;rw[HV.out.1,HV.out.2.1];exact h)
     have HW:=Hh (show IntKind.i64.wrap (s1+s2)=s1+s2 from by rw[IntKind.wrap_i64];omega);clear hlow ga gb b1 b2 hs1 hs2;go_upto_region 20 with fail;obtain⟨k0,k1⟩:=HK4.out W5 (Fr.refl _ _);obtain⟨k2,k3⟩:=HK5.out W5 (Fr.refl _ _);have K0:Fr NoM W5 W5.drew:=(Fr.refl NoM W5).drew;go_region_law (first
      | (go_simp;first
       | (go_at_call 60;(with_reducible refine(H1.out _).mono ?_);rintro e wc ⟨rfl,fc⟩;have kc:Fr NoM W5 wc:=Fr.trans (by assumption) fc (fun _ _ q=>q);obtain⟨i0,i1⟩:=HK4.out wc kc.any;obtain⟨i2,i3⟩:=HK5.out wc kc.any)
       | (go_at_call 60;(with_reducible refine(H2.out _).mono ?_);rintro e wd ⟨rfl,fd⟩;have kd:Fr NoM W5 wd:=Fr.trans (by assumption) fd (fun _ _ q=>q);obtain⟨j0,j1⟩:=HK4.out wd kd.any;obtain⟨j2,j3⟩:=HK5.out wd kd.any)
       | (go_at_call 75;rw[HW.out];(with_reducible refine(H3.out _).mono ?_);rintro e we ⟨rfl,fe⟩;have ke:Fr NoM W5 we:=Fr.trans (by assumption) fe (fun _ _ q=>q);obtain⟨r0,r1,r2,r3⟩:=HR.out we (F5.out.trans ke (fun _ _ q=>q.elim)))
       | fail)
      | fail)
     all_goals
      have HM:=Hh (HEnd.out we f5 T P (HM5.out.fr ke (fun q=>q)) HO5.out (F5.out.trans ke (fun _ _ q=>q.elim)));go_wp2_with fail;refine bodyPost_ret (v:=.tuple #[.agg #[.int .i64 T,.int .i64 P],.bool g]) (by simp[results,Tryz.results52,go_sem,r0,r1,r2,r3]) rfl ?_
      exact⟨rfl,HM.out⟩
    ·have hg0:=HVa.out.1 (by cases ga <;> cases gb <;> simp at hgg ⊢)
     have hv:T=0/\P=0:=by
      obtain⟨u,v,d⟩:=HV.out;rw[zda (d.symm.trans hg0)]at u v;exact⟨u,v⟩
     subst hg0;obtain⟨rfl,rfl⟩:=hv;have HM:=Hh (HEnd.out W5 f5 0 0 HM5.out HO5.out F5.out);obtain⟨r0,r1,r2,r3⟩:=HR.out W5 F5.out;cases ga with
     | false =>
      go_wp2_with fail;refine bodyPost_ret (v:=.tuple #[.agg #[.int .i64 0,.int .i64 0],.bool false]) (by simp[results,Tryz.results52,go_sem,r0,r1,r2,r3]) rfl ?_
      exact⟨rfl,HM.out⟩
     | true =>
      cases gb with
      | true=>exact absurd ⟨rfl,rfl⟩ hgg
      | false =>
       go_wp2_with fail;refine bodyPost_ret (v:=.tuple #[.agg #[.int .i64 0,.int .i64 0],.bool false]) (by simp[results,Tryz.results52,go_sem,r0,r1,r2,r3]) rfl ?_
       exact⟨rfl,HM.out⟩
   | _::_::_,_,hl1,_,_,_,_,_,_=>simp at hl1
   | _,_::_::_,_,hr1,_,_,_,_,_=>simp at hr1
theorem zzq (n:Nat)(W:World)(hn:n<1000000000):∃cur:Array Value,cur.size=n/\(Instr.makeSlice 26 (.int .i64 0) (.int .i64 (n:Int))).run Tryz.prog W=.ok (.slice (some ⟨W.heap.size,0,none⟩) 0 n) (W.alloc (.cells cur 3)):=by
 obtain⟨i0,hi,hz0,hz1,hz2⟩:=info_parts zaa;have h:=run_make (P:=Tryz.prog) W 26 3 i0 _ Tryz.underlying26 hi hz0 .i64 .i64 0 n (by omega) (by omega) (by rw[hz2];omega) (by omega);rw[hz1,Int.toNat_natCast]at h;exact⟨_,by simp[madeCells],h⟩
theorem NRow.start (W:World)(cur:Array Value)(n:Nat)(hc:cur.size=n)(hn:n<1000000000):NRow W.heap.size (W.alloc (.cells cur 3)) (.slice (some ⟨W.heap.size,0,none⟩) 0 n) [] :=
 ⟨⟨rfl,.inr ⟨W.heap.size,n,cur,rfl,Nat.le_refl _,heap_alloc_new W _,Nat.zero_le _,by unfold maxLen;omega,by rw[hc,Nat.mul_one],by simp⟩⟩,_,_,rfl⟩
theorem zx6 {M I:Nat→Prop}(pb:Nat)(V:List PL)(BV L R:List Nat)(mo mc ms mn:Value)(g1 g2 n1 n2:Nat)(h1:n1=L.length)(h2:n2=R.length)(w:World)(hP:PoolS M I w pb V BV mo mc ms mn)(r1:RowIs 3 encN w g1 L)(r2:RowIs 3 encN w g2 R)
  (hLt:∀x∈L,x<V.length) (hRt:∀x∈R,x<V.length) (hl:L.length<1000000000) (hr:R.length<1000000000) (hn:V.length<1000000000) (hb:∀x∈BV,x<1000000000) :
  Calls Tryz.prog 110 #[.pointer (some ⟨pb,0,none⟩),.slice (some ⟨g1,0,none⟩) n1 n1,.slice (some ⟨g2,0,none⟩) n2 n2] w fun e w'=>e=.returned (.int .i64 ((za5 V BV L R).2.2:Nat)) ∧
   ∃M' I',PoolS M' I' w' pb (za5 V BV L R).1 (za5 V BV L R).2.1 mo mc ms mn/\(∀q,M' q→(M q∨w.heap.size≤q)/\q<w'.heap.size)/\(∀q,I' q→(I q∨w.heap.size≤q)/\q<w'.heap.size)/\Fr M w w':=by
 subst h1;subst h2;refine(zsd pb V BV L R mo mc ms mn g1 0 L.length g2 0 R.length w hP (r1.slice (by omega)) (r2.slice (by omega)) hLt hRt hl hr hn hb).mono ?_
 rintro e w' ⟨rfl,M',I',hp,hM,hI,hf⟩;exact⟨rfl,_,_,hp.low,fun q hq=>⟨hM q hq.1,hq.2⟩,fun q hq=>⟨hI q hq.1,hq.2⟩,hf⟩
theorem later {M1 M2:Nat→Prop}{a b c:World}(h:∀q,M2 q→(M1 q∨b.heap.size≤q)/\q<c.heap.size)(f:Fr NoM a b):∀q,M2 q→(M1 q∨a.heap.size≤q)/\q<c.heap.size :=
 fun q hq=>⟨(h q hq).1.imp_right (Nat.le_trans f.size),(h q hq).2⟩
theorem zky {V:List PL}{BV:List Nat}(h:PoolOK V BV):BookOK V BV:=by
 have hle:∀j,j<V.length→BV.getD j 0≤j:=by
  intro j;induction j using Nat.strongRecOn with
  | _ j ih =>
   intro hj;have e:=za4 hj;obtain⟨o1,o2⟩:=h.opts j _ e;rw[h.born j _ e,zd9,zd9];exact⟨⟨Nat.zero_le _,fun x hx=>by have:=o1 x hx;have:=ih x this (by omega);omega⟩,fun x hx=>by have:=o2 x hx;have:=ih x this (by omega);omega⟩
 exact⟨h.len,h.opts,fun j x hx=>by
  have hj:=(List.getElem?_eq_some_iff.1 hx).1;have:=hle j (by rw[←h.len];exact hj);rw[List.getD_eq_getElem?_getD,hx]at this
  exact this⟩
set_option maxRecDepth 4000 in
set_option maxHeartbeats 8000000 in
theorem zsk {R M I:Nat→Prop}(pb:Nat)(nv:Value)(V Fs:List PL)(BV:List Nat)(mo mc ms mn:Value)(w:World)(hP:PoolS M I w pb V BV mo mc ms mn)(hMl:∀q,M q→q<w.heap.size)(hIl:∀q,I q→q<w.heap.size)(hOK:PoolOK V BV)(hF:NodeL R encN w nv Fs)(hR:∀k,R k→¬M k)
  (ho:OptsOK Fs) (hn:V.length+Fs.length<100000000) (hlen:∀y∈Fs,y.1.length<100000000/\y.2.length<100000000) :
  Calls Tryz.prog 88 #[.pointer (some ⟨pb,0,none⟩),.agg #[nv]] w fun e w'=>∃(v':Value) (M' I':Nat→Prop),e=.returned v'∧NRow w.heap.size w' v' (addB V BV Fs).2.2/\PoolS M' I' w' pb (addB V BV Fs).1 (addB V BV Fs).2.1 mo mc ms mn ∧
   (∀q,M' q→(M q∨w.heap.size≤q)/\q<w'.heap.size/\v'.ownBlock≠some q)/\(∀q,I' q→(I q∨w.heap.size≤q)/\q<w'.heap.size/\v'.ownBlock≠some q)/\Fr M w w':=by
 obtain⟨na,nc,rfl,_,_,hnn⟩:=hF;obtain⟨w1,hw1⟩:∃w1,w1=w.alloc (.cells #[.slice na Fs.length nc] 31):=⟨_,rfl⟩;have f1:Fr NoM w w1:=by rw[hw1];exact(Fr.refl NoM w).alloc _
 have hs1:w1.heap.size=w.heap.size+1:=by rw[hw1];simp
 have e1:w1.heap[w.heap.size]?=some (.cells #[.slice na Fs.length nc] 31 (0,0)):=by rw[hw1];exact heap_alloc_new w _
 have c1:w1.cell? ⟨w.heap.size,0,none⟩=some (.slice na Fs.length nc):=by rw[cell_of_row _ _ 0 _ _ _ e1];rfl
 obtain⟨cur,hcur,mk⟩:=zzq Fs.length w1 (by omega);rw[hw1]at mk;obtain⟨w2,hw2⟩:∃w2,w2=w1.alloc (.cells cur 3):=⟨_,rfl⟩;have f2:Fr NoM w1 w2:=by rw[hw2];exact(Fr.refl NoM w1).alloc _
 have c2:w2.cell? ⟨w.heap.size,0,none⟩=some (.slice na Fs.length nc):=f2.cell c1 (fun q=>q);have hrow:NRow w1.heap.size w2 (.slice (some ⟨w1.heap.size,0,none⟩) 0 Fs.length) []:=by rw[hw2];exact NRow.start w1 cur _ hcur (by omega)
 rw[hs1]at hrow;have HF2:=Hh (f1.trans f2 (fun _ _ q=>q));have HRow:=Hh hrow;have HS1:=Hh hs1;have HP:=Hh hP;have HMl:=Hh hMl;have HIl:=Hh hIl;have HOK:=Hh hOK;have HR:=Hh hR;have HO:=Hh ho;have HLen:=Hh hlen;have HNn:=Hh hnn;have HW1:=Hh hw1;clear hP hMl hIl hOK hR ho hlen hnn f1 f2 hs1 e1 hcur hrow;go_enter Tryz.func88,Tryz.ntmps88;go_wp2_with fail;rw[←hw1,←hw2];clear mk c1 c2 hw1 hw2;go_loopw [5,15] (fun v5 t W=>∃(n:Nat) (v:Value) (M1 I1:Nat→Prop),v=v5/\t=.int .i64 n/\n≤Fs.length/\NRow w.heap.size W v (addB V BV (Fs.take n)).2.2/\PoolS M1 I1 W pb (addB V BV (Fs.take n)).1 (addB V BV (Fs.take n)).2.1 mo mc ms mn ∧
   (∀q,M1 q→(M q∨w.heap.size≤q)/\q<W.heap.size/\v.ownBlock≠some q)/\(∀q,I1 q→(I q∨w.heap.size≤q)/\q<W.heap.size/\v.ownBlock≠some q)/\Fr M w W) (fun _ t _=>Fs.length-(intOf t).toNat)
 case atStart=>exact⟨0,_,M,I,rfl,rfl,Nat.zero_le _,⟨zbb HRow.out.own (by omega),HRow.out.shape⟩,HP.out.fr0 HF2.out,fun q hq=>⟨.inl hq,by
   have h1:=HMl.out q hq;have h2:=HF2.out.size;omega,fun e=>by have e:w.heap.size+1=q:=Option.some.inj e;have h1:=HMl.out q hq;omega⟩,fun q hq=>⟨.inl hq,by
   have h1:=HIl.out q hq;have h2:=HF2.out.size;omega,fun e=>by have e:w.heap.size+1=q:=Option.some.inj e;have h1:=HIl.out q hq;omega⟩,HF2.out.any⟩
 case round =>
  clear HRow;obtain⟨n,v,M1,I1,rfl,rfl,hn',hrow,hp,hM,hI,hfr⟩:=hrel;obtain⟨w7,rfl⟩:∃w7,w7=wr:=⟨_,rfl⟩;have hpre:OptsOK (Fs.take n):=fun j y hy=>HO.out j y (by
   rw[List.getElem?_take]at hy;split at hy
   ·exact hy
   ·cases hy)
  obtain⟨ok1,ok2,ok3,ok4,ok5⟩:=zft (zky HOK.out) (Fs.take n) hpre;have hpk:=zp6 (Fs.take n) hpre HOK.out (zky HOK.out);rw[List.length_take,Nat.min_eq_left hn']at ok2 ok4;obtain⟨lb,lc,rfl⟩:=hrow.shape;obtain⟨⟨Vk,Bk,A⟩,hA⟩:∃s,addB V BV (Fs.take n)=s:=⟨_,rfl⟩;rw[hA]at hrow hp ok1 ok2 ok3 ok4 ok5 hpk ⊢;dsimp only at hrow hp ok1 ok2 ok3 ok4 ok5 hpk ⊢
  by_cases hlt:n<Fs.length
  ·obtain⟨y,hy⟩:∃y,Fs[n]?=some y:=⟨_,List.getElem?_eq_getElem hlt⟩
   obtain⟨b1,o1,lv,rv,ha1,hR1,d1,d2,n1,n2,m1,m2⟩:=HNn.out n y hy;obtain⟨x1,x2⟩:=HO.out n y hy;obtain⟨y1,y2⟩:=HLen.out y (List.mem_of_getElem? hy);have ix:=zb7 na Fs.length nc n b1 o1 hlt ha1;have e1:=hfr.cell d1 (HR.out b1 hR1);have e2:=hfr.cell d2 (HR.out b1 hR1);have t1:=n1.fr hfr (fun hne b hb=>HR.out b (m1 hne b hb));have t2:=n2.fr hfr (fun hne b hb=>HR.out b (m2 hne b hb));have hnext:addB V BV (Fs.take (n+1))=((za5 Vk Bk (za3 A y.1) (za3 A y.2)).1,(za5 Vk Bk (za3 A y.1) (za3 A y.2)).2.1,A ++ [(za5 Vk Bk (za3 A y.1) (za3 A y.2)).2.2]):=by
    obtain⟨hi',ee⟩:=List.getElem?_eq_some_iff.1 hy
    rw[List.take_succ_eq_append_getElem hi',ee,ze0,hA,←zcd hpk];rfl
   have hz1:=zeb (L:=y.1) ok3 (fun x hx=>by rw[ok2];exact x1 x hx);have hz2:=zeb (L:=y.2) ok3 (fun x hx=>by rw[ok2];exact x2 x hx);obtain⟨la,lcc,rfl,z⟩:=id n1;clear z;obtain⟨ra,rcc,rfl,z⟩:=id n2;clear z;obtain⟨w8,hw8⟩:∃w8,w8=w7.alloc (.cells #[.slice la y.1.length lcc,.slice ra y.2.length rcc] 73):=⟨_,rfl⟩;have f8:Fr NoM w7 w8:=by rw[hw8];exact(Fr.refl NoM w7).alloc _
   have hs8:w8.heap.size=w7.heap.size+1:=by rw[hw8];simp
   have hx8:w8.heap[w7.heap.size]?=some (.cells #[.slice la y.1.length lcc,.slice ra y.2.length rcc] 73 (0,0)):=by rw[hw8];exact heap_alloc_new w7 _
   have hvb:∀q,(Value.slice (some ⟨lb,0,none⟩) A.length lc).ownBlock=some q→w.heap.size≤q/\q<w7.heap.size:=fun q hq=>hrow.own.lt q hq
   have HC:=Hh (fun(W:World) (f:Fr (fun q=>M1 q∨(Value.slice (some ⟨lb,0,none⟩) A.length lc).ownBlock=some q) w8 W)=>show W.cell? ⟨w7.heap.size,0,none⟩=some (.slice la y.1.length lcc)/\W.cell? ⟨w7.heap.size,1,none⟩=some (.slice ra y.2.length rcc)from by
    have h:=f.heap hx8 (fun e=>by
     rcases e with e|e
     ·have:=(hM _ e).2.1;omega
     ·have:=hvb _ e;omega)
    exact⟨by rw[cell_of_row _ _ 0 _ _ _ h];rfl,by rw[cell_of_row _ _ 1 _ _ _ h];rfl⟩)
   have HT1:=Hh (fun(W:World) (f:Fr NoM w8 W)=>(t1.fr0 f8).fr0 f);have HT2:=Hh (fun(W:World) (f:Fr NoM w8 W)=>(t2.fr0 f8).fr0 f);have HV:=Hh (fun(W:World) (f:Fr NoM w8 W)=>((hrow.nats.fr0 f8).fr0 f:Nats W (.slice (some ⟨lb,0,none⟩) A.length lc) A));have HRw:=Hh (fun(W:World) (f:Fr (fun q=>M1 q) w8 W)=>(hrow.fr f8 (fun _ _ q=>q)).fr f (fun q hq e=>(hM q e).2.2 hq));have HPl:=Hh (fun(W:World) (f:Fr NoM w8 W)=>(hp.fr0 f8).fr0 f);have HW8:=Hh hw8;have HX1:=Hh x1;have HX2:=Hh x2;have HY1:=Hh y1;have HY2:=Hh y2;have HNext:=Hh hnext;have HZ1:=Hh hz1;have HZ2:=Hh hz2;have HM:=Hh hM;have HI:=Hh hI;have HFr:=Hh hfr;have F8:=Hh f8;have HS8:=Hh hs8;have HVb:=Hh hvb;have HAl:=Hh ok2;have HVl:=Hh (show Vk.length<1000000000 from by omega);have HBl:=Hh (show ∀x∈Bk,x<1000000000 from fun x hx=>by have:=ok1.lt Vk.length (Nat.le_refl _) x hx;omega);have HRow:=Hh hrow;have HSz:=Hh (fun(W:World) (f:Fr M1 w8 W)=>(show w.heap.size≤W.heap.size from by have:=f.size;have:=hfr.size;omega));have HE1:=Hh (show y.1.length=(za3 A y.1).length from by simp[za3]);have HE2:=Hh (show y.2.length=(za3 A y.2).length from by simp[za3]);have HE3:=Hh (show(za3 A y.1).length<1000000000 from by simp[za3];omega);have HE4:=Hh (show(za3 A y.2).length<1000000000 from by simp[za3];omega);clear hrow hp ok1 ok2 ok3 ok4 ok5 hpk hA hpre hy ha1 hR1 d1 d2 n1 n2 m1 m2 x1 x2 y1 y2 t1 t2 hnext hz1 hz2 hM hI hfr hx8 f8 hs8 hvb hw8;have F0:Fr NoM w8 w8.drew:=(Fr.refl NoM w8).drew;have G0:Fr (fun q=>M1 q∨(Value.slice (some ⟨lb,0,none⟩) A.length lc).ownBlock=some q) w8 w8.drew:=F0.any;go_upto_region 5 with fail;rw[←HW8.out];have hs:=HC.out w8 (Fr.refl _ _);go_region_held3 (fun(W:World)=>W.cell? ⟨w7.heap.size,0,none⟩=some (.slice la y.1.length lcc)/\W.cell? ⟨w7.heap.size,1,none⟩=some (.slice ra y.2.length rcc))
    (first|exact HC.out _ (by assumption)|exact HC.out _ (Fr.alloc (by assumption) _))
    (first
     | (go_at_call 134;(with_reducible refine(zk7 (.slice la y.1.length lcc) _ y.1 A _ (HT1.out _ (by assumption)) (HV.out _ (by assumption)) (fun x hx=>by rw[HAl.out];exact HX1.out x hx) (by have:=HY1.out;omega)).mono ?_);rintro e wa ⟨rfl,ra1,fa⟩;(try simp only[World.size_drew]at ra1);have ga:Fr NoM w8 wa:=Fr.trans (by assumption) fa (fun _ _ q=>q);have ka:Fr (fun q=>M1 q∨(Value.slice (some ⟨lb,0,none⟩) A.length lc).ownBlock=some q) w8 wa:=ga.any;try (have rb2:=RowIs.fr (L:=za3 A y.2) (by assumption) fa (fun q=>q)))
     | (go_at_call 134;(with_reducible refine(zk7 (.slice ra y.2.length rcc) _ y.2 A _ (HT2.out _ (by assumption)) (HV.out _ (by assumption)) (fun x hx=>by rw[HAl.out];exact HX2.out x hx) (by have:=HY2.out;omega)).mono ?_);rintro e wb ⟨rfl,rb1,fb⟩;(try simp only[World.size_drew]at rb1);have gb:Fr NoM w8 wb:=Fr.trans (by assumption) fb (fun _ _ q=>q);have kb:Fr (fun q=>M1 q∨(Value.slice (some ⟨lb,0,none⟩) A.length lc).ownBlock=some q) w8 wb:=gb.any;try (have ra2:=RowIs.fr (L:=za3 A y.1) (by assumption) fb (fun q=>q)))
     | (go_at_call 110;(with_reducible refine(zx6 pb Vk Bk (za3 A y.1) (za3 A y.2) mo mc ms mn _ _ _ _ HE1.out HE2.out _ (HPl.out _ (by assumption)) (by assumption) (by assumption) HZ1.out HZ2.out HE3.out HE4.out HVl.out HBl.out).mono ?_);rintro e w3 ⟨rfl,M2,I2,p3,hM3,hI3,f3⟩;have HM4:=Hh (later hM3 (by assumption));have HI4:=Hh (later hI3 (by assumption));clear hM3 hI3;have f30:Fr M1 w8 w3:=Fr.trans (Fr.any (by assumption)) f3 (fun _ _ q=>q);have k3:Fr (fun q=>M1 q∨(Value.slice (some ⟨lb,0,none⟩) A.length lc).ownBlock=some q) w8 w3:=f30.mono (fun _ _ q=>.inl q))
     | (refine zbg (enc:=encN) rfl (.tmp 19) (.tmp 30) 26 rfl w.heap.size 3 (.int .i64 0) 8 Tryz.underlying26 zaa rfl (.slice (some ⟨lb,0,none⟩) A.length lc) A.length (A.map encN) rfl (HRw.out _ (f30.alloc _)).own (.slice (some ⟨w3.heap.size,0,none⟩) 1 1) rfl [(za5 Vk Bk (za3 A y.1) (za3 A y.2)).2.2] (SliceOf.one encN w3 _ 3) (fun _=>rfl) (by have:=HAl.out;simp;omega) (by decide) (by have:=f3.size;have:=HSz.out _ f30;rw[World.size_alloc];omega) ?_;intro v4 w4 h4 f4 q4;have k4:Fr (fun q=>M1 q∨(Value.slice (some ⟨lb,0,none⟩) A.length lc).ownBlock=some q) w8 w4:=(k3.alloc _).trans f4 (fun _ _ q=>.inr q))
     | fail)
   all_goals
    go_wp2;go_roundw
    case rel =>
     have hz:=HS8.out;have hz0:=HFr.out.size;have hz3:=f30.size;have hz4:=f4.size;rw[World.size_alloc]at hz4;have hd:∀q,M2 q→¬Own1 (.slice (some ⟨lb,0,none⟩) A.length lc) q:=fun q hq ho=>by
      rcases (HM4.out q hq).1 with h|h
      ·exact(HM.out q h).2.2 ho
      ·have:=(HVb.out q ho).2;omega
     have hdi:∀q,I2 q→¬Own1 (.slice (some ⟨lb,0,none⟩) A.length lc) q:=fun q hq ho=>by
      rcases (HI4.out q hq).1 with h|h
      ·exact(HI.out q h).2.2 ho
      ·have:=(HVb.out q ho).2;omega
     refine⟨n+1,v4,M2,I2,rfl,by go_num,by omega,?_,?_,fun q hq=>⟨?_,?_,fun e=>?_⟩,fun q hq=>⟨?_,?_,fun e=>?_⟩,?_⟩
     ·rw[HNext.out];exact NRow.snoc h4
     ·rw[HNext.out];exact(p3.fr0 ((Fr.refl NoM w3).alloc _)).fr f4 hd hdi
     ·rcases (HM4.out q hq).1 with h|h
      ·exact(HM.out q h).1
      ·exact .inr (by omega)
     ·have:=(HM4.out q hq).2;omega
     ·rcases q4 with h|⟨b',h,hle⟩
      ·exact hd q hq (h.symm.trans e)
      ·rw[h]at e;cases e
       rw[World.size_alloc]at hle;have:=(HM4.out q hq).2;omega
     ·rcases (HI4.out q hq).1 with h|h
      ·exact(HI.out q h).1
      ·exact .inr (by omega)
     ·have:=(HI4.out q hq).2;omega
     ·rcases q4 with h|⟨b',h,hle⟩
      ·exact hdi q hq (h.symm.trans e)
      ·rw[h]at e;cases e
       rw[World.size_alloc]at hle;have:=(HI4.out q hq).2;omega
     ·refine HFr.out.trans (F8.out.any.trans k4 (fun k hk q=>q)) (fun q hq h=>?_)
      rcases h with h|h
      ·rcases (HM.out q h).1 with h|h
       ·exact h
       ·omega
      ·have:=(HVb.out q h).1;omega
    case measure=>simp[intOf];omega
  ·have hk':n=Fs.length:=by omega
   subst hk';rw[List.take_length]at hA;have HO:=Hh hrow;have HFr:=Hh hfr;have HM:=Hh hM;have HI:=Hh hI;have HPl:=Hh hp;have HA:=Hh hA;clear hrow hfr hM hI hp hA hpre ok1 ok2 ok3 ok4 ok5 hpk;go_wp2;go_ret;refine⟨_,M1,I1,rfl,?_,?_,HM.out,HI.out,HFr.out⟩
   ·rw[HA.out];exact HO.out
   ·rw[HA.out];exact HPl.out
theorem zx8 {w:World}{a:Option Addr}{c x:Nat}{l:List Nat}(h:Nats w (.slice a (l.length+1) c) (x::l)):Nats w (.slice (if c=1 then a else Option.map (fun x=>{ block:=x.block,off:=x.off+1 }) a) l.length (c-1)) l:=by
 obtain⟨a',c',e,h1,h2,hc⟩:=h;cases e
 simp only[List.length_cons]at h1;refine⟨_,_,rfl,by omega,by omega,fun i y hy=>?_⟩;have hi:=(List.getElem?_eq_some_iff.1 hy).1;obtain⟨b,off,ha,hcell⟩:=hc (i+1) y (by simpa using hy);rw[if_neg (by omega),ha];exact⟨b,off+1,rfl,by rw[Nat.add_assoc,Nat.add_comm 1 i];exact hcell⟩
set_option maxRecDepth 4000 in
set_option maxHeartbeats 4000000 in
theorem zk0 (lv pv:Value)(L P:List Nat)(w:World)(hL:Nats w lv L)(hP:Nats w pv P)(hup:P.Pairwise (· < ·))(hl:L.length<1000000000) :
  Calls Tryz.prog 150 #[lv,pv] w fun e w'=>∃v',e=.returned v'∧NRow w.heap.size w' v' (zab L P)/\Fr NoM w w':=by
 obtain⟨la,lc,rfl,hlc,hlcm,hL⟩:=hL;have HL:=Hh hL;clear hL;have HP:=Hh hP;have HU:=Hh hup;clear hP hup;have Hl:=Hh hl;clear hl;go_enter Tryz.func150,Tryz.ntmps150;go_wp2_with fail;go_loopw [1,5,11] (fun p v i wr=>∃(k:Nat) (Q:List Nat),k≤L.length/\i=.int .i64 k/\NRow w.heap.size wr v (zab (L.take k) P)/\Nats w p Q/\Q.Pairwise (· < ·)/\(∀x,x∈Q↔x∈P/\k≤x)/\Fr NoM w wr) (fun _ _ i _=>L.length-(intOf i).toNat)
 case atStart=>exact⟨0,P,by omega,rfl,NRow.made w,HP.out,HU.out,fun x=>by simp,(Fr.refl _ _).alloc _⟩
 case round =>
  obtain⟨k,Q,hk,rfl,hrow,hq,hqu,hqm,hfr⟩:=hrel;obtain⟨w7,rfl⟩:∃w7,w7=wr:=⟨_,rfl⟩;obtain⟨lb,lcc,rfl⟩:=hrow.shape;by_cases hlt':k<L.length
  ·obtain⟨b1,o1,ha1,hc1⟩:=HL.out k L[k] (by simp)
   have hc1':=hfr.cell hc1 (fun q=>q);have ix1:=za7 la L.length lc k b1 o1 hlt' ha1;unfold encN at hc1';have hnext:=zgq L P k hlt';have hlen:=zc7 (L.take k) P;rw[List.length_take,Nat.min_eq_left hk]at hlen;obtain⟨y,hy⟩:∃y,L[k]=y:=⟨_,rfl⟩;rw[hy]at hnext hc1';obtain⟨pa,pc,rfl,_,_,hcc⟩:=id (hq.fr0 hfr);have HQ:=Hh hq;have HRow:=Hh hrow;have HFr:=Hh hfr;have HLen:=Hh hlen;clear hc1 ha1 hfr hlen hrow hq;have keep:k ∉ Q→k ∉ P:=fun h hp=>h ((hqm k).2 ⟨hp,Nat.le_refl _⟩)
   have hmem2:k ∉ Q→∀x,x∈Q↔x∈P/\k+1≤x:=fun h x=>by
    rw[hqm x];constructor
    ·rintro⟨h1,h2⟩
     refine⟨h1,?_⟩;by_cases e:x=k
     ·subst e;exact absurd ((hqm x).2 ⟨h1,h2⟩) h
     ·omega
    ·rintro⟨h1,h2⟩;exact⟨h1,by omega⟩
   cases Q with
   | nil =>
    have hmk:=hmem2 (by simp);rw[if_neg (keep (by simp))]at hnext;have HN:=Hh hnext;have HMk:=Hh hmk;clear hnext hcc keep hmem2 hqm hqu hmk;go_wp2_with (at_builtin;refine zc6 (enc:=encN) w (HFr.out.alloc _) rfl _ _ 26 rfl 3 (.int .i64 0) 8 Tryz.underlying26 zaa rfl _ (zab (L.take k) P).length _ rfl (HRow.out.own.alloc _) _ rfl [y] (SliceOf.one encN w7 y 3) (fun _=>rfl) ?c1 (by decide) ?_)
    case c1=>have:=HLen.out;have:=Hl.out;simp at *;omega
    intro v' w' h1 h2;have H1:=Hh h1;have H2:=Hh h2;clear h1 h2;go_wp2_with fail;go_roundw
    case rel=>exact⟨k+1,[],by omega,by go_num,by rw[HN.out];exact NRow.snoc H1.out,HQ.out,List.Pairwise.nil,HMk.out,H2.out⟩
    case measure=>simp[intOf];omega
   | cons q Q' =>
    obtain⟨b2,o2,ha2,hc2⟩:=hcc 0 q rfl;have ix2:=za7 pa (Q'.length+1) pc 0 b2 o2 (Nat.succ_pos _) ha2;have hs2:=zx8 HQ.out;unfold encN at hc2;rw[Nat.add_zero]at ix2 hc2;rw[show((0:Nat):Int)=0 from rfl]at ix2;simp only[List.length_cons]at HQ ⊢;by_cases hqk:q=k
    ·subst hqk
     rw[if_pos ((hqm q).1 (by simp)).1]at hnext;have hu2:=(List.pairwise_cons.1 hqu).2;have hm2:∀x,x∈Q'↔x∈P/\q+1≤x:=fun x=>by
      have h0:=(List.pairwise_cons.1 hqu).1;constructor
      ·intro h
       exact⟨((hqm x).1 (List.mem_cons_of_mem _ h)).1,h0 x h⟩
      ·rintro⟨h1,h2⟩
       rcases List.mem_cons.1 ((hqm x).2 ⟨h1,by omega⟩)with e|h
       ·omega
       ·exact h
     have hb:((q:Int) == (q:Int))=true:=beq_self_eq_true _;have HN:=Hh hnext;have HU2:=Hh hu2;have HM2:=Hh hm2;have HS2:=Hh hs2;clear hnext hcc keep hmem2 hqm hqu ha2 hu2 hm2 hs2;go_wp2_with fail;go_roundw
     case rel=>exact⟨q+1,Q',by omega,by go_num,by rw[HN.out];exact HRow.out,HS2.out,HU2.out,HM2.out,HFr.out⟩
     case measure=>simp[intOf];omega
    ·have hn0:k ∉ q::Q':=fun h=>by
      rcases List.mem_cons.1 h with e|h
      ·exact hqk e.symm
      ·have:=(List.pairwise_cons.1 hqu).1 k h
       have:=((hqm q).1 (by simp)).2;omega
     have hmk:=hmem2 hn0;rw[if_neg (keep hn0)]at hnext;have hb:((q:Int) == (k:Int))=false:=by rw[beq_eq_false_iff_ne];omega
     have HN:=Hh hnext;have HMk:=Hh hmk;have HQu:=Hh hqu;clear hnext hcc keep hmem2 hqm hqu hmk ha2 hs2 hn0;go_wp2_with (at_builtin;refine zc6 (enc:=encN) w (HFr.out.alloc _) rfl _ _ 26 rfl 3 (.int .i64 0) 8 Tryz.underlying26 zaa rfl _ (zab (L.take k) P).length _ rfl (HRow.out.own.alloc _) _ rfl [y] (SliceOf.one encN w7 y 3) (fun _=>rfl) ?c1 (by decide) ?_)
     case c1=>have:=HLen.out;have:=Hl.out;simp at *;omega
     intro v' w' h1 h2;have H1:=Hh h1;have H2:=Hh h2;clear h1 h2;go_wp2_with fail;go_roundw
     case rel=>exact⟨k+1,q::Q',by omega,by go_num,by rw[HN.out];exact NRow.snoc H1.out,HQ.out,HQu.out,HMk.out,H2.out⟩
     case measure=>simp[intOf];omega
  ·have hk':k=L.length:=by omega
   subst hk';rw[List.take_length]at hrow ⊢;have HO:=Hh hrow;have HFr:=Hh hfr;clear hrow hfr hq hqm hqu;go_wp2_with fail;go_ret;exact⟨_,rfl,HO.out,HFr.out⟩
def domI (g:Nat→Nat→Bool)(L:List Nat)(i:Nat):List Nat:=(List.range i).filter fun m=>(List.range L.length).any (domP g L m)
theorem zsz (g:Nat→Nat→Bool)(L:List Nat):domI g L L.length=domB g L:=rfl
theorem yae {g:Nat→Nat→Bool}{L:List Nat}{i k:Nat}(hk:k<L.length)(h:domP g L i k=true):domI g L (i+1)=domI g L i ++ [i]:=by
 have:(List.range L.length).any (domP g L i)=true:=List.any_eq_true.2 ⟨k,List.mem_range.2 hk,h⟩;unfold domI;rw[List.range_succ,List.filter_append];simp[this]
theorem yc0 {g:Nat→Nat→Bool}{L:List Nat}{i:Nat}(h:(List.range L.length).any (domP g L i)=false):domI g L (i+1)=domI g L i:=by
 unfold domI;rw[List.range_succ,List.filter_append];simp[h]
theorem yaf (g:Nat→Nat→Bool)(L:List Nat)(i:Nat):(domI g L i).length≤i:=by
 have:=List.length_filter_le (fun m=>(List.range L.length).any (domP g L m)) (List.range i);rw[List.length_range]at this
 exact this
set_option maxRecDepth 4000 in
set_option maxHeartbeats 8000000 in
theorem zhe {M I:Nat→Prop} {C:List Nat} {V:List PL} {BV:List Nat} (B:BookC V C) (pb ob:Nat) (mc ms mn:Value) (hMo:¬ M ob) (hIo:¬ I ob) (lf:Bool) (g:Nat→Nat→Bool) (hg:g=if lf=true then gL C else gR C) (lv:Value) (L:List Nat) (f:Nat × Nat→Option Bool) (w:World)
    (hP:PoolS M I w pb V BV (.map (some ob)) mc ms mn) (hf:MapF encP encB w ob f) (ho:OrdF C f) (hL:Nats w lv L) (hLb:L≠[]→∀ q,lv.ownBlock=some q→q≠ob) (hLt:∀ x∈L,x < V.length) (hl:L.length < 1000000) :
    Calls Tryz.prog 151 #[.pointer (some ⟨pb,0,none⟩),lv,.bool lf] w fun e w'=>∃ v',e=.returned v'∧NRow w.heap.size w' v' (domB g L)∧∃ f',MapF encP encB w' ob f'∧OrdF C f'∧Fr (fun q=>q=ob) w w':=by
  have hob:ob < w.heap.size:=hf.lt;have HL:=Hh (fun (W:World) (f:Fr (fun q=>q=ob) w W)=>show Nats W lv L from hL.fr f hLb);have HP:=Hh (fun (W:World) (f:Fr (fun q=>q=ob) w W)=>hP.fr f (fun q hq e=>hMo (e ▸ hq)) (fun q hq e=>hIo (e ▸ hq)));have HGe:=Hh (fun x y (hx:x < V.length) (hy:y < V.length)=>(zxr B pb ob mc ms mn hMo hIo (x + y + 1) x y (Nat.lt_succ_self _) hx hy:GeIs M I C V BV pb ob mc ms mn x y));obtain ⟨la,lc,rfl,hlc,hlcm,z⟩:=hL;have HLt:=Hh hLt;have HF:=Hh hf;have HO:=Hh ho;have Hg:=Hh hg;have Hl:=Hh hl;have HOb:=Hh hob;clear hP hf ho hLt z hLb hMo hIo hg hl hob;go_enter Tryz.func151,Tryz.ntmps151;go_wp2_with fail;go_loopw [7,17] (fun o t W=>∃ (i:Nat) (f1:Nat × Nat→Option Bool),t=.int .i64 i∧i≤L.length∧NRow w.heap.size W o (domI g L i)∧MapF encP encB W ob f1∧OrdF C f1∧Fr (fun q=>q=ob) w W) (fun _ t _=>L.length - (intOf t).toNat)
  case atStart=>exact ⟨0,f,rfl,Nat.zero_le _,NRow.made w,HF.out.fr ((Fr.refl NoM w).alloc _) (fun q=>q),HO.out,(Fr.refl _ w).alloc _⟩
  case round =>
    obtain ⟨i,f1,rfl,hi,hrow,hf1,ho1,hfr⟩:=hrel;obtain ⟨w6,rfl⟩:∃ w6,w6=wr:=⟨_,rfl⟩;obtain ⟨lb,lcc,rfl⟩:=hrow.shape;have HRow:=Hh hrow;have HF1:=Hh hf1;have HO1:=Hh ho1;have HFr:=Hh hfr;have HLi:=Hh (yaf g L i);clear hrow hf1 ho1 hfr;by_cases hil:i < L.length
    · obtain ⟨x, hx⟩ : ∃ x, L[i]? = some x := ⟨_, List.getElem?_eq_getElem hil⟩
      have hxl:=HLt.out x (List.mem_of_getElem? hx);obtain ⟨_,_,ee,_,_,hcc⟩:=HL.out w6 HFr.out;cases ee
      obtain ⟨b1,o1,ha1,d1⟩:=hcc i x hx;have ix1:=za7 la L.length lc i b1 o1 hil ha1;unfold encN at d1;go_wp2_with fail;clear d1 ix1 hcc;go_loopw [7,24] (fun o t W=>∃ (k:Nat) (f2:Nat × Nat→Option Bool),o=.slice (some ⟨lb,0,none⟩) (domI g L i).length lcc∧t=.int .i64 k∧k≤L.length∧(List.range k).any (domP g L i)=false∧MapF encP encB W ob f2∧OrdF C f2∧Fr (fun q=>q=ob) w6 W) (fun _ t _=>L.length - (intOf t).toNat)
      case atStart=>exact ⟨0,f1,rfl,rfl,Nat.zero_le _,rfl,HF1.out,HO1.out,Fr.refl _ _⟩
      case round =>
        obtain ⟨k,f2,rfl,rfl,hk,hany,hf2,ho2,hfr2⟩:=hrel;obtain ⟨w7,rfl⟩:∃ w7,w7=wr:=⟨_,rfl⟩;have HF2:=Hh hf2;have HO2:=Hh ho2;have HFr2:=Hh hfr2;have HAny:=Hh hany;have HRow7:=Hh (HRow.out.fr hfr2 (fun q hq e=>by have:=(HRow.out.own.lt q hq).1;have:=HOb.out;omega));clear hf2 ho2 hfr2 hany;by_cases hkl:k < L.length
        · obtain ⟨y, hy⟩ : ∃ y, L[k]? = some y := ⟨_, List.getElem?_eq_getElem hkl⟩
          have hyl:=HLt.out y (List.mem_of_getElem? hy);obtain ⟨_,_,ee,_,_,hcc⟩:=HL.out w7 (HFr.out.trans HFr2.out (fun _ _ q=>q));cases ee
          obtain ⟨b2,o2,ha2,d2⟩:=hcc k y hy;have ix2:=za7 la L.length lc k b2 o2 hkl ha2;unfold encN at d2;have hnext:(List.range (k + 1)).any (domP g L i)=domP g L i k:=by
            rw [List.range_succ,List.any_append,HAny.out];simp
          by_cases hki:k=i
          · subst hki
            have hnn:(List.range (k + 1)).any (domP g L k)=false:=by rw [hnext];simp [domP]
            have hb:((k:Int) == (k:Int))=true:=beq_self_eq_true _;have HN:=Hh hnn;clear hcc hnext hnn hx hy ha1 ha2;go_wp2_with fail;go_roundw
            case rel=>exact ⟨k + 1,f2,rfl,by go_num,by omega,HN.out,HF2.out,HO2.out,HFr2.out⟩
            case measure=>simp [intOf];omega
          · have hb : ((k : Int) == (i : Int)) = false := by rw [beq_eq_false_iff_ne]; omega
            obtain ⟨da,hda⟩:∃ da,da=geV C y x:=⟨_,rfl⟩;obtain ⟨db,hdb⟩:∃ db,db=geV C x y:=⟨_,rfl⟩;obtain ⟨dm,hdm⟩:∃ dm,dm=domP g L i k:=⟨_,rfl⟩;have hdom:dm=if lf=true then (da && (!db || decide (k < i))) else (db && (!da || decide (k < i))):=by
              rw [hdm,Hg.out,hda,hdb];unfold domP;rw [List.getD_eq_getElem?_getD,List.getD_eq_getElem?_getD,hx,hy,decide_eq_true hki];cases lf <;> rfl
            have h1:=HGe.out y x hyl hxl;have h2:=HGe.out x y hxl hyl;unfold GeIs at h1 h2;rw [← hda] at h1;rw [← hdb] at h2;rw [← hdm] at hnext;have H1:=Hh h1;have H2:=Hh h2;have HDom:=Hh hdom;have HN:=Hh hnext;have HDm:=Hh hdm;clear hcc hnext hx hy ha1 ha2 h1 h2 hdom hda hdb hdm;go_wp2_with fail;refine (H1.out f2 w7 (HP.out w7 (HFr.out.trans HFr2.out (fun _ _ q=>q))) HF2.out HO2.out).mono ?_
            rintro e w8 ⟨rfl,f3,hf3,ho3,hfr3⟩;have HF3:=Hh hf3;have HO3:=Hh ho3;have HFr3:=Hh (HFr2.out.trans hfr3 (fun _ _ q=>q));have HRow8:=Hh (HRow7.out.fr hfr3 (fun q hq e=>by have:=(HRow7.out.own.lt q hq).1;have:=HOb.out;omega));clear hf3 ho3 hfr3 HF2 HO2 HFr2 HRow7 d2 ix2;go_wp2_with fail;refine (H2.out f3 w8 (HP.out w8 (HFr.out.trans HFr3.out (fun _ _ q=>q))) HF3.out HO3.out).mono ?_
            rintro e w9 ⟨rfl,f4,hf4,ho4,hfr4⟩;have HF4:=Hh hf4;have HO4:=Hh ho4;have HFr4:=Hh (HFr3.out.trans hfr4 (fun _ _ q=>q));have HRow9:=Hh (HRow8.out.fr hfr4 (fun q hq e=>by have:=(HRow8.out.own.lt q hq).1;have:=HOb.out;omega));clear hf4 ho4 hfr4 HF3 HO3 HFr3 HRow8 hb;obtain ⟨p,hp⟩:∃ p,p=if lf=true then da else db:=⟨_,rfl⟩
            obtain ⟨q,hq⟩:∃ q,q=if lf=true then db else da:=⟨_,rfl⟩
            have hpq:dm=(p && (!q || decide (k < i))):=by
              rw [HDom.out,hp,hq];cases lf <;> rfl
            have HPq:=Hh hpq;have HPp:=Hh hp;have HQq:=Hh hq;clear hpq hp hq HDom;go_upto_if 41 with fail
            go_cut [12,13] from 25 to 58 (fun a b W=>a=.bool p∧b=.bool q∧W=w9)
            case first =>
              cases lf <;>
                (go_wp2_with fail
                 go_meet
                 case rel=>exact ⟨by rw [HPp.out] <;> rfl,by rw [HQq.out] <;> rfl,rfl⟩)
            case rest =>
            obtain ⟨rfl,rfl,rfl⟩:=hcut;clear HPp HQq;go_upto_region 12 with fail;go_cut [53] from 25 to 58 (fun c W=>c=.bool dm∧W=wc)
            case first =>
              by_cases hlt:k < i
              · have hd : dm = p := by rw [HPq.out, decide_eq_true hlt]; simp
                have HD:=Hh hd;clear hd;cases p <;> cases q <;>
                  (go_wp2_with fail
                   go_meet
                   case rel=>exact ⟨by rw [HD.out] <;> rfl,rfl⟩)
              · have hd : dm = (p && !q) := by rw [HPq.out, decide_eq_false hlt]; simp
                have HD:=Hh hd;clear hd;cases p <;> cases q <;>
                  (go_wp2_with fail
                   go_meet
                   case rel=>exact ⟨by rw [HD.out] <;> rfl,rfl⟩)
            case rest =>
              obtain ⟨rfl,rfl⟩:=hcut;cases dm with
              | true =>
                have HY:=Hh (yae hkl HDm.out.symm);have HFx:=Hh (HFr.out.trans HFr4.out (fun _ _ q=>q));go_wp2_with (at_builtin;refine zay (enc:=encN) _ rfl _ _ 26 rfl w.heap.size 3 (.int .i64 0) 8 Tryz.underlying26 zaa rfl _ (domI g L i).length _ rfl (HRow9.out.own.alloc _) _ rfl [i] (SliceOf.one encN wc i 3) (fun _=>rfl) ?c1 (by decide) ?c2 ?_)
                case c1=>have:=HLi.out;have:=Hl.out;simp at *;omega
                case c2=>have:=HFx.out.size;simp at *;omega
                intro v' w' h1 h2 h3;have hrw:NRow w.heap.size w' v' (domI g L (i + 1)):=by rw [HY.out];exact NRow.snoc h1
                have hno:∀ q,q < w.heap.size→Own1 (.slice (some ⟨lb,0,none⟩) (domI g L i).length lcc) q→False:=fun q hq ho=>by have:=(HRow9.out.own.lt q ho).1;omega
                have HRw:=Hh hrw;have HMf:=Hh ((HF4.out.fr ((Fr.refl NoM _).alloc (.cells #[.int .i64 (i:Int)] 3)) (fun q=>q)).fr h2 (hno _ HOb.out));have HFz:=Hh ((HFx.out.alloc (.cells #[.int .i64 (i:Int)] 3)).trans h2 (fun q hq h=>(hno q hq h).elim));clear h1 h2 h3 hrw hno;go_wp2_with fail;go_roundw
                case rel=>exact ⟨i + 1,f4,by go_num,by omega,HRw.out,HMf.out,HO4.out,HFz.out⟩
                case measure=>simp [intOf];omega
              | false =>
                go_wp2_with fail;go_roundw
                case rel=>exact ⟨k + 1,f4,rfl,by go_num,by omega,HN.out,HF4.out,HO4.out,HFr4.out⟩
                case measure=>simp [intOf];omega
        · have hk' : k = L.length := by omega
          subst hk';have HN:=Hh (yc0 HAny.out);have HFx:=Hh (HFr.out.trans HFr2.out (fun _ _ q=>q));go_wp2_with fail;go_roundw
          case rel=>exact ⟨i + 1,f2,by go_num,by omega,by rw [HN.out];exact HRow7.out,HF2.out,HO2.out,HFx.out⟩
          case measure=>simp [intOf];omega
    · have hi' : i = L.length := by omega
      subst hi';have hrow:=HRow.out;rw [zsz] at hrow;rw [zsz] at *;have HO:=Hh hrow;clear hrow HRow;go_wp2_with fail;go_ret;exact ⟨_,rfl,HO.out,f1,HF1.out,HO1.out,HFr.out⟩
section
variable {κ:Type}{ek:κ→Value}{MO:List PL→(κ→Option Nat)→Prop}{U:List Nat}{pb sb:Nat}{mo mc ms mn:Value}{W W' W1 W2:World}{V V' V1 V2:List PL}{BV BV':List Nat}{M I M' I' M1 I1 M2 I2 X:Nat→Prop}{f f':κ→Option Nat}
theorem PoolS.sep (h:PoolS M I W pb V BV mo mc ms mn):∀q,M q→¬I q:=by
 obtain⟨lv,rv,bv,fb,LS,RS,_,_,_,_,_,_,_,_,m,_⟩:=h;exact m
end
section
variable {κ:Type}{ek:κ→Value}{MO:List PL→(κ→Option Nat)→Prop}{U:List Nat}{pb sb:Nat}{mo mc ms mn:Value}{w0 W W' Wa:World}{V0 V V':List PL}{BV BV' TL TR la L R:List Nat}{M0 I0 M I M' I':Nat→Prop}{f f':κ→Option Nat}{lv rv va v':Value}{i j x c:Nat}
end
def CanMO (V:List PL)(f:Nat→Option Nat):Prop:=∀k i,f k=some i→k<V.length/\i<V.length/\IsCan ((za0 V).getD i 0) ((za0 V).getD k 0)
theorem CanMO.mono {V V':List PL}{f:Nat→Option Nat}(h:CanMO V f)(hp:V <+: V'):CanMO V' f:=fun k i e=>by
 obtain⟨a,b,c⟩:=h k i e;have:=hp.length_le;exact⟨by omega,by omega,by rw[zb1 hp b,zb1 hp a];exact c⟩
theorem CanMO.upd {V:List PL}{f:Nat→Option Nat}{x i:Nat}(h:CanMO V f)(hx:x<V.length)(hi:i<V.length)(hc:IsCan ((za0 V).getD i 0) ((za0 V).getD x 0)):CanMO V (upd f x i):=fun k j e=>by
 unfold Go.Proofs.YtknniemfpkjnbaaGreatDoor.upd at e;split at e
 ·rename_i ek;subst ek;cases e;exact⟨hx,hi,hc⟩
 ·exact h k j e
theorem CanMO.none (V:List PL):CanMO V (fun _=>none):=fun _ _ h=>by cases h
structure CSt (U:List Nat) (pb ob sb:Nat) (ms mn:Value) (W:World) (V:List PL) (BV:List Nat) (M I:Nat→Prop) (fo:Nat × Nat→Option Bool) (fc:Nat→Option Nat):Prop where
 pool:PoolS M I W pb V BV (.map (some ob)) (.map (some sb)) ms mn
 ok:PoolOK V BV
 inU:∀x,x<V.length→(za0 V).getD x 0∈U
 ord:MapF encP encB W ob fo
 ordOK:OrdF (za0 V) fo
 can:MapF encN encN W sb fc
 canOK:CanMO V fc
 mlt:∀q,M q→q<W.heap.size/\q≠ob/\q≠sb
 ilt:∀q,I q→q<W.heap.size/\q≠ob/\q≠sb
 os:ob≠sb
structure CNx (ob sb:Nat) (W:World) (V:List PL) (M I:Nat→Prop) (W':World) (V':List PL) (M' I':Nat→Prop):Prop where
 pre:V <+: V'
 mM:∀q,M' q→M q∨W.heap.size≤q
 mI:∀q,I' q→I q∨W.heap.size≤q
 fr:Fr (fun q=>M q∨q=ob∨q=sb) W W'
section
variable {U:List Nat}{pb ob sb:Nat}{ms mn:Value}{W W' W1 W2:World}{V V' V1 V2:List PL}{BV BV':List Nat}{M I M' I' M1 I1 M2 I2 X:Nat→Prop}{fo fo':Nat × Nat→Option Bool}{fc fc':Nat→Option Nat}
theorem CSt.fr (h:CSt U pb ob sb ms mn W V BV M I fo fc)(hf:Fr X W W')(hx:∀q,X q→¬M q/\¬I q/\q≠ob/\q≠sb):CSt U pb ob sb ms mn W' V BV M I fo fc :=
 ⟨h.pool.fr hf (fun q hq hX=>(hx q hX).1 hq) (fun q hq hX=>(hx q hX).2.1 hq),h.ok,h.inU,h.ord.fr hf (fun hX=>(hx ob hX).2.2.1 rfl),h.ordOK,h.can.fr hf (fun hX=>(hx sb hX).2.2.2 rfl),h.canOK,fun q hq=>⟨Nat.lt_of_lt_of_le (h.mlt q hq).1 hf.size,(h.mlt q hq).2⟩,fun q hq=>⟨Nat.lt_of_lt_of_le (h.ilt q hq).1 hf.size,(h.ilt q hq).2⟩,h.os⟩
theorem CSt.fr0 (h:CSt U pb ob sb ms mn W V BV M I fo fc)(hf:Fr NoM W W'):CSt U pb ob sb ms mn W' V BV M I fo fc:=h.fr hf (fun _ q=>q.elim)
theorem CSt.len (h:CSt U pb ob sb ms mn W V BV M I fo fc):V.length≤U.length:=zkb h.ok h.inU
theorem CNx.refl (ob sb:Nat)(W:World)(V:List PL)(M I:Nat→Prop):CNx ob sb W V M I W V M I:=⟨List.prefix_refl _,fun _ h=>.inl h,fun _ h=>.inl h,Fr.refl _ _⟩
theorem CNx.of0 (hf:Fr NoM W W'):CNx ob sb W V M I W' V M I:=⟨List.prefix_refl _,fun _ h=>.inl h,fun _ h=>.inl h,hf.any⟩
theorem CNx.trans (h:CNx ob sb W V M I W1 V1 M1 I1)(h':CNx ob sb W1 V1 M1 I1 W2 V2 M2 I2):CNx ob sb W V M I W2 V2 M2 I2 :=
 ⟨h.pre.trans h'.pre,fun q hq=>(h'.mM q hq).elim (h.mM q) (fun z=>.inr (Nat.le_trans h.fr.size z)),fun q hq=>(h'.mI q hq).elim (h.mI q) (fun z=>.inr (Nat.le_trans h.fr.size z)),
  h.fr.trans h'.fr (fun k hk q=>q.elim (fun q=>(h.mM k q).elim .inl (fun z=>by omega)) .inr)⟩
theorem CNx.own {Y:Nat→Prop}(h:CNx ob sb W V M I W1 V1 M1 I1)(hf:Fr Y W1 W2)(hv:∀q,Y q→W.heap.size≤q):CNx ob sb W V M I W2 V1 M1 I1 :=
 ⟨h.pre,h.mM,h.mI,h.fr.trans hf (fun k hk q=>by have:=hv k q;omega)⟩
theorem CSt.ords (h:CSt U pb ob sb ms mn W V BV M I fo fc)(hf:Fr (fun q=>q=ob) W W')(hm:MapF encP encB W' ob fo')(ho:OrdF (za0 V) fo'):CSt U pb ob sb ms mn W' V BV M I fo' fc/\CNx ob sb W V M I W' V M I :=
 ⟨⟨h.pool.fr hf (fun q hq e=>(h.mlt q hq).2.1 e) (fun q hq e=>(h.ilt q hq).2.1 e),h.ok,h.inU,hm,ho,h.can.fr hf (fun e=>h.os e.symm),h.canOK,fun q hq=>⟨Nat.lt_of_lt_of_le (h.mlt q hq).1 hf.size,(h.mlt q hq).2⟩,fun q hq=>⟨Nat.lt_of_lt_of_le (h.ilt q hq).1 hf.size,(h.ilt q hq).2⟩,h.os⟩,
  ⟨List.prefix_refl _,fun _ h=>.inl h,fun _ h=>.inl h,hf.mono (fun _ _ q=>.inr (.inl q))⟩⟩
theorem CSt.store (h:CSt U pb ob sb ms mn W V BV M I fo fc)(hf:Fr (fun q=>q=sb) W W')(hm:MapF encN encN W' sb fc')(ho:CanMO V fc'):CSt U pb ob sb ms mn W' V BV M I fo fc'∧CNx ob sb W V M I W' V M I :=
 ⟨⟨h.pool.fr hf (fun q hq e=>(h.mlt q hq).2.2 e) (fun q hq e=>(h.ilt q hq).2.2 e),h.ok,h.inU,h.ord.fr hf (fun e=>h.os e),h.ordOK,hm,ho,fun q hq=>⟨Nat.lt_of_lt_of_le (h.mlt q hq).1 hf.size,(h.mlt q hq).2⟩,fun q hq=>⟨Nat.lt_of_lt_of_le (h.ilt q hq).1 hf.size,(h.ilt q hq).2⟩,h.os⟩,
  ⟨List.prefix_refl _,fun _ h=>.inl h,fun _ h=>.inl h,hf.mono (fun _ _ q=>.inr (.inr q))⟩⟩
theorem CSt.node {L R cs ds:List Nat}(h:CSt U pb ob sb ms mn W V BV M I fo fc)(hL:RowC V L cs)(hR:RowC V R ds)(hc:mkC cs ds∈U)
  (p:PoolS M' I' W' pb (za5 V BV L R).1 (za5 V BV L R).2.1 (.map (some ob)) (.map (some sb)) ms mn) (hM:∀q,M' q→M q∨W.heap.size≤q) (hI:∀q,I' q→I q∨W.heap.size≤q) (hf:Fr M W W') :
  CSt U pb ob sb ms mn W' (za5 V BV L R).1 (za5 V BV L R).2.1 (fun q=>M' q/\q<W'.heap.size) (fun q=>I' q/\q<W'.heap.size) fo fc ∧
   CNx ob sb W V M I W' (za5 V BV L R).1 (fun q=>M' q/\q<W'.heap.size) (fun q=>I' q/\q<W'.heap.size)/\(za5 V BV L R).2.2<(za5 V BV L R).1.length/\(za0 (za5 V BV L R).1).getD (za5 V BV L R).2.2 0=mkC cs ds:=by
 obtain⟨q1,q2,q3,q4⟩:=zff h.ok hL hR;have h1:=h.ord.lt;have h2:=h.can.lt;refine⟨⟨p.low,q1,zht h.inU (by rw[q4];exact hc),h.ord.fr hf (fun e=>(h.mlt ob e).2.1 rfl),h.ordOK.mono (zef q2),h.can.fr hf (fun e=>(h.mlt sb e).2.2 rfl),h.canOK.mono q2,fun q hq=>⟨hq.2,fun e=>?_,fun e=>?_⟩,fun q hq=>⟨hq.2,fun e=>?_,fun e=>?_⟩,h.os⟩,⟨q2,fun q hq=>hM q hq.1,fun q hq=>hI q hq.1,hf.mono (fun _ _ q=>.inl q)⟩,q3,q4⟩
 ·exact(hM q hq.1).elim (fun z=>(h.mlt q z).2.1 e) (fun z=>by omega)
 ·exact(hM q hq.1).elim (fun z=>(h.mlt q z).2.2 e) (fun z=>by omega)
 ·exact(hI q hq.1).elim (fun z=>(h.ilt q z).2.1 e) (fun z=>by omega)
 ·exact(hI q hq.1).elim (fun z=>(h.ilt q z).2.2 e) (fun z=>by omega)
end
structure RSt (U:List Nat) (pb ob sb mb:Nat) (ms mn:Value) (w0:World) (V0:List PL) (M0 I0:Nat→Prop) (W:World) (qv kv va:Value) (Q Kp la:List Nat) (fs:Nat→Option Bool) (V:List PL) (BV:List Nat) (M I:Nat→Prop) (fo:Nat × Nat→Option Bool) (fc:Nat→Option Nat):Prop where
 st:CSt U pb ob sb ms mn W V BV M I fo fc
 nx:CNx ob sb w0 V0 M0 I0 W V M I
 rq:W.ownsRow w0.heap.size 3 1 qv Q.length (Q.map encN)
 rk:W.ownsRow w0.heap.size 3 1 kv Kp.length (Kp.map encN)
 sq:∀q,qv.ownBlock=some q→¬M q/\¬I q/\q≠ob/\q≠sb/\q≠mb/\kv.ownBlock≠some q
 sk:∀q,kv.ownBlock=some q→¬M q/\¬I q/\q≠ob/\q≠sb/\q≠mb
 smap:MapF encN encB W mb fs
 sm:¬M mb/\¬I mb/\mb≠ob/\mb≠sb/\w0.heap.size≤mb
 src:Nats W va la
 ss:la≠[]→∀q,va.ownBlock=some q→¬M q/\q≠ob/\q≠sb/\q≠mb/\qv.ownBlock≠some q/\kv.ownBlock≠some q
section
variable {U:List Nat}{pb ob sb mb:Nat}{ms mn:Value}{w0 W W' Wa:World}{V0 V V':List PL}{BV BV' Q Kp la L:List Nat}{M0 I0 M I M' I':Nat→Prop}{fo fo':Nat × Nat→Option Bool}{fc fc':Nat→Option Nat}{fs fs':Nat→Option Bool}{qv kv va v':Value}
theorem RSt.call (h:RSt U pb ob sb mb ms mn w0 V0 M0 I0 W qv kv va Q Kp la fs V BV M I fo fc)(st:CSt U pb ob sb ms mn W' V' BV' M' I' fo' fc')(nx:CNx ob sb W V M I W' V' M' I') :
  RSt U pb ob sb mb ms mn w0 V0 M0 I0 W' qv kv va Q Kp la fs V' BV' M' I' fo' fc':=by
 have kM:∀q,q<W.heap.size→¬M q→¬M' q:=fun q hq hm e=>(nx.mM q e).elim hm (fun z=>by omega)
 have kI:∀q,q<W.heap.size→¬I q→¬I' q:=fun q hq hm e=>(nx.mI q e).elim hm (fun z=>by omega)
 have hml:=h.smap.lt;refine⟨st,h.nx.trans nx,za1 h.rq nx.fr (fun q hq e=>?_),za1 h.rk nx.fr (fun q hq e=>?_),fun q hq=>?_,fun q hq=>?_,h.smap.fr nx.fr (fun e=>?_),⟨kM mb hml h.sm.1,kI mb hml h.sm.2.1,h.sm.2.2⟩,h.src.fr nx.fr (fun hne q hq e=>?_),fun hne q hq=>?_⟩
 ·obtain⟨a,b,c,d,_⟩:=h.sq q hq
  rcases e with e|e|e
  ·exact a e
  ·exact c e
  ·exact d e
 ·obtain⟨a,b,c,d,_⟩:=h.sk q hq
  rcases e with e|e|e
  ·exact a e
  ·exact c e
  ·exact d e
 ·obtain⟨a,b,c⟩:=h.sq q hq
  have hl:=(h.rq.lt q hq).2;exact⟨kM q hl a,kI q hl b,c⟩
 ·obtain⟨a,b,c⟩:=h.sk q hq
  have hl:=(h.rk.lt q hq).2;exact⟨kM q hl a,kI q hl b,c⟩
 ·rcases e with e|e|e
  ·exact h.sm.1 e
  ·exact h.sm.2.2.1 e
  ·exact h.sm.2.2.2.1 e
 ·obtain⟨a,b,c,_⟩:=h.ss hne q hq
  rcases e with e|e|e
  ·exact a e
  ·exact b e
  ·exact c e
 ·obtain⟨b,hb,hl⟩:=h.src.block hne
  rw[hq]at hb;cases hb
  obtain⟨a,c⟩:=h.ss hne q hq;exact⟨kM q hl a,c⟩
theorem RSt.fr0 (h:RSt U pb ob sb mb ms mn w0 V0 M0 I0 W qv kv va Q Kp la fs V BV M I fo fc)(hf:Fr NoM W W'):RSt U pb ob sb mb ms mn w0 V0 M0 I0 W' qv kv va Q Kp la fs V BV M I fo fc :=
 h.call (h.st.fr0 hf) (CNx.of0 hf)
theorem RSt.pushQ (h:RSt U pb ob sb mb ms mn w0 V0 M0 I0 W qv kv va Q Kp la fs V BV M I fo fc)(ha:Fr NoM W Wa)(ho:W'.ownsRow w0.heap.size 3 1 v' (Q.length+L.length) (Q.map encN++L.map encN))(hf:Fr (Own1 qv) Wa W')
  (hq:v'.ownBlock=qv.ownBlock∨∃b,v'.ownBlock=some b/\Wa.heap.size≤b):RSt U pb ob sb mb ms mn w0 V0 M0 I0 W' v' kv va (Q++L) Kp la fs V BV M I fo fc:=by
 have h:=h.fr0 ha;have nw:∀q,v'.ownBlock=some q→qv.ownBlock=some q∨Wa.heap.size≤q:=fun q e=>by
  rcases hq with h1|⟨b,h1,h2⟩
  ·exact .inl (h1 ▸ e)
  ·rw[h1]at e;cases e;exact .inr h2
 have h1:=h.st.ord.lt;have h2:=h.st.can.lt;have h3:=h.smap.lt;refine⟨h.st.fr hf (fun q hq'=>⟨(h.sq q hq').1,(h.sq q hq').2.1,(h.sq q hq').2.2.1,(h.sq q hq').2.2.2.1⟩),h.nx.own hf (fun q hq'=>(h.rq.lt q hq').1),by rw[List.length_append,List.map_append];exact ho,za1 h.rk hf (fun q hq' e=>(h.sq q e).2.2.2.2.2 hq'),fun q e=>?_,h.sk,h.smap.fr hf (fun e=>(h.sq mb e).2.2.2.2.1 rfl),h.sm,h.src.fr hf (fun hne q hq' e=>(h.ss hne q hq').2.2.2.2.1 e),fun hne q hq'=>?_⟩
 ·rcases nw q e with e'|e'
  ·exact h.sq q e'
  ·refine⟨fun z=>?_,fun z=>?_,fun z=>by omega,fun z=>by omega,fun z=>by omega,fun z=>?_⟩
   ·have:=(h.st.mlt q z).1;omega
   ·have:=(h.st.ilt q z).1;omega
   ·have:=(h.rk.lt q z).2;omega
 ·obtain⟨a,b,c,d,e,f⟩:=h.ss hne q hq'
  refine⟨a,b,c,d,fun e'=>?_,f⟩;rcases nw q e' with e'|e'
  ·exact e e'
  ·obtain⟨b',hb,hl⟩:=h.src.block hne
   rw[hq']at hb;cases hb;omega
theorem RSt.pushK {i:Nat}(h:RSt U pb ob sb mb ms mn w0 V0 M0 I0 W qv kv va Q Kp la fs V BV M I fo fc)(ha:Fr NoM W Wa)(ho:W'.ownsRow w0.heap.size 3 1 v' (Kp.length+1) (Kp.map encN ++ [i].map encN))(hf:Fr (Own1 kv) Wa W')
  (hq:v'.ownBlock=kv.ownBlock∨∃b,v'.ownBlock=some b/\Wa.heap.size≤b):RSt U pb ob sb mb ms mn w0 V0 M0 I0 W' qv v' va Q (Kp ++ [i]) la fs V BV M I fo fc:=by
 have h:=h.fr0 ha;have nw:∀q,v'.ownBlock=some q→kv.ownBlock=some q∨Wa.heap.size≤q:=fun q e=>by
  rcases hq with h1|⟨b,h1,h2⟩
  ·exact .inl (h1 ▸ e)
  ·rw[h1]at e;cases e;exact .inr h2
 have h1:=h.st.ord.lt;have h2:=h.st.can.lt;have h3:=h.smap.lt;refine⟨h.st.fr hf (fun q hq'=>⟨(h.sk q hq').1,(h.sk q hq').2.1,(h.sk q hq').2.2.1,(h.sk q hq').2.2.2.1⟩),h.nx.own hf (fun q hq'=>(h.rk.lt q hq').1),za1 h.rq hf (fun q hq' e=>(h.sq q hq').2.2.2.2.2 e),by rw[List.length_append,List.map_append];exact ho,fun q e=>?_,fun q e=>?_,h.smap.fr hf (fun e=>(h.sk mb e).2.2.2.2 rfl),h.sm,h.src.fr hf (fun hne q hq' e=>(h.ss hne q hq').2.2.2.2.2 e),fun hne q hq'=>?_⟩
 ·obtain⟨a,b,c,d,e1,f⟩:=h.sq q e
  refine⟨a,b,c,d,e1,fun z=>?_⟩;rcases nw q z with z|z
  ·exact f z
  ·have:=(h.rq.lt q e).2;omega
 ·rcases nw q e with e'|e'
  ·exact h.sk q e'
  ·refine⟨fun z=>?_,fun z=>?_,fun z=>by omega,fun z=>by omega,fun z=>by omega⟩
   ·have:=(h.st.mlt q z).1;omega
   ·have:=(h.st.ilt q z).1;omega
 ·obtain⟨a,b,c,d,e,f⟩:=h.ss hne q hq'
  refine⟨a,b,c,d,e,fun e'=>?_⟩;rcases nw q e' with e'|e'
  ·exact f e'
  ·obtain⟨b',hb,hl⟩:=h.src.block hne
   rw[hq']at hb;cases hb;omega
theorem RSt.see (h:RSt U pb ob sb mb ms mn w0 V0 M0 I0 W qv kv va Q Kp la fs V BV M I fo fc)(hf:Fr (fun q=>q=mb) W W')(hm:MapF encN encB W' mb fs'):RSt U pb ob sb mb ms mn w0 V0 M0 I0 W' qv kv va Q Kp la fs' V BV M I fo fc :=
 ⟨h.st.fr hf (fun q e=>by subst e;exact⟨h.sm.1,h.sm.2.1,h.sm.2.2.1,h.sm.2.2.2.1⟩),h.nx.own hf (fun q e=>by rw[e];exact h.sm.2.2.2.2),za1 h.rq hf (fun q hq e=>(h.sq q hq).2.2.2.2.1 e),za1 h.rk hf (fun q hq e=>(h.sk q hq).2.2.2.2 e),h.sq,h.sk,hm,h.sm,h.src.fr hf (fun hne q hq e=>(h.ss hne q hq).2.2.2.1 e),h.ss⟩
theorem RSt.look {va':Value}{la':List Nat}(h:RSt U pb ob sb mb ms mn w0 V0 M0 I0 W qv kv va Q Kp la fs V BV M I fo fc)(hn:Nats W va' la')(hI:la'≠[]→∀q,va'.ownBlock=some q→I q):RSt U pb ob sb mb ms mn w0 V0 M0 I0 W qv kv va' Q Kp la' fs V BV M I fo fc :=
 ⟨h.st,h.nx,h.rq,h.rk,h.sq,h.sk,h.smap,h.sm,hn,fun hne q hq=>⟨fun e=>h.st.pool.sep q e (hI hne q hq),(h.st.ilt q (hI hne q hq)).2.1,(h.st.ilt q (hI hne q hq)).2.2,fun e=>h.sm.2.1 (e ▸ hI hne q hq),fun e=>(h.sq q e).2.1 (hI hne q hq),fun e=>(h.sk q e).2.1 (hI hne q hq)⟩⟩
theorem RSt.pop {i g c:Nat}(h:RSt U pb ob sb mb ms mn w0 V0 M0 I0 W (.slice (some ⟨g,0,none⟩) (Q.length+1) c) kv va (Q ++ [i]) Kp la fs V BV M I fo fc):RSt U pb ob sb mb ms mn w0 V0 M0 I0 W (.slice (some ⟨g,0,none⟩) Q.length c) kv va Q Kp la fs V BV M I fo fc:=by
 refine⟨h.st,h.nx,⟨by simp,?_⟩,h.rk,fun q e=>h.sq q e,h.sk,h.smap,h.sm,h.src,fun hne q hq=>h.ss hne q hq⟩;have hr:=h.rq.2;rw[List.length_append]at hr;rcases hr with ⟨e,_⟩|⟨g',cap,cur,e,hb,hg,hn,hc,hs,ht⟩
 ·cases e
 ·cases e
  refine .inr ⟨g,c,cur,rfl,hb,hg,by simp at hn;omega,hc,hs,?_⟩;have ht2:=congrArg (fun l=>l.take (Q.length*1)) ht;simp only[List.take_take,List.map_append]at ht2;rw[List.length_singleton,Nat.mul_one,Nat.mul_one,Nat.min_eq_left (by omega)]at ht2;rw[Nat.mul_one,ht2,List.take_left' (by simp)]
end
end Go.Proofs.YtknniemfpkjnbaaGreatDoor
