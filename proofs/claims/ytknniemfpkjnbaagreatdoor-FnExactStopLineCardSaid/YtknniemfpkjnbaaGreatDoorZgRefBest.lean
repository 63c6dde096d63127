import Derived.Test.YtknniemfpkjnbaaGreatDoorZgRefOf7
/- What the claim of FnExactStopLineCard needs of: RefBest. -/
namespace Go.Proofs.YtknniemfpkjnbaaGreatDoor
set_option linter.unusedVariables false
set_option linter.unusedSimpArgs false
open Go.RowKit
theorem zrx {x y:Int × Nat}(hx:x.2≤16)(hy:y.2≤16):zmr x y=decide (x.1*2^(24-x.2)<y.1*2^(24-y.2)):=by
 have e:∀d:Int × Nat,d.2≤16→d.1*2^(24-d.2)=d.1*2^(16-d.2)*256:=fun d hd=>by
  rw[show 24-d.2=(16-d.2)+8 from by omega,Int.pow_add,←Int.mul_assoc];rfl
 unfold zmr;rw[e x hx,e y hy];congr 1
 apply propext
 omega
def zfr (gr:Bool)(f:Nat→Int × Nat)(L:List Nat)(x0 k:Nat):Int × Nat:=if k=0 then f x0 else zdd gr ((L.take k).map f)
theorem zky (gr:Bool)(f:Nat→Int × Nat)(L:List Nat){x0 k x:Nat}(h0:L[0]?=some x0)(h:L[k]?=some x):zfr gr f L x0 (k+1)=zf6 gr (zfr gr f L x0 k) (f x):=by
 unfold zfr;rw[if_neg (by omega),zh8 gr f L k x h];split
 ·rename_i e;subst e
  rw[h0]at h;cases h
  rw[zt8]
 ·rfl
theorem ztf {gr:Bool}{f:Nat→Int × Nat}{L:List Nat}{x0 n:Nat}(h0:L[0]?=some x0)(hg:∀i∈L,i<n)(hf:∀i,i<n→GoodD (f i).1 (f i).2):∀k,k≤L.length→GoodD (zfr gr f L x0 k).1 (zfr gr f L x0 k).2:=by
 intro k;induction k with
 | zero=>intro _;unfold zfr;rw[if_pos rfl];exact hf _ (hg _ (List.mem_of_getElem? h0))
 | succ k ih =>
  intro hk;have hx:=List.getElem?_eq_getElem (l:=L) (i:=k) (by omega)
  rw[zky gr f L h0 hx];unfold zf6;split
  ·exact hf _ (hg _ (List.getElem_mem _))
  ·exact ih (by omega)
set_option maxRecDepth 4000 in
set_option maxHeartbeats 8000000 in
theorem ziu (av lv:Value)(f:Nat→Int × Nat)(n:Nat)(L:List Nat)(gr:Bool)(w:World)(hA:Pairs w av (dyL f n))(hL:Nats w lv L)(hne:L≠[])(hlt:∀i∈L,i<n)(hg:∀i,i<n→GoodD (f i).1 (f i).2)(T P:Int)(hT:T=(zdd gr (L.map f)).1)(hP:P=((zdd gr (L.map f)).2:Int)) :
  Calls Tryz.prog 86 #[av,lv,.bool gr] w fun e w'=>e=.returned (.agg #[.int .i64 T,.int .i64 P])/\Fr NoM w w':=by
 obtain⟨x0,h0⟩:∃x0,L[0]?=some x0:=by
  cases L with
  | nil=>exact absurd rfl hne
  | cons a l=>exact⟨a,rfl⟩
 have hgk:=ztf (gr:=gr) h0 hlt hg;have hnx:=fun(k x:Nat) (h:L[k]?=some x)=>zky gr f L h0 h
 have hend:T=(zfr gr f L x0 L.length).1/\P=((zfr gr f L x0 L.length).2:Int):=by
  have:zfr gr f L x0 L.length=zdd gr (L.map f):=by
   unfold zfr;rw[if_neg (fun e=>hne (List.length_eq_zero_iff.1 e)),List.take_length]
  rw[this];exact⟨hT,hP⟩
 have hp:0<L.length:=List.length_pos_iff.2 hne;obtain⟨la,lc,rfl,hl9,hl8,hlc⟩:=id hL;have hl9:L.length≤9223372036854775807:=by omega
 obtain⟨da,dc,rfl,_,_,hdc⟩:=id hA;rw[zg5]at *;obtain⟨w1,hw1⟩:∃w1,w1=w.alloc (.cells #[.int .i64 0,.int .i64 0] 43):=⟨_,rfl⟩;obtain⟨Y,hY⟩:∃Y,Y=f x0:=⟨_,rfl⟩;obtain⟨w2,hw2⟩:∃w2,w2=w1.alloc (.cells #[.int .i64 Y.1,.int .i64 (Y.2:Int)] 43):=⟨_,rfl⟩;have f1:Fr NoM w w1:=by rw[hw1];exact(Fr.refl NoM w).alloc _
 have hs1:w1.heap.size=w.heap.size+1:=by rw[hw1];simp
 have f2:Fr NoM w1 w2:=by rw[hw2];exact(Fr.refl NoM w1).alloc _
 have e1:w1.heap[w.heap.size]?=some (.cells #[.int .i64 0,.int .i64 0] 43 (0,0)):=by rw[hw1];exact heap_alloc_new w _
 obtain⟨sb,hsb⟩:∃sb,sb=w1.heap.size:=⟨_,rfl⟩;have e2:w2.heap[sb]?=some (.cells #[.int .i64 Y.1,.int .i64 (Y.2:Int)] 43 (0,0)):=by rw[hw2,hsb];exact heap_alloc_new w1 _
 have hss:sb=w.heap.size+1:=by omega
 have hfr:=fun(W:World) (g:Fr (fun q=>q=sb) w2 W)=>((f1.trans f2 (fun _ _ q=>q)).trans g (fun q hq e=>by omega):Fr NoM w W)
 have HFr:=Hh hfr;have HRs:=Hh (fun(W:World) (g:Fr (fun q=>q=sb) w2 W)=>show W.cell? ⟨w.heap.size,0,none⟩=some (.int .i64 0)/\W.cell? ⟨w.heap.size,1,none⟩=some (.int .i64 0)/\W.frozen? ⟨w.heap.size,0,none⟩=false/\W.frozen? ⟨w.heap.size,1,none⟩=false from by
  have h1:=g.heap (f2.heap e1 (fun q=>q)) (fun e=>by omega);exact⟨by rw[cell_of_row W _ 0 _ _ _ h1];rfl,by rw[cell_of_row W _ 1 _ _ _ h1];rfl,by simp[World.frozen?,h1],by simp[World.frozen?,h1]⟩)
 have HLt:=Hh (fun(k:Nat) (hk:k<L.length)=>show ∃x b o,L[k]?=some x/\x<n/\(∀W,(Instr.indexAt 26 (.slice la L.length lc) (.int .i64 (k:Int))).run Tryz.prog W=.ok (.pointer (some ⟨b,o,none⟩)) W)/\∀W,Fr (fun q=>q=sb) w2 W→W.cell? ⟨b,o,none⟩=some (.int .i64 (x:Int))from by
  have hx:=List.getElem?_eq_getElem hk
  obtain⟨b,o,ha,c⟩:=hlc k _ hx;exact⟨_,b,o+k,hx,hlt _ (List.getElem_mem hk),fun W=>za6 la L.length lc k b o hk ha W,fun W g=>(hfr W g).cell c (fun q=>q)⟩)
 have HDt:=Hh (fun(y:Nat) (hy:y<n)=>show ∃b o,(∀W,(Instr.indexAt 66 (.slice da n dc) (.int .i64 (y:Int))).run Tryz.prog W=.ok (.pointer (some ⟨b,o,none⟩)) W)/\(∀W,Fr (fun q=>q=sb) w2 W→W.cell? ⟨b,o,none⟩=some (.int .i64 (f y).1)/\W.cell? ⟨b,o+1,none⟩=some (.int .i64 ((f y).2:Int)))/\w1.cell? ⟨b,o,none⟩=some (.int .i64 (f y).1)/\w1.cell? ⟨b,o+1,none⟩=some (.int .i64 ((f y).2:Int))from by
  obtain⟨b,o,ha,c1,c2⟩:=hdc y _ (zmq f hy);exact⟨b,o+y*2,fun W=>zhq da n dc y b o hy ha W,fun W g=>⟨(hfr W g).cell c1 (fun q=>q),(hfr W g).cell c2 (fun q=>q)⟩,f1.cell c1 (fun q=>q),f1.cell c2 (fun q=>q)⟩)
 obtain⟨b3,o3,ha3,c3⟩:=hlc 0 _ h0;have ix3:=za6 la L.length lc 0 b3 o3 hp ha3;rw[show((0:Nat):Int)=0 from rfl]at ix3;have c3:w1.cell? ⟨b3,o3,none⟩=some (.int .i64 (x0:Int)):=f1.cell c3 (fun q=>q);have hx0:x0<n:=hlt _ (List.mem_of_getElem? h0);obtain⟨b4,o4,ix4,_,c4,c5⟩:=HDt.out x0 hx0;rw[←hY]at c4 c5;have HGk:=Hh hgk;have HNx:=Hh hnx;have HEnd:=Hh hend;have HG:=Hh hg;have HY:=Hh hY;have E2:=Hh e2;have Hsb:=Hh (And.intro hsb hss);have HSt:=Hh (show zfr gr f L x0 0=Y by rw[hY];rfl);clear hA hL hlc hdc hT hP hne hgk hnx hend hp f1 hs1 f2 e1 e2 hfr ha3 hg hY h0 hx0 hlt;go_enter Tryz.func86,Tryz.ntmps86;go_upto_region 1 with fail;rw[←hw1];clear hw1;go_upto_region 2 with fail;rw[←hw2];rw[←hsb];clear hw2 hsb hss ix3 c3 ix4 c4 c5;go_wp2_with fail;go_loopw [8] (fun v8 W=>∃(k:Nat),v8=.int .i64 (k:Int)/\k≤L.length/\W.heap[sb]?=some (.cells #[.int .i64 (zfr gr f L x0 k).1,.int .i64 ((zfr gr f L x0 k).2:Int)] 43 (0,0))/\Fr (fun q=>q=sb) w2 W) (fun v8 _=>L.length-(intOf v8).toNat)
 case atStart=>exact⟨0,rfl,Nat.zero_le _,by rw[HSt.out];exact E2.out,Fr.refl _ _⟩
 case round =>
  obtain⟨k,rfl,hk,hc,hf⟩:=hrel;obtain⟨w7,rfl⟩:∃w7,w7=wr:=⟨_,rfl⟩;by_cases hkl:k<L.length
  ·obtain⟨x,b5,o5,hx,hxn,ix5,hc5⟩:=HLt.out k hkl
   obtain⟨b6,o6,ix6,hc6,_⟩:=HDt.out x hxn;have c5:=hc5 w7 hf;obtain⟨c6,c7⟩:=hc6 w7 hf;obtain⟨s,hs⟩:∃s,s=zfr gr f L x0 k:=⟨_,rfl⟩;obtain⟨y,hy⟩:∃y,y=f x:=⟨_,rfl⟩;rw[←hs]at hc;rw[←hy]at c6 c7;have gs:=HGk.out k hk;rw[←hs]at gs;have gy:=HG.out x hxn;rw[←hy]at gy;have hnext:=HNx.out k x hx;rw[←hs,←hy]at hnext;obtain⟨W9,hW9⟩:∃W9,W9=w7.alloc (.cells #[.int .i64 y.1,.int .i64 (y.2:Int)] 43):=⟨_,rfl⟩;obtain⟨xb,hxb⟩:∃xb,xb=w7.heap.size:=⟨_,rfl⟩;have f9:Fr NoM w7 W9:=by rw[hW9];exact(Fr.refl NoM w7).alloc _
   have e9:W9.heap[xb]?=some (.cells #[.int .i64 y.1,.int .i64 (y.2:Int)] 43 (0,0)):=by rw[hW9,hxb];exact heap_alloc_new w7 _
   have es:=f9.heap hc (fun q=>q);have HCs:=Hh (fun(W:World) (g:Fr NoM W9 W)=>show(W.cell? ⟨sb,0,none⟩=some (.int .i64 s.1)/\W.cell? ⟨sb,1,none⟩=some (.int .i64 (s.2:Int))/\W.cell? ⟨xb,0,none⟩=some (.int .i64 y.1)/\W.cell? ⟨xb,1,none⟩=some (.int .i64 (y.2:Int)))/\W.frozen? ⟨sb,0,none⟩=false/\W.frozen? ⟨sb,1,none⟩=false from by
    have h1:=g.heap es (fun q=>q);have h2:=g.heap e9 (fun q=>q);exact⟨⟨by rw[cell_of_row W _ 0 _ _ _ h1];rfl,by rw[cell_of_row W _ 1 _ _ _ h1];rfl,by rw[cell_of_row W _ 0 _ _ _ h2];rfl,by rw[cell_of_row W _ 1 _ _ _ h2];rfl⟩,by simp[World.frozen?,h1],by simp[World.frozen?,h1]⟩)
   have HSet:=Hh (fun(W:World) (g:Fr NoM W9 W)=>show((W.setCell ⟨sb,0,none⟩ (.int .i64 y.1)).setCell ⟨sb,1,none⟩ (.int .i64 (y.2:Int))).heap[sb]?=some (.cells #[.int .i64 y.1,.int .i64 (y.2:Int)] 43 (0,0))/\Fr (fun q=>q=sb) w2 ((W.setCell ⟨sb,0,none⟩ (.int .i64 y.1)).setCell ⟨sb,1,none⟩ (.int .i64 (y.2:Int)))from by
    have h1:=g.heap es (fun q=>q);refine⟨by rw[heap_set (heap_set h1 _)];rfl,?_⟩;exact(((hf.trans f9 (fun _ _ q=>q.elim)).trans g (fun _ _ q=>q.elim)).setCell _ _ (fun _=>rfl)).setCell _ _ (fun _=>rfl))
   have HStay:=Hh (fun(W:World) (g:Fr NoM W9 W)=>show W.heap[sb]?=some (.cells #[.int .i64 s.1,.int .i64 (s.2:Int)] 43 (0,0))/\Fr (fun q=>q=sb) w2 W from⟨g.heap es (fun q=>q),(hf.trans f9 (fun _ _ q=>q.elim)).trans g (fun _ _ q=>q.elim)⟩);obtain⟨res,hres⟩:∃res,res=zes gr s y:=⟨_,rfl⟩;have hs16:s.2≤16:=by have:=gs.2.1.2;omega
   have hy16:y.2≤16:=by have:=gy.2.1.2;omega
   have hl1:=fun(W:World)=>zct s.1 y.1 s.2 y.2 W (by omega) (by omega) (by have:=gs.1;omega) (by have:=gy.1;omega) (zmr s y) (zrx hs16 hy16)
   have hl2:=fun(W:World)=>zct y.1 s.1 y.2 s.2 W (by omega) (by omega) (by have:=gy.1;omega) (by have:=gs.1;omega) (zmr y s) (zrx hy16 hs16)
   unfold zf6 at hnext;rw[←hres]at hnext;have HN1:=Hh (show res≠false→zfr gr f L x0 (k+1)=y from fun e=>by rw[hnext,if_pos (by cases res;exact absurd rfl e;rfl)]);have HN0:=Hh (show res≠true→zfr gr f L x0 (k+1)=s from fun e=>by rw[hnext,if_neg e]);have HKl:=Hh hkl;have aL:(k:Int)<(L.length:Int):=by omega
   clear hc hf hc5 hc6 gs gy hx hxn es e9 f9 hs16 hy16 hk hnext hs hy hkl;unfold zes at hres;cases gr with
   | true =>
    rw[if_pos rfl]at hres;rw[←hres]at hl1;have HL:=Hh hl1;clear hl1 hl2 hres;go_upto_region 6 with fail;rw[←hW9,←hxb];clear hW9 hxb c5 c6 c7 ix5 ix6;obtain⟨⟨q1,q2,q3,q4⟩,q5,q6⟩:=HCs.out W9 (Fr.refl _ _);go_wp2_with fail;(with_reducible refine(HL.out W9).mono ?_);rintro e w8 ⟨rfl,f8⟩;have F8:=Hh f8;obtain⟨⟨q1,q2,q3,q4⟩,q5,q6⟩:=HCs.out w8 f8;clear f8;cases res with
    | true =>
     go_wp2;go_roundw
     case rel =>
      obtain⟨z1,z2⟩:=HSet.out w8 F8.out;have hkl:=HKl.out;refine⟨k+1,by go_num,by omega,?_,z2⟩;rw[HN1.out (by simp)];exact z1
     case measure=>have:=HKl.out;simp[intOf];omega
    | false =>
     go_wp2;go_roundw
     case rel =>
      obtain⟨z1,z2⟩:=HStay.out w8 F8.out;have hkl:=HKl.out;refine⟨k+1,by go_num,by omega,?_,z2⟩;rw[HN0.out (by simp)];exact z1
     case measure=>have:=HKl.out;simp[intOf];omega
   | false =>
    rw[if_neg (by decide)]at hres;rw[←hres]at hl2;have HL:=Hh hl2;clear hl1 hl2 hres;go_upto_region 6 with fail;rw[←hW9,←hxb];clear hW9 hxb c5 c6 c7 ix5 ix6;obtain⟨⟨q1,q2,q3,q4⟩,q5,q6⟩:=HCs.out W9 (Fr.refl _ _);go_wp2_with fail;(with_reducible refine(HL.out W9).mono ?_);rintro e w8 ⟨rfl,f8⟩;have F8:=Hh f8;obtain⟨⟨q1,q2,q3,q4⟩,q5,q6⟩:=HCs.out w8 f8;clear f8;cases res with
    | true =>
     go_wp2;go_roundw
     case rel =>
      obtain⟨z1,z2⟩:=HSet.out w8 F8.out;have hkl:=HKl.out;refine⟨k+1,by go_num,by omega,?_,z2⟩;rw[HN1.out (by simp)];exact z1
     case measure=>have:=HKl.out;simp[intOf];omega
    | false =>
     go_wp2;go_roundw
     case rel =>
      obtain⟨z1,z2⟩:=HStay.out w8 F8.out;have hkl:=HKl.out;refine⟨k+1,by go_num,by omega,?_,z2⟩;rw[HN0.out (by simp)];exact z1
     case measure=>have:=HKl.out;simp[intOf];omega
  ·have hkn:k=L.length:=by omega
   subst hkn;obtain⟨e1,e2⟩:=HEnd.out;rw[←e1,←e2]at hc;have q1:w7.cell? ⟨sb,0,none⟩=some (.int .i64 T):=by rw[cell_of_row w7 _ 0 _ _ _ hc];rfl
   have q2:w7.cell? ⟨sb,1,none⟩=some (.int .i64 P):=by rw[cell_of_row w7 _ 1 _ _ _ hc];rfl
   obtain⟨r0,r1,r2,r3⟩:=HRs.out w7 hf;have HM:=Hh (((HFr.out w7 hf).setCell ⟨w.heap.size,0,none⟩ (.int .i64 T) (fun h=>by have h:w.heap.size<w.heap.size:=h;omega)).setCell ⟨w.heap.size,1,none⟩ (.int .i64 P) (fun h=>by have h:w.heap.size<w.heap.size:=h;omega));clear hc hf e1 e2;go_wp2_with fail;refine bodyPost_ret (v:=.agg #[.int .i64 T,.int .i64 P]) (by simp[results,Tryz.results86,go_sem,r0,r1,r2,r3]) rfl ?_
   exact⟨rfl,HM.out⟩
end Go.Proofs.YtknniemfpkjnbaaGreatDoor
