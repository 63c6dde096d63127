import Derived.Test.YtlapkmhemepcaaaGreatDoorZnp
import Derived.Test.YtlapkmhemepcaaaGreatDoorZn10
/- Lemmas. -/
namespace Go.Proofs.YtlapkmhemepcaaaGreatDoor
set_option linter.unusedVariables false
set_option linter.unusedSimpArgs false
open Go.RowKit
theorem zvh {n:Int}{s:Nat}(hn:n.natAbs≤6)(hs:s<4):(za6 (uqC n s)).length≤10:=by
 obtain⟨_,hl,_⟩:=zea hn hs;have h:DF ((zfp n s).map fun p=>uqC p.1 p.2) (za6 (uqC n s)):=⟨_,rfl,fun x hx=>by
  obtain⟨p,hp,e⟩:=zsk hn hs hx;exact List.mem_map.2 ⟨p,hp,e⟩⟩
 have h1:=h.props.2.1;rw[List.length_map]at h1;omega
theorem zr5 {n:Int}{s:Nat}(hn:n.natAbs≤6)(hs:s<4):canC (uqC n s)=uqC n s:=(zsd (ybt _ n s (Nat.lt_succ_self _) hn hs) (zcu _) (zcu _)).symm
theorem zf4 {n:Int}{s:Nat}(hn:n.natAbs≤6)(hs:s<4):zc5 (i2 (za6 (uqC n s))):=(zhp (zc4 _) (zgv hn hs)).1
theorem zr4 {n:Int}{s:Nat}(hn:n.natAbs≤6)(hs:s<4):canN (za6 (uqC n s))=za6 (uqC n s):=by unfold canN;rw[zak,zr5 hn hs]
theorem zsm {n:Int}{s:Nat}(hn:n.natAbs≤6)(hs:s<4):csC (i2 (za6 (uqC n s)))=za6 (uqC n s):=by unfold csC;rw[zbe,zr4 hn hs]
theorem ye9 {n m:Int}{s t:Nat}(hn:n.natAbs≤3)(hm:m.natAbs≤3)(hs:s<4)(ht:t<4):csR true [i2 (za6 (uqC n s)),i2 (za6 (uqC m t))]=some (za6 (uqC (n+m) (s ^^^ t))):=by
 obtain⟨hsum,hx⟩:=ybr hn hm hs ht;have h1:zgu true (some [([],[])]) (i2 (za6 (uqC n s)))=some (za6 (uqC n s)):=by
  have e:csS [([],[])] (i2 (za6 (uqC n s)))=za6 (uqC n s):=by
   unfold csS sumN;rw[zsm (by omega) hs,←zkc,zak,zak,znk]
  rw[zsa (zf4 (by omega) hs) ?_ (fun _=>by rw[e,zr4 (by omega) hs];exact zgv (by omega) hs),e,zr4 (by omega) hs];rw[zsm (by omega) hs];refine zcn.2 ⟨zya,zf4 (by omega) hs,?_,?_⟩
  ·rw[zc3,zc3]
   have:=zvh (n:=n) (s:=s) (by omega) hs;show 1*_≤_
   omega
  ·rw[zbe,zbe]
   unfold sumN;rw[←zkc,zak,zak,znk];exact zgv (by omega) hs
 have h2:zgu true (some (za6 (uqC n s))) (i2 (za6 (uqC m t)))=some (za6 (uqC (n+m) (s ^^^ t))):=by
  have e:csS (za6 (uqC n s)) (i2 (za6 (uqC m t)))=za6 (sumC (uqC n s) (uqC m t)):=by
   unfold csS sumN;rw[zsm (by omega) ht,zak,zak]
  have e2:canN (csS (za6 (uqC n s)) (i2 (za6 (uqC m t))))=za6 (uqC (n+m) (s ^^^ t)):=by
   rw[e];unfold canN;rw[zak,hsum]
  rw[zsa (zf4 (by omega) ht) ?_ (fun _=>by rw[e2];exact zgv (by omega) hx),e2];rw[zsm (by omega) ht];refine zcn.2 ⟨zf4 (by omega) hs,zf4 (by omega) ht,?_,?_⟩
  ·rw[zc3,zc3]
   have h1:=zvh (n:=n) (s:=s) (by omega) hs;have h2:=zvh (n:=m) (s:=t) (by omega) ht;exact Nat.le_trans (Nat.mul_le_mul h1 h2) (by decide)
  ·rw[zbe,zbe]
   unfold sumN;rw[zak,zak];exact zr3 (by omega) (by omega) hs ht
 unfold csR;rw[if_pos (by simp)];show zgu true (zgu true (some [([],[])]) _) _=_
 rw[h1,h2]
theorem IsUps.at {n m:Int}{s:Nat}{x:Int}{ok:Bool}(hn:n.natAbs≤6)(hs:s<4)(h:IsUps true (i2 (za6 (uqC n s))) m x ok):m=n/\x=s/\ok=true:=by
 refine h.one (.inl ⟨rfl,rfl,s,rfl,by omega,by omega,by omega,?_⟩);rw[zbe,zak,zr5 hn hs];rfl
def zb8 (n:Int)(s:Nat):Int:=if 2≤n∨(n=1/\s≠1)then 1 else if n≤-2∨(n=-1/\s≠1)then 2 else if n=0/\s=0 then 4 else 3
theorem ye4 {n:Int}{s:Nat}(hn:n.natAbs≤6)(hs:s<4):outW (!geC zac (zas (za6 (uqC n s)))) (!geC (zas (za6 (uqC n s))) zac)=zb8 n s:=by
 obtain⟨h1,h2⟩:=yc5 hn hs;rw[zak,h1,h2];have:∀(i:Fin 13) (t:Fin 4),outW (!uqGe (-((i.1:Int)-6)) t.1) (!uqGe ((i.1:Int)-6) t.1)=zb8 ((i.1:Int)-6) t.1:=by decide +kernel
 have h:=this ⟨(n+6).toNat,by omega⟩ ⟨s,hs⟩
 simp only[show(((n+6).toNat:Nat):Int)-6=n by omega]at h;exact h
set_option maxRecDepth 4000 in
set_option maxHeartbeats 4000000 in
theorem zoh (n:Int)(s:Nat)(w:World)(hn:n.natAbs≤3)(hs:s<4):Calls Tryz.prog 35 #[.int .i64 n,.int .i64 (s:Int)] w fun e w'=>∃v',e=.returned (.tuple #[.agg #[v'],.bool true])/\NodeL (fun b=>w.heap.size≤b) encN w' v' (za6 (uqC n s))/\Fr NoM w w':=by
 obtain⟨w1,hw1⟩:∃w1,w1=w.alloc (.cells #[.slice none 0 0] 26):=⟨_,rfl⟩;have f1:Fr NoM w w1:=by rw[hw1];exact(Fr.refl NoM w).alloc _
 have hs1:w1.heap.size=w.heap.size+1:=by rw[hw1];simp
 have e1:w1.heap[w.heap.size]?=some (.cells #[.slice none 0 0] 26 (0,0)):=by rw[hw1];exact heap_alloc_new w _
 have HRs:=Hh (fun(W:World) (f:Fr NoM w1 W)=>show W.cell? ⟨w.heap.size,0,none⟩=some (.slice none 0 0)/\W.frozen? ⟨w.heap.size,0,none⟩=false from by
  have h1:=f.heap e1 (fun q=>q);exact⟨by rw[cell_of_row W _ 0 _ _ _ h1];rfl,by simp[World.frozen?,h1]⟩)
 have HI1:=Hh (fun(W:World)=>show Calls Tryz.prog 80 #[.int .i64 n,.int .i64 (-12),.int .i64 12] W fun e w'=>e=.returned (.bool true)/\W=w' from by
  have h:=zk6 n (-12) 12 W;rw[show betw n (-12) 12=true from by unfold betw;simp;omega]at h;exact h)
 have HI2:=Hh (fun(W:World)=>show Calls Tryz.prog 80 #[.int .i64 (s:Int),.int .i64 0,.int .i64 15] W fun e w'=>e=.returned (.bool true)/\W=w' from by
  have h:=zk6 (s:Int) 0 15 W;rw[show betw (s:Int) 0 15=true from by unfold betw;simp;omega]at h;exact h)
 have HU:=Hh (zxz n s w1 hn hs);have HFi:=Hh (zgv (n:=n) (by omega) hs);have F1:=Hh f1;have HS1:=Hh hs1;clear f1 hs1 e1 hn hs;go_enter Tryz.func35,Tryz.ntmps35;go_upto_region 1 with fail;rw[←hw1];clear hw1;go_wp2_with fail;(with_reducible refine(HI1.out _).mono ?_);rintro e w2 ⟨rfl,rfl⟩;go_wp2_with fail;(with_reducible refine(HI2.out _).mono ?_);rintro e w3 ⟨rfl,rfl⟩;go_wp2_with fail;(with_reducible refine HU.out.mono ?_);rintro e w4 ⟨v4,rfl,n4,f4⟩;have HIf:=Hh (yay v4 (za6 (uqC n s)) w4 n4);have F4:=Hh f4;clear n4 f4;go_wp2_with fail;(with_reducible refine HIf.out.mono ?_);rintro e w7 ⟨v7,rfl,n7,f7⟩;rw[HFi.out,if_pos rfl]at n7;have f57:=F4.out.trans f7 (fun _ _ q=>q);obtain⟨k0,k1⟩:=HRs.out w7 f57;obtain⟨a7,c7,rfl,z⟩:=id n7;have HN7:=Hh (show NodeL (fun q=>w1.heap.size≤q) encN w7 _ (za6 (uqC n s))from n7);have F7:=Hh f57;clear z n7 f7 f57 HIf;rw[HFi.out];go_wp2;refine bodyPost_ret (v:=.tuple #[.agg #[.slice a7 (za6 (uqC n s)).length c7],.bool true]) (by simp[results,Tryz.results35,go_sem,k0]) rfl ?_
 obtain⟨v,e,h1,h2⟩:=zkg rfl F1.out HS1.out F7.out HN7.out;cases e
 exact⟨_,rfl,h1,h2⟩
end Go.Proofs.YtlapkmhemepcaaaGreatDoor
