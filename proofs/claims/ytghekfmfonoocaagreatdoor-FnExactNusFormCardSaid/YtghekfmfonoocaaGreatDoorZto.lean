import Derived.Test.YtghekfmfonoocaaGreatDoorZt8
/- Lemmas. -/
namespace Go.Proofs.YtghekfmfonoocaaGreatDoor
set_option linter.unusedVariables false
set_option linter.unusedSimpArgs false
open Go.RowKit
structure BkSt (w1 W:World) (bb:Nat) (V:List PL) (BV:List Nat) (S:Nat→Prop) (v1:Value) (A1 c1:List Nat) (v2:Value) (A2 c2:List Nat) (v3:Value) (A3 c3:List Nat):Prop where
 book:BookS S W bb V BV
 ok:PoolOK V BV
 sub:∀q,S q→w1.heap.size≤q/\q<W.heap.size
 o1:W.ownsRow w1.heap.size 3 1 v1 A1.length (A1.map encN)
 o2:W.ownsRow w1.heap.size 3 1 v2 A2.length (A2.map encN)
 o3:W.ownsRow w1.heap.size 3 1 v3 A3.length (A3.map encN)
 n1:∀b,v1.ownBlock=some b→¬S b
 n2:∀b,v2.ownBlock=some b→¬S b
 n3:∀b,v3.ownBlock=some b→¬S b
 s12:∀b,v1.ownBlock=some b→v2.ownBlock≠some b
 s13:∀b,v1.ownBlock=some b→v3.ownBlock≠some b
 s23:∀b,v2.ownBlock=some b→v3.ownBlock≠some b
 r1:RowC V A1 c1
 r2:RowC V A2 c2
 r3:RowC V A3 c3
 fr:Fr NoM w1 W
section
variable {w1 W W' Wa:World}{bb:Nat}{V:List PL}{BV:List Nat}{S S':Nat→Prop}{v1 v2 v3 v4:Value}{A1 c1 A2 c2 A3 c3:List Nat}{x c:Nat}
theorem BkSt.swap12 (h:BkSt w1 W bb V BV S v1 A1 c1 v2 A2 c2 v3 A3 c3):BkSt w1 W bb V BV S v2 A2 c2 v1 A1 c1 v3 A3 c3 :=
 ⟨h.book,h.ok,h.sub,h.o2,h.o1,h.o3,h.n2,h.n1,h.n3,fun b p q=>h.s12 b q p,h.s23,h.s13,h.r2,h.r1,h.r3,h.fr⟩
theorem BkSt.swap13 (h:BkSt w1 W bb V BV S v1 A1 c1 v2 A2 c2 v3 A3 c3):BkSt w1 W bb V BV S v3 A3 c3 v2 A2 c2 v1 A1 c1 :=
 ⟨h.book,h.ok,h.sub,h.o3,h.o2,h.o1,h.n3,h.n2,h.n1,fun b p q=>h.s23 b q p,fun b p q=>h.s13 b q p,fun b p q=>h.s12 b q p,h.r3,h.r2,h.r1,h.fr⟩
theorem BkSt.fr0 (h:BkSt w1 W bb V BV S v1 A1 c1 v2 A2 c2 v3 A3 c3)(hf:Fr NoM W W'):BkSt w1 W' bb V BV S v1 A1 c1 v2 A2 c2 v3 A3 c3 :=
 ⟨h.book.fr0 hf,h.ok,fun q hq=>⟨(h.sub q hq).1,Nat.lt_of_lt_of_le (h.sub q hq).2 hf.size⟩,za3 h.o1 hf (fun _ _ q=>q),za3 h.o2 hf (fun _ _ q=>q),za3 h.o3 hf (fun _ _ q=>q),h.n1,h.n2,h.n3,h.s12,h.s13,h.s23,h.r1,h.r2,h.r3,h.fr.trans hf (fun _ _ q=>q)⟩
theorem BkSt.app (h:BkSt w1 W bb V BV S v1 A1 c1 v2 A2 c2 v3 A3 c3)(ha:Fr NoM W Wa)(ho:W'.ownsRow w1.heap.size 3 1 v4 (A1.length+1) (A1.map encN ++ [x].map encN))(hf:Fr (Own1 v1) Wa W')(hq:v4.ownBlock=v1.ownBlock∨∃b,v4.ownBlock=some b/\Wa.heap.size≤b)(hx:x<V.length)(hc:(za0 V).getD x 0=c) :
  BkSt w1 W' bb V BV S v4 (A1 ++ [x]) (c1 ++ [c]) v2 A2 c2 v3 A3 c3:=by
 have h:=h.fr0 ha;have hlt:∀b,v4.ownBlock=some b→v1.ownBlock=some b∨Wa.heap.size≤b:=fun b hb=>by
  rcases hq with h1|⟨b',h1,h2⟩
  ·rw[h1]at hb;exact .inl hb
  ·rw[h1]at hb;cases hb;exact .inr h2
 exact⟨h.book.fr hf (fun k hk e=>h.n1 k e hk),h.ok,fun q hq=>⟨(h.sub q hq).1,Nat.lt_of_lt_of_le (h.sub q hq).2 hf.size⟩,by rw[List.length_append,List.map_append];exact ho,za3 h.o2 hf (fun b hb e=>h.s12 b e hb),za3 h.o3 hf (fun b hb e=>h.s13 b e hb),
  fun b hb hS=>by
   rcases hlt b hb with h1|h1
   ·exact h.n1 b h1 hS
   ·have:=(h.sub b hS).2;omega,
  h.n2,h.n3,fun b hb hu=>by
   rcases hlt b hb with h1|h1
   ·exact h.s12 b h1 hu
   ·have:=(h.o2.lt b hu).2;omega,fun b hb hu=>by
   rcases hlt b hb with h1|h1
   ·exact h.s13 b h1 hu
   ·have:=(h.o3.lt b hu).2;omega,h.s23,h.r1.snoc hx hc,h.r2,h.r3,
  h.fr.trans hf (fun q hq e=>by have:=(h.o1.lt q e).1;omega)⟩
theorem BkSt.rows (h:BkSt w1 W bb V BV S v1 A1 c1 v2 A2 c2 v3 A3 c3)(hW:W'=(W.alloc (.cells #[] 3)).alloc (.cells #[] 3)) :
  BkSt w1 W' bb V BV S v1 A1 c1 (.slice (some ⟨W.heap.size,0,none⟩) 0 0) [] [] (.slice (some ⟨W.heap.size+1,0,none⟩) 0 0) [] []:=by
 have hf:Fr NoM W W':=by rw[hW];exact((Fr.refl NoM W).alloc _).alloc _
 have h0:=h;have h:=h.fr0 hf;have hs:W'.heap.size=W.heap.size+2:=by rw[hW];simp
 have hw:=h.fr.size;have m1:W'.ownsRow W.heap.size 3 1 (.slice (some ⟨W.heap.size,0,none⟩) 0 0) 0 []:=by
  rw[hW];exact za3 (World.ownsRow_made W #[] 0 (Nat.le_refl _) (by decide) (by simp)) ((Fr.refl NoM _).alloc _) (fun _ _ q=>q)
 have m2:W'.ownsRow (W.heap.size+1) 3 1 (.slice (some ⟨W.heap.size+1,0,none⟩) 0 0) 0 []:=by
  have h:((W.alloc (.cells #[] 3)).alloc (.cells #[] 3)).ownsRow (W.alloc (.cells #[] 3)).heap.size 3 1 (.slice (some ⟨(W.alloc (.cells #[] 3)).heap.size,0,none⟩) 0 0) 0 []:=World.ownsRow_made (W.alloc (.cells #[] 3)) #[] 0 (Nat.le_refl _) (by decide) (by simp);rw[World.size_alloc,←hW]at h;exact h
 exact⟨h.book,h.ok,h.sub,h.o1,zb3 m1 h0.fr.size,zb3 m2 (by have:=h0.fr.size;omega),h.n1,fun b hb hS=>by
   have e:W.heap.size=b:=Option.some.inj hb;have:=(h0.sub b hS).2;omega,fun b hb hS=>by
   have e:W.heap.size+1=b:=Option.some.inj hb;have:=(h0.sub b hS).2;omega,fun b hb hu=>by
   have e:W.heap.size=b:=Option.some.inj hu;have:=(h0.o1.lt b hb).2;omega,fun b hb hu=>by
   have e:W.heap.size+1=b:=Option.some.inj hu;have:=(h0.o1.lt b hb).2;omega,fun b hb hu=>by
   have e:W.heap.size=b:=Option.some.inj hb;have e':W.heap.size+1=b:=Option.some.inj hu;omega,h.r1,RowC.nil _,RowC.nil _,h.fr⟩
theorem BkSt.close (h:BkSt w1 W bb V BV S v1 A1 c1 v2 A2 c2 v3 A3 c3):BkSt w1 W bb V BV S v1 A1 c1 (.slice none 0 0) [] [] (.slice none 0 0) [] [] :=
 ⟨h.book,h.ok,h.sub,h.o1,World.ownsRow_nil W _ _ _,World.ownsRow_nil W _ _ _,h.n1,(fun b hb=>by cases hb),(fun b hb=>by cases hb),(fun b _ hb=>by cases hb),(fun b _ hb=>by cases hb),(fun b hb=>by cases hb),h.r1,RowC.nil _,RowC.nil _,h.fr⟩
theorem BkSt.put {L3 R3 cs ds:List Nat}(h:BkSt w1 W bb V BV S v1 A1 c1 v2 A2 c2 v3 A3 c3)(hL:RowC V L3 cs)(hR:RowC V R3 ds)(hb:BookS (fun k=>S k∨W.heap.size≤k) W' bb (putB V BV L3 R3).1 (putB V BV L3 R3).2.1)(hf:Fr (zcr W bb) W W') :
  BkSt w1 W' bb (za4 V BV L3 R3).1 (za4 V BV L3 R3).2.1 (fun k=>(S k∨W.heap.size≤k)/\k<W'.heap.size) v1 A1 c1 v2 A2 c2 v3 A3 c3/\(putB V BV L3 R3).2.2<(za4 V BV L3 R3).1.length/\(za0 (za4 V BV L3 R3).1).getD (putB V BV L3 R3).2.2 0=mkC cs ds ∧
   V <+: (za4 V BV L3 R3).1/\(za4 V BV L3 R3).1.length≤V.length+1:=by
 obtain⟨q1,q2,q3,q4⟩:=zer h.ok hL hR;obtain⟨_,q5,_⟩:=zd6 V BV L3 R3;rw[zcd h.ok]at hb ⊢;have hm:=h.book.m;have hsz:=h.fr.size;refine⟨⟨hb.cut,q1,fun q hq=>⟨hq.1.elim (fun e=>(h.sub q e).1) (fun e=>by omega),hq.2⟩,za3 h.o1 hf (fun b e z=>h.n1 b e (hm b z)),za3 h.o2 hf (fun b e z=>h.n2 b e (hm b z)),za3 h.o3 hf (fun b e z=>h.n3 b e (hm b z)),
  fun b e z=>z.1.elim (h.n1 b e) (fun k=>by have:=(h.o1.lt b e).2;omega),fun b e z=>z.1.elim (h.n2 b e) (fun k=>by have:=(h.o2.lt b e).2;omega),fun b e z=>z.1.elim (h.n3 b e) (fun k=>by have:=(h.o3.lt b e).2;omega),
  h.s12,h.s13,h.s23,h.r1.mono q2,h.r2.mono q2,h.r3.mono q2,h.fr.trans hf (fun q hq z=>by have:=(h.sub q (hm q z)).1;omega)⟩,q3,q4,q2,q5⟩
theorem BkSt.nats1 (h:BkSt w1 W bb V BV S v1 A1 c1 v2 A2 c2 v3 A3 c3):Nats W v1 A1:=SliceOf.of_owns h.o1 rfl
end
theorem yeu {Fs:List PL}(h:∀y∈Fs,y.1.length≤24/\y.2.length≤24){i:Nat}{y:PL}(hy:Fs[i]?=some y):y.1.length≤24/\y.2.length≤24:=h y (List.mem_of_getElem? hy)
set_option maxRecDepth 8000 in
set_option maxHeartbeats 16000000 in
theorem zz5 {R S0:Nat→Prop}(v1 v2:Value)(Fs Gs:List PL)(w:World)(h1:NodeL R encN w v1 Fs)(h2:NodeL S0 encN w v2 Gs)(oF:OptsOK Fs)(oG:OptsOK Gs)(lF:∀y∈Fs,y.1.length≤24/\y.2.length≤24)(lG:∀y∈Gs,y.1.length≤24/\y.2.length≤24)(pF:0<Fs.length)(pG:0<Gs.length)(hFG:Fs.length*Gs.length≤1600) :
  Calls Tryz.prog 48 #[.agg #[v1],.agg #[v2]] w fun e w'=>∃v',e=.returned (.agg #[v'])/\NodeL (fun b=>w.heap.size≤b) encN w' v' (zac (sumC (zb0 Fs) (zb0 Gs)))/\Fr NoM w w':=by
 obtain⟨w3,hw3⟩:∃w3,w3=((w.alloc (.cells #[v1] 26)).alloc (.cells #[v2] 26)).alloc (.cells #[.slice none 0 0] 26):=⟨_,rfl⟩;have f3:Fr NoM w w3:=by rw[hw3];exact(((Fr.refl NoM w).alloc _).alloc _).alloc _
 have hs3:w3.heap.size=w.heap.size+3:=by rw[hw3];simp
 have e0:w3.heap[w.heap.size]?=some (.cells #[v1] 26 (0,0)):=by rw[hw3];exact(((Fr.refl NoM _).alloc _).alloc _).heap (heap_alloc_new w _) (fun q=>q)
 have e1:w3.heap[w.heap.size+1]?=some (.cells #[v2] 26 (0,0)):=by
  have h:=heap_alloc_new (w.alloc (.cells #[v1] 26)) (.cells #[v2] 26);rw[World.size_alloc]at h;rw[hw3];exact((Fr.refl NoM _).alloc _).heap h (fun q=>q)
 have e2:w3.heap[w.heap.size+2]?=some (.cells #[.slice none 0 0] 26 (0,0)):=by
  have h:=heap_alloc_new ((w.alloc (.cells #[v1] 26)).alloc (.cells #[v2] 26)) (.cells #[.slice none 0 0] 26);rw[World.size_alloc,World.size_alloc]at h;rw[hw3];exact h
 obtain⟨bb,hbb⟩:∃bb,bb=w.heap.size+1+1+1:=⟨_,rfl⟩;obtain⟨q0,hq0⟩:∃q0,q0=Value.slice (some ⟨w.heap.size+1+1+1+1,0,none⟩) 0 0:=⟨_,rfl⟩;obtain⟨w4,hw4⟩:∃w4,w4=w3.alloc (.cells #[.slice none 0 0,.slice none 0 0] 109):=⟨_,rfl⟩;have f4:Fr NoM w3 w4:=by rw[hw4];exact(Fr.refl NoM w3).alloc _
 have hs4:w4.heap.size=w.heap.size+4:=by rw[hw4];simp[hs3]
 have e4:w4.heap[bb]?=some (.cells #[.slice none 0 0,.slice none 0 0] 109 (0,0)):=by rw[hw4,hbb,show w.heap.size+1+1+1=w3.heap.size from by omega];exact heap_alloc_new w3 _
 obtain⟨w5,hw5⟩:∃w5,w5=w4.alloc (.cells #[] 3):=⟨_,rfl⟩;have f5:Fr NoM w4 w5:=by rw[hw5];exact(Fr.refl NoM w4).alloc _
 have hs5:w5.heap.size=w.heap.size+5:=by rw[hw5];simp[hs4]
 have m5:w5.ownsRow (w.heap.size+4) 3 1 (.slice (some ⟨w.heap.size+4,0,none⟩) 0 0) 0 []:=by
  have h:(w4.alloc (.cells #[] 3)).ownsRow w4.heap.size 3 1 (.slice (some ⟨w4.heap.size,0,none⟩) 0 0) 0 []:=World.ownsRow_made w4 #[] 0 (Nat.le_refl _) (by decide) (by simp);rw[hs4,←hw5]at h;exact h
 obtain⟨n,hn⟩:∃n,n=Gs.length:=⟨_,rfl⟩;obtain⟨nF,hnF⟩:∃nF,nF=Fs.length:=⟨_,rfl⟩;have hst:BkSt w3 w5 bb [] [] (fun q=>q=bb) q0 [] ((ze1 (za0 Fs) (za0 Gs)).take 0) (.slice none 0 0) [] [] (.slice none 0 0) [] [] :=
  ⟨(BookS.made e4).fr0 f5,PoolOK.nil,fun q hq=>⟨by rw[hq];omega,by rw[hq];omega⟩,(by rw[hq0];exact zb3 m5 (by omega)),World.ownsRow_nil _ _ _ _,World.ownsRow_nil _ _ _ _,fun b e hq=>by
   rw[hq0]at e;have e:w.heap.size+4=b:=Option.some.inj e;omega,(fun b hb=>by cases hb),(fun b hb=>by cases hb),(fun b _ hb=>by cases hb),(fun b _ hb=>by cases hb),(fun b hb=>by cases hb),RowC.nil _,RowC.nil _,RowC.nil _,f4.trans f5 (fun _ _ q=>q)⟩
 have H1:=Hh (h1.fr0 f3);have H2:=Hh (h2.fr0 f3);obtain⟨na1,nc1,rfl,z⟩:=id h1;clear z;obtain⟨na2,nc2,rfl,z⟩:=id h2;clear z;have HK:=Hh (fun(W:World) (f:Fr NoM w3 W)=>show W.cell? ⟨w.heap.size,0,none⟩=some (.slice na1 Fs.length nc1)/\W.cell? ⟨w.heap.size+1,0,none⟩=some (.slice na2 Gs.length nc2)/\W.cell? ⟨w.heap.size+2,0,none⟩=some (.slice none 0 0)/\W.frozen? ⟨w.heap.size+2,0,none⟩=false from by
  have k0:=f.heap e0 (fun q=>q);have k1:=f.heap e1 (fun q=>q);have k2:=f.heap e2 (fun q=>q);exact⟨by rw[cell_of_row W _ 0 _ _ _ k0];rfl,by rw[cell_of_row W _ 0 _ _ _ k1];rfl,by rw[cell_of_row W _ 0 _ _ _ k2];rfl,by simp[World.frozen?,k2]⟩)
 rw[←hnF,←hn]at hFG HK;have HSt:=Hh hst;have HF3:=Hh f3;have HS3:=Hh hs3;have OF:=Hh oF;have OG:=Hh oG;have LF:=Hh lF;have LG:=Hh lG;have HFG:=Hh hFG;have PF:=Hh pF;have PG:=Hh pG;have Hn:=Hh hn;have HnF:=Hh hnF;have HTab:=Hh (fun i k (hi:i<nF) (hk:k<n)=>show(ze1 (za0 Fs) (za0 Gs))[i*n+k]?=some (sumC ((za0 Fs).getD i 0) ((za0 Gs).getD k 0))from by
  have h:=zv1 (CF:=za0 Fs) (CG:=za0 Gs) (i:=i) (k:=k) (by rw[za2];omega) (by rw[za2];omega);rw[za2,←hn]at h;exact h)
 have hnb:n≤1600/\nF≤1600:=by
  constructor
  ·have:=Nat.le_mul_of_pos_left n (show 0<nF by omega);omega
  ·have:=Nat.le_mul_of_pos_right nF (show 0<n by omega);omega
 have HNb:=Hh hnb;rw[←hnF,←hn]at hw3 ⊢;clear h1 h2 oF oG lF lG pF pG hFG hnb hst hs3 e0 e1 e2 e4 f3 f4 f5 m5 hn hnF;obtain⟨k0,k1,k2,k3⟩:=HK.out w5 HSt.out.fr;go_enter Tryz.func48,Tryz.ntmps48;go_upto_region 4 with fail;rw[←hw3,←hw4,←hw5,←hq0,←hbb];clear hw3 hw4 hw5 hbb hq0 hs4 hs5;go_wp2_with fail;clear k0 k1 k2 k3;go_loopw [7,8] (fun v7 t W=>∃(i:Nat) (va:Value) (V:List PL) (BV:List Nat) (S:Nat→Prop) (A:List Nat),va=v7/\t=.int .i64 i/\i≤nF/\BkSt w3 W bb V BV S va A ((ze1 (za0 Fs) (za0 Gs)).take (i*n)) (.slice none 0 0) [] [] (.slice none 0 0) [] []/\V.length≤i*n) (fun _ t _=>nF-(intOf t).toNat)
 case atStart=>exact⟨0,_,[],[],_,[],rfl,rfl,Nat.zero_le _,by rw[Nat.zero_mul];exact HSt.out,Nat.zero_le _⟩
 case round =>
  obtain⟨i,va,V,BV,S,A,rfl,rfl,hi,hs,hV⟩:=hrel;obtain⟨w7,rfl⟩:∃w7,w7=wr:=⟨_,rfl⟩;have HS:=Hh hs;have HV:=Hh hV;obtain⟨k0,k1,k2,k3⟩:=HK.out w7 hs.fr;clear hs hV;by_cases hlt:i<nF
  ·obtain⟨X,hX⟩:∃X,Fs[i]?=some X:=⟨_,List.getElem?_eq_getElem (by have:=HnF.out;omega)⟩
   obtain⟨_,_,ee,_,_,hnn⟩:=id H1.out;obtain⟨rfl,hz,rfl⟩:=Value.slice.inj ee;clear ee hz;obtain⟨b1,o1,xl,xr,ha1,hR1,d1,d2,n1,n2,m1,m2⟩:=hnn i X hX;have ixn1:=zbe na1 nF nc1 i b1 o1 hlt ha1;have HXd:=Hh (fun(W:World) (f:Fr NoM w3 W)=>(⟨f.cell d1 (fun q=>q),f.cell d2 (fun q=>q),n1.fr0 f,n2.fr0 f⟩:W.cell? ⟨b1,o1+i*2,none⟩=some xl/\W.cell? ⟨b1,o1+i*2+1,none⟩=some xr/\Nats W xl X.1/\Nats W xr X.2));obtain⟨xla,xlc,rfl,z⟩:=id n1;clear z;obtain⟨xra,xrc,rfl,z⟩:=id n2;clear z;have HXo:=Hh (OF.out i X hX);have HXl:=Hh (yeu LF.out hX);have HXc:=Hh (zbz Fs OF.out i X hX);obtain⟨q,hq⟩:∃q,q=i*n:=⟨_,rfl⟩;have hqb:q+n≤1600:=by
    have h:=Nat.mul_le_mul_right n (show i+1≤nF by omega);rw[Nat.succ_mul]at h;have:=HFG.out;omega
   have hmq:(i:Int)*(n:Int)=(q:Int):=by rw[hq];exact(Int.natCast_mul _ _).symm
   rw[←hq]at HS HV;have Hq:=Hh hq;have HQb:=Hh hqb;clear hX hnn ha1 hR1 d1 d2 n1 n2 m1 m2 hq;go_wp2_with fail;clear k0 k1 k2 k3;go_loopw [7,9] (fun v7 t W=>∃(k:Nat) (va:Value) (V:List PL) (BV:List Nat) (S:Nat→Prop) (A:List Nat),va=v7/\t=.int .i64 k/\k≤n/\BkSt w3 W bb V BV S va A ((ze1 (za0 Fs) (za0 Gs)).take (q+k)) (.slice none 0 0) [] [] (.slice none 0 0) [] []/\V.length≤q+k) (fun _ t _=>n-(intOf t).toNat)
   case atStart=>exact⟨0,_,_,_,_,_,rfl,rfl,Nat.zero_le _,HS.out,HV.out⟩
   case round =>
    clear HS HV;obtain⟨k,va,V,BV,S,A,rfl,rfl,hk,hs,hV⟩:=hrel;obtain⟨w8,rfl⟩:∃w8,w8=wr:=⟨_,rfl⟩;have HS:=Hh hs;have HV:=Hh hV;obtain⟨k0,k1,k2,k3⟩:=HK.out w8 hs.fr;clear hs hV;by_cases hkl:k<n
    ·obtain⟨Y,hY⟩:∃Y,Gs[k]?=some Y:=⟨_,List.getElem?_eq_getElem (by have:=Hn.out;omega)⟩
     obtain⟨_,_,ee,_,_,hnn⟩:=id H2.out;obtain⟨rfl,hz,rfl⟩:=Value.slice.inj ee;clear ee hz;obtain⟨b2,o2,yl,yr,ha2,hR2,d1,d2,n1,n2,m1,m2⟩:=hnn k Y hY;have ixn2:=zbe na2 n nc2 k b2 o2 hkl ha2;have HYd:=Hh (fun(W:World) (f:Fr NoM w3 W)=>(⟨f.cell d1 (fun q=>q),f.cell d2 (fun q=>q),n1.fr0 f,n2.fr0 f⟩:W.cell? ⟨b2,o2+k*2,none⟩=some yl/\W.cell? ⟨b2,o2+k*2+1,none⟩=some yr/\Nats W yl Y.1/\Nats W yr Y.2));obtain⟨yla,ylc,rfl,z⟩:=id n1;clear z;obtain⟨yra,yrc,rfl,z⟩:=id n2;clear z;have HYo:=Hh (OG.out k Y hY);have HYl:=Hh (yeu LG.out hY);have HYc:=Hh (zbz Gs OG.out k Y hY);obtain⟨CF,hCF⟩:∃CF,CF=za0 Fs:=⟨_,rfl⟩;obtain⟨CG,hCG⟩:∃CG,CG=za0 Gs:=⟨_,rfl⟩;obtain⟨ca,hca⟩:∃ca,ca=CF.getD i 0:=⟨_,rfl⟩;obtain⟨cb,hcb⟩:∃cb,cb=CG.getD k 0:=⟨_,rfl⟩;rw[←hCF]at HXc;rw[←hCG]at HYc;rw[←hca]at HXc;rw[←hcb]at HYc;rw[←hCF,←hCG]at HS;have hmk:=ycx HXc.out HYc.out;obtain⟨TL,hTL⟩:∃TL,TL=(za1 CF X.1).map (fun l=>sumC l cb)++(za1 CG Y.1).map fun l=>sumC ca l:=⟨_,rfl⟩
     obtain⟨TR,hTR⟩:∃TR,TR=(za1 CF X.2).map (fun l=>sumC l cb)++(za1 CG Y.2).map fun l=>sumC ca l:=⟨_,rfl⟩
     rw[←hTL,←hTR]at hmk;have HTl:=Hh (show TL.length=X.1.length+Y.1.length/\TR.length=X.2.length+Y.2.length from⟨by rw[hTL];simp[za1],by rw[hTR];simp[za1]⟩)
     -- what stands in the row of all sums
     have HAt:=Hh (fun(j m:Nat) (hj:j<nF) (hm:m<n) (hp:j*n+m<q+k)=>(by
      obtain⟨x,hx,hxl,hc⟩:=HS.out.r1.get hp (by rw[hCF,hCG];exact HTab.out j m hj hm);exact⟨x,hx,hxl,by rw[hc,hCF,hCG]⟩:∃x,A[j*n+m]?=some x/\x<V.length/\(za0 V).getD x 0=sumC (CF.getD j 0) (CG.getD m 0)))
     have HG3:=Hh (fun m l (h:X.1[m]?=some l)=>(by rw[hTL];exact zo8 h:TL[m]?=some (sumC (CF.getD l 0) cb)));have HG4:=Hh (fun m l (h:Y.1[m]?=some l)=>(by rw[hTL];exact zkf h:TL[X.1.length+m]?=some (sumC ca (CG.getD l 0))));have HG5:=Hh (fun m l (h:X.2[m]?=some l)=>(by rw[hTR];exact zo8 h:TR[m]?=some (sumC (CF.getD l 0) cb)));have HG6:=Hh (fun m l (h:Y.2[m]?=some l)=>(by rw[hTR];exact zkf h:TR[X.2.length+m]?=some (sumC ca (CG.getD l 0))));have HMk:=Hh hmk;have HTn:=Hh (show(ze1 CF CG)[q+k]?=some (sumC ca cb)from by rw[hCF,hCG,hca,hcb,Hq.out,hCF,hCG];exact HTab.out i k hlt hkl);have HCa:=Hh hca;have HCb:=Hh hcb;have HCF:=Hh hCF;have HCG:=Hh hCG;clear hY hnn ha2 hR2 d1 d2 n1 n2 m1 m2 hmk hTL hTR hca hcb hCF hCG;go_upto_region 11 with fail;obtain⟨w9,hw9⟩:∃w9,w9=(w8.alloc (.cells #[] 3)).alloc (.cells #[] 3):=⟨_,rfl⟩;have H9:=Hh (HS.out.rows hw9);rw[←hw9];obtain⟨l0,hl0⟩:∃l0,l0=Value.slice (some ⟨w8.heap.size,0,none⟩) 0 0:=⟨_,rfl⟩;obtain⟨r0,hr0⟩:∃r0,r0=Value.slice (some ⟨w8.heap.size+1,0,none⟩) 0 0:=⟨_,rfl⟩;rw[←hl0,←hr0]at H9 ⊢;clear hw9 hl0 hr0 k0 k1 k2 k3;obtain⟨k0,k1,k2,k3⟩:=HK.out w9 H9.out.fr;go_wp2_with fail;clear k0 k1 k2 k3;go_loopw [10,12] (fun v7 t W=>∃(m:Nat) (v:Value) (L:List Nat),v=v7/\t=.int .i64 m/\m≤X.1.length/\BkSt w3 W bb V BV S va A ((ze1 CF CG).take (q+k)) v L (TL.take (m)) r0 [] []) (fun _ t _=>X.1.length-(intOf t).toNat)
     case atStart=>exact⟨0,_,[],rfl,rfl,Nat.zero_le _,H9.out⟩
     case round =>
      obtain⟨m,lv3,L3,rfl,rfl,hm,hs⟩:=hrel;obtain⟨wa3,rfl⟩:∃w7,w7=wr:=⟨_,rfl⟩;have HB3:=Hh hs;obtain⟨k0,k1,k2,k3⟩:=HK.out wa3 hs.fr;obtain⟨d1,d2,n1,n2⟩:=HXd.out wa3 hs.fr;by_cases hml:m<X.1.length
      ·obtain⟨l,hl⟩:∃l,X.1[m]?=some l:=⟨_,List.getElem?_eq_getElem hml⟩
       obtain⟨_,_,ee,_,_,hcc⟩:=id n1;cases ee
       obtain⟨b3,o3,ha3,c3⟩:=hcc m l hl;unfold encN at c3;have ix3:=zaa xla X.1.length xlc m b3 o3 hml ha3;have hlx:=HXo.out.1 l (List.mem_of_getElem? hl);have hqb':=HQb.out;have hqe:=Hq.out;have hnb1:=HNb.out.1;obtain⟨ql,hql⟩:∃ql,ql=l*n:=⟨_,rfl⟩;have hqn:ql+n≤q:=by
        have h:=Nat.mul_le_mul_right n (show l+1≤i by omega);rw[Nat.succ_mul]at h;omega
       have hmm:(l:Int)*(n:Int)=(ql:Int):=by rw[hql];exact(Int.natCast_mul _ _).symm
       obtain⟨x,hx,hxl,hxc⟩:=HAt.out l k (by omega) hkl (by rw[←hql];omega);rw[←hql]at hx;rw[←HCb.out]at hxc;obtain⟨p,hp⟩:∃p,p=ql+k:=⟨_,rfl⟩;have hcast:(ql:Int)+(k:Int)=(p:Int):=by omega
       rw[←hp]at hx;have hpb:p<1600:=by omega
       have hpl:p<A.length:=(List.getElem?_eq_some_iff.1 hx).1;obtain⟨aa,ac,rfl,_,_,hac⟩:=HB3.out.nats1;obtain⟨b4,o4,ha4,c4⟩:=hac p x hx;unfold encN at c4;have ix4:=zaa aa A.length ac p b4 o4 hpl ha4;have HXx:=Hh (And.intro hxl hxc);have HL:=Hh hl;clear hl hcc ha3 hs hx hxl hxc hac ha4 hqe n1 n2 hp hql;go_wp2_with (at_builtin;refine zag (enc:=encN) _ rfl (.tmp 47) (.tmp 64) 82 rfl w3.heap.size 3 (.int .i64 0) 8 Tryz.underlying82 za9 rfl lv3 L3.length (L3.map encN) rfl (za3 HB3.out.o2 ((Fr.refl NoM wa3).alloc _) (fun _ _ q=>q)) (.slice (some ⟨wa3.heap.size,0,none⟩) 1 1) rfl [x] (SliceOf.one encN wa3 x 3) (fun _=>rfl) (by have h1:=HB3.out.r2.len;have h2:=HTl.out.1;have h3:=HXl.out;have h4:=HYl.out;rw[List.length_take]at h1;simp only[List.length_singleton];omega) (by decide) (by have:=HB3.out.fr.size;rw[World.size_alloc];omega) ?_);intro v9 w10 h9 f9 q9;have hap:=(HB3.out.swap12.app ((Fr.refl NoM wa3).alloc _) h9 f9 (by rw[World.size_alloc];exact q9) HXx.out.1 HXx.out.2).swap12;rw[zf8 (HG3.out m l HL.out)]at hap;have HAp:=Hh hap;clear h9 f9 q9 hap;go_wp2;go_roundw
       case rel=>exact⟨m+1,v9,L3 ++ [x],rfl,by go_num,by omega,HAp.out⟩
       case measure=>simp[intOf];omega
      ·obtain rfl:m=X.1.length:=by omega
       clear hs hm hml n1 n2;go_wp2_with fail;clear k0 k1 k2 k3 d1 d2;go_loopw [10,13] (fun v7 t W=>∃(m:Nat) (v:Value) (L:List Nat),v=v7/\t=.int .i64 m/\m≤Y.1.length/\BkSt w3 W bb V BV S va A ((ze1 CF CG).take (q+k)) v L (TL.take (X.1.length+m)) r0 [] []) (fun _ t _=>Y.1.length-(intOf t).toNat)
       case atStart=>exact⟨0,_,L3,rfl,rfl,Nat.zero_le _,HB3.out⟩
       case round =>
        obtain⟨m,lv4,L4,rfl,rfl,hm,hs⟩:=hrel;obtain⟨wa4,rfl⟩:∃w7,w7=wr:=⟨_,rfl⟩;have HB4:=Hh hs;obtain⟨k0,k1,k2,k3⟩:=HK.out wa4 hs.fr;obtain⟨d1,d2,n1,n2⟩:=HYd.out wa4 hs.fr;by_cases hml:m<Y.1.length
        ·obtain⟨l,hl⟩:∃l,Y.1[m]?=some l:=⟨_,List.getElem?_eq_getElem hml⟩
         obtain⟨_,_,ee,_,_,hcc⟩:=id n1;cases ee
         obtain⟨b3,o3,ha3,c3⟩:=hcc m l hl;unfold encN at c3;have ix3:=zaa yla Y.1.length ylc m b3 o3 hml ha3;have hlx:=HYo.out.1 l (List.mem_of_getElem? hl);have hqb':=HQb.out;have hqe:=Hq.out;have hnb1:=HNb.out.1;obtain⟨x,hx,hxl,hxc⟩:=HAt.out i l hlt (by omega) (by rw[←hqe];omega);rw[←hqe]at hx;rw[←HCa.out]at hxc;obtain⟨p,hp⟩:∃p,p=q+l:=⟨_,rfl⟩;have hcast:(q:Int)+(l:Int)=(p:Int):=by omega
         rw[←hp]at hx;have hpb:p<1600:=by omega
         have hpl:p<A.length:=(List.getElem?_eq_some_iff.1 hx).1;obtain⟨aa,ac,rfl,_,_,hac⟩:=HB4.out.nats1;obtain⟨b4,o4,ha4,c4⟩:=hac p x hx;unfold encN at c4;have ix4:=zaa aa A.length ac p b4 o4 hpl ha4;have HXx:=Hh (And.intro hxl hxc);have HL:=Hh hl;clear hl hcc ha3 hs hx hxl hxc hac ha4 hqe n1 n2 hp;go_wp2_with (at_builtin;refine zag (enc:=encN) _ rfl (.tmp 77) (.tmp 94) 82 rfl w3.heap.size 3 (.int .i64 0) 8 Tryz.underlying82 za9 rfl lv4 L4.length (L4.map encN) rfl (za3 HB4.out.o2 ((Fr.refl NoM wa4).alloc _) (fun _ _ q=>q)) (.slice (some ⟨wa4.heap.size,0,none⟩) 1 1) rfl [x] (SliceOf.one encN wa4 x 3) (fun _=>rfl) (by have h1:=HB4.out.r2.len;have h2:=HTl.out.1;have h3:=HXl.out;have h4:=HYl.out;rw[List.length_take]at h1;simp only[List.length_singleton];omega) (by decide) (by have:=HB4.out.fr.size;rw[World.size_alloc];omega) ?_);intro v9 w10 h9 f9 q9;have hap:=(HB4.out.swap12.app ((Fr.refl NoM wa4).alloc _) h9 f9 (by rw[World.size_alloc];exact q9) HXx.out.1 HXx.out.2).swap12;rw[zf8 (HG4.out m l HL.out)]at hap;have HAp:=Hh hap;clear h9 f9 q9 hap;go_wp2;go_roundw
         case rel=>exact⟨m+1,v9,L4 ++ [x],rfl,by go_num,by omega,HAp.out⟩
         case measure=>simp[intOf];omega
        ·obtain rfl:m=Y.1.length:=by omega
         clear hs hm hml n1 n2;go_wp2_with fail;clear k0 k1 k2 k3 d1 d2;go_loopw [11,14] (fun v7 t W=>∃(m:Nat) (v:Value) (L:List Nat),v=v7/\t=.int .i64 m/\m≤X.2.length/\BkSt w3 W bb V BV S va A ((ze1 CF CG).take (q+k)) lv4 L4 (TL.take (X.1.length+Y.1.length)) v L (TR.take (m))) (fun _ t _=>X.2.length-(intOf t).toNat)
         case atStart=>exact⟨0,_,[],rfl,rfl,Nat.zero_le _,HB4.out⟩
         case round =>
          obtain⟨m,rv5,L5,rfl,rfl,hm,hs⟩:=hrel;obtain⟨wa5,rfl⟩:∃w7,w7=wr:=⟨_,rfl⟩;have HB5:=Hh hs;obtain⟨k0,k1,k2,k3⟩:=HK.out wa5 hs.fr;obtain⟨d1,d2,n1,n2⟩:=HXd.out wa5 hs.fr;by_cases hml:m<X.2.length
          ·obtain⟨l,hl⟩:∃l,X.2[m]?=some l:=⟨_,List.getElem?_eq_getElem hml⟩
           obtain⟨_,_,ee,_,_,hcc⟩:=id n2;cases ee
           obtain⟨b3,o3,ha3,c3⟩:=hcc m l hl;unfold encN at c3;have ix3:=zaa xra X.2.length xrc m b3 o3 hml ha3;have hlx:=HXo.out.2 l (List.mem_of_getElem? hl);have hqb':=HQb.out;have hqe:=Hq.out;have hnb1:=HNb.out.1;obtain⟨ql,hql⟩:∃ql,ql=l*n:=⟨_,rfl⟩;have hqn:ql+n≤q:=by
            have h:=Nat.mul_le_mul_right n (show l+1≤i by omega);rw[Nat.succ_mul]at h;omega
           have hmm:(l:Int)*(n:Int)=(ql:Int):=by rw[hql];exact(Int.natCast_mul _ _).symm
           obtain⟨x,hx,hxl,hxc⟩:=HAt.out l k (by omega) hkl (by rw[←hql];omega);rw[←hql]at hx;rw[←HCb.out]at hxc;obtain⟨p,hp⟩:∃p,p=ql+k:=⟨_,rfl⟩;have hcast:(ql:Int)+(k:Int)=(p:Int):=by omega
           rw[←hp]at hx;have hpb:p<1600:=by omega
           have hpl:p<A.length:=(List.getElem?_eq_some_iff.1 hx).1;obtain⟨aa,ac,rfl,_,_,hac⟩:=HB5.out.nats1;obtain⟨b4,o4,ha4,c4⟩:=hac p x hx;unfold encN at c4;have ix4:=zaa aa A.length ac p b4 o4 hpl ha4;have HXx:=Hh (And.intro hxl hxc);have HL:=Hh hl;clear hl hcc ha3 hs hx hxl hxc hac ha4 hqe n1 n2 hp hql;go_wp2_with (at_builtin;refine zag (enc:=encN) _ rfl (.tmp 107) (.tmp 124) 82 rfl w3.heap.size 3 (.int .i64 0) 8 Tryz.underlying82 za9 rfl rv5 L5.length (L5.map encN) rfl (za3 HB5.out.o3 ((Fr.refl NoM wa5).alloc _) (fun _ _ q=>q)) (.slice (some ⟨wa5.heap.size,0,none⟩) 1 1) rfl [x] (SliceOf.one encN wa5 x 3) (fun _=>rfl) (by have h1:=HB5.out.r3.len;have h2:=HTl.out.2;have h3:=HXl.out;have h4:=HYl.out;rw[List.length_take]at h1;simp only[List.length_singleton];omega) (by decide) (by have:=HB5.out.fr.size;rw[World.size_alloc];omega) ?_);intro v9 w10 h9 f9 q9;have hap:=(HB5.out.swap13.app ((Fr.refl NoM wa5).alloc _) h9 f9 (by rw[World.size_alloc];exact q9) HXx.out.1 HXx.out.2).swap13;rw[zf8 (HG5.out m l HL.out)]at hap;have HAp:=Hh hap;clear h9 f9 q9 hap;go_wp2;go_roundw
           case rel=>exact⟨m+1,v9,L5 ++ [x],rfl,by go_num,by omega,HAp.out⟩
           case measure=>simp[intOf];omega
          ·obtain rfl:m=X.2.length:=by omega
           clear hs hm hml n1 n2;go_wp2_with fail;clear k0 k1 k2 k3 d1 d2;go_loopw [11,15] (fun v7 t W=>∃(m:Nat) (v:Value) (L:List Nat),v=v7/\t=.int .i64 m/\m≤Y.2.length/\BkSt w3 W bb V BV S va A ((ze1 CF CG).take (q+k)) lv4 L4 (TL.take (X.1.length+Y.1.length)) v L (TR.take (X.2.length+m))) (fun _ t _=>Y.2.length-(intOf t).toNat)
           case atStart=>exact⟨0,_,L5,rfl,rfl,Nat.zero_le _,HB5.out⟩
           case round =>
            obtain⟨m,rv6,L6,rfl,rfl,hm,hs⟩:=hrel;obtain⟨wa6,rfl⟩:∃w7,w7=wr:=⟨_,rfl⟩;have HB6:=Hh hs;obtain⟨k0,k1,k2,k3⟩:=HK.out wa6 hs.fr;obtain⟨d1,d2,n1,n2⟩:=HYd.out wa6 hs.fr;by_cases hml:m<Y.2.length
            ·obtain⟨l,hl⟩:∃l,Y.2[m]?=some l:=⟨_,List.getElem?_eq_getElem hml⟩
             obtain⟨_,_,ee,_,_,hcc⟩:=id n2;cases ee
             obtain⟨b3,o3,ha3,c3⟩:=hcc m l hl;unfold encN at c3;have ix3:=zaa yra Y.2.length yrc m b3 o3 hml ha3;have hlx:=HYo.out.2 l (List.mem_of_getElem? hl);have hqb':=HQb.out;have hqe:=Hq.out;have hnb1:=HNb.out.1;obtain⟨x,hx,hxl,hxc⟩:=HAt.out i l hlt (by omega) (by rw[←hqe];omega);rw[←hqe]at hx;rw[←HCa.out]at hxc;obtain⟨p,hp⟩:∃p,p=q+l:=⟨_,rfl⟩;have hcast:(q:Int)+(l:Int)=(p:Int):=by omega
             rw[←hp]at hx;have hpb:p<1600:=by omega
             have hpl:p<A.length:=(List.getElem?_eq_some_iff.1 hx).1;obtain⟨aa,ac,rfl,_,_,hac⟩:=HB6.out.nats1;obtain⟨b4,o4,ha4,c4⟩:=hac p x hx;unfold encN at c4;have ix4:=zaa aa A.length ac p b4 o4 hpl ha4;have HXx:=Hh (And.intro hxl hxc);have HL:=Hh hl;clear hl hcc ha3 hs hx hxl hxc hac ha4 hqe n1 n2 hp;go_wp2_with (at_builtin;refine zag (enc:=encN) _ rfl (.tmp 137) (.tmp 154) 82 rfl w3.heap.size 3 (.int .i64 0) 8 Tryz.underlying82 za9 rfl rv6 L6.length (L6.map encN) rfl (za3 HB6.out.o3 ((Fr.refl NoM wa6).alloc _) (fun _ _ q=>q)) (.slice (some ⟨wa6.heap.size,0,none⟩) 1 1) rfl [x] (SliceOf.one encN wa6 x 3) (fun _=>rfl) (by have h1:=HB6.out.r3.len;have h2:=HTl.out.2;have h3:=HXl.out;have h4:=HYl.out;rw[List.length_take]at h1;simp only[List.length_singleton];omega) (by decide) (by have:=HB6.out.fr.size;rw[World.size_alloc];omega) ?_);intro v9 w10 h9 f9 q9;have hap:=(HB6.out.swap13.app ((Fr.refl NoM wa6).alloc _) h9 f9 (by rw[World.size_alloc];exact q9) HXx.out.1 HXx.out.2).swap13;rw[zf8 (HG6.out m l HL.out)]at hap;have HAp:=Hh hap;clear h9 f9 q9 hap;go_wp2;go_roundw
             case rel=>exact⟨m+1,v9,L6 ++ [x],rfl,by go_num,by omega,HAp.out⟩
             case measure=>simp[intOf];omega
            ·obtain rfl:m=Y.2.length:=by omega
             clear hs hm hml n1 n2;have hput:=HB6.out;have hr2:=hput.r2.len;have hr3:=hput.r3.len;have hl1:=HTl.out;have hl2:=HXl.out;have hl3:=HYl.out;have hv0:=HV.out;have hqb9:=HQb.out;rw[List.length_take]at hr2 hr3;have hpa:=zfu bb lv4 rv6 V BV L4 L6 wa6 hput.book (SliceOf.of_owns hput.o2 rfl) (SliceOf.of_owns hput.o3 rfl) (fun j x hx=>hput.r2.1 x (List.mem_of_getElem? hx)) (fun j x hx=>hput.r3.1 x (List.mem_of_getElem? hx)) (by omega) (by omega) (by omega) (fun x hx=>by have:=(zdi hput.ok).lt V.length (Nat.le_refl _) x hx;omega);have HPa:=Hh hpa;clear hput hr2 hr3 hl1 hl2 hl3 hv0 hqb9 hpa;go_wp2_with fail;refine HPa.out.mono ?_
             rintro e w11 ⟨rfl,p1,p2⟩;obtain⟨st,hr,hc,hpre,hlen⟩:=HB6.out.put HB6.out.r2 HB6.out.r3 p1 p2;rw[List.take_of_length_le (by rw[HTl.out.1];exact Nat.le_refl _),List.take_of_length_le (by rw[HTl.out.2];exact Nat.le_refl _),HMk.out]at hc;obtain⟨x,hx⟩:∃x,x=(putB V BV L4 L6).2.2:=⟨_,rfl⟩;rw[←hx]at hr hc ⊢;have HSt2:=Hh st.close;have HR:=Hh hr;have HC:=Hh hc;have HLn:=Hh hlen;clear st hr hc hpre hlen p1 p2 hx k0 k1 k2 k3 d1 d2;go_wp2_with (at_builtin;refine zag (enc:=encN) _ rfl (.tmp 156) (.tmp 161) 82 rfl w3.heap.size 3 (.int .i64 0) 8 Tryz.underlying82 za9 rfl va A.length (A.map encN) rfl (za3 HSt2.out.o1 ((Fr.refl NoM w11).alloc _) (fun _ _ q=>q)) (.slice (some ⟨w11.heap.size,0,none⟩) 1 1) rfl [x] (SliceOf.one encN w11 x 3) (fun _=>rfl) (by have h1:=HSt2.out.r1.len;have h2:=HQb.out;rw[List.length_take]at h1;simp only[List.length_singleton];omega) (by decide) (by have:=HSt2.out.fr.size;rw[World.size_alloc];omega) ?_);intro v9 w12 h9 f9 q9;have hap:=HSt2.out.app ((Fr.refl NoM w11).alloc _) h9 f9 (by rw[World.size_alloc];exact q9) HR.out HC.out;rw[zf8 HTn.out,HCF.out,HCG.out]at hap;have HAp:=Hh hap;clear h9 f9 q9 hap;go_wp2;go_roundw
             case rel=>exact⟨k+1,v9,_,_,_,A ++ [x],rfl,by go_num,by omega,HAp.out,by have h1:=HLn.out;have h2:=HV.out;omega⟩
             case measure=>simp[intOf];omega
    ·obtain rfl:k=n:=by omega
     have hnb2:=HNb.out.2;clear hk hkl;go_wp2_with fail;go_roundw
     case rel=>exact⟨i+1,va,V,BV,S,A,rfl,by go_num,by omega,by rw[Nat.succ_mul,←Hq.out];exact HS.out,by rw[Nat.succ_mul,←Hq.out];exact HV.out⟩
     case measure=>simp[intOf];omega
  ·obtain rfl:i=nF:=by omega
   have hn1:=Hn.out;have hn2:=HnF.out;have hpf:0<i:=by have:=PF.out;omega
   have hpg:0<n:=by have:=PG.out;omega
   have hfg:=HFG.out;obtain⟨N,hN⟩:∃N,N=i*n:=⟨_,rfl⟩;rw[←hN]at hfg HV HS;have hNp:0<N:=by rw[hN];exact Nat.mul_pos hpf hpg
   have hAl:A.length=N:=by
    have h:=HS.out.r1.len;rw[h,List.length_take,zv0,za2,za2,←Hn.out,←HnF.out,←hN,Nat.min_self]
   obtain⟨x,hx,hxl,hxc⟩:=HS.out.r1.get (p:=N-1) (by omega) (by
    have h:=HTab.out (i-1) (n-1) (by omega) (by omega);have e:(i-1)*n+(n-1)=N-1:=by
     have h2:(i-1+1)*n=N:=by rw[hN,show i-1+1=i from by omega]
     rw[Nat.succ_mul]at h2;omega
    rw[e]at h;exact h)
   obtain⟨p,hp⟩:∃p,N=p+1:=⟨N-1,by omega⟩;rw[show N-1=p from by omega]at hx;obtain⟨aa,ac,rfl,_,_,hac⟩:=HS.out.nats1;obtain⟨b4,o4,ha4,c4⟩:=hac p x hx;unfold encN at c4;have ix4:=zaa aa A.length ac p b4 o4 (by omega) ha4;have hcast:((A.length:Int)-1)=(p:Int):=by omega
   have hpb:p<1600:=by omega
   have hAb:A.length<1000000:=by omega
   have hlen:=HS.out.ok.lens (n:=100000000) (by have:=HV.out;omega);have HFo:=Hh (zi2 bb x V BV w7 HS.out.book (zdi HS.out.ok) hxl (by have:=HV.out;omega) hlen);have hfo:=zdh HS.out.ok hxl hxc;have HFe:=Hh (show zd3 V BV x=zac (sumC (zb0 Fs) (zb0 Gs))from by
    rw[hfo];unfold zb0;rw[←Hn.out,←HnF.out])
   clear hx hxl hxc hac ha4 hlen hfo hN hNp hAl hp hfg hpf hpg hi hlt hn1 hn2;go_wp2_with fail;refine HFo.out.mono ?_
   rintro e w11 ⟨v',rfl,hn',f11⟩;rw[HFe.out]at hn';obtain⟨k0',k1',k2',k3'⟩:=HK.out w11 (HS.out.fr.trans f11 (fun _ _ q=>q));have HFn:=Hh hn';have F11:=Hh (HS.out.fr.trans f11 (fun _ _ q=>q));have HSz:=Hh (show w.heap.size+3≤w7.heap.size from by have:=HS.out.fr.size;have:=HS3.out;omega);obtain⟨va',vc',rfl,zz⟩:=id hn';clear zz hn' f11 k0' k1' k0 k1 k2 k3 c4 ix4;go_wp2;refine bodyPost_ret (v:=.agg #[.slice va' (zac (sumC (zb0 Fs) (zb0 Gs))).length vc']) (by simp[results,Tryz.results48,go_sem,k2']) rfl ?_
   refine⟨_,rfl,?_,(HF3.out.trans F11.out (fun _ _ q=>q)).setCell _ _ (fun h=>by have h:w.heap.size+2<w.heap.size:=h;omega)⟩;exact(HFn.out.fr (Fr.set w11 ⟨w.heap.size+2,0,none⟩ _) (fun q hq e=>by have e:q=w.heap.size+2:=e;have:=HSz.out;omega)).mono (fun q hq=>by have:=HSz.out;omega)
theorem yd2 {CF A L:List Nat}{i:Nat}(hL:∀x∈L,x<i)(hi:i≤CF.length):za1 ((CF.map negC).take i) L=(za1 CF L).map negC:=by
 unfold za1;rw[List.map_map];refine List.map_congr_left fun x hx=>?_
 have hl:=hL x hx;simp[List.getD_eq_getElem?_getD,List.getElem?_take,hl,List.getElem?_map,List.getElem?_eq_getElem (show x<CF.length by omega)]
set_option maxRecDepth 8000 in
set_option maxHeartbeats 16000000 in
theorem zz6 {R:Nat→Prop}(v1:Value)(Fs:List PL)(w:World)(h1:NodeL R encN w v1 Fs)(oF:OptsOK Fs)(lF:∀y∈Fs,y.1.length≤24/\y.2.length≤24)(pF:0<Fs.length)(hFl:Fs.length≤120) :
  Calls Tryz.prog 97 #[.agg #[v1]] w fun e w'=>∃v',e=.returned (.agg #[v'])/\NodeL (fun b=>w.heap.size≤b) encN w' v' (zac (negC (zb0 Fs)))/\Fr NoM w w':=by
 obtain⟨w3,hw3⟩:∃w3,w3=(w.alloc (.cells #[v1] 26)).alloc (.cells #[.slice none 0 0] 26):=⟨_,rfl⟩;have f3:Fr NoM w w3:=by rw[hw3];exact((Fr.refl NoM w).alloc _).alloc _
 have hs3:w3.heap.size=w.heap.size+2:=by rw[hw3];simp
 have e0:w3.heap[w.heap.size]?=some (.cells #[v1] 26 (0,0)):=by rw[hw3];exact((Fr.refl NoM _).alloc _).heap (heap_alloc_new w _) (fun q=>q)
 have e2:w3.heap[w.heap.size+1]?=some (.cells #[.slice none 0 0] 26 (0,0)):=by
  have h:=heap_alloc_new (w.alloc (.cells #[v1] 26)) (.cells #[.slice none 0 0] 26);rw[World.size_alloc]at h;rw[hw3];exact h
 obtain⟨bb,hbb⟩:∃bb,bb=w.heap.size+1+1:=⟨_,rfl⟩;obtain⟨q0,hq0⟩:∃q0,q0=Value.slice (some ⟨w.heap.size+1+1+1,0,none⟩) 0 0:=⟨_,rfl⟩;obtain⟨w4,hw4⟩:∃w4,w4=w3.alloc (.cells #[.slice none 0 0,.slice none 0 0] 109):=⟨_,rfl⟩;have f4:Fr NoM w3 w4:=by rw[hw4];exact(Fr.refl NoM w3).alloc _
 have hs4:w4.heap.size=w.heap.size+3:=by rw[hw4];simp[hs3]
 have e4:w4.heap[bb]?=some (.cells #[.slice none 0 0,.slice none 0 0] 109 (0,0)):=by rw[hw4,hbb,show w.heap.size+1+1=w3.heap.size from by omega];exact heap_alloc_new w3 _
 obtain⟨w5,hw5⟩:∃w5,w5=w4.alloc (.cells #[] 3):=⟨_,rfl⟩;have f5:Fr NoM w4 w5:=by rw[hw5];exact(Fr.refl NoM w4).alloc _
 have hs5:w5.heap.size=w.heap.size+4:=by rw[hw5];simp[hs4]
 have m5:w5.ownsRow (w.heap.size+3) 3 1 (.slice (some ⟨w.heap.size+3,0,none⟩) 0 0) 0 []:=by
  have h:(w4.alloc (.cells #[] 3)).ownsRow w4.heap.size 3 1 (.slice (some ⟨w4.heap.size,0,none⟩) 0 0) 0 []:=World.ownsRow_made w4 #[] 0 (Nat.le_refl _) (by decide) (by simp);rw[hs4,←hw5]at h;exact h
 obtain⟨nF,hnF⟩:∃nF,nF=Fs.length:=⟨_,rfl⟩;obtain⟨Tb,hTb⟩:∃Tb,Tb=(za0 Fs).map negC:=⟨_,rfl⟩;have hst:BkSt w3 w5 bb [] [] (fun q=>q=bb) q0 [] (Tb.take 0) (.slice none 0 0) [] [] (.slice none 0 0) [] [] :=
  ⟨(BookS.made e4).fr0 f5,PoolOK.nil,fun q hq=>⟨by rw[hq];omega,by rw[hq];omega⟩,(by rw[hq0];exact zb3 m5 (by omega)),World.ownsRow_nil _ _ _ _,World.ownsRow_nil _ _ _ _,fun b e hq=>by
   rw[hq0]at e;have e:w.heap.size+3=b:=Option.some.inj e;omega,(fun b hb=>by cases hb),(fun b hb=>by cases hb),(fun b _ hb=>by cases hb),(fun b _ hb=>by cases hb),(fun b hb=>by cases hb),RowC.nil _,RowC.nil _,RowC.nil _,f4.trans f5 (fun _ _ q=>q)⟩
 have H1:=Hh (h1.fr0 f3);obtain⟨na1,nc1,rfl,z⟩:=id h1;clear z;have HK:=Hh (fun(W:World) (f:Fr NoM w3 W)=>show W.cell? ⟨w.heap.size,0,none⟩=some (.slice na1 Fs.length nc1)/\W.cell? ⟨w.heap.size+1,0,none⟩=some (.slice none 0 0)/\W.frozen? ⟨w.heap.size+1,0,none⟩=false from by
  have k0:=f.heap e0 (fun q=>q);have k2:=f.heap e2 (fun q=>q);exact⟨by rw[cell_of_row W _ 0 _ _ _ k0];rfl,by rw[cell_of_row W _ 0 _ _ _ k2];rfl,by simp[World.frozen?,k2]⟩)
 rw[←hnF]at HK;have HSt:=Hh hst;have HF3:=Hh f3;have HS3:=Hh hs3;have OF:=Hh oF;have LF:=Hh lF;have PF:=Hh pF;have HnF:=Hh hnF;have HTb:=Hh hTb;have HNb:=Hh (show nF≤120 from by omega);rw[←hnF]at hw3 ⊢;clear h1 oF lF pF hFl hst hs3 e0 e2 e4 f3 f4 f5 m5 hnF hTb;obtain⟨k0,k2,k3⟩:=HK.out w5 HSt.out.fr;go_enter Tryz.func97,Tryz.ntmps97;go_upto_region 3 with fail;rw[←hw3,←hw4,←hw5,←hq0,←hbb];clear hw3 hw4 hw5 hbb hq0 hs4 hs5;go_wp2_with fail;clear k0 k2 k3;go_loopw [4,5] (fun v7 t W=>∃(i:Nat) (va:Value) (V:List PL) (BV:List Nat) (S:Nat→Prop) (A:List Nat),va=v7/\t=.int .i64 i/\i≤nF/\BkSt w3 W bb V BV S va A (Tb.take i) (.slice none 0 0) [] [] (.slice none 0 0) [] []/\V.length≤i) (fun _ t _=>nF-(intOf t).toNat)
 case atStart=>exact⟨0,_,[],[],_,[],rfl,rfl,Nat.zero_le _,HSt.out,Nat.zero_le _⟩
 case round =>
  obtain⟨i,va,V,BV,S,A,rfl,rfl,hi,hs,hV⟩:=hrel;obtain⟨w7,rfl⟩:∃w7,w7=wr:=⟨_,rfl⟩;have HS:=Hh hs;have HV:=Hh hV;obtain⟨k0,k2,k3⟩:=HK.out w7 hs.fr;by_cases hlt:i<nF
  ·have hiF:i<Fs.length:=by have:=HnF.out;omega
   obtain⟨X,hX⟩:∃X,Fs[i]?=some X:=⟨_,List.getElem?_eq_getElem hiF⟩;obtain⟨_,_,ee,_,_,hnn⟩:=id H1.out;obtain⟨rfl,hz,rfl⟩:=Value.slice.inj ee;clear ee hz;obtain⟨b1,o1,xl,xr,ha1,hR1,d1,d2,n1,n2,m1,m2⟩:=hnn i X hX;have ixn1:=zbe na1 nF nc1 i b1 o1 hlt ha1;have HC:=Hh (fun(W:World) (f:Fr NoM w3 W)=>(⟨(HK.out W f).1,f.cell d1 (fun q=>q),f.cell d2 (fun q=>q)⟩:W.cell? ⟨w.heap.size,0,none⟩=some (.slice na1 nF nc1)/\W.cell? ⟨b1,o1+i*2,none⟩=some xl/\W.cell? ⟨b1,o1+i*2+1,none⟩=some xr));have HN1:=Hh (fun(W:World) (f:Fr NoM w7 W)=>(n1.fr0 hs.fr).fr0 f);have HN2:=Hh (fun(W:World) (f:Fr NoM w7 W)=>(n2.fr0 hs.fr).fr0 f);have HV7:=Hh (fun(W:World) (f:Fr NoM w7 W)=>(hs.nats1.fr0 f:Nats W va A));obtain⟨xla,xlc,rfl,z⟩:=id n1;clear z;obtain⟨xra,xrc,rfl,z⟩:=id n2;clear z;obtain⟨p1,p2⟩:=OF.out i X hX;obtain⟨l1,l2⟩:=LF.out X (List.mem_of_getElem? hX);have hnb:=HNb.out;have hTl:Tb.length=Fs.length:=by rw[HTb.out,List.length_map,za2]
   have hAl:A.length=i:=by
    have h:=hs.r1.len;rw[List.length_take]at h;omega
   have rL:=hs.r1.at (L:=X.2) (fun x hx=>by rw[hAl];exact p2 x hx);have rR:=hs.r1.at (L:=X.1) (fun x hx=>by rw[hAl];exact p1 x hx);rw[HTb.out,yd2 (A:=A) p2 (by rw[za2];omega)]at rL;rw[HTb.out,yd2 (A:=A) p1 (by rw[za2];omega)]at rR;have HRL:=Hh rL;have HRR:=Hh rR;have hmk:=yd1 (zbz Fs OF.out i X hX);have HMk:=Hh hmk;have HTn:=Hh (show Tb[i]?=some (negC ((za0 Fs).getD i 0))from by
    rw[HTb.out,List.getElem?_map,List.getD_eq_getElem?_getD,List.getElem?_eq_getElem (show i<(za0 Fs).length by rw[za2];exact hiF)];rfl)
   have HX1:=Hh (show ∀(j x:Nat),X.1[j]?=some x→x<A.length from fun j x hx=>by rw[hAl];exact p1 x (List.mem_of_getElem? hx));have HX2:=Hh (show ∀(j x:Nat),X.2[j]?=some x→x<A.length from fun j x hx=>by rw[hAl];exact p2 x (List.mem_of_getElem? hx));have HY1:=Hh (show X.1.length<1000000000000 by omega);have HY2:=Hh (show X.2.length<1000000000000 by omega);have HP1:=Hh (show ∀(j x:Nat),(za1 A X.2)[j]?=some x→x<V.length from fun j x hx=>rL.1 x (List.mem_of_getElem? hx));have HP2:=Hh (show ∀(j x:Nat),(za1 A X.1)[j]?=some x→x<V.length from fun j x hx=>rR.1 x (List.mem_of_getElem? hx));have HP3:=Hh (show(za1 A X.2).length<1000000000 by simp[za1];omega);have HP4:=Hh (show(za1 A X.1).length<1000000000 by simp[za1];omega);have HP5:=Hh (show V.length<1000000000 by omega);have HP6:=Hh (show ∀x∈BV,x<1000000000 from fun x hx=>by have:=(zdi hs.ok).lt V.length (Nat.le_refl _) x hx;omega);have HA:=Hh hAl;have HW:=Hh (fun(W:World) (f:Fr NoM w7 W)=>(hs.fr.trans f (fun _ _ q=>q):Fr NoM w3 W));have hc:=HC.out w7 hs.fr;have F0:Fr NoM w7 w7.drew:=(Fr.refl NoM w7).drew;have G0:Fr NoM w3 w7.drew:=HW.out _ F0;clear hX hnn ha1 hR1 d1 d2 n1 n2 m1 m2 p1 p2 l1 l2 hTl hAl rL rR hmk hs hV hiF k2 k3;go_wp2_with fail;go_region_held3 (fun(W:World)=>W.cell? ⟨w.heap.size,0,none⟩=some (.slice na1 nF nc1)/\W.cell? ⟨b1,o1+i*2,none⟩=some (.slice xla X.1.length xlc)/\W.cell? ⟨b1,o1+i*2+1,none⟩=some (.slice xra X.2.length xrc))
    (first|exact HC.out _ (by assumption)|exact HC.out _ (Fr.alloc (by assumption) _))
    (first
     | (go_at_call 79;with_reducible refine(zei _ (.slice xra X.2.length xrc) A X.2 _ (HV7.out _ (by assumption)) (HN2.out _ (by assumption)) HX2.out HY2.out).mono ?_;rintro e wa ⟨va1,rfl,t1,fa⟩;have z1:Nats wa va1 (za1 A X.2):=zcn t1;clear t1;have ga:Fr NoM w7 wa:=Fr.trans (by assumption) fa (fun _ _ q=>q);have ka:Fr NoM w3 wa:=HW.out _ ga;try (have z2:=SliceOf.fr0 (L:=za1 A X.1) (by assumption) fa))
     | (go_at_call 79;with_reducible refine(zei _ (.slice xla X.1.length xlc) A X.1 _ (HV7.out _ (by assumption)) (HN1.out _ (by assumption)) HX1.out HY1.out).mono ?_;rintro e wb ⟨vb1,rfl,t2,fb⟩;have z2:Nats wb vb1 (za1 A X.1):=zcn t2;clear t2;have gb:Fr NoM w7 wb:=Fr.trans (by assumption) fb (fun _ _ q=>q);have kb:Fr NoM w3 wb:=HW.out _ gb;try (have z1:=SliceOf.fr0 (L:=za1 A X.2) (by assumption) fb))
     | (go_at_call 94;with_reducible refine(zfu bb _ _ V BV (za1 A X.2) (za1 A X.1) _ (HS.out.fr0 (by assumption)).book (by assumption) (by assumption) HP1.out HP2.out HP3.out HP4.out HP5.out HP6.out).mono ?_;rintro e wc ⟨rfl,p1,p2⟩;obtain⟨st,hr,hcd,hpre,hln⟩:=(HS.out.fr0 (by assumption)).put HRL.out HRR.out p1 p2;clear p1 p2;rw[HMk.out]at hcd;have HST:=Hh st;have HR:=Hh hr;have HCD:=Hh hcd;have HLN:=Hh hln;have kc:Fr NoM w3 wc:=st.fr;clear st hr hcd hpre hln)
     | (refine zbk (enc:=encN) rfl (.tmp 16) (.tmp 35) 82 rfl w3.heap.size 3 (.int .i64 0) 8 Tryz.underlying82 za9 rfl va A.length (A.map encN) rfl (za3 HST.out.o1 ((Fr.refl NoM wc).alloc _) (fun _ _ q=>q)) (.slice (some ⟨wc.heap.size,0,none⟩) 1 1) rfl [(putB V BV (za1 A X.2) (za1 A X.1)).2.2] (SliceOf.one encN wc _ 3) (fun _=>rfl) (by have:=HA.out;have:=HNb.out;simp only[List.length_singleton];omega) (by decide) (by have:=kc.size;rw[World.size_alloc];omega) ?_;intro v4 wd h4 f4 q4;have hap:=HST.out.app ((Fr.refl NoM wc).alloc _) h4 f4 (by first|exact q4|(rw[World.size_alloc];exact q4)) HR.out HCD.out;rw[zf8 HTn.out]at hap;have HAp:=Hh hap;have kd:Fr NoM w3 wd:=hap.fr;clear hap h4 f4 q4)
     | fail)
   all_goals
    go_wp2;go_roundw
    case rel=>exact⟨i+1,v4,_,_,_,_,rfl,by go_num,by omega,HAp.out,by have h1:=HLN.out;have h2:=HV.out;omega⟩
    case measure=>simp[intOf];omega
  ·obtain rfl:i=nF:=by omega
   have hn2:=HnF.out;have hpf:0<i:=by have:=PF.out;omega
   have hTl:Tb.length=i:=by rw[HTb.out,List.length_map,za2];omega
   have hnb:=HNb.out;have hAl:A.length=i:=by
    have h:=hs.r1.len;rw[List.length_take]at h;omega
   obtain⟨x,hx,hxl,hxc⟩:=hs.r1.get (p:=i-1) (c:=negC ((za0 Fs).getD (i-1) 0)) (by omega) (by
    rw[HTb.out,List.getElem?_map,List.getD_eq_getElem?_getD,List.getElem?_eq_getElem (show i-1<(za0 Fs).length by rw[za2];omega)];rfl)
   obtain⟨p,hp⟩:∃p,i=p+1:=⟨i-1,by omega⟩;rw[show i-1=p from by omega]at hx;obtain⟨aa,ac,rfl,_,_,hac⟩:=hs.nats1;obtain⟨b4,o4,ha4,c4⟩:=hac p x hx;unfold encN at c4;have ix4:=zaa aa A.length ac p b4 o4 (by omega) ha4;have hcast:((A.length:Int)-1)=(p:Int):=by omega
   have hpb:p<1600:=by omega
   have hAb:A.length<1000000:=by omega
   have hlen:=hs.ok.lens (n:=100000000) (by omega);have HFo:=Hh (zi2 bb x V BV w7 hs.book (zdi hs.ok) hxl (by omega) hlen);have hfo:=zdh hs.ok hxl hxc;have HFe:=Hh (show zd3 V BV x=zac (negC (zb0 Fs))from by
    rw[hfo];unfold zb0;rw[hn2])
   clear hx hxl hxc hac ha4 hlen hfo hAl hp hpf hi hlt hn2 hTl hs hV k2 k3;go_wp2_with fail;refine HFo.out.mono ?_
   rintro e w11 ⟨v',rfl,hn',f11⟩;rw[HFe.out]at hn';obtain⟨k0',k2',k3'⟩:=HK.out w11 (HS.out.fr.trans f11 (fun _ _ q=>q));have HFn:=Hh hn';have F11:=Hh (HS.out.fr.trans f11 (fun _ _ q=>q));have HSz:=Hh (show w.heap.size+2≤w7.heap.size from by have:=HS.out.fr.size;have:=HS3.out;omega);obtain⟨va',vc',rfl,zz⟩:=id hn';clear zz hn' f11 k0' k0 c4 ix4;go_wp2;refine bodyPost_ret (v:=.agg #[.slice va' (zac (negC (zb0 Fs))).length vc']) (by simp[results,Tryz.results97,go_sem,k2']) rfl ?_
   refine⟨_,rfl,?_,(HF3.out.trans F11.out (fun _ _ q=>q)).setCell _ _ (fun h=>by have h:w.heap.size+1<w.heap.size:=h;omega)⟩;exact(HFn.out.fr (Fr.set w11 ⟨w.heap.size+1,0,none⟩ _) (fun q hq e=>by have e:q=w.heap.size+1:=e;have:=HSz.out;omega)).mono (fun q hq=>by have:=HSz.out;omega)
structure BkN (U:List Nat) (S:Nat→Prop) (W:World) (bb:Nat) (V:List PL) (BV:List Nat):Prop where
 book:BookS S W bb V BV
 ok:PoolOK V BV
 lt:∀q,S q→q<W.heap.size
 inU:∀x,x<V.length→(za0 V).getD x 0∈U
def BkPost (U:List Nat)(bb:Nat)(w:World)(S:Nat→Prop)(V:List PL)(c:Nat)(e:Ending)(w':World):Prop :=
 ∃(i:Nat) (V':List PL) (BV':List Nat) (S':Nat→Prop),e=.returned (.int .i64 (i:Int))/\BkN U S' w' bb V' BV'∧V <+: V'∧(∀q,S' q→S q∨w.heap.size≤q)/\Fr S w w'∧i<V'.length/\(za0 V').getD i 0=c
section
variable {U:List Nat}{S:Nat→Prop}{w w':World}{bb:Nat}{V:List PL}{BV:List Nat}
theorem BkN.fr0 (h:BkN U S w bb V BV)(hf:Fr NoM w w'):BkN U S w' bb V BV:=⟨h.book.fr0 hf,h.ok,fun q hq=>Nat.lt_of_lt_of_le (h.lt q hq) hf.size,h.inU⟩
theorem BkN.len (h:BkN U S w bb V BV):V.length≤U.length:=zf1 h.ok h.inU
theorem BkN.start {W:World}(h:W.heap[bb]?=some (.cells #[.slice none 0 0,.slice none 0 0] 109 (0,0))):BkN U (fun q=>q=bb) W bb [] [] :=
 ⟨BookS.made h,PoolOK.nil,fun q hq=>by
  have:=(Array.getElem?_eq_some_iff.1 h).1;rw[hq];exact this,fun x hx=>by simp at hx⟩
theorem BkPost.of0 {w0:World}{c:Nat}{e:Ending}(hf:Fr NoM w0 w)(h:BkPost U bb w S V c e w'):BkPost U bb w0 S V c e w':=by
 obtain⟨i,V',BV',S',h1,h2,h3,h4,h5,h6⟩:=h;exact⟨i,V',BV',S',h1,h2,h3,fun q hq=>(h4 q hq).imp_right (Nat.le_trans hf.size),hf.any.trans h5 (fun _ _ q=>q),h6⟩
theorem yay (lv rv:Value)(L R cs ds:List Nat)(h:BkN U S w bb V BV)(hL:Nats w lv L)(hR:Nats w rv R)(rL:RowC V L cs)(rR:RowC V R ds)(hin:mkC cs ds∈U)(hUl:U.length<1000000)(ll:L.length<1000000000)(lr:R.length<1000000000) :
  Calls Tryz.prog 94 #[.pointer (some ⟨bb,0,none⟩),lv,rv] w fun e w'=>BkPost U bb w S V (mkC cs ds) e w':=by
 have hlen:=h.len;refine(zfu bb lv rv V BV L R w h.book hL hR (fun j x hx=>rL.1 x (List.mem_of_getElem? hx)) (fun j x hx=>rR.1 x (List.mem_of_getElem? hx)) ll lr (by omega) (fun x hx=>by have:=(zdi h.ok).lt V.length (Nat.le_refl _) x hx;omega)).mono ?_
 rintro e w' ⟨rfl,hb,hf⟩;obtain⟨q1,q2,q3,q4⟩:=zer h.ok rL rR;rw[zcd h.ok]at hb ⊢;have hm:=h.book.m;refine⟨(za4 V BV L R).2.2,(za4 V BV L R).1,(za4 V BV L R).2.1,_,rfl,⟨hb.cut,q1,fun q hq=>hq.2,zgg h.inU (by rw[q4];exact hin)⟩,q2,fun q hq=>hq.1,hf.mono (fun k _ z=>hm k z),q3,q4⟩
end
end Go.Proofs.YtghekfmfonoocaaGreatDoor
