import Derived.Test.YtknniemfpkjnbaaGreatDoorZhRefStar
/- What the claim of FnStopLineCard needs of: RefPart. -/
namespace Go.Proofs.YtknniemfpkjnbaaGreatDoor
set_option linter.unusedVariables false
set_option linter.unusedSimpArgs false
open Go.RowKit
set_option maxRecDepth 4000 in
set_option maxHeartbeats 8000000 in
theorem zmg {R:Nat→Prop}(nv:Value)(Fs:List PL)(w:World)(h:NodeL R encN w nv Fs)(hgd:zbv (i2 Fs))(i:Nat)(hi:i<Fs.length) :
  Calls Tryz.prog 83 #[.agg #[nv],.int .i64 (i:Int)] w fun e w'=>∃v',e=.returned (.agg #[v'])/\NodeOwn w.heap.size w' v' (zad ((za0 Fs).getD i 0))/\Fr NoM w w':=by
 obtain⟨w1,hw1⟩:∃w1,w1=(w.alloc (.cells #[nv] 31)).alloc (.cells #[.slice none 0 0] 31):=⟨_,rfl⟩;have f1:Fr NoM w w1:=by rw[hw1];exact((Fr.refl NoM w).alloc _).alloc _
 have hs1:w1.heap.size=w.heap.size+2:=by rw[hw1];simp
 have e0:w1.heap[w.heap.size]?=some (.cells #[nv] 31 (0,0)):=by rw[hw1];exact((Fr.refl NoM _).alloc _).heap (heap_alloc_new w _) (fun q=>q)
 have e1:w1.heap[w.heap.size+1]?=some (.cells #[.slice none 0 0] 31 (0,0)):=by
  have h:=heap_alloc_new (w.alloc (.cells #[nv] 31)) (.cells #[.slice none 0 0] 31);rw[World.size_alloc]at h;rw[hw1];exact h
 obtain⟨bb,hbb⟩:∃bb,bb=w.heap.size+1+1:=⟨_,rfl⟩;obtain⟨w2,hw2⟩:∃w2,w2=w1.alloc (.cells #[.slice none 0 0,.slice none 0 0] 112):=⟨_,rfl⟩;have f2:Fr NoM w1 w2:=by rw[hw2];exact(Fr.refl NoM w1).alloc _
 have hs2:w2.heap.size=bb+1:=by rw[hw2];simp[hs1];omega
 have e2:w2.heap[bb]?=some (.cells #[.slice none 0 0,.slice none 0 0] 112 (0,0)):=by rw[hw2,hbb,show w.heap.size+1+1=w1.heap.size from by omega];exact heap_alloc_new w1 _
 have k0:w2.cell? ⟨w.heap.size,0,none⟩=some nv:=by rw[cell_of_row w2 _ 0 _ _ _ (f2.heap e0 (fun q=>q))];rfl
 have HRs:=Hh (fun(W:World) (f:Fr (fun q=>bb≤q) w2 W)=>show W.cell? ⟨w.heap.size+1,0,none⟩=some (.slice none 0 0)/\W.frozen? ⟨w.heap.size+1,0,none⟩=false from by
  have h1:=f.heap (f2.heap e1 (fun q=>q)) (fun e=>by omega);exact⟨by rw[cell_of_row W _ 0 _ _ _ h1];rfl,by simp[World.frozen?,h1]⟩)
 obtain⟨g1,g2,g3,g4,g5,_⟩:=zaz hgd;have HAd:=Hh (zrk bb nv [] Fs [] w2 (BookS.made e2) BookOK.nil ((h.low.fr0 f1).fr0 f2) (fun k (hk:k<w.heap.size) e=>by have e:k=bb:=e;omega) g4.opts (by simp;omega) (fun y hy=>by have:=g3 y hy;omega));have HFm:=Hh (fun(S:Nat→Prop) (W:World) (hB:BookS S W bb Fs (zb2 Fs))=>zng bb i Fs (zb2 Fs) W hB (zf6 g4) hi (by omega) (fun y hy=>by have:=g3 y hy;omega));have HFe:=Hh (zit g4 hi rfl);have HG5:=Hh g5;have F12:=Hh (f1.trans f2 (fun _ _ q=>q));have HS2:=Hh hs2;have HBb:=Hh hbb;have hi9:i<1000:=by omega
 clear h hgd f1 hs1 e0 e1 f2 hs2 e2 g1 g2 g3 g4 g5;go_enter Tryz.func83,Tryz.ntmps83;go_upto_region 2 with fail;rw[←hw1,←hw2,←hbb];clear hw1 hw2 hbb;go_wp2_with fail;(with_reducible refine HAd.out.mono ?_);rintro e w3 ⟨v3,S3,rfl,hrow,_,hBS,hS3,f3⟩;rw[HG5.out]at hrow hBS;have hN:Nats w3 v3 (List.range Fs.length):=SliceOf.of_owns hrow rfl;obtain⟨a3,c3,rfl,_,_,hcc⟩:=hN;obtain⟨b3,o3,ha3,d3⟩:=hcc i i (by rw[List.getElem?_range hi]);rw[List.length_range]at *;have ix:=za7 a3 Fs.length c3 i b3 o3 hi ha3;unfold encN at d3;have HF3:=Hh (HFm.out S3 w3 hBS);have F3:=Hh (show Fr (fun q=>bb≤q) w2 w3 from f3.mono (fun q _ e=>by have e:q=bb:=e;omega));have HS3:=Hh (show w.heap.size+3≤w3.heap.size from by have h1:=f3.size;have h2:=HS2.out;have h3:=HBb.out;omega);clear hrow hBS hS3 f3 hcc ha3 k0;go_wp2_with fail;(with_reducible refine HF3.out.mono ?_);rintro e w4 ⟨v4,rfl,o4,f4⟩;rw[HFe.out]at o4;obtain⟨a4,c4,rfl⟩:=o4.nodeT.val;have F4:=Hh (F3.out.trans f4 (fun _ _ q=>q.elim));have HO4:=Hh o4;clear o4 f4 d3;obtain⟨r0,r1⟩:=HRs.out w4 F4.out;go_wp2_with fail;refine bodyPost_ret (v:=.agg #[.slice a4 (zad ((za0 Fs).getD i 0)).length c4]) (by simp[results,Tryz.results83,go_sem,r0,r1]) rfl ?_
 refine⟨_,rfl,(HO4.out.fr (Fr.set w4 ⟨w.heap.size+1,0,none⟩ _) (fun q hq e=>by have e:q=w.heap.size+1:=e;have:=HS3.out;omega)).mono (by have:=HS3.out;omega),?_⟩;exact(F12.out.trans F4.out (fun q hq e=>by have h3:=HBb.out;omega)).setCell _ _ (fun h=>by have h:w.heap.size+1<w.heap.size:=h;omega)
end Go.Proofs.YtknniemfpkjnbaaGreatDoor
