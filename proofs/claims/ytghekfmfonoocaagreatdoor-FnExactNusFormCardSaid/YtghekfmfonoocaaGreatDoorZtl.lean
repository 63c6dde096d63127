import Derived.OpenShut
import Derived.WalkSmall
import Derived.IntWalk
import Derived.Test.YtghekfmfonoocaaGreatDoorZt8
/- Lemmas. -/
namespace Go.Proofs.YtghekfmfonoocaaGreatDoor
set_option linter.unusedVariables false
set_option linter.unusedSimpArgs false
open Go.RowKit
def DF (U:List Nat)(Fm:List PL):Prop:=∃c,Fm=zac c/\∀x,SubC c x→x∈U
theorem zxh {L:List Nat}{n:Nat}(hu:L.Pairwise (· < ·))(hl:∀x∈L,x<n):L.length≤n:=by
 have:=List.Nodup.length_le_of_subset (show L.Nodup from hu.imp (fun h=>Nat.ne_of_lt h)) (fun x hx=>List.mem_range.2 (hl x hx));rwa [List.length_range]at this
theorem DF.props {U:List Nat}{Fm:List PL}(h:DF U Fm):0<Fm.length/\Fm.length≤U.length/\OptsOK Fm/\∀y∈Fm,y.1.length≤U.length/\y.2.length≤U.length:=by
 obtain⟨c,rfl,hs⟩:=h;obtain⟨p1,p2,p3,_⟩:=zfy (zbi c);obtain⟨P,hA⟩:=zbi c;have hPl:=hA.book.len;have hle:P.length≤U.length:=hA.book.nodup.length_le_of_subset fun x hx=>hs x ((hA.sub x).1 hx)
 refine⟨p1,by omega,p2,fun y hy=>?_⟩;obtain⟨j,hj,rfl⟩:=List.getElem_of_mem hy;have ej:=List.getElem?_eq_getElem hj
 obtain⟨o1,o2⟩:=p2 j _ ej;obtain⟨u1,u2⟩:=p3 j _ ej;have h1:=zxh u1 o1;have h2:=zxh u2 o2;exact⟨by omega,by omega⟩
theorem DF.good {U:List Nat}{Fm:List PL}(h:DF U Fm)(hU:U.length≤120):GoodF Fm:=by
 obtain⟨p1,p2,p3,p4⟩:=h.props;exact⟨p1,by omega,p3,fun y hy=>by have:=p4 y hy;omega⟩
theorem zv2 {a x:Nat}(h:SubC a x):x=a∨∃y,optC a y/\SubC y x:=by
 induction h with
 | root=>exact .inl rfl
 | step _ hop ih =>
  rcases ih with rfl|⟨y,hy,hs⟩
  ·exact .inr ⟨_,hop,.root⟩
  ·exact .inr ⟨y,hy,hs.step hop⟩
theorem znm (FL:List (List PL)):∀(s:List PL × List Nat × List Nat) (cs:List Nat),(∀Fm∈FL,0<Fm.length/\OptsOK Fm)→PoolOK s.1 s.2.1→RowC s.1 s.2.2 cs →
  PoolOK (FL.foldl zbd s).1 (FL.foldl zbd s).2.1/\s.1 <+: (FL.foldl zbd s).1/\RowC (FL.foldl zbd s).1 (FL.foldl zbd s).2.2 (cs++FL.map zb0):=by
 induction FL with
 | nil=>intro s cs _ h hr;exact⟨h,List.prefix_refl _,by simpa using hr⟩
 | cons f l ih =>
  intro s cs hF h hr;obtain⟨hp,ho⟩:=hF f List.mem_cons_self;obtain⟨a1,a2,a3,_⟩:=zrm f ho h;have hlen:(addB s.1 s.2.1 f).2.2.length=f.length:=by rw[a3.len,za2]
  have hr1:RowC (zbd s f).1 (zbd s f).2.2 (cs ++ [zb0 f]):=by
   refine(hr.mono a2).snoc ?_ ?_
   ·exact a3.1 _ (zcz (by omega))
   ·have h1:=a3.2
    unfold zfa zb0;have h2:(za1 (za0 (addB s.1 s.2.1 f).1) (addB s.1 s.2.1 f).2.2).getD (f.length-1) 0=(za0 f).getD (f.length-1) 0:=by rw[h1]
    rw[←h2];unfold za1;rw[List.getD_eq_getElem?_getD,List.getD_eq_getElem?_getD,List.getD_eq_getElem?_getD,List.getElem?_map,List.getElem?_eq_getElem (show f.length-1<(addB s.1 s.2.1 f).2.2.length by omega)];simp[List.getD_eq_getElem?_getD]
  obtain⟨i1,i2,i3⟩:=ih (zbd s f) (cs ++ [zb0 f]) (fun Fm hm=>hF Fm (List.mem_cons_of_mem _ hm)) a1 hr1;rw[List.foldl_cons];refine⟨i1,a2.trans i2,?_⟩;rw[List.map_cons,show cs++zb0 f::l.map zb0=cs ++ [zb0 f]++l.map zb0 from by simp];exact i3
theorem zif {FL FR:List (List PL)}(hL:∀Fm∈FL,0<Fm.length/\OptsOK Fm)(hR:∀Fm∈FR,0<Fm.length/\OptsOK Fm):zg1 FL FR=zac (mkC (FL.map zb0) (FR.map zb0)):=by
 obtain⟨a1,a2,a3⟩:=znm FL ([],[],[]) [] hL PoolOK.nil (RowC.nil _);obtain⟨b1,b2,b3⟩:=znm FR ((zbp [] [] FL).1,(zbp [] [] FL).2.1,[]) [] hR a1 (RowC.nil _);rw[List.nil_append]at a3 b3;obtain⟨q1,q2,q3,q4⟩:=zer b1 (a3.mono b2) b3;have:=zdh q1 q3 q4;rw[←this];unfold zg1;show zd3 (putB _ _ _ _).1 (putB _ _ _ _).2.1 (putB _ _ _ _).2.2=_
 rw[←zcd b1];rfl
theorem DF.code {U:List Nat}{Fm:List PL}(h:DF U Fm):Fm=zac (zb0 Fm)/\∀x,SubC (zb0 Fm) x→x∈U:=by
 obtain⟨c,rfl,hs⟩:=h;have e:zb0 (zac c)=c:=(zfy (zbi c)).2.2.2.2.2;rw[e];exact⟨rfl,hs⟩
theorem zu7 {U:List Nat}{FL FR:List (List PL)}(hL:∀Fm∈FL,DF U Fm)(hR:∀Fm∈FR,DF U Fm):DF (U ++ [mkC (FL.map zb0) (FR.map zb0)]) (zg1 FL FR)/\zb0 (zg1 FL FR)=mkC (FL.map zb0) (FR.map zb0):=by
 have hm:zg1 FL FR=zac (mkC (FL.map zb0) (FR.map zb0)):=zif (fun Fm h=>⟨(hL Fm h).props.1,(hL Fm h).props.2.2.1⟩) (fun Fm h=>⟨(hR Fm h).props.1,(hR Fm h).props.2.2.1⟩);refine⟨⟨_,hm,fun x hx=>?_⟩,by rw[hm];exact(zfy (zbi _)).2.2.2.2.2⟩;rcases zv2 hx with rfl|⟨y,hy,hs⟩
 ·simp
 ·refine List.mem_append_left _ ?_
  rcases hy with h|h
  ·obtain⟨Fm,hm,rfl⟩:=List.mem_map.1 ((zab _ _ y).1 h)
   exact(hL Fm hm).code.2 x hs
  ·obtain⟨Fm,hm,rfl⟩:=List.mem_map.1 ((zad _ _ y).1 h)
   exact(hR Fm hm).code.2 x hs
def nn1:Nat:=mkC [] []
def nn4:Nat:=mkC [nn1] [nn1]
section
variable {D:Nat}{T T':Nat→Prop}{w w':World}{v:Value}{LL:List PL}
end
section
variable {D:Nat}{W W' Wa:World}{v v' nv:Value}{VS:List Value}{FSs:List (List PL)}{T T':Nat→Prop}{Fm:List PL}
end
theorem FormsL.fr {R M:Nat→Prop}{w w':World}{v:Value}{FL:List (List PL)}(h:FormsL R w v FL)(hf:Fr M w w')(hv:∀q,v.ownBlock=some q→¬M q)(hR:∀q,R q→¬M q):FormsL R w' v FL:=by
 obtain⟨VS,h1,h2,h3⟩:=h;exact⟨VS,h1.fr hf (fun _ q hq=>hv q hq),h2,fun j nv Fm e1 e2=>(h3 j nv Fm e1 e2).fr hf hR⟩
theorem FormsL.fr0 {R:Nat→Prop}{w w':World}{v:Value}{FL:List (List PL)}(h:FormsL R w v FL)(hf:Fr NoM w w'):FormsL R w' v FL:=h.fr hf (fun _ _ q=>q) (fun _ _ q=>q)
theorem zzn {R:Nat→Prop}{w:World}{nv:Value}{Fm:List PL}{a:Nat}(ha:a=w.heap.size)(h:NodeL R encN w nv Fm):FormsL R (w.alloc (.cells #[nv] 26)) (.slice (some ⟨a,0,none⟩) 1 1) [Fm]:=by
 subst ha;refine⟨[nv],SliceOf.one encV w nv 26,rfl,fun j u G h1 h2=>?_⟩;cases j with
 | zero =>
  have e1:nv=u:=by simpa using h1
  have e2:Fm=G:=by simpa using h2
  subst e1;subst e2;exact h.fr0 ((Fr.refl NoM w).alloc _)
 | succ j=>simp at h1
theorem yex {R:Nat→Prop}{w:World}{nv mv:Value}{Fm Gm:List PL}{a:Nat}(ha:a=w.heap.size)(h:NodeL R encN w nv Fm)(h':NodeL R encN w mv Gm):FormsL R (w.alloc (.cells #[nv,mv] 26)) (.slice (some ⟨a,0,none⟩) 2 2) [Fm,Gm]:=by
 subst ha;have hb:(w.alloc (.cells #[nv,mv] 26)).heap[w.heap.size]?=some (.cells #[nv,mv] 26 (0,0)):=heap_alloc_new w _;refine⟨[nv,mv],⟨_,2,rfl,by simp,by decide,fun j u hu=>⟨w.heap.size,0,rfl,?_⟩⟩,rfl,fun j u G h1 h2=>?_⟩
 ·rw[Nat.zero_add,cell_of_row _ _ _ _ _ _ hb]
  match j,hu with
  | 0,hu=>exact hu
  | 1,hu=>exact hu
  | j+2,hu=>simp at hu
 ·match j,h1,h2 with
  | 0,h1,h2 =>
   have e1:nv=u:=by simpa using h1
   have e2:Fm=G:=by simpa using h2
   subst e1;subst e2;exact h.fr0 ((Fr.refl NoM w).alloc _)
  | 1,h1,h2 =>
   have e1:mv=u:=by simpa using h1
   have e2:Gm=G:=by simpa using h2
   subst e1;subst e2;exact h'.fr0 ((Fr.refl NoM w).alloc _)
  | j+2,h1,h2=>simp at h1
section
variable {D:Nat}{W W':World}{b:Nat}{nv:Value}{U U':List Nat}{Fm:List PL}
end
section
variable {m:Nat}{W W':World}{b n:Nat}{cur:Array Value}{Z Z':Nat→Prop}
end
theorem yb2 (v:Value)(A:List Int)(w:World)(h:Ints w v A)(hl:A.length<1000000) :
  Calls Tryz.prog 101 #[v] w fun e w'=>∃v',e=.returned v'∧w'.ownsRow w.heap.size 3 1 v' A.length (A.map encI)/\Fr NoM w w':=by
 obtain⟨a,c,rfl,zz⟩:=id h;have HL:=Hh h;have HN:=Hh hl;clear zz h hl;go_enter Tryz.func101,Tryz.ntmps101;go_wp2_with (at_builtin;refine zag (enc:=encI) _ rfl (.tmp 3) (.tmp 4) 82 rfl w.heap.size 3 (.int .i64 0) 8 Tryz.underlying82 za9 rfl (.slice (some ⟨w.heap.size,0,none⟩) 0 0) 0 [] rfl (World.ownsRow_made w #[] 0 (Nat.le_refl _) (by decide) (by simp)) (.slice a A.length c) rfl A (HL.out.fr0 ((Fr.refl NoM w).alloc _)) (fun _=>rfl) (by have:=HN.out;omega) (by decide) (by rw[World.size_alloc];omega) ?_);intro v1 w1 h1 f1 q1;have hfw:Fr NoM w w1:=((Fr.refl NoM w).alloc _).trans f1 (fun q hq e=>by have e:w.heap.size=q:=Option.some.inj e;omega);have HO:=Hh h1;have HF:=Hh hfw;clear h1 f1 q1 hfw;go_wp2;go_ret;exact⟨v1,rfl,HO.out,HF.out⟩
def ze2 (k:Nat):List PL:=(List.range k).map fun j=>(List.range j,List.range j)
theorem zex (k:Nat):(ze2 k).length=k:=by unfold ze2;rw[List.length_map,List.length_range]
theorem zpd {k j:Nat}(h:j<k):(ze2 k)[j]?=some (List.range j,List.range j):=by unfold ze2;rw[List.getElem?_map,List.getElem?_range h];rfl
structure StarS (B fb k:Nat) (W:World) (fv lv:Value) (NV:List (Value × Value)):Prop where
 box:W.heap[fb]?=some (.cells #[fv] 26 (0,0))
 rowN:W.ownsRow B 85 2 fv k (zb8 NV)
 len:NV.length=k
 rowL:W.ownsRow B 3 1 lv k ((List.range k).map encN)
 fine:∀(j:Nat) (x:Value × Value),NV[j]?=some x→(Nats W x.1 (List.range j)/\Nats W x.2 (List.range j))/\(∀q,x.1.ownBlock=some q∨x.2.ownBlock=some q→B≤q/\q<W.heap.size/\fv.ownBlock≠some q/\lv.ownBlock≠some q/\q≠fb)
 f1:∀q,fv.ownBlock=some q→lv.ownBlock≠some q/\q≠fb
 f2:∀q,lv.ownBlock=some q→q≠fb
 low:B≤fb
section
variable {B fb k:Nat}{W W':World}{fv lv:Value}{NV:List (Value × Value)}{M:Nat→Prop}
theorem StarS.nodeL {D:Nat}(h:StarS B fb k W fv lv NV)(hD:D≤B):NodeL (fun b=>D≤b) encN W fv (ze2 k):=by
 obtain⟨a,c,e,h1,h2,hc⟩:=Pairs.of_owns h.rowN;refine⟨a,c,by rw[zex,←h.len];exact e,by rw[zex,←h.len];exact h1,h2,fun j y hy=>?_⟩;have hj:j<k:=by have:=(List.getElem?_eq_some_iff.1 hy).1;rw[zex]at this;exact this
 rw[zpd hj]at hy;cases hy
 have hx:=List.getElem?_eq_getElem (l:=NV) (i:=j) (by rw[h.len];exact hj)
 obtain⟨b,off,ha,c1,c2⟩:=hc j _ hx;obtain⟨⟨n1,n2⟩,n3⟩:=h.fine j _ hx;have hb:=(h.rowN.lt b (by rw[e,ha];rfl)).1;exact⟨b,off,_,_,ha,by omega,c1,c2,n1,n2,fun _ q hq=>by have:=(n3 q (.inl hq)).1;omega,fun _ q hq=>by have:=(n3 q (.inr hq)).1;omega⟩
theorem StarS.start (w:World):StarS (w.heap.size+1) (w.heap.size+2) 0 ((((w.alloc (.cells #[.slice none 0 0] 26)).alloc (.cells #[] 85)).alloc (.cells #[.slice (some ⟨w.heap.size+1,0,none⟩) 0 0] 26)).alloc (.cells #[] 3)) (.slice (some ⟨w.heap.size+1,0,none⟩) 0 0) (.slice (some ⟨w.heap.size+3,0,none⟩) 0 0) []:=by
 obtain⟨w1,hw1⟩:∃w1,w1=w.alloc (.cells #[.slice none 0 0] 26):=⟨_,rfl⟩;have hs1:w1.heap.size=w.heap.size+1:=by rw[hw1];simp
 obtain⟨w2,hw2⟩:∃w2,w2=w1.alloc (.cells #[] 85):=⟨_,rfl⟩;have hs2:w2.heap.size=w.heap.size+2:=by rw[hw2,World.size_alloc,hs1]
 obtain⟨w3,hw3⟩:∃w3,w3=w2.alloc (.cells #[.slice (some ⟨w.heap.size+1,0,none⟩) 0 0] 26):=⟨_,rfl⟩;have hs3:w3.heap.size=w.heap.size+3:=by rw[hw3,World.size_alloc,hs2]
 rw[←hw1,←hw2,←hw3];have mN:w2.ownsRow (w.heap.size+1) 85 2 (.slice (some ⟨w.heap.size+1,0,none⟩) 0 0) 0 (zb8 []):=by
  have h:=World.ownsRow_made (base:=w1.heap.size) (e:=85) (size:=2) w1 #[] 0 (Nat.le_refl _) (by decide) (by simp);rw[←hw2,hs1]at h;exact h
 have mL:(w3.alloc (.cells #[] 3)).ownsRow (w.heap.size+1) 3 1 (.slice (some ⟨w.heap.size+3,0,none⟩) 0 0) 0 []:=by
  have h:=World.ownsRow_made (base:=w3.heap.size) (e:=3) (size:=1) w3 #[] 0 (Nat.le_refl _) (by decide) (by simp);rw[hs3]at h;exact zb3 h (by omega)
 have f23:Fr NoM w2 w3:=by rw[hw3];exact(Fr.refl NoM w2).alloc _
 have eb:w3.heap[w.heap.size+2]?=some (.cells #[.slice (some ⟨w.heap.size+1,0,none⟩) 0 0] 26 (0,0)):=by
  have h:=heap_alloc_new w2 (.cells #[.slice (some ⟨w.heap.size+1,0,none⟩) 0 0] 26);rw[hs2,←hw3]at h;exact h
 refine⟨((Fr.refl NoM w3).alloc _).heap eb (fun q=>q),za3 (za3 mN f23 (fun _ _ q=>q)) ((Fr.refl NoM w3).alloc _) (fun _ _ q=>q),rfl,mL,fun j x hx=>by simp at hx,fun q hq=>?_,fun q hq=>?_,Nat.le_succ _⟩
 ·have e:w.heap.size+1=q:=Option.some.inj hq
  refine⟨fun e2=>?_,by omega⟩;have e2:w.heap.size+3=q:=Option.some.inj e2;omega
 ·have e:w.heap.size+3=q:=Option.some.inj hq
  omega
theorem StarS.next {Wa Wb Wc Wd We:World}{x1 x2 fv' lv':Value}(h:StarS B fb k W fv lv NV)(ha:Fr NoM W Wa)(n1:Nats Wa x1 (List.range k))(n2:Nats Wa x2 (List.range k))(b1:∀q,x1.ownBlock=some q∨x2.ownBlock=some q→W.heap.size≤q/\q<Wa.heap.size)
  (o1:Wb.ownsRow B 85 2 fv' (k+1) (zb8 NV ++ [x1,x2])) (g1:Fr (Own1 fv) Wa Wb) (s1:fv'.ownBlock=fv.ownBlock∨∃b,fv'.ownBlock=some b/\Wa.heap.size≤b)
  (hc:Wc=Wb.setCell ⟨fb,0,none⟩ fv') (hd:Fr NoM Wc Wd) (o2:We.ownsRow B 3 1 lv' (k+1) ((List.range k).map encN ++ [encN k])) (g2:Fr (Own1 lv) Wd We) (s2:lv'.ownBlock=lv.ownBlock∨∃b,lv'.ownBlock=some b/\Wd.heap.size≤b) :
  StarS B fb (k+1) We fv' lv' (NV ++ [(x1,x2)]):=by
 have nfb:¬Own1 fv fb:=fun e=>(h.f1 fb e).2 rfl
 have nlb:¬Own1 lv fb:=fun e=>h.f2 fb e rfl
 have hbb:Wb.heap[fb]?=some (.cells #[fv] 26 (0,0)):=g1.heap (ha.heap h.box (fun q=>q)) nfb;have hlt:fb<W.heap.size:=(Array.getElem?_eq_some_iff.1 h.box).1;have fc:Fr (fun q=>q=fb) Wb Wc:=by rw[hc];exact Fr.setCell (M:=fun q=>q=fb) (Fr.refl _ Wb) _ _ (fun _=>rfl)
 have hcb:Wc.heap[fb]?=some (.cells #[fv'] 26 (0,0)):=by rw[hc,heap_set hbb];rfl
 have z1:=ha.size;have z2:=g1.size;have z3:=fc.size;have z4:=hd.size;have z5:=g2.size;have fv1:∀q,fv'.ownBlock=some q→lv.ownBlock≠some q/\q≠fb:=fun q hq=>by
  rcases s1 with s|⟨b,s,hb⟩
  ·exact h.f1 q (by rw[←s];exact hq)
  ·rw[hq]at s;cases s
   exact⟨fun e=>by have:=(h.rowL.lt q e).2;omega,by omega⟩
 have keep:∀ {v:Value}{L:List Nat},Nats Wa v L→(∀q,v.ownBlock=some q→fv.ownBlock≠some q/\lv.ownBlock≠some q/\q≠fb)→Nats We v L:=fun hn hq =>
  (((hn.fr g1 (fun _ q e e2=>(hq q e).1 e2)).fr fc (fun _ q e=>(hq q e).2.2)).fr0 hd).fr g2 (fun _ q e e2=>(hq q e).2.1 e2)
 have new:∀q,x1.ownBlock=some q∨x2.ownBlock=some q→fv.ownBlock≠some q/\lv.ownBlock≠some q/\q≠fb:=fun q hq=>by
  have hb:=b1 q hq;exact⟨fun e=>by have:=(h.rowN.lt q e).2;omega,fun e=>by have:=(h.rowL.lt q e).2;omega,by omega⟩
 have out:∀q,q<Wa.heap.size→(fv.ownBlock≠some q/\lv.ownBlock≠some q)→fv'.ownBlock≠some q/\lv'.ownBlock≠some q:=fun q hq hn=>by
  constructor
  ·intro e
   rcases s1 with s|⟨b,s,hb⟩
   ·exact hn.1 (by rw[←s];exact e)
   ·rw[e]at s;cases s;omega
  ·intro e
   rcases s2 with s|⟨b,s,hb⟩
   ·exact hn.2 (by rw[←s];exact e)
   ·rw[e]at s;cases s;omega
 refine⟨g2.heap (hd.heap hcb (fun q=>q)) nlb,?_,by rw[List.length_append,h.len];rfl,?_,fun j x hx=>?_,fun q hq=>⟨fun e=>?_,(fv1 q hq).2⟩,fun q hq=>?_,h.low⟩
 ·have e:zb8 (NV ++ [(x1,x2)])=zb8 NV ++ [x1,x2]:=by simp[zb8]
  rw[e];exact za3 (za3 (za3 o1 fc (fun q hq=>(fv1 q hq).2)) hd (fun _ _ q=>q)) g2 (fun q hq e=>(fv1 q hq).1 e)
 ·rw[List.range_succ,List.map_append]
  exact o2
 ·by_cases hj:j<k
  ·rw[List.getElem?_append_left (by rw[h.len];exact hj)]at hx
   obtain⟨⟨m1,m2⟩,m3⟩:=h.fine j x hx;refine⟨⟨keep (m1.fr0 ha) (fun q e=>(m3 q (.inl e)).2.2),keep (m2.fr0 ha) (fun q e=>(m3 q (.inr e)).2.2)⟩,fun q hq=>?_⟩;obtain⟨c1,c2,c3,c4,c5⟩:=m3 q hq;obtain⟨d1,d2⟩:=out q (by omega) ⟨c3,c4⟩;exact⟨c1,by omega,d1,d2,c5⟩
  ·have hjk:j=k:=by
    have:=(List.getElem?_eq_some_iff.1 hx).1;rw[List.length_append,h.len]at this
    simp at this
    omega
   subst hjk;rw[List.getElem?_append_right (by rw[h.len];exact Nat.le_refl _),h.len,Nat.sub_self]at hx;cases hx
   refine⟨⟨keep n1 (fun q e=>new q (.inl e)),keep n2 (fun q e=>new q (.inr e))⟩,fun q hq=>?_⟩;obtain⟨c1,c2,c3⟩:=new q hq;have hb:=b1 q hq;obtain⟨d1,d2⟩:=out q hb.2 ⟨c1,c2⟩;have:=h.low;exact⟨by omega,by omega,d1,d2,c3⟩
 ·rcases s2 with s|⟨b,s,hb⟩
  ·exact(fv1 q hq).1 (by rw[←s];exact e)
  ·rw[e]at s;cases s
   have:=(o1.lt q hq).2;omega
 ·rcases s2 with s|⟨b,s,hb⟩
  ·exact h.f2 q (by rw[←s];exact hq)
  ·rw[hq]at s;cases s;omega
end
theorem zud {L:List Nat}:(ints L).map encI=L.map encN:=by unfold ints;rw[List.map_map];rfl
set_option maxRecDepth 8000 in
set_option maxHeartbeats 8000000 in
theorem znu (n:Nat)(hn:n≤1000)(w:World):Calls Tryz.prog 98 #[.int .i64 (n:Int)] w fun e w'=>∃v',e=.returned (.agg #[v'])/\NodeL (fun b=>w.heap.size≤b) encN w' v' (ze2 (n+1))/\Fr NoM w w':=by
 obtain⟨w1,hw1⟩:∃w1,w1=w.alloc (.cells #[.slice none 0 0] 26):=⟨_,rfl⟩;have f1:Fr NoM w w1:=by rw[hw1];exact(Fr.refl NoM w).alloc _
 have e1:w1.heap[w.heap.size]?=some (.cells #[.slice none 0 0] 26 (0,0)):=by rw[hw1];exact heap_alloc_new w _
 have HRs:=Hh (fun(W:World) (f:Fr NoM w1 W)=>show W.cell? ⟨w.heap.size,0,none⟩=some (.slice none 0 0)/\W.frozen? ⟨w.heap.size,0,none⟩=false from by
  have h1:=f.heap e1 (fun q=>q);exact⟨by rw[cell_of_row W _ 0 _ _ _ h1];rfl,by simp[World.frozen?,h1]⟩)
 have hst:=StarS.start w;rw[←hw1]at hst;obtain⟨w4,hw4⟩:∃w4,w4=((w1.alloc (.cells #[] 85)).alloc (.cells #[.slice (some ⟨w.heap.size+1,0,none⟩) 0 0] 26)).alloc (.cells #[] 3):=⟨_,rfl⟩;rw[←hw4]at hst;have f4:Fr NoM w1 w4:=by rw[hw4];exact(((Fr.refl NoM w1).alloc _).alloc _).alloc _
 have hs1:w1.heap.size=w.heap.size+1:=by rw[hw1];simp
 have HSt:=Hh hst;have F4:=Hh f4;have F1:=Hh f1;have HS1:=Hh hs1;obtain⟨fb,hfb⟩:∃fb,fb=w.heap.size+2:=⟨_,rfl⟩;rw[←hfb]at HSt;have Hfb:=Hh hfb;clear f1 e1 hst f4;go_enter Tryz.func98,Tryz.ntmps98;go_upto_region 3 with fail;rw[←hw1,show w.heap.size+1+1+1=w.heap.size+3 from rfl,show w.heap.size+1+1=fb from hfb.symm,←hw4];clear hw1 hw4 hfb;go_wp2_with fail;go_loopw [4,5] (fun v4 v5 W=>∃(k:Nat) (fv lv:Value) (NV:List (Value × Value)),lv=v4/\v5=.int .i64 (k:Int)/\k≤n+1/\StarS (w.heap.size+1) fb k W fv lv NV/\Fr NoM w1 W) (fun _ v5 _=>n+1-(intOf v5).toNat)
 case atStart=>exact⟨0,_,_,_,rfl,rfl,Nat.zero_le _,HSt.out,F4.out⟩
 case round =>
  obtain⟨k,fv,lv,NV,rfl,rfl,hk,hs,hf⟩:=hrel;obtain⟨w7,rfl⟩:∃w7,w7=wr:=⟨_,rfl⟩;obtain⟨fa,fc,hfv,_,_,_⟩:=Pairs.of_owns hs.rowN;rw[hs.len]at hfv;subst hfv;have hnl:Nats w7 lv (List.range k):=SliceOf.of_owns hs.rowL rfl;obtain⟨la,lc,hlv,_,_,_⟩:=id hnl;rw[List.length_range]at hlv;subst hlv;have c0:w7.cell? ⟨fb,0,none⟩=some (.slice fa k fc):=by rw[cell_of_row w7 _ 0 _ _ _ hs.box];rfl
  by_cases hlt:k≤n
  ·have HC:=Hh (fun(W:World) (f:Fr NoM w7 W)=>f.cell c0 (fun q=>q))
   have HOwn:=Hh (fun(W:World) (f:Fr NoM w7 W)=>yb2 (.slice la k lc) (ints (List.range k)) W (SliceOf.conv (enc':=encI) (f:=fun x:Nat=>(x:Int)) (hnl.fr0 f) (fun _=>rfl)) (by unfold ints;rw[List.length_map,List.length_range];omega));have HS:=Hh hs;have HF:=Hh hf;have HKl:=Hh (show ∃d,n=k+d from⟨n-k,by omega⟩);have G0:Fr NoM w7 w7.drew:=(Fr.refl NoM w7).drew;have aL:(k:Int)≤(n:Int):=by omega
   have HBn:=Hh (show(k+1)*48≤140737488355328 by omega);have HBl:=Hh (show(k+1)*8≤140737488355328 by omega);have HSz:=Hh (show w.heap.size+1≤w7.heap.size by have h1:=hf.size;have h2:=HS1.out;omega);have hk9:k≤1000:=by omega
   clear hs hf hnl hlt hk;go_upto_region 6 with fail;go_region_law (first
    | (refine zpc rfl (.tmp 15) (.tmp 21) 24 rfl (w.heap.size+1) 85 _ 2 48 Tryz.underlying24 zc6 rfl (by decide) (.slice fa k fc) k (zb8 NV) rfl (by exact za3 HS.out.rowN (gb.alloc _) (fun _ _ q=>q)) wb.heap.size rfl [.slice a1 k c1,.slice a2 k c2] 85 (by exact heap_alloc_new wb _) rfl (by intro u hu;simp at hu;rcases hu with rfl|rfl <;> rfl) (by exact HBn.out) (by decide) (by have h1:=gb.size;have h2:=HSz.out;rw[World.size_alloc];omega) ?_;intro v9 w9 h9 f9 s9;have hbx:=f9.heap ((gb.alloc _).heap HS.out.box (fun q=>q)) (fun e=>(HS.out.f1 fb e).2 rfl);have zf:w9.frozen? ⟨fb,0,none⟩=false:=(by simp[World.frozen?,hbx]);have zc:w9.cell? ⟨fb,0,none⟩=some (.slice fa k fc):=(by rw[cell_of_row w9 _ 0 _ _ _ hbx];rfl);obtain⟨g9,k9,hv9,_,_⟩:=zbr h9 (Nat.succ_pos _);subst hv9)
    | (go_simp;first
     | (go_at_call 101;(with_reducible refine(HOwn.out _ ga).mono ?_);rintro e wb ⟨vb,rfl,ob,fb1⟩;have gb:Fr NoM w7 wb:=Fr.trans ga fb1 (fun _ _ q=>q);have n2:Nats wb vb (List.range k):=SliceOf.of_owns (by rw[zud]at ob;exact ob) rfl;have b2:∀q,vb.ownBlock=some q→wa.heap.size≤q/\q<wb.heap.size:=ob.lt;obtain⟨a2,c2,hv2,_⟩:=id n2;rw[List.length_range]at hv2;subst hv2;have cb:=HC.out wb gb;have cbo:=fun o=>HC.out (wb.alloc o) (gb.alloc o);have n1:=n1.fr0 fb1)
     | (go_at_call 101;(with_reducible refine(HOwn.out _ G0).mono ?_);rintro e wa ⟨va,rfl,oa,fa1⟩;have ga:Fr NoM w7 wa:=Fr.trans G0 fa1 (fun _ _ q=>q);have n1:Nats wa va (List.range k):=SliceOf.of_owns (by rw[zud]at oa;exact oa) rfl;have b1:∀q,va.ownBlock=some q→w7.heap.size≤q/\q<wa.heap.size:=oa.lt;obtain⟨a1,c1,hv1,_⟩:=id n1;rw[List.length_range]at hv1;subst hv1;have ca:=HC.out wa ga)
     | fail)
    | fail)
   all_goals
    have HN1:=Hh (SliceOf.fr0 n1 ((Fr.refl NoM wb).alloc (.cells #[.slice a1 k c1,.slice a2 k c2] 85)));have HN2:=Hh (SliceOf.fr0 n2 ((Fr.refl NoM wb).alloc (.cells #[.slice a1 k c1,.slice a2 k c2] 85)));have HB12:=Hh (show ∀q,(Value.slice a1 k c1).ownBlock=some q∨(Value.slice a2 k c2).ownBlock=some q→w7.heap.size≤q/\q<(wb.alloc (.cells #[.slice a1 k c1,.slice a2 k c2] 85)).heap.size from fun q hq=>by
     have z1:=ga.size;have z2:=gb.size;have z3:=fb1.size;rw[World.size_alloc];rcases hq with hq|hq
     ·have:=b1 q hq;omega
     ·have:=b2 q hq;omega)
    have H9:=Hh h9;have F9:=Hh f9;have S9:=Hh s9;have GB:=Hh (show Fr NoM w7 (wb.alloc (.cells #[.slice a1 k c1,.slice a2 k c2] 85))from gb.alloc _);obtain⟨Wc,hWc⟩:∃Wc,Wc=w9.setCell ⟨fb,0,none⟩ (.slice (some ⟨g9,0,none⟩) (k+1) k9):=⟨_,rfl⟩;have hfc:Fr (fun q=>q=fb) w9 Wc:=by rw[hWc];exact Fr.setCell (M:=fun q=>q=fb) (Fr.refl _ w9) _ _ (fun _=>rfl)
    have HRl:=Hh (show Wc.ownsRow (w.heap.size+1) 3 1 (.slice la k lc) k ((List.range k).map encN)from za3 (za3 (za3 HS.out.rowL GB.out (fun _ _ q=>q)) f9 (fun q hq e=>(HS.out.f1 q e).1 hq)) hfc (fun q hq e=>HS.out.f2 q hq e));have HWc:=Hh hWc;have HSc:=Hh (show w.heap.size+1≤Wc.heap.size by have h1:=GB.out.size;have h2:=f9.size;have h3:=hfc.size;have h4:=HSz.out;omega);rw[←hWc];clear hWc hfc n1 n2 b1 b2 h9 f9 s9 ga gb fb1 ca cb cbo zf zc hbx oa ob fa1 c0 G0;go_wp2_with (at_builtin;refine zky rfl _ _ 82 rfl (w.heap.size+1) 3 _ 1 8 Tryz.underlying82 za9 rfl (by decide) (.slice la k lc) k ((List.range k).map encN) rfl (by exact za3 HRl.out ((Fr.refl NoM Wc).alloc _) (fun _ _ q=>q)) Wc.heap.size rfl [.int .i64 (k:Int)] 3 (heap_alloc_new Wc _) rfl (by intro u hu;simp at hu;subst hu;rfl) HBl.out (by decide) (by have:=HSc.out;simp;omega) ?_);intro lv' w10 h10 f10 s10;have HNx:=Hh (HS.out.next GB.out HN1.out HN2.out HB12.out H9.out F9.out S9.out HWc.out ((Fr.refl NoM Wc).alloc (.cells #[.int .i64 (k:Int)] 3)) h10 f10 (by rw[World.size_alloc];exact s10));have HF10:=Hh (show Fr NoM w1 w10 from by
     have k1:=HF.out.trans GB.out (fun _ _ q=>q);have k2:=k1.trans F9.out (fun q hq e=>by have h1:=(HS.out.rowN.lt q e).1;have h2:=HS1.out;omega);have k3:=k2.trans (show Fr (fun q=>q=fb) w9 Wc by rw[HWc.out];exact Fr.setCell (M:=fun q=>q=fb) (Fr.refl _ w9) _ _ (fun _=>rfl)) (fun q hq e=>by have h1:=Hfb.out;have h2:=HS1.out;omega);exact(k3.trans ((Fr.refl NoM Wc).alloc (.cells #[.int .i64 (k:Int)] 3)) (fun _ _ q=>q)).trans f10 (fun q hq e=>by have h1:=(HRl.out.lt q e).1;have h2:=HS1.out;omega))
    clear h10 f10 s10;go_wp2;go_roundw
    case rel =>
     obtain⟨d,hd⟩:=HKl.out;exact⟨k+1,_,lv',_,rfl,by go_num,by omega,HNx.out,HF10.out⟩
    case measure=>obtain⟨d,hd⟩:=HKl.out;simp[intOf];omega
  ·have hkn:k=n+1:=by omega
   subst hkn;obtain⟨r0,r1⟩:=HRs.out w7 hf;have hnl:=hs.nodeL (D:=w.heap.size) (by omega);have fset:Fr (fun q=>q=w.heap.size) w7 (w7.setCell ⟨w.heap.size,0,none⟩ (.slice fa (n+1) fc)):=Fr.setCell (M:=fun q=>q=w.heap.size) (Fr.refl _ w7) _ _ (fun _=>rfl);have HNl:=Hh (show NodeL (fun b=>w.heap.size≤b) encN (w7.setCell ⟨w.heap.size,0,none⟩ (.slice fa (n+1) fc)) (.slice fa (n+1) fc) (ze2 (n+1))from((hs.nodeL (D:=w.heap.size+1) (Nat.le_refl _)).fr fset (fun q hq e=>by have e:q=w.heap.size:=e;have hq:w.heap.size+1≤q:=hq;omega)).mono (fun q hq=>by have hq:w.heap.size+1≤q:=hq;show w.heap.size≤q;omega));have HM:=Hh (show Fr NoM w (w7.setCell ⟨w.heap.size,0,none⟩ (.slice fa (n+1) fc))from(F1.out.trans hf (fun _ _ q=>q)).setCell _ _ (fun h=>by have h:w.heap.size<w.heap.size:=h;omega));have aL:¬(((n+1:Nat):Int)≤(n:Int)):=by omega
   have aL2:¬(((n:Int)+1)≤(n:Int)):=by omega
   clear hs hf hnl fset hlt hk;go_wp2_with fail;refine bodyPost_ret (v:=.agg #[.slice fa (n+1) fc]) (by simp[results,Tryz.results98,go_sem,r0,r1]) rfl ?_
   exact⟨_,rfl,HNl.out,HM.out⟩
end Go.Proofs.YtghekfmfonoocaaGreatDoor
