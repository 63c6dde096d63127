import Derived.RegionTactic
import Derived.Test.YtlapkmhemepcaaaGreatDoorZir
/- Lemmas. -/
set_option linter.all false
set_option maxHeartbeats 4000000
set_option maxRecDepth 4000
namespace Go.Proofs.YtlapkmhemepcaaaGreatDoor
open Go.RowKit
def risP (c a:Int):List Int->Bool
 | []=>true
 | x::b=>decide (c<x) && (decide (x<a) && risP x a b)
theorem zo9 (t:Value)(L:List Int)(n:Nat)(w:World)(h:Ints w t L) : Calls Tryz.prog 106 #[t,.int .i64 (n:Int)] w λy C=>y=.returned (.bool (decide (L.length<=24) && risP (-1) n L))/\C=w:=by obtain⟨A,B,rfl,H,I,h⟩:=h;have v:=Hh h;clear h;by_cases F:24<L.length;{(have a:(decide (L.length<=24) && risP (-1) n L)=false:=by rw[vY (by omega)];rfl);rw[a];clear a;go_enter Tryz.func106,Tryz.ntmps106;go_wp2;go_ret;exact⟨rfl,rfl⟩};{(have a:(decide (L.length<=24) && risP (-1) n L)=risP (-1) n L:=by rw[vX (by omega)];rfl);rw[a];clear a;obtain⟨g,i⟩:=eX (risP (-1) n L);rw[<-i];have x:=Hh i;clear i;go_enter Tryz.func106,Tryz.ntmps106;go_wp2;go_loop [5,13] (λz k=>∃(b:Nat) (f:Int),b<=L.length/\z=.int .i64 f/\k=.int .i64 b/\g=risP f n (L.drop b)) (λ_ k=>L.length-(intOf k).toNat);(case atStart=>exact⟨0,-1,by omega,rfl,rfl,x.out⟩);case round =>(obtain⟨b,f,G,rfl,rfl,a⟩:=hrel;by_cases s:b<L.length;{obtain⟨l,u,m,o⟩:=v.out b L[b] (by simp);(have J:=za8 A L.length B b l u s m;have q:L.drop b=L[b]::L.drop (b+1):=uQ s;rw[q]at a;simp only[risP]at a;obtain⟨d,j⟩:=eX (L[b]);replace o:w.cell? ⟨l,u+b,none⟩=some (.int .i64 d):=by rw[j];exact o);rw[<-j]at a;clear q m j;by_cases D:d<=f;{(have c:g=false:=by rw[a,vY (by omega)];rfl);have e:=Hh c;clear c a;go_wp2;go_ret;exact⟨by rw[e.out];rfl,rfl⟩};{by_cases E:(n:Int)<=d;{(have c:g=false:=by rw[a,vY (p:=d<(n:Int)) (by omega)];simp);have e:=Hh c;clear c a;go_wp2;go_ret;exact⟨by rw[e.out];rfl,rfl⟩};{(have c:g=risP d n (L.drop (b+1)):=by rw[a,vX (p:=f<d) (by omega),vX (p:=d<(n:Int)) (by omega)];simp);have e:=Hh c;clear c a;go_wp2;go_round;(case rel=>exact⟨b+1,d,by omega,rfl,by go_num,e.out⟩);case measure=>simp[intOf];omega}}};{(have r:b=L.length:=by omega);(have c:g=true:=by rw[a,r,List.drop_length];rfl);have e:=Hh c;clear c a r;go_wp2;go_ret;exact⟨by rw[e.out];rfl,rfl⟩})}
theorem yhp (n:Nat)(L:List Int):∀b:Int,-1<=b->risP b n L=zau 0 ((n:Int)-1) (if b=-1 then none else some b) L:=by induction L with| nil=>{intro b _;split <;> rfl}| cons c j h =>{intro b i;by_cases d:b<c;{(have g:¬c=-1:=by omega);have f:=h c (by omega);rw[if_neg g]at f;simp only[risP,f];by_cases e:c<(n:Int);{(have a:betw c 0 ((n:Int)-1)=true:=by unfold betw;rw[kJ];omega);split;{simp[zau,d,e,a]};{simp[zau,d,e,a]}};{(have a:betw c 0 ((n:Int)-1)=false:=by unfold betw;rw[decide_eq_false_iff_not];omega);split;{simp[zau,e,a]};{simp[zau,e,a]}}};{simp only[risP,vY d,Bool.false_and];split;{(have a:betw c 0 ((n:Int)-1)=false:=by unfold betw;rw[decide_eq_false_iff_not];omega);simp[zau,a]};{simp[zau,d]}}}
theorem zgz (a:Value)(L:List Int)(n:Nat)(w:World)(d:Ints w a L) : Calls Tryz.prog 106 #[a,.int .i64 (n:Int)] w λc e=>c=.returned (.bool (decide (L.length<=24) && zau 0 ((n:Int)-1) none L))/\e=w:=by have b:=zo9 a L n w d;rw[yhp n L (-1) (by omega),if_pos rfl]at b;exact b
theorem yga {b:Type}(X:List b)(m:Nat)(v a:b):(X++List.replicate (m+1) a).set X.length v=(X ++ [v])++List.replicate m a:=by rw[List.set_append_right _ _ (xW _),Nat.sub_self,List.replicate_succ,List.set_cons_zero];simp
theorem zns (y k:Value)(L A:List Nat)(w:World)(g:Nats w y L)(f:Nats w k A)(t:∀T∈L,T<A.length)(Q:L.length<1000000000) : Calls Tryz.prog 157 #[y,k] w λO C=>O=.returned (.slice (some ⟨w.heap.size,0,none⟩) L.length L.length)/\RowIs 3 encN C w.heap.size (za3 A L)/\Fr NoM w C:=by obtain⟨R,S,rfl,X,Y,g⟩:=g;obtain⟨M,N,rfl,U,V,f⟩:=f;have H:=Hh g;have E:=Hh f;have I:=Hh t;clear g f t;have mk:=λd=>zrk L.length d Q;go_enter Tryz.func157,Tryz.ntmps157;go_wp2;go_loopw [13] (λj d=>∃a:Nat,j=.int .i64 a/\a<=L.length/\RowIs 3 encN d w.heap.size (za3 A (L.take a)++List.replicate (L.length-a) 0)/\Fr NoM w d) (λj _=>L.length-(intOf j).toNat);(case atStart=>exact⟨0,rfl,yV _,RowIs.made 3 encN w 0 L.length,(nW w).alloc _⟩);case round =>(obtain⟨a,rfl,W,b,c⟩:=hrel;obtain⟨D,rfl⟩:=eX wr;by_cases h:a<L.length;{obtain⟨l,z,o,q⟩:=H.out a L[a] (by simp);have x:=I.out L[a] (y7 _);obtain⟨m,B,p,r⟩:=E.out L[a] A[L[a]] (by simp);have Z:=za8 R L.length S a l z h o;have a0:=za8 M A.length N L[a] m B x p;have a1:=zdu w.heap.size L.length L.length a h;replace q:D.cell? ⟨l,z+a,none⟩=some (.int .i64 (L[a]:Int)):=c.cell q id;replace r:D.cell? ⟨m,B+L[a],none⟩=some (.int .i64 (A[L[a]]:Int)):=c.cell r id;(have k3:=b.cell a (by simp[za3];omega);have n:(za3 A (L.take a)).length=a:=by simp[za3];omega);(have u:L.length-a=(L.length-(a+1))+1:=by omega);have z3:=b.frozen a;have i:=b.set a A[L[a]];have v:(za3 A (L.take a)++List.replicate (L.length-a) 0).set a A[L[a]]=za3 A (L.take (a+1))++List.replicate (L.length-(a+1)) 0:=by{have e:=yga (za3 A (L.take a)) (L.length-(a+1)) A[L[a]] 0;rw[n,<-u]at e;rw[e,zpu A L a h x]};rw[v]at i;have s:=c.setCell ⟨w.heap.size,a,none⟩ (encN A[L[a]]) (λe=>absurd e (Nat.lt_irrefl _));have J:=Hh i;have F:=Hh s;clear v i s b c o p u n;go_wp2;go_roundw;(case rel=>exact⟨a+1,by go_num,by omega,J.out,F.out⟩);case measure=>simp[intOf];omega};{(have P:a=L.length:=by omega);subst P;rw[y5,Nat.sub_self,List.replicate_zero,List.append_nil]at b;have K:=Hh b;have G:=Hh c;clear b c;go_wp2;go_ret;exact⟨rfl,K.out,G.out⟩})
theorem zvi (Fs:List PL)(i:Nat)(a:i<Fs.length):zbd (Fs.take (i+1))=zbd (Fs.take i) ++ [zai (zbd (Fs.take i)) (zai (zbd (Fs.take i)) 0 Fs[i].1) Fs[i].2]:=by rw[yX a,zfe]
theorem ydk (Fs:List PL):OptsOK Fs->∀(a b:Nat),(zbd Fs)[a]?=some b->b<=a:=by induction Fs using ze8 with| h0=>{intro _ a b h;simp[zbd]at h}| h1 f g e =>{intro c a b d;have i:=zdr f;rw[zfe]at d;rcases zi2 d with ⟨l,d⟩|⟨rfl,rfl⟩;{exact e c.cut a b d};{obtain⟨j,k⟩:=c f.length g (by simp);rw[i];exact znb _ (e c.cut) _ _ _ (znb _ (e c.cut) _ _ _ (yV _) j) k}}
theorem OptsOK.take {Fs:List PL}(b:OptsOK Fs)(i:Nat):OptsOK (Fs.take i):=λc d a=>b c d (by
 rw[List.getElem?_take]at a;split at a
 ·exact a
 ·cases a)
theorem ztv (B L:List Nat)(a n j i x b:Nat)(e:B.length=i)(g:L[j]?=some x)(d:B[x]?=some b) : (B++zai B a (L.take j)::List.replicate n 0).set i (max (zai B a (L.take j)) (b+1))=B++zai B a (L.take (j+1))::List.replicate n 0:=by subst e;obtain⟨f,rfl⟩:=xV.1 g;obtain⟨c,rfl⟩:=xV.1 d;have h:=ze3 B a L j f c;rw[List.set_append_right _ _ (xW _),Nat.sub_self,List.set_cons_zero];congr 2;omega
theorem ycu (m a:Nat):(if (m:Int)<(a:Int)+1 then (a:Int)+1 else (m:Int))=((max m (a+1):Nat):Int):=by split <;> omega
theorem RowIs.at {a:Type}{e:TypeId}{enc:a->Value}{w:World}{g:Nat}{L:List a}(b:RowIs e enc w g L){i:Nat}{x:a}(d:L[i]?=some x):w.cell? ⟨g,i,none⟩=some (enc x):=by obtain⟨c,rfl⟩:=xV.1 d;exact b.cell i c
theorem yab {R:Nat->Prop}(nv:Value)(Fs:List PL)(w:World)(aq:NodeL R encN w nv Fs)(ho:OptsOK Fs)(hn:Fs.length<1000000000) : Calls Tryz.prog 107 #[nv] w λQ w'=>Q=.returned (.slice (some ⟨w.heap.size,0,none⟩) Fs.length Fs.length)/\RowIs 3 encN w' w.heap.size (zbd Fs)/\Fr NoM w w':=by obtain⟨na,nc,rfl,aA,aB,hN⟩:=aq;have mk:=λk=>zrk Fs.length k hn;have HN:=Hh hN;have HO:=Hh ho;clear hN ho;go_enter Tryz.func107,Tryz.ntmps107;go_wp2;clear mk;go_loopw [15] (λj k=>∃a:Nat,j=.int .i64 a/\a<=Fs.length/\RowIs 3 encN k w.heap.size (zbd (Fs.take a)++List.replicate (Fs.length-a) 0)/\Fr NoM w k) (λj _=>Fs.length-(intOf j).toNat);(case atStart=>exact⟨0,rfl,yV _,RowIs.made 3 encN w 0 Fs.length,(nW w).alloc _⟩);case round =>(obtain⟨a,rfl,hi,d,g⟩:=hrel;obtain⟨q,rfl⟩:=eX wr;by_cases E:a<Fs.length;{obtain⟨b1,o1,lv,rv,a4,_,c1,c2,J,K,_,_⟩:=HN.out a Fs[a] (xQ _);(obtain⟨p1,p2⟩:=HO.out a Fs[a] (xQ _);have V:=ydk (Fs.take a) (HO.out.take a);have aC:=zbi na Fs.length nc a b1 o1 E a4;obtain⟨c,hy⟩:=eX (Fs[a]);obtain⟨h,S⟩:=eX (zbd (Fs.take a));have l:h.length=a:=by rw[S,zdr];simp;omega);(have F:=zvi Fs a E;rw[<-S]at d F V;rw[<-hy]at J K p1 p2 F;obtain⟨Z,lc,rfl,a7⟩:=zfu J;obtain⟨H,I,rfl,a9⟩:=zfu K;have d1:=g.cell c1 id;have d2:=g.cell c2 id;have ab:w.heap.size<q.heap.size:=(yJ.1 d).1;obtain⟨u,X⟩:∃u,Fs.length-a=u+1:=⟨Fs.length-a-1,by omega⟩;have ay:c.1.length<=9223372036854775807:=by obtain⟨ao,ap,_,h1,h2,_⟩:=J;omega);(have az:c.2.length<=9223372036854775807:=by obtain⟨ao,ap,_,h1,h2,_⟩:=K;omega);have a3:∀e∈h,e<1000000000:=λe A=>by{obtain⟨b,T,rfl⟩:=uZ A;have:=V b _ (xQ T);omega};(rw[X,List.replicate_succ]at d;have P:=Hh d;have M:=Hh g;have ae:=Hh a7;have ak:=Hh a9;have ai:=Hh p1;have aj:=Hh p2;have a1:=Hh l;have ah:=Hh F;have ag:=Hh X;have an:=Hh ab;have a0:=Hh a3;clear d g a7 a9 p1 p2 l F X ab a3 V a4 c1 c2 J K hy S;go_wp2;obtain⟨w8,G⟩:=eX (q.alloc (.cells #[.slice Z c.1.length lc,.slice H c.2.length I] 102));have a6:Fr NoM q w8:=by rw[G];exact(nW q).alloc _);(have a5:w8.heap[q.heap.size]?=some (.cells #[.slice Z c.1.length lc,.slice H c.2.length I] 102 (0,0)):=by rw[G];exact xJ q _);rw[<-G];have a2:=Hh a6;have ac:=Hh a5;clear a6 a5 G d1 d2;go_loopw [23] (λj k=>∃b:Nat,j=.int .i64 b/\b<=c.1.length/\RowIs 3 encN k w.heap.size (h++zai h 0 (c.1.take b)::List.replicate u 0)/\Fr (λi=>i=w.heap.size) w8 k) (λj _=>c.1.length-(intOf j).toNat);(case atStart=>exact⟨0,rfl,yV _,P.out.fr a2.out id,Fr.refl _ _⟩);case round =>(obtain⟨b,rfl,T,d,g⟩:=hrel;obtain⟨v,rfl⟩:=eX wr;have D:Fr (λi=>i=w.heap.size) w v:=((M.out.trans a2.out kP).any).trans g kP;by_cases y:b<c.1.length;{obtain⟨e,p⟩:∃e,c.1[b]?=some e:=⟨_,xQ y⟩;have A:=ai.out e (xK p);have l:=a1.out;obtain⟨f,n⟩:∃f,h[e]?=some f:=⟨_,xQ (by omega)⟩;obtain⟨m,C,x,r⟩:=ae.out b e p;have s:=World.block_lt_of_cell? w _ r;replace r:v.cell? ⟨m,C+b,none⟩=some (.int .i64 (e:Int)):=D.cell r (λi=>by have i:m=w.heap.size:=i;have s:m<w.heap.size:=s;omega);have av:=za8 Z c.1.length lc b m C y x;have aw:=zdu w.heap.size Fs.length Fs.length a E;have ax:=zdu w.heap.size Fs.length Fs.length e (by omega);have Y:v.cell? ⟨w.heap.size,a,none⟩=some (.int .i64 ((zai h 0 (c.1.take b):Nat):Int)):=d.at (by rw[kZ (by omega),l,Nat.sub_self];rfl);have k2:v.cell? ⟨w.heap.size,e,none⟩=some (.int .i64 (f:Int)):=d.at (by rw[yW (by omega)];exact n);have z1:=d.frozen a;have au:f<1000000000:=a0.out _ (xK n);have o:=d.set a (max (zai h 0 (c.1.take b)) (f+1));rw[ztv h c.1 0 u b a e f l p n]at o;obtain⟨t,z⟩:=eX (zai h 0 (c.1.take b));rw[<-z]at Y o;have O:=Hh o;have N:=Hh g;clear o d g D x s A l n p z;go_wp2_with fail;go_region;all_goals(go_wp2;go_roundw;(case rel =>(refine⟨b+1,by go_num,by omega,?_,?_⟩;{(first|rw[ycu t f]|rw[show max (t:Int) ((f:Int)+1)=((max t (f+1):Nat):Int)from by omega]);exact O.out.fr ((nW _).drew) id};{exact(N.out.setCell _ _ (λ_=>rfl)).drew}));case measure=>simp[intOf];omega)};{(have U:b=c.1.length:=by omega);(subst U;rw[y5]at d;have a8:¬q.heap.size=w.heap.size:=by have:=an.out;omega);(have d9:v.cell? ⟨q.heap.size,1,none⟩=some (.slice H c.2.length I):=by rw[xX v _ 1 _ _ _ (g.heap ac.out a8)];rfl);obtain⟨B,W⟩:=eX (zai h 0 c.1);rw[<-W]at d;have am:=Hh d;have F9:=Hh D;have af:=Hh W;clear d g D a8 W;go_wp2;clear d9;go_loopw [44] (λj k=>∃b:Nat,j=.int .i64 b/\b<=c.2.length/\RowIs 3 encN k w.heap.size (h++zai h B (c.2.take b)::List.replicate u 0)/\Fr (λi=>i=w.heap.size) w k) (λj _=>c.2.length-(intOf j).toNat);(case atStart=>exact⟨0,rfl,yV _,am.out,F9.out⟩);case round =>(obtain⟨b,rfl,T,d,g⟩:=hrel;obtain⟨L,rfl⟩:=eX wr;by_cases y:b<c.2.length;{obtain⟨e,p⟩:∃e,c.2[b]?=some e:=⟨_,xQ y⟩;have A:=aj.out e (xK p);have l:=a1.out;obtain⟨f,n⟩:∃f,h[e]?=some f:=⟨_,xQ (by omega)⟩;obtain⟨m,C,x,r⟩:=ak.out b e p;have s:=World.block_lt_of_cell? w _ r;replace r:L.cell? ⟨m,C+b,none⟩=some (.int .i64 (e:Int)):=g.cell r (λi=>by have i:m=w.heap.size:=i;have s:m<w.heap.size:=s;omega);have av:=za8 H c.2.length I b m C y x;have aw:=zdu w.heap.size Fs.length Fs.length a E;have ax:=zdu w.heap.size Fs.length Fs.length e (by omega);have Y:L.cell? ⟨w.heap.size,a,none⟩=some (.int .i64 ((zai h B (c.2.take b):Nat):Int)):=d.at (by rw[kZ (by omega),l,Nat.sub_self];rfl);have k2:L.cell? ⟨w.heap.size,e,none⟩=some (.int .i64 (f:Int)):=d.at (by rw[yW (by omega)];exact n);have z1:=d.frozen a;have au:f<1000000000:=a0.out _ (xK n);have o:=d.set a (max (zai h B (c.2.take b)) (f+1));rw[ztv h c.2 B u b a e f l p n]at o;obtain⟨t,z⟩:=eX (zai h B (c.2.take b));rw[<-z]at Y o;have O:=Hh o;have N:=Hh g;clear o d g x s A l n p z;go_wp2_with fail;go_region;all_goals(go_wp2;go_roundw;(case rel =>(refine⟨b+1,by go_num,by omega,?_,?_⟩;{(first|rw[ycu t f]|rw[show max (t:Int) ((f:Int)+1)=((max t (f+1):Nat):Int)from by omega]);exact O.out.fr ((nW _).drew) id};{exact(N.out.setCell _ _ (λ_=>rfl)).drew}));case measure=>simp[intOf];omega)};{(have U:b=c.2.length:=by omega);subst U;rw[y5,af.out]at d;have aa:RowIs 3 encN L w.heap.size (zbd (Fs.take (a+1))++List.replicate (Fs.length-(a+1)) 0):=by{rw[ah.out,List.append_assoc,show Fs.length-(a+1)=u from by have:=ag.out;omega];exact d};have al:=Hh aa;have ad:=Hh g;clear d aa g;go_wp2;go_roundw;(case rel=>exact⟨a+1,by go_num,by omega,al.out,ad.out.mono (λi hq Q=>absurd Q (by omega))⟩);case measure=>simp[intOf];omega})})};{(have ar:a=Fs.length:=by omega);subst ar;rw[y5,Nat.sub_self,List.replicate_zero,List.append_nil]at d;have P:=Hh d;have M:=Hh g;clear d g;go_wp2;go_ret;exact⟨rfl,P.out,M.out⟩})
def zpx (Fs:List PL)(n a:Nat):List Bool:=zc2 Fs (a+1) ((List.replicate n false).set a true)
theorem yec {R:Nat->Prop}(nv:Value)(h:Nat)(NL:List PL)(w:World)(hN:NodeL R encN w nv NL)(hr:h<NL.length)(Z:OptsOK NL)(hn:NL.length<1000000000) : Calls Tryz.prog 111 #[nv,.int .i64 (h:Int)] w λaf w'=>af=.returned (.slice (some ⟨w.heap.size,0,none⟩) NL.length NL.length)/\RowIs 4 encB w' w.heap.size (zpx NL NL.length h)/\Fr NoM w w':=by obtain⟨na,nc,rfl,aq,ar,Y⟩:=hN;have j:∀i:World,(Instr.makeSlice 103 (.int .i64 (NL.length:Int)) (.int .i64 (NL.length:Int))).run Tryz.prog i=.ok (.slice (some ⟨i.heap.size,0,none⟩) NL.length NL.length) (i.alloc (.cells (zd1 encB false NL.length) 4)):=by{intro i;obtain⟨i0,hi,ah,ai,aj⟩:=info_parts zc3;have p:=run_make (P:=Tryz.prog) i 103 4 i0 (.bool false) Tryz.underlying103 hi ah .i64 .i64 (NL.length:Int) (NL.length:Int) (by omega) (by omega) (by rw[aj];omega) (by omega);rw[p,ai,show((NL.length:Int)).toNat=NL.length from by omega,Nat.mul_one];have:madeCells (Value.cells (.bool false)) NL.length=(zd1 encB false NL.length):=by{apply Array.ext';unfold zd1;rw[List.toList_toArray,madeCells,Array.toList_map,Array.toList_range];refine(List.eq_replicate_iff.2 ⟨by simp,λam hb=>?_⟩:_=List.replicate NL.length (Value.bool false)).trans (by simp[encB]);obtain⟨aw,_,rfl⟩:=y6.1 hb;simp[Value.cells,Nat.mod_one]};rw[this]};have au:=λi=>zma w.heap.size NL.length NL.length h hr i;have a7:=Hh Y;have ac:=Hh Z;have B:=RowIs.made 4 encB w false NL.length;have z0:=B.frozen h;have k0:=B.cell h (by simpa using hr);have R0:=Hh B;clear Y Z B;go_enter Tryz.func111,Tryz.ntmps111;go_wp2;go_loopw [6] (λg wr=>∃(u:Nat) (d:List Bool),g=.int .i64 ((u:Int)-1)/\u<=h+1/\d.length=NL.length/\RowIs 4 encB wr w.heap.size d/\zc2 NL u d=zpx NL NL.length h/\Fr NoM w wr) (λg _=>(intOf g+1).toNat);(case atStart=>exact⟨h+1,(List.replicate NL.length false).set h true,by go_num,xW _,by simp,RowIs.made1 4 encB w false true NL.length h,rfl,(nW w).alloc _⟩);case round =>(obtain⟨u,d,rfl,ap,W,c,f,e⟩:=hrel;cases u with| zero =>{have n:=Hh c;have m:=Hh f;have l:=Hh e;clear c f e;go_wp2;go_ret;refine⟨by simp,?_,l.out⟩;rw[<-m.out];exact n.out}| succ a =>{(rw[show(((a+1:Nat):Int)-1)=(a:Int)from by omega];have U:a<d.length:=by omega);(have T:a<NL.length:=by omega);have K:=λ(b:Nat) (I:b<NL.length) i=>zma w.heap.size NL.length NL.length b I i;have av:=K a (by omega);have y:=c.cell a U;have a1:zcq NL d a=if d[a]=true then zbv (zbv d NL[a].1) NL[a].2 else d:=by{simp only[zcq,xY,xQ U,xQ T,Option.getD_some]};unfold zc2 at f;rw[a1]at f;have O:=Hh K;have n:=Hh c;have m:=Hh f;have l:=Hh e;have x:=Hh W;clear K c f e W a1;by_cases j:d[a]=true;{have f:=m.out;(rw[if_pos j]at f;rw[j]at y;unfold encB at y;have F:=Hh f;clear m f j;obtain⟨b1,o1,lv,rv,S,_,z,A,L,M,_,_⟩:=a7.out a NL[a] (xQ _);obtain⟨x1,x2⟩:=ac.out a NL[a] (xQ _);have ix:=zbi na NL.length nc a b1 o1 T S;have an:NL[a].1.length<=9223372036854775807:=by obtain⟨ad,ae,_,h1,h2,_⟩:=L;omega);(have ao:NL[a].2.length<=9223372036854775807:=by obtain⟨ad,ae,_,h1,h2,_⟩:=M;omega);obtain⟨la,lc,rfl,V⟩:=zfu L;obtain⟨ra,rc,rfl,a0⟩:=zfu M;have a2:=Hh z;have a3:=Hh A;have a5:=Hh V;have a8:=Hh a0;have aa:=Hh x1;have ab:=Hh x2;clear z A V a0 x1 x2 L M S;have z:=l.out.cell a2.out id;go_wp2;clear z;go_loopw [33] (λg v=>∃b:Nat,g=.int .i64 b/\b<=NL[a].1.length/\RowIs 4 encB v w.heap.size (zbv d (NL[a].1.take b))/\Fr NoM w v) (λg _=>NL[a].1.length-(intOf g).toNat);(case atStart=>exact⟨0,rfl,yV _,n.out,l.out⟩);case round =>(obtain⟨b,rfl,I,c,e⟩:=hrel;by_cases s:b<NL[a].1.length;{have hx:=aa.out NL[a].1[b] (y7 _);(obtain⟨G,N,q,o⟩:=a5.out b NL[a].1[b] (by simp);have H:=e.cell o id;unfold encN at H;have ak:=za8 la NL[a].1.length lc b G N s q;have al:=O.out NL[a].1[b] (by omega);have ag:(zbv d (NL[a].1.take b)).length=NL.length:=by rw[zb6];exact x.out);(have k1:=c.cell NL[a].1[b] (by omega);have z1:=c.frozen NL[a].1[b];have t:(zbv d (NL[a].1.take b)).set NL[a].1[b] true=zbv d (NL[a].1.take (b+1)):=by rw[yX s,zhy]);have k:=c.set NL[a].1[b] true;rw[t]at k;have r:=e.setCell ⟨w.heap.size,NL[a].1[b],none⟩ (encB true) (λp=>absurd p (Nat.lt_irrefl _));have E:=Hh k;have C:=Hh r;clear t k r c e o q;go_wp2;go_roundw;(case rel=>exact⟨b+1,by go_num,by omega,E.out,C.out⟩);case measure=>simp[intOf];omega};{(have J:b=NL[a].1.length:=by omega);subst J;rw[y5]at c;have Q:=Hh c;have D:=Hh e;clear c e n l;have A:=D.out.cell a3.out id;go_wp2;clear A;go_loopw [47] (λg v=>∃b:Nat,g=.int .i64 b/\b<=NL[a].2.length/\RowIs 4 encB v w.heap.size (zbv (zbv d NL[a].1) (NL[a].2.take b))/\Fr NoM w v) (λg _=>NL[a].2.length-(intOf g).toNat);(case atStart=>exact⟨0,rfl,yV _,Q.out,D.out⟩);case round =>(clear Q D;obtain⟨b,rfl,I,c,e⟩:=hrel;by_cases s:b<NL[a].2.length;{have hx:=ab.out NL[a].2[b] (y7 _);(obtain⟨G,N,q,o⟩:=a8.out b NL[a].2[b] (by simp);have H:=e.cell o id;unfold encN at H;have ak:=za8 ra NL[a].2.length rc b G N s q;have al:=O.out NL[a].2[b] (by omega);have ag:(zbv (zbv d NL[a].1) (NL[a].2.take b)).length=NL.length:=by rw[zb6,zb6];exact x.out);(have k1:=c.cell NL[a].2[b] (by omega);have z1:=c.frozen NL[a].2[b];have t:(zbv (zbv d NL[a].1) (NL[a].2.take b)).set NL[a].2[b] true=zbv (zbv d NL[a].1) (NL[a].2.take (b+1)):=by rw[yX s,zhy]);have k:=c.set NL[a].2[b] true;rw[t]at k;have r:=e.setCell ⟨w.heap.size,NL[a].2[b],none⟩ (encB true) (λp=>absurd p (Nat.lt_irrefl _));have E:=Hh k;have C:=Hh r;clear t k r c e o q;go_wp2;go_roundw;(case rel=>exact⟨b+1,by go_num,by omega,E.out,C.out⟩);case measure=>simp[intOf];omega};{(have J:b=NL[a].2.length:=by omega);subst J;rw[y5]at c;have a9:=Hh c;have a4:=Hh e;have a6:=Hh (show(zbv (zbv d NL[a].1) NL[a].2).length=NL.length by rw[zb6,zb6];exact x.out);clear c e;go_wp2;go_roundw;(case rel=>exact⟨a,_,by go_num,by omega,a6.out,a9.out,F.out,a4.out⟩);case measure=>simp[intOf]})})};{have f:=m.out;(rw[if_neg j]at f;have X:d[a]=false:=by simpa using j);rw[X]at y;unfold encB at y;have F:=Hh f;clear m f j X;go_wp2;go_roundw;(case rel=>exact⟨a,d,by go_num,by omega,x.out,n.out,F.out,l.out⟩);case measure=>simp[intOf]}})
structure OrdR (w:World) (ob bb kb:Nat) (NL:List PL) (K:List Nat):Prop where
 o0:w.cell? ⟨ob,0,none⟩=some (.pointer (some ⟨bb,0,none⟩))
 o1:w.cell? ⟨ob,1,none⟩=some (.slice (some ⟨kb,0,none⟩) (NL.length*NL.length) (NL.length*NL.length))
 nv:∃v,w.cell? ⟨bb,0,none⟩=some v/\NodeL (·≠kb) encN w v NL
 n1:ob≠kb
 n2:bb≠kb
 row:RowIs 3 encN w kb K
 len:K.length=NL.length*NL.length
theorem OrdR.fr {w e:World}{g f c:Nat}{NL:List PL}{K d:List Nat}(a:OrdR w g f c NL K)(b:Fr (λm=>m=c) w e)(k:RowIs 3 encN e c d)(i:d.length=NL.length*NL.length):OrdR e g f c NL d:=by obtain⟨n,l,j⟩:=a.nv;exact⟨b.cell a.o0 a.n1,b.cell a.o1 a.n1,⟨n,b.cell l a.n2,j.fr b (λo h=>h)⟩,a.n1,a.n2,k,i⟩
theorem OrdR.fr0 {w f:World}{e b d:Nat}{NL:List PL}{K:List Nat}(a:OrdR w e b d NL K)(c:Fr NoM w f):OrdR f e b d NL K:=a.fr c.any (a.row.fr c id) a.len
def KOK (C:List Nat)(N n:Nat)(K:List Nat):Prop :=
 ∀a b,a<N->b<N->a+b<n->K.getD (a*N+b) 0=0\/(K.getD (a*N+b) 0=1/\geV C a b=true)\/(K.getD (a*N+b) 0=2/\geV C a b=false)
def KSame (N n:Nat)(K c:List Nat):Prop:=∀a b,a<N->b<N->n<=a+b->c.getD (a*N+b) 0=K.getD (a*N+b) 0
theorem zny {N i j x y:Nat}(e:j<N)(g:y<N)(a:i*N+j=x*N+y):i=x/\j=y:=by
 have b:(i*N+j)%N=j:=by rw[Nat.mul_comm,Nat.mul_add_mod,Nat.mod_eq_of_lt e]
 have c:(x*N+y)%N=y:=by rw[Nat.mul_comm,Nat.mul_add_mod,Nat.mod_eq_of_lt g]
 have f:j=y:=by rw[<-b,<-c,a]
 subst f;have d:i*N=x*N:=by omega
 exact⟨Nat.eq_of_mul_eq_mul_right (by omega) d,rfl⟩
theorem yht {N x y:Nat}(a:x<N)(b:y<N):x*N+y<N*N:=by have:x*N+N<=N*N:=by{have:=Nat.mul_le_mul_right N (show x+1<=N from a);rwa [Nat.succ_mul]at this};omega
theorem KOK.mono {C K:List Nat}{N n m:Nat}(a:KOK C N n K)(g:m<=n):KOK C N m K:=λd e b c f=>a d e b c (by omega)
theorem KOK.step {C K c:List Nat}{N n m:Nat}(f:KOK C N n K)(g:KOK C N m c)(j:KSame N m K c):KOK C N n c:=λa b d e h=>by by_cases i:a+b<m;{exact g a b d e i};{rw[j a b d e (by omega)];exact f a b d e h}
theorem KSame.trans {N n m:Nat}{K a b:List Nat}(g:KSame N n K a)(h:KSame N m a b)(j:m<=n):KSame N n K b:=λe f c d i=>(h e f c d (by omega)).trans (g e f c d i)
theorem zi3 (K:List Nat)(a b v:Nat):(K.set a v).getD b 0=if a=b/\a<K.length then v else K.getD b 0:=by rw[xY,xY,List.getElem?_set];by_cases c:a=b;{subst c;by_cases d:a<K.length;{simp[d]};{simp[d]}};{simp[c]}
def ykm (C:List Nat)(NL:List PL)(d f c x y:Nat):Prop:=∀(a:List Nat) (e:World),OrdR e d f c NL a->KOK C NL.length (x+y+1) a ->
  Calls Tryz.prog 190 #[.pointer (some ⟨d,0,none⟩),.int .i64 (x:Int),.int .i64 (y:Int)] e λh g=>h=.returned (.bool (geV C x y))/\∃b,OrdR g d f c NL b/\KOK C NL.length (x+y+1) b/\KSame NL.length (x+y+1) a b/\Fr (λi=>i=c) e g
theorem yfp {C:List Nat}{NL:List PL}(B:BookC NL C)(q l j x y:Nat)(hx:x<NL.length)(hy:y<NL.length)(hN:NL.length<1000)
  (ih:∀P a8,P+a8<x+y->P<NL.length->a8<NL.length->ykm C NL q l j P a8) (K:List Nat) (w:World) (E:OrdR w q l j NL K) (hK:KOK C NL.length (x+y) K) :
  Calls Tryz.prog 202 #[.pointer (some ⟨q,0,none⟩),.int .i64 (x:Int),.int .i64 (y:Int)] w λa9 w'=>a9=.returned (.bool (geV C x y))/\∃f,OrdR w' q l j NL f/\KOK C NL.length (x+y) f/\KSame NL.length (x+y) K f/\Fr (λr=>r=j) w w':=by
 obtain⟨a5,ac⟩:=eX (geV C x y);rw[<-ac];have a2:=yd1 B hx hy;rw[<-ac]at a2;obtain⟨aB,hv,c⟩:=E.nv;obtain⟨na,nc,rfl,ax,ay,c⟩:=c;obtain⟨b1,o1,l1,r1,aj,ah,c1,c2,s1,s2,q1,q2⟩:=c x _ (za6 hx);obtain⟨b2,o2,l2,r2,ak,ai,d1,d2,t1,t2,p1,p2⟩:=c y _ (za6 hy);obtain⟨u1,u2⟩:=B.opts x _ (za6 hx);obtain⟨v1,v2⟩:=B.opts y _ (za6 hy);have az:=zbi na NL.length nc x b1 o1 hx aj;have aA:=zbi na NL.length nc y b2 o2 hy ak;obtain⟨g,hR⟩:=eX ((za4 NL x).2);obtain⟨h,hL⟩:=eX ((za4 NL y).1);rw[<-hR]at s2 q2 u2 a2;rw[<-hL]at t1 p1 v1 a2;have o0:=E.o0;have au:=E.n1;have am:=E.n2;have af:=Hh (λd (D:Fr (λr=>r=j) w d)=>show d.cell? ⟨q,0,none⟩=some (.pointer (some ⟨l,0,none⟩))/\d.cell? ⟨l,0,none⟩=some (.slice na NL.length nc)/\d.cell? ⟨b1,o1+x*2+1,none⟩=some r1/\d.cell? ⟨b2,o2+y*2,none⟩=some l2/\Nats d r1 g/\Nats d l2 h from
  ⟨D.cell o0 au,D.cell hv am,D.cell c2 ah,D.cell d1 ai,s2.fr D q2,t1.fr D p1⟩)
 obtain⟨ra,rc,rfl,ad⟩:=id s2;clear ad;obtain⟨la,lc,rfl,ad⟩:=id t1;clear ad;have a6:=Hh a2;have HO:=Hh E;have HK:=Hh hK;have ae:=Hh ih;have HU:=Hh u2;have HV:=Hh v1;have aw:g.length<=9223372036854775807:=by obtain⟨P,an,_,h1,h2,_⟩:=s2;omega
 have av:h.length<=9223372036854775807:=by obtain⟨P,an,_,h1,h2,_⟩:=t1;omega
 clear a2 E hK ih u1 u2 v1 v2 ac hv c aj ak ah ai c1 c2 d1 d2 s1 s2 t1 t2 q1 q2 p1 p2 hR hL o0;go_enter Tryz.func202,Tryz.ntmps202;go_wp2_with fail;go_loopw [7] (λs d=>∃(a:Nat) (f:List Nat),s=.int .i64 a/\a<=g.length/\(∀b∈g.take a,geV C y b=false)/\OrdR d q l j NL f/\KOK C NL.length (x+y) f/\KSame NL.length (x+y) K f/\Fr (λr=>r=j) w d) (λs _=>g.length-(intOf s).toNat)
 case atStart=>exact⟨0,K,rfl,yV _,by simp,HO.out,HK.out,λ_ _ _ _ _=>rfl,Fr.refl _ _⟩
 case round =>
  obtain⟨a,N,rfl,hk,Z,V,T,X,o⟩:=hrel;obtain⟨t,rfl⟩:=eX wr;obtain⟨e0,e1,e2,e3,S,e5⟩:=af.out t o;have u:=Hh Z;have z:=Hh V;have k:=Hh T;have A:=Hh X;have v:=Hh o;clear Z V T X o;by_cases a4:a<g.length
  ·obtain⟨b,i⟩:∃b,g[a]?=some b:=⟨_,xQ a4⟩
   have ap:=HU.out b (xK i);obtain⟨a',c',m,_,_,a0⟩:=S;cases m
   obtain⟨Q,o3,Y,R⟩:=a0 a b i;have ao:t.cell? ⟨Q,o3+a,none⟩=some (.int .i64 (b:Int)):=R;have aq:=za8 ra g.length rc a Q o3 a4 Y;have a3:=ae.out y b (by omega) hy (by omega) N t z.out (k.out.mono (by omega));have a7:=Hh a3;have L:=Hh i;clear a3 i a0 Y R e5 e3;go_wp2_with fail;refine a7.out.mono ?_
   rintro a9 w8 ⟨rfl,O,W,U,n,a1⟩;have J:=Hh W;have H:=Hh (k.out.step U n);have M:=Hh (A.out.trans n (by omega));have F:=Hh (v.out.trans a1 kP);clear W U n a1;obtain⟨gb,p⟩:=eX (geV C y b);rw[<-p];have G:=Hh p;clear p;cases gb with
   | true =>
    have c:a5=false:=by
     cases hc:a5 with
     | false=>rfl
     | true=>have:=(a6.out.1 hc).1 b (xK L.out);rw[<-G.out]at this;cases this
    have I:=Hh c;clear c;go_wp2_with fail;go_ret;exact⟨by rw[I.out];rfl,O,J.out,H.out,M.out,F.out⟩
   | false =>
    go_wp2_with fail;go_roundw
    case rel=>exact⟨a+1,O,by go_num,by omega,λr' e=>by
     obtain⟨ab,m⟩:=xV.1 L.out
     rw[yX ab,y4,yQ]at e;rcases e with e|e
     ·exact u.out r' e
     ·rw[e,m];exact G.out.symm,J.out,H.out,M.out,F.out⟩
    case measure=>simp[intOf];omega
  ·have aa:a=g.length:=by omega
   subst aa;have ag:∀b∈g,geV C y b=false:=by have:=u.out;rwa [y5]at this
   have al:=Hh ag;clear ag u e3 S e5;go_wp2_with fail;clear e0 e1 e2;go_loopw [8] (λs d=>∃(a:Nat) (f:List Nat),s=.int .i64 a/\a<=h.length/\(∀ar∈h.take a,geV C ar x=false)/\OrdR d q l j NL f/\KOK C NL.length (x+y) f/\KSame NL.length (x+y) K f/\Fr (λr=>r=j) w d) (λs _=>h.length-(intOf s).toNat)
   case atStart=>exact⟨0,N,rfl,yV _,by simp,z.out,k.out,A.out,v.out⟩
   case round =>
    clear z k A v;obtain⟨a,N,rfl,hk,Z,V,T,X,o⟩:=hrel;obtain⟨t,rfl⟩:=eX wr;obtain⟨e0,e1,e2,e3,S,e5⟩:=af.out t o;have u:=Hh Z;have z:=Hh V;have k:=Hh T;have A:=Hh X;have v:=Hh o;clear Z V T X o;by_cases a4:a<h.length
    ·obtain⟨b,i⟩:∃b,h[a]?=some b:=⟨_,xQ a4⟩
     have ap:=HV.out b (xK i);obtain⟨a',c',m,_,_,a0⟩:=e5;cases m
     obtain⟨Q,o3,Y,R⟩:=a0 a b i;have ao:t.cell? ⟨Q,o3+a,none⟩=some (.int .i64 (b:Int)):=R;have aq:=za8 la h.length lc a Q o3 a4 Y;have a3:=ae.out b x (by omega) (by omega) hx N t z.out (k.out.mono (by omega));have a7:=Hh a3;have L:=Hh i;clear a3 i a0 Y R S e2;go_wp2_with fail;refine a7.out.mono ?_
     rintro a9 w8 ⟨rfl,O,W,U,n,a1⟩;have J:=Hh W;have H:=Hh (k.out.step U n);have M:=Hh (A.out.trans n (by omega));have F:=Hh (v.out.trans a1 kP);clear W U n a1;obtain⟨gb,p⟩:=eX (geV C b x);rw[<-p];have G:=Hh p;clear p;cases gb with
     | true =>
      have c:a5=false:=by
       cases hc:a5 with
       | false=>rfl
       | true=>have:=(a6.out.1 hc).2 b (xK L.out);rw[<-G.out]at this;cases this
      have I:=Hh c;clear c;go_wp2_with fail;go_ret;exact⟨by rw[I.out];rfl,O,J.out,H.out,M.out,F.out⟩
     | false =>
      go_wp2_with fail;go_roundw
      case rel=>exact⟨a+1,O,by go_num,by omega,λr' e=>by
       obtain⟨ab,m⟩:=xV.1 L.out
       rw[yX ab,y4,yQ]at e;rcases e with e|e
       ·exact u.out r' e
       ·rw[e,m];exact G.out.symm,J.out,H.out,M.out,F.out⟩
      case measure=>simp[intOf];omega
    ·have aa:a=h.length:=by omega
     subst aa;have c:a5=true:=a6.out.2 ⟨al.out,by have:=u.out;rwa [y5]at this⟩;have I:=Hh c;clear c S;go_wp2_with fail;go_ret;exact⟨by rw[I.out];rfl,N,z.out,k.out,A.out,v.out⟩
theorem ybf {w:World}{g N:Nat}{K:List Nat}(a:RowIs 3 encN w g K){p:Nat}(b:p<K.length):w.cell? ⟨g,p,none⟩=some (.int .i64 ((K.getD p 0:Nat):Int))/\w.frozen? ⟨g,p,none⟩=false:=by refine⟨?_,a.frozen p⟩;rw[a.cell p b,xY,xQ b];rfl
theorem KOK.put {C K:List Nat}{N x y n v:Nat}(g:y<N)(d:KOK C N n K)(a:n<=x+y\/(v=1/\geV C x y=true)\/(v=2/\geV C x y=false)):KOK C N n (K.set (x*N+y) v):=λh i e b f=>by rw[zi3];split;{rename_i c;obtain⟨rfl,rfl⟩:=zny g b c.1;rcases a with a|a|a;{omega};{exact .inr (.inl a)};{exact .inr (.inr a)}};{exact d h i e b f}
theorem KSame.put {K:List Nat}{N x y n v:Nat}(c:y<N)(f:x+y<n):KSame N n K (K.set (x*N+y) v):=λg h d b e=>by rw[zi3,if_neg];rintro⟨a,_⟩;obtain⟨rfl,rfl⟩:=zny c b a;omega
theorem yih {C:List Nat}{NL:List PL}(B:BookC NL C)(H A f:Nat)(hN:NL.length<1000):∀n x a,x+a<n->x<NL.length->a<NL.length->ykm C NL H A f x a:=by intro n;induction n with| zero=>{intro x a h;omega}| succ n ih =>{intro x a hn T r m t k hK;have av:=Hh (λm t w D=>yfp B H A f x a T r hN (λay az aG ha hb=>ih ay az (by omega) ha hb) m t w D);have aI:=yht T r;have aF:NL.length*NL.length<1000000:=by{have w:=Nat.mul_le_mul (show NL.length<=999 by omega) (show NL.length<=999 by omega);omega};(obtain⟨v,hv,am⟩:=k.nv;obtain⟨na,nc,rfl,aJ,aK,aD⟩:=id am;clear aD am;obtain⟨e,hq⟩:=eX (x*NL.length);obtain⟨j,L⟩:=eX (NL.length*NL.length);obtain⟨d,hp⟩:=eX (e+a);have a4:x*NL.length+a=d:=by rw[hp,hq]);(have hm:(x:Int)*(NL.length:Int)=(e:Int):=by rw[hq];exact(Int.natCast_mul _ _).symm);(have a5:d<j:=by omega);(have aL:e<1000000:=by omega);have y:=k.o1;rw[<-L]at y;have a3:=k.len;rw[<-L]at a3;have ix:∀q:World,(Instr.indexAt 100 (.slice (some ⟨f,0,none⟩) j j) (.int .i64 ((e:Int)+(a:Int)))).run Tryz.prog q=.ok (.pointer (some ⟨f,d,none⟩)) q:=by{intro q;have h:=zdu f j j d a5 q;rw[show((d:Nat):Int)=(e:Int)+(a:Int)from by omega]at h;exact h};have ao:=k.n1;have aA:=k.n2;have an:=k.o0;have ac:=Hh (λq (a0:Fr (λe=>e=f) t q)=>show q.cell? ⟨H,0,none⟩=some (.pointer (some ⟨A,0,none⟩))/\q.cell? ⟨H,1,none⟩=some (.slice (some ⟨f,0,none⟩) j j)/\q.cell? ⟨A,0,none⟩=some (.slice na NL.length nc)from ⟨a0.cell an ao,a0.cell y ao,a0.cell hv aA⟩);obtain⟨aq,S⟩:=eX (geV C x a);rw[<-S];obtain⟨c0,z0⟩:=ybf (N:=j) k.row (p:=d) (by omega);obtain⟨e0,e1,e2⟩:=ac.out t (Fr.refl _ _);obtain⟨J,O⟩:=eX (m.getD d 0);rw[<-O]at c0;have R:=hK x a T r (by omega);rw[a4,<-O,<-S]at R;have W:=Hh k;have V:=Hh hK;have s:=Hh a4;have ar:=Hh a3;have Z:=Hh S;have HC:=Hh O;have aw:=Hh L;have I:=Hh a5;have F:=Fr.setCell (Fr.refl (λe=>e=f) t) ⟨f,d,none⟩ (encN 2) (λ_=>rfl);have G:=k.row.set d 2;have a6:=Hh F;have ax:=Hh G;clear k hK a4 a3 S O L a5 hv y an hq hp F G ih;by_cases P:J=0;{(have aB:((J:Int) == 0)=true:=by rw[P];rfl);(have aE:=Hh P;clear R P;go_enter Tryz.func190,Tryz.ntmps190;go_wp2_with fail;have y:OrdR (t.setCell ⟨f,d,none⟩ (encN 2)) H A f NL (m.set d 2):=W.out.fr a6.out ax.out (by rw[List.length_set];exact W.out.len);have ag:KOK C NL.length (x+a) (m.set d 2):=by rw[<-s.out];exact(V.out.mono (by omega)).put r (.inl (xW _)));refine(av.out (m.set d 2) _ y ag).mono ?_;(rintro u U ⟨rfl,o,E,ah,M,ak⟩;rw[<-Z.out];have a1:Fr (λe=>e=f) t U:=a6.out.trans ak kP;obtain⟨d0,d1,d2⟩:=ac.out U a1;have al:o.length=j:=by rw[E.len,aw.out]);obtain⟨c2,z2⟩:=ybf (N:=j) E.row (p:=d) (by have:=I.out;omega);have a2:o.getD d 0=2:=by{have h:=M x a T r (xW _);rw[s.out,zi3,if_pos ⟨rfl,by have:=I.out;have:=ar.out;omega⟩]at h;exact h};rw[a2]at c2;have aj:KSame NL.length (x+a+1) m o:=by{have h:=KSame.put (K:=m) (x:=x) (n:=x+a+1) (v:=2) r (vK _);rw[s.out]at h;exact h.trans M (by omega)};have af:KOK C NL.length (x+a) o:=ah;have ai:∀b c,b<NL.length->c<NL.length->b+c=x+a->¬(b=x/\c=a)->o.getD (b*NL.length+c) 0=0\/(o.getD (b*NL.length+c) 0=1/\geV C b c=true)\/(o.getD (b*NL.length+c) 0=2/\geV C b c=false):=λb c l g Q aC=>by{rw[M b c l g (by omega),zi3,if_neg (λe=>aC (zny g r (by rw[s.out];exact e.1.symm)))];exact V.out b c l g (by omega)};have F:=Fr.setCell (Fr.refl (λe=>e=f) U) ⟨f,d,none⟩ (encN 1) (λ_=>rfl);have G:=E.row.set d 1;have a7:=Hh F;have ad:=Hh G;have X:=Hh E;have a9:=Hh af;have ae:=Hh aj;have aa:=Hh ai;have a8:=Hh a1;have au:=Hh a2;have ab:=Hh al;clear y ag F G E af ah aj M ai a1 ak a2 al e0 e1 e2 c0 z0;cases z:aq with| true =>{have HT:=Hh (show geV C x a=true from by rw[<-Z.out,z]);have Y:=Hh z;clear z;have k3:(U.setCell ⟨f,d,none⟩ (.int .i64 1)).cell? ⟨f,d,none⟩=some (.int .i64 1):=by{have h:=(ad.out.at (i:=d) (x:=1) (by rw[List.getElem?_set];simp;have:=I.out;have:=ab.out;omega));exact h};go_wp2_with fail;go_ret;refine⟨by rw[Y.out];rfl,o.set d 1,X.out.fr a7.out ad.out (by rw[List.length_set];exact X.out.len),λb c l g hl=>?_,λb c l g hl=>?_,a8.out.trans a7.out kP⟩;{rw[zi3];split;{rename_i u;obtain⟨rfl,rfl⟩:=zny r g (by rw[s.out];exact u.1);exact .inr (.inl ⟨rfl,HT.out⟩)};{rename_i u;by_cases Q:b+c<x+a;{exact a9.out b c l g Q};{refine aa.out b c l g (by omega) (λe=>u ?_);rw[e.1,e.2,s.out];exact⟨rfl,by have:=I.out;have:=ab.out;omega⟩}}};{rw[zi3,if_neg,ae.out b c l g hl];rintro⟨u,_⟩;obtain⟨rfl,rfl⟩:=zny r g (by rw[s.out];exact u);omega}}| false =>{have HT:=Hh (show geV C x a=false from by rw[<-Z.out,z]);have Y:=Hh z;clear z;go_wp2_with fail;go_ret;refine⟨by rw[Y.out];rfl,o,X.out,λb c l g hl=>?_,ae.out,a8.out⟩;by_cases Q:b+c<x+a;{exact a9.out b c l g Q};{by_cases ap:b=x/\c=a;{obtain⟨rfl,rfl⟩:=ap;rw[s.out,au.out];exact .inr (.inr ⟨rfl,HT.out⟩)};{exact aa.out b c l g (by omega) ap}}}};{(have aB:((J:Int) == 0)=false:=by rw[beq_eq_false_iff_ne];omega);have aH:((J:Int) == 1)=aq:=by{rcases R with h|⟨w,D⟩|⟨w,D⟩;{omega};{rw[w,D];rfl};{rw[w,D];rfl}};clear R P;go_enter Tryz.func190,Tryz.ntmps190;go_wp2_with fail;go_ret;exact⟨rfl,m,W.out,V.out,λ_ _ _ _ _=>rfl,Fr.refl _ _⟩}}
theorem zkk {C:List Nat}{NL:List PL}(B:BookC NL C)(c d b x y:Nat)(l:NL.length<1000)(n:x<NL.length)(o:y<NL.length)(K:List Nat)(w:World)(m:OrdR w c d b NL K)(g:KOK C NL.length (2*NL.length) K) : Calls Tryz.prog 190 #[.pointer (some ⟨c,0,none⟩),.int .i64 (x:Int),.int .i64 (y:Int)] w λf e=>f=.returned (.bool (geV C x y))/\∃a,OrdR e c d b NL a/\KOK C NL.length (2*NL.length) a/\Fr (λp=>p=b) w e:=by refine(yih B c d b l _ x y (vK _) n o K w m (g.mono (by omega))).mono ?_;rintro f e ⟨rfl,a,h,i,j,k⟩;exact⟨rfl,a,h,g.step i j,k⟩
theorem zo5 (v:Value)(L:List Nat)(n:Nat)(w:World)(f:Nats w v L):Calls Tryz.prog 199 #[v,.int .i64 (n:Int)] w λh F=>h=.returned (.bool (decide (n∈L)))/\F=w:=by obtain⟨C,D,rfl,G,H,f⟩:=f;have z:=Hh f;clear f;obtain⟨x,i⟩:=eX (decide (n∈L));rw[<-i];have m:=Hh i;clear i;go_enter Tryz.func199,Tryz.ntmps199;go_wp2;go_loop [5] (λk=>∃a:Nat,k=.int .i64 a/\a<=L.length/\n ∉ L.take a) (λk=>L.length-(intOf k).toNat);(case atStart=>exact⟨0,rfl,yV _,by simp⟩);case round =>(obtain⟨a,rfl,J,t⟩:=hrel;have l:=Hh t;clear t;by_cases g:a<L.length;{obtain⟨b,j⟩:∃b,L[a]?=some b:=⟨_,xQ g⟩;obtain⟨p,u,q,r⟩:=z.out a b j;have K:=za8 C L.length D a p u g q;have I:w.cell? ⟨p,u+a,none⟩=some (.int .i64 (b:Int)):=r;have o:=Hh j;clear j q r;by_cases d:b=n;{(have E:((b:Int) == (n:Int))=true:=by rw[d];exact beq_self_eq_true _);(have e:x=true:=by rw[m.out];exact vX (d ▸ xK o.out));have B:=Hh e;clear e d;go_wp2;go_ret;exact⟨by rw[B.out];rfl,rfl⟩};{(have E:((b:Int) == (n:Int))=false:=by rw[beq_eq_false_iff_ne];omega);have y:=Hh d;clear d;go_wp2;go_round;(case rel=>exact⟨a+1,by go_num,by omega,λc=>by{obtain⟨g,h⟩:=xV.1 o.out;rw[yX g,y4,yQ]at c;rcases c with c|c;{exact l.out c};{exact y.out (by rw[c,h])}}⟩);case measure=>simp[intOf];omega}};{(have s:a=L.length:=by omega);(have e:x=false:=by rw[m.out];exact vY (by have:=l.out;rwa [s,y5]at this));have A:=Hh e;clear e s;go_wp2;go_ret;exact⟨by rw[A.out];rfl,rfl⟩})
theorem zkb (C pv:Value)(L P:List Nat)(w:World)(i:Nats w C L)(s:Nats w pv P)(x:L.length<1000000000000) : Calls Tryz.prog 174 #[C,pv] w λo l=>∃k,o=.returned k/\l.ownsRow w.heap.size 3 1 k (zan L P).length ((zan L P).map encN)/\Fr NoM w l:=by have M:=Hh (λO (R:Fr NoM w O)=>s.fr0 R);obtain⟨T,U,rfl,Y,Z,i⟩:=i;obtain⟨pa,pc,rfl,_,_,_⟩:=s;have I:=Hh i;clear i;have N:=Hh x;clear x;go_enter Tryz.func174,Tryz.ntmps174;go_wp2_with fail;go_loopw [5,6] (λW p wr=>∃a:Nat,a<=L.length/\p=.int .i64 a/\wr.ownsRow w.heap.size 3 1 W (zan (L.take a) P).length ((zan (L.take a) P).map encN)/\Fr NoM w wr) (λ_ p _=>L.length-(intOf p).toNat);(case atStart=>exact⟨0,by omega,rfl,y3 w #[] 0 (by omega) (by decide) (by simp[zan]),(Fr.refl _ _).alloc _⟩);case round =>(obtain⟨a,X,rfl,j,d⟩:=hrel;obtain⟨D,rfl⟩:=eX wr;by_cases z:a<L.length;{obtain⟨Q,V,t,u⟩:=I.out a L[a] (by simp);have S:=d.cell u id;have a0:=za8 T L.length U a Q V z t;unfold encN at S;have b:=ziv L P a z;have c:=zo5 _ P a D (M.out D d);have y:=zd8 (L.take a) P;have h:=Hh j;have g:=Hh d;have J:=Hh y;clear u t j d y;by_cases e:a∈P;{rw[if_pos e]at b;rw[vX e]at c;have n:=Hh b;have m:=Hh c;clear b c e;go_wp2_with fail;refine m.out.mono ?_;rintro o E ⟨rfl,rfl⟩;go_wp2_with fail;go_roundw;(case rel=>exact⟨a+1,by omega,by go_num,by rw[n.out];exact h.out,g.out⟩);case measure=>simp[intOf];omega};{rw[if_neg e]at b;(rw[vY e]at c;have B:(zan (L.take a) P).map encN ++ [encN L[a]]=(zan (L.take (a+1)) P).map encN:=by rw[b,vQ];rfl);(have A:(zan (L.take a) P).length+1=(zan (L.take (a+1)) P).length:=by rw[b,yZ];rfl);have n:=Hh B;have m:=Hh c;have K:=Hh A;clear b c e B A;go_wp2_with fail;refine m.out.mono ?_;rintro o E ⟨rfl,rfl⟩;go_wp2_with (at_builtin;refine zc7 (enc:=encN) w (g.out.alloc _) rfl _ _ 100 rfl 3 (.int .i64 0) 8 Tryz.underlying100 zab rfl _ (zan (L.take a) P).length _ rfl (h.out.alloc _) _ rfl [L[a]] (SliceOf.one encN E L[a] 3) (λ_=>rfl) ?c1 (by decide) ?_);(case c1=>have:=J.out;have:=N.out;simp at *;omega);(intro k l f r;rw[n.out]at f;have f:l.ownsRow w.heap.size 3 1 k (zan (L.take (a+1)) P).length ((zan (L.take (a+1)) P).map encN):=by rw[<-K.out];exact f);have F:=Hh f;have G:=Hh r;clear f r;go_wp2_with fail;go_roundw;(case rel=>exact⟨a+1,by omega,by go_num,F.out,G.out⟩);case measure=>simp[intOf];omega}};{(have v:a=L.length:=by omega);have H:=Hh v;have h:=Hh j;have g:=Hh d;clear v j d;go_wp2_with fail;go_ret;exact⟨_,rfl,by have q:=h.out;rw[H.out,y5]at q;exact q,g.out⟩})
theorem ybq {L:List Nat}{n:Nat}(a:L.Pairwise (· < ·))(b:n∈L):putN L n=L := zh1 (zm1 n a) a λd=>by rw[zhu];constructor;{rintro(c|rfl);{exact c};{exact b}};{exact .inl}
def zdt (g:Nat->Nat->Bool)(L:List Nat)(i k:Nat):List Nat:=((List.range i).filter λa=>(List.range L.length).any (domP g L a))++if (List.range k).any (domP g L i)=true then [i]else []
theorem zy8 (g:Nat->Nat->Bool)(L:List Nat)(i k:Nat):(zdt g L i k).Pairwise (· < ·):=by unfold zdt;refine List.pairwise_append.2 ⟨List.pairwise_lt_range.filter _,by split <;> simp,λc b d a=>?_⟩;have e:=vW.1 (List.mem_filter.1 b).1;split at a;{rw[yQ]at a;omega};{cases a}
theorem zpm {g:Nat->Nat->Bool}{L:List Nat}{i k:Nat}(a:domP g L i k=false):zdt g L i (k+1)=zdt g L i k:=by unfold zdt;rw[List.range_succ,List.any_append,List.any_cons,List.any_nil,a,Bool.or_false,Bool.or_false]
theorem zpk {g:Nat->Nat->Bool}{L:List Nat}{i k:Nat}(c:domP g L i k=true):putN (zdt g L i k) i=zdt g L i (k+1):=by have a:=zy8 g L i k;have d:zdt g L i (k+1)=((List.range i).filter λf=>(List.range L.length).any (domP g L f)) ++ [i]:=by{unfold zdt;rw[List.range_succ,List.any_append,List.any_cons,c,Bool.true_or,Bool.or_true,if_pos rfl]};rw[d];unfold zdt at a ⊢;by_cases b:(List.range k).any (domP g L i)=true;{rw[if_pos b]at a ⊢;exact ybq a (by simp)};{rw[if_neg b,List.append_nil];exact zxb _ _ λh e=>vW.1 (List.mem_filter.1 e).1}
theorem zi4 (g:Nat->Nat->Bool)(L:List Nat)(i:Nat):zdt g L i L.length=zdt g L (i+1) 0:=by unfold zdt;rw[List.range_succ,List.filter_append];by_cases a:(List.range L.length).any (domP g L i)=true;{rw[if_pos a];simp[a]};{rw[if_neg a];simp[a]}
theorem ztn (g:Nat->Nat->Bool)(L:List Nat):zdt g L L.length 0=domB g L:=by simp[zdt,domB]
theorem ztm (g:Nat->Nat->Bool)(L:List Nat)(i k:Nat):(zdt g L i k).length<=i+1:=by have:=zsa (zy8 g L i k) (n:=i+1) λb a=>by{rcases y4.1 a with a|a;{have:=vW.1 (List.mem_filter.1 a).1;omega};{split at a;{rw[yQ]at a;omega};{cases a}}};exact this
theorem zzn {C:List Nat} {NL:List PL} (B:BookC NL C) (z D g:Nat) (hN:NL.length < 1000) (V:Value) (L K:List Nat) (w:World) (hO:OrdR w z D g NL K) (hK:KOK C NL.length (2 * NL.length) K) (hL:Nats w V L) (al:L≠[]->∀ a,V.ownBlock=some a->a≠g) (am:∀ e∈L,e < NL.length) (hl:L.length < 1000000) :
    Calls Tryz.prog 175 #[.pointer (some ⟨z,0,none⟩),V,.bool true] w λE w'=>∃ (v':Value) (m:List Nat),E=.returned v'/\Nats w' v' (domB (gL C) L)/\(∀ a,v'.ownBlock=some a->w.heap.size<=a)/\OrdR w' z D g NL m/\KOK C NL.length (2 * NL.length) m/\Fr (λa=>a=g) w w':=by
  have aV:g < w.heap.size:=(yJ.1 hO.row).1;have HL:=Hh (λd (F:Fr (λa=>a=g) w d)=>show Nats d V L from hL.fr F al);obtain ⟨la,lc,rfl,aW,aX,J⟩:=hL;have HO:=Hh hO;have HK:=Hh hK;have af:=Hh am;have Hl:=Hh hl;have ab:=Hh (λe f r s K w=>zkk B z D g e f hN r s K w);clear hO hK am hl J al;go_enter Tryz.func175,Tryz.ntmps175;go_wp2_with fail;go_loopw [7,8] (λI t d=>∃ (b:Nat) (m:List Nat),t=.int .i64 b/\b<=L.length/\Nats d I (zdt (gL C) L b 0)/\(∀ a,I.ownBlock=some a->w.heap.size<=a)/\OrdR d z D g NL m/\KOK C NL.length (2 * NL.length) m/\Fr (λa=>a=g) w d) (λ_ t _=>L.length - (intOf t).toNat)
  case atStart=>exact ⟨0,K,rfl,yV _,⟨_,0,rfl,xW _,by decide,by simp [zdt]⟩,λa G=>by cases G;exact xW _,HO.out.fr0 ((nW w).alloc _),HK.out,(Fr.refl _ w).alloc _⟩
  case round =>
    obtain ⟨b,K1,rfl,hi,j,n,T,S,U⟩:=hrel;obtain ⟨w6,rfl⟩:∃ w6,w6=wr:=⟨_,rfl⟩;by_cases aB:b < L.length
    · have l := Hh j; have k := Hh n; have P := Hh T; have O := Hh S; have N := Hh U
      clear j n T S U;go_wp2_with fail;go_loopw [7,9] (λI t d=>∃ (c:Nat) (m:List Nat),t=.int .i64 c/\c<=L.length/\Nats d I (zdt (gL C) L b c)/\(∀ a,I.ownBlock=some a->w.heap.size<=a)/\OrdR d z D g NL m/\KOK C NL.length (2 * NL.length) m/\Fr (λa=>a=g) w d) (λ_ t _=>L.length - (intOf t).toNat)
      case atStart=>exact ⟨0,K1,rfl,yV _,l.out,k.out,P.out,O.out,N.out⟩
      case round =>
        clear l k P O N;obtain ⟨c,K2,rfl,hk,j,n,ao,aj,ax⟩:=hrel;obtain ⟨h,rfl⟩:∃ h,h=wr:=⟨_,rfl⟩;obtain ⟨oa,oc,rfl,J⟩:=id j;clear J;have l:=Hh j;have k:=Hh n;have u:=Hh ax;have ac:=Hh aj;have ah:=Hh (λd (F:Fr NoM h d)=>ao.fr0 F);clear j n ao aj ax;by_cases aC:c < L.length
        · obtain ⟨e, r⟩ : ∃ e, L[b]? = some e := ⟨_, xQ aB⟩
          obtain ⟨f,s⟩:∃ f,L[c]?=some f:=⟨_,xQ aC⟩;have aF:=af.out e (xK r);have aG:=af.out f (xK s);obtain ⟨_,_,ee,_,_,y⟩:=HL.out h u.out;cases ee
          obtain ⟨Q,W,a2,d1⟩:=y b e r;obtain ⟨R,X,a3,d2⟩:=y c f s;have aS:=za8 la L.length lc b Q W aB a2;have aT:=za8 la L.length lc c R X aC a3;have aL:h.cell? ⟨Q,W + b,none⟩=some (.int .i64 (e:Int)):=d1;have aM:h.cell? ⟨R,X + c,none⟩=some (.int .i64 (f:Int)):=d2;have HS:=Hh (λd (F:Fr (λa=>a=g) h d)=>show d.cell? ⟨Q,W + b,none⟩=some (.int .i64 (e:Int))/\d.cell? ⟨R,X + c,none⟩=some (.int .i64 (f:Int)) from by
            obtain ⟨_,_,ee,_,_,y⟩:=HL.out d (u.out.trans F kP);cases ee
            obtain ⟨b3,o3,aq,e1⟩:=y b e r;obtain ⟨b4,o4,ar,e2⟩:=y c f s;rw [a2] at aq;cases aq
            rw [a3] at ar;cases ar
            exact ⟨e1,e2⟩)
          obtain ⟨p,a4⟩:∃ p,p=geV C f e:=⟨_,rfl⟩;obtain ⟨v,a5⟩:∃ v,v=geV C e f:=⟨_,rfl⟩;have aw:domP (gL C) L b c=(decide (c≠b) && (p && (!v || decide (c < b)))):=by
            unfold domP gL;rw [xY,xY,r,s];show (decide (c≠b) && (geV C f e && (!geV C e f || decide (c < b))))=_
            rw [a4,a5]
          have a9:=Hh (λK d=>ab.out f e aG aF K d);have aa:=Hh (λK d=>ab.out e f aF aG K d);rw [<-a4] at a9;rw [<-a5] at aa;have Z:=Hh aw;have F0:Fr NoM h h.drew:=(nW h).drew;have G0:Fr (λa=>a=g) h h.drew:=F0.any;clear r s y a2 a3 d1 d2 a4 a5 aw;go_upto_region 8 with fail;go_region_held3 (λ(d:World)=>d.cell? ⟨Q,W + b,none⟩=some (.int .i64 (e:Int))/\d.cell? ⟨R,X + c,none⟩=some (.int .i64 (f:Int)))
            (first | exact HS.out _ (by assumption))
            (first
              | (go_at_call 190;(with_reducible refine (a9.out K2 _ (ah.out _ (by assumption)) ac.out).mono ?_);rintro E w8 ⟨rfl,K3,aO,aN,ay⟩;have G8:Fr (λa=>a=g) h w8:=Fr.trans (by assumption) ay kP)
              | (go_at_call 190;(with_reducible refine (aa.out K3 _ (by assumption) (by assumption)).mono ?_);rintro E w9 ⟨rfl,K4,ap,ak,az⟩;have Y:Fr (λa=>a=g) h w9:=Fr.trans (by assumption) az kP)
              | fail)
          all_goals
            have ai:=Hh ap;have ad:=Hh ak;have a0:=Hh Y;have an:Nats w9 (.slice oa (zdt (gL C) L b c).length oc) (zdt (gL C) L b c):=l.out.fr Y (λ_ a G E=>by have:=k.out a G;omega);have ag:=Hh an;clear ap ak Y az aO aN ay G8 F0 G0 aL aM aS aT an;go_upto_region 11 with fail;obtain ⟨o,av⟩:∃ o,o=domP (gL C) L b c:=⟨_,rfl⟩;have M:=Hh av;clear av;go_cut [63] from 49 to 63 (λaK d=>aK=.bool o/\d=w9)
            case first =>
              by_cases q:c=b
              · have i : o = false := by rw [M.out, Z.out, q]; simp
                have A:=Hh i;have aP:((c:Int) != (b:Int))=false:=by rw [q];simp
                clear i q;go_wp2_with fail;go_meet
                case rel=>exact ⟨by rw [A.out],rfl⟩
              · have aP : ((c : Int) != (b : Int)) = true := by rw [bne_iff_ne]; omega
                by_cases aE:c < b
                · have i : o = p := by rw [M.out, Z.out, vX aE, vX q]; simp
                  have A:=Hh i;clear i q;cases p <;> cases v <;>
                    (go_wp2_with fail
                     go_meet
                     case rel=>exact ⟨by rw [A.out] <;> rfl,rfl⟩)
                · have i : o = (p && !v) := by rw [M.out, Z.out, vY aE, vX q]; simp
                  have A:=Hh i;clear i q;cases p <;> cases v <;>
                    (go_wp2_with fail
                     go_meet
                     case rel=>exact ⟨by rw [A.out] <;> rfl,rfl⟩)
            case rest =>
              obtain ⟨rfl,rfl⟩:=hcut;have i:=M.out;cases o with
              | true =>
                have H:=zpk i.symm;have a1:=Hh H;clear H i;go_wp2_with fail;refine (zfa _ (zdt (gL C) L b c) b wc ag.out (by have:=ztm (gL C) L b c;have:=Hl.out;omega)).mono ?_
                rintro E w5 ⟨v5,rfl,a6,aA,au⟩;rw [a1.out] at a6;have aI:=Hh a6;have a8:=Hh aA;have aH:=Hh (show ∀ a,v5.ownBlock=some a->w.heap.size<=a from λa G=>by
                  rcases au a G with x | x
                  · exact k.out a x
                  · have h1 := u.out.size
                    have h2:=a0.out.size;omega)
                clear a6 aA au;go_wp2_with fail;go_roundw
                case rel=>exact ⟨c + 1,K4,by go_num,by omega,aI.out,aH.out,ai.out.fr0 a8.out,ad.out,(u.out.trans a0.out kP).trans a8.out (λ_ _ a=>a.elim)⟩
                case measure=>simp [intOf];omega
              | false =>
                have H:=zpm i.symm;have a1:=Hh H;clear H i;go_wp2_with fail;go_roundw
                case rel=>exact ⟨c + 1,K4,by go_num,by omega,by rw [a1.out];exact ag.out,k.out,ai.out,ad.out,u.out.trans a0.out kP⟩
                case measure=>simp [intOf];omega
        · have aR : c = L.length := by omega
          subst aR;have a7:=l.out;rw [zi4] at a7;have aU:=Hh a7;have aJ:=Hh (ah.out h (Fr.refl _ _));have aD:=zi4 (gL C) L b;have ae:=Hh aD;clear a7 aD;go_wp2_with fail;go_roundw
          case rel=>exact ⟨b + 1,K2,by go_num,by omega,by have x:=l.out;rw [ae.out] at x;first | exact x | (rw [ae.out];exact x),k.out,aJ.out,ac.out,u.out⟩
          case measure=>simp [intOf];omega
    · have aQ : b = L.length := by omega
      subst aQ;obtain ⟨oa,oc,rfl,J⟩:=id j;clear J;rw [ztn] at j n ⊢;have l:=Hh j;have k:=Hh n;have P:=Hh T;have O:=Hh S;have N:=Hh U;clear j n T S U;go_wp2_with fail;go_ret;exact ⟨_,K1,rfl,l.out,k.out,P.out,O.out,N.out⟩
theorem zzm {C:List Nat} {NL:List PL} (B:BookC NL C) (z D g:Nat) (hN:NL.length < 1000) (V:Value) (L K:List Nat) (w:World) (hO:OrdR w z D g NL K) (hK:KOK C NL.length (2 * NL.length) K) (hL:Nats w V L) (al:L≠[]->∀ a,V.ownBlock=some a->a≠g) (am:∀ e∈L,e < NL.length) (hl:L.length < 1000000) :
    Calls Tryz.prog 175 #[.pointer (some ⟨z,0,none⟩),V,.bool false] w λE w'=>∃ (v':Value) (m:List Nat),E=.returned v'/\Nats w' v' (domB (gR C) L)/\(∀ a,v'.ownBlock=some a->w.heap.size<=a)/\OrdR w' z D g NL m/\KOK C NL.length (2 * NL.length) m/\Fr (λa=>a=g) w w':=by
  have aV:g < w.heap.size:=(yJ.1 hO.row).1;have HL:=Hh (λd (F:Fr (λa=>a=g) w d)=>show Nats d V L from hL.fr F al);obtain ⟨la,lc,rfl,aW,aX,J⟩:=hL;have HO:=Hh hO;have HK:=Hh hK;have af:=Hh am;have Hl:=Hh hl;have ab:=Hh (λe f r s K w=>zkk B z D g e f hN r s K w);clear hO hK am hl J al;go_enter Tryz.func175,Tryz.ntmps175;go_wp2_with fail;go_loopw [7,8] (λI t d=>∃ (b:Nat) (m:List Nat),t=.int .i64 b/\b<=L.length/\Nats d I (zdt (gR C) L b 0)/\(∀ a,I.ownBlock=some a->w.heap.size<=a)/\OrdR d z D g NL m/\KOK C NL.length (2 * NL.length) m/\Fr (λa=>a=g) w d) (λ_ t _=>L.length - (intOf t).toNat)
  case atStart=>exact ⟨0,K,rfl,yV _,⟨_,0,rfl,xW _,by decide,by simp [zdt]⟩,λa G=>by cases G;exact xW _,HO.out.fr0 ((nW w).alloc _),HK.out,(Fr.refl _ w).alloc _⟩
  case round =>
    obtain ⟨b,K1,rfl,hi,j,n,T,S,U⟩:=hrel;obtain ⟨w6,rfl⟩:∃ w6,w6=wr:=⟨_,rfl⟩;by_cases aB:b < L.length
    · have l := Hh j; have k := Hh n; have P := Hh T; have O := Hh S; have N := Hh U
      clear j n T S U;go_wp2_with fail;go_loopw [7,9] (λI t d=>∃ (c:Nat) (m:List Nat),t=.int .i64 c/\c<=L.length/\Nats d I (zdt (gR C) L b c)/\(∀ a,I.ownBlock=some a->w.heap.size<=a)/\OrdR d z D g NL m/\KOK C NL.length (2 * NL.length) m/\Fr (λa=>a=g) w d) (λ_ t _=>L.length - (intOf t).toNat)
      case atStart=>exact ⟨0,K1,rfl,yV _,l.out,k.out,P.out,O.out,N.out⟩
      case round =>
        clear l k P O N;obtain ⟨c,K2,rfl,hk,j,n,ao,aj,ax⟩:=hrel;obtain ⟨h,rfl⟩:∃ h,h=wr:=⟨_,rfl⟩;obtain ⟨oa,oc,rfl,J⟩:=id j;clear J;have l:=Hh j;have k:=Hh n;have u:=Hh ax;have ac:=Hh aj;have ah:=Hh (λd (F:Fr NoM h d)=>ao.fr0 F);clear j n ao aj ax;by_cases aC:c < L.length
        · obtain ⟨e, r⟩ : ∃ e, L[b]? = some e := ⟨_, xQ aB⟩
          obtain ⟨f,s⟩:∃ f,L[c]?=some f:=⟨_,xQ aC⟩;have aF:=af.out e (xK r);have aG:=af.out f (xK s);obtain ⟨_,_,ee,_,_,y⟩:=HL.out h u.out;cases ee
          obtain ⟨Q,W,a2,d1⟩:=y b e r;obtain ⟨R,X,a3,d2⟩:=y c f s;have aS:=za8 la L.length lc b Q W aB a2;have aT:=za8 la L.length lc c R X aC a3;have aL:h.cell? ⟨Q,W + b,none⟩=some (.int .i64 (e:Int)):=d1;have aM:h.cell? ⟨R,X + c,none⟩=some (.int .i64 (f:Int)):=d2;have HS:=Hh (λd (F:Fr (λa=>a=g) h d)=>show d.cell? ⟨Q,W + b,none⟩=some (.int .i64 (e:Int))/\d.cell? ⟨R,X + c,none⟩=some (.int .i64 (f:Int)) from by
            obtain ⟨_,_,ee,_,_,y⟩:=HL.out d (u.out.trans F kP);cases ee
            obtain ⟨b3,o3,aq,e1⟩:=y b e r;obtain ⟨b4,o4,ar,e2⟩:=y c f s;rw [a2] at aq;cases aq
            rw [a3] at ar;cases ar
            exact ⟨e1,e2⟩)
          obtain ⟨v,a4⟩:∃ v,v=geV C f e:=⟨_,rfl⟩;obtain ⟨p,a5⟩:∃ p,p=geV C e f:=⟨_,rfl⟩;have aw:domP (gR C) L b c=(decide (c≠b) && (p && (!v || decide (c < b)))):=by
            unfold domP gR;rw [xY,xY,r,s];show (decide (c≠b) && (geV C e f && (!geV C f e || decide (c < b))))=_
            rw [a4,a5]
          have a9:=Hh (λK d=>ab.out f e aG aF K d);have aa:=Hh (λK d=>ab.out e f aF aG K d);rw [<-a4] at a9;rw [<-a5] at aa;have Z:=Hh aw;have F0:Fr NoM h h.drew:=(nW h).drew;have G0:Fr (λa=>a=g) h h.drew:=F0.any;clear r s y a2 a3 d1 d2 a4 a5 aw;go_upto_region 8 with fail;go_region_held3 (λ(d:World)=>d.cell? ⟨Q,W + b,none⟩=some (.int .i64 (e:Int))/\d.cell? ⟨R,X + c,none⟩=some (.int .i64 (f:Int)))
            (first | exact HS.out _ (by assumption))
            (first
              | (go_at_call 190;(with_reducible refine (a9.out K2 _ (ah.out _ (by assumption)) ac.out).mono ?_);rintro E w8 ⟨rfl,K3,aO,aN,ay⟩;have G8:Fr (λa=>a=g) h w8:=Fr.trans (by assumption) ay kP)
              | (go_at_call 190;(with_reducible refine (aa.out K3 _ (by assumption) (by assumption)).mono ?_);rintro E w9 ⟨rfl,K4,ap,ak,az⟩;have Y:Fr (λa=>a=g) h w9:=Fr.trans (by assumption) az kP)
              | fail)
          all_goals
            have ai:=Hh ap;have ad:=Hh ak;have a0:=Hh Y;have an:Nats w9 (.slice oa (zdt (gR C) L b c).length oc) (zdt (gR C) L b c):=l.out.fr Y (λ_ a G E=>by have:=k.out a G;omega);have ag:=Hh an;clear ap ak Y az aO aN ay G8 F0 G0 aL aM aS aT an;go_upto_region 11 with fail;obtain ⟨o,av⟩:∃ o,o=domP (gR C) L b c:=⟨_,rfl⟩;have M:=Hh av;clear av;go_cut [63] from 49 to 63 (λaK d=>aK=.bool o/\d=w9)
            case first =>
              by_cases q:c=b
              · have i : o = false := by rw [M.out, Z.out, q]; simp
                have A:=Hh i;have aP:((c:Int) != (b:Int))=false:=by rw [q];simp
                clear i q;go_wp2_with fail;go_meet
                case rel=>exact ⟨by rw [A.out],rfl⟩
              · have aP : ((c : Int) != (b : Int)) = true := by rw [bne_iff_ne]; omega
                by_cases aE:c < b
                · have i : o = p := by rw [M.out, Z.out, vX aE, vX q]; simp
                  have A:=Hh i;clear i q;cases v <;> cases p <;>
                    (go_wp2_with fail
                     go_meet
                     case rel=>exact ⟨by rw [A.out] <;> rfl,rfl⟩)
                · have i : o = (p && !v) := by rw [M.out, Z.out, vY aE, vX q]; simp
                  have A:=Hh i;clear i q;cases v <;> cases p <;>
                    (go_wp2_with fail
                     go_meet
                     case rel=>exact ⟨by rw [A.out] <;> rfl,rfl⟩)
            case rest =>
              obtain ⟨rfl,rfl⟩:=hcut;have i:=M.out;cases o with
              | true =>
                have H:=zpk i.symm;have a1:=Hh H;clear H i;go_wp2_with fail;refine (zfa _ (zdt (gR C) L b c) b wc ag.out (by have:=ztm (gR C) L b c;have:=Hl.out;omega)).mono ?_
                rintro E w5 ⟨v5,rfl,a6,aA,au⟩;rw [a1.out] at a6;have aI:=Hh a6;have a8:=Hh aA;have aH:=Hh (show ∀ a,v5.ownBlock=some a->w.heap.size<=a from λa G=>by
                  rcases au a G with x | x
                  · exact k.out a x
                  · have h1 := u.out.size
                    have h2:=a0.out.size;omega)
                clear a6 aA au;go_wp2_with fail;go_roundw
                case rel=>exact ⟨c + 1,K4,by go_num,by omega,aI.out,aH.out,ai.out.fr0 a8.out,ad.out,(u.out.trans a0.out kP).trans a8.out (λ_ _ a=>a.elim)⟩
                case measure=>simp [intOf];omega
              | false =>
                have H:=zpm i.symm;have a1:=Hh H;clear H i;go_wp2_with fail;go_roundw
                case rel=>exact ⟨c + 1,K4,by go_num,by omega,by rw [a1.out];exact ag.out,k.out,ai.out,ad.out,u.out.trans a0.out kP⟩
                case measure=>simp [intOf];omega
        · have aR : c = L.length := by omega
          subst aR;have a7:=l.out;rw [zi4] at a7;have aU:=Hh a7;have aJ:=Hh (ah.out h (Fr.refl _ _));have aD:=zi4 (gR C) L b;have ae:=Hh aD;clear a7 aD;go_wp2_with fail;go_roundw
          case rel=>exact ⟨b + 1,K2,by go_num,by omega,by have x:=l.out;rw [ae.out] at x;first | exact x | (rw [ae.out];exact x),k.out,aJ.out,ac.out,u.out⟩
          case measure=>simp [intOf];omega
    · have aQ : b = L.length := by omega
      subst aQ;obtain ⟨oa,oc,rfl,J⟩:=id j;clear J;rw [ztn] at j n ⊢;have l:=Hh j;have k:=Hh n;have P:=Hh T;have O:=Hh S;have N:=Hh U;clear j n T S U;go_wp2_with fail;go_ret;exact ⟨_,K1,rfl,l.out,k.out,P.out,O.out,N.out⟩
theorem zgr:(Tryz.prog.info? 26).map (λa=>(a.zero,a.size,a.bytes))=some (some (.agg #[.slice none 0 0]),1,24):=by kernel_rfl
theorem zha (a:Option Addr)(n c k b d:Nat)(f:k<n)(e:a=some ⟨b,d,none⟩)(w:World) : (Instr.indexAt 59 (.slice a n c) (.int .i64 (k:Int))).run Tryz.prog w=.ok (.pointer (some ⟨b,d+k,none⟩)) w:=by subst e;go_simp
def FormsL (R:Nat->Prop)(w:World)(v:Value)(FL:List (List PL)):Prop :=
 ∃a:List Value,Vals w v a/\a.length=FL.length/\∀(c:Nat) (d:Value) (b:List PL),a[c]?=some d->FL[c]?=some b->NodeL R encN w d b
theorem NodeL.low {e:Type}{R:Nat->Prop}{enc:e->Value}{w:World}{v:Value}{NL:List (List e × List e)}(n:NodeL R enc w v NL):NodeL (· < w.heap.size) enc w v NL:=by obtain⟨i,l,rfl,o,p,q⟩:=n;refine⟨i,l,rfl,o,p,λt A s=>?_⟩;obtain⟨j,x,u,z,r,B,f,m,g,h,C,D⟩:=q t A s;refine⟨j,x,u,z,r,World.block_lt_of_cell? w _ f,f,m,g,h,λc y d=>?_,λc y d=>?_⟩;{obtain⟨k,a,b⟩:=g.block c;rw[d]at a;cases a;exact b};{obtain⟨k,a,b⟩:=h.block c;rw[d]at a;cases a;exact b}
structure Mk (w1 W:World) (bb:Nat) (s:List PL × List Nat) (S1:Nat->Prop) (v:Value) (A:List Nat) (u:Value) (B:List Nat):Prop where
 book:BookS S1 W bb s.1 s.2
 sub:∀q,S1 q->w1.heap.size<=q/\q<W.heap.size
 own1:W.ownsRow w1.heap.size 3 1 v A.length (A.map encN)
 own2:W.ownsRow w1.heap.size 3 1 u B.length (B.map encN)
 no1:∀b,v.ownBlock=some b->¬S1 b
 no2:∀b,u.ownBlock=some b->¬S1 b
 sep:∀b,v.ownBlock=some b->u.ownBlock≠some b
 fr:Fr NoM w1 W
theorem Mk.swap {e c:World}{d:Nat}{s:List PL × List Nat}{b:Nat->Prop}{v u:Value}{A B:List Nat}(a:Mk e c d s b v A u B):Mk e c d s b u B v A :=
 ⟨a.book,a.sub,a.own2,a.own1,a.no2,a.no1,λf g h=>a.sep f h g,a.fr⟩
theorem Mk.root {p i e:World}{k:Nat}{s s':List PL × List Nat}{h g:Nat->Prop}{v u:Value}{A B:List Nat}(b:Mk p i k s h v A u B)(c:BookS g e k s'.1 s'.2)(n:∀d,g d->h d\/i.heap.size<=d)(l:Fr h i e):Mk p e k s' (λd=>g d/\d<e.heap.size) v A u B:=by
 have o:∀a,(¬h a/\a<i.heap.size)->¬(g a/\a<e.heap.size):=λa ⟨f,t⟩ ⟨q,_⟩=>by
  rcases n a q with b|b
  ·exact f b
  ·omega
 exact⟨c.cut,λj m=>⟨by
   rcases n j m.1 with f|f
   ·exact(b.sub j f).1
   ·exact vV b.fr.size f,m.2⟩,za1 b.own1 l (λa c=>b.no1 a c),za1 b.own2 l (λa c=>b.no2 a c),λa c=>o a ⟨b.no1 a c,(b.own1.lt a c).2⟩,λa c=>o a ⟨b.no2 a c,(b.own2.lt a c).2⟩,b.sep,
  b.fr.trans l (λj m r=>by have:=(b.sub j r).1;omega)⟩
theorem Mk.app {l i Wa j:World}{n:Nat}{s:List PL × List Nat}{m:Nat->Prop}{v h u:Value}{A B:List Nat}{x:Nat}(b:Mk l i n s m v A u B)(p:Fr NoM i Wa)(z:j.ownsRow l.heap.size 3 1 h (A.length+1) (A.map encN ++ [x].map encN))(w:Fr (Own1 v) Wa j)(f:h.ownBlock=v.ownBlock\/∃a,h.ownBlock=some a/\Wa.heap.size<=a):Mk l j n s m h (A ++ [x]) u B:=by
 have k:Fr (Own1 v) i j:=p.any.trans w (λg _ e=>e);have q:∀a,h.ownBlock=some a->v.ownBlock=some a\/i.heap.size<=a:=λa c=>by
  rcases f with d|⟨D,d,t⟩
  ·rw[d]at c;exact .inl c
  ·rw[d]at c;cases c;exact .inr (vV p.size t)
 exact⟨b.book.fr k (λC y e=>b.no1 C e y),λg f=>⟨(b.sub g f).1,vJ (b.sub g f).2 k.size⟩,by rw[yZ,vQ];exact z,za1 b.own2 k (λa c e=>b.sep a e c),
  λa c o=>by
   rcases q a c with d|d
   ·exact b.no1 a d o
   ·have:=(b.sub a o).2;omega,
  b.no2,λa c r=>by
   rcases q a c with d|d
   ·exact b.sep a d r
   ·have:=(b.own2.lt a r).2;omega,
  b.fr.trans k (λg f e=>by have:=(b.own1.lt g e).1;omega)⟩
theorem BookS.made {w:World}{b:Nat}(a:w.heap[b]?=some (.cells #[.slice none 0 0,.slice none 0 0] 147 (0,0))):BookS (λe=>e=b) w b [] [] :=
 ⟨.slice none 0 0,.slice none 0 0,[],⟨a,World.ownsRow_nil _ _ _ _,World.ownsRow_nil _ _ _ _,rfl,rfl,by simp,by simp[Value.ownBlock],by simp[Value.ownBlock],by simp[Value.ownBlock]⟩,λg c=>by
  rcases (zcd a).1 c with a|a|a
  ·exact a
  ·simp[Value.ownBlock]at a
  ·simp[Value.ownBlock]at a,by intro f h i d;simp at d⟩
theorem yep {FL:List (List PL)}:∀ {b:Nat}{a:List PL × List Nat × List Nat},RootsOK b a->(∀f∈FL,GoodF f)->a.1.length<=(FL.foldl zbq a).1.length:=by induction FL with| nil=>{intro b a _ _;exact xW _}| cons c l k =>{intro b a d hF;have e:=hF c kW;have h:=k (d.step e) (λg j=>hF g (uX _ j));have i:=(zhm d.ok c e.opts).2.2.2.2.length_le;rw[List.foldl_cons];exact vV i h}
theorem RootsOK.start:RootsOK 0 ([],[],[]):=⟨BookOK.nil,BookUp.nil,by simp,by simp⟩
theorem zp7 {NL:List PL}{BL:List Nat}{FL:List (List PL)}{j:Nat}(a:j<FL.length):zc9 NL BL (FL.take (j+1))=zbq (zc9 NL BL (FL.take j)) FL[j]:=by rw[yX a,zub]
theorem zpe {R:Nat->Prop}(lv rv:Value)(FL FR:List (List PL))(w:World)(hL:FormsL R w lv FL)(hR:FormsL R w rv FR)(gL:∀c∈FL,GoodF c)(gR:∀c∈FR,GoodF c)(nL:FL.length<=1000)(nR:FR.length<=1000) : Calls Tryz.prog 92 #[lv,rv] w λe w'=>∃v',e=.returned (.agg #[v'])/\NodeOwn w.heap.size w' v' (zm6 FL FR)/\Fr NoM w w':=by(obtain⟨VL,b5,au,aF⟩:=hL;obtain⟨VR,b6,aw,aH⟩:=hR;obtain⟨al,cl,rfl,b7,b9,aA⟩:=b5;obtain⟨ar,cr,rfl,ba,bc,aB⟩:=b6;rw[au,aw];have aU:=Hh aF;have aW:=Hh aH;have aQ:=Hh aA;have aR:=Hh aB;have GL:=Hh gL;have GR:=Hh gR;have aX:=Hh au;have aY:=Hh aw;clear aF aH aA aB gL gR au aw b7 b9 ba bc;go_enter Tryz.func92,Tryz.ntmps92;go_wp2_with fail;obtain⟨k,a6⟩:=eX (w.alloc (.cells #[.slice none 0 0] 26));have J:k.heap.size=w.heap.size+1:=by rw[a6];simp);(have aC:Fr NoM w k:=by rw[a6];exact(nW w).alloc _);(have az:k.heap[w.heap.size]?=some (.cells #[.slice none 0 0] 26 (0,0)):=by rw[a6];exact xJ w _);rw[<-a6];obtain⟨t,aa⟩:=eX (w.heap.size+1);obtain⟨Z,P⟩:=eX (((k.alloc (.cells #[.slice none 0 0,.slice none 0 0] 147)).alloc (.cells #[] 3)).alloc (.cells #[] 3));have aJ:Mk k Z t ([],[]) (λU=>U=t) (.slice (some ⟨t+1,0,none⟩) 0 0) [] (.slice (some ⟨t+1+1,0,none⟩) 0 0) []:=by{(rw[aa];have hF:Fr NoM k Z:=by rw[P];exact(((nW k).alloc _).alloc _).alloc _);(have be:Z.heap.size=w.heap.size+4:=by rw[P];simp[J]);have k0:Z.heap[w.heap.size+1]?=some (.cells #[.slice none 0 0,.slice none 0 0] 147 (0,0)):=by{have i:=xJ k (.cells #[.slice none 0 0,.slice none 0 0] 147);rw[J]at i;rw[P];exact(((nW _).alloc _).alloc _).heap i id};have D:Z.ownsRow k.heap.size 3 1 (.slice (some ⟨w.heap.size+1+1,0,none⟩) 0 0) 0 []:=by{have i:=y3 (base:=k.heap.size) (e:=3) (size:=1) (k.alloc (.cells #[.slice none 0 0,.slice none 0 0] 147)) #[] 0 (by simp) (by decide) (by simp);simp only[xZ,J]at i;rw[P,J];exact za1 i ((nW _).alloc _) kP};have o2:Z.ownsRow k.heap.size 3 1 (.slice (some ⟨w.heap.size+1+1+1,0,none⟩) 0 0) 0 []:=by{have i:=y3 (base:=k.heap.size) (e:=3) (size:=1) ((k.alloc (.cells #[.slice none 0 0,.slice none 0 0] 147)).alloc (.cells #[] 3)) #[] 0 (by simp;omega) (by decide) (by simp);simp only[xZ,J]at i;rw[P,J];exact i};refine⟨BookS.made k0,λU hq=>⟨by omega,by omega⟩,D,o2,λW I e=>?_,λW I e=>?_,λW I e=>?_,hF⟩;{have I:w.heap.size+1+1=W:=yK I;omega};{have I:w.heap.size+1+1+1=W:=yK I;omega};{have I:w.heap.size+1+1=W:=yK I;have e:w.heap.size+1+1+1=W:=yK e;omega}};rw[<-P];have aZ:=Hh aJ;have ad:=Hh aC;have aP:=Hh az;have ai:=Hh J;clear aJ aC az J P a6;rw[<-aa];have bd:=Hh aa;clear aa;go_loopw [6,8] (λv0 S ak=>∃(a:Nat) (S1:Nat->Prop) (Y:Value),Y=v0/\S=.int .i64 a/\a<=FL.length/\Mk k ak t ((zc9 [] [] (FL.take a)).1,(zc9 [] [] (FL.take a)).2.1) S1 Y (zc9 [] [] (FL.take a)).2.2 (.slice (some ⟨t+1+1,0,none⟩) 0 0) []) (λ_ S _=>FL.length-(intOf S).toNat);(case atStart=>exact⟨0,_,_,rfl,rfl,yV _,aZ.out⟩);case round =>(obtain⟨a,S1,Y,rfl,rfl,hj,f⟩:=hrel;obtain⟨w7,rfl⟩:=eX wr;by_cases B:a<FL.length;{have b:=zfi (FL:=FL.take a) RootsOK.start (λc i=>GL.out c (List.mem_of_mem_take i));(have C:=zp7 (NL:=[]) (BL:=[]) B;have p:=GL.out FL[a] (y7 _);obtain⟨c,M⟩:=eX (FL[a]);have a1:FL[a]?=some c:=by rw[M];exact xQ _);(obtain⟨T,O⟩:∃T,VL[a]?=some T:=⟨VL[a]'(by rw[aX.out];exact B),xQ _⟩;have N:=(aU.out a T c O a1).low;obtain⟨an,cn,rfl,a9⟩:=id N;clear a9;obtain⟨L,D,rfl,c1⟩:=aQ.out a _ O;have ix:=zha (some ⟨L,D,none⟩) FL.length cl a L D B rfl;rw[<-M]at p C;have b:RootsOK (0+120*(FL.take a).length) (zc9 [] [] (FL.take a)):=b;obtain⟨⟨r,y,x⟩,A⟩:∃V,zc9 [] [] (FL.take a)=V:=⟨_,rfl⟩;rw[A]at f b C;have Q:=ad.out.trans f.fr kP;have d1:w7.cell? ⟨L,D+a,none⟩=some (.slice an c.length cn):=Q.cell c1 id;have X:r.length<=120*a:=by have d:=b.len;rw[kQ,Nat.min_eq_left (by omega)]at d;have d:r.length<=0+120*a:=d;omega);have j:x.length=a:=by{have d:=zht (FL.take a) ([],[],[]);have d:(zc9 [] [] (FL.take a)).2.2.length=0+(FL.take a).length:=d;rw[A,kQ,Nat.min_eq_left (by omega)]at d;have d:x.length=0+a:=d;omega};have a5:=zra (R:=(· < w.heap.size)) t (.slice an c.length cn) r c y w7 f.book b.ok (N.fr0 Q) (λu hk hS=>by have d:u<w.heap.size:=hk;have:=(f.sub u hS).1;have:=ai.out;omega) p.opts (by have:=p.le;omega) (λa8 hy=>by have:=p.lens a8 hy;omega) p.pos;have ah:=Hh a5;have HM:=Hh f;have ag:=Hh C;have ac:=Hh j;have HA:=Hh A;clear a5 f C j A b X N p M a1 O c1 Q;go_wp2_with fail;refine ah.out.mono ?_;rintro e w8 ⟨S',rfl,G,s8,H⟩;have a2:=HM.out.root (s':=((addB r y c).1,(addB r y c).2.1)) G s8 H;obtain⟨h,g⟩:=eX (zfz r y c);rw[<-g];have K:=Hh a2;have HX:=Hh g;clear a2 G s8 H g d1 ix;go_wp2_with (at_builtin;refine za9 (enc:=encN) _ rfl (.tmp 20) (.tmp 27) 100 rfl k.heap.size 3 (.int .i64 0) 8 Tryz.underlying100 zab rfl Y x.length (x.map encN) rfl (za1 K.out.own1 ((nW w8).alloc _) kP) (.slice (some ⟨w8.heap.size,0,none⟩) 1 1) rfl [h] (SliceOf.one encN w8 h 3) (λ_=>rfl) (by have:=ac.out;simp;omega) (by decide) (by have:=K.out.fr.size;rw[xZ];omega) ?_);intro v9 w9 h9 z q9;have a3:=K.out.app ((nW w8).alloc _) h9 z (by rw[xZ];exact q9);have af:=Hh a3;clear a3 h9 z q9;go_wp2;go_roundw;(case rel =>(refine⟨a+1,λu=>S' u/\u<w8.heap.size,v9,rfl,by go_num,by omega,?_⟩;have i:=af.out;rw[ag.out];rw[HX.out]at i;exact i));case measure=>simp[intOf];omega};{(have aq:a=FL.length:=by omega);(subst aq;rw[y5]at f;clear B hj;have b:=zfi (FL:=FL) RootsOK.start GL.out;have b:RootsOK (0+120*FL.length) (zc9 [] [] FL):=b;have j:=zht FL ([],[],[]);have j:(zc9 [] [] FL).2.2.length=0+FL.length:=j;obtain⟨⟨l,n,o⟩,hA1⟩:∃V,zc9 [] [] FL=V:=⟨_,rfl⟩;rw[hA1]at f b j;have j:o.length=FL.length:=by have d:o.length=0+FL.length:=j;omega);have aL:RootsOK (120*FL.length) (l,n,[]):=⟨b.ok,b.up,by have d:l.length<=0+120*FL.length:=b.len;show l.length<=120*FL.length;omega,by simp⟩;have HM:=Hh f.swap;have b3:=Hh b;have aO:=Hh j;have aN:=Hh hA1;have aj:=Hh aL;clear f b j hA1 aL;go_wp2_with fail;go_loopw [7,9] (λv0 S ak=>∃(a:Nat) (S2:Nat->Prop) (a7:Value),a7=v0/\S=.int .i64 a/\a<=FR.length/\Mk k ak t ((zc9 l n (FR.take a)).1,(zc9 l n (FR.take a)).2.1) S2 a7 (zc9 l n (FR.take a)).2.2 Y o) (λ_ S _=>FR.length-(intOf S).toNat);(case atStart=>exact⟨0,_,_,rfl,rfl,yV _,HM.out⟩);case round =>(obtain⟨a,S2,a7,rfl,rfl,hj,f⟩:=hrel;obtain⟨ax,rfl⟩:=eX wr;by_cases B:a<FR.length;{have b:=zfi (FL:=FR.take a) aj.out (λc i=>GR.out c (List.mem_of_mem_take i));(have C:=zp7 (NL:=l) (BL:=n) B;have p:=GR.out FR[a] (y7 _);obtain⟨c,M⟩:=eX (FR[a]);have a1:FR[a]?=some c:=by rw[M];exact xQ _);(obtain⟨T,O⟩:∃T,VR[a]?=some T:=⟨VR[a]'(by rw[aY.out];exact B),xQ _⟩;have N:=(aW.out a T c O a1).low;obtain⟨an,cn,rfl,a9⟩:=id N;clear a9;obtain⟨L,D,rfl,c1⟩:=aR.out a _ O;have ix:=zha (some ⟨L,D,none⟩) FR.length cr a L D B rfl;rw[<-M]at p C;have b:RootsOK (120*FL.length+120*(FR.take a).length) (zc9 l n (FR.take a)):=b;obtain⟨⟨r,y,x⟩,A⟩:∃V,zc9 l n (FR.take a)=V:=⟨_,rfl⟩;rw[A]at f b C;have Q:=ad.out.trans f.fr kP;have d1:ax.cell? ⟨L,D+a,none⟩=some (.slice an c.length cn):=Q.cell c1 id;have X:r.length<=120*FL.length+120*a:=by have d:=b.len;rw[kQ,Nat.min_eq_left (by omega)]at d;exact d);have j:x.length=a:=by{have d:=zht (FR.take a) (l,n,[]);have d:(zc9 l n (FR.take a)).2.2.length=0+(FR.take a).length:=d;rw[A,kQ,Nat.min_eq_left (by omega)]at d;have d:x.length=0+a:=d;omega};have a5:=zra (R:=(· < w.heap.size)) t (.slice an c.length cn) r c y ax f.book b.ok (N.fr0 Q) (λu hk hS=>by have d:u<w.heap.size:=hk;have:=(f.sub u hS).1;have:=ai.out;omega) p.opts (by have:=p.le;omega) (λa8 hy=>by have:=p.lens a8 hy;omega) p.pos;have ah:=Hh a5;have a0:=Hh f;have ag:=Hh C;have ac:=Hh j;have HA:=Hh A;clear a5 f C j A b X N p M a1 O c1 Q;go_wp2_with fail;refine ah.out.mono ?_;rintro e E ⟨S',rfl,G,s8,H⟩;have a2:=a0.out.root (s':=((addB r y c).1,(addB r y c).2.1)) G s8 H;obtain⟨h,g⟩:=eX (zfz r y c);rw[<-g];have K:=Hh a2;have HX:=Hh g;clear a2 G s8 H g d1 ix;go_wp2_with (at_builtin;refine za9 (enc:=encN) _ rfl (.tmp 35) (.tmp 42) 100 rfl k.heap.size 3 (.int .i64 0) 8 Tryz.underlying100 zab rfl a7 x.length (x.map encN) rfl (za1 K.out.own1 ((nW E).alloc _) kP) (.slice (some ⟨E.heap.size,0,none⟩) 1 1) rfl [h] (SliceOf.one encN E h 3) (λ_=>rfl) (by have:=ac.out;simp;omega) (by decide) (by have:=K.out.fr.size;rw[xZ];omega) ?_);intro v9 w9 h9 z q9;have a3:=K.out.app ((nW E).alloc _) h9 z (by rw[xZ];exact q9);have af:=Hh a3;clear a3 h9 z q9;go_wp2;go_roundw;(case rel =>(refine⟨a+1,λu=>S' u/\u<E.heap.size,v9,rfl,by go_num,by omega,?_⟩;have i:=af.out;rw[ag.out];rw[HX.out]at i;exact i));case measure=>simp[intOf];omega};{(have aq:a=FR.length:=by omega);subst aq;rw[y5]at f;clear B hj;have b:=zfi (FL:=FR) aj.out GR.out;have a4:=yep (FL:=FR) aj.out GR.out;have b:RootsOK (120*FL.length+120*FR.length) (zc9 l n FR):=b;have a4:l.length<=(zc9 l n FR).1.length:=a4;have j:=zht FR (l,n,[]);have j:(zc9 l n FR).2.2.length=0+FR.length:=j;obtain⟨⟨s,F,q⟩,hA2⟩:∃V,zc9 l n FR=V:=⟨_,rfl⟩;rw[hA2]at f b j a4;have X:s.length<=120*FL.length+120*FR.length:=b.len;have am:∀h∈o,h<s.length:=λh g=>vJ (b3.out.lt h g) a4;have ao:∀h∈q,h<s.length:=λh g=>b.lt h g;(have j:q.length=FR.length:=by have d:q.length=0+FR.length:=j;omega);obtain⟨k1,k2,k3,k4,k5⟩:=ybu b.ok o q am ao;have aM:=ybt (BL:=F) b.up o q;have aE:zm6 FL FR=zdp (putB s F o q).1 (putB s F o q).2.1 (putB s F o q).2.2:=by{unfold zm6;simp only[aN.out,hA2]};have aK:=zih t Y a7 s F o q ax f.book (SliceOf.of_owns f.own2 rfl) (SliceOf.of_owns f.own1 rfl) (λa h g=>am h (xK g)) (λa h g=>ao h (xK g)) (by have:=aO.out;omega) (by omega) (by omega) (λh g=>by have:=b.ok.lt s.length (xW _) h g;omega);have aI:=aM.lens k1;have b2:=Hh aK;have a0:=Hh f;have aT:=Hh aE;have HK:=Hh (And.intro k1 (And.intro k2 (And.intro k3 aI)));have ay:=Hh X;clear aK f aE k1 k2 k3 k4 k5 aI X aM am ao j a4 b hA2;go_wp2_with fail;refine b2.out.mono ?_;rintro e E ⟨rfl,G,H⟩;obtain⟨h,g⟩:=eX ((putB s F o q).2.2);have aG:=zrz t h _ _ E G HK.out.1 (by rw[g];exact HK.out.2.1) (by have:=HK.out.2.2.1;have:=ay.out;omega) (λa8 hy=>by have:=HK.out.2.2.2 a8 hy;have:=HK.out.2.2.1;have:=ay.out;omega);have aD:Fr NoM k E:=a0.out.fr.trans H (λU hq e=>by{have d:=(a0.out.sub U (a0.out.book.m U e)).1;omega});rw[<-g];have aV:=Hh aG;have ae:=Hh aD;have HX:=Hh g;clear aG aD G H g;go_wp2_with fail;refine aV.out.mono ?_;(rintro e ab ⟨v',rfl,n9,z⟩;obtain⟨av,cv,rfl,a9⟩:=id n9.nodeL;clear a9;have ap:=(ae.out.trans z kP).heap aP.out id;have k9:ab.cell? ⟨w.heap.size,0,none⟩=some (.slice none 0 0):=by rw[xX ab _ 0 _ _ _ ap];rfl);(have z9:ab.frozen? ⟨w.heap.size,0,none⟩=false:=by simp[World.frozen?,ap]);have b0:=Hh n9;have aS:=Hh z;clear n9 z ap;go_wp2;refine yY (v:=.agg #[.slice av (zdp (putB s F o q).1 (putB s F o q).2.1 h).length cv]) (by simp[results,Tryz.results92,go_sem,k9]) rfl ?_;(have b4:w.heap.size<E.heap.size:=by have:=ae.out.size;have:=ai.out;omega);refine⟨_,rfl,?_,(((ad.out.trans ae.out kP).trans aS.out kP)).setCell _ _ (λi=>absurd i (Nat.lt_irrefl _))⟩;rw[aT.out,<-HX.out];refine(b0.out.fr (Fr.set ab ⟨w.heap.size,0,none⟩ _) (λU hq e=>?_)).mono (Nat.le_of_lt b4);have e:U=w.heap.size:=e;omega})})
theorem zzt {R:Nat->Prop}(c d:Value)(FL FR:List (List PL))(w:World)(j:FormsL R w c FL)(k:FormsL R w d FR)(gL:∀b∈FL,GoodF b)(gR:∀b∈FR,GoodF b)(l:FL.length<=1000)(m:FR.length<=1000) : Calls Tryz.prog 92 #[c,d] w λf e=>∃a,f=.returned (.agg #[a])/\NodeL (λg=>w.heap.size<=g) encN e a (zm6 FL FR)/\Fr NoM w e:=by refine(zpe c d FL FR w j k gL gR l m).mono ?_;rintro f e ⟨a,rfl,i,h⟩;exact⟨a,rfl,i.nodeL,h⟩
theorem SliceOf.unmap {b c:Type}{enc:b->Value}{enc':c->Value}{w:World}{v:Value}{L:List b}{f:b->c}(h:SliceOf enc' w v (L.map f))(n:∀a,enc' (f a)=enc a):SliceOf enc w v L:=by obtain⟨d,g,rfl,i,j,k⟩:=h;refine⟨d,g,by simp,by simpa using i,j,λp a o=>?_⟩;obtain⟨e,q,l,m⟩:=k p (f a) (by rw[vZ,o];rfl);exact⟨e,q,l,by rw[<-n];exact m⟩
theorem NodeL.toI {R:Nat->Prop}{w:World}{v:Value}{Fm:List PL}(h:NodeL R encN w v Fm):NodeL R encI w v (i2 Fm):=by obtain⟨c,e,rfl,i,j,k⟩:=h;refine⟨c,e,by rw[zb9],by rw[zb9];exact i,j,λp A o=>?_⟩;obtain⟨z,n,rfl⟩:=ycv o;obtain⟨d,r,q,u,l,m,f,g,x,y,s,t⟩:=k p z n;exact⟨d,r,q,u,l,m,f,g,Nats.ints x,Nats.ints y,λb=>s (λa=>b (by rw[a];rfl)),λb=>t (λa=>b (by rw[a];rfl))⟩
theorem NodeL.ofI {R:Nat->Prop}{w:World}{v:Value}{Fm:List PL}(a:NodeL R encI w v (i2 Fm)):NodeL R encN w v Fm:=by obtain⟨g,i,rfl,d,l,m⟩:=a;rw[zb9]at d ⊢;refine⟨g,i,rfl,d,l,λq f p=>?_⟩;obtain⟨h,s,r,x,n,o,j,k,y,z,t,u⟩:=m q (ints f.1,ints f.2) (by unfold i2;rw[vZ,p];rfl);have e:∀b:List Nat,b≠[]->ints b≠[]:=λb a c=>a (by unfold ints at c;simpa using c);exact⟨h,s,r,x,n,o,j,k,SliceOf.unmap y (λ_=>rfl),SliceOf.unmap z (λ_=>rfl),λa=>t (e _ a),λa=>u (e _ a)⟩
theorem yg1 {Fm:List PL}(d:zax Fm=true)(g:∀(c:Nat) (a:PL),Fm[c]?=some a->(∀b∈a.1,b<c)/\∀b∈a.2,b<c):GoodF Fm:=by obtain⟨e,i,f⟩:=of_decide_eq_true d;exact⟨by omega,e,g,λa h=>by have:=f a h;omega⟩
theorem zm8 {R:Nat->Prop}(nv:Value)(b:List (List Int × List Int))(w:World)(p:NodeL R encI w nv b) :
  Calls Tryz.prog 72 #[.agg #[nv]] w λd w'=>∃e,d=.returned (.bool e)/\(e=true↔zar b)/\Fr NoM w w':=by
 have hN:=p.low;obtain⟨l,j,rfl,q,h2,h3⟩:=id p;clear p q h2;obtain⟨t,Y⟩:=eX (w.alloc (.cells #[.slice l b.length j] 26));have a9:Fr NoM w t:=by rw[Y];exact(nW w).alloc _
 have A:t.heap[w.heap.size]?=some (.cells #[.slice l b.length j] 26 (0,0)):=by rw[Y];exact xJ w _
 have HK:=Hh (λc (i:Fr NoM t c)=>show c.cell? ⟨w.heap.size,0,none⟩=some (.slice l b.length j)from by rw[xX c _ 0 _ _ _ (i.heap A id)];rfl);have aH:=Hh (λ(a:Nat) (n:a<b.length) (c:World) (i:Fr NoM t c)=>show ∃e o G H v x,l=some ⟨e,o,none⟩/\c.cell? ⟨e,o+a*2,none⟩=some (.slice G b[a].1.length H)/\c.cell? ⟨e,o+a*2+1,none⟩=some (.slice v b[a].2.length x)/\Ints c (.slice G b[a].1.length H) b[a].1/\Ints c (.slice v b[a].2.length x) b[a].2 from by
  obtain⟨e,o,lv,rv,ha,_,c1,Q,D,E,_,_⟩:=h3 a b[a] (xQ n);have S:=a9.trans i kP;have D:=D.fr0 S;have E:=E.fr0 S;obtain⟨G,H,rfl,_⟩:=id D;obtain⟨v,x,rfl,_⟩:=id E;exact⟨e,o,G,H,v,x,ha,S.cell c1 id,S.cell Q id,D,E⟩)
 have HN:=Hh hN;have K:=Hh a9;have aw:=Hh A;have aN:=HK.out t (Fr.refl _ _);clear hN a9 A h3;go_enter Tryz.func72,Tryz.ntmps72;go_wp2_with fail;rw[<-Y];clear Y;refine(zpf (.slice l b.length j) b t (HN.out.fr0 K.out)).mono ?_
 rintro d w2 ⟨rfl,f2⟩;have F2:=Hh f2;clear f2 aN;cases X:zax b with
 | false =>
  have L:=Hh X;clear X;go_wp2;go_ret;exact⟨false,rfl,⟨λd=>(by cases d),λd=>by have:=d.1;rw[L.out]at this;cases this⟩,K.out.trans F2.out kP⟩
 | true =>
  have L:=Hh X;clear X;go_wp2_with fail;go_loopw [3] (λac c=>∃a:Nat,ac=.int .i64 a/\a<=b.length/\risI b a/\Fr NoM t c) (λac _=>b.length-(intOf ac).toNat)
  case atStart=>exact⟨0,rfl,yV _,λad J hj=>by omega,F2.out⟩
  case round =>
   obtain⟨a,rfl,n,an,am⟩:=hrel;obtain⟨k,rfl⟩:=eX wr;have a3:=Hh an;have u:=Hh am;have aG:=Hh n;clear an am n;have k3:=HK.out k u.out;have aT:b.length<=120:=(of_decide_eq_true L.out).1;by_cases B:a<b.length
   ·obtain⟨e,o,G,H,v,x,ha,c1,Q,D,E⟩:=aH.out a B k u.out
    subst ha;have ix:=zbi (some ⟨e,o,none⟩) b.length j a e o B rfl;have a8:=zmr (.slice G b[a].1.length H) b[a].1 0 ((a:Int)-1) k D;obtain⟨b1,A⟩:=eX (zau 0 ((a:Int)-1) none b[a].1);obtain⟨b2,a4⟩:=eX (zau 0 ((a:Int)-1) none b[a].2);have ah:=Hh (λc (i:Fr NoM k c)=>zmr (.slice v b[a].2.length x) b[a].2 0 ((a:Int)-1) c (E.fr0 i));rw[<-A]at a8;rw[<-a4]at ah;have P:=Hh (λc (i:Fr NoM k c)=>show c.cell? ⟨w.heap.size,0,none⟩=some (.slice (some ⟨e,o,none⟩) b.length j)/\c.cell? ⟨e,o+a*2+1,none⟩=some (.slice v b[a].2.length x)from⟨i.cell k3 id,i.cell Q id⟩);have ay:=Hh a8;have af:=Hh A;have ag:=Hh a4;clear a8 A a4 D E Q;go_wp2_with fail;refine ay.out.mono ?_
    rintro d w4 ⟨rfl,N,ap⟩;have W:Fr NoM k w4:=by rw[ap];exact⟨rfl,rfl,rfl,xW _,λ_ _ _=>rfl⟩
    obtain⟨k4,c4⟩:=P.out w4 W;have ak:=ah.out w4 W;have az:=Hh ak;have a2:=Hh W;clear ak W ap k3 c1;cases m:b1 with
    | false =>
     have a1:=Hh (show zau 0 ((a:Int)-1) none b[a].1=false from by rw[<-af.out,m]);subst m;go_wp2;go_ret;exact⟨false,rfl,⟨λd=>(by cases d),λd=>by have q:=(d.2.1 a b[a] B (xQ B)).1;rw[a1.out]at q;cases q⟩,(K.out.trans u.out kP).trans a2.out kP⟩
    | true =>
     have aE:=Hh (show zau 0 ((a:Int)-1) none b[a].1=true from by rw[<-af.out,m]);subst m;go_wp2_with fail;refine az.out.mono ?_
     rintro d f ⟨rfl,q5,s⟩;have I:Fr NoM w4 f:=by rw[s];exact⟨rfl,rfl,rfl,xW _,λ_ _ _=>rfl⟩
     have ai:=Hh I;clear I s k4 c4;cases m:b2 with
     | false =>
      have a1:=Hh (show zau 0 ((a:Int)-1) none b[a].2=false from by rw[<-ag.out,m]);subst m;go_wp2;go_ret;exact⟨false,rfl,⟨λd=>(by cases d),λd=>by have q:=(d.2.1 a b[a] B (xQ B)).2;rw[a1.out]at q;cases q⟩,((K.out.trans u.out kP).trans a2.out kP).trans ai.out kP⟩
     | true =>
      have aF:=Hh (show zau 0 ((a:Int)-1) none b[a].2=true from by rw[<-ag.out,m]);subst m;go_wp2;go_roundw
      case rel =>
       refine⟨a+1,by go_num,by omega,λad J hj C=>?_,(u.out.trans a2.out kP).trans ai.out kP⟩;by_cases d:ad=a
       ·subst d
        rw[xQ B]at C;cases C
        exact⟨aE.out,aF.out⟩
       ·exact a3.out ad J (by omega) C
      case measure=>simp[intOf];omega
   ·have aO:a=b.length:=by have:=aG.out;omega
    subst aO;obtain⟨g,y,ho,hu⟩:=zmz a3.out;have r:GoodF g:=yg1 (by rw[<-zmb,<-y];exact L.out) ho;have aa:∀e:Bool,e=decide (i2 (zdp (addB [] [] g).1 (addB [] [] g).2.1 (zfz [] [] g))=b)->(e=true↔zar b):=λe m=>by
     rw[m,decide_eq_true_iff];constructor
     ·intro d
      refine⟨L.out,a3.out,λF' aL=>?_⟩;have e1:g=F':=zta (y.symm.trans aL);subst e1;rw[y]at d;exact zta d
     ·intro d
      rw[d.2.2 g y];exact y.symm
    obtain⟨k1,k2,av,k4,k5⟩:=zhm BookOK.nil g r.opts;have ao:=ydx (BL:=[]) BookUp.nil g;have ab:=ao.lens k1;obtain⟨F,z⟩:=eX ((addB [] [] g).1);obtain⟨O,T⟩:=eX ((addB [] [] g).2.1);obtain⟨a0,Z⟩:=eX (zfz [] [] g);have au:a0<F.length:=by
     rw[Z,z];unfold zfz;have hp:=r.pos;rw[xY,xQ (by omega)];exact av _ (y7 _)
    have aP:F.length<=120:=by have q:=r.le;have h2:(addB [] [] g).1.length<=0+g.length:=k4;rw[z];omega
    rw[<-z,<-T,<-Z]at aa;rw[<-z,<-T]at k1;rw[<-z]at ab;obtain⟨f,s⟩:=eX (k.alloc (.cells #[.slice none 0 0,.slice none 0 0] 147));have I:Fr NoM k f:=by rw[s];exact(nW k).alloc _
    have a5:f.heap[k.heap.size]?=some (.cells #[.slice none 0 0,.slice none 0 0] 147 (0,0)):=by rw[s];exact xJ k _
    obtain⟨h,U⟩:=eX k.heap.size;rw[<-U]at a5;have aq:w.heap.size<h:=by
     have e1:=u.out.size;have e2:w.heap.size<t.heap.size:=(yJ.1 aw.out).1;omega
    have V:=(K.out.trans u.out kP).trans I kP;have aj:NodeL (· < w.heap.size) encN f (.slice l b.length j) g:=by
     have p:=HN.out.fr0 V;rw[y]at p ⊢;exact p.ofI
    have aI:=Hh (λc (i:Fr NoM f c)=>show Calls Tryz.prog 126 #[.pointer (some ⟨h,0,none⟩),.agg #[.slice l b.length j]] c λd w'=>∃M,d=.returned (.int .i64 (a0:Nat))/\BookS M w' h F O/\(∀a,M a->a=h\/c.heap.size<=a)/\Fr (λa=>a=h) c w' from by
     have p:=zra (R:=(· < w.heap.size)) h (.slice l b.length j) [] g [] c ((BookS.made a5).fr0 i) BookOK.nil (aj.fr0 i) (λa n d=>by have n:a<w.heap.size:=n;omega) r.opts (by have:=r.le;simp;omega) (λJ C=>by have:=r.lens J C;omega) r.pos;rw[<-z,<-T,<-Z]at p;exact p)
    have aC:=Hh (λ(M:Nat->Prop) (c:World) (e:BookS M c h F O)=>zn9 h a0 F O c e k1 au (by omega) (λJ C=>by have:=ab J C;omega));have aJ:=Hh (λc (i:Fr (λa=>a=h) f c) (R2:Nat->Prop) (v':Value) (ae:List PL) (aQ:NodeL R2 encN c v' ae)=>zzr v' (.slice l b.length j) (i2 ae) b c aQ.toI ((HN.out.fr0 V).fr i (λa n d=>by have n:a<w.heap.size:=n;omega)));have P:=Hh (λc (i:Fr (λa=>a=h) f c)=>show c.cell? ⟨w.heap.size,0,none⟩=some (.slice l b.length j)from i.cell (I.cell k3 id) (λd=>by have d:w.heap.size=h:=d;omega));have aB:=Hh aa;have aR:=Hh U;have aA:=Hh V;have aK:=Hh aq;clear aa I a5 V aj aq k1 k2 av k4 k5 ao ab z T Z au aP r ho hu y;go_upto_region 9 with fail;rw[<-s,<-U];have aS:=Hh s;clear s U k3;have F0:Fr NoM f f.drew:=(nW f).drew;have G0:Fr (λa=>a=h) f f.drew:=(Fr.refl _ f).drew;have aM:=P.out f (Fr.refl _ _);go_region_held3 (λ(c:World)=>c.cell? ⟨w.heap.size,0,none⟩=some (.slice l b.length j))
     (exact P.out _ (by assumption))
     (first
      | (go_at_call 126;(with_reducible refine(aI.out _ (by assumption)).mono ?_);rintro d w6 ⟨M,rfl,b6,s6,f6⟩;have G6:Fr (λa=>a=h) f w6:=Fr.trans (by assumption) f6 kP)
      | (go_at_call 125;(with_reducible refine(aC.out _ _ b6).mono ?_);rintro d w7 ⟨v7,rfl,n7,f7⟩;obtain⟨a7,c7,rfl,z7⟩:=id n7;clear z7;have G7:Fr (λa=>a=h) f w7:=Fr.trans G6 f7 (λ_ _ N=>N.elim))
      | (go_at_call 124;(with_reducible refine(aJ.out _ (by assumption) _ _ _ n7).mono ?_);rintro d w8 ⟨rfl,f8⟩;have G8:Fr (λa=>a=h) f w8:=Fr.trans G7 f8 (λ_ _ N=>N.elim))
      | fail)
    all_goals
     have aD:=Hh G8;clear n7 f7 f8 G6 G7 G8 b6 s6 f6 aM F0 G0;obtain⟨bR,a6⟩:=eX (decide (i2 (zdp F O a0)=b));rw[<-a6];have ax:=Hh a6;clear a6;go_wp2;go_ret;refine⟨bR,rfl,aB.out bR ax.out,aA.out.trans aD.out (λN hq d=>?_)⟩;have:=aK.out;omega
structure BkSt (w1 W:World) (bb:Nat) (V:List PL) (BV:List Nat) (S:Nat->Prop) (v1:Value) (A1 c1:List Nat) (v2:Value) (A2 c2:List Nat) (v3:Value) (A3 c3:List Nat):Prop where
 book:BookS S W bb V BV
 ok:PoolOK V BV
 sub:∀q,S q->w1.heap.size<=q/\q<W.heap.size
 o1:W.ownsRow w1.heap.size 3 1 v1 A1.length (A1.map encN)
 o2:W.ownsRow w1.heap.size 3 1 v2 A2.length (A2.map encN)
 o3:W.ownsRow w1.heap.size 3 1 v3 A3.length (A3.map encN)
 n1:∀b,v1.ownBlock=some b->¬S b
 n2:∀b,v2.ownBlock=some b->¬S b
 n3:∀b,v3.ownBlock=some b->¬S b
 s12:∀b,v1.ownBlock=some b->v2.ownBlock≠some b
 s13:∀b,v1.ownBlock=some b->v3.ownBlock≠some b
 s23:∀b,v2.ownBlock=some b->v3.ownBlock≠some b
 r1:RowC V A1 c1
 r2:RowC V A2 c2
 r3:RowC V A3 c3
 fr:Fr NoM w1 W
section
variable {w1 W W' Wa:World}{bb:Nat}{V:List PL}{BV:List Nat}{S S':Nat->Prop}{v1 v2 v3 v4:Value}{A1 c1 A2 c2 A3 c3:List Nat}{x c:Nat}
theorem BkSt.fr0 (a:BkSt w1 W bb V BV S v1 A1 c1 v2 A2 c2 v3 A3 c3)(b:Fr NoM W W'):BkSt w1 W' bb V BV S v1 A1 c1 v2 A2 c2 v3 A3 c3 :=
 ⟨a.book.fr0 b,a.ok,λd c=>⟨(a.sub d c).1,vJ (a.sub d c).2 b.size⟩,za1 a.o1 b kP,za1 a.o2 b kP,za1 a.o3 b kP,a.n1,a.n2,a.n3,a.s12,a.s13,a.s23,a.r1,a.r2,a.r3,a.fr.trans b kP⟩
theorem BkSt.app (a:BkSt w1 W bb V BV S v1 A1 c1 v2 A2 c2 v3 A3 c3)(n:Fr NoM W Wa)(q:W'.ownsRow w1.heap.size 3 1 v4 (A1.length+1) (A1.map encN ++ [x].map encN))(g:Fr (Own1 v1) Wa W')(h:v4.ownBlock=v1.ownBlock\/∃b,v4.ownBlock=some b/\Wa.heap.size<=b)(r:x<V.length)(o:(za0 V).getD x 0=c) :
  BkSt w1 W' bb V BV S v4 (A1 ++ [x]) (c1 ++ [c]) v2 A2 c2 v3 A3 c3:=by
 have a:=a.fr0 n;have k:∀b,v4.ownBlock=some b->v1.ownBlock=some b\/Wa.heap.size<=b:=λb d=>by
  rcases h with e|⟨t,e,m⟩
  ·rw[e]at d;exact .inl d
  ·rw[e]at d;cases d;exact .inr m
 exact⟨a.book.fr g (λs p f=>a.n1 s f p),a.ok,λj h=>⟨(a.sub j h).1,vJ (a.sub j h).2 g.size⟩,by rw[yZ,vQ];exact q,za1 a.o2 g (λb d f=>a.s12 b f d),za1 a.o3 g (λb d f=>a.s13 b f d),
  λb d l=>by
   rcases k b d with e|e
   ·exact a.n1 b e l
   ·have:=(a.sub b l).2;omega,
  a.n2,a.n3,λb d i=>by
   rcases k b d with e|e
   ·exact a.s12 b e i
   ·have:=(a.o2.lt b i).2;omega,λb d i=>by
   rcases k b d with e|e
   ·exact a.s13 b e i
   ·have:=(a.o3.lt b i).2;omega,a.s23,a.r1.snoc r o,a.r2,a.r3,
  a.fr.trans g (λj h f=>by have:=(a.o1.lt j f).1;omega)⟩
theorem BkSt.nats1 (a:BkSt w1 W bb V BV S v1 A1 c1 v2 A2 c2 v3 A3 c3):Nats W v1 A1:=SliceOf.of_owns a.o1 rfl
end
structure BkN (U:List Nat) (S:Nat->Prop) (W:World) (bb:Nat) (V:List PL) (BV:List Nat):Prop where
 book:BookS S W bb V BV
 ok:PoolOK V BV
 lt:∀q,S q->q<W.heap.size
 inU:∀x,x<V.length->(za0 V).getD x 0∈U
def BkPost (U:List Nat)(j:Nat)(w:World)(f:Nat->Prop)(V:List PL)(c:Nat)(e:Ending)(h:World):Prop :=
 ∃(b:Nat) (a:List PL) (i:List Nat) (g:Nat->Prop),e=.returned (.int .i64 (b:Int))/\BkN U g h j a i/\V <+: a/\(∀d,g d->f d\/w.heap.size<=d)/\Fr f w h/\b<a.length/\(za0 a).getD b 0=c
section
variable {U:List Nat}{S:Nat->Prop}{w w':World}{bb:Nat}{V:List PL}{BV:List Nat}
theorem BkN.fr0 (a:BkN U S w bb V BV)(b:Fr NoM w w'):BkN U S w' bb V BV:=⟨a.book.fr0 b,a.ok,λd c=>vJ (a.lt d c) b.size,a.inU⟩
theorem BkN.len (a:BkN U S w bb V BV):V.length<=U.length:=zde a.ok a.inU
theorem BkN.start {a:World}(b:a.heap[bb]?=some (.cells #[.slice none 0 0,.slice none 0 0] 147 (0,0))):BkN U (λc=>c=bb) a bb [] [] :=
 ⟨BookS.made b,PoolOK.nil,λc d=>by
  have:=(yJ.1 b).1;rw[d];exact this,λf e=>by simp at e⟩
theorem BkPost.of0 {b:World}{c:Nat}{e:Ending}(a:Fr NoM b w)(h:BkPost U bb w S V c e w'):BkPost U bb b S V c e w':=by obtain⟨p,g,d,f,i,j,k,l,m,n⟩:=h;exact⟨p,g,d,f,i,j,k,λq o=>(l q o).imp_right (vV a.size),a.any.trans m kP,n⟩
theorem yex (g h:Value)(L R d e:List Nat)(a:BkN U S w bb V BV)(p:Nats w g L)(q:Nats w h R)(l:RowC V L d)(n:RowC V R e)(s:mkC d e∈U)(E:U.length<1000000)(x:L.length<1000000000)(y:R.length<1000000000) : Calls Tryz.prog 140 #[.pointer (some ⟨bb,0,none⟩),g,h] w λi o=>BkPost U bb w S V (mkC d e) i o:=by have F:=a.len;refine(zih bb g h V BV L R w a.book p q (λu c b=>l.1 c (xK b)) (λu c b=>n.1 c (xK b)) x y (by omega) (λc b=>by have:=(zex a.ok).lt V.length (xW _) c b;omega)).mono ?_;rintro i o ⟨rfl,j,r⟩;obtain⟨A,B,C,k⟩:=zg0 a.ok l n;rw[zd2 a.ok]at j ⊢;have t:=a.book.m;refine⟨(za5 V BV L R).2.2,(za5 V BV L R).1,(za5 V BV L R).2.1,_,rfl,⟨j.cut,A,λz f=>f.2,zhv a.inU (by rw[k];exact s)⟩,B,λz f=>f.1,r.mono (λv _ D=>t v D),C,k⟩
end
