import Derived.Test.YtghekfmfonoocaaGreatDoorZtv
/- Lemmas. -/
namespace Go.Proofs.YtghekfmfonoocaaGreatDoor
set_option linter.unusedVariables false
set_option linter.unusedSimpArgs false
open Go.RowKit
theorem zzt {c:Nat}{U:List Nat}(hU:∀x,SubC c x→x∈U)(hl:U.length≤120)(hf:FewC c):zam (zac c)=true:=by
 have h:DF U (zac c):=⟨c,rfl,hU⟩;exact zn1 (by have:=h.props.2.1;omega) hf
def zh2:Nat→List Nat
 | 0=>[]
 | n+1=>zh2 n ++ [mkC (zh2 n) (zh2 n)]
def zbb (n:Nat):Nat:=mkC (zh2 n) (zh2 n)
theorem zxu (n:Nat):(zh2 n).length=n:=by
 induction n with
 | zero=>rfl
 | succ n ih=>rw[zh2,List.length_append,ih];rfl
theorem zv5:zbb 0=zar:=rfl
theorem zte (n:Nat):zh2 n=(List.range n).map zbb:=by
 induction n with
 | zero=>rfl
 | succ n ih=>rw[List.range_succ,List.map_append,←ih];rfl
theorem zpy {n x:Nat}:x∈zh2 n↔∃k,k<n/\zbb k=x:=by
 rw[zte,List.mem_map];exact⟨fun⟨k,hk,e⟩=>⟨k,List.mem_range.1 hk,e⟩,fun⟨k,hk,e⟩=>⟨k,List.mem_range.2 hk,e⟩⟩
theorem zcs {n x:Nat}:hasL (zbb n) x↔∃k,k<n/\zbb k=x:=(zab _ _ _).trans zpy
theorem zd5 {n x:Nat}:hasR (zbb n) x↔∃k,k<n/\zbb k=x:=(zad _ _ _).trans zpy
theorem yaq {n x:Nat}(h:optC (zbb n) x):∃k,k<n/\zbb k=x:=h.elim zcs.1 zd5.1
theorem zv4 {m n:Nat}(h:m≠n):geC (zbb m) (zbb n)=false:=by
 by_cases h1:m<n
 ·exact zbg (zcs.2 ⟨m,h1,rfl⟩)
 ·exact zb6 (zd5.2 ⟨n,by omega,rfl⟩)
theorem yar {m n:Nat}(h:zbb m=zbb n):m=n:=by
 by_cases e:m=n
 ·exact e
 ·have h1:=zv4 e
  rw[h,zch]at h1;cases h1
theorem zkg {n x:Nat}(h:SubC (zbb n) x):∃k,k≤n/\zbb k=x:=by
 induction h with
 | root=>exact⟨n,Nat.le_refl _,rfl⟩
 | step _ ho ih =>
  obtain⟨k,hk,rfl⟩:=ih;obtain⟨j,hj,e⟩:=yaq ho;exact⟨j,by omega,e⟩
theorem zxq {n k:Nat}(h:k≤n):SubC (zbb n) (zbb k):=by
 by_cases e:k=n
 ·rw[e];exact .root
 ·exact .step .root (.inl (zcs.2 ⟨k,by omega,rfl⟩))
theorem yas {n:Nat}(h:n≤24):FewC (zbb n):=fun x hx=>by
 obtain⟨i,hi,rfl⟩:=zkg hx;have key:∀A:List Nat,A.Nodup→(∀x∈A,∃k,k<i/\zbb k=x)→A.length≤24:=fun A hA h'=>by
  have h1:=hA.length_le_of_subset (l₂:=(List.range i).map zbb) fun z hz=>by
   obtain⟨k,hk,e⟩:=h' z hz;exact List.mem_map.2 ⟨k,List.mem_range.2 hk,e⟩
  rw[List.length_map,List.length_range]at h1;omega
 exact⟨fun A hA hA'=>key A hA fun x hx=>zcs.1 (hA' x hx),fun A hA hA'=>key A hA fun x hx=>zd5.1 (hA' x hx)⟩
theorem zxt {n:Nat}(h:n≤24):zam (zac (zbb n))=true :=
 zzt (U:=(List.range (n+1)).map zbb) (fun x hx=>by
  obtain⟨k,hk,e⟩:=zkg hx;exact List.mem_map.2 ⟨k,List.mem_range.2 (by omega),e⟩) (by rw[List.length_map,List.length_range];omega) (yas h)
structure OneSt (U:List Nat) (pb sb:Nat) (mo mc ms:Value) (w0:World) (V0:List PL) (M0 I0:Nat→Prop) (W:World) (lv:Value) (cs:List Nat) (V:List PL) (BV:List Nat) (M I:Nat→Prop) (f:Nat→Option Nat) (L:List Nat):Prop where
 st:PSt encN NegMO U pb sb mo mc ms (.map (some sb)) W V BV M I f
 nx:PNx sb w0 V0 M0 I0 W V M I
 rl:NRow w0.heap.size W lv L
 cl:RowC V L cs
 sl:∀q,lv.ownBlock=some q→¬M q/\¬I q/\q≠sb
section
variable {U:List Nat}{pb sb:Nat}{mo mc ms:Value}{w0 W W' Wa:World}{V0 V V':List PL}{BV BV' cs L:List Nat}{M0 I0 M I M' I':Nat→Prop}{f f':Nat→Option Nat}{lv v':Value}{x c:Nat}
theorem OneSt.call (h:OneSt U pb sb mo mc ms w0 V0 M0 I0 W lv cs V BV M I f L)(st:PSt encN NegMO U pb sb mo mc ms (.map (some sb)) W' V' BV' M' I' f')(nx:PNx sb W V M I W' V' M' I') :
  OneSt U pb sb mo mc ms w0 V0 M0 I0 W' lv cs V' BV' M' I' f' L:=by
 refine⟨st,h.nx.trans nx,h.rl.fr nx.fr (fun q hq e=>e.elim (h.sl q hq).1 (h.sl q hq).2.2),h.cl.mono nx.pre,fun q hq=>?_⟩;have hl:=(h.rl.own.lt q hq).2;obtain⟨a,b,c⟩:=h.sl q hq;exact⟨fun e=>(nx.mM q e).elim a (fun z=>by omega),fun e=>(nx.mI q e).elim b (fun z=>by omega),c⟩
theorem OneSt.fr0 (h:OneSt U pb sb mo mc ms w0 V0 M0 I0 W lv cs V BV M I f L)(hf:Fr NoM W W'):OneSt U pb sb mo mc ms w0 V0 M0 I0 W' lv cs V BV M I f L:=h.call (h.st.fr0 hf) (PNx.of0 hf)
theorem OneSt.push (h:OneSt U pb sb mo mc ms w0 V0 M0 I0 W lv cs V BV M I f L)(ha:Fr NoM W Wa)(ho:W'.ownsRow w0.heap.size 3 1 v' (L.length+1) (L.map encN ++ [encN x]))(hf:Fr (Own1 lv) Wa W')
  (hq:v'.ownBlock=lv.ownBlock∨∃b,v'.ownBlock=some b/\Wa.heap.size≤b) (hx:x<V.length) (hc:(za0 V).getD x 0=c) :
  OneSt U pb sb mo mc ms w0 V0 M0 I0 W' v' (cs ++ [c]) V BV M I f (L ++ [x]):=by
 have h:=h.fr0 ha;refine⟨h.st.fr hf (fun q hq'=>⟨(h.sl q hq').1,(h.sl q hq').2.1,(h.sl q hq').2.2⟩),h.nx.own hf (fun q hq'=>(h.rl.own.lt q hq').1),NRow.snoc ho,h.cl.snoc hx hc,fun q e=>?_⟩;have nw:lv.ownBlock=some q∨Wa.heap.size≤q:=by
  rcases hq with h1|⟨b,h1,h2⟩
  ·exact .inl (h1 ▸ e)
  ·rw[h1]at e;cases e;exact .inr h2
 rcases nw with e'|e'
 ·exact h.sl q e'
 ·refine⟨fun z=>?_,fun z=>?_,fun z=>?_⟩
  ·have:=(h.st.mlt q z).1;omega
  ·have:=(h.st.ilt q z).1;omega
  ·have:=h.st.map.lt;omega
theorem OneSt.start (h:PSt encN NegMO U pb sb mo mc ms (.map (some sb)) W V BV M I f):OneSt U pb sb mo mc ms W V M I (W.alloc (.cells #[] 3)) (.slice (some ⟨W.heap.size,0,none⟩) 0 0) [] V BV M I f []:=by
 have hs:=h.map.lt;refine⟨h.fr0 ((Fr.refl NoM W).alloc _),PNx.of0 ((Fr.refl NoM W).alloc _),NRow.made W,RowC.nil _,fun q hq=>?_⟩;have e:W.heap.size=q:=Option.some.inj hq;refine⟨fun z=>?_,fun z=>?_,fun z=>?_⟩
 ·have:=(h.mlt q z).1;omega
 ·have:=(h.ilt q z).1;omega
 ·omega
end
set_option maxRecDepth 8000 in
set_option maxHeartbeats 8000000 in
theorem ztd {U:List Nat}(hUl:U.length<1000000)(pb sb:Nat)(mo mc ms:Value)(n:Nat)(hn:n≤1000)(hU:∀k,k≤n→zbb k∈U)(V:List PL)(BV:List Nat)(M I:Nat→Prop)(f:Nat→Option Nat)(w:World)(hst:PSt encN NegMO U pb sb mo mc ms (.map (some sb)) w V BV M I f) :
  Calls Tryz.prog 110 #[.pointer (some ⟨pb,0,none⟩),.int .i64 (n:Int)] w fun e w'=>NegPost U pb sb mo mc ms w V M I (zbb n) e w':=by
 obtain⟨w1,hw1⟩:∃w1,w1=w.alloc (.cells #[] 3):=⟨_,rfl⟩;have hs:=OneSt.start hst;rw[←hw1]at hs;have HS:=Hh hs;have HUl:=Hh hUl;have HU:=Hh hU;clear hst hs hUl hU;obtain⟨q1,hq1⟩:∃q1,q1=Value.slice (some ⟨w.heap.size,0,none⟩) 0 0:=⟨_,rfl⟩;go_enter Tryz.func110,Tryz.ntmps110;go_wp2_with fail;rw[←hw1,←hq1];rw[←hq1]at HS;clear hw1 hq1;go_loopw [5,8] (fun v5 t W=>∃(k:Nat) (lv:Value) (V1:List PL) (B1:List Nat) (M1 I1:Nat→Prop) (f1:Nat→Option Nat) (L:List Nat),lv=v5/\t=.int .i64 k/\k≤n/\OneSt U pb sb mo mc ms w V M I W lv (zh2 k) V1 B1 M1 I1 f1 L) (fun _ t _=>n-(intOf t).toNat)
 case atStart=>exact⟨0,_,V,BV,M,I,f,[],rfl,rfl,Nat.zero_le _,HS.out⟩
 case round =>
  obtain⟨k,lv,V1,B1,M1,I1,f1,L,rfl,rfl,hk,hs⟩:=hrel;obtain⟨w7,rfl⟩:∃w7,w7=wr:=⟨_,rfl⟩;obtain⟨lb,lc,rfl⟩:=hs.rl.shape;have hl:L.length=k:=by rw[hs.cl.len,zxu]
  have HNd:=Hh (zcf (U:=U) HUl.out (some ⟨lb,0,none⟩) (some ⟨lb,0,none⟩) L.length L.length lc lc rfl rfl hs.st hs.rl.nats hs.rl.nats hs.cl hs.cl (show mkC (zh2 k) (zh2 k)∈U from HU.out k hk) (by omega) (by omega));have HS:=Hh hs;have HL:=Hh hl;clear hs hl;by_cases hkn:k<n
  ·go_wp2_with fail
   (with_reducible refine HNd.out.mono ?_);rintro e w8 ⟨i,V2,B2,M2,I2,f2,rfl,st2,nx2,hi2,hc2⟩;have HS8:=Hh (HS.out.call st2 nx2);have HI2:=Hh hi2;have HC2:=Hh hc2;clear st2 nx2 hi2 hc2;go_wp2_with (at_builtin;refine zag (enc:=encN) _ rfl (.tmp 10) (.tmp 15) 82 rfl w.heap.size 3 (.int .i64 0) 8 Tryz.underlying82 za9 rfl (.slice (some ⟨lb,0,none⟩) L.length lc) L.length (L.map encN) rfl (HS8.out.fr0 ((Fr.refl NoM w8).alloc _)).rl.own (.slice (some ⟨w8.heap.size,0,none⟩) 1 1) rfl [i] (SliceOf.one encN w8 i 3) (fun _=>rfl) (by have:=HL.out;simp only[List.length_singleton];omega) (by decide) (by have:=HS8.out.nx.fr.size;rw[World.size_alloc];omega) ?_);intro v9 w9 h9 f9 q9;have HS9:=Hh (HS8.out.push ((Fr.refl NoM w8).alloc _) h9 f9 (by rw[World.size_alloc];exact q9) HI2.out HC2.out);clear h9 f9 q9;go_wp2;go_roundw
   case rel=>exact⟨k+1,v9,V2,B2,M2,I2,f2,L ++ [i],rfl,by go_num,by omega,HS9.out⟩
   case measure=>simp[intOf];omega
  ·obtain rfl:k=n:=by omega
   go_wp2_with fail;(with_reducible refine HNd.out.mono ?_);rintro e w8 ⟨i,V2,B2,M2,I2,f2,rfl,st2,nx2,hi2,hc2⟩;have HE:=Hh (show NegPost U pb sb mo mc ms w V M I (zbb k) (.returned (.int .i64 (i:Int))) w8 from⟨i,V2,B2,M2,I2,f2,rfl,st2,HS.out.nx.trans nx2,hi2,hc2⟩);clear st2 nx2 hi2 hc2;go_wp2;go_ret;exact HE.out
set_option maxRecDepth 8000 in
set_option maxHeartbeats 8000000 in
theorem yak {U:List Nat}(hUl:U.length<1000000)(pb sb:Nat)(mo mc ms:Value)(n:Nat)(hn:n≤1000)(hU:∀k,k≤n→zbb k∈U)(V:List PL)(BV:List Nat)(M I:Nat→Prop)(f:Nat→Option Nat)(w:World)(hst:PSt encN NegMO U pb sb mo mc ms (.map (some sb)) w V BV M I f) :
  Calls Tryz.prog 61 #[.pointer (some ⟨pb,0,none⟩),.int .i64 0,.int .i64 (n:Int)] w fun e w'=>NegPost U pb sb mo mc ms w V M I (zbb n) e w':=by
 have HNz:=Hh (zcf (L:=[]) (R:=[]) hUl none none 0 0 0 0 rfl rfl hst (SliceOf.nil _ _) (SliceOf.nil _ _) (RowC.nil _) (RowC.nil _) (show mkC [] []∈U from hU 0 (Nat.zero_le _)) (by simp) (by simp));have HSt:=Hh (fun(W:World) (V1:List PL) (B1:List Nat) (M1 I1:Nat→Prop) (f1:Nat→Option Nat) (h:PSt encN NegMO U pb sb mo mc ms (.map (some sb)) W V1 B1 M1 I1 f1)=>ztd hUl pb sb mo mc ms n hn hU V1 B1 M1 I1 f1 W h);clear hst hU hUl hn;go_enter Tryz.func61,Tryz.ntmps61;go_wp2_with fail;(with_reducible refine HNz.out.mono ?_);rintro e w1 ⟨z0,V1,B1,M1,I1,f1,rfl,st1,nx1,l1,q1⟩;have HS:=Hh (HSt.out w1 V1 B1 M1 I1 f1 st1);have HNx:=Hh nx1;clear st1 nx1 l1 q1;go_wp2_with fail;(with_reducible refine HS.out.mono ?_);rintro e w2 ⟨i,V2,B2,M2,I2,f2,rfl,st2,nx2,l2,q2⟩;have HE:=Hh (show NegPost U pb sb mo mc ms w V M I (zbb n) (.returned (.int .i64 (i:Int))) w2 from⟨i,V2,B2,M2,I2,f2,rfl,st2,HNx.out.trans nx2,l2,q2⟩);clear st2 nx2 l2 q2;go_wp2;go_ret;exact HE.out
theorem znh (n:Nat):FormC (zbb n) (ze2 (n+1)):=by
 have hget:∀ {j:Nat}{x:PL},(ze2 (n+1))[j]?=some x→j<n+1/\x=(List.range j,List.range j):=fun {j x} h=>by
  have hj:=(List.getElem?_eq_some_iff.1 h).1;rw[zex]at hj;rw[zpd hj]at h;exact⟨hj,(Option.some.inj h).symm⟩
 have hP:∀j,j<n+1→((List.range (n+1)).map zbb).getD j 0=zbb j:=fun j hj=>by
  rw[List.getD_eq_getElem?_getD,List.getElem?_map,List.getElem?_range hj];rfl
 refine⟨(List.range (n+1)).map zbb,⟨by rw[List.length_map,List.length_range,zex],fun j x h=>?_,fun j x h=>?_,fun j x h=>?_,?_⟩,fun x=>?_,fun i j x y hij hx hy=>?_⟩
 ·obtain⟨_,rfl⟩:=hget h
  exact⟨fun i hi=>List.mem_range.1 hi,fun i hi=>List.mem_range.1 hi⟩
 ·obtain⟨_,rfl⟩:=hget h
  exact⟨List.pairwise_lt_range,List.pairwise_lt_range⟩
 ·obtain⟨hj,rfl⟩:=hget h
  have e:za1 ((List.range (n+1)).map zbb) (List.range j)=zh2 j:=by
   rw[zte];exact List.map_congr_left fun k hk=>hP k (by have:=List.mem_range.1 hk;omega)
  rw[hP j hj,e];rfl
 ·exact List.pairwise_map.2 (List.pairwise_lt_range.imp fun h e=>by have:=yar e;omega)
 ·rw[List.mem_map]
  exact⟨fun⟨k,hk,e⟩=>e ▸ zxq (by have:=List.mem_range.1 hk;omega),fun h=>by
   obtain⟨k,hk,e⟩:=zkg h;exact⟨k,List.mem_range.2 (by omega),e⟩⟩
 ·obtain⟨hj,rfl⟩:=hget hy
  obtain⟨hi,rfl⟩:=hget hx;rw[hP i hi,hP j hj];exact .inl (zdx (.inl (zcs.2 ⟨i,hij,rfl⟩)))
theorem zm6 (n:Nat):zac (zbb n)=ze2 (n+1):=(znh n).of.symm
theorem zxs {n:Nat}(h:n≤24):zbf (i2 (ze2 (n+1)))/\zb0 (ze2 (n+1))=zbb n:=zmv (znh n) (zm6 n ▸ zxt h)
end Go.Proofs.YtghekfmfonoocaaGreatDoor
