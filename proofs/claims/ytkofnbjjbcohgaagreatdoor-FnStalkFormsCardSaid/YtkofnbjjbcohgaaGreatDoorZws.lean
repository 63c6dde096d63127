import Derived.Test.YtkofnbjjbcohgaaGreatDoorZwp
import Derived.Test.YtkofnbjjbcohgaaGreatDoorZwr
/- Lemmas. -/
namespace Go.Proofs.YtkofnbjjbcohgaaGreatDoor
set_option linter.unusedVariables false
set_option linter.unusedSimpArgs false
open Go.RowKit
def zu1 (U:List Nat) (pb ob sb:Nat) (ms mn:Value) (w:World) (V:List PL) (M I:Nat→Prop) (c:Nat) (e:Ending) (w':World):Prop :=
  ∃ (i : Nat) (V' : List PL) (BV' : List Nat) (M' I' : Nat → Prop) (fo' : Nat × Nat → Option Bool) (fc' : Nat → Option Nat), e = .returned (.int .i64 (i : Int)) ∧
    CSt U pb ob sb ms mn w' V' BV' M' I' fo' fc'∧CNx ob sb w V M I w' V' M' I'∧i < V'.length∧IsCan ((za0 V').getD i 0) c
def zu2 (U:List Nat)(pb ob sb:Nat)(ms mn:Value)(x:Nat):Prop:=∀(V:List PL) (BV:List Nat) (M I:Nat→Prop) (fo:Nat × Nat→Option Bool) (fc:Nat→Option Nat) (w:World),CSt U pb ob sb ms mn w V BV M I fo fc→x<V.length →
 (∀a,SubC ((za0 V).getD x 0) a→canC a∈U)→Calls Tryz.prog 51 #[.pointer (some ⟨pb,0,none⟩),.int .i64 (x:Int)] w fun e w'=>zu1 U pb ob sb ms mn w V M I ((za0 V).getD x 0) e w'
def RedB:Bool→Nat→List Nat→Prop
 | true=>RedL
 | false=>RedR
def zyf (lf:Bool) (U:List Nat) (pb ob sb:Nat) (ms mn:Value) (w:World) (V:List PL) (M I:Nat→Prop) (c:Nat) (e:Ending) (w':World):Prop :=
  ∃ (v : Value) (L : List Nat) (V' : List PL) (BV' : List Nat) (M' I' : Nat → Prop) (fo' : Nat × Nat → Option Bool) (fc' : Nat → Option Nat), e = .returned v ∧
    CSt U pb ob sb ms mn w' V' BV' M' I' fo' fc'∧CNx ob sb w V M I w' V' M' I'∧NRow w.heap.size w' v L∧(∀ q,v.ownBlock=some q→¬ M' q∧q≠ob∧q≠sb)∧L.length≤V'.length∧(∀ l∈L,l < V'.length)∧RedB lf c (za1 (za0 V') L)
def zz6 (lf:Bool)(U:List Nat)(pb ob sb:Nat)(ms mn:Value)(x:Nat):Prop:=∀(V:List PL) (BV:List Nat) (M I:Nat→Prop) (fo:Nat × Nat→Option Bool) (fc:Nat→Option Nat) (w:World),CSt U pb ob sb ms mn w V BV M I fo fc→x<V.length →
 (∀a,SubC ((za0 V).getD x 0) a→canC a∈U)→Calls Tryz.prog 78 #[.pointer (some ⟨pb,0,none⟩),.int .i64 (x:Int),.bool lf] w fun e w'=>zyf lf U pb ob sb ms mn w V M I ((za0 V).getD x 0) e w'
theorem RSt.start {U:List Nat}{pb ob sb mb g1 g2:Nat}{ms mn va:Value}{w0 W:World}{V0:List PL}{BV la:List Nat}{M0 I0:Nat→Prop}{fo:Nat × Nat→Option Bool}{fc:Nat→Option Nat}
  (h:CSt U pb ob sb ms mn w0 V0 BV M0 I0 fo fc) (hf:Fr NoM w0 W) (r1:NRow w0.heap.size W (.slice (some ⟨g1,0,none⟩) 0 0) []) (r2:NRow w0.heap.size W (.slice (some ⟨g2,0,none⟩) 0 0) []) (hm:MapF encN encB W mb (fun _=>none))
  (h1:w0.heap.size≤g1) (h2:w0.heap.size≤g2) (h3:w0.heap.size≤mb) (h12:g1≠g2) (h13:g1≠mb) (h23:g2≠mb) (hn:Nats W va la) (hI:la≠[]→∀q,va.ownBlock=some q→I0 q) :
  RSt U pb ob sb mb ms mn w0 V0 M0 I0 W (.slice (some ⟨g1,0,none⟩) 0 0) (.slice (some ⟨g2,0,none⟩) 0 0) va [] [] la (fun _=>none) V0 BV M0 I0 fo fc:=by
 have ho:=h.ord.lt;have hs:=h.can.lt;have old:∀g,w0.heap.size≤g→¬M0 g/\¬I0 g/\g≠ob/\g≠sb:=fun g hg=>by
  refine⟨fun z=>?_,fun z=>?_,by omega,by omega⟩
  ·have:=(h.mlt _ z).1;omega
  ·have:=(h.ilt _ z).1;omega
 have base:RSt U pb ob sb mb ms mn w0 V0 M0 I0 W (.slice (some ⟨g1,0,none⟩) 0 0) (.slice (some ⟨g2,0,none⟩) 0 0) (.slice none 0 0) [] [] [] (fun _=>none) V0 BV M0 I0 fo fc:=by
  refine⟨h.fr0 hf,CNx.of0 hf,r1.own,r2.own,fun q hq=>?_,fun q hq=>?_,hm,?_,SliceOf.nil _ _,fun hne=>absurd rfl hne⟩
  ·have e:g1=q:=Option.some.inj hq
   subst e;obtain⟨a,b,c,d⟩:=old g1 h1;exact⟨a,b,c,d,h13,fun z=>h12 (Option.some.inj z).symm⟩
  ·have e:g2=q:=Option.some.inj hq
   subst e;obtain⟨a,b,c,d⟩:=old g2 h2;exact⟨a,b,c,d,h23⟩
  ·obtain⟨a,b,c,d⟩:=old mb h3
   exact⟨a,b,fun e=>c e,fun e=>d e,h3⟩
 exact base.look hn hI
def CanRow (V1:List PL)(C Q la:List Nat):Prop:=(∀i∈Q,i<V1.length/\∃l∈la,IsCan ((za0 V1).getD i 0) (C.getD l 0))/\(∀l∈la,∃i∈Q,IsCan ((za0 V1).getD i 0) (C.getD l 0))/\Q.length=la.length
theorem CanRow.nil (V:List PL)(C:List Nat):CanRow V C [] []:=⟨by simp,by simp,rfl⟩
theorem CanRow.mono {V1 V2:List PL}{C Q la:List Nat}(h:CanRow V1 C Q la)(hp:V1 <+: V2):CanRow V2 C Q la:=by
 have hl:=hp.length_le;refine⟨fun i hi=>?_,fun l hl=>?_,h.2.2⟩
 ·obtain⟨a,b⟩:=h.1 i hi
  rw[zbk hp a];exact⟨by omega,b⟩
 ·obtain⟨i,hi,e⟩:=h.2.1 l hl
  refine⟨i,hi,?_⟩;rw[zbk hp (h.1 i hi).1];exact e
theorem CanRow.push {V1:List PL}{C Q la:List Nat}{i l:Nat}(h:CanRow V1 C Q la)(hi:i<V1.length)(hc:IsCan ((za0 V1).getD i 0) (C.getD l 0)):CanRow V1 C (Q ++ [i]) (la ++ [l]):=by
 refine⟨fun j hj=>?_,fun m hm=>?_,by simp[h.2.2]⟩
 ·rcases List.mem_append.1 hj with hj|hj
  ·obtain⟨a,m,hm,e⟩:=h.1 j hj
   exact⟨a,m,List.mem_append_left _ hm,e⟩
  ·rw[List.mem_singleton.1 hj]
   exact⟨hi,l,by simp,hc⟩
 ·rcases List.mem_append.1 hm with hm|hm
  ·obtain⟨j,hj,e⟩:=h.2.1 m hm
   exact⟨j,List.mem_append_left _ hj,e⟩
  ·rw[List.mem_singleton.1 hm]
   exact⟨i,by simp,hc⟩
theorem zrs {L:List Nat}{k l:Nat}(h:L[k]?=some l):L.take (k+1)=L.take k ++ [l]:=by
 obtain⟨hi,e⟩:=List.getElem?_eq_some_iff.1 h
 rw[List.take_succ_eq_append_getElem hi,e]
theorem QL.init {V:List PL}{C Q la:List Nat}{cf:Nat}(h:CanRow V C Q la)(hla:∀l,hasL cf l↔∃x∈la,C.getD x 0=l):QL V (za0 V) cf (fun _=>false) Q []:=by
 refine⟨fun i hi=>?_,by simp,fun i hi=>(Bool.noConfusion hi),fun l hl=>?_,by simp⟩
 ·have hi:=hi.resolve_left (by simp)
  obtain⟨a,l,hl,e⟩:=h.1 i hi;exact⟨a,e.1,zb3 e.2.2 (zdz ((hla _).2 ⟨l,hl,rfl⟩))⟩
 ·obtain⟨x,hx,e⟩:=(hla l).1 hl
  obtain⟨i,hi,z⟩:=h.2.1 x hx;exact⟨i,.inr hi,by rw[←e];exact z.2.1⟩
theorem QR.init {V:List PL}{C Q la:List Nat}{cf:Nat}(h:CanRow V C Q la)(hla:∀l,hasR cf l↔∃x∈la,C.getD x 0=l):QR V (za0 V) cf (fun _=>false) Q []:=by
 refine⟨fun i hi=>?_,by simp,fun i hi=>(Bool.noConfusion hi),fun l hl=>?_,by simp⟩
 ·have hi:=hi.resolve_left (by simp)
  obtain⟨a,l,hl,e⟩:=h.1 i hi;exact⟨a,e.1,zb5 e.2.1 (zcs ((hla _).2 ⟨l,hl,rfl⟩))⟩
 ·obtain⟨x,hx,e⟩:=(hla l).1 hl
  obtain⟨i,hi,z⟩:=h.2.1 x hx;exact⟨i,.inr hi,by rw[←e];exact z.2.2⟩
def sawF (S:Nat→Bool):Nat→Option Bool:=fun i=>if S i=true then some true else none
theorem zkt:sawF (fun _=>false)=fun _=>none:=by
 funext i
 simp[sawF]
theorem zod (S:Nat→Bool)(i:Nat):upd (sawF S) i true=sawF (addS S i):=by
 funext k
 unfold Go.Proofs.YtkofnbjjbcohgaaGreatDoor.upd sawF addS;by_cases e:k=i
 ·simp[e]
 ·simp[e]
theorem zoe (S:Nat→Bool)(i:Nat):((sawF S i).map encB).getD (.bool false)=.bool (S i):=by
 unfold sawF;cases S i <;> rfl
theorem zs3 (S:Nat→Bool)(i:Nat):(sawF S i).isSome=S i:=by
 unfold sawF;cases S i <;> rfl
def cntS (S:Nat→Bool)(N:Nat):Nat:=((List.range N).filter S).length
theorem zms (S:Nat→Bool)(N:Nat):cntS S N≤N:=by
 have:=List.length_filter_le S (List.range N);rw[List.length_range]at this
 exact this
theorem zdi (S:Nat→Bool)(i:Nat)(hi:¬S i=true):∀N,cntS (addS S i) N=cntS S N+if i<N then 1 else 0
 | 0=>by simp[cntS]
 | N+1=>by
  have ih:=zdi S i hi N;unfold cntS at ih ⊢;rw[List.range_succ,List.filter_append,List.filter_append,List.length_append,List.length_append,ih];have hi:S i=false:=by simpa using hi
  by_cases e:N=i
  ·subst e
   simp[addS,hi]
  ·have h1:addS S i N=S N:=by simp[addS,e]
   have h2:(if i<N+1 then 1 else 0:Nat)=if i<N then 1 else 0:=by
    by_cases h:i<N
    ·rw[if_pos h,if_pos (by omega)]
    ·rw[if_neg h,if_neg (by omega)]
   rw[h2];simp only[List.filter_cons,List.filter_nil,h1];omega
theorem MapF.uniq {κ α:Type}{ek:κ→Value}{ev:α→Value}{w:World}{b:Nat}{f g:κ→Option α}(hk:∀ {a b:κ},ek a=ek b→a=b)(hv:∀ {a b:α},ev a=ev b→a=b)(hf:MapF ek ev w b f)(hg:MapF ek ev w b g):f=g:=by
 obtain⟨es,cl,h0,_,h2,h3⟩:=hf;obtain⟨es',cl',g0,_,g2,g3⟩:=hg;rw[h0]at g0;cases g0
 funext k
 cases e:f k with
 | none =>
  cases e':g k with
  | none=>rfl
  | some a =>
   obtain⟨x,hx,ex⟩:=g3 k a e';obtain⟨k',a',e1,_,e3⟩:=h2 x hx;have:=hk (e1.symm.trans ex);subst this
   rw[e]at e3;cases e3
 | some a =>
  obtain⟨x,hx,ex⟩:=h3 k a e;obtain⟨k1,a1,e1,e2,e3⟩:=h2 x hx;obtain⟨k2,a2,d1,d2,d3⟩:=g2 x hx;have q1:=hk (e1.symm.trans ex);have q2:=hk (d1.symm.trans ex);subst q1;subst q2;rw[d3,hv (d2.symm.trans e2),←e3,e]
open Classical in
noncomputable def zf5 (W:World)(mb N:Nat):Nat:=if h:∃S,MapF encN encB W mb (sawF S)then cntS (fun i=>(sawF (Classical.choose h) i).isSome) N else 0
theorem zd4 {W:World}{mb N:Nat}{S:Nat→Bool}(h:MapF encN encB W mb (sawF S)):zf5 W mb N=cntS S N:=by
 have he:∃S,MapF encN encB W mb (sawF S):=⟨S,h⟩;unfold zf5;rw[dif_pos he,MapF.uniq zpc (fun {a b} e=>by unfold encB at e;simpa using e) (Classical.choose_spec he) h];congr 1
 funext i
 exact zs3 S i
def lenOf:Value→Nat
 | .slice _ n _=>n
 | _=>0
theorem zfq {N c q m:Nat}(hc:c<N)(hm:m≤N):(N-(c+1))*(N+1)+(q+m)<(N-c)*(N+1)+(q+1):=by
 obtain⟨d,rfl⟩:∃d,N=c+1+d:=⟨N-(c+1),by omega⟩;have e1:c+1+d-(c+1)=d:=by omega
 have e2:c+1+d-c=d+1:=by omega
 rw[e1,e2,Nat.succ_mul];omega
theorem qcap {c N q:Nat}(hc:c≤N)(hN:N<20000)(h:q≤(c+1)*N):q≤400020000:=by
 have h1:(c+1)*N≤20001*20000:=Nat.mul_le_mul (by omega) (by omega);omega
theorem zph {S:Nat→Bool}{i N:Nat}(hi:¬S i=true)(hl:i<N):cntS S N<N:=by
 have h1:=zdi S i hi N;rw[if_pos hl]at h1;have h2:=zms (addS S i) N;omega
theorem ze1 {L:List Nat}{N:Nat}(h:L.Nodup)(hl:∀x∈L,x<N):L.length≤N:=by
 have:=h.length_le_of_subset (fun x hx=>List.mem_range.2 (hl x hx));rwa [List.length_range]at this
section
variable {U:List Nat}{pb ob sb mb:Nat}{ms mn:Value}{w0 W:World}{V0 V:List PL}{BV Q Kp la:List Nat}{M0 I0 M I:Nat→Prop}{fo:Nat × Nat→Option Bool}{fc:Nat→Option Nat}{fs:Nat→Option Bool}{qv kv va:Value}
theorem RSt.qshape {i:Nat}(h:RSt U pb ob sb mb ms mn w0 V0 M0 I0 W qv kv va (Q ++ [i]) Kp la fs V BV M I fo fc):∃g c,qv=.slice (some ⟨g,0,none⟩) (Q.length+1) c/\W.cell? ⟨g,Q.length,none⟩=some (.int .i64 (i:Int))/\Q.length+1≤c:=by
 obtain⟨g,c,e,_⟩:=zbg h.rq (by simp);subst e;obtain⟨a,c',e,hle,_,hc⟩:=SliceOf.of_owns h.rq rfl;rw[List.length_append,List.length_singleton]at e ⊢;rw[List.length_append,List.length_singleton]at hle;cases e
 obtain⟨b,off,e1,e2⟩:=hc Q.length i (by simp);cases e1
 refine⟨g,c,rfl,?_,hle⟩;rw[Nat.zero_add]at e2;exact e2
theorem RSt.qempty (h:RSt U pb ob sb mb ms mn w0 V0 M0 I0 W qv kv va [] Kp la fs V BV M I fo fc):∃a c,qv=.slice a 0 c:=by
 rcases h.rq.2 with ⟨e,h0⟩|⟨g,cap,cur,e,_⟩
 ·exact⟨_,_,e⟩
 ·exact⟨_,_,e⟩
theorem RSt.qlen (h:RSt U pb ob sb mb ms mn w0 V0 M0 I0 W qv kv va Q Kp la fs V BV M I fo fc):lenOf qv=Q.length:=by
 rcases h.rq.2 with ⟨e,h0⟩|⟨g,cap,cur,e,_⟩
 ·rw[e,h0];rfl
 ·rw[e];rfl
end
set_option maxRecDepth 8000 in
set_option maxHeartbeats 16000000 in
theorem zum {U:List Nat}(hUl:U.length<20000)(pb ob sb:Nat)(ms mn:Value)(x:Nat)(ih:∀y,y<x→zu2 U pb ob sb ms mn y):zz6 true U pb ob sb ms mn x:=by
 intro V BV M I fo fc w hst hx hU;have hVl:=hst.len;have HIh:=Hh ih;have HSt:=Hh hst;obtain⟨X,hX⟩:∃X,X=za4 V x:=⟨_,rfl⟩;obtain⟨C,hC⟩:∃C,C=za0 V:=⟨_,rfl⟩;obtain⟨cx,hcx⟩:∃cx,cx=C.getD x 0:=⟨_,rfl⟩;have hoc:=(zax hst.ok.book hx).1;obtain⟨u1,u2⟩:=hst.ok.opts x _ (zaf hx);obtain⟨z1,z2⟩:=hst.ok.lens (n:=V.length+1) (Nat.lt_succ_self _) _ (List.mem_of_getElem? (zaf hx));rw[←hX,←hC,←hcx]at hoc;rw[←hX]at u1 u2 z1 z2;rw[←hC,←hcx]at hU ⊢;have HU:=Hh hU;have HOc:=Hh hoc;have HU1:=Hh u1;have HZ:=Hh (show V.length<20000/\X.1.length≤V.length/\X.2.length≤V.length from⟨by omega,by omega,by omega⟩);have HX:=Hh hx;have HXe:=Hh hX;have HCe:=Hh hC;have HCx:=Hh hcx;have HUl:=Hh hUl;have HTo:=Hh (fun(V1:List PL) (hp:V <+: V1)=>(⟨hp.length_le,fun j hj=>by rw[hC];exact zbk hp hj⟩:V.length≤V1.length/\∀j,j<V.length→(za0 V1).getD j 0=C.getD j 0));clear hst hU hoc u1 u2 z1 z2 hx hX hC hcx hUl hVl ih;have hmm:∀(t:TypeId) (w:World),(Instr.makeMap t none).run Tryz.prog w=.ok (.map (some w.heap.size)) (w.alloc (.map #[] 0)):=fun t w=>run_makeMap t w
 go_enter Tryz.func78,Tryz.ntmps78;go_upto_region 2 with fail;clear hmm;obtain⟨w3,hw3⟩:∃w3,w3=((w.alloc (.cells #[] 3)).alloc (.map #[] 0)).alloc (.cells #[] 3):=⟨_,rfl⟩;have hf3:Fr NoM w w3:=by rw[hw3];exact(((Fr.refl NoM w).alloc _).alloc _).alloc _
 have r1:NRow w.heap.size w3 (.slice (some ⟨w.heap.size,0,none⟩) 0 0) []:=by
  rw[hw3];exact(NRow.made w).fr (((Fr.refl NoM _).alloc (.map #[] 0)).alloc (.cells #[] 3)) (fun _ _ q=>q)
 have rm:MapF encN encB w3 (w.heap.size+1) (fun _=>none):=by
  rw[hw3];have h:=MapF.made encN encB (w.alloc (.cells #[] 3));rw[World.size_alloc]at h;exact h.fr ((Fr.refl NoM _).alloc (.cells #[] 3)) (fun q=>q)
 have r2:NRow w.heap.size w3 (.slice (some ⟨w.heap.size+1+1,0,none⟩) 0 0) []:=by
  rw[hw3];have h:=NRow.made ((w.alloc (.cells #[] 3)).alloc (.map #[] 0));rw[World.size_alloc,World.size_alloc]at h;exact⟨zb2 h.own (by omega),h.shape⟩
 obtain⟨pl1,plc1,pr1,prc1,p0,p1,_,_,_,_,hls,hrs⟩:=(HSt.out.fr0 hf3).pool.rd;obtain⟨gb1,go1,gv1,e1,c1,n1,i1⟩:=hls x HX.out;obtain⟨gb2,go2,gv2,e2,c2,n2,i2⟩:=hrs x HX.out;rw[←HXe.out]at n1 i1 n2 i2;subst e1;subst e2;have ix1:=zb0 (some ⟨gb1,go1,none⟩) V.length plc1 x gb1 go1 HX.out rfl;have ix2:=zb0 (some ⟨gb2,go2,none⟩) V.length prc1 x gb2 go2 HX.out rfl;have HA0:=Hh (RSt.start HSt.out hf3 r1 r2 rm (Nat.le_refl _) (by omega) (by omega) (by omega) (by omega) (by omega) n1 i1);obtain⟨ua,uc,ev,zz⟩:=id n1;subst ev;clear zz;have hz9:X.1.length≤9223372036854775807:=by have:=HZ.out;omega
 obtain⟨mb,hmb⟩:∃mb,mb=w.heap.size+1:=⟨_,rfl⟩;obtain⟨q1,hq1⟩:∃q1,q1=Value.slice (some ⟨w.heap.size,0,none⟩) 0 0:=⟨_,rfl⟩;obtain⟨q2,hq2⟩:∃q2,q2=Value.slice (some ⟨w.heap.size+1+1,0,none⟩) 0 0:=⟨_,rfl⟩;rw[←hw3];rw[←hq1,←hq2,←hmb]at HA0 ⊢;clear hls hrs n1 n2 i1 i2 hw3 hf3 r1 r2 rm HSt hq1 hq2 hmb;go_wp2_with fail;clear p0 p1 c1 c2 ix1 ix2;go_loopw [7,36] (fun v5 t W=>∃(k:Nat) (v:Value) (V1:List PL) (B1:List Nat) (M1 I1:Nat→Prop) (fo1:Nat × Nat→Option Bool) (fc1:Nat→Option Nat) (Q1:List Nat),v=v5/\t=.int .i64 k/\k≤X.1.length/\RSt U pb ob sb mb ms mn w V M I W v q2 (.slice ua X.1.length uc) Q1 [] X.1 (fun _=>none) V1 B1 M1 I1 fo1 fc1/\CanRow V1 C Q1 (X.1.take k)) (fun _ t _=>X.1.length-(intOf t).toNat)
 case atStart=>exact⟨0,_,V,BV,M,I,fo,fc,[],rfl,rfl,Nat.zero_le _,HA0.out,CanRow.nil _ _⟩
 case round =>
  obtain⟨k,va,V1,B1,M1,I1,fo1,fc1,Q1,rfl,rfl,hk,hs,hcr⟩:=hrel;obtain⟨wa,rfl⟩:∃w7,w7=wr:=⟨_,rfl⟩;have HS:=Hh hs;have HCR:=Hh hcr;by_cases hkl:k<X.1.length
  ·obtain⟨l,hl⟩:∃l,X.1[k]?=some l:=⟨_,List.getElem?_eq_getElem hkl⟩
   have hlx:=HU1.out l (List.mem_of_getElem? hl);obtain⟨hle,hco⟩:=HTo.out V1 hs.nx.pre;obtain⟨_,_,ee,_,_,hcc⟩:=id hs.src;cases ee
   obtain⟨b3,o3,ha3,c3⟩:=hcc k l hl;unfold encN at c3;have ix3:=zaa ua X.1.length uc k b3 o3 hkl ha3;have hX0:=HX.out;have e1:(za0 V1).getD l 0=C.getD l 0:=hco l (by omega);have hcall:=HIh.out l hlx V1 B1 M1 I1 fo1 fc1 wa hs.st (by omega) (by rw[e1];exact fun a ha=>HU.out a ((SubC.root.step (show optC cx (C.getD l 0)from .inl ((HOc.out _).2 ⟨l,List.mem_of_getElem? hl,rfl⟩))).trans ha));rw[e1]at hcall;have HC:=Hh hcall;have HL:=Hh hl;clear hl hcc ha3 hs hcr hcall e1 hco hle hX0;go_wp2_with fail;(with_reducible refine HC.out.mono ?_);rintro e w8 ⟨i,V2,B2,M2,I2,fo2,fc2,rfl,st2,nx2,hi2,hc2⟩;have HS8:=Hh (HS.out.call st2 nx2);have HR8:=Hh ((HCR.out.mono nx2.pre).push hi2 hc2);clear st2 nx2 hi2 hc2 c3 ix3;go_wp2_with (at_builtin;refine zaq (enc:=encN) _ rfl (.tmp 40) (.tmp 44) 42 rfl w.heap.size 3 (.int .i64 0) 8 Tryz.underlying42 za8 rfl va Q1.length (Q1.map encN) rfl (HS8.out.fr0 ((Fr.refl NoM w8).alloc _)).rq (.slice (some ⟨w8.heap.size,0,none⟩) 1 1) rfl [i] (SliceOf.one encN w8 i 3) (fun _=>rfl) (by have h1:=HCR.out.2.2;have h2:=HZ.out;rw[List.length_take]at h1;simp only[List.length_singleton];omega) (by decide) (by have:=HS8.out.nx.fr.size;rw[World.size_alloc];omega) ?_);intro v9 w9 h9 f9 q9;have HS9:=Hh (HS8.out.pushQ (L:=[i]) ((Fr.refl NoM w8).alloc _) h9 f9 (by rw[World.size_alloc];exact q9));clear h9 f9 q9;go_wp2;go_roundw
   case rel=>exact⟨k+1,v9,V2,B2,M2,I2,fo2,fc2,Q1 ++ [i],rfl,by go_num,by omega,HS9.out,by rw[zrs HL.out];exact HR8.out⟩
   case measure=>simp[intOf];omega
  ·obtain rfl:k=X.1.length:=by omega
   rw[List.take_length]at hcr;obtain⟨N,hN⟩:∃N,N=V1.length:=⟨_,rfl⟩;obtain⟨hle,hco⟩:=HTo.out V1 hs.nx.pre;have hX0:=HX.out;have hcf:(za0 V1).getD x 0=cx:=by rw[hco x hX0,HCx.out]
   have hq0:QL V1 (za0 V1) cx (fun _=>false) Q1 []:=QL.init hcr (fun l=>HOc.out l);have hlen:Q1.length≤(cntS (fun _=>false) N+1)*N:=by
    have h1:=hcr.2.2;have h2:=HZ.out;have h3:N≤(cntS (fun _=>false) N+1)*N:=Nat.le_mul_of_pos_left _ (Nat.succ_pos _);omega
   have hNl:N<20000:=by
    have:=hs.st.len;have:=HUl.out;omega
   have hxN:x<N:=by omega
   rw[←zkt]at hs;have HS:=Hh hs;have HQ:=Hh hq0;have HLn:=Hh hlen;have HN:=Hh hN;have HNl:=Hh hNl;have HxN:=Hh hxN;have HCf:=Hh hcf;clear hs hcr hk hkl hq0 hlen hle hco hX0 hcf HCR hN hNl hxN HA0;go_wp2_with fail;go_loopw [7,9] (fun v5 k5 W=>∃(v kv:Value) (S:Nat→Bool) (Q Kp:List Nat) (fo2:Nat × Nat→Option Bool),v=v5/\kv=k5/\RSt U pb ob sb mb ms mn w V M I W v kv (.slice ua X.1.length uc) Q Kp X.1 (sawF S) V1 B1 M1 I1 fo2 fc1/\QL V1 (za0 V1) cx S Q Kp/\Q.length≤(cntS S N+1)*N) (fun v5 _ W=>(N-zf5 W mb N)*(N+1)+lenOf v5)
   case atStart=>exact⟨_,_,_,_,_,_,rfl,rfl,HS.out,HQ.out,HLn.out⟩
   case round =>
    obtain⟨qv,kv,S,Q,Kp,fo2,rfl,rfl,hs,hq,hql⟩:=hrel;obtain⟨wb,rfl⟩:∃w7,w7=wr:=⟨_,rfl⟩;rcases List.eq_nil_or_concat Q with rfl|⟨Q0,i,rfl⟩
    ·obtain⟨qa,qc,rfl⟩:=hs.qempty
     have hkl:Kp.length≤N:=ze1 hq.nodup (fun y hy=>by rw[HN.out];exact(hq.snd y (.inl (hq.kp y hy).1)).1);have hkt:∀y∈Kp,y<V1.length:=fun y hy=>(hq.snd y (.inl (hq.kp y hy).1)).1
     have hrn:Nats wb kv Kp:=SliceOf.of_owns hs.rk rfl;have hdom:=zft hs.st.ok.book pb ob (.map (some sb)) ms mn (fun e=>(hs.st.mlt ob e).2.1 rfl) (fun e=>(hs.st.ilt ob e).2.1 rfl) true (gL (za0 V1)) rfl kv Kp fo2 wb hs.st.pool hs.st.ord hs.st.ordOK hrn (fun _ q e=>(hs.sk q e).2.2.1) hkt (by have:=HNl.out;omega);have HDom:=Hh hdom;have HS:=Hh hs;have HRn:=Hh hrn;have HKl:=Hh hkl;have HKt:=Hh hkt;have HDone:=Hh (hq.done hs.st.ok.book);clear hdom hrn hkl hkt hs hq hql;go_wp2_with fail;(with_reducible refine HDom.out.mono ?_);rintro e w5 ⟨v5,rfl,hn5,f5o,hm5,ho5,f5⟩;have hwo:=zha kv v5 Kp (domB (gL (za0 V1)) Kp) w5 (HRn.out.fr f5 (fun _ q e=>(HS.out.sk q e).2.2.1)) hn5.nats (List.pairwise_lt_range.filter _) (by have:=HKl.out;have:=HNl.out;omega);have hso:=HS.out.st.ords f5 hm5 ho5;have HWo:=Hh hwo;have HSo:=Hh hso;clear hwo hso hn5 hm5 ho5 f5 HDom;go_wp2_with fail;(with_reducible refine HWo.out.mono ?_);rintro e w6 ⟨v6,rfl,hn6,f6⟩;have HN6:=Hh hn6;have F6:=Hh f6;clear hn6 f6 HWo;go_wp2_with fail;go_ret;have hst6:=HSo.out.1.fr0 F6.out;have hsz:w.heap.size≤w5.heap.size:=Nat.le_trans HS.out.nx.fr.size HSo.out.2.fr.size;refine⟨v6,_,V1,B1,M1,I1,f5o,fc1,rfl,hst6,HS.out.nx.trans (HSo.out.2.trans (CNx.of0 F6.out)),⟨zb2 HN6.out.own hsz,HN6.out.shape⟩,fun q hq=>?_,?_,fun l hl=>HKt.out l (zbm hl),HDone.out⟩
     ·have h1:=(HN6.out.own.lt q hq).1
      have h2:=HSo.out.1.ord.lt;have h3:=HSo.out.1.can.lt;refine⟨fun e=>?_,fun e=>by omega,fun e=>by omega⟩;have:=(HSo.out.1.mlt q e).1;omega
     ·have h1:=zec Kp (domB (gL (za0 V1)) Kp)
      have h2:=HKl.out;have h3:=HN.out;omega
    ·rw[List.concat_eq_append]at hs hq hql
     obtain⟨g,c,rfl,hcell,hcc⟩:=hs.qshape;obtain⟨n,hn⟩:∃n,n=Q0.length+1:=⟨_,rfl⟩;have ixq:=zaa (some ⟨g,0,none⟩) n c Q0.length g 0 (by omega) rfl;rw[Nat.zero_add]at ixq;have hil:=(hq.snd i (.inr (by simp))).1;rw[←hn];have hnl:n≤9223372036854775807:=by
      have h1:=qcap (zms S N) HNl.out hql;rw[List.length_append,List.length_singleton]at h1;omega
     have hcast:((n:Int)-1)=(Q0.length:Int):=by omega
     have hwr:IntKind.i64.wrap (Q0.length:Int)=(Q0.length:Int):=by rw[IntKind.wrap_i64];omega
     have hlook:(Instr.lookup 93 (.map (some mb)) (.int .i64 (i:Int)) false).run Tryz.prog wb=.ok (.bool (S i)) wb:=by
      have h:=MapF.look (w:=wb) hs.smap (KeyAt.nat Tryz.underlying3) Tryz.underlying93 (Tryz.zeroValue4 _) i false;rw[zoe]at h;exact h
     have hqc:((Q0.length:Int))≤(c:Int):=by omega
     have hqn:Q0.length≤c:=by omega
     have hc0:¬(c=0):=by omega
     have hpos:((0:Int)<(n:Int)):=by omega
     have HS:=Hh hs;have HQ:=Hh hq;have HLn:=Hh hql;have Hn:=Hh hn;clear hs hq hql hn;cases hS:S i with
     | true =>
      rw[hS]at hlook;go_wp2_with fail;go_roundw
      case rel=>exact⟨_,_,S,Q0,Kp,fo2,rfl,rfl,HS.out.pop,HQ.out.skip hS,by have h:=HLn.out;rw[List.length_append]at h;omega⟩
      case measure =>
       show(N-zf5 wb mb N)*(N+1)+Q0.length<(N-zf5 wb mb N)*(N+1)+n
       have:=Hn.out;omega
     | false =>
      rw[hS]at hlook;have hSn:¬S i=true:=by rw[hS];exact Bool.false_ne_true
      obtain⟨w9,hrun,hm9,hf9⟩:=MapF.store (P:=Tryz.prog) (w:=wb) HS.out.smap (KeyAt.nat Tryz.underlying3) Tryz.underlying93 i true;have hrun:(Instr.mapUpdate 93 (.map (some mb)) (.int .i64 (i:Int)) (.bool true)).run Tryz.prog wb=.ok () w9:=hrun;rw[zod]at hm9;have hs9:=HS.out.pop.see hf9 hm9;have HSn:=Hh hSn;have HS9:=Hh hs9;obtain⟨pl2,plc2,pr2,prc2,p0,p1,_,_,_,_,hls,hrs⟩:=hs9.st.pool.rd;obtain⟨gb3,go3,gv3,e3,c3,n3,i3⟩:=hls i hil;obtain⟨gb4,go4,gv4,e4,c4,n4,i4⟩:=hrs i hil;subst e3;subst e4;have ix3:=zb0 (some ⟨gb3,go3,none⟩) V1.length plc2 i gb3 go3 hil rfl;have ix4:=zb0 (some ⟨gb4,go4,none⟩) V1.length prc2 i gb4 go4 hil rfl;have hthr:=zhc hs9.st.ok.book pb ob (.map (some sb)) ms mn (fun e=>(hs9.st.mlt ob e).2.1 rfl) (fun e=>(hs9.st.ilt ob e).2.1 rfl) true (gR (za0 V1)) rfl x i _ (za4 V1 i).2 fo2 w9 hs9.st.pool hs9.st.ord hs9.st.ordOK (by have:=HxN.out;have:=HN.out;omega) n4 (fun hne q hq=>(hs9.st.ilt q (i4 hne q hq)).2.1) (fun z hz=>by have:=(hs9.st.ok.opts i _ (zaf hil)).2 z hz;omega);obtain⟨res,hres⟩:∃res,res=(za4 V1 i).2.find? (gR (za0 V1) x):=⟨_,rfl⟩;rw[←hres]at hthr;have HThr:=Hh hthr;have HRes:=Hh hres;have HIl:=Hh hil;clear hthr hres hil hls hrs n3 n4 i3 i4 hs9 hm9 hf9 hSn hS;go_wp2_with fail;(with_reducible refine HThr.out.mono ?_);rintro e w10 ⟨rfl,fo3,hm10,ho10,f10⟩;obtain⟨st10,nx10⟩:=HS9.out.st.ords f10 hm10 ho10;have hs10:=HS9.out.call st10 nx10;have HS10:=Hh hs10;clear hm10 ho10 f10 st10 nx10 p0 p1 c3 c4 ix3 ix4 hlook hrun HThr;cases res with
      | none =>
       have hnk:=HQ.out.keep HSn.out (by
        have h:=HRes.out;intro r hr;have h1:=(List.find?_eq_none.1 h.symm) r hr;have h2:gR (za0 V1) x r=geC cx ((za0 V1).getD r 0):=by rw[←HCf.out];rfl
        rw[h2]at h1;simpa using h1)
       have hkl:Kp.length≤N:=ze1 HQ.out.nodup (fun y hy=>by rw[HN.out];exact(HQ.out.snd y (.inl (HQ.out.kp y hy).1)).1);have HNk:=Hh hnk;have HKl:=Hh hkl;clear hnk hkl hs10;have hneg:(thrI none)=-1:=rfl;rw[hneg];go_wp2_with (at_builtin;refine zaq (enc:=encN) _ rfl (.tmp 99) (.tmp 101) 42 rfl w.heap.size 3 (.int .i64 0) 8 Tryz.underlying42 za8 rfl kv Kp.length (Kp.map encN) rfl (HS10.out.fr0 ((Fr.refl NoM w10).alloc _)).rk (.slice (some ⟨w10.heap.size,0,none⟩) 1 1) rfl [i] (SliceOf.one encN w10 i 3) (fun _=>rfl) (by have h1:=HKl.out;have h2:=HNl.out;simp only[List.length_singleton];omega) (by decide) (by have:=HS10.out.nx.fr.size;rw[World.size_alloc];omega) ?_);intro v11 w11 h11 f11 q11;have HS11:=Hh (HS10.out.pushK (i:=i) ((Fr.refl NoM w10).alloc _) h11 f11 (by rw[World.size_alloc];exact q11));clear h11 f11 q11;go_wp2;go_roundw
       case rel=>exact⟨_,_,addS S i,Q0,Kp ++ [i],fo3,rfl,rfl,HS11.out,HNk.out,by
        have h:=HLn.out;rw[List.length_append]at h;have h2:=zdi S i HSn.out N;have h3:(cntS S N+1)*N≤(cntS (addS S i) N+1)*N:=Nat.mul_le_mul_right _ (by omega);omega⟩
       case measure =>
        show(N-zf5 w11 mb N)*(N+1)+Q0.length<(N-zf5 wb mb N)*(N+1)+n
        rw[zd4 HS.out.smap,zd4 HS11.out.smap,Hn.out];have h2:=zdi S i HSn.out N;rw[if_pos (by rw[HN.out];exact HIl.out)]at h2;have h3:=zfq (N:=N) (q:=Q0.length) (m:=0) (zph HSn.out (show i<N from by rw[HN.out];exact HIl.out)) (Nat.zero_le _);rw[h2];omega
      | some k =>
       have hmem:=List.mem_of_find?_eq_some HRes.out.symm
       have hgt:=List.find?_some HRes.out.symm
       have hgt:geC cx ((za0 V1).getD k 0)=true:=by rw[←HCf.out];exact hgt
       have hkl:k<V1.length:=by have:=(HS10.out.st.ok.opts i _ (zaf HIl.out)).2 k hmem;have:=HIl.out;omega
       have hnk:=HQ.out.push HS10.out.st.ok.book hmem hgt;obtain⟨pl2,plc2,pr2,prc2,p0,p1,_,_,_,_,hls,hrs⟩:=hs10.st.pool.rd;obtain⟨gb5,go5,gv5,e5,c5,n5,i5⟩:=hls k hkl;subst e5;have ix5:=zb0 (some ⟨gb5,go5,none⟩) V1.length plc2 k gb5 go5 hkl rfl;have hnn:¬((k:Int)<0):=by omega
       have hkn:=(hs10.st.ok.lens (n:=V1.length+1) (Nat.lt_succ_self _) _ (List.mem_of_getElem? (zaf hkl))).1;have HNk:=Hh hnk;have HKn:=Hh hkn;have HN5:=Hh n5;clear hls hrs hs10 hmem hgt hnk hkn i5 n5;have hneg:(thrI (some k))=(k:Int):=rfl;rw[hneg];go_wp2_with (at_builtin;refine zaq (enc:=encN) _ rfl (.tmp 105) (.tmp 112) 42 rfl w.heap.size 3 (.int .i64 0) 8 Tryz.underlying42 za8 rfl _ Q0.length (Q0.map encN) rfl HS10.out.rq _ rfl (za4 V1 k).1 HN5.out (fun _=>rfl) (by have h1:=HKn.out;have h2:=HNl.out;have h3:=HN.out;have h4:=qcap (zms S N) h2 HLn.out;rw[List.length_append]at h4;omega) (by decide) HS10.out.nx.fr.size ?_);intro v11 w11 h11 f11 q11;have HS11:=Hh (HS10.out.pushQ (L:=(za4 V1 k).1) (Fr.refl NoM w10) h11 f11 q11);clear h11 f11 q11;go_wp2;go_roundw
       case rel=>exact⟨_,_,addS S i,Q0++(za4 V1 k).1,Kp,fo3,rfl,rfl,HS11.out,HNk.out,by
        have h:=HLn.out;rw[List.length_append,List.length_singleton]at h;rw[List.length_append];have h2:=zdi S i HSn.out N;rw[if_pos (by rw[HN.out];exact HIl.out)]at h2;rw[h2,Nat.succ_mul];have h3:=HKn.out;have h4:=HN.out;omega⟩
       case measure =>
        show(N-zf5 w11 mb N)*(N+1)+lenOf v11<(N-zf5 wb mb N)*(N+1)+n
        rw[zd4 HS.out.smap,zd4 HS11.out.smap,Hn.out,HS11.out.qlen,List.length_append];have h2:=zdi S i HSn.out N;rw[if_pos (by rw[HN.out];exact HIl.out)]at h2;rw[h2];exact zfq (zph HSn.out (show i<N from by rw[HN.out];exact HIl.out)) (by have h1:=HKn.out;have h2:=HN.out;omega)
set_option maxRecDepth 8000 in
set_option maxHeartbeats 16000000 in
theorem zs8 {U:List Nat}(hUl:U.length<20000)(pb ob sb:Nat)(ms mn:Value)(x:Nat)(ih:∀y,y<x→zu2 U pb ob sb ms mn y):zz6 false U pb ob sb ms mn x:=by
 intro V BV M I fo fc w hst hx hU;have hVl:=hst.len;have HIh:=Hh ih;have HSt:=Hh hst;obtain⟨X,hX⟩:∃X,X=za4 V x:=⟨_,rfl⟩;obtain⟨C,hC⟩:∃C,C=za0 V:=⟨_,rfl⟩;obtain⟨cx,hcx⟩:∃cx,cx=C.getD x 0:=⟨_,rfl⟩;have hoc:=(zax hst.ok.book hx).2;obtain⟨u1,u2⟩:=hst.ok.opts x _ (zaf hx);obtain⟨z1,z2⟩:=hst.ok.lens (n:=V.length+1) (Nat.lt_succ_self _) _ (List.mem_of_getElem? (zaf hx));rw[←hX,←hC,←hcx]at hoc;rw[←hX]at u1 u2 z1 z2;rw[←hC,←hcx]at hU ⊢;have HU:=Hh hU;have HOc:=Hh hoc;have HU1:=Hh u2;have HZ:=Hh (show V.length<20000/\X.1.length≤V.length/\X.2.length≤V.length from⟨by omega,by omega,by omega⟩);have HX:=Hh hx;have HXe:=Hh hX;have HCe:=Hh hC;have HCx:=Hh hcx;have HUl:=Hh hUl;have HTo:=Hh (fun(V1:List PL) (hp:V <+: V1)=>(⟨hp.length_le,fun j hj=>by rw[hC];exact zbk hp hj⟩:V.length≤V1.length/\∀j,j<V.length→(za0 V1).getD j 0=C.getD j 0));clear hst hU hoc u1 u2 z1 z2 hx hX hC hcx hUl hVl ih;have hmm:∀(t:TypeId) (w:World),(Instr.makeMap t none).run Tryz.prog w=.ok (.map (some w.heap.size)) (w.alloc (.map #[] 0)):=fun t w=>run_makeMap t w
 go_enter Tryz.func78,Tryz.ntmps78;go_upto_region 2 with fail;clear hmm;obtain⟨w3,hw3⟩:∃w3,w3=((w.alloc (.cells #[] 3)).alloc (.map #[] 0)).alloc (.cells #[] 3):=⟨_,rfl⟩;have hf3:Fr NoM w w3:=by rw[hw3];exact(((Fr.refl NoM w).alloc _).alloc _).alloc _
 have r1:NRow w.heap.size w3 (.slice (some ⟨w.heap.size,0,none⟩) 0 0) []:=by
  rw[hw3];exact(NRow.made w).fr (((Fr.refl NoM _).alloc (.map #[] 0)).alloc (.cells #[] 3)) (fun _ _ q=>q)
 have rm:MapF encN encB w3 (w.heap.size+1) (fun _=>none):=by
  rw[hw3];have h:=MapF.made encN encB (w.alloc (.cells #[] 3));rw[World.size_alloc]at h;exact h.fr ((Fr.refl NoM _).alloc (.cells #[] 3)) (fun q=>q)
 have r2:NRow w.heap.size w3 (.slice (some ⟨w.heap.size+1+1,0,none⟩) 0 0) []:=by
  rw[hw3];have h:=NRow.made ((w.alloc (.cells #[] 3)).alloc (.map #[] 0));rw[World.size_alloc,World.size_alloc]at h;exact⟨zb2 h.own (by omega),h.shape⟩
 obtain⟨pl1,plc1,pr1,prc1,p0,p1,_,_,_,_,hls,hrs⟩:=(HSt.out.fr0 hf3).pool.rd;obtain⟨gb1,go1,gv1,e1,c1,n1,i1⟩:=hls x HX.out;obtain⟨gb2,go2,gv2,e2,c2,n2,i2⟩:=hrs x HX.out;rw[←HXe.out]at n1 i1 n2 i2;subst e1;subst e2;have ix1:=zb0 (some ⟨gb1,go1,none⟩) V.length plc1 x gb1 go1 HX.out rfl;have ix2:=zb0 (some ⟨gb2,go2,none⟩) V.length prc1 x gb2 go2 HX.out rfl;have HA0:=Hh (RSt.start HSt.out hf3 r1 r2 rm (Nat.le_refl _) (by omega) (by omega) (by omega) (by omega) (by omega) n2 i2);obtain⟨ua,uc,ev,zz⟩:=id n2;subst ev;clear zz;have hz9:X.2.length≤9223372036854775807:=by have:=HZ.out;omega
 obtain⟨mb,hmb⟩:∃mb,mb=w.heap.size+1:=⟨_,rfl⟩;obtain⟨q1,hq1⟩:∃q1,q1=Value.slice (some ⟨w.heap.size,0,none⟩) 0 0:=⟨_,rfl⟩;obtain⟨q2,hq2⟩:∃q2,q2=Value.slice (some ⟨w.heap.size+1+1,0,none⟩) 0 0:=⟨_,rfl⟩;rw[←hw3];rw[←hq1,←hq2,←hmb]at HA0 ⊢;clear hls hrs n1 n2 i1 i2 hw3 hf3 r1 r2 rm HSt hq1 hq2 hmb;go_wp2_with fail;clear p0 p1 c1 c2 ix1 ix2;go_loopw [7,36] (fun v5 t W=>∃(k:Nat) (v:Value) (V1:List PL) (B1:List Nat) (M1 I1:Nat→Prop) (fo1:Nat × Nat→Option Bool) (fc1:Nat→Option Nat) (Q1:List Nat),v=v5/\t=.int .i64 k/\k≤X.2.length/\RSt U pb ob sb mb ms mn w V M I W v q2 (.slice ua X.2.length uc) Q1 [] X.2 (fun _=>none) V1 B1 M1 I1 fo1 fc1/\CanRow V1 C Q1 (X.2.take k)) (fun _ t _=>X.2.length-(intOf t).toNat)
 case atStart=>exact⟨0,_,V,BV,M,I,fo,fc,[],rfl,rfl,Nat.zero_le _,HA0.out,CanRow.nil _ _⟩
 case round =>
  obtain⟨k,va,V1,B1,M1,I1,fo1,fc1,Q1,rfl,rfl,hk,hs,hcr⟩:=hrel;obtain⟨wa,rfl⟩:∃w7,w7=wr:=⟨_,rfl⟩;have HS:=Hh hs;have HCR:=Hh hcr;by_cases hkl:k<X.2.length
  ·obtain⟨l,hl⟩:∃l,X.2[k]?=some l:=⟨_,List.getElem?_eq_getElem hkl⟩
   have hlx:=HU1.out l (List.mem_of_getElem? hl);obtain⟨hle,hco⟩:=HTo.out V1 hs.nx.pre;obtain⟨_,_,ee,_,_,hcc⟩:=id hs.src;cases ee
   obtain⟨b3,o3,ha3,c3⟩:=hcc k l hl;unfold encN at c3;have ix3:=zaa ua X.2.length uc k b3 o3 hkl ha3;have hX0:=HX.out;have e1:(za0 V1).getD l 0=C.getD l 0:=hco l (by omega);have hcall:=HIh.out l hlx V1 B1 M1 I1 fo1 fc1 wa hs.st (by omega) (by rw[e1];exact fun a ha=>HU.out a ((SubC.root.step (show optC cx (C.getD l 0)from .inr ((HOc.out _).2 ⟨l,List.mem_of_getElem? hl,rfl⟩))).trans ha));rw[e1]at hcall;have HC:=Hh hcall;have HL:=Hh hl;clear hl hcc ha3 hs hcr hcall e1 hco hle hX0;go_wp2_with fail;(with_reducible refine HC.out.mono ?_);rintro e w8 ⟨i,V2,B2,M2,I2,fo2,fc2,rfl,st2,nx2,hi2,hc2⟩;have HS8:=Hh (HS.out.call st2 nx2);have HR8:=Hh ((HCR.out.mono nx2.pre).push hi2 hc2);clear st2 nx2 hi2 hc2 c3 ix3;go_wp2_with (at_builtin;refine zaq (enc:=encN) _ rfl (.tmp 40) (.tmp 44) 42 rfl w.heap.size 3 (.int .i64 0) 8 Tryz.underlying42 za8 rfl va Q1.length (Q1.map encN) rfl (HS8.out.fr0 ((Fr.refl NoM w8).alloc _)).rq (.slice (some ⟨w8.heap.size,0,none⟩) 1 1) rfl [i] (SliceOf.one encN w8 i 3) (fun _=>rfl) (by have h1:=HCR.out.2.2;have h2:=HZ.out;rw[List.length_take]at h1;simp only[List.length_singleton];omega) (by decide) (by have:=HS8.out.nx.fr.size;rw[World.size_alloc];omega) ?_);intro v9 w9 h9 f9 q9;have HS9:=Hh (HS8.out.pushQ (L:=[i]) ((Fr.refl NoM w8).alloc _) h9 f9 (by rw[World.size_alloc];exact q9));clear h9 f9 q9;go_wp2;go_roundw
   case rel=>exact⟨k+1,v9,V2,B2,M2,I2,fo2,fc2,Q1 ++ [i],rfl,by go_num,by omega,HS9.out,by rw[zrs HL.out];exact HR8.out⟩
   case measure=>simp[intOf];omega
  ·obtain rfl:k=X.2.length:=by omega
   rw[List.take_length]at hcr;obtain⟨N,hN⟩:∃N,N=V1.length:=⟨_,rfl⟩;obtain⟨hle,hco⟩:=HTo.out V1 hs.nx.pre;have hX0:=HX.out;have hcf:(za0 V1).getD x 0=cx:=by rw[hco x hX0,HCx.out]
   have hq0:QR V1 (za0 V1) cx (fun _=>false) Q1 []:=QR.init hcr (fun l=>HOc.out l);have hlen:Q1.length≤(cntS (fun _=>false) N+1)*N:=by
    have h1:=hcr.2.2;have h2:=HZ.out;have h3:N≤(cntS (fun _=>false) N+1)*N:=Nat.le_mul_of_pos_left _ (Nat.succ_pos _);omega
   have hNl:N<20000:=by
    have:=hs.st.len;have:=HUl.out;omega
   have hxN:x<N:=by omega
   rw[←zkt]at hs;have HS:=Hh hs;have HQ:=Hh hq0;have HLn:=Hh hlen;have HN:=Hh hN;have HNl:=Hh hNl;have HxN:=Hh hxN;have HCf:=Hh hcf;clear hs hcr hk hkl hq0 hlen hle hco hX0 hcf HCR hN hNl hxN HA0;go_wp2_with fail;go_loopw [7,9] (fun v5 k5 W=>∃(v kv:Value) (S:Nat→Bool) (Q Kp:List Nat) (fo2:Nat × Nat→Option Bool),v=v5/\kv=k5/\RSt U pb ob sb mb ms mn w V M I W v kv (.slice ua X.2.length uc) Q Kp X.2 (sawF S) V1 B1 M1 I1 fo2 fc1/\QR V1 (za0 V1) cx S Q Kp/\Q.length≤(cntS S N+1)*N) (fun v5 _ W=>(N-zf5 W mb N)*(N+1)+lenOf v5)
   case atStart=>exact⟨_,_,_,_,_,_,rfl,rfl,HS.out,HQ.out,HLn.out⟩
   case round =>
    obtain⟨qv,kv,S,Q,Kp,fo2,rfl,rfl,hs,hq,hql⟩:=hrel;obtain⟨wb,rfl⟩:∃w7,w7=wr:=⟨_,rfl⟩;rcases List.eq_nil_or_concat Q with rfl|⟨Q0,i,rfl⟩
    ·obtain⟨qa,qc,rfl⟩:=hs.qempty
     have hkl:Kp.length≤N:=ze1 hq.nodup (fun y hy=>by rw[HN.out];exact(hq.snd y (.inl (hq.kp y hy).1)).1);have hkt:∀y∈Kp,y<V1.length:=fun y hy=>(hq.snd y (.inl (hq.kp y hy).1)).1
     have hrn:Nats wb kv Kp:=SliceOf.of_owns hs.rk rfl;have hdom:=zft hs.st.ok.book pb ob (.map (some sb)) ms mn (fun e=>(hs.st.mlt ob e).2.1 rfl) (fun e=>(hs.st.ilt ob e).2.1 rfl) false (gR (za0 V1)) rfl kv Kp fo2 wb hs.st.pool hs.st.ord hs.st.ordOK hrn (fun _ q e=>(hs.sk q e).2.2.1) hkt (by have:=HNl.out;omega);have HDom:=Hh hdom;have HS:=Hh hs;have HRn:=Hh hrn;have HKl:=Hh hkl;have HKt:=Hh hkt;have HDone:=Hh (hq.done hs.st.ok.book);clear hdom hrn hkl hkt hs hq hql;go_wp2_with fail;(with_reducible refine HDom.out.mono ?_);rintro e w5 ⟨v5,rfl,hn5,f5o,hm5,ho5,f5⟩;have hwo:=zha kv v5 Kp (domB (gR (za0 V1)) Kp) w5 (HRn.out.fr f5 (fun _ q e=>(HS.out.sk q e).2.2.1)) hn5.nats (List.pairwise_lt_range.filter _) (by have:=HKl.out;have:=HNl.out;omega);have hso:=HS.out.st.ords f5 hm5 ho5;have HWo:=Hh hwo;have HSo:=Hh hso;clear hwo hso hn5 hm5 ho5 f5 HDom;go_wp2_with fail;(with_reducible refine HWo.out.mono ?_);rintro e w6 ⟨v6,rfl,hn6,f6⟩;have HN6:=Hh hn6;have F6:=Hh f6;clear hn6 f6 HWo;go_wp2_with fail;go_ret;have hst6:=HSo.out.1.fr0 F6.out;have hsz:w.heap.size≤w5.heap.size:=Nat.le_trans HS.out.nx.fr.size HSo.out.2.fr.size;refine⟨v6,_,V1,B1,M1,I1,f5o,fc1,rfl,hst6,HS.out.nx.trans (HSo.out.2.trans (CNx.of0 F6.out)),⟨zb2 HN6.out.own hsz,HN6.out.shape⟩,fun q hq=>?_,?_,fun l hl=>HKt.out l (zbm hl),HDone.out⟩
     ·have h1:=(HN6.out.own.lt q hq).1
      have h2:=HSo.out.1.ord.lt;have h3:=HSo.out.1.can.lt;refine⟨fun e=>?_,fun e=>by omega,fun e=>by omega⟩;have:=(HSo.out.1.mlt q e).1;omega
     ·have h1:=zec Kp (domB (gR (za0 V1)) Kp)
      have h2:=HKl.out;have h3:=HN.out;omega
    ·rw[List.concat_eq_append]at hs hq hql
     obtain⟨g,c,rfl,hcell,hcc⟩:=hs.qshape;obtain⟨n,hn⟩:∃n,n=Q0.length+1:=⟨_,rfl⟩;have ixq:=zaa (some ⟨g,0,none⟩) n c Q0.length g 0 (by omega) rfl;rw[Nat.zero_add]at ixq;have hil:=(hq.snd i (.inr (by simp))).1;rw[←hn];have hnl:n≤9223372036854775807:=by
      have h1:=qcap (zms S N) HNl.out hql;rw[List.length_append,List.length_singleton]at h1;omega
     have hcast:((n:Int)-1)=(Q0.length:Int):=by omega
     have hwr:IntKind.i64.wrap (Q0.length:Int)=(Q0.length:Int):=by rw[IntKind.wrap_i64];omega
     have hlook:(Instr.lookup 93 (.map (some mb)) (.int .i64 (i:Int)) false).run Tryz.prog wb=.ok (.bool (S i)) wb:=by
      have h:=MapF.look (w:=wb) hs.smap (KeyAt.nat Tryz.underlying3) Tryz.underlying93 (Tryz.zeroValue4 _) i false;rw[zoe]at h;exact h
     have hqc:((Q0.length:Int))≤(c:Int):=by omega
     have hqn:Q0.length≤c:=by omega
     have hc0:¬(c=0):=by omega
     have hpos:((0:Int)<(n:Int)):=by omega
     have HS:=Hh hs;have HQ:=Hh hq;have HLn:=Hh hql;have Hn:=Hh hn;clear hs hq hql hn;cases hS:S i with
     | true =>
      rw[hS]at hlook;go_wp2_with fail;go_roundw
      case rel=>exact⟨_,_,S,Q0,Kp,fo2,rfl,rfl,HS.out.pop,HQ.out.skip hS,by have h:=HLn.out;rw[List.length_append]at h;omega⟩
      case measure =>
       show(N-zf5 wb mb N)*(N+1)+Q0.length<(N-zf5 wb mb N)*(N+1)+n
       have:=Hn.out;omega
     | false =>
      rw[hS]at hlook;have hSn:¬S i=true:=by rw[hS];exact Bool.false_ne_true
      obtain⟨w9,hrun,hm9,hf9⟩:=MapF.store (P:=Tryz.prog) (w:=wb) HS.out.smap (KeyAt.nat Tryz.underlying3) Tryz.underlying93 i true;have hrun:(Instr.mapUpdate 93 (.map (some mb)) (.int .i64 (i:Int)) (.bool true)).run Tryz.prog wb=.ok () w9:=hrun;rw[zod]at hm9;have hs9:=HS.out.pop.see hf9 hm9;have HSn:=Hh hSn;have HS9:=Hh hs9;obtain⟨pl2,plc2,pr2,prc2,p0,p1,_,_,_,_,hls,hrs⟩:=hs9.st.pool.rd;obtain⟨gb3,go3,gv3,e3,c3,n3,i3⟩:=hls i hil;obtain⟨gb4,go4,gv4,e4,c4,n4,i4⟩:=hrs i hil;subst e3;subst e4;have ix3:=zb0 (some ⟨gb3,go3,none⟩) V1.length plc2 i gb3 go3 hil rfl;have ix4:=zb0 (some ⟨gb4,go4,none⟩) V1.length prc2 i gb4 go4 hil rfl;have hthr:=zhc hs9.st.ok.book pb ob (.map (some sb)) ms mn (fun e=>(hs9.st.mlt ob e).2.1 rfl) (fun e=>(hs9.st.ilt ob e).2.1 rfl) false (gL (za0 V1)) rfl x i _ (za4 V1 i).1 fo2 w9 hs9.st.pool hs9.st.ord hs9.st.ordOK (by have:=HxN.out;have:=HN.out;omega) n3 (fun hne q hq=>(hs9.st.ilt q (i3 hne q hq)).2.1) (fun z hz=>by have:=(hs9.st.ok.opts i _ (zaf hil)).1 z hz;omega);obtain⟨res,hres⟩:∃res,res=(za4 V1 i).1.find? (gL (za0 V1) x):=⟨_,rfl⟩;rw[←hres]at hthr;have HThr:=Hh hthr;have HRes:=Hh hres;have HIl:=Hh hil;clear hthr hres hil hls hrs n3 n4 i3 i4 hs9 hm9 hf9 hSn hS;go_wp2_with fail;(with_reducible refine HThr.out.mono ?_);rintro e w10 ⟨rfl,fo3,hm10,ho10,f10⟩;obtain⟨st10,nx10⟩:=HS9.out.st.ords f10 hm10 ho10;have hs10:=HS9.out.call st10 nx10;have HS10:=Hh hs10;clear hm10 ho10 f10 st10 nx10 p0 p1 c3 c4 ix3 ix4 hlook hrun HThr;cases res with
      | none =>
       have hnk:=HQ.out.keep HSn.out (by
        have h:=HRes.out;intro r hr;have h1:=(List.find?_eq_none.1 h.symm) r hr;have h2:gL (za0 V1) x r=geC ((za0 V1).getD r 0) cx:=by rw[←HCf.out];rfl
        rw[h2]at h1;simpa using h1)
       have hkl:Kp.length≤N:=ze1 HQ.out.nodup (fun y hy=>by rw[HN.out];exact(HQ.out.snd y (.inl (HQ.out.kp y hy).1)).1);have HNk:=Hh hnk;have HKl:=Hh hkl;clear hnk hkl hs10;have hneg:(thrI none)=-1:=rfl;rw[hneg];go_wp2_with (at_builtin;refine zaq (enc:=encN) _ rfl (.tmp 99) (.tmp 101) 42 rfl w.heap.size 3 (.int .i64 0) 8 Tryz.underlying42 za8 rfl kv Kp.length (Kp.map encN) rfl (HS10.out.fr0 ((Fr.refl NoM w10).alloc _)).rk (.slice (some ⟨w10.heap.size,0,none⟩) 1 1) rfl [i] (SliceOf.one encN w10 i 3) (fun _=>rfl) (by have h1:=HKl.out;have h2:=HNl.out;simp only[List.length_singleton];omega) (by decide) (by have:=HS10.out.nx.fr.size;rw[World.size_alloc];omega) ?_);intro v11 w11 h11 f11 q11;have HS11:=Hh (HS10.out.pushK (i:=i) ((Fr.refl NoM w10).alloc _) h11 f11 (by rw[World.size_alloc];exact q11));clear h11 f11 q11;go_wp2;go_roundw
       case rel=>exact⟨_,_,addS S i,Q0,Kp ++ [i],fo3,rfl,rfl,HS11.out,HNk.out,by
        have h:=HLn.out;rw[List.length_append]at h;have h2:=zdi S i HSn.out N;have h3:(cntS S N+1)*N≤(cntS (addS S i) N+1)*N:=Nat.mul_le_mul_right _ (by omega);omega⟩
       case measure =>
        show(N-zf5 w11 mb N)*(N+1)+Q0.length<(N-zf5 wb mb N)*(N+1)+n
        rw[zd4 HS.out.smap,zd4 HS11.out.smap,Hn.out];have h2:=zdi S i HSn.out N;rw[if_pos (by rw[HN.out];exact HIl.out)]at h2;have h3:=zfq (N:=N) (q:=Q0.length) (m:=0) (zph HSn.out (show i<N from by rw[HN.out];exact HIl.out)) (Nat.zero_le _);rw[h2];omega
      | some k =>
       have hmem:=List.mem_of_find?_eq_some HRes.out.symm
       have hgt:=List.find?_some HRes.out.symm
       have hgt:geC ((za0 V1).getD k 0) cx=true:=by rw[←HCf.out];exact hgt
       have hkl:k<V1.length:=by have:=(HS10.out.st.ok.opts i _ (zaf HIl.out)).1 k hmem;have:=HIl.out;omega
       have hnk:=HQ.out.push HS10.out.st.ok.book hmem hgt;obtain⟨pl2,plc2,pr2,prc2,p0,p1,_,_,_,_,hls,hrs⟩:=hs10.st.pool.rd;obtain⟨gb5,go5,gv5,e5,c5,n5,i5⟩:=hrs k hkl;subst e5;have ix5:=zb0 (some ⟨gb5,go5,none⟩) V1.length prc2 k gb5 go5 hkl rfl;have hnn:¬((k:Int)<0):=by omega
       have hkn:=(hs10.st.ok.lens (n:=V1.length+1) (Nat.lt_succ_self _) _ (List.mem_of_getElem? (zaf hkl))).2;have HNk:=Hh hnk;have HKn:=Hh hkn;have HN5:=Hh n5;clear hls hrs hs10 hmem hgt hnk hkn i5 n5;have hneg:(thrI (some k))=(k:Int):=rfl;rw[hneg];go_wp2_with (at_builtin;refine zaq (enc:=encN) _ rfl (.tmp 87) (.tmp 94) 42 rfl w.heap.size 3 (.int .i64 0) 8 Tryz.underlying42 za8 rfl _ Q0.length (Q0.map encN) rfl HS10.out.rq _ rfl (za4 V1 k).2 HN5.out (fun _=>rfl) (by have h1:=HKn.out;have h2:=HNl.out;have h3:=HN.out;have h4:=qcap (zms S N) h2 HLn.out;rw[List.length_append]at h4;omega) (by decide) HS10.out.nx.fr.size ?_);intro v11 w11 h11 f11 q11;have HS11:=Hh (HS10.out.pushQ (L:=(za4 V1 k).2) (Fr.refl NoM w10) h11 f11 q11);clear h11 f11 q11;go_wp2;go_roundw
       case rel=>exact⟨_,_,addS S i,Q0++(za4 V1 k).2,Kp,fo3,rfl,rfl,HS11.out,HNk.out,by
        have h:=HLn.out;rw[List.length_append,List.length_singleton]at h;rw[List.length_append];have h2:=zdi S i HSn.out N;rw[if_pos (by rw[HN.out];exact HIl.out)]at h2;rw[h2,Nat.succ_mul];have h3:=HKn.out;have h4:=HN.out;omega⟩
       case measure =>
        show(N-zf5 w11 mb N)*(N+1)+lenOf v11<(N-zf5 wb mb N)*(N+1)+n
        rw[zd4 HS.out.smap,zd4 HS11.out.smap,Hn.out,HS11.out.qlen,List.length_append];have h2:=zdi S i HSn.out N;rw[if_pos (by rw[HN.out];exact HIl.out)]at h2;rw[h2];exact zfq (zph HSn.out (show i<N from by rw[HN.out];exact HIl.out)) (by have h1:=HKn.out;have h2:=HN.out;omega)
theorem zk0 {V:List PL}{L:List Nat}(h:∀l∈L,l<V.length):RowC V L (za1 (za0 V) L):=⟨h,rfl⟩
set_option maxRecDepth 8000 in
set_option maxHeartbeats 16000000 in
theorem zvy {U:List Nat}(hUl:U.length<20000)(pb ob sb:Nat)(ms mn:Value)(x:Nat)(ih:∀y,y<x→zu2 U pb ob sb ms mn y):zu2 U pb ob sb ms mn x:=by
 intro V BV M I fo fc w1 hst hx hU;have HRL:=Hh (zum hUl pb ob sb ms mn x ih);have HRR:=Hh (zs8 hUl pb ob sb ms mn x ih);have HSt:=Hh hst;obtain⟨cx,hcx⟩:∃cx,cx=(za0 V).getD x 0:=⟨_,rfl⟩;have HU:=Hh hU;have hin:canC cx∈U:=by rw[hcx];exact hU _ .root
 rw[←hcx];have HX:=Hh hx;have HCx:=Hh hcx;have HUl:=Hh hUl;have HIn:=Hh hin;clear hst hU hx hcx hUl ih hin;have hlook:(Instr.lookup 66 (.map (some sb)) (.int .i64 (x:Int)) true).run Tryz.prog w1=.ok (.tuple #[((fc x).map encN).getD (.int .i64 0),.bool (fc x).isSome]) w1 :=
  MapF.look (w:=w1) HSt.out.can (KeyAt.nat Tryz.underlying3) Tryz.underlying66 (Tryz.zeroValue3 _) x true
 obtain⟨_,_,_,_,_,_,_,p5,_,_,_⟩:=HSt.out.pool.rd;cases hfx:fc x with
 | some a =>
  rw[hfx]at hlook;have hlook:(Instr.lookup 66 (.map (some sb)) (.int .i64 (x:Int)) true).run Tryz.prog w1=.ok (.tuple #[.int .i64 (a:Int),.bool true]) w1:=hlook;have ha:=HSt.out.canOK _ _ hfx;have HA:=Hh ha;clear hfx ha;go_enter Tryz.func51,Tryz.ntmps51;go_wp2_with fail;go_ret;exact⟨a,V,BV,M,I,fo,fc,rfl,HSt.out,CNx.refl _ _ _ _ _ _,HA.out.2.1,by rw[HCx.out];exact HA.out.2.2⟩
 | none =>
  rw[hfx]at hlook;have hlook:(Instr.lookup 66 (.map (some sb)) (.int .i64 (x:Int)) true).run Tryz.prog w1=.ok (.tuple #[.int .i64 0,.bool false]) w1:=hlook;clear hfx;have hred:=HRL.out V BV M I fo fc w1 HSt.out HX.out HU.out;rw[←HCx.out]at hred;have HRed:=Hh hred;clear hred;go_enter Tryz.func51,Tryz.ntmps51;go_wp2_with fail;(with_reducible refine HRed.out.mono ?_);rintro e w2 ⟨v2,L2,V2,B2,M2,I2,fo2,fc2,rfl,st2,nx2,row2,sep2,len2,lt2,red2⟩;have hx2:x<V2.length:=by have:=nx2.pre.length_le;have:=HX.out;omega
  have hcx2:(za0 V2).getD x 0=cx:=by rw[zbk nx2.pre HX.out,HCx.out]
  have hred:=HRR.out V2 B2 M2 I2 fo2 fc2 w2 st2 hx2 (by rw[hcx2,HCx.out];exact HU.out);rw[hcx2]at hred;have HRed2:=Hh hred;have HN2:=Hh nx2;have HR2:=Hh row2;have HS2:=Hh sep2;have HL2:=Hh len2;have HT2:=Hh lt2;have HD2:=Hh red2;clear hred hcx2 hx2 st2 nx2 row2 sep2 len2 lt2 red2 HRed hlook p5;go_wp2_with fail;(with_reducible refine HRed2.out.mono ?_);rintro e w3 ⟨v3,L3,V3,B3,M3,I3,fo3,fc3,rfl,st3,nx3,row3,sep3,len3,lt3,red3⟩;have row2:NRow w1.heap.size w3 v2 L2:=HR2.out.fr nx3.fr (fun q hq e=>by
   obtain⟨a,b,c⟩:=HS2.out q hq;rcases e with e|e|e
   ·exact a e
   ·exact b e
   ·exact c e)
  have hp3:=nx3.pre;have hl3:=hp3.length_le;have hlt:∀l∈L2,l<V3.length:=fun l hl=>by have:=HT2.out l hl;omega
  have hcode:za1 (za0 V3) L2=za1 (za0 V2) L2:=((zk0 HT2.out).mono hp3).2;have hredl:RedL cx (za1 (za0 V3) L2):=by rw[hcode];exact HD2.out
  have hcan:=zx7 hredl red3;have hV3:V3.length<20000:=by have:=st3.len;have:=HUl.out;omega
  have hll:=HL2.out;obtain⟨b2,c2,hv2⟩:=row2.shape;obtain⟨b3,c3,hv3⟩:=row3.shape;subst hv2;subst hv3;have hnd:=zk8 pb V3 B3 L2 L3 (.map (some ob)) (.map (some sb)) ms mn b2 0 c2 b3 0 c3 w3 st3.pool row2.nats row3.nats hlt lt3 (by omega) (by omega) (by omega) (fun q hq=>by have:=(zi7 st3.ok).lt V3.length (Nat.le_refl _) q hq;omega);have hin3:mkC (za1 (za0 V3) L2) (za1 (za0 V3) L3)∈U:=by rw[hcan.eq];exact HIn.out
  have HND:=Hh hnd;have HCan:=Hh hcan;have HIn3:=Hh hin3;have HLt:=Hh hlt;have HLt3:=Hh lt3;have HSt3:=Hh st3;have HN3:=Hh (HN2.out.trans nx3);clear hnd hcan hin3 hlt lt3 st3 nx3 row2 row3 sep3 len3 red3 hp3 hl3 hcode hredl hV3 hll HRed2;go_wp2_with fail;(with_reducible refine HND.out.mono ?_);rintro e w5 ⟨rfl,M5,I5,p5,hM5,hI5,f5⟩;obtain⟨st5,nx5,hr5,hc5⟩:=HSt3.out.node (zk0 HLt.out) (zk0 HLt3.out) HIn3.out p5 hM5 hI5 f5;have nx15:=HN3.out.trans nx5;obtain⟨V5,hV5⟩:∃V5,V5=(za3 V3 B3 L2 L3).1:=⟨_,rfl⟩;obtain⟨B5,hB5⟩:∃B5,B5=(za3 V3 B3 L2 L3).2.1:=⟨_,rfl⟩;obtain⟨r5,hr5e⟩:∃r5,r5=(za3 V3 B3 L2 L3).2.2:=⟨_,rfl⟩;rw[←hV5,←hB5]at st5;rw[←hV5]at nx15 hr5 hc5;rw[←hr5e]at hr5 hc5 ⊢;have hcan:IsCan ((za0 V5).getD r5 0) cx:=by rw[hc5];exact HCan.out
  have hx5:x<V5.length:=by have:=nx15.pre.length_le;have:=HX.out;omega
  have hcx5:(za0 V5).getD x 0=cx:=by rw[zbk nx15.pre HX.out,HCx.out]
  obtain⟨w9,hrun,hm9,hf9⟩:=MapF.store (P:=Tryz.prog) (w:=w5) st5.can (KeyAt.nat Tryz.underlying3) Tryz.underlying66 x r5;have hrun:(Instr.mapUpdate 66 (.map (some sb)) (.int .i64 (x:Int)) (.int .i64 (r5:Int))).run Tryz.prog w5=.ok () w9:=hrun;obtain⟨st9,nx9⟩:=st5.store hf9 hm9 (st5.canOK.upd hx5 hr5 (by rw[hcx5];exact hcan));obtain⟨w10,hrun2,hm10,hf10⟩:=MapF.store (P:=Tryz.prog) (w:=w9) st9.can (KeyAt.nat Tryz.underlying3) Tryz.underlying66 r5 r5;have hrun2:(Instr.mapUpdate 66 (.map (some sb)) (.int .i64 (r5:Int)) (.int .i64 (r5:Int))).run Tryz.prog w9=.ok () w10:=hrun2;obtain⟨st10,nx10⟩:=st9.store hf10 hm10 (st9.canOK.upd hr5 hr5 hcan.self);obtain⟨_,_,_,_,_,_,_,k5,_,_,_⟩:=st5.pool.rd;obtain⟨_,_,_,_,_,_,_,k9,_,_,_⟩:=st9.pool.rd;have HEnd:=Hh (And.intro st10 (And.intro (nx15.trans (nx9.trans nx10)) (And.intro hr5 hcan)));clear st9 nx9 hr5 hc5 hm9 hf9 st10 nx10 hm10 hf10 hcx5 hx5 hcan nx15 st5 nx5 p5 hM5 hI5 f5 hV5 hB5 hr5e HND HCan;go_wp2_with fail;go_ret;exact⟨r5,V5,B5,_,_,_,_,rfl,HEnd.out.1,HEnd.out.2.1,HEnd.out.2.2.1,HEnd.out.2.2.2⟩
theorem zyd {U:List Nat}(hUl:U.length<20000)(pb ob sb:Nat)(ms mn:Value):∀x,zu2 U pb ob sb ms mn x:=by
 intro x;induction x using Nat.strongRecOn with
 | _ x ih=>exact zvy hUl pb ob sb ms mn x ih
noncomputable def canU (C:List Nat):List Nat:=C++C.map canC
theorem zx0 {M I:Nat→Prop}(pb ob sb:Nat)(ms mn:Value)(V:List PL)(BV:List Nat)(r:Nat)(W:World)(hP:PoolS M I W pb V BV (.map (some ob)) (.map (some sb)) ms mn)(hOK:PoolOK V BV)(hmo:MapF encP encB W ob (fun _=>none))(hmap:MapF encN encN W sb (fun _=>none))
  (hM:∀q,M q→q<W.heap.size/\q≠ob/\q≠sb) (hI:∀q,I q→q<W.heap.size/\q≠ob/\q≠sb) (hos:ob≠sb) (h1:r<V.length) (hn:V.length≤240) :
  Calls Tryz.prog 51 #[.pointer (some ⟨pb,0,none⟩),.int .i64 (r:Int)] W fun e w'=>zu1 (canU (za0 V)) pb ob sb ms mn W V M I ((za0 V).getD r 0) e w' :=
 zyd (U:=canU (za0 V)) (by unfold canU;rw[List.length_append,List.length_map,za7];omega) pb ob sb ms mn r V BV M I _ _ W
  ⟨hP,hOK,fun x hx=>List.mem_append_left _ (zda (by rw[za7];exact hx)),hmo,OrdF.none _,hmap,CanMO.none V,hM,hI,hos⟩ h1 (fun a ha=>List.mem_append_right _ (List.mem_map.2 ⟨a,zru hOK h1 ha,rfl⟩))
end Go.Proofs.YtkofnbjjbcohgaaGreatDoor
