import Derived.Test.YtghekfmfonoocaaGreatDoorZu5
/- Lemmas. -/
set_option linter.all false
set_option maxHeartbeats 16000000
set_option maxRecDepth 8000
namespace Go.Proofs.YtghekfmfonoocaaGreatDoor
open Go.RowKit
def zdb (a:Nat)(A:List Nat):Prop:=valB a=true/\∀b,b∈A↔∃c,c<A.length/\nusC a 0 c=b
structure Sofar (A:List Nat) (k:Nat) (d:Int × Nat) (S:List Nat):Prop where
 len:S.length=k
 nodup:S.Nodup
 lt:∀s∈S,s<A.length
 code:∃a,(0<k->valB a=true/\valD a=d)/\A.take k=S.map (nusC a 0)
theorem Sofar.start (A:List Nat):Sofar A 0 (0,0) []:=⟨rfl,List.nodup_nil,λb a=>by simp at a,0,λa=>by omega,by simp⟩
theorem Sofar.next {A S:List Nat}{k:Nat}{d:Int × Nat}{a s:Nat}(j:Sofar A k d S)(t:k<A.length)(b:IsNus A[k] a 0 s)(u:s<A.length)(q:s ∉ S)(r:0<k->valD a=d):Sofar A (k+1) (valD a) (S ++ [s]):=by obtain⟨l,m,n,y,o,p⟩:=j;refine⟨by rw[yX,l];rfl,List.nodup_append.2 ⟨m,by simp,λg c z v h=>q (by rw[<-x9.1 v,<-h];exact c)⟩,λg c=>?_,a,λ_=>⟨b.1,rfl⟩,?_⟩;{rcases y6.1 c with e|e;{exact n g e};{rw[x9.1 e];exact u}};{rw[yQ t,p,vZ,b.2];by_cases f:0<k;{obtain⟨w,x⟩:=o f;rw[zd4 w b.1 (x.trans (r f).symm)];rfl};{have i:S=[]:=List.eq_nil_of_length_eq_zero (by omega);rw[i];rfl}}
theorem Sofar.done {A S:List Nat}{d:Int × Nat}(k:Sofar A A.length d S)(p:0<A.length):∃b,valD b=d/\zdb b A:=by obtain⟨l,m,h,b,n,e⟩:=k;obtain⟨s,t⟩:=n p;rw[y7]at e;have o:∀a,a<A.length->a∈S:=λa f=>by{refine Classical.byContradiction λr=>?_;have:=(List.nodup_cons.2 ⟨r,m⟩).length_le_of_subset (l₂:=List.range A.length) λu g=>by{rcases kW.1 g with rfl|g;{exact kZ.2 f};{exact kZ.2 (h u g)}};rw[List.length_cons,uV,l]at this;omega};refine⟨b,t,s,λv=>⟨λi=>?_,λ⟨a,f,c⟩=>?_⟩⟩;{rw[e]at i;obtain⟨j,q,c⟩:=y8.1 i;exact⟨j,h j q,c⟩};{rw[e];exact y8.2 ⟨a,o a f,c⟩}
theorem Sofar.fits {A S:List Nat}{k:Nat}{d:Int × Nat}{b:Nat}(t:Sofar A k d S)(z:k<A.length)(w:A.Nodup)(f:zdb b A):∃c,c<A.length/\IsNus A[k] b 0 c/\c ∉ S/\(0<k->valD b=d):=by obtain⟨G,H,I,g,u,v⟩:=t;obtain⟨c,x,n⟩:=(f.2 A[k]).1 (y9 z);have p:∀a m,S[a]?=some m->A[a]?=some (nusC g 0 m):=λa m o=>by{(have h:a<k:=by have:=(xV.1 o).1;omega);have e:=congrArg (λD=>D[a]?) v;simp only[List.getElem?_take_of_lt h,vY,o]at e;exact e};have q:0<k->g=b/\valD b=d:=λj=>by{obtain⟨E,F⟩:=u j;have B:=xQ (l:=S) (i:=0) (by omega);have hA0:=p 0 _ B;obtain⟨C,_,r⟩:=(f.2 _).1 (xK hA0);have:=(zvz _ b g 0 0 C _ (zex f.1) (zex E) rfl r).1;exact⟨this.symm,by rw[this];exact F⟩};(refine⟨c,x,⟨f.1,n.symm⟩,λy=>?_,λj=>(q j).2⟩;obtain⟨a,h,s⟩:=uY y;have J:a<k:=by omega);have e:=p a c (by rw[xQ h,s]);rw[(q (by omega)).1,n,xQ (by omega)]at e;have:=(List.getElem_inj w).1 (yY e);omega
theorem yiv {w:World}{a i:Nat}{u:Value}(c:w.cell? ⟨a,i,none⟩=some u):a<w.heap.size:=by refine Classical.byContradiction λd=>?_;have b:w.heap[a]?=none:=Array.getElem?_eq_none (by omega);simp[World.cell?,b]at c
def setU (b:World)(a:Nat)(x:(Int × Nat) × Int × Nat):World:=(((b.setCell ⟨a,0,none⟩ (.int .i64 x.1.1)).setCell ⟨a,1,none⟩ (.int .i64 (x.1.2:Int))).setCell ⟨a,2,none⟩ (.int .i64 x.2.1)).setCell ⟨a,3,none⟩ (.int .i64 (x.2.2:Int))
theorem zvh (b:World)(a:Nat)(x:(Int × Nat) × Int × Nat):Fr (λc=>c=a) b (setU b a x) :=
 (((Fr.setCell (M:=λc=>c=a) (Fr.refl _ b) ⟨a,0,none⟩ (.int .i64 x.1.1) (λ_=>rfl)).setCell ⟨a,1,none⟩ (.int .i64 (x.1.2:Int)) (λ_=>rfl)).setCell ⟨a,2,none⟩ (.int .i64 x.2.1) (λ_=>rfl)).setCell ⟨a,3,none⟩ (.int .i64 (x.2.2:Int)) (λ_=>rfl)
def zv7 (pb c b:Nat) (j l k:Value) (M I:Nat->Prop) (V:List PL) (BV:List Nat) (A:List Nat) (w:World) (e:Ending) (f:World):Prop :=
  ∃ (g : (Int × Nat) × Int × Nat) (ok : Bool) (h : Nat × Nat->Option Bool) (i : Nat->Option ((Int × Nat) × Int × Nat)), e = .returned (.tuple #[zdz g, .bool ok]) ∧
    (ok=true->∃ a,zdb a A/\g=(valD a,0,A.length))/\(ok=false->∀ a,¬ zdb a A)/\USt pb c b j l k M I V BV f h i/\Fr (λd=>d=c\/d=b) w f
theorem yp7 (w:World)(a b c:Obj):(((w.alloc a).alloc b).alloc c).heap[w.heap.size]?=some a/\(((w.alloc a).alloc b).alloc c).heap[w.heap.size+1]?=some b/\(((w.alloc a).alloc b).alloc c).heap[w.heap.size+1+1]?=some c:=by have f:=xJ w a;have d:=xJ (w.alloc a) b;have e:=xJ ((w.alloc a).alloc b) c;simp only[xZ]at d e;exact⟨(((nW _).alloc b).alloc c).heap f id,((nW _).alloc c).heap d id,e⟩
structure StarB (w:World) (n:Nat) (W:World) (m:List Bool) (d:Int × Nat):Prop where
 res:W.heap[w.heap.size]?=some (.cells #[.int .i64 0,.int .i64 0,.int .i64 0,.int .i64 0] 69 (0,0))
 seen:RowIs 4 encB W (w.heap.size+1) m
 len:m.length=n
 num:W.heap[w.heap.size+1+1]?=some (.cells #[.int .i64 d.1,.int .i64 (d.2:Int)] 29 (0,0))
theorem StarB.fr {w g h:World}{n:Nat}{m:List Bool}{d:Int × Nat}{X:Nat->Prop}(b:StarB w n g m d)(e:Fr X g h)(c:∀f,X f->f<w.heap.size\/w.heap.size+3<=f):StarB w n h m d :=
 ⟨e.heap b.res (λa=>by have:=c _ a;omega),b.seen.fr e (λa=>by have:=c _ a;omega),b.len,e.heap b.num (λa=>by have:=c _ a;omega)⟩
theorem StarB.num0 {w a:World}{n:Nat}{m:List Bool}{d:Int × Nat}(b:StarB w n a m d):a.cell? ⟨w.heap.size+1+1,0,none⟩=some (.int .i64 d.1)/\a.cell? ⟨w.heap.size+1+1,1,none⟩=some (.int .i64 (d.2:Int))/\a.frozen? ⟨w.heap.size+1+1,0,none⟩=false/\a.frozen? ⟨w.heap.size+1+1,1,none⟩=false :=
 ⟨by rw[xX a _ 0 _ _ _ b.num];rfl,by rw[xX a _ 1 _ _ _ b.num];rfl,by simp[World.frozen?,b.num],by simp[World.frozen?,b.num]⟩
theorem StarB.res0 {w a:World}{n:Nat}{m:List Bool}{d:Int × Nat}(b:StarB w n a m d):(a.cell? ⟨w.heap.size,0,none⟩=some (.int .i64 0)/\a.cell? ⟨w.heap.size,1,none⟩=some (.int .i64 0)/\a.cell? ⟨w.heap.size,2,none⟩=some (.int .i64 0)/\a.cell? ⟨w.heap.size,3,none⟩=some (.int .i64 0)) ∧
  a.frozen? ⟨w.heap.size,0,none⟩=false/\a.frozen? ⟨w.heap.size,1,none⟩=false/\a.frozen? ⟨w.heap.size,2,none⟩=false/\a.frozen? ⟨w.heap.size,3,none⟩=false :=
 ⟨⟨by rw[xX a _ 0 _ _ _ b.res];rfl,by rw[xX a _ 1 _ _ _ b.res];rfl,by rw[xX a _ 2 _ _ _ b.res];rfl,by rw[xX a _ 3 _ _ _ b.res];rfl⟩,by simp[World.frozen?,b.res],by simp[World.frozen?,b.res],by simp[World.frozen?,b.res],by simp[World.frozen?,b.res]⟩
theorem StarB.set {w a:World}{n s:Nat}{m:List Bool}{d e:Int × Nat}(b:StarB w n a m d):StarB w n (((a.setCell ⟨w.heap.size+1+1,0,none⟩ (.int .i64 e.1)).setCell ⟨w.heap.size+1+1,1,none⟩ (.int .i64 (e.2:Int))).setCell ⟨w.heap.size+1,s,none⟩ (.bool true)) (m.set s true) e:=by have c:=Fr.set a ⟨w.heap.size+1+1,0,none⟩ (.int .i64 e.1);have f:=Fr.set (a.setCell ⟨w.heap.size+1+1,0,none⟩ (.int .i64 e.1)) ⟨w.heap.size+1+1,1,none⟩ (.int .i64 (e.2:Int));have g:=Fr.set ((a.setCell ⟨w.heap.size+1+1,0,none⟩ (.int .i64 e.1)).setCell ⟨w.heap.size+1+1,1,none⟩ (.int .i64 (e.2:Int))) ⟨w.heap.size+1,s,none⟩ (.bool true);refine⟨g.heap (f.heap (c.heap b.res (λe=>by have e:w.heap.size=w.heap.size+1+1:=e;omega)) (λe=>by have e:w.heap.size=w.heap.size+1+1:=e;omega)) (λe=>by have e:w.heap.size=w.heap.size+1:=e;omega),?_,by rw[List.length_set];exact b.len,?_⟩;{have h:RowIs 4 encB ((a.setCell ⟨w.heap.size+1+1,0,none⟩ (.int .i64 e.1)).setCell ⟨w.heap.size+1+1,1,none⟩ (.int .i64 (e.2:Int))) (w.heap.size+1) m:=(b.seen.fr c (λe=>by have e:w.heap.size+1=w.heap.size+1+1:=e;omega)).fr f (λe=>by have e:w.heap.size+1=w.heap.size+1+1:=e;omega);exact h.set s true};{refine g.heap ?_ (λe=>by have e:w.heap.size+1+1=w.heap.size+1:=e;omega);rw[heap_set (heap_set b.num _) _];rfl}
theorem ztr {M I:Nat->Prop} (pb D y:Nat) (mc ms mn:Value) (V:List PL) (BV:List Nat) (bk:UOut D y M I) (hV:V.length<=1000000) (L:List Nat) (ov:Value) (w:World) (f:Nat × Nat->Option Bool) (g:Nat->Option ((Int × Nat) × Int × Nat))
    (hs:USt pb D y mc ms mn M I V BV w f g) (hL:Nats w ov L) (hq:∀ a,ov.ownBlock=some a->a≠D/\a≠y) (hr:∀ k∈L,zs2 pb D y mc ms mn M I V BV k) (hl:∀ k∈L,k < V.length) (hc:∀ k∈L,CanC ((za0 V).getD k 0)) (ax:(za2 (za0 V) L).Nodup) (hp:0 < L.length) (bb:L.length<=1000000) :
    Calls Tryz.prog 136 #[.pointer (some ⟨pb,0,none⟩),ov,.map (some y)] w λe w'=>zv7 pb D y mc ms mn M I V BV (za2 (za0 V) L) w e w':=by
  obtain ⟨l,hA⟩:∃ l,l=za2 (za0 V) L:=⟨_,rfl⟩;have aH:l.length=L.length:=by rw [hA];unfold za2;rw [uK]
  have aI:∀ (i k:Nat),L[i]?=some k->∃ n:i < l.length,l[i]=(za0 V).getD k 0:=λi k X=>by
    have e:l[i]?=some ((za0 V).getD k 0):=by rw [hA];unfold za2;rw [vY,X];rfl
    exact ⟨(xV.1 e).1,(xV.1 e).2⟩
  rw [<-hA] at ax ⊢;obtain ⟨Z,a8⟩:∃ Z,Z=((w.alloc (.cells #[.int .i64 0,.int .i64 0,.int .i64 0,.int .i64 0] 69)).alloc (.cells (zcx encB false L.length) 4)).alloc (.cells #[.int .i64 0,.int .i64 0] 29):=⟨_,rfl⟩;have f1:Fr NoM w Z:=by rw [a8];exact (((nW w).alloc _).alloc _).alloc _
  obtain ⟨q0,t,G⟩:=yp7 w (.cells #[.int .i64 0,.int .i64 0,.int .i64 0,.int .i64 0] 69) (.cells (zcx encB false L.length) 4) (.cells #[.int .i64 0,.int .i64 0] 29);rw [<-a8] at q0 t G;have aW:Z.heap.size=w.heap.size + 3:=by rw [a8];simp
  have aJ:StarB w L.length Z (List.replicate L.length false) (0,0):=⟨q0,by unfold RowIs;rw [t];rfl,by simp,G⟩;have aV:=hs.ord.lt;have a7:=hs.kn.lt;have ag:=hs.lt;have aB:=Hh (λ(x:World) (J:(Int × Nat) × Int × Nat) (ok:Bool) (f':Nat × Nat->Option Bool) (g':Nat->Option ((Int × Nat) × Int × Nat)) (st:USt pb D y mc ms mn M I V BV x f' g') (fr:Fr (λa=>a=D\/a=y\/w.heap.size<=a) Z x)
      (F:ok=true->∃ b,zdb b l/\J=(valD b,0,l.length)) (h2:ok=false->∀ b,¬ zdb b l)=>(by
    have Y:=zvh x w.heap.size J;refine ⟨J,ok,f',g',rfl,F,h2,st.set Y (λa e=>?_),(f1.any.trans fr (λa hq e=>by rcases e with e | e | e;exact .inl e;exact .inr e;omega)).trans Y (λa hq e=>by have e:a=w.heap.size:=e;omega)⟩;have e:a=w.heap.size:=e;subst e;exact ⟨λe=>by have:=ag w.heap.size (.inl e);omega,λe=>by have:=ag w.heap.size (.inr e);omega,by omega,by omega⟩ :
    zv7 pb D y mc ms mn M I V BV l w (.returned (.tuple #[zdz J,.bool ok])) (setU x w.heap.size J)))
  have aY:=hs.fr0 f1;obtain ⟨oa,oc,rfl,bh,bi,aN⟩:=id hL;have b5:=Hh (λ(i k:Nat) (X:L[i]?=some k)=>show ∃ a1 a4,oa=some ⟨a1,a4,none⟩/\∀ x,Fr (λa=>a=D\/a=y\/w.heap.size<=a) Z x->x.cell? ⟨a1,a4 + i,none⟩=some (.int .i64 (k:Int)) from by
    obtain ⟨a1,a4,ha,hc⟩:=aN i k X;have hb:=yiv hc;have aM:=hq a1 (by rw [ha];rfl);exact ⟨a1,a4,ha,λx f=>f.cell (f1.cell hc id) (λe=>by
      rcases e with e | e | e
      · exact aM.1 e
      · exact aM.2 e
      · exact absurd hb (Nat.not_lt.2 e))⟩)
  have aT:=yhz L.length (by omega);have be:=Hh aT;have H0:=Hh aY;have b2:=Hh aJ;obtain⟨b8,ak,aD,HR,aC,b4,b7,HP,HV,a5,b1,bf⟩:=Hhp12 aW (And.intro aV a7) ag hr hl hc ax hp hV aH aI bb;clear hs hL hq hr hl hc ax hp f1 q0 t G aW aJ aV a7 ag aY aN aH aI hA;go_enter Tryz.func136,Tryz.ntmps136;go_upto_region 3 with fail;rw [<-a8];clear a8 aT;go_wp2_with fail;go_loopw [20] (λaA x=>∃ (i:Nat) (a3:List Bool) (C:Int × Nat) (q:List Nat) (f':Nat × Nat->Option Bool) (g':Nat->Option ((Int × Nat) × Int × Nat)),aA=.int .i64 i/\i<=L.length/\StarB w L.length x a3 C/\Sofar l i C q/\(∀ h,h < L.length->a3[h]?=some (decide (h∈q)))/\USt pb D y mc ms mn M I V BV x f' g'/\Fr (λa=>a=D\/a=y\/w.heap.size<=a) Z x) (λaA _=>L.length - (intOf aA).toNat)
  case atStart=>exact ⟨0,_,(0,0),[],f,g,rfl,yK _,b2.o,Sofar.start l,λh hj=>by rw [List.getElem?_replicate,if_pos hj];simp,H0.o,Fr.refl _ _⟩
  case round =>
    obtain ⟨i,a3,C,q,f2,g2,rfl,hk,hB,hS,hm,aX,aP⟩:=hrel;obtain ⟨w2,rfl⟩:∃ w2,w2=wr:=⟨_,rfl⟩;obtain⟨HB,am,HM,aE,aa⟩:=Hhp5 hB hS hm aX aP;clear hB hS hm aX aP;by_cases a7:i < L.length
    · obtain ⟨k, X⟩ : ∃ k, L[i]? = some k := ⟨_, xQ a7⟩
      have a9:k∈L:=xK X;obtain ⟨a1,a4,ha,aO⟩:=b5.o i k X;have k0:=aO w2 aa.o;have bc:=za9 oa L.length oc i a1 a4 a7 ha w2;obtain ⟨av,ad⟩:=b1.o i k X;have ab:=Hh (HR.o k a9 f2 g2 w2 aE.o (aC.o k a9) (b4.o k a9));obtain ⟨cy,au⟩:∃ cy,cy=(za0 V).getD k 0:=⟨_,rfl⟩;rw [<-au] at ad;have R:=Hh (λ(b c:Nat) (t:IsNus cy b 0 c) (G:c < L.length) (u:c ∉ q) (H:0 < i->valD b=C)=>am.o.next av (by rw [ad];exact t) (by rw [a5.o];exact G) u H);have a0:=Hh (λ(b:Nat) (a:zdb b l)=>show ∃ h,h < L.length/\IsNus cy b 0 h/\h ∉ q/\(0 < i->valD b=C) from by
        obtain ⟨h,t,G,u,H⟩:=am.o.fits av b7.o a;exact ⟨h,by rw [<-a5.o];exact t,by rw [<-ad];exact G,u,H⟩)
      have ay:=ab.o;rw [<-au] at ay;have ab:=Hh ay;have bg:=Hh (aC.o k a9);have aL:(i:Int) < (L.length:Int):=by omega
      clear X a9 ha aO ad av au ay;go_wp2_with fail;(with_reducible refine ab.o.mono ?_);rintro e w3 ⟨J,o1,f3,g3,rfl,hx,b0,E⟩;unfold zdz;obtain ⟨b3,ae⟩:∃ b3,b3=w3.heap.size:=⟨_,rfl⟩;obtain ⟨m,a6⟩:∃ m,m=w3.alloc (.cells (zdf J) 69):=⟨_,rfl⟩;have aq:Fr NoM w3 m:=by rw [a6];exact (nW w3).alloc _
      have u:UBox m b3 J:=by rw [ae];exact UBox.made a6
      have az:=E.trans aq (λ_ _ a=>a.elim);have aZ:w.heap.size + 3<=b3:=by rw [ae];have F:=aa.o.size;have h2:=b8.o;have h3:=E.size;omega
      obtain⟨ac,ao,z,ai,HU,aG⟩:=Hhp6 hx (b0.fr0 aq) (HB.o.fr az (λa e=>by have h2:=ak.o;rcases e with e | e <;> omega)) (aa.o.trans az (λa _ e=>by rcases e with e | e;exact .inl e;exact .inr (.inl e))) u aZ;unfold zdf at a6;clear hx b0 E az aq u k0 bc ab aZ;go_upto_region 7 with fail;rw [<-a6,<-ae];clear a6 ae;obtain ⟨x0,x1,x2,x3⟩:=HU.o.cells;obtain ⟨t0,t1,z0,z1⟩:=z.o.num0;obtain ⟨⟨r0,r1,r2,E⟩,r4,r5,r6,r7⟩:=z.o.res0;have K:=Hh (aB.o m ((0,0),0,0) false f3 g3 ao.o ai.o (λe=>by cases e));have B:=Hh (λ(b:Nat) (a:zdb b l)=>(by
        obtain ⟨h,t,G,u,H⟩:=a0.o b a;cases o1 with
        | false=>exact (ac.o.2 rfl _ _ _ G).elim
        | true=>exact ⟨rfl,h,t,(ac.o.1 rfl).1.of G,u,H⟩:o1=true/\∃ h,h < L.length/\J=(valD b,0,h)/\h ∉ q/\(0 < i->valD b=C)))
      cases o1 with
      | false =>
        have N:=Hh (show ∀ b,¬ zdb b l from λb a=>by cases (B.o b a).1);go_wp2;refine yJ (v:=.tuple #[.agg #[.int .i64 0,.int .i64 0,.int .i64 0,.int .i64 0],.bool false]) (by simp [results,Tryz.results136,go_sem,r0,r1,r2,E,r4,r5,r6,r7]) rfl ?_
        exact K.o (λ_=>N.o)
      | true =>
        have Q:=Hh (ac.o.1 rfl).1;clear ac;obtain ⟨⟨p,o⟩,nn,c⟩:=J;simp only at x0 x1 x2 x3;obtain ⟨d1,d2⟩:=C;simp only at t0 t1;by_cases aU:nn=0
        · subst aU
          by_cases r:c < L.length
          · have aS : ¬ (c : Int)>=(L.length : Int) := by omega
            have bj:=zhv (w.heap.size + 1) L.length L.length c r m;have aw:=HM.o c r;have af:m.cell? ⟨w.heap.size + 1,c,none⟩=some (.bool (decide (c∈q))):=by
              rw [z.o.seen.cell c (by rw [z.o.len];exact r)];rw [xQ (by rw [z.o.len];exact r)] at aw;rw [yY aw];rfl
            clear aw;by_cases P:c∈q
            · rw [vJ P] at af
              have ba:=Hh P;clear P r;have N:=Hh (show ∀ b,¬ zdb b l from λb a=>by
                obtain ⟨_,h,t,e,u,H⟩:=B.o b a;have T:=congrArg (λj=>j.1.1) e;have U:=congrArg (λj=>j.1.2) e;have W:=congrArg (λj=>j.2.1) e;have O:=congrArg (λj=>j.2.2) e;simp only at T U W O;exact u (by rw [<-O];exact ba.o))
              clear B a0 R Q;go_wp2;refine yJ (v:=.tuple #[.agg #[.int .i64 0,.int .i64 0,.int .i64 0,.int .i64 0],.bool false]) (by simp [results,Tryz.results136,go_sem,r0,r1,r2,E,r4,r5,r6,r7]) rfl ?_
              exact K.o (λ_=>N.o)
            · rw [vV P] at af
              by_cases aQ:i=0
              · have aK : ¬ (i : Int) > 0 := by omega
                have ah:=Hh (z.o.set (s:=c) (e:=(p,o)));have an:=Hh (show Sofar l (i + 1) (p,o) (q ++ [c]) from by
                  obtain ⟨b,ia,da⟩:=Q.o;have n:=R.o b c ia r P (λn=>(by omega:False).elim);rw [da] at n;exact n)
                have al:=Hh (show ∀ h,h < L.length->(a3.set c true)[h]?=some (decide (h∈q ++ [c])) from λh hj=>by
                  rw [List.getElem?_set];by_cases e:c=h
                  · subst e
                    rw [if_pos rfl,if_pos (by rw [z.o.len];exact hj)];simp
                  · rw [if_neg e, HM.o h hj]
                    have e':¬ h=c:=λa=>e a.symm
                    simp [e'])
                have Y:=Fr.setCell (M:=λa=>a=w.heap.size + 1 + 1\/a=w.heap.size + 1) (Fr.refl _ m) ⟨w.heap.size + 1 + 1,0,none⟩ (.int .i64 p) (λ_=>.inl rfl);have s2:=Y.setCell ⟨w.heap.size + 1 + 1,1,none⟩ (.int .i64 (o:Int)) (λ_=>.inl rfl);have s3:=s2.setCell ⟨w.heap.size + 1,c,none⟩ (.bool true) (λ_=>.inr rfl);have ap:=Hh (ao.o.set s3 (λa e=>by
                  have F:=aD.o a;have h2:=ak.o;have e:a=w.heap.size + 1 + 1\/a=w.heap.size + 1:=e;exact ⟨λn=>by have:=F (.inl n);omega,λn=>by have:=F (.inr n);omega,by omega,by omega⟩))
                have aj:=Hh (ai.o.trans s3 (λa hq e=>.inr (.inr (by have e:a=w.heap.size + 1 + 1\/a=w.heap.size + 1:=e;omega))));have u8:Fr (λa=>a=w.heap.size + 1 + 1) m ((m.setCell ⟨w.heap.size + 1 + 1,0,none⟩ (.int .i64 p)).setCell ⟨w.heap.size + 1 + 1,1,none⟩ (.int .i64 (o:Int))):=(Fr.setCell (M:=λa=>a=w.heap.size + 1 + 1) (Fr.refl _ m) ⟨w.heap.size + 1 + 1,0,none⟩ (.int .i64 p) (λ_=>rfl)).setCell ⟨w.heap.size + 1 + 1,1,none⟩ (.int .i64 (o:Int)) (λ_=>rfl);have y3:=u8.cell x3 (λe=>by have e:b3=w.heap.size + 1 + 1:=e;have h9:=aG.o;omega);have a2:¬ (w.heap.size + 1=w.heap.size + 1 + 1):=by omega
                have y4:((m.setCell ⟨w.heap.size + 1 + 1,0,none⟩ (.int .i64 p)).setCell ⟨w.heap.size + 1 + 1,1,none⟩ (.int .i64 (o:Int))).cell? ⟨w.heap.size + 1,c,none⟩=some (.bool false):=u8.cell af a2;have y5:=(z.o.seen.fr u8 a2).frozen c;have bd:=zhv (w.heap.size + 1) L.length L.length c r ((m.setCell ⟨w.heap.size + 1 + 1,0,none⟩ (.int .i64 p)).setCell ⟨w.heap.size + 1 + 1,1,none⟩ (.int .i64 (o:Int)));clear B a0 R Q K Y s2 s3 u8 a2 r P aQ;go_wp2;go_roundw
                case rel=>exact ⟨i + 1,a3.set c true,(p,o),q ++ [c],f3,g3,by go_num,by omega,ah.o,an.o,al.o,ap.o,aj.o⟩
                case measure=>simp [intOf];omega
              · have aK : (i : Int) > 0 := by omega
                by_cases ar:p=d1/\o=d2
                · obtain ⟨rfl, rfl⟩ := ar
                  have ah:=Hh (z.o.set (s:=c) (e:=(p,o)));have an:=Hh (show Sofar l (i + 1) (p,o) (q ++ [c]) from by
                    obtain ⟨b,ia,da⟩:=Q.o;have n:=R.o b c ia r P (λn=>da);rw [da] at n;exact n)
                  have al:=Hh (show ∀ h,h < L.length->(a3.set c true)[h]?=some (decide (h∈q ++ [c])) from λh hj=>by
                    rw [List.getElem?_set];by_cases e:c=h
                    · subst e
                      rw [if_pos rfl,if_pos (by rw [z.o.len];exact hj)];simp
                    · rw [if_neg e, HM.o h hj]
                      have e':¬ h=c:=λa=>e a.symm
                      simp [e'])
                  have Y:=Fr.setCell (M:=λa=>a=w.heap.size + 1 + 1\/a=w.heap.size + 1) (Fr.refl _ m) ⟨w.heap.size + 1 + 1,0,none⟩ (.int .i64 p) (λ_=>.inl rfl);have s2:=Y.setCell ⟨w.heap.size + 1 + 1,1,none⟩ (.int .i64 (o:Int)) (λ_=>.inl rfl);have s3:=s2.setCell ⟨w.heap.size + 1,c,none⟩ (.bool true) (λ_=>.inr rfl);have ap:=Hh (ao.o.set s3 (λa e=>by
                    have F:=aD.o a;have h2:=ak.o;have e:a=w.heap.size + 1 + 1\/a=w.heap.size + 1:=e;exact ⟨λn=>by have:=F (.inl n);omega,λn=>by have:=F (.inr n);omega,by omega,by omega⟩))
                  have aj:=Hh (ai.o.trans s3 (λa hq e=>.inr (.inr (by have e:a=w.heap.size + 1 + 1\/a=w.heap.size + 1:=e;omega))));have u8:Fr (λa=>a=w.heap.size + 1 + 1) m ((m.setCell ⟨w.heap.size + 1 + 1,0,none⟩ (.int .i64 p)).setCell ⟨w.heap.size + 1 + 1,1,none⟩ (.int .i64 (o:Int))):=(Fr.setCell (M:=λa=>a=w.heap.size + 1 + 1) (Fr.refl _ m) ⟨w.heap.size + 1 + 1,0,none⟩ (.int .i64 p) (λ_=>rfl)).setCell ⟨w.heap.size + 1 + 1,1,none⟩ (.int .i64 (o:Int)) (λ_=>rfl);have y3:=u8.cell x3 (λe=>by have e:b3=w.heap.size + 1 + 1:=e;have h9:=aG.o;omega);have a2:¬ (w.heap.size + 1=w.heap.size + 1 + 1):=by omega
                  have y4:((m.setCell ⟨w.heap.size + 1 + 1,0,none⟩ (.int .i64 p)).setCell ⟨w.heap.size + 1 + 1,1,none⟩ (.int .i64 (o:Int))).cell? ⟨w.heap.size + 1,c,none⟩=some (.bool false):=u8.cell af a2;have y5:=(z.o.seen.fr u8 a2).frozen c;have bd:=zhv (w.heap.size + 1) L.length L.length c r ((m.setCell ⟨w.heap.size + 1 + 1,0,none⟩ (.int .i64 p)).setCell ⟨w.heap.size + 1 + 1,1,none⟩ (.int .i64 (o:Int)));clear B a0 R Q K Y s2 s3 u8 a2 r P aQ;go_wp2;go_roundw
                  case rel=>exact ⟨i + 1,a3.set c true,(p,o),q ++ [c],f3,g3,by go_num,by omega,ah.o,an.o,al.o,ap.o,aj.o⟩
                  case measure=>simp [intOf];omega
                · have aF := Hh ar
                  clear ar r P;have N:=Hh (show ∀ b,¬ zdb b l from λb a=>by
                    obtain ⟨_,h,t,e,u,H⟩:=B.o b a;have T:=congrArg (λj=>j.1.1) e;have U:=congrArg (λj=>j.1.2) e;have W:=congrArg (λj=>j.2.1) e;have O:=congrArg (λj=>j.2.2) e;simp only at T U W O;have h5:=H (by omega);exact aF.o ⟨T.trans (congrArg Prod.fst h5),U.trans (congrArg Prod.snd h5)⟩)
                  clear B a0 R Q;go_wp2;all_goals first
                    | (refine yJ (v:=.tuple #[.agg #[.int .i64 0,.int .i64 0,.int .i64 0,.int .i64 0],.bool false]) (by simp [results,Tryz.results136,go_sem,r0,r1,r2,E,r4,r5,r6,r7]) rfl ?_
                       exact K.o (λ_=>N.o))
                    | (exfalso;exact aF.o ⟨by omega,by omega⟩)
          · have aS : (c : Int)>=(L.length : Int) := by omega
            have b9:=Hh r;clear r;have N:=Hh (show ∀ b,¬ zdb b l from λb a=>by
              obtain ⟨_,h,t,e,u,H⟩:=B.o b a;have T:=congrArg (λj=>j.1.1) e;have U:=congrArg (λj=>j.1.2) e;have W:=congrArg (λj=>j.2.1) e;have O:=congrArg (λj=>j.2.2) e;simp only at T U W O;exact b9.o (by rw [O];exact t))
            clear B a0 R Q;go_wp2;refine yJ (v:=.tuple #[.agg #[.int .i64 0,.int .i64 0,.int .i64 0,.int .i64 0],.bool false]) (by simp [results,Tryz.results136,go_sem,r0,r1,r2,E,r4,r5,r6,r7]) rfl ?_
            exact K.o (λ_=>N.o)
        · have b6 := Hh aU
          have N:=Hh (show ∀ b,¬ zdb b l from λb a=>by
            obtain ⟨_,h,t,e,u,H⟩:=B.o b a;have T:=congrArg (λj=>j.1.1) e;have U:=congrArg (λj=>j.1.2) e;have W:=congrArg (λj=>j.2.1) e;have O:=congrArg (λj=>j.2.2) e;simp only at T U W O;exact b6.o W)
          clear B a0 R Q;go_wp2;refine yJ (v:=.tuple #[.agg #[.int .i64 0,.int .i64 0,.int .i64 0,.int .i64 0],.bool false]) (by simp [results,Tryz.results136,go_sem,r0,r1,r2,E,r4,r5,r6,r7]) rfl ?_
          exact K.o (λ_=>N.o)
    · have aR : i = L.length := by omega
      have aL:¬ (i:Int) < (L.length:Int):=by omega
      obtain ⟨t0,t1,z0,z1⟩:=HB.o.num0;obtain ⟨⟨r0,r1,r2,E⟩,r4,r5,r6,r7⟩:=HB.o.res0;have K:=Hh (aB.o w2 (C,0,L.length) true f2 g2 aE.o aa.o (λ_=>by
        obtain ⟨b,F,h2⟩:=Sofar.done (A:=l) (S:=q) (d:=C) (by have n:=am.o;rw [aR,<-a5.o] at n;exact n) (by rw [a5.o];exact HP.o);exact ⟨b,h2,by rw [F,a5.o]⟩) (λe=>by cases e))
      clear aR;go_wp2;refine yJ (v:=.tuple #[.agg #[.int .i64 C.1,.int .i64 (C.2:Int),.int .i64 0,.int .i64 (L.length:Int)],.bool true]) (by simp [results,Tryz.results136,go_sem,r0,r1,r2,E,r4,r5,r6,r7]) rfl ?_
      exact K.o
theorem zvk {C L R:List Nat}(h:C.Nodup)(k:L.Pairwise (· < ·))(l:R.Pairwise (· < ·))(i:∀a∈L,a<C.length)(j:∀a∈R,a<C.length)(g:∀f,f∈za2 C L↔f∈za2 C R):L=R:=by refine zhh k l λd=>⟨λb=>?_,λb=>?_⟩;{obtain⟨a,c,e⟩:=mem_atAll.1 ((g _).1 (mem_atAll.2 ⟨d,b,rfl⟩));rw[<-zbq h (j a c) (i d b) e];exact c};{obtain⟨a,c,e⟩:=mem_atAll.1 ((g _).2 (mem_atAll.2 ⟨d,b,rfl⟩));rw[<-zbq h (i a c) (j d b) e];exact c}
section
variable {c:Nat}{A B:List Nat}
theorem yed (S:Sides c A B)(e:valB c=false)(h:A.length=0\/B.length=0):zr5 c:=λg j k f=>by rcases zek S f e with a|a|a|a|a;{obtain⟨_,i,_,_,b,d⟩:=a;omega};{obtain⟨_,_,_,_,b,d,_⟩:=a;omega};{obtain⟨_,_,_,_,b,d⟩:=a;omega};{obtain⟨_,_,_,_,b,d,_⟩:=a;omega};{obtain⟨_,_,_,_,b,d⟩:=a;omega}
theorem ygm (S:Sides c A A)(hp:0<A.length){a:Nat}(h:zdb a A):NusAt c (valD a,0,A.length) :=
 ⟨a,zsp S h.1 hp h.2 h.2,rfl⟩
theorem ymd (S:Sides c A A)(j:valB c=false)(i:∀b,¬zdb b A):zr5 c:=λb m n h=>by rcases zek S h j with a|a|a|a|a;{obtain⟨_,_,l,_,d,_⟩:=a;exact i b ⟨h.1,by rw[d];exact l⟩};{obtain⟨_,_,e,f,_,_,g⟩:=a;exact g ((e _).1 ((f _).2 rfl))};{obtain⟨_,_,_,_,d,k⟩:=a;omega};{obtain⟨_,_,e,f,_,_,g⟩:=a;exact g ((f _).1 ((e _).2 rfl))};{obtain⟨_,_,_,_,d,k⟩:=a;omega}
theorem yok {l r:Nat}(S:Sides c [l] [r])(s:l≠r){x y:(Int × Nat) × Int × Nat}(p:NusAt l x)(q:NusAt r y)(k:x.1=y.1)(m:x.2.1=0)(n:x.2.2=0)(o:0<=y.2.1):NusAt c (x.1,y.2.1+1,y.2.2 ^^^ 1):=by obtain⟨h,d,e⟩:=p;obtain⟨u,f,i⟩:=q;have j:=zd4 f.1 d.1 (by rw[e,i,k]);have b:=d.2;rw[m,n,zh4]at b;have a:=f.2;rw[j]at a;refine⟨h,ykn S d.1 o (λg=>s ?_) (λt=>by rw[x9,b]) (λt=>by rw[x9,a]),e⟩;rw[g.1,g.2,zh4]at a;rw[b,a]
theorem yha {l r:Nat}(S:Sides c [l] [r])(s:l≠r){x y:(Int × Nat) × Int × Nat}(p:NusAt l x)(q:NusAt r y)(k:x.1=y.1)(m:y.2.1=0)(n:y.2.2=0)(o:x.2.1<=0):NusAt c (x.1,x.2.1-1,x.2.2 ^^^ 1):=by obtain⟨h,d,e⟩:=p;obtain⟨u,f,i⟩:=q;have j:=zd4 f.1 d.1 (by rw[e,i,k]);have a:=d.2;have b:=f.2;rw[m,n,zh4,j]at b;refine⟨h,zz0 S d.1 o (λg=>s ?_) (λt=>by rw[x9,a]) (λt=>by rw[x9,b]),e⟩;rw[g.1,g.2,zh4]at a;rw[a,b]
theorem ymq {l r a s:Nat}{n:Int}(S:Sides c [l] [r])(w:l≠r)(p:valB c=false)(q:IsNus c a n s) : (∃(d:Int) (i:Nat),IsNus l a 0 0/\IsNus r a d i/\0<=d)\/∃(d:Int) (i:Nat),IsNus r a 0 0/\IsNus l a d i/\d<=0/\¬(d=0/\i=0):=by rcases zek S q p with b|b|b|b|b;{obtain⟨_,_,g,h,j,_⟩:=b;refine absurd ?_ w;(obtain⟨u,y,e⟩:=(g l).1 (by simp);obtain⟨t,x,f⟩:=(h r).1 (by simp);have z:s=1:=j.symm;obtain rfl:u=0:=by omega);(obtain rfl:t=0:=by omega);rw[<-e,<-f]};{obtain⟨m,_,g,h,_,_,_⟩:=b;have e:=(g l).1 (by simp);have f:=(h r).1 (by simp);exact .inl ⟨n-1,s ^^^ 1,⟨q.1,e⟩,⟨q.1,f⟩,by omega⟩};{obtain⟨_,_,_,_,j,_⟩:=b;simp at j};{obtain⟨m,_,g,h,_,_,o⟩:=b;have e:=(g l).1 (by simp);have f:=(h r).1 (by simp);refine .inr ⟨n+1,s ^^^ 1,⟨q.1,f⟩,⟨q.1,e⟩,by omega,λk=>o ?_⟩;rw[k.1,k.2,zh4]};{obtain⟨_,_,_,_,_,v⟩:=b;simp at v}
theorem ymm {f g h a:Nat}(S:Sides c [f,g] [h])(i:IsPair f g h a):NusAt c (valD a,1,1):=by obtain⟨l,j,k⟩:=i;refine⟨a,zrg S l (λm=>?_) (λm=>by rw[x9,j]),rfl⟩;rw[zk2];rcases k with ⟨b,d⟩|⟨b,d⟩;{rw[b,d]};{rw[b,d];exact⟨λe=>e.symm,λe=>e.symm⟩}
theorem ydu {c0 c1 c2 a:Nat}(S:Sides c [c2] [c0,c1])(h:IsPair c0 c1 c2 a):NusAt c (valD a,-1,1):=by obtain⟨ha,h2,h3⟩:=h;refine⟨a,zn6 S ha (λz=>by rw[x9,h2]) (λz=>?_),rfl⟩;rw[zk2];rcases h3 with ⟨e1,e2⟩|⟨e1,e2⟩;{rw[e1,e2]};{rw[e1,e2];exact⟨λq=>q.symm,λq=>q.symm⟩}
theorem ykh {b c a f:Nat}(i:b≠c)(h:∀g,g∈[b,c]↔g=a\/g=f):(b=a/\c=f)\/(b=f/\c=a):=by have j:=(h b).1 (by simp);have k:=(h c).1 (by simp);rcases j with d|d <;> rcases k with e|e;{exact absurd (d.trans e.symm) i};{exact .inl ⟨d,e⟩};{exact .inr ⟨d,e⟩};{exact absurd (d.trans e.symm) i}
theorem yba {e f g:Nat}(S:Sides c [e,f] [g])(k:valB c=false)(j:∀d,¬IsPair e f g d):zr5 c:=λd p q h=>by(have o:e≠f:=λi=>by have:=S.nl;rw[i]at this;simp at this);rcases zek S h k with a|a|a|a|a;{obtain⟨_,_,_,_,b,l⟩:=a;simp at b l;omega};{obtain⟨_,_,_,_,b,_⟩:=a;simp at b};{obtain⟨_,_,m,n,_,_⟩:=a;exact j d ⟨h.1,(n g).1 (by simp),ykh o m⟩};{obtain⟨_,_,_,_,b,_⟩:=a;simp at b};{obtain⟨_,_,_,_,b,_⟩:=a;simp at b}
theorem ztv {e f g:Nat}(S:Sides c [g] [e,f])(k:valB c=false)(j:∀d,¬IsPair e f g d):zr5 c:=λd p q h=>by(have o:e≠f:=λi=>by have:=S.nr;rw[i]at this;simp at this);rcases zek S h k with a|a|a|a|a;{obtain⟨_,_,_,_,l,b⟩:=a;simp at l b;omega};{obtain⟨_,_,_,_,_,b,_⟩:=a;simp at b};{obtain⟨_,_,_,_,_,b⟩:=a;simp at b};{obtain⟨_,_,_,_,_,b,_⟩:=a;simp at b};{obtain⟨_,_,m,n,_,_⟩:=a;exact j d ⟨h.1,(m g).1 (by simp),ykh o n⟩}
theorem zpk (S:Sides c A B)(j:valB c=false)(g:¬ ∀e,e∈A↔e∈B)(f:¬(A.length=1/\B.length=1))(h:¬(A.length=2/\B.length=1))(i:¬(A.length=1/\B.length=2)):zr5 c:=λn o p m=>by rcases zek S m j with a|a|a|a|a;{obtain⟨_,_,k,l,_,_⟩:=a;exact g λe=>(k e).trans (l e).symm};{obtain⟨_,_,_,_,b,d,_⟩:=a;exact f ⟨b,d⟩};{obtain⟨_,_,_,_,b,d⟩:=a;exact h ⟨b,d⟩};{obtain⟨_,_,_,_,b,d,_⟩:=a;exact f ⟨b,d⟩};{obtain⟨_,_,_,_,b,d⟩:=a;exact i ⟨b,d⟩}
end
theorem zyy {L:List Nat}{p:Nat}(b:L.length=1)(a:L[0]?=some p):L=[p]:=by match L,b,a with| [c],_,a=>simpa using a
theorem ykg {L:List Nat}{p q:Nat}(c:L.length=2)(a:L[0]?=some p)(b:L[1]?=some q):L=[p,q]:=by match L,c,a,b with| [d,e],_,a,b=>simp at a b;rw[a,b]
theorem SmallU.z (k:Nat)(d:Int × Nat):SmallU k (d,0,0):=⟨yK _,yK _⟩
theorem zvq {M I:Nat->Prop} (pb t o:Nat) (R T S:Value) (V:List PL) (BV:List Nat) (bi:UOut t o M I) (B:BookC V (za0 V)) (hV:V.length<=1000000) (x:Nat) (hx:x < V.length) (hc:CanC ((za0 V).getD x 0)) (ih:∀ k,k < x->zs2 pb t o R T S M I V BV k)
    (f:Nat × Nat->Option Bool) (g:Nat->Option ((Int × Nat) × Int × Nat)) (w:World) (hs:USt pb t o R T S M I V BV w f g) :
    Calls Tryz.prog 90 #[.pointer (some ⟨pb,0,none⟩),.int .i64 (x:Int),.map (some o)] w λb w'=>zit pb t o R T S M I V BV x ((za0 V).getD x 0) w b w':=by
  have q:=zsd B hx;obtain ⟨oL,oR⟩:=zb7 B hx;obtain ⟨o1,o2⟩:=B.opts x _ (za7 hx);obtain ⟨u1,u2⟩:=B.up x _ (za7 hx);have aM:=za1 V;have bw:=Hh (λ(d:World) (e:USt pb t o R T S M I V BV d f g)=>ycc (BV:=BV) B pb t R T S bi.m.1 bi.i.1 _ x (vW _) hx hc f d e.pool e.ord e.ordOK);obtain ⟨L,bD⟩:∃ L,L=(za0 V).getD x 0:=⟨_,rfl⟩;obtain ⟨c,aK⟩:∃ c,c=(za5 V x).1:=⟨_,rfl⟩;obtain ⟨h,aL⟩:∃ h,h=(za5 V x).2:=⟨_,rfl⟩;have b9:∀ k,(k∈c\/k∈h)->k < x/\CanC ((za0 V).getD k 0):=λk Q=>by
    rw [aK,aL] at Q;rcases Q with e | e
    · exact ⟨o1 k e,hc.opt (.inl ((oL _).2 ⟨k,e,rfl⟩))⟩
    · exact ⟨o2 k e,hc.opt (.inr ((oR _).2 ⟨k,e,rfl⟩))⟩
  have c6:c.length<=x:=by
    have:=zo8 u1 o1;rw [aK];exact this
  have c7:h.length<=x:=by
    have:=zo8 u2 o2;rw [aL];exact this
  have ca:(∀ j,j∈za2 (za0 V) c↔j∈za2 (za0 V) h)->c=h:=λe=>zvk B.nodup (by rw [aK];exact u1) (by rw [aL];exact u2) (λk Q=>by have:=(b9 k (.inl Q)).1;omega) (λk Q=>by have:=(b9 k (.inr Q)).1;omega) e
  rw [<-bD] at q bw ⊢;rw [<-aK,<-aL] at q;have c3:∀ af:List Nat,(za2 (za0 V) af).length=af.length:=λaf=>by unfold za2;rw [uK]
  obtain ⟨w1,aT⟩:∃ w1,w1=w.alloc (.cells #[.int .i64 0,.int .i64 0,.int .i64 0,.int .i64 0] 69):=⟨_,rfl⟩;have f1:Fr NoM w w1:=by rw [aT];exact (nW w).alloc _
  have e1:w1.heap[w.heap.size]?=some (.cells #[.int .i64 0,.int .i64 0,.int .i64 0,.int .i64 0] 69 (0,0)):=by rw [aT];exact xJ w _
  have bh:w1.heap.size=w.heap.size + 1:=by rw [aT];simp
  have c9:=hs.ord.lt;have c5:=hs.kn.lt;have be:=hs.lt;have cb:=hs.fr0 f1;have HR:=Hh (λd (f:Fr (λa=>a=t\/a=o) w1 d)=>show (d.cell? ⟨w.heap.size,0,none⟩=some (.int .i64 0)/\d.cell? ⟨w.heap.size,1,none⟩=some (.int .i64 0)/\d.cell? ⟨w.heap.size,2,none⟩=some (.int .i64 0)/\d.cell? ⟨w.heap.size,3,none⟩=some (.int .i64 0)) ∧
      d.frozen? ⟨w.heap.size,0,none⟩=false/\d.frozen? ⟨w.heap.size,1,none⟩=false/\d.frozen? ⟨w.heap.size,2,none⟩=false/\d.frozen? ⟨w.heap.size,3,none⟩=false from by
    have e:=f.heap e1 (λa=>by rcases a with a | a <;> omega);exact ⟨⟨by rw [xX d _ 0 _ _ _ e];rfl,by rw [xX d _ 1 _ _ _ e];rfl,by rw [xX d _ 2 _ _ _ e];rfl,by rw [xX d _ 3 _ _ _ e];rfl⟩,by simp [World.frozen?,e],by simp [World.frozen?,e],by simp [World.frozen?,e],by simp [World.frozen?,e]⟩)
  have aI:=Hh (λ(d:World) (k:(Int × Nat) × Int × Nat) (ok:Bool) (f':Nat × Nat->Option Bool) (g':Nat->Option ((Int × Nat) × Int × Nat)) (st:USt pb t o R T S M I V BV d f' g') (fr:Fr (λa=>a=t\/a=o) w1 d) (ht:Told x L k ok)=>(by
    have E:=zvh d w.heap.size k;refine ⟨k,ok,f',g',rfl,ht,st.set E (λa b=>?_),(f1.any.trans fr kP).trans E (λa N b=>by have b:a=w.heap.size:=b;omega)⟩;have b:a=w.heap.size:=b;subst b;exact ⟨λb=>by have:=be w.heap.size (.inl b);omega,λb=>by have:=be w.heap.size (.inr b);omega,by omega,by omega⟩ :
    zit pb t o R T S M I V BV x L w (.returned (.tuple #[zdz k,.bool ok])) (setU d w.heap.size k)))
  have br:=Hh (λ(d:World) (f':Nat × Nat->Option Bool) (g':Nat->Option ((Int × Nat) × Int × Nat)) (st:USt pb t o R T S M I V BV d f' g') (fr:Fr (λa=>a=t\/a=o) w1 d) (e:zr5 L)=>aI.o d ((0,0),0,0) false f' g' st fr ⟨λb=>(by cases b),λ_=>e⟩);have bX:=Hh cb;have ct:=Hh bh;have ck:=Hh (And.intro c9 c5);have cE:=Hh be;have a0:=Hh q;have ad:=Hh b9;obtain⟨aW,aR,HL,cp,cD,HX,HV,ao,ch,l,HU,HO⟩:=Hhp12 (And.intro c6 c7) ca aK aL bD hx hV ih B c3 (And.intro u1 u2) bi;clear hs f1 e1 bh c9 c5 be cb q oL oR o1 o2 u1 u2 aM bD aK aL b9 c6 c7 ca hc ih c3 B bi hV hx;obtain ⟨af,hT⟩:∃ af,af=(valD L).1:=⟨_,rfl⟩;obtain ⟨aA,hP⟩:∃ aA,aA=(valD L).2:=⟨_,rfl⟩;obtain ⟨gd,bF⟩:∃ gd,gd=valB L:=⟨_,rfl⟩;have bJ:=bw.o w1 bX.o;rw [<-hT,<-hP,<-bF] at bJ;obtain⟨bZ,bu,bo⟩:=Hhp3 bJ (And.intro hT hP) bF;clear bJ hT hP bF bw;go_enter Tryz.func90,Tryz.ntmps90;go_upto_region 1 with fail;rw [<-aT];clear aT;go_wp2_with fail;(with_reducible refine bZ.o.mono ?_);rintro b w2 ⟨rfl,f2,am,c8,bE⟩;obtain ⟨b2,bb⟩:∃ b2,b2=w2.heap.size:=⟨_,rfl⟩;obtain ⟨J,ba⟩:∃ J,J=w2.alloc (.cells #[.int .i64 af,.int .i64 (aA:Int)] 29):=⟨_,rfl⟩;have g2:Fr NoM w2 J:=by rw [ba];exact (nW w2).alloc _
  have e2:J.heap[b2]?=some (.cells #[.int .i64 af,.int .i64 (aA:Int)] 29 (0,0)):=by rw [ba,bb];exact xJ w2 _
  have bs:=Hh ((bX.o.ords HO.o bE am c8).fr0 g2);have bl:=Hh (show Fr (λa=>a=t\/a=o) w1 J from (bE.mono (λ_ _ a=>.inl a)).trans g2 (λ_ _ a=>a.elim));have d0:J.cell? ⟨b2,0,none⟩=some (.int .i64 af):=by rw [xX J _ 0 _ _ _ e2];rfl
  have d1:J.cell? ⟨b2,1,none⟩=some (.int .i64 (aA:Int)):=by rw [xX J _ 1 _ _ _ e2];rfl
  clear am c8 bE g2 e2 bZ;go_upto_region 2 with fail;rw [<-ba,<-bb];clear ba bb;cases gd with
  | true =>
    obtain ⟨⟨u,r,s,y⟩,z,m,n,A⟩:=HR.o J bl.o;have HE:=Hh (aI.o J ((af,aA),0,0) true f2 g bs.o bl.o ⟨λ_=>⟨⟨L,IsNus.self bo.o.symm,by rw [bu.o.1,bu.o.2]⟩,SmallU.z _ _⟩,λb=>by cases b⟩);go_wp2;refine yJ (v:=.tuple #[.agg #[.int .i64 af,.int .i64 (aA:Int),.int .i64 0,.int .i64 0],.bool true]) (by simp [results,Tryz.results90,go_sem,u,r,s,y,z,m,n,A]) rfl ?_
    exact HE.o
  | false =>
    have ae:=Hh (show valB L=false from bo.o.symm);clear d0 d1 bo bu;obtain ⟨la,lc,ra,rc,p0,p1,_,_,_,_,hL,hR⟩:=bs.o.pool.rd;obtain ⟨lb,lo,lv,rfl,r,E,i1⟩:=hL x HX.o;obtain ⟨rb,ro,rv,rfl,s,s2,i2⟩:=hR x HX.o;rw [<-HL.o] at E i1;rw [<-cp.o] at s2 i2;have aZ:=Hh (λd (f:Fr (λa=>a=t\/a=o) J d)=>show Nats d lv c from E.fr f (λZ a N b=>by
      rcases b with b | b
      · exact HO.o.i.1 (by rw [<-b];exact i1 Z a N)
      · exact HO.o.i.2 (by rw [<-b];exact i1 Z a N)))
    have bv:=Hh (λd (f:Fr (λa=>a=t\/a=o) J d)=>show Nats d rv h from s2.fr f (λZ a N b=>by
      rcases b with b | b
      · exact HO.o.i.1 (by rw [<-b];exact i2 Z a N)
      · exact HO.o.i.2 (by rw [<-b];exact i2 Z a N)))
    have bW:=Hh (λ(Z:c≠[])=>show ∀ a,lv.ownBlock=some a->a≠t/\a≠o from λa N=>⟨λb=>HO.o.i.1 (by rw [<-b];exact i1 Z a N),λb=>HO.o.i.2 (by rw [<-b];exact i1 Z a N)⟩);have cn:=Hh (λ(Z:h≠[])=>show ∀ a,rv.ownBlock=some a->a≠t/\a≠o from λa N=>⟨λb=>HO.o.i.1 (by rw [<-b];exact i2 Z a N),λb=>HO.o.i.2 (by rw [<-b];exact i2 Z a N)⟩);have cB:=zb9 (some ⟨lb,lo,none⟩) V.length lc x lb lo HX.o rfl;have cC:=zb9 (some ⟨rb,ro,none⟩) V.length rc x rb ro HX.o rfl;obtain ⟨ua,uc,rfl,j⟩:=id E;clear j;obtain ⟨va,vc,rfl,j⟩:=id s2;clear j hL hR E s2 i1 i2;go_wp2_with fail;go_quiet (fail);obtain ⟨O,bK⟩:∃ O,O=J.drewN nq:=⟨_,rfl⟩;have bd:Fr NoM J O:=by rw [bK];exact ⟨rfl,rfl,rfl,xW _,λ_ _ _=>rfl⟩
    rw [<-bK];obtain⟨aY,aN,ay⟩:=Hhp3 (bs.o.fr0 bd) (bl.o.trans bd (λ_ _ a=>a.elim)) (bd.any (M:=λa=>a=t\/a=o));obtain ⟨⟨u,r,s,y⟩,z,m,n,A⟩:=HR.o O aN.o;have aP:=Hh (λe=>br.o O f2 g aY.o aN.o e);clear bd bK p0 p1 cB cC;by_cases X:c.length=0
    · have D := Hh (aP.o (yed a0.o ae.o (.inl (by rw [l.o]; exact X))))
      have U:((c.length:Int) == 0)=true:=by rw [beq_iff_eq];omega
      have cx:(c.length:Int)=0:=by omega
      clear X;go_wp2;refine yJ (v:=.tuple #[.agg #[.int .i64 0,.int .i64 0,.int .i64 0,.int .i64 0],.bool false]) (by simp [results,Tryz.results90,go_sem,u,r,s,y,z,m,n,A]) rfl ?_
      exact D.o
    · have U : ((c.length : Int) == 0) = false := by rw [beq_eq_false_iff_ne]; omega
      have cx:¬ (c.length:Int)=0:=by omega
      by_cases a9:h.length=0
      · have D := Hh (aP.o (yed a0.o ae.o (.inr (by rw [l.o]; exact a9))))
        have W:((h.length:Int) == 0)=true:=by rw [beq_iff_eq];omega
        have cy:(h.length:Int)=0:=by omega
        clear X a9;go_wp2;refine yJ (v:=.tuple #[.agg #[.int .i64 0,.int .i64 0,.int .i64 0,.int .i64 0],.bool false]) (by simp [results,Tryz.results90,go_sem,u,r,s,y,z,m,n,A]) rfl ?_
        exact D.o
      · have W : ((h.length : Int) == 0) = false := by rw [beq_eq_false_iff_ne]; omega
        have cy:¬ (h.length:Int)=0:=by omega
        have c1:=Hh (show c≠[] from λb=>X (by rw [b];rfl));have cw:=Hh (show h≠[] from λb=>a9 (by rw [b];rfl));obtain ⟨C,hp⟩:∃ C,c[0]?=some C:=⟨_,xQ (by omega)⟩;obtain ⟨a,N⟩:∃ a,h[0]?=some a:=⟨_,xQ (by omega)⟩;obtain⟨K,cF,cG⟩:=Hhp3 (And.intro hp N) (xK hp) (xK N);have bP:=Hh (λd (f:Fr (λa=>a=t\/a=o) J d)=>show ∃ ag aj,(∀ d,(Instr.indexAt 82 (.slice ua c.length uc) (.int .i64 0)).run Tryz.prog d=.ok (.pointer (some ⟨ag,aj,none⟩)) d)/\d.cell? ⟨ag,aj,none⟩=some (.int .i64 (C:Int)) from by
          obtain ⟨_,_,b,_,_,hc⟩:=aZ.o d f;cases b
          obtain ⟨ag,aj,ha,hc⟩:=hc 0 C K.o.1;exact ⟨ag,aj,λd=>za9 ua c.length uc 0 ag aj (xV.1 K.o.1).1 ha d,hc⟩)
        have bQ:=Hh (λd (f:Fr (λa=>a=t\/a=o) J d)=>show ∃ ag aj,(∀ d,(Instr.indexAt 82 (.slice va h.length vc) (.int .i64 0)).run Tryz.prog d=.ok (.pointer (some ⟨ag,aj,none⟩)) d)/\d.cell? ⟨ag,aj,none⟩=some (.int .i64 (a:Int)) from by
          obtain ⟨_,_,b,_,_,hc⟩:=bv.o d f;cases b
          obtain ⟨ag,aj,ha,hc⟩:=hc 0 a K.o.2;exact ⟨ag,aj,λd=>za9 va h.length vc 0 ag aj (xV.1 K.o.2).1 ha d,hc⟩)
        clear hp N;by_cases Y:c.length=h.length
        · have h3 : ((c.length : Int) == (h.length : Int)) = true := by rw [beq_iff_eq]; omega
          have c2:(c.length:Int)=(h.length:Int):=by omega
          clear c2;obtain⟨bO,cj,bS⟩:=Hhp3 (yg1 (.pointer (some ⟨pb,0,none⟩)) (.slice ua c.length uc) (.slice va h.length vc) c h O (aZ.o O ay.o) (bv.o O ay.o) Y) Y X;clear u r s y z m n A Y;go_wp2_with fail;(with_reducible refine bO.o.mono ?_);rintro b w4 ⟨rfl,f4⟩;obtain ⟨bA,bC⟩:∃ bA,bA=decide (c=h):=⟨_,rfl⟩;rw [<-bC];have c0:=Hh bC;have bt:=Hh (aY.o.fr0 f4);have aO:=Hh (aN.o.trans f4 (λ_ _ a=>a.elim));have bn:=Hh (ay.o.trans f4 (λ_ _ a=>a.elim));have bT:=Hh (λe=>br.o w4 f2 g bt.o aO.o e);clear bC f4 bO;have Y:=cj.o;cases bA with
          | true =>
            have bR:=Hh (show c=h from of_decide_eq_true c0.o.symm);have bY:=Hh (ztr pb t o R T S V BV HO.o HV.o c (.slice ua c.length uc) w4 f2 g bt.o (aZ.o w4 bn.o) (bW.o c1.o) (λk Q=>ao.o k (ad.o k (.inl Q)).1) (λk Q=>by have:=(ad.o k (.inl Q)).1;have:=HX.o;omega) (λk Q=>(ad.o k (.inl Q)).2) a0.o.nl (by have:=bS.o;omega) (by have:=aW.o.1;have:=HX.o;have:=HV.o;omega));clear Y X a9;go_wp2_with fail;(with_reducible refine bY.o.mono ?_);rintro b G ⟨k,ok,f5,g5,rfl,aw,ax,ak,av⟩;unfold zdz;have al:=Hh (aO.o.trans av kP);have HE:=Hh (aI.o G k ok f5 g5 ak al.o ⟨λb=>by
              obtain ⟨F,U,W⟩:=aw b;have q:=a0.o;rw [<-bR.o] at q;refine ⟨?_,?_⟩
              · rw [W];exact ygm q (by rw [l.o];have:=bS.o;omega) U
              · rw [W];exact ⟨by simp,by rw [l.o];exact aW.o.1⟩,λb=>by
              have q:=a0.o;rw [<-bR.o] at q;exact ymd q ae.o (ax b)⟩)
            obtain ⟨⟨u,r,s,y⟩,z,m,n,A⟩:=HR.o G al.o;clear aw ax ak av bY;go_wp2;refine yJ (v:=.tuple #[.agg #[.int .i64 k.1.1,.int .i64 (k.1.2:Int),.int .i64 k.2.1,.int .i64 (k.2.2:Int)],.bool ok]) (by simp [results,Tryz.results90,go_sem,u,r,s,y,z,m,n,A]) rfl ?_
            exact HE.o
          | false =>
            have az:=Hh (show ¬ c=h from of_decide_eq_false c0.o.symm);obtain ⟨⟨u,r,s,y⟩,z,m,n,A⟩:=HR.o w4 aO.o;by_cases ah:c.length=1
            · have h4 : ((c.length : Int) == 1) = true := by rw [beq_iff_eq]; omega
              have aC:(c.length:Int)=1:=by omega
              have h5:((h.length:Int) == 1)=true:=by rw [beq_iff_eq];omega
              have aD:(h.length:Int)=1:=by omega
              have bz:c=[C]:=zyy ah K.o.1;have au:h=[a]:=zyy (by omega) K.o.2;have q:=a0.o;rw [bz,au] at q;have q:Sides L [(za0 V).getD C 0] [(za0 V).getD a 0]:=q;have a7:=ad.o C (.inl (xK K.o.1));have a8:=ad.o a (.inr (xK K.o.2));have aU:=HX.o;obtain ⟨cl,aM⟩:∃ cl,cl=(za0 V).getD C 0:=⟨_,rfl⟩;obtain ⟨cr,bc⟩:∃ cr,cr=(za0 V).getD a 0:=⟨_,rfl⟩;have Z:cl≠cr:=λb=>az.o (by
                rw [bz,au];rw [aM,bc] at b;rw [zbq ch.o.nodup (by rw [za1];omega) (by rw [za1];omega) b])
              rw [<-aM,<-bc] at q;have cq:=Hh (λ(d:World) (f':Nat × Nat->Option Bool) (g':Nat->Option ((Int × Nat) × Int × Nat)) (st:USt pb t o R T S M I V BV d f' g')=>show Calls Tryz.prog 40 #[.pointer (some ⟨pb,0,none⟩),.int .i64 (C:Int),.map (some o)] d λb w'=>zit pb t o R T S M I V BV C cl d b w' from by
                rw [aM];exact ao.o C a7.1 f' g' d st (by omega) a7.2)
              have cs:=Hh (λ(d:World) (f':Nat × Nat->Option Bool) (g':Nat->Option ((Int × Nat) × Int × Nat)) (st:USt pb t o R T S M I V BV d f' g')=>show Calls Tryz.prog 40 #[.pointer (some ⟨pb,0,none⟩),.int .i64 (a:Int),.map (some o)] d λb w'=>zit pb t o R T S M I V BV a cr d b w' from by
                rw [bc];exact ao.o a a8.1 f' g' d st (by omega) a8.2)
              obtain⟨ap,bk,co⟩:=Hhp3 q Z (And.intro a7.1 a8.1);obtain ⟨bp,op,bL,kp⟩:=bP.o w4 bn.o;have bL:=bL w4;clear bz au q a7 a8 aU aM bc Z X a9 Y ah u r s y z m n A;go_wp2_with fail;(with_reducible refine (cq.o w4 f2 g bt.o).mono ?_);rintro b G ⟨k,o1,f5,g5,rfl,Q,ak,m⟩;unfold zdz;obtain ⟨H,a6⟩:∃ H,H=G.heap.size:=⟨_,rfl⟩;obtain ⟨p,P⟩:∃ p,p=G.alloc (.cells (zdf k) 69):=⟨_,rfl⟩;have a5:Fr NoM G p:=by rw [P];exact (nW G).alloc _
              have q5:UBox p H k:=by rw [a6];exact UBox.made P
              obtain⟨aq,cu,al,ci,bj⟩:=Hhp5 Q (ak.fr0 a5) ((aO.o.trans m kP).trans a5 (λ_ _ a=>a.elim)) ((bn.o.trans m kP).trans a5 (λ_ _ a=>a.elim)) q5;have cv:=Hh (show t < H/\o < H/\w.heap.size < H from by
                have U:=(aO.o.trans m kP).size;have W:=ct.o;have h3:=ck.o;rw [a6];omega)
              unfold zdf at P;clear Q ak m a5 q5 kp bL;go_upto_region 11 with fail;rw [<-P,<-a6];clear P a6;obtain ⟨bq,oq,ai,kq⟩:=bQ.o p ci.o;have ai:=ai p;go_wp2_with fail;(with_reducible refine (cs.o p f5 g5 cu.o).mono ?_);rintro b w6 ⟨j,o2,f6,g6,rfl,hz,bN,n⟩;unfold zdz;obtain ⟨b6,bB⟩:∃ b6,b6=w6.heap.size:=⟨_,rfl⟩;obtain ⟨W6,aS⟩:∃ W6,W6=w6.alloc (.cells (zdf j) 69):=⟨_,rfl⟩;have b0:Fr NoM w6 W6:=by rw [aS];exact (nW w6).alloc _
              have q6:UBox W6 b6 j:=by rw [bB];exact UBox.made aS
              have bM:=n.trans b0 (λ_ _ a=>a.elim);have ar:=Hh hz;have bm:=Hh (al.o.trans bM kP);obtain⟨bj,cf,HE,aX⟩:=Hhp4 (bj.o.fr bM (λb=>by have U:=cv.o;rcases b with b | b <;> omega)) q6 (λ(v:(Int × Nat) × Int × Nat) (ok:Bool) (ht:Told x L v ok)=>aI.o W6 v ok f6 g6 (bN.fr0 b0) bm.o ht) (λe=>br.o W6 f6 g6 (bN.fr0 b0) bm.o e);unfold zdf at aS;clear hz bN n bM b0 q6 kq ai;go_upto_region 12 with fail;rw [<-aS,<-bB];clear aS bB;obtain ⟨y0,y1,y2,y3⟩:=bj.o.cells;obtain ⟨z0,z1,z2,z3⟩:=cf.o.cells;obtain ⟨⟨u,r,s,y⟩,z,m,n,A⟩:=HR.o W6 bm.o;have aJ:=Hh (λ(F:Nat) (ab:Int) (ac:Nat) (qq:IsNus L F ab ac)=>(by
                rcases ymq ap.o bk.o ae.o qq with ⟨aa,an,i1,i2,e⟩ | ⟨aa,an,i1,i2,e,h'⟩
                · refine ⟨?_, ?_, .inl ⟨aa, an, ?_, ?_, e⟩⟩
                  · cases o1 with
                    | true=>rfl
                    | false=>exact (aq.o.2 rfl _ _ _ i1).elim
                  · cases o2 with
                    | true=>rfl
                    | false=>exact (ar.o.2 rfl _ _ _ i2).elim
                  · cases o1 with
                    | true=>exact (aq.o.1 rfl).1.of i1
                    | false=>exact (aq.o.2 rfl _ _ _ i1).elim
                  · cases o2 with
                    | true=>exact (ar.o.1 rfl).1.of i2
                    | false=>exact (ar.o.2 rfl _ _ _ i2).elim
                · refine ⟨?_, ?_, .inr ⟨aa, an, ?_, ?_, e, h'⟩⟩
                  · cases o1 with
                    | true=>rfl
                    | false=>exact (aq.o.2 rfl _ _ _ i2).elim
                  · cases o2 with
                    | true=>rfl
                    | false=>exact (ar.o.2 rfl _ _ _ i1).elim
                  · cases o1 with
                    | true=>exact (aq.o.1 rfl).1.of i2
                    | false=>exact (aq.o.2 rfl _ _ _ i2).elim
                  · cases o2 with
                    | true=>exact (ar.o.1 rfl).1.of i1
                    | false=>exact (ar.o.2 rfl _ _ _ i1).elim :
                o1=true/\o2=true/\((∃ (aa:Int) (an:Nat),k=(valD F,0,0)/\j=(valD F,aa,an)/\0<=aa)\/∃ (aa:Int) (an:Nat),k=(valD F,aa,an)/\j=(valD F,0,0)/\aa<=0/\¬ (aa=0/\an=0))))
              cases o1 with
              | false =>
                have D:=Hh (aX.o (λF ab ac qq=>by cases (aJ.o F ab ac qq).1));clear aJ;go_wp2;refine yJ (v:=.tuple #[.agg #[.int .i64 0,.int .i64 0,.int .i64 0,.int .i64 0],.bool false]) (by simp [results,Tryz.results90,go_sem,u,r,s,y,z,m,n,A]) rfl ?_
                exact D.o
              | true =>
                cases o2 with
                | false =>
                  have D:=Hh (aX.o (λF ab ac qq=>by cases (aJ.o F ab ac qq).2.1));clear aJ;go_wp2;refine yJ (v:=.tuple #[.agg #[.int .i64 0,.int .i64 0,.int .i64 0,.int .i64 0],.bool false]) (by simp [results,Tryz.results90,go_sem,u,r,s,y,z,m,n,A]) rfl ?_
                  exact D.o
                | true =>
                  have bU:=Hh (aq.o.1 rfl).1;have bV:=Hh (ar.o.1 rfl).1;have cg:=Hh (And.intro (aq.o.1 rfl).2 (ar.o.1 rfl).2);clear aq ar;obtain ⟨⟨T1,P1⟩,n1,E⟩:=k;obtain ⟨⟨T2,P2⟩,n2,s2⟩:=j;simp only at y0 y1 y2 y3 z0 z1 z2 z3;have HW:=Hh (λ(F:Nat) (ab:Int) (ac:Nat) (qq:IsNus L F ab ac)=>(by
                    obtain ⟨_,_,e⟩:=aJ.o F ab ac qq;rcases e with ⟨aa,an,e1,e2,e⟩ | ⟨aa,an,e1,e2,e,h'⟩
                    · have a1 := congrArg (λj => j.1.1) e1
                      have a2:=congrArg (λj=>j.1.2) e1;have a3:=congrArg (λj=>j.2.1) e1;have a4:=congrArg (λj=>j.2.2) e1;have b1:=congrArg (λj=>j.1.1) e2;have b2:=congrArg (λj=>j.1.2) e2;have b3:=congrArg (λj=>j.2.1) e2;simp only at a1 a2 a3 a4 b1 b2 b3;exact ⟨⟨a1.trans b1.symm,a2.trans b2.symm⟩,.inl ⟨a3,a4,by omega⟩⟩
                    · have a1 := congrArg (λj => j.1.1) e1
                      have a2:=congrArg (λj=>j.1.2) e1;have a3:=congrArg (λj=>j.2.1) e1;have a4:=congrArg (λj=>j.2.2) e1;have b1:=congrArg (λj=>j.1.1) e2;have b2:=congrArg (λj=>j.1.2) e2;have b3:=congrArg (λj=>j.2.1) e2;have b4:=congrArg (λj=>j.2.2) e2;simp only at a1 a2 a3 a4 b1 b2 b3 b4;exact ⟨⟨a1.trans b1.symm,a2.trans b2.symm⟩,.inr ⟨b3,b4,by omega,λa=>h' ⟨by omega,by omega⟩⟩⟩ :
                    (T1=T2/\P1=P2)/\((n1=0/\E=0/\0<=n2)\/(n2=0/\s2=0/\n1<=0/\¬ (n1=0/\E=0)))))
                  clear aJ;have aH:=Hh (show (n1.natAbs<=C/\E<=C)/\(n2.natAbs<=a/\s2<=a)/\C < x/\a < x/\x<=1000000 from by
                    have U:=cg.o;have W:=co.o;have h3:=HX.o;have h4:=HV.o;exact ⟨U.1,U.2,W.1,W.2,by omega⟩)
                  by_cases bg:T1=T2/\P1=P2
                  · obtain ⟨rfl, rfl⟩ := bg
                    by_cases aB:n1=0/\E=0/\0<=n2
                    · obtain ⟨rfl, rfl, bG⟩ := aB
                      have cA:=zi4 s2 (by have:=aH.o;omega);have hu:=yok ap.o bk.o bU.o bV.o rfl rfl rfl bG;have aV:=Hh (HE.o ((T1,P1),n2 + 1,s2 ^^^ 1) true ⟨λ_=>⟨hu,by
                        have U:=zo4 s2;have W:=aH.o;exact ⟨by simp only;omega,by simp only;omega⟩⟩,λb=>by cases b⟩)
                      have c4:n2<=1000000:=by have:=aH.o;omega
                      have hg:n2>=0:=bG;clear hu bG;go_wp2;refine yJ (v:=.tuple #[.agg #[.int .i64 T1,.int .i64 (P1:Int),.int .i64 (n2 + 1),.int .i64 ((s2 ^^^ 1:Nat):Int)],.bool true]) (by simp [results,Tryz.results90,go_sem,u,r,s,y,z,m,n,A]) rfl ?_
                      exact aV.o
                    · by_cases b7 : n2 = 0/\s2 = 0/\n1<=0
                      · obtain ⟨rfl, rfl, bf⟩ := b7
                        have cA:=zi4 E (by have:=aH.o;omega);have hu:=yha ap.o bk.o bU.o bV.o rfl rfl rfl bf;have aV:=Hh (HE.o ((T1,P1),n1 - 1,E ^^^ 1) true ⟨λ_=>⟨hu,by
                          have U:=zo4 E;have W:=aH.o;exact ⟨by simp only;omega,by simp only;omega⟩⟩,λb=>by cases b⟩)
                        have c4:-1000000<=n1:=by have:=aH.o;omega
                        clear hu;by_cases cc:n1=0
                        · have bh : ¬ E = 0 := λb => aB ⟨cc, b, by omega⟩
                          subst cc;have cH:¬ (E:Int)=0:=by omega
                          have cI:((E:Int) == 0)=false:=by rw [beq_eq_false_iff_ne];omega
                          clear aB bh c4 bf;go_wp2;refine yJ (v:=.tuple #[.agg #[.int .i64 T1,.int .i64 (P1:Int),.int .i64 (0 - 1),.int .i64 ((E ^^^ 1:Nat):Int)],.bool true]) (by simp [results,Tryz.results90,go_sem,u,r,s,y,z,m,n,A]) rfl ?_
                          exact aV.o
                        · have cJ : (n1 == 0) = false := by rw [beq_eq_false_iff_ne]; omega
                          have bb:n1<=0:=bf;clear aB bf;go_wp2;refine yJ (v:=.tuple #[.agg #[.int .i64 T1,.int .i64 (P1:Int),.int .i64 (n1 - 1),.int .i64 ((E ^^^ 1:Nat):Int)],.bool true]) (by simp [results,Tryz.results90,go_sem,u,r,s,y,z,m,n,A]) rfl ?_
                          exact aV.o
                      · have D := Hh (aX.o (λF ab ac qq => by
                          rcases (HW.o F ab ac qq).2 with e | e
                          · exact aB e
                          · exact b7 ⟨e.1,e.2.1,e.2.2.1⟩))
                        have cd:=Hh aB;have ce:=Hh b7;clear aB b7 HW;go_wp2;all_goals first
                          | (refine yJ (v:=.tuple #[.agg #[.int .i64 0,.int .i64 0,.int .i64 0,.int .i64 0],.bool false]) (by simp [results,Tryz.results90,go_sem,u,r,s,y,z,m,n,A]) rfl ?_
                             exact D.o)
                          | (exfalso;exact cd.o ⟨by omega,by omega,by omega⟩)
                          | (exfalso;exact ce.o ⟨by omega,by omega,by omega⟩)
                  · have cm := Hh bg
                    have D:=Hh (aX.o (λF ab ac qq=>bg (HW.o F ab ac qq).1));clear bg HW;go_wp2;all_goals first
                      | (refine yJ (v:=.tuple #[.agg #[.int .i64 0,.int .i64 0,.int .i64 0,.int .i64 0],.bool false]) (by simp [results,Tryz.results90,go_sem,u,r,s,y,z,m,n,A]) rfl ?_
                         exact D.o)
                      | (exfalso;exact cm.o ⟨by omega,by omega⟩)
            · by_cases aF : c.length = 2
              · have D := Hh (bT.o (zpk a0.o ae.o (λe => az.o (aR.o e)) (by rw [l.o, l.o]; omega) (by rw [l.o, l.o]; omega) (by rw [l.o, l.o]; omega)))
                have h4:((c.length:Int) == 1)=false:=by rw [beq_eq_false_iff_ne];omega
                have aC:¬ (c.length:Int)=1:=by omega
                have h5:((c.length:Int) == 2)=true:=by rw [beq_iff_eq];omega
                have aD:(c.length:Int)=2:=by omega
                have h6:((h.length:Int) == 1)=false:=by rw [beq_eq_false_iff_ne];omega
                have b8:¬ (h.length:Int)=1:=by omega
                clear X a9 Y ah aF;go_wp2;refine yJ (v:=.tuple #[.agg #[.int .i64 0,.int .i64 0,.int .i64 0,.int .i64 0],.bool false]) (by simp [results,Tryz.results90,go_sem,u,r,s,y,z,m,n,A]) rfl ?_
                exact D.o
              · have D := Hh (bT.o (zpk a0.o ae.o (λe => az.o (aR.o e)) (by rw [l.o, l.o]; omega) (by rw [l.o, l.o]; omega) (by rw [l.o, l.o]; omega)))
                have h4:((c.length:Int) == 1)=false:=by rw [beq_eq_false_iff_ne];omega
                have aC:¬ (c.length:Int)=1:=by omega
                have h5:((c.length:Int) == 2)=false:=by rw [beq_eq_false_iff_ne];omega
                have aD:¬ (c.length:Int)=2:=by omega
                clear X a9 Y ah aF;go_wp2;refine yJ (v:=.tuple #[.agg #[.int .i64 0,.int .i64 0,.int .i64 0,.int .i64 0],.bool false]) (by simp [results,Tryz.results90,go_sem,u,r,s,y,z,m,n,A]) rfl ?_
                exact D.o
        · have h3 : ((c.length : Int) == (h.length : Int)) = false := by rw [beq_eq_false_iff_ne]; omega
          have c2:¬ (c.length:Int)=(h.length:Int):=by omega
          have az:=Hh (show ¬ c=h from λb=>Y (by rw [b]));by_cases ah:c.length=1
          · by_cases bI : h.length = 2
            · have h4 : ((c.length : Int) == 1) = true := by rw [beq_iff_eq]; omega
              have aC:(c.length:Int)=1:=by omega
              have h5:((h.length:Int) == 1)=false:=by rw [beq_eq_false_iff_ne];omega
              have aD:¬ (h.length:Int)=1:=by omega
              have h6:((c.length:Int) == 2)=false:=by rw [beq_eq_false_iff_ne];omega
              have b8:¬ (c.length:Int)=2:=by omega
              have h7:((h.length:Int) == 2)=true:=by rw [beq_iff_eq];omega
              have cz:(h.length:Int)=2:=by omega
              obtain ⟨x1,aG⟩:∃ x1,h[1]?=some x1:=⟨_,xQ (by omega)⟩;have aE:h=[a,x1]:=ykg bI K.o.2 aG;have au:c=[C]:=zyy ah K.o.1;have q:=a0.o;rw [aE,au] at q;have q:Sides L [(za0 V).getD C 0] [(za0 V).getD a 0,(za0 V).getD x1 0]:=q;have a7:=ad.o a (.inr (xK K.o.2));have a8:=ad.o x1 (.inr (xK aG));have am:=ad.o C (.inl (xK K.o.1));have aU:=HX.o;obtain⟨aQ,ap,bx⟩:=Hhp3 (zyv pb t o R T S V BV HO.o a x1 C (.slice va h.length vc) O f2 g aY.o (by have e:=bv.o O ay.o;exact aE ▸ e) (cn.o cw.o) (ao.o _ a7.1) (ao.o _ a8.1) (ao.o _ am.1) HV.o ⟨by omega,by omega,by omega⟩ ⟨a7.2,a8.2,am.2⟩) q (show 2<=x from by have:=aW.o;omega);obtain ⟨bq,oq,ai,kq⟩:=bP.o O ay.o;have ai:=ai O;clear aG aE au q a7 a8 am aU X a9 Y bI ah u r s y z m n A;go_wp2_with fail;(with_reducible refine aQ.o.mono ?_);rintro b G ⟨T5,P5,ok,f5,g5,rfl,aw,ax,ak,av⟩;obtain ⟨H,a6⟩:∃ H,H=G.heap.size:=⟨_,rfl⟩;obtain ⟨p,P⟩:∃ p,p=G.alloc (.cells #[.int .i64 T5,.int .i64 (P5:Int)] 29):=⟨_,rfl⟩;have a5:Fr NoM G p:=by rw [P];exact (nW G).alloc _
              have e5:p.heap[H]?=some (.cells #[.int .i64 T5,.int .i64 (P5:Int)] 29 (0,0)):=by rw [P,a6];exact xJ G _
              have al:=Hh ((aN.o.trans av kP).trans a5 (λ_ _ a=>a.elim));have d0:p.cell? ⟨H,0,none⟩=some (.int .i64 T5):=by rw [xX p _ 0 _ _ _ e5];rfl
              have d1:p.cell? ⟨H,1,none⟩=some (.int .i64 (P5:Int)):=by rw [xX p _ 1 _ _ _ e5];rfl
              have HE:=Hh (aI.o p ((T5,P5),-1,1) ok f5 g5 (ak.fr0 a5) al.o ⟨λb=>by
                obtain ⟨F,U,W,h3⟩:=aw b;refine ⟨?_,?_⟩
                · rw [W,h3];exact ydu ap.o U
                · have := bx.o
                  exact ⟨by simp only;omega,by simp only;omega⟩,λb=>ztv ap.o ae.o (ax b)⟩)
              obtain ⟨⟨u,r,s,y⟩,z,m,n,A⟩:=HR.o p al.o;clear aw ax ak av a5 e5 aQ ai kq;go_upto_region 24 with fail;rw [<-P,<-a6];clear P a6;go_wp2;refine yJ (v:=.tuple #[.agg #[.int .i64 T5,.int .i64 (P5:Int),.int .i64 (-1),.int .i64 1],.bool ok]) (by simp [results,Tryz.results90,go_sem,u,r,s,y,z,m,n,A]) rfl ?_
              exact HE.o
            · have D := Hh (aP.o (zpk a0.o ae.o (λe => az.o (aR.o e)) (by rw [l.o, l.o]; omega) (by rw [l.o, l.o]; omega) (by rw [l.o, l.o]; omega)))
              have h4:((c.length:Int) == 1)=true:=by rw [beq_iff_eq];omega
              have aC:(c.length:Int)=1:=by omega
              have h5:((h.length:Int) == 1)=false:=by rw [beq_eq_false_iff_ne];omega
              have aD:¬ (h.length:Int)=1:=by omega
              have h6:((c.length:Int) == 2)=false:=by rw [beq_eq_false_iff_ne];omega
              have b8:¬ (c.length:Int)=2:=by omega
              have h7:((h.length:Int) == 2)=false:=by rw [beq_eq_false_iff_ne];omega
              have cz:¬ (h.length:Int)=2:=by omega
              clear X a9 Y ah bI;go_wp2;refine yJ (v:=.tuple #[.agg #[.int .i64 0,.int .i64 0,.int .i64 0,.int .i64 0],.bool false]) (by simp [results,Tryz.results90,go_sem,u,r,s,y,z,m,n,A]) rfl ?_
              exact D.o
          · by_cases aF : c.length = 2
            · by_cases bH : h.length = 1
              · have h4 : ((c.length : Int) == 1) = false := by rw [beq_eq_false_iff_ne]; omega
                have aC:¬ (c.length:Int)=1:=by omega
                have h5:((c.length:Int) == 2)=true:=by rw [beq_iff_eq];omega
                have aD:(c.length:Int)=2:=by omega
                have h6:((h.length:Int) == 1)=true:=by rw [beq_iff_eq];omega
                have b8:(h.length:Int)=1:=by omega
                obtain ⟨x1,aG⟩:∃ x1,c[1]?=some x1:=⟨_,xQ (by omega)⟩;have aE:c=[C,x1]:=ykg aF K.o.1 aG;have au:h=[a]:=zyy bH K.o.2;have q:=a0.o;rw [aE,au] at q;have q:Sides L [(za0 V).getD C 0,(za0 V).getD x1 0] [(za0 V).getD a 0]:=q;have a7:=ad.o C (.inl (xK K.o.1));have a8:=ad.o x1 (.inl (xK aG));have am:=ad.o a (.inr (xK K.o.2));have aU:=HX.o;obtain⟨aQ,ap,bx⟩:=Hhp3 (zyv pb t o R T S V BV HO.o C x1 a (.slice ua c.length uc) O f2 g aY.o (by have e:=aZ.o O ay.o;exact aE ▸ e) (bW.o c1.o) (ao.o _ a7.1) (ao.o _ a8.1) (ao.o _ am.1) HV.o ⟨by omega,by omega,by omega⟩ ⟨a7.2,a8.2,am.2⟩) q (show 2<=x from by have:=aW.o;omega);obtain ⟨bq,oq,ai,kq⟩:=bQ.o O ay.o;have ai:=ai O;clear aG aE au q a7 a8 am aU X a9 Y ah aF bH u r s y z m n A;go_wp2_with fail;(with_reducible refine aQ.o.mono ?_);rintro b G ⟨T5,P5,ok,f5,g5,rfl,aw,ax,ak,av⟩;obtain ⟨H,a6⟩:∃ H,H=G.heap.size:=⟨_,rfl⟩;obtain ⟨p,P⟩:∃ p,p=G.alloc (.cells #[.int .i64 T5,.int .i64 (P5:Int)] 29):=⟨_,rfl⟩;have a5:Fr NoM G p:=by rw [P];exact (nW G).alloc _
                have e5:p.heap[H]?=some (.cells #[.int .i64 T5,.int .i64 (P5:Int)] 29 (0,0)):=by rw [P,a6];exact xJ G _
                have al:=Hh ((aN.o.trans av kP).trans a5 (λ_ _ a=>a.elim));have d0:p.cell? ⟨H,0,none⟩=some (.int .i64 T5):=by rw [xX p _ 0 _ _ _ e5];rfl
                have d1:p.cell? ⟨H,1,none⟩=some (.int .i64 (P5:Int)):=by rw [xX p _ 1 _ _ _ e5];rfl
                have HE:=Hh (aI.o p ((T5,P5),1,1) ok f5 g5 (ak.fr0 a5) al.o ⟨λb=>by
                  obtain ⟨F,U,W,h3⟩:=aw b;refine ⟨?_,?_⟩
                  · rw [W,h3];exact ymm ap.o U
                  · have := bx.o
                    exact ⟨by simp only;omega,by simp only;omega⟩,λb=>yba ap.o ae.o (ax b)⟩)
                obtain ⟨⟨u,r,s,y⟩,z,m,n,A⟩:=HR.o p al.o;clear aw ax ak av a5 e5 aQ ai kq;go_upto_region 21 with fail;rw [<-P,<-a6];clear P a6;go_wp2;refine yJ (v:=.tuple #[.agg #[.int .i64 T5,.int .i64 (P5:Int),.int .i64 1,.int .i64 1],.bool ok]) (by simp [results,Tryz.results90,go_sem,u,r,s,y,z,m,n,A]) rfl ?_
                exact HE.o
              · have D := Hh (aP.o (zpk a0.o ae.o (λe => az.o (aR.o e)) (by rw [l.o, l.o]; omega) (by rw [l.o, l.o]; omega) (by rw [l.o, l.o]; omega)))
                have h4:((c.length:Int) == 1)=false:=by rw [beq_eq_false_iff_ne];omega
                have aC:¬ (c.length:Int)=1:=by omega
                have h5:((h.length:Int) == 1)=false:=by rw [beq_eq_false_iff_ne];omega
                have aD:¬ (h.length:Int)=1:=by omega
                have h6:((c.length:Int) == 2)=true:=by rw [beq_iff_eq];omega
                have b8:(c.length:Int)=2:=by omega
                clear X a9 Y ah aF bH;go_wp2;refine yJ (v:=.tuple #[.agg #[.int .i64 0,.int .i64 0,.int .i64 0,.int .i64 0],.bool false]) (by simp [results,Tryz.results90,go_sem,u,r,s,y,z,m,n,A]) rfl ?_
                exact D.o
            · have D := Hh (aP.o (zpk a0.o ae.o (λe => az.o (aR.o e)) (by rw [l.o, l.o]; omega) (by rw [l.o, l.o]; omega) (by rw [l.o, l.o]; omega)))
              have h4:((c.length:Int) == 1)=false:=by rw [beq_eq_false_iff_ne];omega
              have aC:¬ (c.length:Int)=1:=by omega
              have h5:((c.length:Int) == 2)=false:=by rw [beq_eq_false_iff_ne];omega
              have aD:¬ (c.length:Int)=2:=by omega
              clear X a9 Y ah aF;go_wp2;refine yJ (v:=.tuple #[.agg #[.int .i64 0,.int .i64 0,.int .i64 0,.int .i64 0],.bool false]) (by simp [results,Tryz.results90,go_sem,u,r,s,y,z,m,n,A]) rfl ?_
              exact D.o
theorem ygv {M I:Nat->Prop}(pb h g:Nat)(z C A:Value)(V:List PL)(BV:List Nat)(a5:UOut h g M I)(B:BookC V (za0 V))(hV:V.length<=1000000):∀e,zs2 pb h g z C A M I V BV e:=by
 intro e;induction e using Nat.strongRecOn with
 | _ e ih =>
  intro t o c y hx hc;have W:=Hh (λ(b:World) (st:USt pb h g z C A M I V BV b t o)=>zvq pb h g z C A V BV a5 B hV e hx hc ih t o b st);obtain⟨ac,a3⟩:=eX ((za0 V).getD e 0);rw[<-a3]at W ⊢;obtain⟨d,n⟩:=eX (c.alloc (.cells #[.int .i64 0,.int .i64 0,.int .i64 0,.int .i64 0] 69));have f1:Fr NoM c d:=by rw[n];exact(nW c).alloc _
  have e1:d.heap[c.heap.size]?=some (.cells #[.int .i64 0,.int .i64 0,.int .i64 0,.int .i64 0] 69 (0,0)):=by rw[n];exact xJ c _
  have aj:d.heap.size=c.heap.size+1:=by rw[n];simp
  have ah:=y.ord.lt;have ae:=y.kn.lt;have a4:=y.lt;have R:=y.fr0 f1;have X:=Hh (λb (t:Fr (λq=>q=h\/q=g) d b)=>show(b.cell? ⟨c.heap.size,0,none⟩=some (.int .i64 0)/\b.cell? ⟨c.heap.size,1,none⟩=some (.int .i64 0)/\b.cell? ⟨c.heap.size,2,none⟩=some (.int .i64 0)/\b.cell? ⟨c.heap.size,3,none⟩=some (.int .i64 0)) ∧
    b.frozen? ⟨c.heap.size,0,none⟩=false/\b.frozen? ⟨c.heap.size,1,none⟩=false/\b.frozen? ⟨c.heap.size,2,none⟩=false/\b.frozen? ⟨c.heap.size,3,none⟩=false from by
   have k:=t.heap e1 (λq=>by rcases q with q|q <;> omega);exact⟨⟨qR k rfl,qR k rfl,qR k rfl,qR k rfl⟩,fZ k,fZ k,fZ k,fZ k⟩)
  have T:=Hh (λ(b:World) (a:(Int × Nat) × Int × Nat) (ok:Bool) (f':Nat × Nat->Option Bool) (g':Nat->Option ((Int × Nat) × Int × Nat)) (st:USt pb h g z C A M I V BV b f' g') (fr:Fr (λq=>q=h\/q=g) d b) (ht:Told e ac a ok)=>(by
   have s1:=zvh b c.heap.size a;refine⟨a,ok,f',g',rfl,ht,st.set s1 (λq f=>?_),(f1.any.trans fr kP).trans s1 (λq hq f=>by have f:q=c.heap.size:=f;omega)⟩;have f:q=c.heap.size:=f;subst f;exact⟨λf=>by have:=a4 c.heap.size (.inl f);omega,λf=>by have:=a4 c.heap.size (.inr f);omega,by omega,by omega⟩ :
   zit pb h g z C A M I V BV e ac c (.returned (.tuple #[zdz a,.bool ok])) (setU b c.heap.size a)))
  have p:(Instr.lookup 72 (.map (some g)) (.int .i64 (e:Int)) true).run Tryz.prog d=.ok (.tuple #[((o e).map zdz).getD (.agg #[.int .i64 0,.int .i64 0,.int .i64 0,.int .i64 0]),.bool (o e).isSome]) d :=
   MapF.look (w:=d) R.kn (KeyAt.nat Tryz.underlying3) Tryz.underlying72 (Tryz.zeroValue69 _) e true
  have af:=R.knOK;obtain⟨a9,al,ab,an,am,a7,HX,HO⟩:=Hhp8 p af R aj (And.intro ah ae) a3 hx a5;clear y f1 e1 aj ah ae a4 R p af hc a3 ih hx a5;cases x:o e with
  | some a =>
   have hk:=al.o e a x;have m:=a9.o;rw[x]at m;have p:(Instr.lookup 72 (.map (some g)) (.int .i64 (e:Int)) true).run Tryz.prog d=.ok (.tuple #[.agg #[.int .i64 a.1.1,.int .i64 (a.1.2:Int),.int .i64 a.2.1,.int .i64 (a.2.2:Int)],.bool true]) d:=m;clear m;obtain⟨b2,a2⟩:=eX d.heap.size;obtain⟨l,i⟩:=eX (d.alloc (.cells (zdf a) 69));have j:Fr NoM d l:=by rw[i];exact(nW d).alloc _
   have q2:UBox l b2 a:=by rw[a2];exact UBox.made i
   have r:=Hh (T.o l a true t o (ab.o.fr0 j) j.any ⟨λ_=>by rw[a7.o];exact hk.2,λf=>by cases f⟩);obtain⟨⟨D,E,F,G⟩,H,J,K,L⟩:=X.o l j.any;obtain⟨y0,y1,y2,y3⟩:=q2.cells;unfold zdf at i;clear hk x j q2;go_enter Tryz.func40,Tryz.ntmps40;go_upto_region 1 with fail;rw[<-n];clear n;go_upto_region 2 with fail;rw[<-i,<-a2];clear i a2 p;go_wp2;refine yJ (v:=.tuple #[.agg #[.int .i64 a.1.1,.int .i64 (a.1.2:Int),.int .i64 a.2.1,.int .i64 (a.2.2:Int)],.bool true]) (by simp[results,Tryz.results40,go_sem,D,E,F,G,H,J,K,L]) rfl ?_
   exact r.o
  | none =>
   have m:=a9.o;rw[x]at m;have p:(Instr.lookup 72 (.map (some g)) (.int .i64 (e:Int)) true).run Tryz.prog d=.ok (.tuple #[.agg #[.int .i64 0,.int .i64 0,.int .i64 0,.int .i64 0],.bool false]) d:=m;clear m;obtain⟨l,i⟩:=eX (d.alloc (.cells #[.int .i64 0,.int .i64 0,.int .i64 0,.int .i64 0] 69));have j:Fr NoM d l:=by rw[i];exact(nW d).alloc _
   have aa:=Hh (W.o l (ab.o.fr0 j));have G2:=Hh j;clear x j W;go_enter Tryz.func40,Tryz.ntmps40;go_upto_region 1 with fail;rw[<-n];clear n;go_upto_region 2 with fail;rw[<-i];clear i p;go_wp2_with fail;(with_reducible refine aa.o.mono ?_);rintro f S ⟨a,ok,f3,g3,rfl,hy,ak,a0⟩;unfold zdz;obtain⟨N,Q⟩:=eX S.heap.size;obtain⟨s,u⟩:=eX (S.alloc (.cells (zdf a) 69));have a1:Fr NoM S s:=by rw[u];exact(nW S).alloc _
   have q3:UBox s N a:=by rw[Q];exact UBox.made u
   have U:=Hh ((G2.o.any.trans a0 kP).trans a1 (λ_ _ q=>q.elim));have ao:=Hh (show h<N/\g<N from by
    have h1:=(G2.o.any (M:=λq=>q=h\/q=g)).trans a0 kP;have h2:=h1.size;have h3:=an.o;have h4:=am.o;rw[Q];omega)
   obtain⟨Z,Y,a6⟩:=Hhp3 hy (ak.fr0 a1) q3;unfold zdf at u;clear hy ak a0 a1 q3 aa;go_upto_region 5 with fail;rw[<-u,<-Q];clear u Q;obtain⟨y0,y1,y2,y3⟩:=a6.o.cells;cases ok with
   | false =>
    have r:=Hh (T.o s a false f3 g3 Y.o U.o Z.o);obtain⟨⟨D,E,F,G⟩,H,J,K,L⟩:=X.o s U.o;go_wp2;refine yJ (v:=.tuple #[.agg #[.int .i64 a.1.1,.int .i64 (a.1.2:Int),.int .i64 a.2.1,.int .i64 (a.2.2:Int)],.bool false]) (by simp[results,Tryz.results40,go_sem,D,E,F,G,H,J,K,L]) rfl ?_
    exact r.o
   | true =>
    obtain⟨w5,ai,ag,O⟩:=MapF.store (P:=Tryz.prog) Y.o.kn (KeyAt.nat Tryz.underlying3) Tryz.underlying72 e a;have ai:(Instr.mapUpdate 72 (.map (some g)) (.int .i64 (e:Int)) (.agg #[.int .i64 a.1.1,.int .i64 (a.1.2:Int),.int .i64 a.2.1,.int .i64 (a.2.2:Int)])).run Tryz.prog s=.ok () w5:=ai;have hz:=ao.o;have ad:=a6.o.fr O (λf=>by have f:N=g:=f;omega);have a8:=Hh (U.o.trans O (λq _ f=>.inr f));have r:=Hh (T.o w5 a true f3 (upd g3 e a) (Y.o.store HO.o O ag HX.o (by rw[<-a7.o];exact Z.o.1 rfl)) a8.o Z.o);obtain⟨⟨D,E,F,G⟩,H,J,K,L⟩:=X.o w5 a8.o;obtain⟨v0,v1,v2,v3⟩:=ad.cells;clear ag O ad hz;go_wp2;refine yJ (v:=.tuple #[.agg #[.int .i64 a.1.1,.int .i64 (a.1.2:Int),.int .i64 a.2.1,.int .i64 (a.2.2:Int)],.bool true]) (by simp[results,Tryz.results40,go_sem,D,E,F,G,H,J,K,L]) rfl ?_
    exact r.o
