import Derived.Test.YtlapkmhemepcaaaGreatDoorZs3
/- Lemmas. -/
set_option linter.all false
set_option maxHeartbeats 4000000
set_option maxRecDepth 4000
namespace Go.Proofs.YtlapkmhemepcaaaGreatDoor
open Go.RowKit
noncomputable def xAt (F:List PL)(k:Nat):Nat:=canC ((za0 F).getD k 0)
def ye0 (x y:Int × Nat):Bool:=decide (x.1*2^(16-x.2)<y.1*2^(16-y.2))
def zmg (gr:Bool)(s y:Int × Nat):Bool:=if gr=true then ye0 s y else ye0 y s
def zk5 (gr:Bool)(s y:Int × Nat):Int × Nat:=if zmg gr s y=true then y else s
def ze7 (gr:Bool):List (Int × Nat)->Int × Nat
 | []=>(0,0)
 | x::l=>l.foldl (zk5 gr) x
theorem zvp (gr:Bool)(l:List (Int × Nat))(y:Int × Nat)(h:l≠[]):ze7 gr (l ++ [y])=zk5 gr (ze7 gr l) y:=by cases l with| nil=>exact absurd rfl h| cons x l=>show(l ++ [y]).foldl (zk5 gr) x=_;rw[List.foldl_append];rfl
theorem zpu (gr:Bool)(y:Int × Nat):ze7 gr [y]=y:=rfl
theorem yad {α:Type}(f:Nat->α)(L:List Nat)(k x:Nat)(h:L[k]?=some x):(L.take (k+1)).map f=(L.take k).map f ++ [f x]:=by rw[List.take_add_one,h,Option.toList_some,vK];rfl
theorem znd (gr:Bool)(f:Nat->Int × Nat)(L:List Nat)(k x:Nat)(h:L[k]?=some x):ze7 gr ((L.take (k+1)).map f)=if k=0 then f x else zk5 gr (ze7 gr ((L.take k).map f)) (f x):=by rw[yad f L k x h];split;{rename_i e;subst e;rw[List.take_zero];rfl};{rename_i e;refine zvp gr _ _ (λz=>?_);have h1:=congrArg List.length z;have h2:=(xV.1 h).1;rw[uV,kK,List.length_nil]at h1;omega}
theorem ybu (gr:Bool):∀(l:List (Int × Nat)) (x:Int × Nat),l.foldl (zk5 gr) x=x\/l.foldl (zk5 gr) x∈l:=by intro l;induction l with| nil=>{intro x;exact .inl rfl}| cons y l ih =>{intro x;rw[List.foldl_cons];rcases ih (zk5 gr x y)with h|h;{rw[h];unfold zk5;split;{exact .inr (uZ ..)};{exact .inl rfl}};{exact .inr (uY _ h)}}
theorem zpv (gr:Bool)(l:List (Int × Nat))(h:l≠[]):ze7 gr l∈l:=by cases l with| nil=>exact absurd rfl h| cons x l =>{rcases ybu gr l x with e|e;{show l.foldl (zk5 gr) x∈_;rw[e];exact uZ ..};{exact uY _ e}}
abbrev DyP:=(Int × Nat) × (Int × Nat)
noncomputable def zxb (F:List PL)(A:List DyP)(k:Nat):DyP :=
 if isNB (xAt F k)=true then (valD (xAt F k),valD (xAt F k))
 else (ze7 true ((za2 F k).1.map λl=>(A.getD l ((0,0),(0,0))).2),ze7 false ((za2 F k).2.map λl=>(A.getD l ((0,0),(0,0))).1))
noncomputable def stL (F:List PL):Nat->List DyP
 | 0=>[]
 | k+1=>stL F k ++ [zxb F (stL F k) k]
noncomputable def sL (F:List PL)(k:Nat):Int × Nat:=(zxb F (stL F k) k).1
noncomputable def sR (F:List PL)(k:Nat):Int × Nat:=(zxb F (stL F k) k).2
theorem zra (F:List PL)(n:Nat):(stL F n).length=n:=by induction n with| zero=>rfl| succ n ih=>unfold stL;rw[yX,ih];rfl
theorem zxc (F:List PL){n j:Nat}(h:j<n):(stL F n).getD j ((0,0),(0,0))=(sL F j,sR F j):=by induction n with| zero=>omega| succ n ih =>{unfold stL;rw[xY];by_cases e:j<n;{rw[yV (by rw[zra];exact e),<-xY];exact ih e};{(have e:j=n:=by omega);subst e;rw[kV (by rw[zra];exact xW _),zra,Nat.sub_self];rfl}}
theorem zxk {F:List PL}{k:Nat}(h:isNB (xAt F k)=true):sL F k=valD (xAt F k)/\sR F k=valD (xAt F k):=by unfold sL sR zxb;rw[if_pos h];exact⟨rfl,rfl⟩
theorem s_no {F:List PL}{k:Nat}(h:isNB (xAt F k)=false)(ho:(∀i∈(za2 F k).1,i<k)/\∀i∈(za2 F k).2,i<k):sL F k=ze7 true ((za2 F k).1.map (sR F))/\sR F k=ze7 false ((za2 F k).2.map (sL F)):=by unfold sL sR zxb;rw[if_neg (by rw[h];decide)];constructor;{show ze7 true _=_;congr 1;refine uX λl hl=>?_;rw[zxc F (ho.1 l hl)];rfl};{show ze7 false _=_;congr 1;refine uX λl hl=>?_;rw[zxc F (ho.2 l hl)];rfl}
def okTo (F:List PL)(n:Nat):Prop:=∀k,k<n->isNB (xAt F k)=true->valB (xAt F k)=true
theorem okTo.next {F:List PL}{n:Nat}(h:okTo F n)(hn:isNB (xAt F n)=true->valB (xAt F n)=true):okTo F (n+1):=λk hk=>by by_cases e:k<n;{exact h k e};{rw[show k=n by omega];exact hn}
theorem zvi {F:List PL}{n:Nat}(ho:OptsOK F)(hn:n<=F.length)(h:okTo F n):∀k,k<n->GoodD (sL F k).1 (sL F k).2/\GoodD (sR F k).1 (sR F k).2:=by have z:GoodD ((0,0):Int × Nat).1 (((0,0):Int × Nat).2:Nat):=⟨⟨by decide,by decide⟩,⟨by decide,by decide⟩,.inl rfl⟩;intro k;induction k using Nat.strongRecOn with| _ k ih =>{intro hk;cases hb:isNB (xAt F k)with| true =>{rw[(zxk hb).1,(zxk hb).2];have:=(zby (h k hk hb)).2;exact⟨this,this⟩}| false =>{obtain⟨o1,o2⟩:=ho k _ (za7 (by omega));rw[(s_no hb ⟨o1,o2⟩).1,(s_no hb ⟨o1,o2⟩).2];have key:∀(gr:Bool) (L:List Nat) (f:Nat->Int × Nat),(∀i∈L,GoodD (f i).1 (f i).2)->GoodD (ze7 gr (L.map f)).1 (ze7 gr (L.map f)).2:=λgr L f hf=>by{by_cases e:L=[];{subst e;exact z};{obtain⟨i,hi,e1⟩:=vX.1 (zpv gr (L.map f) (λq=>e (List.map_eq_nil_iff.1 q)));rw[<-e1];exact hf i hi}};exact⟨key _ _ _ λi hi=>(ih i (o1 i hi) (by have:=o1 i hi;omega)).2,key _ _ _ λi hi=>(ih i (o2 i hi) (by have:=o2 i hi;omega)).1⟩}}
theorem ydg {F:List PL}{C:List Nat}(B:BookC F C)(hC:C=za0 F){k:Nat}(hk:k<F.length)(h:isNB (xAt F k)=false):(za2 F k).1≠[]/\(za2 F k).2≠[]:=by subst hC;have hn:¬IsNum ((za0 F).getD k 0):=λq=>by{obtain⟨P,s,e⟩:=(q.of (ydx _).symm).can (zi0 _).1;have h1:=ztz s P;rw[<-e]at h1;unfold xAt at h;rw[h]at h1;cases h1};obtain⟨oL,oR⟩:=zas B hk;constructor;{obtain⟨_,l,hl,_⟩:=zyb hn 0;obtain⟨i,hi,_⟩:=(oL l).1 hl;intro e;rw[e]at hi;cases hi};{obtain⟨_,l,hl,_⟩:=zya hn 0;obtain⟨i,hi,_⟩:=(oR l).1 hl;intro e;rw[e]at hi;cases hi}
noncomputable def sOf (F:List PL)(left:Bool)(k:Nat):Int × Nat:=if left=true then sL F k else sR F k
def atP (P:Nat)(d:Int × Nat):Int:=d.1*2^(P-d.2)
theorem ycy {P:Nat}(hP:16<=P){d:Int × Nat}(hd:d.2<=16):atP P d=atP 16 d*2^(P-16):=by unfold atP;rw[show P-d.2=(16-d.2)+(P-16)from by omega,Int.pow_add,<-Int.mul_assoc]
theorem yd2 (k:Nat):(0:Int)<2^k:=Int.pow_pos (by decide)
theorem yev {P:Nat}(hP:16<=P){x y:Int × Nat}(hx:x.2<=16)(hy:y.2<=16):atP P x<atP P y↔atP 16 x<atP 16 y:=by rw[ycy hP hx,ycy hP hy];exact Int.mul_lt_mul_right (yd2 _)
def dyL (f:Nat->Int × Nat)(n:Nat):List (Value × Value):=(List.range n).map λj=>(.int .i64 (f j).1,.int .i64 ((f j).2:Int))
theorem zoc (f:Nat->Int × Nat)(n:Nat):(dyL f n).length=n:=by unfold dyL;rw[uV,uW]
theorem zsd (f:Nat->Int × Nat){n j:Nat}(h:j<n):(dyL f n)[j]?=some (.int .i64 (f j).1,.int .i64 ((f j).2:Int)):=by unfold dyL;rw[vW,List.getElem?_range h];rfl
noncomputable def numL (F:List PL)(n:Nat):List Bool:=(List.range n).map λj=>isNB (xAt F j)
theorem zte (F:List PL)(n:Nat):(numL F n).length=n:=by unfold numL;rw[uV,uW]
theorem yb7 (F:List PL){n j:Nat}(h:j<n):(numL F n)[j]?=some (isNB (xAt F j)):=by unfold numL;rw[vW,List.getElem?_range h];rfl
def yea (F:List PL)(ok:Bool)(w:World)(e:Ending)(w':World):Prop:=∃(la:Option Addr) (l1 l2:Nat) (ra:Option Addr) (r1 r2:Nat) (ba:Option Addr) (b1 b2:Nat),e=.returned (.tuple #[.agg #[.slice la l1 l2,.slice ra r1 r2,.slice ba b1 b2],.bool ok]) ∧
 (ok=true->Pairs w' (.slice la l1 l2) (dyL (sL F) F.length)/\Pairs w' (.slice ra r1 r2) (dyL (sR F) F.length)/\SliceOf encB w' (.slice ba b1 b2) (numL F F.length))/\(∀q,(Value.slice la l1 l2).ownBlock=some q->w.heap.size<=q)/\(∀q,(Value.slice ra r1 r2).ownBlock=some q->w.heap.size<=q)/\Fr NoM w w'
def swGe (x y:Int × Nat):Bool:=decide (y.1*2^(24-y.2)<=x.1*2^(24-x.2))
def IsSw (d l r:Nat):Prop:=(∀z,hasL d z↔z=l)/\(∀z,hasR d z↔z=r)/\valB l=true/\valB r=true/\swGe (valD l) (valD r)=true
def SwT (d:Nat)(x y:Int × Nat)(ok:Bool):Prop:=(ok=true/\∃l r,IsSw d l r/\valD l=x/\valD r=y)\/(ok=false/\x=(0,0)/\y=(0,0)/\∀l r,¬IsSw d l r)
theorem IsSw.one {d l r l' r':Nat}(h:IsSw d l r)(h':IsSw d l' r'):l=l'/\r=r':=⟨(h'.1 l).1 ((h.1 l).2 rfl),(h'.2.1 r).1 ((h.2.1 r).2 rfl)⟩
theorem SwT.one {d:Nat}{x y x' y':Int × Nat}{ok ok':Bool}(h:SwT d x y ok)(h':SwT d x' y' ok'):x=x'/\y=y'/\ok=ok':=by rcases h with ⟨e,l,r,hs,e1,e2⟩|⟨e,e1,e2,hn⟩;{rcases h' with ⟨f,l',r',hs',f1,f2⟩|⟨_,_,_,hm⟩;{obtain⟨rfl,rfl⟩:=hs.one hs';exact⟨e1.symm.trans f1,e2.symm.trans f2,e.trans f.symm⟩};{exact absurd hs (hm l r)}};{rcases h' with ⟨_,l',r',hs',_,_⟩|⟨f,f1,f2,_⟩;{exact absurd hs' (hn l' r')};{exact⟨e1.trans f1.symm,e2.trans f2.symm,e.trans f.symm⟩}}
theorem zy8 {a b:Nat}(ha:isNB a=true)(hb:isNB b=true):geC a b=true\/geC b a=true:=by have h1:=(zm7 ha).toNr;have h2:=(zm7 hb).toNr;rw[<-zdc (valT a).1 (valT a).2 (valT b).2]at h1;rw[<-zdc (valT b).1 (valT b).2 (valT a).2,Nat.add_comm]at h2;rcases Int.le_total ((valT b).1*2^(valT a).2) ((valT a).1*2^(valT b).2)with h|h;{have h3:=zhe (P:=(valT a).2+(valT b).2) h;rw[<-h1,<-h2]at h3;exact .inl h3};{have h3:=zhe (P:=(valT a).2+(valT b).2) h;rw[<-h1,<-h2]at h3;exact .inr h3}
theorem ycp {a:Nat}(ha:valB a=true):a=nr ((valD a).1*2^(24-(valD a).2)) 24:=by(obtain⟨h1,h2⟩:=zby ha;have h3:=h1.toNr;have hp:(valD a).2<=16:=by have:=h2.2.1.2;omega);rw[<-zdc (valD a).1 (valD a).2 (24-(valD a).2),show(valD a).2+(24-(valD a).2)=24 by omega]at h3;exact h3
theorem yee {a b:Nat}(ha:valB a=true)(hb:valB b=true)(h:swGe (valD a) (valD b)=true):geC a b=true:=by rw[ycp ha,ycp hb];exact zhe (of_decide_eq_true h)
theorem zx1 {a:Nat}(ha:valB a=true):CanC a:=by have h:=(zby ha).1;rw[h.toNr];exact ycv _ _
theorem zxa {x y:Nat}(hx:valB x=true)(hy:valB y=true)(h:swGe (valD x) (valD y)=true):CanC (mkC [x] [y]):=by have hg:=yee hx hy h;have hL:∀z,hasL (mkC [x] [y]) z↔z=x:=λz=>(zag _ _ _).trans x4;have hR:∀z,hasR (mkC [x] [y]) z↔z=y:=λz=>(zaf _ _ _).trans x4;refine CanC.mk ⟨λl l' hl hl' _=>((hL _).1 hl').trans ((hL _).1 hl).symm,λr r' hr hr' _=>((hR _).1 hr').trans ((hR _).1 hr).symm,λl r hl hr=>?_,λr l hr hl=>?_⟩ (λz hz=>?_);{rw[(hL _).1 hl]at hr;cases hc:geC (mkC [x] [y]) r with| false=>rfl| true =>{have h1:=zeg hc ((hR y).2 rfl);have hn:=zt9 (zcc hx) hr;have h2:=zbe hr;rcases zy8 (zcc hx) hn with h3|h3;{rw[h2]at h3;cases h3};{have h4:=zae h3 hg;rw[h1]at h4;cases h4}}};{rw[(hR _).1 hr]at hl;cases hc:geC l (mkC [x] [y])with| false=>rfl| true =>{have h1:=zfz hc ((hL x).2 rfl);have hn:=zta (zcc hy) hl;have h2:=zbz hl;rcases zy8 hn (zcc hy)with h3|h3;{rw[h2]at h3;cases h3};{have h4:=zae hg h3;rw[h1]at h4;cases h4}}};{rcases hz with hz|hz;{rw[(hL _).1 hz];exact zx1 hx};{rw[(hR _).1 hz];exact zx1 hy}}
theorem yf0 {x y:Nat}(hx:valB x=true)(hy:valB y=true)(h:swGe (valD x) (valD y)=true):IsSw (mkC [x] [y]) x y :=
 ⟨λz=>(zag _ _ _).trans x4,λz=>(zaf _ _ _).trans x4,hx,hy,h⟩
theorem yd4 {x y:Nat}(hx:valB x=true)(hy:valB y=true)(h:swGe (valD x) (valD y)=true):canC (mkC [x] [y])=mkC [x] [y]:=(zsi (zxa hx hy h) (zbv _) (zbv _)).symm
theorem zvx {c z:Nat}(hc:valB c=true)(h:SubC c z):valB z=true:=by induction h with| root=>exact hc| step _ ho ih =>{rename_i a b _;have hn:=zcc ih;rcases ho with ho|ho;{by_cases hr:∃r,hasR a r;{obtain⟨r,hr⟩:=hr;refine eq_true_of_ne_false λe=>?_;rw[(zf6 hn ho hr).1 (.inl e)]at ih;cases ih};{refine eq_true_of_ne_false λe=>?_;rw[(znk hn ho (λr q=>hr ⟨r,q⟩)).1 e]at ih;cases ih}};{by_cases hl:∃l,hasL a l;{obtain⟨l,hl⟩:=hl;refine eq_true_of_ne_false λe=>?_;rw[(zf6 hn hl ho).1 (.inr e)]at ih;cases ih};{refine eq_true_of_ne_false λe=>?_;rw[(zni hn ho (λr q=>hl ⟨r,q⟩)).1 e]at ih;cases ih}}}
theorem ycq {x y:Nat}(hx:valB x=true)(hy:valB y=true)(h:swGe (valD x) (valD y)=true):isNB (mkC [x] [y])=false:=by cases hc:isNB (mkC [x] [y])with| false=>rfl| true =>{have:=zpc hc (((zag [x] [y] x).trans x4).2 rfl) (((zaf [x] [y] y).trans x4).2 rfl);rw[yee hx hy h]at this;cases this}
theorem zib {C L:List Nat}{x:Nat}(hC:C.Nodup)(uL:L.Pairwise (· < ·))(lL:∀y∈L,y<C.length)(h:∀z,(∃i∈L,C.getD i 0=z)↔z=x):∃i,L=[i]/\C.getD i 0=x:=by obtain⟨i,hi,e⟩:=(h x).2 rfl;refine⟨i,?_,e⟩;have hall:∀j∈L,j=i:=λj hj=>by{have e':=(h _).1 ⟨j,hj,rfl⟩;exact zc8 hC (lL j hj) (lL i hi) (e'.trans e.symm)};match L,hi,hall,uL with| [a],hi,_,_=>rw[x4.1 hi]| a::b::L,_,hall,uL =>{have h1:=hall a (by simp);have h2:=hall b (by simp);have:=(List.pairwise_cons.1 uL).1 b (by simp);omega}
theorem yaf {x y:Nat}(hx:valB x=true)(hy:valB y=true)(h:swGe (valD x) (valD y)=true){F:List PL}(B:BookC F (za0 F))(hp:0<F.length)(hc:(za0 F).getD (F.length-1) 0=mkC [x] [y])(hs:∀k,k<F.length->SubC (mkC [x] [y]) ((za0 F).getD k 0)) : okTo F F.length/\sL F (F.length-1)=valD x/\sR F (F.length-1)=valD y:=by have hsub:∀k,k<F.length->xAt F k=(za0 F).getD k 0:=λk hk=>by{have hcan:CanC ((za0 F).getD k 0):=λz hz=>zxa hx hy h z ((hs k hk).trans hz);exact(zsi hcan (zbv _) (zbv _)).symm};(have hk:F.length-1<F.length:=by omega);(obtain⟨oL,oR⟩:=zas B hk;obtain⟨u1,u2⟩:=B.up _ _ (za7 hk);obtain⟨o1,o2⟩:=B.opts _ _ (za7 hk);rw[hc]at oL oR;have hl:=za6 F;obtain⟨i,ei,ci⟩:=zib B.nodup u1 (λz hz=>by have:=o1 z hz;omega) (λz=>(oL z).symm.trans ((zag [x] [y] z).trans x4));obtain⟨j,ej,cj⟩:=zib B.nodup u2 (λz hz=>by have:=o2 z hz;omega) (λz=>(oR z).symm.trans ((zaf [x] [y] z).trans x4));have hno:isNB (xAt F (F.length-1))=false:=by rw[hsub _ hk,hc];exact ycq hx hy h);have hi:i<F.length-1:=o1 i (by rw[ei];simp);have hj:j<F.length-1:=o2 j (by rw[ej];simp);obtain⟨e1,e2⟩:=s_no hno ⟨o1,o2⟩;rw[ei]at e1;rw[ej]at e2;refine⟨λk hk' hn=>?_,?_,?_⟩;{rw[hsub k hk']at hn ⊢;rcases yah (hs k hk')with e|⟨z,hz,hz'⟩;{rw[e,ycq hx hy h]at hn;cases hn};{rcases hz with hz|hz;{rw[x4.1 ((zag [x] [y] z).1 hz)]at hz';exact zvx hx hz'};{rw[x4.1 ((zaf [x] [y] z).1 hz)]at hz';exact zvx hy hz'}}};{rw[e1];show ze7 true [sR F i]=_;rw[zpu,(zxk (by rw[hsub i (by omega),ci];exact zcc hx)).2,hsub i (by omega),ci]};{rw[e2];show ze7 false [sL F j]=_;rw[zpu,(zxk (by rw[hsub j (by omega),cj];exact zcc hy)).1,hsub j (by omega),cj]}
theorem zgx (a b:Int)(p q:Nat)(w:World)(hga:GoodD a p)(hgb:GoodD b q)(res:Bool)(hres:res=ye0 (a,p) (b,q)) :
  Calls Tryz.prog 61 #[.agg #[.int .i64 a,.int .i64 (p:Int)],.agg #[.int .i64 b,.int .i64 (q:Int)]] w λe w'=>e=.returned (.bool res)/\Fr NoM w w':=by
 obtain⟨w1,hw1⟩:=eX ((w.alloc (.cells #[.int .i64 a,.int .i64 (p:Int)] 29)).alloc (.cells #[.int .i64 b,.int .i64 (q:Int)] 29));have f1:Fr NoM w w1:=by rw[hw1];exact((nW w).alloc _).alloc _
 have e0:w1.heap[w.heap.size]?=some (.cells #[.int .i64 a,.int .i64 (p:Int)] 29 (0,0)):=by rw[hw1];exact((nW _).alloc _).heap (xJ w _) id
 have e1:w1.heap[w.heap.size+1]?=some (.cells #[.int .i64 b,.int .i64 (q:Int)] 29 (0,0)):=by
  have h:=xJ (w.alloc (.cells #[.int .i64 a,.int .i64 (p:Int)] 29)) (.cells #[.int .i64 b,.int .i64 (q:Int)] 29);rw[xZ]at h;rw[hw1];exact h
 obtain⟨s1,hs1⟩:=eX (a*2^(16-p));obtain⟨s2,hs2⟩:=eX (b*2^(16-q));have hd:res=decide (s1<s2):=by rw[hres,hs1,hs2];rfl
 have hp:p<=16:=by have:=hga.2.1;omega
 have hq:q<=16:=by have:=hgb.2.1;omega
 have H1:=Hh (λ(W:World)=>show Calls Tryz.prog 54 #[.agg #[.int .i64 a,.int .i64 (p:Int)]] W λe w'=>e=.returned (.int .i64 s1)/\Fr NoM W w' from by rw[hs1];exact zc3 a p W hp hga.1);have H2:=Hh (λ(W:World)=>show Calls Tryz.prog 54 #[.agg #[.int .i64 b,.int .i64 (q:Int)]] W λe w'=>e=.returned (.int .i64 s2)/\Fr NoM W w' from by rw[hs2];exact zc3 b q W hq hgb.1);have HK:=Hh (λW (f:Fr NoM w1 W)=>show W.cell? ⟨w.heap.size,0,none⟩=some (.int .i64 a)/\W.cell? ⟨w.heap.size,1,none⟩=some (.int .i64 (p:Int))/\W.cell? ⟨w.heap.size+1,0,none⟩=some (.int .i64 b)/\W.cell? ⟨w.heap.size+1,1,none⟩=some (.int .i64 (q:Int))from by
  have h0:=f.heap e0 id;have h1:=f.heap e1 id;exact⟨by rw[xX W _ 0 _ _ _ h0];rfl,by rw[xX W _ 1 _ _ _ h0];rfl,by rw[xX W _ 0 _ _ _ h1];rfl,by rw[xX W _ 1 _ _ _ h1];rfl⟩)
 have F1:=Hh f1;have HD:=Hh hd;clear f1 e0 e1 hs1 hs2 hres hd hp hq hga hgb;obtain⟨k0,k1,k2,k3⟩:=HK.out w1 (Fr.refl _ _);go_enter Tryz.func61,Tryz.ntmps61;go_upto_region 1 with fail;rw[<-hw1];clear hw1;have K0:Fr NoM w1 w1.drew:=(nW w1).drew;go_region_law (first
  | (go_simp;first
   | (go_at_call 54;(with_reducible refine(H1.out _).mono ?_);rintro e wc ⟨rfl,fc⟩;have kc:Fr NoM w1 wc:=Fr.trans (by assumption) fc (λ_ _ q=>q);obtain⟨i0,i1,i2,i3⟩:=HK.out wc kc)
   | (go_at_call 54;(with_reducible refine(H2.out _).mono ?_);rintro e wd ⟨rfl,fd⟩;have kd:Fr NoM w1 wd:=Fr.trans (by assumption) fd (λ_ _ q=>q);obtain⟨j0,j1,j2,j3⟩:=HK.out wd kd)
   | fail)
  | fail)
 all_goals
  have KD:=Hh kd;go_wp2;go_ret;exact⟨by rw[HD.out];rfl,F1.out.trans KD.out (λ_ _ q=>q)⟩
theorem zvg (g n c k:Nat)(hk:k<n)(w:World):(Instr.indexAt 123 (.slice (some ⟨g,0,none⟩) n c) (.int .i64 (k:Int))).run Tryz.prog w=.ok (.pointer (some ⟨g,k*2,none⟩)) w:=by go_simp
theorem yep (n:Nat)(W:World)(hn:n<1000000000):(Instr.makeSlice 123 (.int .i64 (n:Int)) (.int .i64 (n:Int))).run Tryz.prog W=.ok (.slice (some ⟨W.heap.size,0,none⟩) n n) (W.alloc (.cells (zca encI 0 (2*n)) 29)):=by obtain⟨i0,hi,hz0,hz1,hz2⟩:=info_parts ycs;have h:=run_make (P:=Tryz.prog) W 123 29 i0 _ Tryz.underlying123 hi hz0 .i64 .i64 n n (by omega) (by omega) (by rw[hz2];omega) (by omega);rw[h,hz1,Int.toNat_natCast];have:madeCells (Value.cells (.agg #[.int .i64 0,.int .i64 0])) (n*2)=zca encI 0 (2*n):=by{apply Array.ext';(unfold zca;rw[List.toList_toArray,madeCells,Array.toList_map,Array.toList_range];refine(List.eq_replicate_iff.2 ⟨by simp[Nat.mul_comm],λb hb=>?_⟩:_=List.replicate (2*n) (Value.int .i64 0)).trans (by simp[encI]);obtain⟨y,_,rfl⟩:=vX.1 hb;have h2:y%2=0\/y%2=1:=by omega);rcases h2 with e|e <;> simp[Value.cells,e]};rw[this]
theorem ybc (n:Nat)(hn:n<1000000000)(W:World):(Instr.makeSlice 103 (.int .i64 (n:Int)) (.int .i64 (n:Int))).run Tryz.prog W=.ok (.slice (some ⟨W.heap.size,0,none⟩) n n) (W.alloc (.cells (zca encB false n) 4)):=by obtain⟨i0,hi,hz0,hz1,hz2⟩:=info_parts zke;have h:=run_make (P:=Tryz.prog) W 103 4 i0 (.bool false) Tryz.underlying103 hi hz0 .i64 .i64 (n:Int) (n:Int) (by omega) (by omega) (by rw[hz2];omega) (by omega);rw[h,hz1,show((n:Int)).toNat=n from by omega,Nat.mul_one];have:madeCells (Value.cells (.bool false)) n=(zca encB false n):=by{apply Array.ext';unfold zca;rw[List.toList_toArray,madeCells,Array.toList_map,Array.toList_range];refine(List.eq_replicate_iff.2 ⟨by simp,λb hb=>?_⟩:_=List.replicate n (Value.bool false)).trans (by simp[encB]);obtain⟨i,_,rfl⟩:=vX.1 hb;show(Value.cells (.bool false))[i%(Value.cells (.bool false)).size]! = .bool false;rw[show(Value.cells (.bool false)).size=1 from rfl,Nat.mod_one];rfl};rw[this]
def RowE (W:World)(g n k:Nat)(f:Nat->Int × Nat)(o:Option (Int × Nat)):Prop :=
 ∃A:List Int,RowIs 29 encI W g A/\A.length=2*n/\(∀j,j<k->A[j*2]?=some (f j).1/\A[j*2+1]?=some ((f j).2:Int))/\∀x,o=some x->A[k*2]?=some x.1/\A[k*2+1]?=some (x.2:Int)
section
variable {W W':World}{g n k:Nat}{f:Nat->Int × Nat}{o:Option (Int × Nat)}{M:Nat->Prop}
theorem RowE.fr (h:RowE W g n k f o)(hf:Fr M W W')(hm:¬M g):RowE W' g n k f o:=by obtain⟨A,a,b⟩:=h;exact⟨A,a.fr hf hm,b⟩
theorem RowE.frozen (h:RowE W g n k f o)(i:Nat):W.frozen? ⟨g,i,none⟩=false:=by obtain⟨A,a,_⟩:=h;exact a.frozen i
theorem zk8 {e:TypeId}{A:List Int}(h:RowIs e encI W g A){i:Nat}{x:Int}(hx:A[i]?=some x):W.cell? ⟨g,i,none⟩=some (.int .i64 x):=by obtain⟨hi,e1⟩:=xV.1 hx;rw[h.cell i hi,e1];rfl
theorem RowE.cell (h:RowE W g n k f o){j:Nat}(hj:j<k):W.cell? ⟨g,j*2,none⟩=some (.int .i64 (f j).1)/\W.cell? ⟨g,j*2+1,none⟩=some (.int .i64 ((f j).2:Int)):=by obtain⟨A,a,_,c,_⟩:=h;exact⟨zk8 a (c j hj).1,zk8 a (c j hj).2⟩
theorem RowE.cur {x:Int × Nat}(h:RowE W g n k f (some x)):W.cell? ⟨g,k*2,none⟩=some (.int .i64 x.1)/\W.cell? ⟨g,k*2+1,none⟩=some (.int .i64 (x.2:Int)):=by obtain⟨A,a,_,_,c⟩:=h;exact⟨zk8 a (c x rfl).1,zk8 a (c x rfl).2⟩
theorem RowE.has (h:RowE W g n k f o){i:Nat}(hi:i<2*n):∃v,W.cell? ⟨g,i,none⟩=some v:=by obtain⟨A,a,b,_⟩:=h;exact⟨_,a.cell i (by omega)⟩
theorem RowE.set (h:RowE W g n k f o)(hk:k<n)(x:Int × Nat):RowE ((W.setCell ⟨g,k*2,none⟩ (.int .i64 x.1)).setCell ⟨g,k*2+1,none⟩ (.int .i64 (x.2:Int))) g n k f (some x):=by obtain⟨A,a,b,c,_⟩:=h;refine⟨(A.set (k*2) x.1).set (k*2+1) (x.2:Int),(a.set (k*2) x.1).set (k*2+1) (x.2:Int),by simp[b],λj hj=>?_,λy hy=>?_⟩;{obtain⟨c1,c2⟩:=c j hj;rw[List.getElem?_set_ne (by omega),List.getElem?_set_ne (by omega),List.getElem?_set_ne (by omega),List.getElem?_set_ne (by omega)];exact⟨c1,c2⟩};{cases hy;rw[List.getElem?_set_ne (by omega),List.getElem?_set_self (by omega),List.getElem?_set_self (by rw[List.length_set];omega)];exact⟨rfl,rfl⟩}
theorem RowE.next (h:RowE W g n k f (some (f k))):RowE W g n (k+1) f none:=by obtain⟨A,a,b,c,d⟩:=h;refine⟨A,a,b,λj hj=>?_,λx e=>by cases e⟩;by_cases e:j<k;{exact c j e};{rw[show j=k by omega];exact d _ rfl}
theorem RowE.of0 (h:W.heap[g]?=some (.cells (zca encI 0 (2*n)) 29 (0,0))):RowE W g n 0 f none :=
 ⟨List.replicate (2*n) 0,h,by simp,λj hj=>absurd hj (Nat.not_lt_zero _),λx e=>by cases e⟩
theorem RowE.pairs (h:RowE W g n n f o)(hn:n<=1000000):Pairs W (.slice (some ⟨g,0,none⟩) n n) (dyL f n):=by(refine⟨some ⟨g,0,none⟩,n,by rw[zoc],by rw[zoc];exact xW _,by omega,λj x hx=>?_⟩;have hj:j<n:=by have:=(xV.1 hx).1;rw[zoc]at this;exact this);rw[zsd f hj]at hx;cases hx;exact⟨g,0,rfl,by rw[Nat.zero_add];exact(h.cell hj).1,by rw[Nat.zero_add];exact(h.cell hj).2⟩
end
def zct (gr:Bool)(f:Nat->Int × Nat)(L:List Nat)(j:Nat):Option (Int × Nat):=if j=0 then none else some (ze7 gr ((L.take j).map f))
theorem zp7 {gr:Bool}{f:Nat->Int × Nat}{L:List Nat}{x:Nat}(h:L[0]?=some x):zct gr f L 1=some (f x):=by unfold zct;rw[if_neg (by decide),znd gr f L 0 x h,if_pos rfl]
theorem zn6 {gr:Bool}{f:Nat->Int × Nat}{L:List Nat}{j x:Nat}(h:L[j]?=some x)(hj:j≠0):zct gr f L (j+1)=some (zk5 gr (ze7 gr ((L.take j).map f)) (f x)):=by unfold zct;rw[if_neg (by omega),znd gr f L j x h,if_neg hj]
theorem zp8 {gr:Bool}{f:Nat->Int × Nat}{L:List Nat}(h:L≠[]):zct gr f L L.length=some (ze7 gr (L.map f)):=by unfold zct;rw[if_neg (λe=>h (List.length_eq_zero_iff.1 e)),vQ]
theorem zne {gr:Bool}{f:Nat->Int × Nat}{L:List Nat}(h:L≠[])(hg:∀i∈L,GoodD (f i).1 (f i).2):GoodD (ze7 gr (L.map f)).1 (ze7 gr (L.map f)).2:=by obtain⟨i,hi,e⟩:=vX.1 (zpv gr (L.map f) (λq=>h (List.map_eq_nil_iff.1 q)));rw[<-e];exact hg i hi
def RowN (W:World)(g n k:Nat)(F:List PL):Prop :=
 ∃A:List Bool,RowIs 4 encB W g A/\A.length=n/\(∀j,j<k->A[j]?=some (isNB (xAt F j)))/\∀j,k<=j->j<n->A[j]?=some false
section
variable {W W':World}{g n k:Nat}{F:List PL}{M:Nat->Prop}
theorem RowN.fr (h:RowN W g n k F)(hf:Fr M W W')(hm:¬M g):RowN W' g n k F:=by obtain⟨A,a,b⟩:=h;exact⟨A,a.fr hf hm,b⟩
theorem RowN.frozen (h:RowN W g n k F)(i:Nat):W.frozen? ⟨g,i,none⟩=false:=by obtain⟨A,a,_⟩:=h;exact a.frozen i
theorem RowN.has (h:RowN W g n k F){i:Nat}(hi:i<n):∃v,W.cell? ⟨g,i,none⟩=some v:=by obtain⟨A,a,b,_⟩:=h;exact⟨_,a.cell i (by omega)⟩
theorem RowN.skip (h:RowN W g n k F)(hk:k<n)(hn:isNB (xAt F k)=false):RowN W g n (k+1) F:=by obtain⟨A,a,b,c,d⟩:=h;refine⟨A,a,b,λj hj=>?_,λj hj=>d j (by omega)⟩;by_cases e:j<k;{exact c j e};{rw[show j=k by omega,hn];exact d k (xW _) hk}
theorem RowN.set (h:RowN W g n k F)(hk:k<n)(hn:isNB (xAt F k)=true):RowN (W.setCell ⟨g,k,none⟩ (.bool true)) g n (k+1) F:=by obtain⟨A,a,b,c,d⟩:=h;refine⟨A.set k true,a.set k true,by simp[b],λj hj=>?_,λj hj hjn=>?_⟩;{by_cases e:j<k;{rw[List.getElem?_set_ne (by omega)];exact c j e};{rw[show j=k by omega,List.getElem?_set_self (by omega),hn]}};{rw[List.getElem?_set_ne (by omega)];exact d j (by omega) hjn}
theorem RowN.of0 (h:W.heap[g]?=some (.cells (zca encB false n) 4 (0,0))):RowN W g n 0 F :=
 ⟨List.replicate n false,h,by simp,λj hj=>absurd hj (Nat.not_lt_zero _),λj _ hj=>by rw[List.getElem?_replicate_of_lt hj]⟩
theorem RowN.bools (h:RowN W g n n F)(hn:n<=1000000):SliceOf encB W (.slice (some ⟨g,0,none⟩) n n) (numL F n):=by obtain⟨A,a,b,c,_⟩:=h;have e:A=numL F n:=by{refine List.ext_getElem? λj=>?_;by_cases hj:j<n;{rw[c j hj,yb7 F hj]};{rw[List.getElem?_eq_none (by omega),List.getElem?_eq_none (by rw[zte];omega)]}};subst e;have h1:=a.slice (by omega);rw[zte]at h1;exact h1
end
