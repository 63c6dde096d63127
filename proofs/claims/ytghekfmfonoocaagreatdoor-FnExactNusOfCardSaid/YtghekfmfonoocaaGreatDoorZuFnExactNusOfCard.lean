import Derived.Lib.LaidTab
import Derived.Lib.LaidIn
import Derived.Test.YtghekfmfonoocaaGreatDoorZu17
import Derived.Test.YtghekfmfonoocaaGreatDoorZuFnExactNusOfFacts
/- What the claim of FnExactNusOfCard needs. -/
set_option linter.all false
namespace Go.Proofs.YtghekfmfonoocaaGreatDoor.fnExactNusOf
open Go.ChangeShapes Go.WideShapes Go.ChangeAt Go.RowKit
open Go.ChangeMaps (open_string shut_string)
theorem laidOutT:laidOutB Tryz.prog=true:=by kernel_rfl
set_option maxRecDepth 100000 in
theorem contract (H:Type)(enc:TypeId × Value->H)(W:World)(base:Nat)(args:Array Value)(ds gs:List (DataW H))(before:List MemPlace)
  (hval:∀(j:Nat) t v,Tryz.f4.params[j]?=some t->args[j]?=some v->Value.okWide Tryz.prog W .any base t v)
  (hW:DataW.Whole enc Tryz.prog Tryz.f4.params.toList Rows.fnExactNusOfSpec.vars false W args.toList ds gs before) :
  Calls Tryz.prog 4 args W λe W'=>∃v,e=.returned v/\Rows.fnExactNusOfSpec.post enc Tryz.prog Tryz.f4 false true false false W args v W':=by
 have hW':=hW;obtain⟨p,q,hA0,hV0,rfl,_,_⟩:=hW;have hA:DataW.TrodAll enc Tryz.prog W 0 (λ_=>true) true Tryz.f4.params.toList args.toList ds p:=hA0;rw[Tryz.params4]at hA hval;obtain⟨v0,d0,rfl,rfl,h0⟩:=trodAll_one hA;obtain⟨rfl,rfl⟩:=trodVars_none hV0;obtain⟨nv,Fi,rfl,hN⟩:=openForm (hval 0 36 v0 rfl rfl) h0;have hlt0:∀x∈p,x.block<W.heap.size:=λx hx=>by simpa using hW'.lt x (by simp[hx])
 clear hA0 hV0;refine(nusLaw_any nv Fi W hN).mono ?_
 rintro e W' ⟨rfl,hf⟩;refine⟨_,rfl,_,_,_,[],p,[],hW',?_,?_,?_,hf.toBelow.frame _,λh=>by cases h⟩
 ·exact trodAll_mk1 (shut_bool Tryz.underlying4 _)
 ·exact trodAll_mk1 (Below.trod laidOutT (by kernel_rfl) (of_decide_eq_true (by kernel_rfl)) h0 hf.toBelow hlt0)
 ·rfl
def bruijn (d n k:Nat):List Value:=(List.range n).map λj=>Value.int .u8 ((((List.range n).find? λi=>d*2^i%2^n/2^(n-k) == j).getD 0:Nat):Int)
noncomputable def laidWorld (os:Os):World :=
 let w0:=World.holding Tryz.prog os ⟨#[],#[],[]⟩
 let put (h:Array Obj) (g:Nat) (cs:Array Value):Array Obj:=h.modify g fun
  | .cells _ t frozen=>.cells cs t frozen
  | o=>o
 let h0:=put w0.heap 0 ((List.range 20).map λi=>Value.int .u64 ((10:Int)^i)).toArray
 let h1:=put h0 1 (Array.mk (bruijn 125613361 32 5))
 let h2:=put h1 2 (Array.mk (bruijn 285870213051353865 64 6))
 { w0 with heap:=h2 }
theorem laid_met (os:Os):laidMet Tryz.prog Rows.fnExactNusOfRow.laid ((laidWorld os).forCall (λ_ _=>0) ⟨#[],#[.agg #[.slice none 0 0]],[]⟩).memory :=
 laidMet_of_run' 8 (by kernel_rfl) (by kernel_rfl)
theorem reads (os:Os){H:Type}(enc:TypeId × Value->H):∃places,DataW.whole enc Tryz.prog ((laidWorld os).forCall (λ_ _=>0) ⟨#[],#[.agg #[.slice none 0 0]],[]⟩).memory Tryz.f4.params.toList Rows.fnExactNusOfSpec.vars false #[Value.agg #[.slice none 0 0]].toList 8=some ([.agg [.nil]],[],places) :=
 ⟨[],by kernel_rfl⟩
set_option maxRecDepth 100000 in
theorem lifted (os:Os)(started:os.Started)(H:Type)(enc:TypeId × Value->H)(F:Stop.Interp) :
  ReturnsInHanded {} Tryz.checked os 4 .any ((OpenSpec.ofChange Rows.fnExactNusOfSpec).preRow enc Tryz.prog Tryz.f4 Rows.fnExactNusOfRow.domain false Rows.fnExactNusOfRow.laid) (((OpenSpec.ofChange Rows.fnExactNusOfSpec).at F).post enc Tryz.prog Tryz.f4 false true false false):=by
 obtain⟨places,hx⟩:=reads os enc;refine returnsInHanded_of_row (C:=Tryz.checked) (s:=OpenSpec.ofChange Rows.fnExactNusOfSpec) own started (by kernel_rfl) Tryz.func4
  (witness_row_at (enc:=enc) (C:=Tryz.checked) false (laidWorld os) #[.agg #[.slice none 0 0]] rfl (by kernel_rfl) (by kernel_rfl) (by kernel_rfl)
   (OpenSpec.preRow_of_cond 8 hx (by kernel_rfl) (λk hk=>by cases hk) (by kernel_rfl) (laid_met os))) ?_
 intro W base args ds gs before hval hW _ _ _ _ _ _;exact contract H enc W base args ds gs before hval hW
theorem said:Rows.FnExactNusOfSaid :=
 OpenClaim.holds_of_cond 4 Tryz.f4 rfl rfl rfl rfl rfl rfl rfl ⟨rfl,rfl,rfl,rfl,rfl⟩ rfl rfl rfl rfl rfl named Tryz.func4 closed
  (of_decide_eq_true (by kernel_rfl)) (by unfold Func.isWrapper;first|(rw[if_pos (by decide +kernel)];kernel_rfl)|(rw[if_neg (by decide +kernel)];exact⟨rfl,rfl⟩))
  (λos started H enc _ F=>by rw[OpenClaim.pre_eq_preRow];exact lifted os started H enc F)
theorem plain (f:FuncId)(fn:Func)(hf:Tryz.pinned.checked.prog.funcNamed "loop.example/g00868/laws.FnExactNusOf"=some f)(hfn:Tryz.pinned.checked.prog.funcs[f]?=some fn) :
  false=Tryz.pinned.checked.prog.looks []/\∀(j:Nat) t,fn.params[j]?=some t->Tryz.pinned.checked.prog.wantsStandIn t=false:=by
 obtain rfl:f=4:=yY (named.symm.trans hf) |>.symm
 obtain rfl:fn=Tryz.f4:=(yY (Tryz.func4.symm.trans hfn)).symm;refine⟨looksNo,λj t ht=>?_⟩;rw[Tryz.params4]at ht;obtain rfl:t=36:=by simpa using Array.mem_of_getElem? ht
 exact noStand
theorem card:Rows.FnExactNusOfCardSaid :=
 Claim7.holds_tied_plain_at .later [] _ _ _ _ said (λ_ h=>by cases h) wfText (λ_ h=>by cases h) fnExactNusOf_row_tie rfl ⟨rfl,rfl⟩ mainIs rfl plain goesNo
end Go.Proofs.YtghekfmfonoocaaGreatDoor.fnExactNusOf
