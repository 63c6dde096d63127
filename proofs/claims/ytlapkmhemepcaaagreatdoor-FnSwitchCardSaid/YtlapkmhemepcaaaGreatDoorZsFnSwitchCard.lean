import Derived.Lib.LaidTab
import Derived.Lib.LaidIn
import Derived.Test.YtlapkmhemepcaaaGreatDoorZs16
import Derived.Test.YtlapkmhemepcaaaGreatDoorZsFnSwitchFacts
/- What the claim of FnSwitchCard needs. -/
set_option linter.all false
namespace Go.Proofs.YtlapkmhemepcaaaGreatDoor.fnSwitch
open Go.ChangeShapes Go.WideShapes Go.ChangeAt Go.RowKit
open Go.ChangeMaps (open_string shut_string)
theorem laidOutT:laidOutB Tryz.prog=true:=by kernel_rfl
set_option maxRecDepth 100000 in
theorem contract (H:Type)(enc:TypeId × Value->H)(W:World)(base:Nat)(args:Array Value)(ds gs:List (DataW H))(before:List MemPlace)
  (hval:∀(j:Nat) t v,Tryz.f8.params[j]?=some t->args[j]?=some v->Value.okWide Tryz.prog W .any base t v)
  (hW:DataW.Whole enc Tryz.prog Tryz.f8.params.toList Rows.fnSwitchSpec.vars false W args.toList ds gs before) :
  Calls Tryz.prog 8 args W λe W'=>∃v,e=.returned v/\Rows.fnSwitchSpec.post enc Tryz.prog Tryz.f8 false true false false W args v W':=by
 have hW':=hW;obtain⟨p,q,hA0,hV0,rfl,_,_⟩:=hW;have hA:DataW.TrodAll enc Tryz.prog W 0 (λ_=>true) true Tryz.f8.params.toList args.toList ds p:=hA0;rw[Tryz.params8]at hA hval;obtain⟨v0,d0,rfl,rfl,h0⟩:=trodAll_one hA;obtain⟨rfl,rfl⟩:=trodVars_none hV0;obtain⟨L,hL⟩:=openBytes (hval 0 22 v0 rfl rfl) h0;have hlt0:∀x∈p,x.block<W.heap.size:=λx hx=>by simpa using hW'.lt x (by simp[hx])
 refine(fnSwitch_any v0 L W hL).mono ?_
 rintro e W' ⟨rfl,hf⟩;refine⟨_,rfl,_,_,_,[],p,[],hW',?_,?_,?_,hf.toBelow.frame _,λh=>by cases h⟩
 ·exact trodAll_mk1 (shut_bool Tryz.underlying4 _)
 ·exact trodAll_mk1 (Below.trod laidOutT (by kernel_rfl) (of_decide_eq_true (by kernel_rfl)) h0 hf.toBelow hlt0)
 ·rfl
def bruijn (d n k:Nat):List Value:=(List.range n).map λj=>Value.int .u8 ((((List.range n).find? λi=>d*2^i%2^n/2^(n-k) == j).getD 0:Nat):Int)
noncomputable def laidWorld (os:Os):World :=
 let w0:=World.holding Tryz.prog os ⟨#[],#[],[]⟩
 let put (h:Array Obj) (g:Nat) (cs:Array Value):Array Obj:=h.modify g fun
  | .cells _ t frozen=>.cells cs t frozen
  | o=>o
 let h0:=put w0.heap 0 ((List.range 20).map λi=>Value.int .u64 ((10:Int)^i)).toArray
 let h1:=put h0 1 (Array.mk (bruijn 125613361 32 5))
 let h2:=put h1 2 (Array.mk (bruijn 285870213051353865 64 6))
 { w0 with heap:=h2 }
theorem laid_met (os:Os):laidMet Tryz.prog Rows.fnSwitchRow.laid ((laidWorld os).forCall (λ_ _=>0) ⟨#[],#[.slice none 0 0],[]⟩).memory :=
 laidMet_of_run' 8 (by kernel_rfl) (by kernel_rfl)
theorem reads (os:Os){H:Type}(enc:TypeId × Value->H):∃places,DataW.whole enc Tryz.prog ((laidWorld os).forCall (λ_ _=>0) ⟨#[],#[.slice none 0 0],[]⟩).memory Tryz.f8.params.toList Rows.fnSwitchSpec.vars false #[Value.slice none 0 0].toList 8=some ([.nil],[],places) :=
 ⟨[],by kernel_rfl⟩
set_option maxRecDepth 100000 in
theorem lifted (os:Os)(started:os.Started)(H:Type)(enc:TypeId × Value->H)(F:Stop.Interp) :
  ReturnsInHanded {} Tryz.checked os 8 .any ((OpenSpec.ofChange Rows.fnSwitchSpec).preRow enc Tryz.prog Tryz.f8 Rows.fnSwitchRow.domain false Rows.fnSwitchRow.laid) (((OpenSpec.ofChange Rows.fnSwitchSpec).at F).post enc Tryz.prog Tryz.f8 false true false false):=by
 obtain⟨places,hx⟩:=reads os enc;refine returnsInHanded_of_row (C:=Tryz.checked) (s:=OpenSpec.ofChange Rows.fnSwitchSpec) own started (by kernel_rfl) Tryz.func8
  (witness_row_at (enc:=enc) (C:=Tryz.checked) false (laidWorld os) #[.slice none 0 0] rfl (by kernel_rfl) (by kernel_rfl) (by kernel_rfl)
   (OpenSpec.preRow_of_cond 8 hx (by kernel_rfl) (λk hk=>by cases hk) (by kernel_rfl) (laid_met os))) ?_
 intro W base args ds gs before hval hW _ _ _ _ _ _;exact contract H enc W base args ds gs before hval hW
theorem said:Rows.FnSwitchSaid :=
 OpenClaim.holds_of_cond 8 Tryz.f8 rfl rfl rfl rfl rfl rfl rfl ⟨rfl,rfl,rfl,rfl,rfl⟩ rfl rfl rfl rfl rfl named Tryz.func8 closed
  (of_decide_eq_true (by kernel_rfl)) (by unfold Func.isWrapper;first|(rw[if_pos (by decide +kernel)];kernel_rfl)|(rw[if_neg (by decide +kernel)];exact⟨rfl,rfl⟩))
  (λos started H enc _ F=>by rw[OpenClaim.pre_eq_preRow];exact lifted os started H enc F)
theorem plain (f:FuncId)(fn:Func)(hf:Tryz.pinned.checked.prog.funcNamed "loop.example/g00868/laws.FnSwitch"=some f)(hfn:Tryz.pinned.checked.prog.funcs[f]?=some fn) :
  false=Tryz.pinned.checked.prog.looks []/\∀(j:Nat) t,fn.params[j]?=some t->Tryz.pinned.checked.prog.wantsStandIn t=false:=by
 obtain rfl:f=8:=yY (named.symm.trans hf) |>.symm
 obtain rfl:fn=Tryz.f8:=(yY (Tryz.func8.symm.trans hfn)).symm;refine⟨looksNo,λj t ht=>?_⟩;rw[Tryz.params8]at ht;obtain rfl:t=22:=by simpa using Array.mem_of_getElem? ht
 exact noStand
theorem card:Rows.FnSwitchCardSaid :=
 Claim7.holds_tied_plain_at .later [] _ _ _ _ said (λ_ h=>by cases h) wfText (λ_ h=>by cases h) fnSwitch_row_tie rfl ⟨rfl,rfl⟩ mainIs rfl plain goesNo
end Go.Proofs.YtlapkmhemepcaaaGreatDoor.fnSwitch
