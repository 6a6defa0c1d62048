import Derived.Test.YtcmncipikdpnbaaGreatDoorTcSiwU
import Derived.Test.YtcmncipikdpnbaaGreatDoorCards
import Derived.Test.YtcmncipikdpnbaaGreatDoorTie
import Derived.ShutString
import Derived.ChangeOld
import Derived.Deep.DeepHandedRow
namespace Go.Proofs.YtcmncipikdpnbaaGreatDoor.tCPSimultaneousOpen
open Go.ChangeShapes Go.WideShapes Go.ChangeAt Go.RowKit
open Go.ChangeMaps (open_string shut_string)
set_option linter.unusedVariables false
theorem own:ownKnob Tryz.prog.godebug=none:=by kernel_rfl
theorem OO:laidOutB Tryz.prog=true:=by kernel_rfl
set_option maxRecDepth 100000 in
theorem xK (a:Type) (enc:TypeId×Value->a) (W:World) (base:Nat) (args:Array Value) (ds gs:List (DataW a)) (before:List MemPlace)
  (hval:∀(j:Nat) t v,Tryz.f4.params[j]? =some t->args[j]? =some v->Value.okWide Tryz.prog W .any base t v)
  (hW:DataW.Whole enc Tryz.prog Tryz.f4.params.toList Rows.tCPSimultaneousOpenSpec.vars false W args.toList ds gs before) (n:laidMetH Tryz.prog Rows.tCPSimultaneousOpenRow.laid W) :
  Calls Tryz.prog 4 args W fun e W'=>∃v,e= .returned v/\Rows.tCPSimultaneousOpenSpec.post enc Tryz.prog Tryz.f4 false true false false W args v W':=by
 have hW':=hW;obtain⟨p,q,c,hV,rfl,hfz,hnd⟩:=hW;have hA:DataW.TrodAll enc Tryz.prog W 0 (fun _=>true) true Tryz.f4.params.toList args.toList ds p:=c;rw[Tryz.params4]at hA hval;obtain⟨v0,M,d0,N,p0,P,b,rfl,rfl,h0,o⟩:=trodAll_cons hA;obtain⟨v1,r,d1,s,p1,S,rfl,rfl,rfl,h1,u⟩:=trodAll_cons o;obtain⟨d,w,d2,T,U,V,rfl,rfl,rfl,h2,y⟩:=trodAll_cons u;obtain⟨f,z,d3,A,X,q3,rfl,rfl,rfl,B,C⟩:=trodAll_cons y;obtain⟨rfl,rfl,rfl⟩:=trodAll_nil C;obtain rfl:args= #[v0,v1,d,f]:=by cases args;simp_all
 obtain⟨rfl,rfl⟩:=trodVars_none hV;have g:=h0;have E:∀x∈p0,x.block<W.heap.size:=by obtain⟨m,F⟩:=g;exact DataW.trod_lt m _ _ _ F
 obtain⟨G,rfl,I⟩:=zo (hval 0 23 v0 rfl rfl) h0;obtain⟨J,rfl,rfl,rfl,i⟩:=open_int Tryz.underlying3 (hval 1 3 v1 rfl rfl) h1;obtain⟨K,rfl,rfl,rfl,k⟩:=open_int Tryz.underlying3 (hval 2 3 d rfl rfl) h2;obtain⟨L,rfl,rfl,rfl,l⟩:=open_int Tryz.underlying3 (hval 3 3 f rfl rfl) B;clear c;refine(qE W G I J i K k L l (vu n)).mono fun e W' ⟨he,oz⟩=> ?_;subst he;exact⟨_,rfl,_,_,_,[],_,[],hW',trodAll_mk1 (shut_bool Tryz.underlying4 _),(trodAll_cons_mk (Below.trod OO (by kernel_rfl) (of_decide_eq_true (by kernel_rfl)) g oz E) (trodAll_cons_mk (shut_int Tryz.underlying3 i) (trodAll_cons_mk (shut_int Tryz.underlying3 k) (trodAll_cons_mk (shut_int Tryz.underlying3 l) trodAll_mk0)))),rfl,oz.frame _,fun h=>by cases h⟩
theorem OP (os:Os){a:Type}(enc:TypeId×Value->a):∃places,DataW.whole enc Tryz.prog ((ky os).forCall (fun _ _=>0) ⟨#[],#[.agg #[.int .i64 0,.int .i64 0,.int .i64 0,.int .i64 0,.int .i64 0,.int .i64 0],.int .i64 0,.int .i64 0,.int .i64 0],[]⟩).memory Tryz.f4.params.toList Rows.tCPSimultaneousOpenSpec.vars false (#[.agg #[.int .i64 0,.int .i64 0,.int .i64 0,.int .i64 0,.int .i64 0,.int .i64 0],.int .i64 0,.int .i64 0,.int .i64 0]:Array Value).toList 8=some ([.agg [.lit (.int .i64 0),.lit (.int .i64 0),.lit (.int .i64 0),.lit (.int .i64 0),.lit (.int .i64 0),.lit (.int .i64 0)],.lit (.int .i64 0),.lit (.int .i64 0),.lit (.int .i64 0)],[],places) :=
 ⟨[],by kernel_rfl⟩
theorem OQ (os:Os):laidMet Tryz.prog Rows.tCPSimultaneousOpenRow.laid ((ky os).forCall (fun _ _=>0) ⟨#[],#[.agg #[.int .i64 0,.int .i64 0,.int .i64 0,.int .i64 0,.int .i64 0,.int .i64 0],.int .i64 0,.int .i64 0,.int .i64 0],[]⟩).memory :=
 laidMet_of_run' 8 (by kernel_rfl) (by kernel_rfl)
set_option maxRecDepth 100000 in
theorem OR (os:Os) (started:os.Started) (a:Type) (enc:TypeId×Value->a) (F:Stop.Interp) :
  ReturnsInHanded {} Tryz.checked os 4 .any ((OpenSpec.ofChange Rows.tCPSimultaneousOpenSpec).preRow enc Tryz.prog Tryz.f4 Rows.tCPSimultaneousOpenRow.domain false Rows.tCPSimultaneousOpenRow.laid) (((OpenSpec.ofChange Rows.tCPSimultaneousOpenSpec).at F).post enc Tryz.prog Tryz.f4 false true false false):=by
 obtain⟨places,b⟩:=OP os enc
 refine returnsInHanded_of_row (C:=Tryz.checked) (s:=(OpenSpec.ofChange Rows.tCPSimultaneousOpenSpec)) own started (by kernel_rfl) Tryz.func4
  (witness_row_at (enc:=enc) (C:=Tryz.checked) false (ky os) #[.agg #[.int .i64 0,.int .i64 0,.int .i64 0,.int .i64 0,.int .i64 0,.int .i64 0],.int .i64 0,.int .i64 0,.int .i64 0] rfl (by kernel_rfl) (by kernel_rfl) (by kernel_rfl)
   (OpenSpec.preRow_of_cond 8 b (by kernel_rfl) (fun k c=>by cases c) (by kernel_rfl) (OQ os))) ?_
 intro W base args ds gs before hval hW _ _ _ d _ _;exact xK a enc W base args ds gs before hval hW d
theorem D5 {a b:Bool}(h:a=true)(k:b=true):(a&&b)=true:=by rw[h,k];rfl
set_option maxHeartbeats 8000000 in
theorem closed:joinedFacts Tryz.pinned.checked.prog 4 Tryz.f4 (OpenSpec.ofChange Rows.tCPSimultaneousOpenSpec).bare Rows.tCPSimultaneousOpenRow=true:=by
 unfold joinedFacts
 repeat' (with_reducible refine D5 ?_ ?_)
 all_goals (as_aux_lemma=>kernel_rfl)
theorem CO:Tryz.pinned.checked.prog.funcNamed Rows.tCPSimultaneousOpenRow.func=some 4:=by kernel_rfl
theorem origin:Tryz.f4.isInstance Tryz.pinned.checked.prog Rows.tCPSimultaneousOpenRow.origin Rows.tCPSimultaneousOpenRow.targs:=of_decide_eq_true (by kernel_rfl)
theorem wrapper:Tryz.f4.isWrapper Tryz.pinned.checked.prog Rows.tCPSimultaneousOpenRow.wrapper Rows.tCPSimultaneousOpenRow.mainSum:=by unfold Func.isWrapper;first | (rw[if_pos (by decide +kernel)];kernel_rfl) | (rw[if_neg (by decide +kernel)];exact⟨rfl,rfl⟩)
theorem D6:Rows.tCPSimultaneousOpenRow.holds Tryz.pinned (OpenSpec.ofChange Rows.tCPSimultaneousOpenSpec) :=
 OpenClaim.holds_of_cond 4 Tryz.f4 rfl rfl rfl rfl rfl rfl rfl ⟨rfl,rfl,rfl,rfl,rfl⟩ rfl rfl rfl rfl rfl CO Tryz.func4 closed origin wrapper
  (fun os started a enc _ F=>by rw[OpenClaim.pre_eq_preRow];exact OR os started a enc F)
theorem OS:true=Tryz.pinned.checked.prog.looks []:=by kernel_rfl
theorem OT:Rows.tCPSimultaneousOpenRow.wfByText (OpenSpec.ofChange Rows.tCPSimultaneousOpenSpec)=true:=by kernel_rfl
theorem OU:false=Rows.tCPSimultaneousOpenRow.goesBy Tryz.pinned.checked.prog:=by kernel_rfl
theorem OV (f:FuncId)(fn:Func)(hf:Tryz.pinned.checked.prog.funcNamed "stagepost/stagepostlaw18.TCPSimultaneousOpen" = some f)(b:Tryz.pinned.checked.prog.funcs[f]? =some fn) :
  true=Tryz.pinned.checked.prog.looks []/\∀(j:Nat) t,fn.params[j]? =some t->Tryz.pinned.checked.prog.wantsStandIn t=false:=by
 obtain rfl:f=4:=Option.some.inj ((show Tryz.prog.funcNamed "stagepost/stagepostlaw18.TCPSimultaneousOpen" = some 4 by kernel_rfl).symm.trans hf) |>.symm
 obtain rfl:fn=Tryz.f4:=(Option.some.inj (Tryz.func4.symm.trans b)).symm;refine⟨OS,fun j t c=> ?_⟩;rw[Tryz.params4]at c;have d:=Array.mem_of_getElem? c;have a:(#[23,3,3,3]:Array TypeId).all (fun t=>Tryz.prog.wantsStandIn t==false)=true:=by kernel_rfl
 exact eq_of_beq (Array.all_eq_true_iff_forall_mem.1 a t d)
theorem proved:Rows.TCPSimultaneousOpenCardSaid :=
 Claim7.holds_tied_plain_at .later [] _ _ _ _ D6 (fun _ h=>by cases h) OT (fun _ h=>by cases h) tCPSimultaneousOpen_row_tie rfl ⟨rfl,rfl⟩ (by kernel_rfl) rfl OV OU
end Go.Proofs.YtcmncipikdpnbaaGreatDoor.tCPSimultaneousOpen
