import Derived.Test.YtcmncipikdpnbaaGreatDoorTcHcwU
import Derived.Test.YtcmncipikdpnbaaGreatDoorCards
import Derived.Test.YtcmncipikdpnbaaGreatDoorTie
import Derived.ShutString
import Derived.ChangeOld
import Derived.Deep.DeepHandedRow
namespace Go.Proofs.YtcmncipikdpnbaaGreatDoor.tCPHalfCloseAndZeroWindow
open Go.ChangeShapes Go.WideShapes Go.ChangeAt Go.RowKit
open Go.ChangeMaps (open_string shut_string)
set_option linter.unusedVariables false
theorem own:ownKnob Tryz.prog.godebug=none:=by kernel_rfl
theorem OT:laidOutB Tryz.prog=true:=by kernel_rfl
set_option maxRecDepth 100000 in
theorem tE (a:Type) (enc:TypeId×Value->a) (W:World) (base:Nat) (args:Array Value) (ds gs:List (DataW a)) (before:List MemPlace)
  (hval:∀(j:Nat) t v,Tryz.f6.params[j]? =some t->args[j]? =some v->Value.okWide Tryz.prog W .any base t v)
  (hW:DataW.Whole enc Tryz.prog Tryz.f6.params.toList Rows.tCPHalfCloseAndZeroWindowSpec.vars false W args.toList ds gs before) (hL:laidMetH Tryz.prog Rows.tCPHalfCloseAndZeroWindowRow.laid W) :
  Calls Tryz.prog 6 args W fun e W'=>∃v,e= .returned v/\Rows.tCPHalfCloseAndZeroWindowSpec.post enc Tryz.prog Tryz.f6 false true false false W args v W':=by
 have hW':=hW;obtain⟨p,q,b,hV,rfl,hfz,hnd⟩:=hW;have hA:DataW.TrodAll enc Tryz.prog W 0 (fun _=>true) true Tryz.f6.params.toList args.toList ds p:=b;rw[Tryz.params6]at hA hval;obtain⟨v0,a0,d0,z,p0,q0,hargs,rfl,rfl,h0,r0⟩:=trodAll_cons hA;obtain⟨v1,i,d1,k,p1,A,rfl,rfl,rfl,h1,l⟩:=trodAll_cons r0;obtain⟨c,n,d2,B,C,E,rfl,rfl,rfl,h2,o⟩:=trodAll_cons l;obtain⟨rfl,rfl,rfl⟩:=trodAll_nil o;obtain rfl:args= #[v0,v1,c]:=by cases args;simp_all
 obtain⟨rfl,rfl⟩:=trodVars_none hV;have d:=h0;have r:∀x∈p0,x.block<W.heap.size:=by obtain⟨m,s⟩:=d;exact DataW.trod_lt m _ _ _ s
 obtain⟨u,rfl,w0⟩:=zo (hval 0 23 v0 rfl rfl) h0;obtain⟨w,rfl,rfl,rfl,f⟩:=open_int Tryz.underlying3 (hval 1 3 v1 rfl rfl) h1;obtain⟨y,rfl,rfl,rfl,g⟩:=open_int Tryz.underlying3 (hval 2 3 c rfl rfl) h2;clear b;refine(ka W u w0 w f y g (vu hL)).mono fun e W' ⟨he,oz⟩=> ?_;subst he;exact⟨_,rfl,_,_,_,[],_,[],hW',trodAll_mk1 (shut_bool Tryz.underlying4 _),(trodAll_cons_mk (Below.trod OT (by kernel_rfl) (of_decide_eq_true (by kernel_rfl)) d oz r) (trodAll_cons_mk (shut_int Tryz.underlying3 f) (trodAll_cons_mk (shut_int Tryz.underlying3 g) trodAll_mk0))),rfl,oz.frame _,fun h=>by cases h⟩
theorem zx (os:Os){a:Type}(enc:TypeId×Value->a):∃places,DataW.whole enc Tryz.prog ((ky os).forCall (fun _ _=>0) ⟨#[],#[.agg #[.int .i64 0,.int .i64 0,.int .i64 0,.int .i64 0,.int .i64 0,.int .i64 0],.int .i64 0,.int .i64 0],[]⟩).memory Tryz.f6.params.toList Rows.tCPHalfCloseAndZeroWindowSpec.vars false (#[.agg #[.int .i64 0,.int .i64 0,.int .i64 0,.int .i64 0,.int .i64 0,.int .i64 0],.int .i64 0,.int .i64 0]:Array Value).toList 8=some ([.agg [.lit (.int .i64 0),.lit (.int .i64 0),.lit (.int .i64 0),.lit (.int .i64 0),.lit (.int .i64 0),.lit (.int .i64 0)],.lit (.int .i64 0),.lit (.int .i64 0)],[],places) :=
 ⟨[],by kernel_rfl⟩
theorem tv (os:Os):laidMet Tryz.prog Rows.tCPHalfCloseAndZeroWindowRow.laid ((ky os).forCall (fun _ _=>0) ⟨#[],#[.agg #[.int .i64 0,.int .i64 0,.int .i64 0,.int .i64 0,.int .i64 0,.int .i64 0],.int .i64 0,.int .i64 0],[]⟩).memory :=
 laidMet_of_run' 8 (by kernel_rfl) (by kernel_rfl)
set_option maxRecDepth 100000 in
theorem zu (os:Os) (started:os.Started) (a:Type) (enc:TypeId×Value->a) (F:Stop.Interp) :
  ReturnsInHanded {} Tryz.checked os 6 .any ((OpenSpec.ofChange Rows.tCPHalfCloseAndZeroWindowSpec).preRow enc Tryz.prog Tryz.f6 Rows.tCPHalfCloseAndZeroWindowRow.domain false Rows.tCPHalfCloseAndZeroWindowRow.laid) (((OpenSpec.ofChange Rows.tCPHalfCloseAndZeroWindowSpec).at F).post enc Tryz.prog Tryz.f6 false true false false):=by
 obtain⟨places,hx⟩:=zx os enc
 refine returnsInHanded_of_row (C:=Tryz.checked) (s:=(OpenSpec.ofChange Rows.tCPHalfCloseAndZeroWindowSpec)) own started (by kernel_rfl) Tryz.func6
  (witness_row_at (enc:=enc) (C:=Tryz.checked) false (ky os) #[.agg #[.int .i64 0,.int .i64 0,.int .i64 0,.int .i64 0,.int .i64 0,.int .i64 0],.int .i64 0,.int .i64 0] rfl (by kernel_rfl) (by kernel_rfl) (by kernel_rfl)
   (OpenSpec.preRow_of_cond 8 hx (by kernel_rfl) (fun k hk=>by cases hk) (by kernel_rfl) (tv os))) ?_
 intro W base args ds gs before hval hW _ _ _ hL _ _;exact tE a enc W base args ds gs before hval hW hL
theorem OU {a b:Bool}(h:a=true)(k:b=true):(a&&b)=true:=by rw[h,k];rfl
set_option maxHeartbeats 8000000 in
theorem closed:joinedFacts Tryz.pinned.checked.prog 6 Tryz.f6 (OpenSpec.ofChange Rows.tCPHalfCloseAndZeroWindowSpec).bare Rows.tCPHalfCloseAndZeroWindowRow=true:=by
 unfold joinedFacts
 repeat' (with_reducible refine OU ?_ ?_)
 all_goals (as_aux_lemma=>kernel_rfl)
theorem zy:Tryz.pinned.checked.prog.funcNamed Rows.tCPHalfCloseAndZeroWindowRow.func=some 6:=by kernel_rfl
theorem origin:Tryz.f6.isInstance Tryz.pinned.checked.prog Rows.tCPHalfCloseAndZeroWindowRow.origin Rows.tCPHalfCloseAndZeroWindowRow.targs:=of_decide_eq_true (by kernel_rfl)
theorem wrapper:Tryz.f6.isWrapper Tryz.pinned.checked.prog Rows.tCPHalfCloseAndZeroWindowRow.wrapper Rows.tCPHalfCloseAndZeroWindowRow.mainSum:=by unfold Func.isWrapper;first | (rw[if_pos (by decide +kernel)];kernel_rfl) | (rw[if_neg (by decide +kernel)];exact⟨rfl,rfl⟩)
theorem AC:Rows.tCPHalfCloseAndZeroWindowRow.holds Tryz.pinned (OpenSpec.ofChange Rows.tCPHalfCloseAndZeroWindowSpec) :=
 OpenClaim.holds_of_cond 6 Tryz.f6 rfl rfl rfl rfl rfl rfl rfl ⟨rfl,rfl,rfl,rfl,rfl⟩ rfl rfl rfl rfl rfl zy Tryz.func6 closed origin wrapper
  (fun os started a enc _ F=>by rw[OpenClaim.pre_eq_preRow];exact zu os started a enc F)
theorem zv:true=Tryz.pinned.checked.prog.looks []:=by kernel_rfl
theorem OV:Rows.tCPHalfCloseAndZeroWindowRow.wfByText (OpenSpec.ofChange Rows.tCPHalfCloseAndZeroWindowSpec)=true:=by kernel_rfl
theorem AD:false=Rows.tCPHalfCloseAndZeroWindowRow.goesBy Tryz.pinned.checked.prog:=by kernel_rfl
theorem OW (f:FuncId)(fn:Func)(hf:Tryz.pinned.checked.prog.funcNamed "stagepost/stagepostlaw18.TCPHalfCloseAndZeroWindow" = some f)(hfn:Tryz.pinned.checked.prog.funcs[f]? =some fn) :
  true=Tryz.pinned.checked.prog.looks []/\∀(j:Nat) t,fn.params[j]? =some t->Tryz.pinned.checked.prog.wantsStandIn t=false:=by
 obtain rfl:f=6:=Option.some.inj ((show Tryz.prog.funcNamed "stagepost/stagepostlaw18.TCPHalfCloseAndZeroWindow" = some 6 by kernel_rfl).symm.trans hf) |>.symm
 obtain rfl:fn=Tryz.f6:=(Option.some.inj (Tryz.func6.symm.trans hfn)).symm;refine⟨zv,fun j t ht=> ?_⟩;rw[Tryz.params6]at ht;have b:=Array.mem_of_getElem? ht;have a:(#[23,3,3]:Array TypeId).all (fun t=>Tryz.prog.wantsStandIn t==false)=true:=by kernel_rfl
 exact eq_of_beq (Array.all_eq_true_iff_forall_mem.1 a t b)
theorem proved:Rows.TCPHalfCloseAndZeroWindowCardSaid :=
 Claim7.holds_tied_plain_at .later [] _ _ _ _ AC (fun _ h=>by cases h) OV (fun _ h=>by cases h) tCPHalfCloseAndZeroWindow_row_tie rfl ⟨rfl,rfl⟩ (by kernel_rfl) rfl OW AD
end Go.Proofs.YtcmncipikdpnbaaGreatDoor.tCPHalfCloseAndZeroWindow
