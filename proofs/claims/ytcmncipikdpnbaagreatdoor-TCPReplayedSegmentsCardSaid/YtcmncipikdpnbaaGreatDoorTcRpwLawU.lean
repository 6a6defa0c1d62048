import Derived.Test.YtcmncipikdpnbaaGreatDoorUb41
import Derived.Test.YtcmncipikdpnbaaGreatDoorCards
import Derived.Test.YtcmncipikdpnbaaGreatDoorTie
import Derived.ShutString
import Derived.ChangeOld
import Derived.Deep.DeepHandedRow
namespace Go.Proofs.YtcmncipikdpnbaaGreatDoor.tCPReplayedSegments
open Go.ChangeShapes Go.WideShapes Go.ChangeAt Go.RowKit
open Go.ChangeMaps (open_string shut_string)
set_option linter.unusedVariables false
theorem own:ownKnob Tryz.prog.godebug=none:=by kernel_rfl
theorem uH:laidOutB Tryz.prog=true:=by kernel_rfl
set_option maxRecDepth 100000 in
theorem zU (a:Type) (enc:TypeId×Value->a) (W:World) (base:Nat) (args:Array Value) (ds gs:List (DataW a)) (before:List MemPlace)
  (hval:∀(j:Nat) t v,Tryz.f5.params[j]? =some t->args[j]? =some v->Value.okWide Tryz.prog W .any base t v)
  (hW:DataW.Whole enc Tryz.prog Tryz.f5.params.toList Rows.tCPReplayedSegmentsSpec.vars false W args.toList ds gs before) (C:laidMetH Tryz.prog Rows.tCPReplayedSegmentsRow.laid W) :
  Calls Tryz.prog 5 args W fun e W'=>∃v,e= .returned v/\Rows.tCPReplayedSegmentsSpec.post enc Tryz.prog Tryz.f5 false true false false W args v W':=by
 have hW':=hW;obtain⟨p,q,k,hV,rfl,hfz,hnd⟩:=hW;have hA:DataW.TrodAll enc Tryz.prog W 0 (fun _=>true) true Tryz.f5.params.toList args.toList ds p:=k;rw[Tryz.params5]at hA hval;obtain⟨v0,a6,d0,a7,p0,q0,f,rfl,rfl,h0,E⟩:=trodAll_cons hA;obtain⟨v1,F,d1,G,p1,q1,rfl,rfl,rfl,h1,I⟩:=trodAll_cons E;obtain⟨n,J,d2,a9,p2,q2,rfl,rfl,rfl,h2,K⟩:=trodAll_cons I;obtain⟨o,L,d3,M,N,q3,rfl,rfl,rfl,r,P⟩:=trodAll_cons K;obtain⟨rfl,rfl,rfl⟩:=trodAll_nil P;obtain rfl:args= #[v0,v1,n,o]:=by cases args;simp_all
 obtain⟨rfl,rfl⟩:=trodVars_none hV;have s:=h0;have S:∀x∈p0,x.block<W.heap.size:=by obtain⟨m,d⟩:=s;exact DataW.trod_lt m _ _ _ d
 obtain⟨T,rfl,U⟩:=yk (hval 0 23 v0 rfl rfl) h0;obtain⟨V,rfl,rfl,rfl,u⟩:=open_int Tryz.underlying3 (hval 1 3 v1 rfl rfl) h1;obtain⟨X,rfl,rfl,rfl,w⟩:=open_int Tryz.underlying3 (hval 2 3 n rfl rfl) h2;obtain⟨y,z,A,rfl⟩:=okWide_slice Tryz.underlying24 (hval 3 24 o rfl rfl);have B:=r;have a5:∀x∈N,x.block<W.heap.size:=by obtain⟨m,d⟩:=B;exact DataW.trod_lt m _ _ _ d
 obtain⟨z3,w3⟩:∃g,mK .i64 W y z A g:=by
  obtain⟨fuel,hf⟩:=r
  rcases open_ints Tryz.underlying24 Tryz.underlying3 (by kernel_rfl) hf with⟨b,_⟩ | ⟨x,l,c,g,b,_,hl,d,hz,_,hcell,i⟩
  ·simp[Value.cells]at b
   obtain⟨rfl,rfl,rfl⟩:=b;exact⟨[],.inl ⟨rfl,rfl,rfl,rfl⟩⟩
  simp[Value.cells]at b
  obtain⟨rfl,rfl,rfl⟩:=b;exact⟨g,.inr ⟨_,rfl,hl,d,by simpa using hz,hcell,i⟩⟩
 clear k;refine(fi W T U V u X w y z A z3 w3 (vA C)).mono fun e W' ⟨he,qn⟩=> ?_;subst he;exact⟨_,rfl,_,_,_,[],_,[],hW',trodAll_mk1 (shut_bool Tryz.underlying4 _),(trodAll_cons_mk (Below.trod uH (by kernel_rfl) (of_decide_eq_true (by kernel_rfl)) s qn S) (trodAll_cons_mk (shut_int Tryz.underlying3 u) (trodAll_cons_mk (shut_int Tryz.underlying3 w) (trodAll_cons_mk (Below.trod uH (by kernel_rfl) (of_decide_eq_true (by kernel_rfl)) B qn a5) trodAll_mk0)))),rfl,qn.frame _,fun h=>by cases h⟩
theorem CA (os:Os){a:Type}(enc:TypeId×Value->a):∃places,DataW.whole enc Tryz.prog ((ka os).forCall (fun _ _=>0) ⟨#[],#[.agg #[.int .i64 0,.int .i64 0,.int .i64 0,.int .i64 0,.int .i64 0,.int .i64 0],.int .i64 0,.int .i64 0,.slice none 0 0],[]⟩).memory Tryz.f5.params.toList Rows.tCPReplayedSegmentsSpec.vars false (#[.agg #[.int .i64 0,.int .i64 0,.int .i64 0,.int .i64 0,.int .i64 0,.int .i64 0],.int .i64 0,.int .i64 0,.slice none 0 0]:Array Value).toList 8=some ([.agg [.lit (.int .i64 0),.lit (.int .i64 0),.lit (.int .i64 0),.lit (.int .i64 0),.lit (.int .i64 0),.lit (.int .i64 0)],.lit (.int .i64 0),.lit (.int .i64 0),.nil],[],places) :=
 ⟨[],by kernel_rfl⟩
theorem zV (os:Os):laidMet Tryz.prog Rows.tCPReplayedSegmentsRow.laid ((ka os).forCall (fun _ _=>0) ⟨#[],#[.agg #[.int .i64 0,.int .i64 0,.int .i64 0,.int .i64 0,.int .i64 0,.int .i64 0],.int .i64 0,.int .i64 0,.slice none 0 0],[]⟩).memory :=
 laidMet_of_run' 8 (by kernel_rfl) (by kernel_rfl)
set_option maxRecDepth 100000 in
theorem B9 (os:Os) (started:os.Started) (a:Type) (enc:TypeId×Value->a) (F:Stop.Interp) :
  ReturnsInHanded {} Tryz.checked os 5 .any ((OpenSpec.ofChange Rows.tCPReplayedSegmentsSpec).preRow enc Tryz.prog Tryz.f5 Rows.tCPReplayedSegmentsRow.domain false Rows.tCPReplayedSegmentsRow.laid) (((OpenSpec.ofChange Rows.tCPReplayedSegmentsSpec).at F).post enc Tryz.prog Tryz.f5 false true false false):=by
 obtain⟨places,b⟩:=CA os enc
 refine returnsInHanded_of_row (C:=Tryz.checked) (s:=(OpenSpec.ofChange Rows.tCPReplayedSegmentsSpec)) own started (by kernel_rfl) Tryz.func5
  (witness_row_at (enc:=enc) (C:=Tryz.checked) false (ka os) #[.agg #[.int .i64 0,.int .i64 0,.int .i64 0,.int .i64 0,.int .i64 0,.int .i64 0],.int .i64 0,.int .i64 0,.slice none 0 0] rfl (by kernel_rfl) (by kernel_rfl) (by kernel_rfl)
   (OpenSpec.preRow_of_cond 8 b (by kernel_rfl) (fun k c=>by cases c) (by kernel_rfl) (zV os))) ?_
 intro W base args ds gs before hval hW _ _ _ d _ _;exact zU a enc W base args ds gs before hval hW d
theorem CV {a b:Bool}(h:a=true)(k:b=true):(a&&b)=true:=by rw[h,k];rfl
set_option maxHeartbeats 8000000 in
theorem closed:joinedFacts Tryz.pinned.checked.prog 5 Tryz.f5 (OpenSpec.ofChange Rows.tCPReplayedSegmentsSpec).bare Rows.tCPReplayedSegmentsRow=true:=by
 unfold joinedFacts
 repeat' (with_reducible refine CV ?_ ?_)
 all_goals (as_aux_lemma=>kernel_rfl)
theorem CB:Tryz.pinned.checked.prog.funcNamed Rows.tCPReplayedSegmentsRow.func=some 5:=by kernel_rfl
theorem origin:Tryz.f5.isInstance Tryz.pinned.checked.prog Rows.tCPReplayedSegmentsRow.origin Rows.tCPReplayedSegmentsRow.targs:=of_decide_eq_true (by kernel_rfl)
theorem wrapper:Tryz.f5.isWrapper Tryz.pinned.checked.prog Rows.tCPReplayedSegmentsRow.wrapper Rows.tCPReplayedSegmentsRow.mainSum:=by unfold Func.isWrapper;first | (rw[if_pos (by decide +kernel)];kernel_rfl) | (rw[if_neg (by decide +kernel)];exact⟨rfl,rfl⟩)
theorem CW:Rows.tCPReplayedSegmentsRow.holds Tryz.pinned (OpenSpec.ofChange Rows.tCPReplayedSegmentsSpec) :=
 OpenClaim.holds_of_cond 5 Tryz.f5 rfl rfl rfl rfl rfl rfl rfl ⟨rfl,rfl,rfl,rfl,rfl⟩ rfl rfl rfl rfl rfl CB Tryz.func5 closed origin wrapper
  (fun os started a enc _ F=>by rw[OpenClaim.pre_eq_preRow];exact B9 os started a enc F)
theorem Ba:true=Tryz.pinned.checked.prog.looks []:=by kernel_rfl
theorem CC:Rows.tCPReplayedSegmentsRow.wfByText (OpenSpec.ofChange Rows.tCPReplayedSegmentsSpec)=true:=by kernel_rfl
theorem CX:false=Rows.tCPReplayedSegmentsRow.goesBy Tryz.pinned.checked.prog:=by kernel_rfl
theorem CD (f:FuncId)(fn:Func)(d:Tryz.pinned.checked.prog.funcNamed "stagepost/stagepostlaw18.TCPReplayedSegments" = some f)(b:Tryz.pinned.checked.prog.funcs[f]? =some fn) :
  true=Tryz.pinned.checked.prog.looks []/\∀(j:Nat) t,fn.params[j]? =some t->Tryz.pinned.checked.prog.wantsStandIn t=false:=by
 obtain rfl:f=5:=Option.some.inj ((show Tryz.prog.funcNamed "stagepost/stagepostlaw18.TCPReplayedSegments" = some 5 by kernel_rfl).symm.trans d) |>.symm
 obtain rfl:fn=Tryz.f5:=(Option.some.inj (Tryz.func5.symm.trans b)).symm;refine⟨Ba,fun j t c=> ?_⟩;rw[Tryz.params5]at c;have e:=Array.mem_of_getElem? c;have a:(#[23,3,3,24]:Array TypeId).all (fun t=>Tryz.prog.wantsStandIn t==false)=true:=by kernel_rfl
 exact eq_of_beq (Array.all_eq_true_iff_forall_mem.1 a t e)
theorem proved:Rows.TCPReplayedSegmentsCardSaid :=
 Claim7.holds_tied_plain_at .later [] _ _ _ _ CW (fun _ h=>by cases h) CC (fun _ h=>by cases h) tCPReplayedSegments_row_tie rfl ⟨rfl,rfl⟩ (by kernel_rfl) rfl CD CX
end Go.Proofs.YtcmncipikdpnbaaGreatDoor.tCPReplayedSegments
