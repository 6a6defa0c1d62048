import Derived.Test.YtcmncipikdpnbaaGreatDoorTcRpwU
import Derived.Test.YtcmncipikdpnbaaGreatDoorCards
import Derived.Test.YtcmncipikdpnbaaGreatDoorTie
import Derived.ShutString
import Derived.ChangeOld
import Derived.Deep.DeepHandedRow
namespace Go.Proofs.YtcmncipikdpnbaaGreatDoor.tCPReplayedSegments
open Go.ChangeShapes Go.WideShapes Go.ChangeAt Go.RowKit
open Go.ChangeMaps (open_string shut_string)
set_option linter.unusedVariables false
theorem own:ownKnob Tryz.prog.godebug=none:=by kernel_rfl
theorem uf:laidOutB Tryz.prog=true:=by kernel_rfl
set_option maxRecDepth 100000 in
theorem zy (a:Type) (enc:TypeId×Value->a) (W:World) (base:Nat) (args:Array Value) (ds gs:List (DataW a)) (before:List MemPlace)
  (hval:∀(j:Nat) t v,Tryz.f5.params[j]? =some t->args[j]? =some v->Value.okWide Tryz.prog W .any base t v)
  (hW:DataW.Whole enc Tryz.prog Tryz.f5.params.toList Rows.tCPReplayedSegmentsSpec.vars false W args.toList ds gs before) (B:laidMetH Tryz.prog Rows.tCPReplayedSegmentsRow.laid W) :
  Calls Tryz.prog 5 args W fun e W'=>∃v,e= .returned v/\Rows.tCPReplayedSegmentsSpec.post enc Tryz.prog Tryz.f5 false true false false W args v W':=by
 have hW':=hW;obtain⟨p,q,i,hV,rfl,hfz,hnd⟩:=hW;have hA:DataW.TrodAll enc Tryz.prog W 0 (fun _=>true) true Tryz.f5.params.toList args.toList ds p:=i;rw[Tryz.params5]at hA hval;obtain⟨v0,a6,d0,a7,p0,q0,f,rfl,rfl,h0,C⟩:=trodAll_cons hA;obtain⟨v1,E,d1,F,p1,q1,rfl,rfl,rfl,h1,G⟩:=trodAll_cons C;obtain⟨k,I,d2,a9,p2,q2,rfl,rfl,rfl,h2,J⟩:=trodAll_cons G;obtain⟨n,K,d3,L,M,q3,rfl,rfl,rfl,o,N⟩:=trodAll_cons J;obtain⟨rfl,rfl,rfl⟩:=trodAll_nil N;obtain rfl:args= #[v0,v1,k,n]:=by cases args;simp_all
 obtain⟨rfl,rfl⟩:=trodVars_none hV;have r:=h0;have P:∀x∈p0,x.block<W.heap.size:=by obtain⟨m,d⟩:=r;exact DataW.trod_lt m _ _ _ d
 obtain⟨S,rfl,T⟩:=zo (hval 0 23 v0 rfl rfl) h0;obtain⟨U,rfl,rfl,rfl,s⟩:=open_int Tryz.underlying3 (hval 1 3 v1 rfl rfl) h1;obtain⟨V,rfl,rfl,rfl,u⟩:=open_int Tryz.underlying3 (hval 2 3 k rfl rfl) h2;obtain⟨w,y,z,rfl⟩:=okWide_slice Tryz.underlying24 (hval 3 24 n rfl rfl);have A:=o;have X:∀x∈M,x.block<W.heap.size:=by obtain⟨m,d⟩:=A;exact DataW.trod_lt m _ _ _ d
 obtain⟨z3,w3⟩:∃zs,mX .i64 W w y z zs:=by
  obtain⟨fuel,hf⟩:=o
  rcases open_ints Tryz.underlying24 Tryz.underlying3 (by kernel_rfl) hf with⟨b,_⟩ | ⟨x,l,c,zs,b,_,hl,d,hz,_,hcell,g⟩
  ·simp[Value.cells]at b
   obtain⟨rfl,rfl,rfl⟩:=b;exact⟨[],.inl ⟨rfl,rfl,rfl,rfl⟩⟩
  simp[Value.cells]at b
  obtain⟨rfl,rfl,rfl⟩:=b;exact⟨zs,.inr ⟨_,rfl,hl,d,by simpa using hz,hcell,g⟩⟩
 clear i;refine(O6 W S T U s V u w y z z3 w3 (vu B)).mono fun e W' ⟨he,oz⟩=> ?_;subst he;exact⟨_,rfl,_,_,_,[],_,[],hW',trodAll_mk1 (shut_bool Tryz.underlying4 _),(trodAll_cons_mk (Below.trod uf (by kernel_rfl) (of_decide_eq_true (by kernel_rfl)) r oz P) (trodAll_cons_mk (shut_int Tryz.underlying3 s) (trodAll_cons_mk (shut_int Tryz.underlying3 u) (trodAll_cons_mk (Below.trod uf (by kernel_rfl) (of_decide_eq_true (by kernel_rfl)) A oz X) trodAll_mk0)))),rfl,oz.frame _,fun h=>by cases h⟩
theorem O7 (os:Os){a:Type}(enc:TypeId×Value->a):∃places,DataW.whole enc Tryz.prog ((ky os).forCall (fun _ _=>0) ⟨#[],#[.agg #[.int .i64 0,.int .i64 0,.int .i64 0,.int .i64 0,.int .i64 0,.int .i64 0],.int .i64 0,.int .i64 0,.slice none 0 0],[]⟩).memory Tryz.f5.params.toList Rows.tCPReplayedSegmentsSpec.vars false (#[.agg #[.int .i64 0,.int .i64 0,.int .i64 0,.int .i64 0,.int .i64 0,.int .i64 0],.int .i64 0,.int .i64 0,.slice none 0 0]:Array Value).toList 8=some ([.agg [.lit (.int .i64 0),.lit (.int .i64 0),.lit (.int .i64 0),.lit (.int .i64 0),.lit (.int .i64 0),.lit (.int .i64 0)],.lit (.int .i64 0),.lit (.int .i64 0),.nil],[],places) :=
 ⟨[],by kernel_rfl⟩
theorem O8 (os:Os):laidMet Tryz.prog Rows.tCPReplayedSegmentsRow.laid ((ky os).forCall (fun _ _=>0) ⟨#[],#[.agg #[.int .i64 0,.int .i64 0,.int .i64 0,.int .i64 0,.int .i64 0,.int .i64 0],.int .i64 0,.int .i64 0,.slice none 0 0],[]⟩).memory :=
 laidMet_of_run' 8 (by kernel_rfl) (by kernel_rfl)
set_option maxRecDepth 100000 in
theorem O9 (os:Os) (started:os.Started) (a:Type) (enc:TypeId×Value->a) (F:Stop.Interp) :
  ReturnsInHanded {} Tryz.checked os 5 .any ((OpenSpec.ofChange Rows.tCPReplayedSegmentsSpec).preRow enc Tryz.prog Tryz.f5 Rows.tCPReplayedSegmentsRow.domain false Rows.tCPReplayedSegmentsRow.laid) (((OpenSpec.ofChange Rows.tCPReplayedSegmentsSpec).at F).post enc Tryz.prog Tryz.f5 false true false false):=by
 obtain⟨places,b⟩:=O7 os enc
 refine returnsInHanded_of_row (C:=Tryz.checked) (s:=(OpenSpec.ofChange Rows.tCPReplayedSegmentsSpec)) own started (by kernel_rfl) Tryz.func5
  (witness_row_at (enc:=enc) (C:=Tryz.checked) false (ky os) #[.agg #[.int .i64 0,.int .i64 0,.int .i64 0,.int .i64 0,.int .i64 0,.int .i64 0],.int .i64 0,.int .i64 0,.slice none 0 0] rfl (by kernel_rfl) (by kernel_rfl) (by kernel_rfl)
   (OpenSpec.preRow_of_cond 8 b (by kernel_rfl) (fun k c=>by cases c) (by kernel_rfl) (O8 os))) ?_
 intro W base args ds gs before hval hW _ _ _ d _ _;exact zy a enc W base args ds gs before hval hW d
theorem Oa {a b:Bool}(h:a=true)(k:b=true):(a&&b)=true:=by rw[h,k];rfl
set_option maxHeartbeats 8000000 in
theorem closed:joinedFacts Tryz.pinned.checked.prog 5 Tryz.f5 (OpenSpec.ofChange Rows.tCPReplayedSegmentsSpec).bare Rows.tCPReplayedSegmentsRow=true:=by
 unfold joinedFacts
 repeat' (with_reducible refine Oa ?_ ?_)
 all_goals (as_aux_lemma=>kernel_rfl)
theorem Ob:Tryz.pinned.checked.prog.funcNamed Rows.tCPReplayedSegmentsRow.func=some 5:=by kernel_rfl
theorem origin:Tryz.f5.isInstance Tryz.pinned.checked.prog Rows.tCPReplayedSegmentsRow.origin Rows.tCPReplayedSegmentsRow.targs:=of_decide_eq_true (by kernel_rfl)
theorem wrapper:Tryz.f5.isWrapper Tryz.pinned.checked.prog Rows.tCPReplayedSegmentsRow.wrapper Rows.tCPReplayedSegmentsRow.mainSum:=by unfold Func.isWrapper;first | (rw[if_pos (by decide +kernel)];kernel_rfl) | (rw[if_neg (by decide +kernel)];exact⟨rfl,rfl⟩)
theorem Oc:Rows.tCPReplayedSegmentsRow.holds Tryz.pinned (OpenSpec.ofChange Rows.tCPReplayedSegmentsSpec) :=
 OpenClaim.holds_of_cond 5 Tryz.f5 rfl rfl rfl rfl rfl rfl rfl ⟨rfl,rfl,rfl,rfl,rfl⟩ rfl rfl rfl rfl rfl Ob Tryz.func5 closed origin wrapper
  (fun os started a enc _ F=>by rw[OpenClaim.pre_eq_preRow];exact O9 os started a enc F)
theorem CO:true=Tryz.pinned.checked.prog.looks []:=by kernel_rfl
theorem Od:Rows.tCPReplayedSegmentsRow.wfByText (OpenSpec.ofChange Rows.tCPReplayedSegmentsSpec)=true:=by kernel_rfl
theorem DK:false=Rows.tCPReplayedSegmentsRow.goesBy Tryz.pinned.checked.prog:=by kernel_rfl
theorem Cj (f:FuncId)(fn:Func)(hf:Tryz.pinned.checked.prog.funcNamed "stagepost/stagepostlaw18.TCPReplayedSegments" = some f)(b:Tryz.pinned.checked.prog.funcs[f]? =some fn) :
  true=Tryz.pinned.checked.prog.looks []/\∀(j:Nat) t,fn.params[j]? =some t->Tryz.pinned.checked.prog.wantsStandIn t=false:=by
 obtain rfl:f=5:=Option.some.inj ((show Tryz.prog.funcNamed "stagepost/stagepostlaw18.TCPReplayedSegments" = some 5 by kernel_rfl).symm.trans hf) |>.symm
 obtain rfl:fn=Tryz.f5:=(Option.some.inj (Tryz.func5.symm.trans b)).symm;refine⟨CO,fun j t c=> ?_⟩;rw[Tryz.params5]at c;have d:=Array.mem_of_getElem? c;have a:(#[23,3,3,24]:Array TypeId).all (fun t=>Tryz.prog.wantsStandIn t==false)=true:=by kernel_rfl
 exact eq_of_beq (Array.all_eq_true_iff_forall_mem.1 a t d)
theorem proved:Rows.TCPReplayedSegmentsCardSaid :=
 Claim7.holds_tied_plain_at .later [] _ _ _ _ Oc (fun _ h=>by cases h) Od (fun _ h=>by cases h) tCPReplayedSegments_row_tie rfl ⟨rfl,rfl⟩ (by kernel_rfl) rfl Cj DK
end Go.Proofs.YtcmncipikdpnbaaGreatDoor.tCPReplayedSegments
