import Derived.Test.YtclkcmidhhfdmaaGreatDoorTcBlwU
import Derived.Test.YtclkcmidhhfdmaaGreatDoorCards
import Derived.Test.YtclkcmidhhfdmaaGreatDoorTie
import Derived.Test.YtclkcmidhhfdmaaGreatDoorRows
import Derived.WalkKit
import Derived.ProofKit
import Derived.OpenShut
import Derived.ShutString
import Derived.ChangeOld
import Derived.Below
import Derived.Deep.DeepHandedRow
namespace Go.Proofs.YtclkcmidhhfdmaaGreatDoor.tCPBlindSegments
open Go.ChangeShapes Go.WideShapes Go.ChangeAt Go.RowKit
open Go.ChangeMaps (open_string shut_string)
set_option linter.unusedVariables false
theorem CB:ownKnob Tryz.prog.godebug=none:=by kernel_rfl
theorem B9:laidOutB Tryz.prog=true:=by kernel_rfl
set_option maxRecDepth 100000 in
theorem Bk (H:Type) (enc:TypeId×Value->H) (W:World) (base:Nat) (args:Array Value) (ds gs:List (DataW H)) (before:List MemPlace)
  (hval:∀(j:Nat) t v,Tryz.f11.params[j]? =some t->args[j]? =some v->Value.okWide Tryz.prog W .any base t v)
  (hW:DataW.Whole enc Tryz.prog Tryz.f11.params.toList Rows.tCPBlindSegmentsSpec.vars false W args.toList ds gs before) (hL:laidMetH Tryz.prog Rows.tCPBlindSegmentsRow.laid W) :
  Calls Tryz.prog 11 args W fun e W'=>∃v,e= .returned v/\Rows.tCPBlindSegmentsSpec.post enc Tryz.prog Tryz.f11 false true false false W args v W':=by
 have hW':=hW;obtain⟨p,q,a7,hV,rfl,hfz,hnd⟩:=hW;have hA:DataW.TrodAll enc Tryz.prog W 0 (fun _=>true) true Tryz.f11.params.toList args.toList ds p:=a7;rw[Tryz.params11]at hA hval;obtain⟨v0,ac,d0,ad,p0,q0,hargs,rfl,rfl,h0,r0⟩:=trodAll_cons hA;obtain⟨v1,vs1,d1,ds1,p1,q1,rfl,rfl,rfl,h1,r1⟩:=trodAll_cons r0;obtain⟨v2,vs2,d2,ag,p2,q2,rfl,rfl,rfl,h2,r2⟩:=trodAll_cons r1;obtain⟨v3,vs3,d3,ds3,p3,q3,rfl,rfl,rfl,h3,r3⟩:=trodAll_cons r2;obtain⟨rfl,rfl,rfl⟩:=trodAll_nil r3;obtain rfl:args= #[v0,v1,v2,v3]:=by cases args;simp_all
 obtain⟨rfl,rfl⟩:=trodVars_none hV;have k0:=h0;have a9:∀x∈p0,x.block<W.heap.size:=by obtain⟨m,hm⟩:=k0;exact DataW.trod_lt m _ _ _ hm
 obtain⟨x0,rfl,w0⟩:=Am (hval 0 23 v0 rfl rfl) h0;obtain⟨a1,aF,a0,rfl⟩:=okWide_slice Tryz.underlying24 (hval 1 24 v1 rfl rfl);have k1:=h1;have B0:∀x∈p1,x.block<W.heap.size:=by obtain⟨m,hm⟩:=k1;exact DataW.trod_lt m _ _ _ hm
 obtain⟨z1,w1⟩:∃zs,mq .i64 W a1 aF a0 zs:=by
  obtain⟨fuel,hf⟩:=h1
  rcases open_ints Tryz.underlying24 Tryz.underlying3 (by kernel_rfl) hf with⟨hcs,_⟩ | ⟨x,l,c,zs,hcs,_,hl,hm,hz,_,hcell,hwz⟩
  ·simp[Value.cells]at hcs
   obtain⟨rfl,rfl,rfl⟩:=hcs;exact⟨[],.inl ⟨rfl,rfl,rfl,rfl⟩⟩
  simp[Value.cells]at hcs
  obtain⟨rfl,rfl,rfl⟩:=hcs;exact⟨zs,.inr ⟨_,rfl,hl,hm,by simpa using hz,hcell,hwz⟩⟩
 obtain⟨a2,a4,cap2,rfl⟩:=okWide_slice Tryz.underlying25 (hval 2 25 v2 rfl rfl);have k2:=h2;have aa:∀x∈p2,x.block<W.heap.size:=by obtain⟨m,hm⟩:=k2;exact DataW.trod_lt m _ _ _ hm
 obtain⟨z2,w2⟩:=An h2;obtain⟨a3,a5,a6,rfl⟩:=okWide_slice Tryz.underlying60 (hval 3 60 v3 rfl rfl);have k3:=h3;have ab:∀x∈p3,x.block<W.heap.size:=by obtain⟨m,hm⟩:=k3;exact DataW.trod_lt m _ _ _ hm
 obtain⟨z3,w3⟩:=Be h3;clear a7;refine(B7 W x0 w0 a1 aF a0 z1 w1 a2 a4 cap2 z2 w2 a3 a5 a6 z3 w3 (AQ hL)).mono fun e W' ⟨he,bel⟩=> ?_;subst he;exact⟨_,rfl,_,_,_,[],_,[],hW',trodAll_mk1 (shut_bool Tryz.underlying4 _),(trodAll_cons_mk (Below.trod B9 (by kernel_rfl) (of_decide_eq_true (by kernel_rfl)) k0 bel a9) (trodAll_cons_mk (Below.trod B9 (by kernel_rfl) (of_decide_eq_true (by kernel_rfl)) k1 bel B0) (trodAll_cons_mk (Below.trod B9 (by kernel_rfl) (of_decide_eq_true (by kernel_rfl)) k2 bel aa) (trodAll_cons_mk (Below.trod B9 (by kernel_rfl) (of_decide_eq_true (by kernel_rfl)) k3 bel ab) trodAll_mk0)))),rfl,bel.frame _,fun h=>by cases h⟩
theorem Br (os:Os){H:Type}(enc:TypeId×Value->H):∃places,DataW.whole enc Tryz.prog ((AR os).forCall (fun _ _=>0) ⟨#[],#[.agg #[.int .i64 0,.int .i64 0,.int .i64 0,.int .i64 0,.int .i64 0,.int .i64 0],.slice none 0 0,.slice none 0 0,.slice none 0 0],[]⟩).memory Tryz.f11.params.toList Rows.tCPBlindSegmentsSpec.vars false (#[.agg #[.int .i64 0,.int .i64 0,.int .i64 0,.int .i64 0,.int .i64 0,.int .i64 0],.slice none 0 0,.slice none 0 0,.slice none 0 0]:Array Value).toList 8=some ([.agg [.lit (.int .i64 0),.lit (.int .i64 0),.lit (.int .i64 0),.lit (.int .i64 0),.lit (.int .i64 0),.lit (.int .i64 0)],.nil,.nil,.nil],[],places) :=
 ⟨[],by kernel_rfl⟩
theorem Bl (os:Os):laidMet Tryz.prog Rows.tCPBlindSegmentsRow.laid ((AR os).forCall (fun _ _=>0) ⟨#[],#[.agg #[.int .i64 0,.int .i64 0,.int .i64 0,.int .i64 0,.int .i64 0,.int .i64 0],.slice none 0 0,.slice none 0 0,.slice none 0 0],[]⟩).memory :=
 laidMet_of_run' 8 (by kernel_rfl) (by kernel_rfl)
set_option maxRecDepth 100000 in
theorem Bp (os:Os) (started:os.Started) (H:Type) (enc:TypeId×Value->H) (F:Stop.Interp) :
  ReturnsInHanded {} Tryz.checked os 11 .any ((OpenSpec.ofChange Rows.tCPBlindSegmentsSpec).preRow enc Tryz.prog Tryz.f11 Rows.tCPBlindSegmentsRow.domain false Rows.tCPBlindSegmentsRow.laid) (((OpenSpec.ofChange Rows.tCPBlindSegmentsSpec).at F).post enc Tryz.prog Tryz.f11 false true false false):=by
 obtain⟨places,hx⟩:=Br os enc
 refine returnsInHanded_of_row (C:=Tryz.checked) (s:=(OpenSpec.ofChange Rows.tCPBlindSegmentsSpec)) CB started (by kernel_rfl) Tryz.func11
  (witness_row_at (enc:=enc) (C:=Tryz.checked) false (AR os) #[.agg #[.int .i64 0,.int .i64 0,.int .i64 0,.int .i64 0,.int .i64 0,.int .i64 0],.slice none 0 0,.slice none 0 0,.slice none 0 0] rfl (by kernel_rfl) (by kernel_rfl) (by kernel_rfl)
   (OpenSpec.preRow_of_cond 8 hx (by kernel_rfl) (fun k hk=>by cases hk) (by kernel_rfl) (Bl os))) ?_
 intro W base args ds gs before hval hW _ _ _ hL _ _;exact Bk H enc W base args ds gs before hval hW hL
theorem Bw {a b:Bool}(h:a=true)(k:b=true):(a&&b)=true:=by rw[h,k];rfl
set_option maxHeartbeats 8000000 in
theorem closed:joinedFacts Tryz.pinned.checked.prog 11 Tryz.f11 (OpenSpec.ofChange Rows.tCPBlindSegmentsSpec).bare Rows.tCPBlindSegmentsRow=true:=by
 unfold joinedFacts
 repeat' (with_reducible refine Bw ?_ ?_)
 all_goals (as_aux_lemma=>kernel_rfl)
theorem Bs:Tryz.pinned.checked.prog.funcNamed Rows.tCPBlindSegmentsRow.func=some 11:=by kernel_rfl
theorem origin:Tryz.f11.isInstance Tryz.pinned.checked.prog Rows.tCPBlindSegmentsRow.origin Rows.tCPBlindSegmentsRow.targs:=of_decide_eq_true (by kernel_rfl)
theorem wrapper:Tryz.f11.isWrapper Tryz.pinned.checked.prog Rows.tCPBlindSegmentsRow.wrapper Rows.tCPBlindSegmentsRow.mainSum:=by unfold Func.isWrapper;first | (rw[if_pos (by decide +kernel)];kernel_rfl) | (rw[if_neg (by decide +kernel)];exact⟨rfl,rfl⟩)
theorem By:Rows.tCPBlindSegmentsRow.holds Tryz.pinned (OpenSpec.ofChange Rows.tCPBlindSegmentsSpec) :=
 OpenClaim.holds_of_cond 11 Tryz.f11 rfl rfl rfl rfl rfl rfl rfl ⟨rfl,rfl,rfl,rfl,rfl⟩ rfl rfl rfl rfl rfl Bs Tryz.func11 closed origin wrapper
  (fun os started H enc _ F=>by rw[OpenClaim.pre_eq_preRow];exact Bp os started H enc F)
theorem Bq:true=Tryz.pinned.checked.prog.looks []:=by kernel_rfl
theorem Bt:Rows.tCPBlindSegmentsRow.wfByText (OpenSpec.ofChange Rows.tCPBlindSegmentsSpec)=true:=by kernel_rfl
theorem Bz:false=Rows.tCPBlindSegmentsRow.goesBy Tryz.pinned.checked.prog:=by kernel_rfl
theorem Bu (f:FuncId)(fn:Func)(hf:Tryz.pinned.checked.prog.funcNamed "stagepost/stagepostlaw18.TCPBlindSegments" = some f)(hfn:Tryz.pinned.checked.prog.funcs[f]? =some fn) :
  true=Tryz.pinned.checked.prog.looks []/\∀(j:Nat) t,fn.params[j]? =some t->Tryz.pinned.checked.prog.wantsStandIn t=false:=by
 obtain rfl:f=11:=Option.some.inj ((show Tryz.prog.funcNamed "stagepost/stagepostlaw18.TCPBlindSegments" = some 11 by kernel_rfl).symm.trans hf) |>.symm
 obtain rfl:fn=Tryz.f11:=(Option.some.inj (Tryz.func11.symm.trans hfn)).symm;refine⟨Bq,fun j t ht=> ?_⟩;rw[Tryz.params11]at ht;have hm:=Array.mem_of_getElem? ht;have hall:(#[23,24,25,60]:Array TypeId).all (fun t=>Tryz.prog.wantsStandIn t==false)=true:=by kernel_rfl
 exact eq_of_beq (Array.all_eq_true_iff_forall_mem.1 hall t hm)
theorem proved:Rows.TCPBlindSegmentsCardSaid :=
 Claim7.holds_tied_plain_at .later [] _ _ _ _ By (fun _ h=>by cases h) Bt (fun _ h=>by cases h) tCPBlindSegments_row_tie rfl ⟨rfl,rfl⟩ (by kernel_rfl) rfl Bu Bz
end Go.Proofs.YtclkcmidhhfdmaaGreatDoor.tCPBlindSegments
