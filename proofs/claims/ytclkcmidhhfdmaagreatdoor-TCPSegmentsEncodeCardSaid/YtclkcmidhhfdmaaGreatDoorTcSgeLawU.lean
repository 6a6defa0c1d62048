import Derived.Test.YtclkcmidhhfdmaaGreatDoorTcSgeU
import Derived.Test.YtclkcmidhhfdmaaGreatDoorCards
import Derived.Test.YtclkcmidhhfdmaaGreatDoorTie
import Derived.Test.YtclkcmidhhfdmaaGreatDoorRows
import Derived.WalkKit
import Derived.ProofKit
import Derived.OpenShut
import Derived.ShutString
import Derived.ChangeOld
import Derived.Below
import Derived.Deep.DeepHandedRow
namespace Go.Proofs.YtclkcmidhhfdmaaGreatDoor.tCPSegmentsEncode
open Go.ChangeShapes Go.WideShapes Go.ChangeAt Go.RowKit
open Go.ChangeMaps (open_string shut_string)
set_option linter.unusedVariables false
theorem A9:ownKnob Tryz.prog.godebug=none:=by kernel_rfl
theorem yp:laidOutB Tryz.prog=true:=by kernel_rfl
set_option maxRecDepth 100000 in
theorem zb (H:Type) (enc:TypeId×Value->H) (W:World) (base:Nat) (args:Array Value) (ds gs:List (DataW H)) (before:List MemPlace)
  (hval:∀(j:Nat) t v,Tryz.f14.params[j]? =some t->args[j]? =some v->Value.okWide Tryz.prog W .any base t v)
  (hW:DataW.Whole enc Tryz.prog Tryz.f14.params.toList Rows.tCPSegmentsEncodeSpec.vars false W args.toList ds gs before) (hL:laidMetH Tryz.prog Rows.tCPSegmentsEncodeRow.laid W) :
  Calls Tryz.prog 14 args W fun e W'=>∃v,e= .returned v/\Rows.tCPSegmentsEncodeSpec.post enc Tryz.prog Tryz.f14 false true false false W args v W':=by
 have hW':=hW;obtain⟨p,q,a6,hV,rfl,hfz,hnd⟩:=hW;have hA:DataW.TrodAll enc Tryz.prog W 0 (fun _=>true) true Tryz.f14.params.toList args.toList ds p:=a6;rw[Tryz.params14]at hA hval;obtain⟨v0,aa,d0,ab,p0,q0,hargs,rfl,rfl,h0,r0⟩:=trodAll_cons hA;obtain⟨v1,vs1,d1,ds1,p1,q1,rfl,rfl,rfl,h1,r1⟩:=trodAll_cons r0;obtain⟨v2,vs2,d2,ac,p2,q2,rfl,rfl,rfl,h2,r2⟩:=trodAll_cons r1;obtain⟨v3,vs3,d3,ds3,p3,q3,rfl,rfl,rfl,h3,r3⟩:=trodAll_cons r2;obtain⟨v4,ad,d4,ag,p4,q4,rfl,rfl,rfl,h4,r4⟩:=trodAll_cons r3;obtain⟨rfl,rfl,rfl⟩:=trodAll_nil r4;obtain rfl:args= #[v0,v1,v2,v3,v4]:=by cases args;simp_all
 obtain⟨rfl,rfl⟩:=trodVars_none hV;have k0:=h0;have a7:∀x∈p0,x.block<W.heap.size:=by obtain⟨m,hm⟩:=k0;exact DataW.trod_lt m _ _ _ hm
 obtain⟨x0,rfl,w0⟩:=xZ (hval 0 23 v0 rfl rfl) h0;obtain⟨a1,aF,a0,rfl⟩:=okWide_slice Tryz.underlying24 (hval 1 24 v1 rfl rfl);have k1:=h1;have xv:∀x∈p1,x.block<W.heap.size:=by obtain⟨m,hm⟩:=k1;exact DataW.trod_lt m _ _ _ hm
 obtain⟨z1,w1⟩:∃zs,lV .i64 W a1 aF a0 zs:=by
  obtain⟨fuel,hf⟩:=h1
  rcases open_ints Tryz.underlying24 Tryz.underlying3 (by kernel_rfl) hf with⟨hcs,_⟩ | ⟨x,l,c,zs,hcs,_,hl,hm,hz,_,hcell,hwz⟩
  ·simp[Value.cells]at hcs
   obtain⟨rfl,rfl,rfl⟩:=hcs;exact⟨[],.inl ⟨rfl,rfl,rfl,rfl⟩⟩
  simp[Value.cells]at hcs
  obtain⟨rfl,rfl,rfl⟩:=hcs;exact⟨zs,.inr ⟨_,rfl,hl,hm,by simpa using hz,hcell,hwz⟩⟩
 obtain⟨a2,a5,cap2,rfl⟩:=okWide_slice Tryz.underlying25 (hval 2 25 v2 rfl rfl);have k2:=h2;have a9:∀x∈p2,x.block<W.heap.size:=by obtain⟨m,hm⟩:=k2;exact DataW.trod_lt m _ _ _ hm
 obtain⟨z2,w2⟩:=x6 h2;obtain⟨a3,rfl,rfl,rfl,w3⟩:=open_int Tryz.underlying3 (hval 3 3 v3 rfl rfl) h3;obtain⟨a4,rfl,rfl,rfl,w4⟩:=open_int Tryz.underlying3 (hval 4 3 v4 rfl rfl) h4;clear a6;refine(yO W x0 w0 a1 aF a0 z1 w1 a2 a5 cap2 z2 w2 a3 w3 a4 w4 (xC hL)).mono fun e W' ⟨he,bel⟩=> ?_;subst he;exact⟨_,rfl,_,_,_,[],_,[],hW',trodAll_mk1 (shut_bool Tryz.underlying4 _),(trodAll_cons_mk (Below.trod yp (by kernel_rfl) (of_decide_eq_true (by kernel_rfl)) k0 bel a7) (trodAll_cons_mk (Below.trod yp (by kernel_rfl) (of_decide_eq_true (by kernel_rfl)) k1 bel xv) (trodAll_cons_mk (Below.trod yp (by kernel_rfl) (of_decide_eq_true (by kernel_rfl)) k2 bel a9) (trodAll_cons_mk (shut_int Tryz.underlying3 w3) (trodAll_cons_mk (shut_int Tryz.underlying3 w4) trodAll_mk0))))),rfl,bel.frame _,fun h=>by cases h⟩
theorem zy (os:Os){H:Type}(enc:TypeId×Value->H):∃places,DataW.whole enc Tryz.prog ((xD os).forCall (fun _ _=>0) ⟨#[],#[.agg #[.int .i64 0,.int .i64 0,.int .i64 0,.int .i64 0,.int .i64 0,.int .i64 0],.slice none 0 0,.slice none 0 0,.int .i64 0,.int .i64 0],[]⟩).memory Tryz.f14.params.toList Rows.tCPSegmentsEncodeSpec.vars false (#[.agg #[.int .i64 0,.int .i64 0,.int .i64 0,.int .i64 0,.int .i64 0,.int .i64 0],.slice none 0 0,.slice none 0 0,.int .i64 0,.int .i64 0]:Array Value).toList 8=some ([.agg [.lit (.int .i64 0),.lit (.int .i64 0),.lit (.int .i64 0),.lit (.int .i64 0),.lit (.int .i64 0),.lit (.int .i64 0)],.nil,.nil,.lit (.int .i64 0),.lit (.int .i64 0)],[],places) :=
 ⟨[],by kernel_rfl⟩
theorem zd (os:Os):laidMet Tryz.prog Rows.tCPSegmentsEncodeRow.laid ((xD os).forCall (fun _ _=>0) ⟨#[],#[.agg #[.int .i64 0,.int .i64 0,.int .i64 0,.int .i64 0,.int .i64 0,.int .i64 0],.slice none 0 0,.slice none 0 0,.int .i64 0,.int .i64 0],[]⟩).memory :=
 laidMet_of_run' 8 (by kernel_rfl) (by kernel_rfl)
set_option maxRecDepth 100000 in
theorem zu (os:Os) (started:os.Started) (H:Type) (enc:TypeId×Value->H) (F:Stop.Interp) :
  ReturnsInHanded {} Tryz.checked os 14 .any ((OpenSpec.ofChange Rows.tCPSegmentsEncodeSpec).preRow enc Tryz.prog Tryz.f14 Rows.tCPSegmentsEncodeRow.domain false Rows.tCPSegmentsEncodeRow.laid) (((OpenSpec.ofChange Rows.tCPSegmentsEncodeSpec).at F).post enc Tryz.prog Tryz.f14 false true false false):=by
 obtain⟨places,hx⟩:=zy os enc
 refine returnsInHanded_of_row (C:=Tryz.checked) (s:=(OpenSpec.ofChange Rows.tCPSegmentsEncodeSpec)) A9 started (by kernel_rfl) Tryz.func14
  (witness_row_at (enc:=enc) (C:=Tryz.checked) false (xD os) #[.agg #[.int .i64 0,.int .i64 0,.int .i64 0,.int .i64 0,.int .i64 0,.int .i64 0],.slice none 0 0,.slice none 0 0,.int .i64 0,.int .i64 0] rfl (by kernel_rfl) (by kernel_rfl) (by kernel_rfl)
   (OpenSpec.preRow_of_cond 8 hx (by kernel_rfl) (fun k hk=>by cases hk) (by kernel_rfl) (zd os))) ?_
 intro W base args ds gs before hval hW _ _ _ hL _ _;exact zb H enc W base args ds gs before hval hW hL
theorem AN {a b:Bool}(h:a=true)(k:b=true):(a&&b)=true:=by rw[h,k];rfl
set_option maxHeartbeats 8000000 in
theorem zv:joinedFacts Tryz.pinned.checked.prog 14 Tryz.f14 (OpenSpec.ofChange Rows.tCPSegmentsEncodeSpec).bare Rows.tCPSegmentsEncodeRow=true:=by
 unfold joinedFacts
 repeat' (with_reducible refine AN ?_ ?_)
 all_goals (as_aux_lemma=>kernel_rfl)
theorem zz:Tryz.pinned.checked.prog.funcNamed Rows.tCPSegmentsEncodeRow.func=some 14:=by kernel_rfl
theorem origin:Tryz.f14.isInstance Tryz.pinned.checked.prog Rows.tCPSegmentsEncodeRow.origin Rows.tCPSegmentsEncodeRow.targs:=of_decide_eq_true (by kernel_rfl)
theorem wrapper:Tryz.f14.isWrapper Tryz.pinned.checked.prog Rows.tCPSegmentsEncodeRow.wrapper Rows.tCPSegmentsEncodeRow.mainSum:=by unfold Func.isWrapper;first | (rw[if_pos (by decide +kernel)];kernel_rfl) | (rw[if_neg (by decide +kernel)];exact⟨rfl,rfl⟩)
theorem AO:Rows.tCPSegmentsEncodeRow.holds Tryz.pinned (OpenSpec.ofChange Rows.tCPSegmentsEncodeSpec) :=
 OpenClaim.holds_of_cond 14 Tryz.f14 rfl rfl rfl rfl rfl rfl rfl ⟨rfl,rfl,rfl,rfl,rfl⟩ rfl rfl rfl rfl rfl zz Tryz.func14 zv origin wrapper
  (fun os started H enc _ F=>by rw[OpenClaim.pre_eq_preRow];exact zu os started H enc F)
theorem zw:true=Tryz.pinned.checked.prog.looks []:=by kernel_rfl
theorem AA:Rows.tCPSegmentsEncodeRow.wfByText (OpenSpec.ofChange Rows.tCPSegmentsEncodeSpec)=true:=by kernel_rfl
theorem AP:false=Rows.tCPSegmentsEncodeRow.goesBy Tryz.pinned.checked.prog:=by kernel_rfl
theorem AB (f:FuncId)(fn:Func)(hf:Tryz.pinned.checked.prog.funcNamed "stagepost/stagepostlaw18.TCPSegmentsEncode" = some f)(hfn:Tryz.pinned.checked.prog.funcs[f]? =some fn) :
  true=Tryz.pinned.checked.prog.looks []/\∀(j:Nat) t,fn.params[j]? =some t->Tryz.pinned.checked.prog.wantsStandIn t=false:=by
 obtain rfl:f=14:=Option.some.inj ((show Tryz.prog.funcNamed "stagepost/stagepostlaw18.TCPSegmentsEncode" = some 14 by kernel_rfl).symm.trans hf) |>.symm
 obtain rfl:fn=Tryz.f14:=(Option.some.inj (Tryz.func14.symm.trans hfn)).symm;refine⟨zw,fun j t ht=> ?_⟩;rw[Tryz.params14]at ht;have hm:=Array.mem_of_getElem? ht;have hall:(#[23,24,25,3,3]:Array TypeId).all (fun t=>Tryz.prog.wantsStandIn t==false)=true:=by kernel_rfl
 exact eq_of_beq (Array.all_eq_true_iff_forall_mem.1 hall t hm)
theorem proved:Rows.TCPSegmentsEncodeCardSaid :=
 Claim7.holds_tied_plain_at .later [] _ _ _ _ AO (fun _ h=>by cases h) AA (fun _ h=>by cases h) tCPSegmentsEncode_row_tie rfl ⟨rfl,rfl⟩ (by kernel_rfl) rfl AB AP
end Go.Proofs.YtclkcmidhhfdmaaGreatDoor.tCPSegmentsEncode
