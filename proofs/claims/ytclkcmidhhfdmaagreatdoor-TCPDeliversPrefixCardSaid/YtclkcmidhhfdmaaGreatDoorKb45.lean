import Derived.Test.YtclkcmidhhfdmaaGreatDoorKb41
import Derived.Test.YtclkcmidhhfdmaaGreatDoorKb43
import Derived.Test.YtclkcmidhhfdmaaGreatDoorKb44
import Derived.Laws.ResultCell
namespace Go.Proofs.YtclkcmidhhfdmaaGreatDoor
open Lib (hid)
section
set_option maxHeartbeats 8000000
set_option maxRecDepth 100000
open Go.RowKit Go.Shelf
theorem tstate_nil (w:World):Calls Tryz.prog 21 #[.pointer none] w fun e w'=>e= .returned (.int .i64 0)/\w=w':=by
 go_enter Tryz.func21,Tryz.ntmps21
 go_wp2
 go_ret;exact ⟨rfl,rfl⟩
theorem terr_nil (w:World):Calls Tryz.prog 32 #[.pointer none] w fun e w'=>e= .returned (.int .i64 1)/\w=w':=by
 go_enter Tryz.func32,Tryz.ntmps32
 go_wp2
 go_ret;exact ⟨rfl,rfl⟩
theorem results_cell1 {fn:Func} {p u:Tmp} {t:TypeId} (h:fn.results= #[.cell p t,.tmp u]) (tmps:Array Value) (P:Program) (w:World) (a:Addr) (v:Value)
  (hp:tmps.getD p undef= .pointer (some a)) (hg:(loadVar t a).run P w= .ok v w) :
  (results fn tmps).run P w= .ok (.tuple #[v,tmps.getD u undef]) w:=by
 have hp':tmps[p]?.getD undef= .pointer (some a):=by simpa using hp
 simp [results,h,hp',asAddr,hg,Result.andThen]
structure Rfs (w:World) (x y:SgM) (W:World):Prop where
 p:SgRow w.heap.size x W
 r:SgRow (w.heap.size+1) y W
 bel:Below w.heap.size w W
namespace Rfs
variable {x y z : SgM} {w W W' : World}
theorem start (x:SgM) (w:World):Rfs w x (sg0,none,0) ((w.alloc (.cells (sgL x).toArray 43)).alloc (.cells (sgL (sg0,none,0)).toArray 43)):=by
 have b0:=(Below.refl w.heap.size w).alloc (Nat.le_refl _) (.cells (sgL x).toArray 43);have r0:=SgRow.new w x;have s0:(w.alloc (.cells (sgL x).toArray 43)).heap.size=w.heap.size+1:=World.size_alloc ..;generalize w.alloc (.cells (sgL x).toArray 43)=w1 at *;have b1:=(Below.refl w1.heap.size w1).alloc (Nat.le_refl _) (.cells (sgL (sg0,none,0)).toArray 43);have r1:=SgRow.new w1 (sg0,none,0);rw [s0] at r1;exact ⟨r0.below b1,r1,b0.trans (b1.mono (by omega))⟩
theorem below (h:Rfs w x y W) (hb:Below W.heap.size W W'):Rfs w x y W':=⟨h.p.below hb,h.r.below hb,h.bel.trans (hb.mono h.bel.size)⟩
theorem put (h:Rfs w x y W) (z:SgM):Rfs w x z (put13 W (w.heap.size+1) z) :=
 have hc:=put13_chg W (w.heap.size+1) z
 ⟨h.p.chg hc (by omega),h.r.put,h.bel.trans ⟨hc.os,hc.tape,hc.output,hc.size,fun k hk=>hc.block k (Nat.lt_of_lt_of_le hk h.bel.size) (by omega)⟩⟩
end Rfs
theorem tresetFor_no (s:Sg) (a:Option Addr) (cap:Nat) (w:World) (hsp:SpAt w w.heap.size a s.bl) (h:s.okB=false∨s.rst=true) :
  Calls Tryz.prog 27 #[sgV s a cap] w fun e w'=>e= .returned (.tuple #[sgV sg0 none 0,.bool false])/\Below w.heap.size w w':=by
 have HS:=hid (Rfs.start (s,a,cap) w);have HSP:=hid hsp;clear hsp;unfold sgV
 go_enter Tryz.func27,Tryz.ntmps27
 go_upto_region 1 with fail
 change Code.wp _ _ _ _ ((w.alloc (.cells (sgL (s,a,cap)).toArray 43)).alloc (.cells (sgL (sg0,none,0)).toArray 43));generalize (w.alloc (.cells (sgL (s,a,cap)).toArray 43)).alloc (.cells (sgL (sg0,none,0)).toArray 43)=w1 at HS ⊢;have q0:=HS.out.p.cell 0 _ rfl;have q1:=HS.out.p.cell 1 _ rfl;have q2:=HS.out.p.cell 2 _ rfl;have q3:=HS.out.p.cell 3 _ rfl;have q4:=HS.out.p.cell 4 _ rfl;have q5:=HS.out.p.cell 5 _ rfl;have q6:=HS.out.p.cell 6 _ rfl;have q7:=HS.out.p.cell 7 _ rfl;have q8:=HS.out.p.cell 8 _ rfl;have q9:=HS.out.p.cell 9 _ rfl;have q10:=HS.out.p.cell 10 _ rfl;have q11:=HS.out.p.cell 11 _ rfl;have q12:=HS.out.p.cell 12 _ rfl;go_wp2_with fail;refine (segValid_any s w.heap.size a cap w1 (HSP.out.below HS.out.bel) HS.out.bel.size).mono ?_;rintro e w2 ⟨rfl,hb⟩;replace HS:=hid (HS.out.below hb);clear hb;clear q0 q1 q2 q3 q4 q5 q6 q7 q8 q9 q10 q11 q12
 cases ho:s.okB with
 | false =>
  have f0:=HS.out.r.free 0;have f1:=HS.out.r.free 1;have f2:=HS.out.r.free 2;have f3:=HS.out.r.free 3;have f4:=HS.out.r.free 4;have f5:=HS.out.r.free 5;have f6:=HS.out.r.free 6;have f7:=HS.out.r.free 7;have f8:=HS.out.r.free 8;have f9:=HS.out.r.free 9;have f10:=HS.out.r.free 10;have f11:=HS.out.r.free 11;have f12:=HS.out.r.free 12;have z0:=HS.out.r.cell 0 _ rfl;have z1:=HS.out.r.cell 1 _ rfl;have z2:=HS.out.r.cell 2 _ rfl;have z3:=HS.out.r.cell 3 _ rfl;have z4:=HS.out.r.cell 4 _ rfl;have z5:=HS.out.r.cell 5 _ rfl;have z6:=HS.out.r.cell 6 _ rfl;have z7:=HS.out.r.cell 7 _ rfl;have z8:=HS.out.r.cell 8 _ rfl;have z9:=HS.out.r.cell 9 _ rfl;have z10:=HS.out.r.cell 10 _ rfl;have z11:=HS.out.r.cell 11 _ rfl;have z12:=HS.out.r.cell 12 _ rfl;go_wp2_with fail;change bodyPost _ _ _ _ _ (put13 w2 (w.heap.size+1) (sg0,none,0));replace HS:=hid (HS.out.put (sg0,none,0));generalize put13 w2 (w.heap.size+1) (sg0,none,0)=w3 at HS ⊢;exact bodyPost_ret (v:=.tuple #[sgV (sg0) none 0,.bool false]) (results_cell1 (p:=2) (u:=3) rfl _ _ _ ⟨w.heap.size+1,0,none⟩ _ rfl (run_loadVar_row _ _ _ _ _ _ _ HS.out.r Tryz.underlying43 rfl (by kernel_rfl))) rfl ⟨rfl,HS.out.bel⟩
 | true =>
  have hr:s.rst=true:=by rcases h with h | h;rw [ho] at h;cases h;exact h
  have r6:=(HS.out.p.cell 6 (.bool s.rst) rfl).trans (by rw [hr]);have f0:=HS.out.r.free 0;have f1:=HS.out.r.free 1;have f2:=HS.out.r.free 2;have f3:=HS.out.r.free 3;have f4:=HS.out.r.free 4;have f5:=HS.out.r.free 5;have f6:=HS.out.r.free 6;have f7:=HS.out.r.free 7;have f8:=HS.out.r.free 8;have f9:=HS.out.r.free 9;have f10:=HS.out.r.free 10;have f11:=HS.out.r.free 11;have f12:=HS.out.r.free 12;have z0:=HS.out.r.cell 0 _ rfl;have z1:=HS.out.r.cell 1 _ rfl;have z2:=HS.out.r.cell 2 _ rfl;have z3:=HS.out.r.cell 3 _ rfl;have z4:=HS.out.r.cell 4 _ rfl;have z5:=HS.out.r.cell 5 _ rfl;have z6:=HS.out.r.cell 6 _ rfl;have z7:=HS.out.r.cell 7 _ rfl;have z8:=HS.out.r.cell 8 _ rfl;have z9:=HS.out.r.cell 9 _ rfl;have z10:=HS.out.r.cell 10 _ rfl;have z11:=HS.out.r.cell 11 _ rfl;have z12:=HS.out.r.cell 12 _ rfl;go_wp2_with fail;change bodyPost _ _ _ _ _ (put13 w2 (w.heap.size+1) (sg0,none,0));replace HS:=hid (HS.out.put (sg0,none,0));generalize put13 w2 (w.heap.size+1) (sg0,none,0)=w3 at HS ⊢;exact bodyPost_ret (v:=.tuple #[sgV (sg0) none 0,.bool false]) (results_cell1 (p:=2) (u:=3) rfl _ _ _ ⟨w.heap.size+1,0,none⟩ _ rfl (run_loadVar_row _ _ _ _ _ _ _ HS.out.r Tryz.underlying43 rfl (by kernel_rfl))) rfl ⟨rfl,HS.out.bel⟩
end
section
set_option maxHeartbeats 8000000
set_option maxRecDepth 100000
open Go.RowKit Go.Shelf
theorem rw0_in:rw0.In:=⟨in0,in0,in0,in0,in0,in0⟩
theorem FatAt.nil (N:Nat) (w:World):FatAt N none [] w:=⟨by decide,(fun x h=>nomatch h),fun h=>absurd h (by decide)⟩
theorem san_facts:((san0.a.c.st=1/\san0.b.c.st=2/\san1.a.c.st=3/\san2.b.c.st=3)/\san5.b.got=[97,104,111]/\san5.b.fin=true/\san5.b.c.st=8)/\san6.a.c.st=0/\san6.b.c.st=0/\san6.a.c.err=0/\san6.b.c.err=0:=by
 have h:=san_ok;rw [Bool.and_eq_true,Bool.and_eq_true,Bool.and_eq_true,Bool.and_eq_true,decide_eq_true_iff,decide_eq_true_iff,decide_eq_true_iff,decide_eq_true_iff] at h;exact ⟨⟨h.1.1.1.1,h.1.1.1.2,h.1.1.2,h.1.2⟩,h.2⟩
theorem taccept_none (now:Int) (c:Cf) (s:Sg) (a:Option Addr) (cap:Nat) (w:World) (hs:s.okB=false) (hb:BlIn w a s.bl) :
  Calls Tryz.prog 48 #[.int .i64 now,cfV c,sgV s a cap] w (NoOpn w):=by
 have HS:=hid hs;have HA:=hid (Arg.start (c:=c) (x:=(s,a,cap)) hb);clear hs hb;unfold cfV sgV
 go_enter Tryz.func48,Tryz.ntmps48
 go_upto_region 1 with fail
 change Code.wp _ _ _ _ ((w.alloc (.cells #[.int .i64 c.fp,.int .i64 c.tp,.int .i64 c.iss,.int .i64 c.mss,.int .i64 c.room,.int .i64 c.keep] 52)).alloc (.cells (sgL (s,a,cap)).toArray 43));generalize ((w.alloc (.cells #[.int .i64 c.fp,.int .i64 c.tp,.int .i64 c.iss,.int .i64 c.mss,.int .i64 c.room,.int .i64 c.keep] 52)).alloc (.cells (sgL (s,a,cap)).toArray 43))=w1 at HA ⊢;have q0:=HA.out.row.cell 0 _ rfl;have q1:=HA.out.row.cell 1 _ rfl;have q2:=HA.out.row.cell 2 _ rfl;have q3:=HA.out.row.cell 3 _ rfl;have q4:=HA.out.row.cell 4 _ rfl;have q5:=HA.out.row.cell 5 _ rfl;have q6:=HA.out.row.cell 6 _ rfl;have q7:=HA.out.row.cell 7 _ rfl;have q8:=HA.out.row.cell 8 _ rfl;have q9:=HA.out.row.cell 9 _ rfl;have q10:=HA.out.row.cell 10 _ rfl;have q11:=HA.out.row.cell 11 _ rfl;have q12:=HA.out.row.cell 12 _ rfl;go_wp2_with fail;refine (tvalid_any s a cap _ HA.out.bl).mono ?_;rintro e w2 ⟨rfl,hb⟩;replace HA:=hid (HA.out.below hb);clear hb q0 q1 q2 q3 q4 q5 q6 q7 q8 q9 q10 q11 q12;rw [HS.out];go_wp2_with fail
 go_ret3
 exact ⟨rfl,HA.out.bel⟩
theorem tsane_any (w:World) (gl:Gl w):Calls Tryz.prog 15 #[] w fun e w'=>e= .returned (.bool true)/\Below w.heap.size w w':=by
 have HG:=hid gl;have HM:=tmeetP_any rw0 [] none 0 3 0 w rw0_in gl (FatAt.nil _ _) (by decide) (by decide);have HP:=hid (parX_ok rw0);have A0:=hid (al0_meet rw0 [] 3 0 (by decide) (by decide) (by decide));obtain ⟨⟨⟨e1,e2,e3,e4⟩,e5,e6,e7⟩,e8,e9,e10,e11⟩:=san_facts;clear gl;have A0:=hid (show Pr.Al (parX rw0) san0 0 from A0.out);have A1:=hid (show Pr.Al (parX rw0) san1 (0+1) from A0.out.tick (by decide) (by decide) HP.out);have A2:=hid (show Pr.Al (parX rw0) san2 (0+1+1) from A1.out.tick (by decide) (by decide) HP.out);have A2s:=hid (A2.out.send false 3);have A3:=hid (show Pr.Al (parX rw0) san3 (0+1+1+1+1) from A2s.out.tick (by decide) (by decide) HP.out);have A3r:=hid (A3.out.recv true (k:=9) (by decide));have A3s:=hid (A3r.out.shut false);have A4:=hid (show Pr.Al (parX rw0) san4 (0+1+1+1+1+1+1+1) from A3s.out.tick (by decide) (by decide) HP.out);have A4r:=hid (A4.out.recv true (k:=9) (by decide));have A5:=hid (show Pr.Al (parX rw0) san5 (0+1+1+1+1+1+1+1+1+1) from A4r.out.shut true)
 go_enter Tryz.func15,Tryz.ntmps15
 go_wp2_with fail;refine HM.mono ?_;rintro e w1 ⟨t,rfl,hpa,hb⟩;have HS:=hid (show PrSt w.heap.size t w1 t san0 w1 from PrSt.start hpa);have HB:=hid hb;have HS0:=hid hpa;clear HM hpa hb;have zc:=HS.out.cell 0 _ rfl;go_wp2_with fail;refine (tstate_any _ _ _ HS.out.pa.a).mono ?_;rintro e wq ⟨rfl,rfl⟩;clear zc;rw [e1];have zc:=HS.out.cell 6 _ rfl;go_wp2_with fail;refine (tstate_any _ _ _ HS.out.pa.b).mono ?_;rintro e wq ⟨rfl,rfl⟩;clear zc;rw [e2];have HC:=ttickP_any _ _ _ _ _ _ HS.out.pa A0.out.run.1 (A0.out.bds (by decide)).1 (A0.out.bds (by decide)).2 A0.out.ml (by have:=A0.out.run.2;omega);rw [HS.out.eB] at HC;go_wp2_with fail;refine HC.mono ?_;rintro e wq ⟨rfl,tq,kq⟩;have HS2:=hid (show PrSt w.heap.size t w1 tq san1 wq from HS.out.trans kq);clear HC HS kq;have HS:=HS2;clear HS2;have zc:=HS.out.cell 0 _ rfl;go_wp2_with fail;refine (tstate_any _ _ _ HS.out.pa.a).mono ?_;rintro e wq ⟨rfl,rfl⟩;clear zc;rw [e3];have HC:=ttickP_any _ _ _ _ _ _ HS.out.pa A1.out.run.1 (A1.out.bds (by decide)).1 (A1.out.bds (by decide)).2 A1.out.ml (by have:=A1.out.run.2;omega);rw [HS.out.eB] at HC;go_wp2_with fail;refine HC.mono ?_;rintro e wq ⟨rfl,tq,kq⟩;have HS2:=hid (show PrSt w.heap.size t w1 tq san2 wq from HS.out.trans kq);clear HC HS kq;have HS:=HS2;clear HS2;have zc:=HS.out.cell 6 _ rfl;go_wp2_with fail;refine (tstate_any _ _ _ HS.out.pa.b).mono ?_;rintro e wq ⟨rfl,rfl⟩;clear zc;rw [e4];have HC:=tsendP_any _ _ _ false 3 _ _ _ HS.out.pa A2.out.run.1 (A2.out.bds (by decide)).1 (A2.out.bds (by decide)).2 A2.out.ml (by decide);rw [HS.out.eB] at HC;go_wp2_with fail;refine HC.mono ?_;rintro e wq ⟨rfl,tq,kq⟩;have HS2:=hid (show PrSt w.heap.size t w1 tq (san2.send false 3) wq from HS.out.trans kq);clear HC HS kq;have HS:=HS2;clear HS2;have HC:=ttickP_any _ _ _ _ _ _ HS.out.pa A2s.out.run.1 (A2s.out.bds (by decide)).1 (A2s.out.bds (by decide)).2 A2s.out.ml (by have:=A2s.out.run.2;omega);rw [HS.out.eB] at HC;go_wp2_with fail;refine HC.mono ?_;rintro e wq ⟨rfl,tq,kq⟩;have HS2:=hid (show PrSt w.heap.size t w1 tq san3 wq from HS.out.trans kq);clear HC HS kq;have HS:=HS2;clear HS2;have HC:=trecvP_any _ _ _ true 9 _ _ _ HS.out.pa A3.out.run.1 (A3.out.bds (by decide)).1 (A3.out.bds (by decide)).2 A3.out.ml (by decide) (Nat.le_trans (A3.out.got true) (by decide));rw [HS.out.eB] at HC;go_wp2_with fail;refine HC.mono ?_;rintro e wq ⟨rfl,tq,kq⟩;have HS2:=hid (show PrSt w.heap.size t w1 tq (san3.recv true 9) wq from HS.out.trans kq);clear HC HS kq;have HS:=HS2;clear HS2;have HC:=tshutP_any _ _ _ false _ _ _ HS.out.pa A3r.out.run.1 (A3r.out.bds (by decide)).1 (A3r.out.bds (by decide)).2 A3r.out.ml;rw [HS.out.eB] at HC;go_wp2_with fail;refine HC.mono ?_;rintro e wq ⟨rfl,tq,kq⟩;have HS2:=hid (show PrSt w.heap.size t w1 tq ((san3.recv true 9).shut false) wq from HS.out.trans kq);clear HC HS kq;have HS:=HS2;clear HS2;have HC:=ttickP_any _ _ _ _ _ _ HS.out.pa A3s.out.run.1 (A3s.out.bds (by decide)).1 (A3s.out.bds (by decide)).2 A3s.out.ml (by have:=A3s.out.run.2;omega);rw [HS.out.eB] at HC;go_wp2_with fail;refine HC.mono ?_;rintro e wq ⟨rfl,tq,kq⟩;have HS2:=hid (show PrSt w.heap.size t w1 tq san4 wq from HS.out.trans kq);clear HC HS kq;have HS:=HS2;clear HS2;have HC:=trecvP_any _ _ _ true 9 _ _ _ HS.out.pa A4.out.run.1 (A4.out.bds (by decide)).1 (A4.out.bds (by decide)).2 A4.out.ml (by decide) (Nat.le_trans (A4.out.got true) (by decide));rw [HS.out.eB] at HC;go_wp2_with fail;refine HC.mono ?_;rintro e wq ⟨rfl,tq,kq⟩;have HS2:=hid (show PrSt w.heap.size t w1 tq (san4.recv true 9) wq from HS.out.trans kq);clear HC HS kq;have HS:=HS2;clear HS2;have HC:=tshutP_any _ _ _ true _ _ _ HS.out.pa A4r.out.run.1 (A4r.out.bds (by decide)).1 (A4r.out.bds (by decide)).2 A4r.out.ml;rw [HS.out.eB] at HC;go_wp2_with fail;refine HC.mono ?_;rintro e wq ⟨rfl,tq,kq⟩;have HS2:=hid (show PrSt w.heap.size t w1 tq san5 wq from HS.out.trans kq);clear HC HS kq;have HS:=HS2;clear HS2;have z9:=(HS.out.cell 9 (.string ⟨san5.b.got.toArray⟩) rfl).trans (show _=some (Value.string ⟨#[97,104,111]⟩) by rw [e5]);have z10:=(HS.out.cell 10 (.bool san5.b.fin) rfl).trans (by rw [e6]);have zc:=HS.out.cell 6 _ rfl;go_wp2_with fail;refine (tstate_any _ _ _ HS.out.pa.b).mono ?_;rintro e wq ⟨rfl,rfl⟩;clear zc;rw [e7];clear z9 z10;go_wp2_with fail
 go_loopg [7] 70 (fun g iv wr=>∃ (k:Nat) (tk:Ft),iv= .int .i64 (k:Int)/\g+k=70/\PrSt w.heap.size t w1 tk (Pr.ticks k san5) wr)
 case atStart=>exact ⟨0,_,rfl,by omega,HS.out⟩
 case round =>
  obtain ⟨k,tk,rfl,hgk,hst⟩:=hrel;clear HS;have HS:=hid hst;clear hst;have HAK:=hid ((Pr.Al.ticksV HP.out k A5.out (by decide) (by omega)).2);by_cases hk:k<70
  ·have HNX:=hid (ticks_snoc k san5);generalize Pr.ticks k san5=pk at HS HAK HNX;have HC:=ttickP_any _ _ _ _ _ _ HS.out.pa HAK.out.run.1 (HAK.out.bds (by omega)).1 (HAK.out.bds (by omega)).2 HAK.out.ml (by have:=HAK.out.run.2;omega);rw [HS.out.eB] at HC;have hki:(k:Int)<70:=by omega
   go_wp2_with fail;refine HC.mono ?_;rintro e wq ⟨rfl,tq,kq⟩;have HS2:=hid (HS.out.trans kq);clear HC HS kq;have HS:=HS2;clear HS2;go_wp2_with fail
   go_roundg (gk-1)
   case measure=>omega
   case rel=>exact ⟨k+1,tq,by first | rfl | go_num | (have e:wrap64 ((k:Int)+1)=((k+1:Nat):Int):=(by unfold wrap64;omega);rw [e]),by omega,by rw [HNX.out];exact HS.out⟩
  have hge:k=70:=by omega
  subst hge;have HS6:=hid (show PrSt w.heap.size t w1 tk san6 wr from HS.out);clear HS;have HS:=HS6;clear HS6 HAK;have zc:=HS.out.cell 0 _ rfl;go_wp2_with fail;refine (tstate_any _ _ _ HS.out.pa.a).mono ?_;rintro e wq ⟨rfl,rfl⟩;clear zc;rw [e8];have zc:=HS.out.cell 6 _ rfl;go_wp2_with fail;refine (tstate_any _ _ _ HS.out.pa.b).mono ?_;rintro e wq ⟨rfl,rfl⟩;clear zc;rw [e9];have zc:=HS.out.cell 0 _ rfl;go_wp2_with fail;refine (terr_any _ _ _ HS.out.pa.a).mono ?_;rintro e wq ⟨rfl,rfl⟩;clear zc;rw [e10];have zc:=HS.out.cell 6 _ rfl;go_wp2_with fail;refine (terr_any _ _ _ HS.out.pa.b).mono ?_;rintro e wq ⟨rfl,rfl⟩;clear zc;rw [e11];have HBB:=hid (HB.out.trans (HS.out.fr.below HB.out.size HS0.out.lo));clear HS HB;have HO:=topen_bad 0 ⟨0,0,0,0,0,0⟩ wr (by decide);go_wp2_with fail;refine HO.mono ?_;rintro e wo ⟨rfl,hb⟩;replace HBB:=hid (HBB.out.trans (hb.mono HBB.out.size));clear hb HO;have HO:=taccept_none 0 ⟨0,0,0,0,0,0⟩ sg0 none 0 wo (by decide) (BlIn.nil _ _);go_wp2_with fail;refine HO.mono ?_;rintro e wp ⟨rfl,hb⟩;replace HBB:=hid (HBB.out.trans (hb.mono HBB.out.size));clear hb HO;have HO:=tresetFor_no ⟨1,2,0,0,false,false,true,false,0,0,false,[],[]⟩ none 0 wp ⟨by decide,fun h=>absurd h (by decide)⟩ (.inr rfl);go_wp2_with fail;refine HO.mono ?_;rintro e wr2 ⟨rfl,hb⟩;replace HBB:=hid (HBB.out.trans (hb.mono HBB.out.size));clear hb HO;dsimp only [sgV,sg0];go_wp2_with fail;refine (tstate_nil _).mono ?_;rintro e wq ⟨rfl,rfl⟩;go_wp2_with fail;refine (terr_nil _).mono ?_;rintro e wq ⟨rfl,rfl⟩;go_wp2_with fail;go_ret;exact ⟨rfl,HBB.out.alloc HBB.out.size _⟩
end
section
open Go.ChangeShapes Go.WideShapes Go.ChangeAt Go.RowKit
theorem FatAt.mono {N N':Nat} {a:Option Addr} {l:List Int} {w:World} (h:FatAt N a l w) (hN:N<=N'):FatAt N' a l w :=
 ⟨h.small,h.in64,fun hl=>by
  obtain ⟨b,o,e,hb,hc⟩:=h.cells hl;exact ⟨b,o,e,Nat.lt_of_lt_of_le hb hN,hc⟩⟩
theorem FatAt.of_row {w:World} {a:Option Addr} {len cap K:Nat} {zs:List Int} (h:IsRow .i64 w a len cap zs) (hK:K<=len) (hS:K<=1000):FatAt w.heap.size a (zs.take K) w/\(zs.take K).length=K:=by
 have hlen:K<=zs.length:=by
  rcases h with ⟨-,h1,h2,h3⟩ | ⟨x,-,h1,h2,h3,-⟩ <;> omega
 have hl:(zs.take K).length=K:=by rw [List.length_take];omega
 refine ⟨⟨by rw [hl];exact hS,fun x hx=> ?_,fun hp=> ?_⟩,hl⟩
 ·rcases h with ⟨-,-,-,h3⟩ | ⟨y,-,-,-,-,-,h5⟩
  ·rw [h3] at hx;simp at hx
  exact bounds_i64 (h5 x (List.mem_of_mem_take hx))
 rw [hl] at hp;obtain ⟨b,off,e,-,hb,hc⟩:=h.at (by omega);refine ⟨b,off,e,hb,fun i hi=> ?_⟩;rw [hl] at hi;have:=(hc i (by omega)).1;rw [this,List.getElem_take,List.getD_eq_getElem?_getD,List.getElem?_eq_getElem (by omega)];rfl
theorem row_cap {w:World} {a:Option Addr} {len cap:Nat} {zs:List Int} (h:IsRow .i64 w a len cap zs):len<=cap/\cap<=maxLen:=by
 rcases h with ⟨-,h1,h2,h3⟩ | ⟨x,-,h1,h2,h3,-⟩
 ·exact ⟨by omega,by unfold maxLen;omega⟩
 exact ⟨h1,h2⟩
theorem row_below {w w':World} {a:Option Addr} {len cap:Nat} {zs:List Int} (h:IsRow .i64 w a len cap zs) {K:Nat} (hK:K<=len) (hS:K<=1000) (hb:Below w.heap.size w w'):FatAt w'.heap.size a (zs.take K) w' :=
 (fatBelow (FatAt.of_row h hK hS).1 hb).mono hb.size
end
end Go.Proofs.YtclkcmidhhfdmaaGreatDoor
