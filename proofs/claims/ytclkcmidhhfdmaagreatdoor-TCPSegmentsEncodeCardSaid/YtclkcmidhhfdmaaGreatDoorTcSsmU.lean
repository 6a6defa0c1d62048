import Derived.Test.YtclkcmidhhfdmaaGreatDoorUb7
import Derived.Deep.LoopGhost
import Derived.BigQuiet
namespace Go.Proofs.YtclkcmidhhfdmaaGreatDoor
open Lib (hid)
set_option maxHeartbeats 8000000
set_option maxRecDepth 100000
open Go.RowKit Go.Shelf
theorem zp {N:Nat}(w:World)(n:Nat):Below N w (w.drewN n) :=
 have h:=Below.refl N w
 ⟨h.os,h.tape,h.output,h.size,h.block⟩
theorem yu (w:World) (n₀:Nat) (g:Sg) (a b:Option Addr) (ca cb:Nat) (S:ByteArray) (hA:SpAt w n₀ a g.bl) (hB:SpAt w n₀ b g.bl) (hn:n₀<=w.heap.size) :
  Calls Tryz.prog 20 #[.agg #[g.fp,g.tp,g.sq,g.ak,g.syn,g.fin,g.rst,g.has,g.win,g.mss,g.sacks,.slice a g.bl.length ca,.string S],.agg #[g.fp,g.tp,g.sq,g.ak,g.syn,g.fin,g.rst,g.has,g.win,g.mss,g.sacks,.slice b g.bl.length cb,.string S]] w fun e w'=>e= .returned true/\Below w.heap.size w w':=by
 obtain⟨fp,tp,sq,ak,syn,fin,rst,has,win,mss,sacks,bl,s⟩:=g;dsimp only at hA hB|-;have hs:=hA.small;have HB:=hid (((Below.refl w.heap.size w).alloc (Nat.le_refl _) (.cells #[fp,tp,sq,ak,syn,fin,rst,has,win,mss,sacks,.slice a bl.length ca,.string S] 43)).alloc (by simp) (.cells #[fp,tp,sq,ak,syn,fin,rst,has,win,mss,sacks,.slice b bl.length cb,.string S] 43));have a3:=hid (hA.below (HB.mono hn));have a4:=hid (hB.below (HB.mono hn));have a2:=hid ((RowB.new w 43 [fp,tp,sq,ak,syn,fin,rst,has,win,mss,sacks,.slice a bl.length ca,.string S]).below ((Below.refl _ _).alloc (Nat.le_refl _) (.cells #[fp,tp,sq,ak,syn,fin,rst,has,win,mss,sacks,.slice b bl.length cb,.string S] 43)));have a1:=hid (RowB.new (w.alloc (.cells #[fp,tp,sq,ak,syn,fin,rst,has,win,mss,sacks,.slice a bl.length ca,.string S] 43)) 43 [fp,tp,sq,ak,syn,fin,rst,has,win,mss,sacks,.slice b bl.length cb,.string S]);clear hA hB
 go_enter Tryz.func20,Tryz.ntmps20
 go_upto_region 1 with fail
 change Code.wp _ _ _ _ ((w.alloc (.cells #[fp,tp,sq,ak,syn,fin,rst,has,win,mss,sacks,.slice a bl.length ca,.string S] 43)).alloc (.cells #[fp,tp,sq,ak,syn,fin,rst,has,win,mss,sacks,.slice b bl.length cb,.string S] 43));rw[World.size_alloc]at a1;generalize ((w.alloc (.cells #[fp,tp,sq,ak,syn,fin,rst,has,win,mss,sacks,.slice a bl.length ca,.string S] 43)).alloc (.cells #[fp,tp,sq,ak,syn,fin,rst,has,win,mss,sacks,.slice b bl.length cb,.string S] 43))=w1 at HB a3 a4 a2 a1|-;have c11:=a2.cell 11 (.slice a bl.length ca) rfl;have e11:=a1.cell 11 (.slice b bl.length cb) rfl;go_wp2_with fail
 go_loopg [5] bl.length (fun g kv wr=>∃(k:Nat),kv=((k:Int):Y)/\g+k=bl.length/\Below w1.heap.size w1 wr)
 case atStart=>exact⟨0,rfl,rfl,Below.refl _ _⟩
 case round =>
  obtain⟨k,rfl,hg,hBl⟩:=hrel;have HW:=hid hBl;have aF:=hid (a2.below hBl);have a0:=hid (a1.below hBl);clear hBl c11 e11;have c11:=aF.cell 11 (.slice a bl.length ca) rfl;have e11:=a0.cell 11 (.slice b bl.length cb) rfl;by_cases hk:k<bl.length
  ·have hkr:(k:Int)<(bl.length:Int):=by omega
   obtain⟨ba,oa,rfl,a6,a5⟩:=(a3.below (HW.mono (Nat.le_trans hn HB.size))).cells (by omega);obtain⟨bb,ob,rfl,hbb,hcb⟩:=(a4.below (HW.mono (Nat.le_trans hn HB.size))).cells (by omega);obtain⟨d0,d1⟩:=a5 k hk;obtain⟨e0,e1⟩:=hcb k hk;clear a5 hcb;go_wp2_with fail
   go_quiet (fail)
   go_wp2_with fail
   go_roundg (gk-1)
   case measure=>omega
   case rel=>exact⟨k+1,by first | go_num | (have hsm:=hs;have e:wrap64 ((k:Int)+1)=((k+1:Nat):Int):=(by unfold wrap64;omega);rw[e]),by omega,HW.trans (zp wr nq)⟩
  have hkr:¬(k:Int)<(bl.length:Int):=by omega
  have c0:=aF.cell 0 fp rfl;have e0:=a0.cell 0 fp rfl;have c1:=aF.cell 1 tp rfl;have e1:=a0.cell 1 tp rfl;have c2:=aF.cell 2 sq rfl;have e2:=a0.cell 2 sq rfl;have c3:=aF.cell 3 ak rfl;have e3:=a0.cell 3 ak rfl;have c4:=aF.cell 4 syn rfl;have e4:=a0.cell 4 syn rfl;have c5:=aF.cell 5 fin rfl;have e5:=a0.cell 5 fin rfl;have c6:=aF.cell 6 rst rfl;have e6:=a0.cell 6 rst rfl;have c7:=aF.cell 7 has rfl;have e7:=a0.cell 7 has rfl;have c8:=aF.cell 8 win rfl;have e8:=a0.cell 8 win rfl;have c9:=aF.cell 9 mss rfl;have e9:=a0.cell 9 mss rfl;have c10:=aF.cell 10 sacks rfl;have e10:=a0.cell 10 sacks rfl;have c12:=aF.cell 12 (.string S) rfl;have e12:=a0.cell 12 (.string S) rfl;go_wp2;go_ret;exact⟨rfl,HB.trans (HW.mono HB.size)⟩
end Go.Proofs.YtclkcmidhhfdmaaGreatDoor
