import Derived.Test.YtclkcmidhhfdmaaGreatDoorUc
import Derived.Test.YtclkcmidhhfdmaaGreatDoorUb1
import Derived.Test.YtclkcmidhhfdmaaGreatDoorWireBitsU
import Derived.Test.YtclkcmidhhfdmaaGreatDoorRows
import Derived.RangeFuncNested
import Derived.RangeFuncBound
import Derived.RangeFuncCalls
import Derived.RangeFuncLeaves
import Derived.Shelf.Abstract
import Derived.Shelf.RegionOpen
import Derived.WalkKit
import Derived.OwnWalkIn
import Derived.TacticsInMore
import Derived.LoopNIn
import Derived.LoopIn
import Derived.Lib.Hide
import Derived.Laws.BitsAllLaws
import Derived.IntWalk
namespace Go.Proofs.YtclkcmidhhfdmaaGreatDoor
open Lib (hid)
set_option maxRecDepth 100000
open Go.RowKit Go.Shelf
attribute [local go_sem] Oper.semAt_some
theorem yk (s:ByteArray)(i:Nat)(h:i<s.size):s.data.toList.getD i 0=s[i]:=by
 rw[List.getD_eq_getElem?_getD,List.getElem?_eq_getElem (by simpa using h)];rfl
theorem yv (s:ByteArray)(k:Nat)(h:2*k+1<s.size):(vp s.data.toList k).val=256*s[2*k].toNat+s[2*k+1].toNat:=by
 show xf _ _=_;unfold xf;rw[yk s _ h,yk s (2*k) (by omega)]
theorem zD (s:ByteArray)(k:Nat)(h:2*k<s.size)(h1:¬2*k+1<s.size):(vp s.data.toList k).val=256*s[2*k].toNat:=by
 show xf _ _=_;unfold xf;rw[yk s _ h,List.getD_eq_getElem?_getD,List.getElem?_eq_none (by simp;omega)];rfl
set_option maxHeartbeats 1000000 in
theorem zE (F:Fence) (n:Nat) (h6:F.fn 177) (hro:F.round=none) (hn:1<=n) (l Bn:Nat) (s:ByteArray) (hs:s.size<=1099511627776) (J Jx:List (Fin 65536)->World->Prop)
  (hY:∀pre x W,J pre W->pre.length<(s.size+1)/2->YieldAt F (n-1) Tryz.prog l #[.int .i64 (x.val:Int)] W fun e W' =>
   (e= .returned true/\J (pre++[x]) W'/\W'.cell? Bn=W.cell? Bn)\/(e= .returned false/\Jx (pre++[x]) W'))
  (W:World) (hBn:W.cell? Bn=some (.string s)) (h0:J [] W) :
  CallsIn F n Tryz.prog 177 #[.func (.yield l) #[] #[],Bn] W fun e W'=>(∃v,e= .returned v) /\
   ((∃ys,ys=gQ s.data.toList ((s.size+1)/2)/\J ys W')\/(∃pre,True/\Jx pre W')):=by
 refine callsIn_of_wp Tryz.func177 rfl h6 ?_ hro;simp only[Tryz.ntmps177,List.size_toArray,List.length_cons,List.length_nil,Nat.reduceAdd,Nat.reduceSub,Array.replicate_succ,Array.replicate_zero,List.push_toArray,List.append_toArray,List.nil_append,List.cons_append]
 gi_wp2
 gi_loopw [3] (fun p wr=>∃k:Nat,p=((2*(k:Int):Int):Y)/\2*k<=s.size+1/\wr.cell? Bn=some (.string s)/\J (gQ s.data.toList k) wr)
  (fun p _=>s.size+1-(intOf p).toNat)
 case atStart =>
  exact⟨0,rfl,by omega,hBn,h0⟩
 case round =>
  obtain⟨k,rfl,hk,hc,hJ⟩:=hrel;by_cases hlt:2*k<s.size
  ·obtain⟨x,hx⟩:∃x,x=vp s.data.toList k:=⟨_,rfl⟩;have HX:=hid hx;clear hx;obtain⟨fn,tmps,assign,body,hy,hR⟩:=hY _ x wr hJ (by rw[rr];omega);by_cases hlt1:2*k+1<s.size
   focus
    have hb0:=s[2*k].toNat_lt;have hb1:=s[2*k+1].toNat_lt
    have aF:bits BinOp.or IntKind.i64 ((s[2*k].toNat:Int)*256) (s[2*k+1].toNat:Int)=((x.val:Nat):Int):=by
     rw[zg _ _ hb0 hb1,HX.o,yv s k hlt1]
   rotate_left 1
   focus
    have hb0:=s[2*k].toNat_lt
    have aF:(s[2*k].toNat:Int)*256=((x.val:Nat):Int):=by
     rw[HX.o,zD s k hlt hlt1];omega
   all_goals
    gi_wp2
    refine hR.mono ?_;rintro e W3 (⟨rfl,hJ3,hk3⟩ | ⟨rfl,hJx3⟩)
    ·have hc3:=hk3.trans hc
     gi_wp2
     go_roundw
     case rel=>exact⟨k+1,by go_num,by omega,hc3,by rw[uf,<-HX.o];exact hJ3⟩
     case measure=>simp[intOf];omega
    gi_wp2
    refine bodyPost_ret (results_none rfl _ _ _) rfl ?_;exact⟨⟨_,rfl⟩,.inr ⟨_,trivial,hJx3⟩⟩
  gi_wp2
  go_end0
  exact⟨⟨_,rfl⟩,.inl ⟨_,rfl,by rw[show(s.size+1)/2=k by omega];exact hJ⟩⟩
end Go.Proofs.YtclkcmidhhfdmaaGreatDoor
