import Derived.Test.YtclkcmidhhfdmaaGreatDoorUb3
import Derived.Test.YtclkcmidhhfdmaaGreatDoorUb4
import Derived.Test.YtclkcmidhhfdmaaGreatDoorRows
import Derived.WalkLawsBesides
import Derived.Laws.Bits64
import Derived.IntWalk
import Derived.RegionTactic
import Derived.BigRegion
import Derived.Deep.RegionWith
import Derived.Deep.RegionHeld3
import Derived.Outline
namespace Go.Proofs.YtclkcmidhhfdmaaGreatDoor
open Lib (hid)
section
open Go.RowKit
def fT (m:Tm):Array Value:= #[m.had,m.trip,m.dev,m.timing,m.goal,m.since,m.backs]
def eT (B:Nat)(m:Tm)(w:World):Prop:=∃t:{ t:TypeId // t=147 },w.heap[B]? =some (.cells (fT m) t.1 (0,0))
theorem eT.cells {B:Nat}{m:Tm}{w:World}(h:eT B m w) :
  w.cell? B=some (m.had:Y)/\w.cell? ⟨B,1,none⟩=some (m.trip:Y)/\w.cell? ⟨B,2,none⟩=some (m.dev:Y)/\w.cell? ⟨B,3,none⟩=some (m.timing:Y)/\w.cell? ⟨B,4,none⟩=some (m.goal:Y)/\w.cell? ⟨B,5,none⟩=some (m.since:Y)/\w.cell? ⟨B,6,none⟩=some (m.backs:Y):=by
 obtain⟨t,ht⟩:=h;refine⟨?_,?_,?_,?_,?_,?_,?_⟩ <;> (rw[cell_of_row _ _ _ _ _ _ ht];rfl)
theorem eT.free {B:Nat}{m:Tm}{w:World}(h:eT B m w)(i:Nat):w.frozen? ⟨B,i,none⟩=false:=by
 obtain⟨t,ht⟩:=h;exact frozen_of_row _ _ _ _ _ ht
theorem eT.lt {B:Nat}{m:Tm}{w:World}(h:eT B m w):B<w.heap.size:=by
 obtain⟨t,ht⟩:=h;exact(Array.getElem?_eq_some_iff.1 ht).1
theorem eT.drew {B:Nat}{m:Tm}{w:World}(h:eT B m w):eT B m w.drew:=h
theorem eT.alloc {B:Nat}{m:Tm}{w:World}(h:eT B m w)(o:Obj):eT B m (w.alloc o):=by
 have hl:=h.lt;obtain⟨t,ht⟩:=h;exact⟨t,by rw[Below.heap_alloc _ _ _ hl];exact ht⟩
theorem eT.set {B:Nat}{m:Tm}{w:World}(h:eT B m w)(i:Nat)(v:Value)(m':Tm)(he:(fT m).setIfInBounds i v=fT m'):eT B m' (w.setCell ⟨B,i,none⟩ v):=by
 obtain⟨t,ht⟩:=h;exact⟨t,by rw[heap_setCell_same _ _ _ _ _ _ ht,he]⟩
theorem eT.below {B:Nat}{m:Tm}{w w':World}(h:eT B m w)(hb:Below w.heap.size w w'):eT B m w':=by
 have hl:=h.lt;obtain⟨t,ht⟩:=h;exact⟨t,by rw[hb.block B hl];exact ht⟩
theorem eT.other {B C:Nat}{m:Tm}{w w':World}(h:eT B m w)(hc:Chg C w w')(hne:B≠C):eT B m w':=by
 obtain⟨t,ht⟩:=h;exact⟨t,hc.other ht hne⟩
theorem eT.new (w:World):eT w.heap.size me (w.alloc (.cells (fT me) 147)):=⟨⟨_,rfl⟩,heap_alloc_new _ _⟩
set_option maxHeartbeats 400000 in
theorem uv (w:World):Calls Tryz.prog 101 #[] w fun e w'=>e= .returned w.heap.size/\w'=w.alloc (.cells (fT me) 147):=by
 go_enter Tryz.func101,Tryz.ntmps101
 go_wp2
 go_ret;exact⟨rfl,rfl⟩
set_option maxHeartbeats 400000 in
theorem kF (B:Nat) (m:Tm) (now n:Int) (w:World) (h:eT B m w) :
  Calls Tryz.prog 103 #[B,now,n] w fun e w'=>e= .returned (.tuple #[])/\eT B (m.sent now n) w'/\Chg B w w':=by
 obtain⟨c0,c1,c2,c3,c4,c5,c6⟩:=h.cells;have f3:=h.free 3;have f4:=h.free 4;have f5:=h.free 5;by_cases ht:m.timing=true
 ·have HM:=hid (show m.sent now n=m by unfold Tm.sent;rw[if_pos ht]);rw[ht]at c3;clear ht
  go_enter Tryz.func103,Tryz.ntmps103
  go_wp2
  exact bodyPost_ret (results_none rfl _ _ _) rfl ⟨rfl,by rw[HM.o];exact h,Chg.refl _ _⟩
 have HM:=hid (show m.sent now n={ m with timing:=true,goal:=n,since:=now } by unfold Tm.sent;rw[if_neg ht]);have ht':m.timing=false:=by simpa using ht
 rw[ht']at c3;clear ht;have HT:=hid ht';clear ht'
 go_enter Tryz.func103,Tryz.ntmps103
 go_wp2
 go_end0
 refine⟨rfl,?_,(((Chg.refl _ _).setCell _ _).setCell _ _).setCell _ _⟩;rw[HM.o];exact((h.set 3 _ { m with timing:=true } rfl).set 4 _ { m with timing:=true,goal:=n } rfl).set 5 _ _ rfl
set_option maxHeartbeats 400000 in
theorem nC (B:Nat) (m:Tm) (w:World) (h:eT B m w) :
  Calls Tryz.prog 71 #[B] w fun e w'=>e= .returned (.tuple #[])/\eT B m.retr w'/\Chg B w w':=by
 obtain⟨c0,c1,c2,c3,c4,c5,c6⟩:=h.cells;have f3:=h.free 3
 go_enter Tryz.func71,Tryz.ntmps71
 go_wp2
 go_end0
 exact⟨rfl,h.set 3 _ _ rfl,(Chg.refl _ _).setCell _ _⟩
theorem pf (s n:Int)(hs1: -9223372036854775808<=s)(hs2:s<=9223372036854775807)(hn1: -9223372036854775808<=n)(hn2:n<=9223372036854775807)(h:s<n) :
  IntKind.u64.wrap (IntKind.u64.wrap n-IntKind.u64.wrap s)=n-s:=by
 rw[IntKind.wrap_u64,IntKind.wrap_u64,IntKind.wrap_u64];omega
set_option maxHeartbeats 400000 in
theorem nD (since now:Int) (hs1: -9223372036854775808<=since) (hs2:since<=9223372036854775807) (hn1: -9223372036854775808<=now) (hn2:now<=9223372036854775807) (w:World) :
  Calls Tryz.prog 155 #[since,now] w fun e w'=>e= .returned (cW since now)/\w=w':=by
 by_cases h1:now<=since
 ·have H:=hid (show(1:Int)=cW since now by unfold cW;rw[if_pos h1])
  go_enter Tryz.func155,Tryz.ntmps155
  go_wp2
  go_ret;exact⟨bk H.out,rfl⟩
 go_enter Tryz.func155,Tryz.ntmps155
 go_wp2
 ·rename_i hx;go_ret;refine⟨bk ?_,rfl⟩;have hd:=pf since now hs1 hs2 hn1 hn2 (by omega);rw[hd]at hx|-;unfold cW;rw[if_neg (by omega),if_pos hx,IntWalk.wrap64_in _ (by omega)]
 rename_i hx;go_ret;refine⟨bk ?_,rfl⟩;have hd:=pf since now hs1 hs2 hn1 hn2 (by omega);rw[hd]at hx;unfold cW;rw[if_neg (by omega),if_neg (by omega)]
set_option maxHeartbeats 800000 in
theorem od (B:Nat) (m:Tm) (r:Int) (h1:1<=r) (h2:r<=1000) (hok:m.Ok) (w:World) (h:eT B m w) :
  Calls Tryz.prog 154 #[B,r] w fun e w'=>e= .returned (.tuple #[])/\eT B (m.sample r) w'/\Chg B w w':=by
 obtain⟨c0,c1,c2,c3,c4,c5,c6⟩:=h.cells;obtain⟨o1,o2,o3,o4,o5,o6⟩:=hok;have f0:=h.free 0;have f1:=h.free 1;have f2:=h.free 2;clear c3 c4 c5 c6;by_cases hh:m.had=true
 ·have HM:=hid (show m.sample r={ m with trip:=m.trip+(r-m.trip/8),dev:=m.dev+(max (r-m.trip/8) (-(r-m.trip/8))-m.dev/4) } by unfold Tm.sample;rw[if_pos hh]);rw[hh]at c0;have HH:=hid hh;clear hh
  go_enter Tryz.func154,Tryz.ntmps154
  go_wp2
  obtain⟨d,hd⟩:∃d,r-m.trip/8=d:=⟨_,rfl⟩;rw[hd]at HM|-;have hd1: -1000<=d:=by omega
  have hd2:d<=1000:=by omega
  clear hd;generalize hw1:w.setCell ⟨B,1,none⟩ (m.trip+d:Int)=W1;have ag:W1.cell? ⟨B,2,none⟩=some (m.dev:Y):=by rw[<-hw1];rw[World.cell?_setCell_other _ _ _ _ (by simp)];exact c2
  have f2':W1.frozen? ⟨B,2,none⟩=false:=by rw[<-hw1,World.frozen?_setCell];exact f2
  have HT:Hid (eT B { m with trip:=m.trip+d } W1):=by rw[<-hw1];exact h.set 1 _ _ rfl
  have HC:Hid (Chg B w W1):=by rw[<-hw1];exact(Chg.refl _ _).setCell _ _
  clear hw1 c0 c1 c2 f0 f1 f2;have e1:IntKind.i64.wrap (-d)= -d:=IntWalk.i64_in _ (by omega);by_cases hneg:d<0
  ·have e2:IntKind.i64.wrap (-d-m.dev/4)= -d-m.dev/4:=IntWalk.i64_in _ (by omega);have e3:IntKind.i64.wrap (m.dev+(-d-m.dev/4))=m.dev+(-d-m.dev/4):=IntWalk.i64_in _ (by omega);have e4:d< -d:=by omega
   go_region
   go_wp2
   go_end0
   refine⟨rfl,?_,(HC.setCell _ _).drew⟩;rw[HM.o,show max d (-d)= -d by omega];exact(HT.set 2 (m.dev+(-d-m.dev/4):Int) { m with trip:=m.trip+d,dev:=m.dev+(-d-m.dev/4) } rfl).drew
  have e2:IntKind.i64.wrap (d-m.dev/4)=d-m.dev/4:=IntWalk.i64_in _ (by omega);have e3:IntKind.i64.wrap (m.dev+(d-m.dev/4))=m.dev+(d-m.dev/4):=IntWalk.i64_in _ (by omega);have e4:¬d< -d:=by omega
  go_region
  go_wp2
  go_end0
  refine⟨rfl,?_,(HC.setCell _ _).drew⟩;rw[HM.o,show max d (-d)=d by omega];exact(HT.set 2 (m.dev+(d-m.dev/4):Int) { m with trip:=m.trip+d,dev:=m.dev+(d-m.dev/4) } rfl).drew
 have hh':m.had=false:=by simpa using hh
 have HM:=hid (show m.sample r={ m with had:=true,trip:=8*r,dev:=2*r } by unfold Tm.sample;rw[if_neg hh]);rw[hh']at c0;clear hh hh'
 go_enter Tryz.func154,Tryz.ntmps154
 go_wp2
 refine bodyPost_ret (results_none rfl _ _ _) rfl ⟨rfl,?_,(((Chg.refl _ _).setCell _ _).setCell _ _).setCell _ _⟩;rw[HM.o];exact((h.set 0 _ { m with had:=true } rfl).set 1 _ { m with had:=true,trip:=8*r } rfl).set 2 _ _ rfl
def dL (n lo hi:Int):Int:=min (max n lo) hi
set_option maxHeartbeats 800000 in
theorem lL (n lo hi:Int) (C:Nat) (w:World) (h0:w.cell? C=some (lo:Y)) (h1:w.cell? ⟨C,1,none⟩=some (hi:Y)) :
  Calls Tryz.prog 118 #[n,.slice (some ⟨C,0,none⟩) 2 2] w fun e w'=>e= .returned (dL n lo hi)/\w'=w.drew:=by
 have e1:IntKind.i64.wrap ((2:Int)-1)=1:=by decide
 have ak:IntKind.i64.wrap 1=1:=by decide
 by_cases ha:n<lo
 ·by_cases hb:hi<lo
  ·have HV:=hid (show hi=dL n lo hi by unfold dL;omega)
   go_enter Tryz.func118,Tryz.ntmps118
   go_wp2
   go_region
   go_wp2
   go_ret;exact⟨bk HV.o,rfl⟩
  have HV:=hid (show lo=dL n lo hi by unfold dL;omega)
  go_enter Tryz.func118,Tryz.ntmps118
  go_wp2
  go_region
  go_wp2
  go_ret;exact⟨bk HV.o,rfl⟩
 by_cases hb:hi<n
 ·have HV:=hid (show hi=dL n lo hi by unfold dL;omega)
  go_enter Tryz.func118,Tryz.ntmps118
  go_wp2
  go_region
  go_wp2
  go_ret;exact⟨bk HV.o,rfl⟩
 have HV:=hid (show n=dL n lo hi by unfold dL;omega)
 go_enter Tryz.func118,Tryz.ntmps118
 go_wp2
 go_region
 go_wp2
 go_ret;exact⟨bk HV.o,rfl⟩
end
section
open Go.RowKit
theorem vx (w:World)(a b:Value)(t:TypeId):(w.alloc (.cells #[a,b] t)).cell? w.heap.size=some a:=by
 rw[cell_of_row _ _ _ _ _ _ (heap_alloc_new _ _)];rfl
theorem vy (w:World)(a b:Value)(t:TypeId):(w.alloc (.cells #[a,b] t)).cell? ⟨w.heap.size,1,none⟩=some b:=by
 rw[cell_of_row _ _ _ _ _ _ (heap_alloc_new _ _)];rfl
set_option maxHeartbeats 800000 in
theorem nE (B:Nat) (m:Tm) (hok:m.Ok) (w:World) (h:eT B m w) :
  Calls Tryz.prog 72 #[B] w fun e w'=>e= .returned (.tuple #[])/\eT B m.backoff w'/\Chg B w w':=by
 obtain⟨c0,c1,c2,c3,c4,c5,c6⟩:=h.cells;obtain⟨o1,o2,o3,o4,o5,o6⟩:=hok;have f6:=h.free 6;have hne:B≠w.heap.size:=by have:=h.lt;omega
 have HV:=hid (show dL (m.backs+1) 0 8=min (m.backs+1) 8 by unfold dL;omega);clear c0 c1 c2 c3 c4 c5
 go_enter Tryz.func72,Tryz.ntmps72
 go_wp2_with fail;refine(lL (m.backs+1) 0 8 w.heap.size _ (vx _ _ _ _) (vy _ _ _ _)).mono ?_;rintro e w1⟨rfl,rfl⟩;rw[HV.o];have h2:=(h.alloc (.cells #[(0:Int),(8:Int)] 3)).drew;have hC:=((Chg.refl B w).alloc (.cells #[(0:Int),(8:Int)] 3)).drew;clear c6 f6;generalize (w.alloc (.cells #[(0:Int),(8:Int)] 3)).drew=W1 at h2 hC|-;obtain⟨c0,c1,c2,c3,c4,c5,c6⟩:=h2.cells;have f6:=h2.free 6;generalize hmm:min (m.backs+1) 8=b8;go_wp2_with fail
 go_end0
 refine⟨rfl,?_,hC.setCell _ _⟩;unfold Tm.backoff;rw[hmm];exact h2.set 6 _ _ rfl
set_option maxHeartbeats 1600000 in
theorem sY (B:Nat) (m:Tm) (hok:m.Ok) (w:World) (h:eT B m w) :
  Calls Tryz.prog 119 #[B] w fun e w'=>e= .returned m.base/\Below w.heap.size w w':=by
 obtain⟨c0,c1,c2,c3,c4,c5,c6⟩:=h.cells;obtain⟨o1,o2,o3,o4,o5,o6⟩:=hok;have hne:B≠w.heap.size:=by have:=h.lt;omega
 clear c3 c4 c5 c6;by_cases hh:m.had=true
 ·have HV:=hid (show dL (m.trip/8+max m.dev 1) 4 240=m.base by unfold dL Tm.base;rw[if_pos hh]);rw[hh]at c0;clear hh;by_cases hm:m.dev<1
  focus
   rw[show max m.dev 1=1 by omega]at HV
   go_enter Tryz.func119,Tryz.ntmps119
   go_wp2_with fail;have e0:m.trip.tdiv 8=m.trip/8:=Int.tdiv_eq_ediv_of_nonneg o1;have a6:IntKind.i64.wrap (m.trip/8)=m.trip/8:=IntWalk.i64_in _ (by omega);have e1:IntKind.i64.wrap (m.trip/8+1)=m.trip/8+1:=IntWalk.i64_in _ (by omega)
  rotate_left 1
  focus
   rw[show max m.dev 1=m.dev by omega]at HV
   go_enter Tryz.func119,Tryz.ntmps119
   go_wp2_with fail;have e0:m.trip.tdiv 8=m.trip/8:=Int.tdiv_eq_ediv_of_nonneg o1;have a6:IntKind.i64.wrap (m.trip/8)=m.trip/8:=IntWalk.i64_in _ (by omega);have e1:IntKind.i64.wrap (m.trip/8+m.dev)=m.trip/8+m.dev:=IntWalk.i64_in _ (by omega)
  all_goals
   have hp0:((w.alloc (.cells #[(4:Int),(240:Int)] 3)).drew).cell? w.heap.size=some ((4:Int):Y):=vx _ _ _ _;have hp1:((w.alloc (.cells #[(4:Int),(240:Int)] 3)).drew).cell? ⟨w.heap.size,1,none⟩=some ((240:Int):Y):=vy _ _ _ _;obtain⟨-,q1,q2,-,-,-,-⟩:=(h.alloc (.cells #[(4:Int),(240:Int)] 3)).cells;have a7:=hid hp0;have a9:=hid hp1;clear hp0 hp1
   go_region_held3 (fun w'=>w'.cell? ⟨B,1,none⟩=some (m.trip:Y)/\w'.cell? ⟨B,2,none⟩=some (m.dev:Y)) (go_keep) (first | (go_at_call 118;refine(lL _ 4 240 w.heap.size _ a7.o a9.o).mono ?_;rintro e w1⟨rfl,rfl⟩))
   all_goals
    rw[HV.o];go_wp2;go_ret;exact⟨rfl,(((Below.refl _ _).alloc (Nat.le_refl _) _).drew).drew⟩
 have hh':m.had=false:=by simpa using hh
 have HV:=hid (show(12:Int)=m.base by unfold Tm.base;rw[if_neg hh]);rw[hh']at c0;clear hh hh'
 go_enter Tryz.func119,Tryz.ntmps119
 go_wp2;go_ret;exact⟨bk HV.o,Below.refl _ _⟩
theorem uw (b:Int)(hb1:4<=b)(hb2:b<=240)(k:Int)(hk1:0<=k)(hk2:k<=8):b*2 ^ k.toNat<=61440/\0<=b*2 ^ k.toNat:=by
 have h:(2:Int) ^ k.toNat<=256/\1<=(2:Int) ^ k.toNat:=by
  rcases(show k=0\/k=1\/k=2\/k=3\/k=4\/k=5\/k=6\/k=7\/k=8 by omega)with rfl | rfl | rfl | rfl | rfl | rfl | rfl | rfl | rfl <;> decide
 constructor
 ·calc b*2 ^ k.toNat<=240*2 ^ k.toNat:=Int.mul_le_mul_of_nonneg_right hb2 (by omega)
   _<=240*256:=Int.mul_le_mul_of_nonneg_left h.1 (by omega)
 exact Int.mul_nonneg (by omega) (by omega)
set_option maxHeartbeats 1600000 in
theorem gV (B:Nat) (m:Tm) (hok:m.Ok) (w:World) (h:eT B m w) :
  Calls Tryz.prog 74 #[B] w fun e w'=>e= .returned m.value/\Below w.heap.size w w':=by
 obtain⟨c0,c1,c2,c3,c4,c5,c6⟩:=h.cells;have aF:=hok;obtain⟨o1,o2,o3,o4,o5,o6⟩:=hok;obtain⟨b1,b2⟩:=m.base_bd;have a0:=h.drew;have hlt:B<w.drew.heap.size:=h.lt;clear c0 c1 c2 c3 c4 c5
 go_enter Tryz.func74,Tryz.ntmps74
 go_wp2_with fail
 go_region_held3 (fun w'=>w'.cell? ⟨B,6,none⟩=some (m.backs:Y)) (first | exact aa | go_keep) (first | (go_at_call 119;refine(sY B m aF _ a0).mono ?_;rintro e w1⟨rfl,hb1⟩;have aa:=(hb1.cell (p:=⟨B,6,none⟩) hlt).trans c6))
 all_goals
  have hv:=uw m.base b1 b2 m.backs o5 o6;have e1:IntKind.i64.wrap (m.base*2 ^ m.backs.toNat)=m.base*2 ^ m.backs.toNat:=IntWalk.i64_in _ (by omega);rw[e1];have hval:m.value=if 240<m.base*2 ^ m.backs.toNat then 240 else m.base*2 ^ m.backs.toNat:=by unfold Tm.value;split <;> omega
  rw[<-hval];go_wp2;go_ret;exact⟨rfl,(Below.refl _ _).drew.trans hb1⟩
end
section
open Go.RowKit
def Tm.Fit (m:Tm):Prop:=m.Ok/\aI m.since
theorem ux:me.Fit:=⟨ru,by unfold aI me;decide⟩
theorem Tm.sent_fit {m:Tm}(h:m.Fit)(now n:Int)(hn:aI now):(m.sent now n).Fit:=⟨Tm.sent_ok h.1 now n,by unfold Tm.sent;split;exact h.2;exact hn⟩
theorem Tm.retr_fit {m:Tm}(h:m.Fit):m.retr.Fit:=h
theorem Tm.sample_since (m:Tm)(r:Int):(m.sample r).since=m.since:=by unfold Tm.sample;split <;> rfl
theorem Tm.acked_fit {m:Tm}(h:m.Fit)(now una:Int):(m.acked now una).Fit:=⟨Tm.acked_ok h.1 now una,by unfold Tm.acked;split;(rw[Tm.sample_since];exact h.2);exact h.2⟩
theorem Tm.backoff_fit {m:Tm}(h:m.Fit):m.backoff.Fit:=⟨Tm.backoff_ok h.1,h.2⟩
set_option maxHeartbeats 1600000 in
theorem lM (B:Nat) (m:Tm) (now una:Int) (hn:aI now) (hok:m.Fit) (w:World) (h:eT B m w) :
  Calls Tryz.prog 109 #[B,now,una] w fun e w'=>e= .returned (.tuple #[])/\eT B (m.acked now una) w'/\Chg B w w':=by
 obtain⟨c0,c1,c2,c3,c4,c5,c6⟩:=h.cells;clear c0 c1 c2;by_cases ht:m.timing=true
 ·by_cases hg:m.goal<=una
  ·have HM:=hid (show m.acked now una=Tm.sample { m with timing:=false,backs:=0 } (cW m.since now) by unfold Tm.acked;rw[if_pos ⟨ht,hg⟩]);rw[ht]at c3;have f3:=h.free 3;have f6:=h.free 6
   have a2:({ m with timing:=false,backs:=0 }:Tm).Ok:=by
    obtain⟨a,b,c,d,e,f⟩:=hok.1;exact⟨a,b,c,d,by dsimp only;omega,by dsimp only;omega⟩
   have ab:=fun W=>nD m.since now hok.2.1 hok.2.2 hn.1 hn.2 W;obtain⟨r1,r2⟩:=jQ m.since now;have ac:=hid a2;clear a2;have hgl:¬una<m.goal:=by omega
   have a3:=((h.set 3 false { m with timing:=false } rfl).set 6 (0:Int) { m with timing:=false,backs:=0 } rfl);have a4:=(((Chg.refl B w).setCell 3 false).setCell 6 (0:Int));have a1:=hid a3;have a5:=hid a4;clear a3 a4
   go_enter Tryz.func109,Tryz.ntmps109
   go_wp2_with fail;obtain⟨W1,hW1⟩:∃W1,(w.setCell ⟨B,3,none⟩ false).setCell ⟨B,6,none⟩ (0:Int)=W1:=⟨_,rfl⟩;rw[hW1]at a1 a5|-;have q5:=a1.cells.2.2.2.2.2.1;have ad:=a1.drew;clear c3 c4 c5 c6 f3 f6 hW1
   go_region_with (first | (go_at_call 155;refine(ab _).mono ?_;rintro e w1⟨rfl,rfl⟩) | (go_at_call 154;refine(od B _ _ r1 r2 ac.o _ ad).mono ?_;rintro e w2⟨rfl,a0,hC2⟩))
   all_goals
    go_end0
    exact⟨rfl,by rw[HM.o];exact a0,a5.drew.trans hC2⟩
  have HM:=hid (show m.acked now una=m by unfold Tm.acked;rw[if_neg (fun x=>hg x.2)]);rw[ht]at c3;have hgl:una<m.goal:=by omega
  go_enter Tryz.func109,Tryz.ntmps109
  go_wp2_with fail;exact bodyPost_ret (results_none rfl _ _ _) rfl ⟨rfl,by rw[HM.o];exact h,Chg.refl _ _⟩
 have HM:=hid (show m.acked now una=m by unfold Tm.acked;rw[if_neg (fun x=>ht x.1)]);have ht':m.timing=false:=by simpa using ht
 rw[ht']at c3;clear ht ht'
 go_enter Tryz.func109,Tryz.ntmps109
 go_wp2_with fail;exact bodyPost_ret (results_none rfl _ _ _) rfl ⟨rfl,by rw[HM.o];exact h,Chg.refl _ _⟩
end
section
open Go.RowKit
set_option maxHeartbeats 400000 in
theorem sZ (x y:Int) (w:World):Calls Tryz.prog 96 #[.int .u32 x,.int .u32 y] w fun e w'=>e= .returned (.int .u32 (IntKind.u32.wrap (x+y)))/\w=w':=by
 go_enter Tryz.func96,Tryz.ntmps96
 go_wp2
 go_ret;exact⟨rfl,rfl⟩
set_option maxHeartbeats 400000 in
theorem qb (x y:Int) (w:World):Calls Tryz.prog 184 #[.int .u32 x,.int .u32 y] w fun e w'=>e= .returned (.int .u32 (IntKind.u32.wrap (x-y)))/\w=w':=by
 go_enter Tryz.func184,Tryz.ntmps184
 go_wp2
 go_ret;exact⟨rfl,rfl⟩
theorem lN (x:Int):IntKind.u32.wrap x=x%4294967296:=by rw[IntKind.wrap_u32]
set_option maxHeartbeats 400000 in
theorem fU (a n:Int) (w:World):Calls Tryz.prog 54 #[a,n] w fun e w'=>e= .returned (bt a n)/\w=w':=by
 go_enter Tryz.func54,Tryz.ntmps54
 go_wp2_with fail;refine(sZ _ _ _).mono ?_;rintro e w1⟨rfl,rfl⟩;rw[lN];go_wp2;go_ret;refine⟨bk ?_,rfl⟩;unfold bt;omega
set_option maxHeartbeats 400000 in
theorem qc (a b:Int) (w:World):Calls Tryz.prog 147 #[a,b] w fun e w'=>e= .returned (.int .u32 ((a-b)%4294967296))/\w=w':=by
 go_enter Tryz.func147,Tryz.ntmps147
 go_wp2_with fail;refine(qb _ _ _).mono ?_;rintro e w1⟨rfl,rfl⟩;rw[lN];go_wp2;go_ret;exact⟨rfl,rfl⟩
set_option maxHeartbeats 400000 in
theorem dA (a b:Int) (w:World):Calls Tryz.prog 106 #[a,b] w fun e w'=>e= .returned (aD a b)/\w=w':=by
 go_enter Tryz.func106,Tryz.ntmps106
 go_wp2_with fail;refine(qc _ _ _).mono ?_;rintro e w1⟨rfl,rfl⟩;go_wp2;go_ret;refine⟨bk ?_,rfl⟩;unfold aD wrap64 wrap32;omega
end
end Go.Proofs.YtclkcmidhhfdmaaGreatDoor
