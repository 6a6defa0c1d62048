import Derived.Test.YtclkcmidhhfdmaaGreatDoorUb3
import Derived.Test.YtclkcmidhhfdmaaGreatDoorUb4
import Derived.Test.YtclkcmidhhfdmaaGreatDoorUb15
import Derived.Test.YtclkcmidhhfdmaaGreatDoorChecked
import Derived.LaidEql
import Derived.Stop.Asserts
import Derived.RowKitTokens
import Derived.Test.YtclkcmidhhfdmaaGreatDoorRows
import Derived.WalkLawsBesides
import Derived.IntWalk
import Derived.RegionTactic
import Derived.BigRegion
import Derived.Deep.RegionWith
import Derived.Deep.RegionHeld3
import Derived.Outline
import Derived.Deep.QuietTactic
import Derived.BigQuiet
namespace Go.Proofs.YtclkcmidhhfdmaaGreatDoor
open Lib (hid)
section
open Go.RowKit Go.Extern.Stop Go.Stop Go.Extern
theorem wQ (b:Addr)(w:World) :
  Calls Tryz.prog 127 #[.nilIface,.iface 272 (.pointer (some b))] w fun e w'=>e= .returned false/\w=w':=by
 have hn:=run_eql_iface_nil_left (P:=Tryz.prog) w 272 (.pointer (some b)) Tryz.underlying159
 go_enter Tryz.func127,Tryz.ntmps127
 go_wp2
 go_ret;exact⟨rfl,rfl⟩
end
section
set_option maxRecDepth 100000
open Go.RowKit
def mM (c:Cg):Array Value:= #[c.mss,c.win,c.thr,c.on,c.pt,.func (.func 140) #[] #[],.func (.func 141) #[] #[]]
def dj (B:Nat)(c:Cg)(w:World):Prop:=∃t:{ t:TypeId // t=168 },w.heap[B]? =some (.cells (mM c) t.1 (0,0))
theorem dj.cells {B:Nat}{m:Cg}{w:World}(h:dj B m w) :
  w.cell? B=some (m.mss:Y)/\w.cell? ⟨B,1,none⟩=some (m.win:Y)/\w.cell? ⟨B,2,none⟩=some (m.thr:Y)/\w.cell? ⟨B,3,none⟩=some (m.on:Y)/\w.cell? ⟨B,4,none⟩=some (m.pt:Y)/\w.cell? ⟨B,5,none⟩=some (.func (.func 140) #[] #[])/\w.cell? ⟨B,6,none⟩=some (.func (.func 141) #[] #[]):=by
 obtain⟨t,ht⟩:=h;refine⟨?_,?_,?_,?_,?_,?_,?_⟩ <;> (rw[cell_of_row _ _ _ _ _ _ ht];rfl)
theorem dj.free {B:Nat}{m:Cg}{w:World}(h:dj B m w)(i:Nat):w.frozen? ⟨B,i,none⟩=false:=by
 obtain⟨t,ht⟩:=h;exact frozen_of_row _ _ _ _ _ ht
theorem dj.lt {B:Nat}{m:Cg}{w:World}(h:dj B m w):B<w.heap.size:=by
 obtain⟨t,ht⟩:=h;exact(Array.getElem?_eq_some_iff.1 ht).1
theorem dj.drew {B:Nat}{m:Cg}{w:World}(h:dj B m w):dj B m w.drew:=h
theorem dj.below {B:Nat}{m:Cg}{w w':World}(h:dj B m w)(hb:Below w.heap.size w w'):dj B m w':=by
 have hl:=h.lt;obtain⟨t,ht⟩:=h;exact⟨t,by rw[hb.block B hl];exact ht⟩
theorem dj.alloc {B:Nat}{m:Cg}{w:World}(h:dj B m w)(o:Obj):dj B m (w.alloc o):=h.below ((Below.refl _ _).alloc (Nat.le_refl _) _)
theorem dj.set {B:Nat}{m:Cg}{w:World}(h:dj B m w)(i:Nat)(v:Value)(m':Cg)(he:(mM m).setIfInBounds i v=mM m'):dj B m' (w.setCell ⟨B,i,none⟩ v):=by
 obtain⟨t,ht⟩:=h;exact⟨t,by rw[heap_setCell_same _ _ _ _ _ _ ht,he]⟩
theorem dj.other {B C:Nat}{m:Cg}{w w':World}(h:dj B m w)(hc:Chg C w w')(hne:B≠C):dj B m w':=by
 obtain⟨t,ht⟩:=h;exact⟨t,hc.other ht hne⟩
def ky (a:Addr)(w:World):Prop:=w.cell? ⟨0,0,none⟩=some (.iface 272 (.pointer (some a)))/\0<w.heap.size
theorem ky.below {a:Addr}{w w':World}{N:Nat}(h:ky a w)(hb:Below N w w')(hN:0<N):ky a w' :=
 ⟨(hb.cell (p:=⟨0,0,none⟩) hN).trans h.1,Nat.lt_of_lt_of_le h.2 hb.size⟩
set_option maxHeartbeats 400000 in
theorem xB (m:Int) (a:Addr) (w:World) (h:ky a w) (hm:m<28\/1024<m) :
  Calls Tryz.prog 128 #[m] w fun e w'=>e= .returned (.iface 272 (.pointer (some a)))/\w=w':=by
 have h0:=h.1;clear h;by_cases c:m<28
 ·go_enter Tryz.func128,Tryz.ntmps128
  go_wp2
  go_ret;exact⟨rfl,rfl⟩
 have c2:1024<m:=by omega
 clear hm
 go_enter Tryz.func128,Tryz.ntmps128
 go_wp2
 go_ret;exact⟨rfl,rfl⟩
set_option maxHeartbeats 400000 in
theorem oy (m:Int) (w:World) (h1:28<=m) (h2:m<=1024) :
  Calls Tryz.prog 128 #[m] w fun e w'=>e= .returned .nilIface/\w=w':=by
 go_enter Tryz.func128,Tryz.ntmps128
 go_wp2
 go_ret;exact⟨rfl,rfl⟩
set_option maxHeartbeats 400000 in
theorem fc (x y:Int) (C:Nat) (w:World) (h:w.cell? C=some (y:Y)) :
  Calls Tryz.prog 178 #[x,.slice (some ⟨C,0,none⟩) 1 1] w fun e w'=>e= .returned (max x y:Int)/\w=w':=by
 by_cases c:x<y
 ·have HV:=hid (show y=max x y by omega)
  go_enter Tryz.func178,Tryz.ntmps178
  go_wp2
  refine wp_loop_rounds 2 ?_;rw[rounds_succ]
  go_wp2
  rw[rounds_succ]
  go_wp2
  go_ret;exact⟨bk HV.o,rfl⟩
 have HV:=hid (show x=max x y by omega)
 go_enter Tryz.func178,Tryz.ntmps178
 go_wp2
 refine wp_loop_rounds 2 ?_;rw[rounds_succ]
 go_wp2
 rw[rounds_succ]
 go_wp2
 go_ret;exact⟨bk HV.o,rfl⟩
set_option maxHeartbeats 400000 in
theorem i7 (B:Nat) (c:Cg) (hok:c.Ok) (w:World) (h:dj B c w) :
  Calls Tryz.prog 191 #[B] w fun e w'=>e= .returned c.on/\w=w':=by
 obtain⟨c0,c1,c2,c3,c4,c5,c6⟩:=h.cells;by_cases ho:c.on=true
 ·rw[ho]at c3|-;clear ho
  go_enter Tryz.func191,Tryz.ntmps191
  go_wp2
  go_ret;exact⟨rfl,rfl⟩
 have ho':c.on=false:=by simpa using ho
 rw[hok.2.2.2.2.2.2.2 ho']at c4;rw[ho']at c3|-;clear ho ho'
 go_enter Tryz.func191,Tryz.ntmps191
 go_wp2
 go_ret;exact⟨rfl,rfl⟩
theorem qt (w:World):(binOp .neq 166 (.func (.func 140) #[] #[]) .nilFunc).run Tryz.prog w= .ok true w:=by kernel_rfl
theorem oz (w:World):(binOp .neq 166 (.func (.func 141) #[] #[]) .nilFunc).run Tryz.prog w= .ok true w:=by kernel_rfl
set_option maxHeartbeats 400000 in
theorem i8 (B:Nat) (c:Cg) (w:World) (h:dj B c w) :
  Calls Tryz.prog 126 #[B] w fun e w'=>e= .returned true/\w=w':=by
 obtain⟨c0,c1,c2,c3,c4,c5,c6⟩:=h.cells;have n1:=qt;have n2:=oz
 go_enter Tryz.func126,Tryz.ntmps126
 go_wp2;go_ret;exact⟨rfl,rfl⟩
set_option maxHeartbeats 400000 in
theorem kH (B:Nat) (c:Cg) (f:Int) (hf:aI f) (hok:c.Ok) (w:World) (h:dj B c w) :
  Calls Tryz.prog 169 #[B,f] w fun e w'=>e= .returned (.tuple #[])/\dj B { c with thr:=dF c.mss f } w'/\Chg B w w':=by
 obtain⟨c0,c1,c2,c3,c4,c5,c6⟩:=h.cells;obtain⟨m1,m2,-⟩:=hok;obtain⟨f1,f2⟩:=hf
 go_enter Tryz.func169,Tryz.ntmps169
 go_wp2_with fail;refine(fc (f.tdiv 2) (2*c.mss) w.heap.size _ (by rw[cell_of_row _ _ _ _ _ _ (heap_alloc_new _ _)];rfl)).mono ?_;rintro e w1⟨rfl,rfl⟩;have hA:=h.alloc (.cells #[(2*c.mss:Int)] 3);have hC:=(Chg.refl B w).alloc (.cells #[(2*c.mss:Int)] 3);have g2:=hA.free 2;clear c0 c1 c2 c3 c4 c5 c6;obtain⟨c0,c1,c2,c3,c4,c5,c6⟩:=hA.cells;generalize w.alloc (.cells #[(2*c.mss:Int)] 3)=W1 at *;clear c0 c1 c3 c4 c5 c6;have HX:=hid (show dF c.mss f=min (max (f.tdiv 2) (2*c.mss)) 65535 from rfl);generalize max (f.tdiv 2) (2*c.mss)=x at *;by_cases hx:65535<x
 ·have HV:=hid (show dF c.mss f=65535 by rw[HX.o];omega);go_wp2_with fail
  go_end0
  exact⟨rfl,by rw[HV.o];exact hA.set 2 _ _ rfl,hC.setCell _ _⟩
 have HV:=hid (show dF c.mss f=x by rw[HX.o];omega);go_wp2_with fail
 go_end0
 exact⟨rfl,by rw[HV.o];exact hA.set 2 _ _ rfl,hC.setCell _ _⟩
set_option maxHeartbeats 400000 in
theorem lW (B:Nat) (c:Cg) (n:Int) (h1:0<=n) (h2:n<=10000000) (hok:c.Ok) (w:World) (h:dj B c w) :
  Calls Tryz.prog 193 #[B,n] w fun e w'=>e= .returned (.tuple #[])/\dj B { c with win:=min (c.win+n) 65535 } w'/\Chg B w w':=by
 obtain⟨c0,c1,c2,c3,c4,c5,c6⟩:=h.cells;obtain⟨-,-,m1,m2,-⟩:=hok;have g1:=h.free 1;by_cases hh:65535<c.win+n
 ·have HV:=hid (show min (c.win+n) 65535=65535 by omega)
  go_enter Tryz.func193,Tryz.ntmps193
  go_wp2_with fail
  go_end0
  exact⟨rfl,by rw[HV.o];exact h.set 1 _ _ rfl,(Chg.refl _ _).setCell _ _⟩
 have HV:=hid (show min (c.win+n) 65535=c.win+n by omega)
 go_enter Tryz.func193,Tryz.ntmps193
 go_wp2_with fail
 go_end0
 exact⟨rfl,by rw[HV.o];exact h.set 1 _ _ rfl,(Chg.refl _ _).setCell _ _⟩
set_option maxHeartbeats 400000 in
theorem tK (B:Nat) (c:Cg) (n:Int) (w:World) (h:dj B c w) :
  Calls Tryz.prog 140 #[B,n] w fun e w'=>e= .returned (min n c.mss:Int)/\w=w':=by
 obtain⟨c0,c1,c2,c3,c4,c5,c6⟩:=h.cells;by_cases hh:c.mss<n
 ·have HV:=hid (show c.mss=min n c.mss by omega)
  go_enter Tryz.func140,Tryz.ntmps140
  go_wp2;go_ret;exact⟨bk HV.o,rfl⟩
 have HV:=hid (show n=min n c.mss by omega)
 go_enter Tryz.func140,Tryz.ntmps140
 go_wp2;go_ret;exact⟨bk HV.o,rfl⟩
theorem xi (w:World)(a:Value)(t:TypeId):((w.alloc (.cells #[a] t)).drew).cell? w.heap.size=some a:=by
 show(w.alloc (.cells #[a] t)).cell? w.heap.size=some a;rw[cell_of_row _ _ _ _ _ _ (heap_alloc_new _ _)];rfl
theorem xj (w:World)(b a:Value)(t:TypeId):(((w.alloc (.cells #[b] t)).alloc (.cells #[a] t)).drew).cell? ⟨w.heap.size+1,0,none⟩=some a:=by
 show((w.alloc (.cells #[b] t)).alloc (.cells #[a] t)).cell? ⟨w.heap.size+1,0,none⟩=some a;have h:=heap_alloc_new (w.alloc (.cells #[b] t)) (.cells #[a] t);rw[show(w.alloc (.cells #[b] t)).heap.size=w.heap.size+1 by simp]at h;rw[cell_of_row _ _ _ _ _ _ h];rfl
set_option maxHeartbeats 400000 in
theorem qu (B:Nat) (c:Cg) (n:Int) (hok:c.Ok) (w:World) (h:dj B c w) :
  Calls Tryz.prog 141 #[B,n] w fun e w'=>e= .returned (gv c.mss c.win)/\Below w.heap.size w w':=by
 obtain⟨c0,c1,c2,c3,c4,c5,c6⟩:=h.cells;obtain⟨m1,m2,m3,m4,-⟩:=hok
 go_enter Tryz.func141,Tryz.ntmps141
 go_wp2_with fail;obtain⟨a1,a2,a3,a4,a5,a6⟩:=jD m1 m2 m3;have e1:IntKind.i64.wrap (c.mss*c.mss)=c.mss*c.mss:=IntWalk.i64_in _ (by omega);have e2:max 1 c.win=c.win:=by omega
 have e3:(c.mss*c.mss).tdiv c.win=c.mss*c.mss/c.win:=Int.tdiv_eq_ediv_of_nonneg a3;have e4:IntKind.i64.wrap (c.mss*c.mss/c.win)=c.mss*c.mss/c.win:=IntWalk.i64_in _ (by omega);clear c2 c3 c4 c5 c6;have hz1:(c.win==0)=false:=by rw[beq_eq_false_iff_ne];omega
 have hz2:c.win≠0:=by omega
 have ac:=hid (xi w c.win 3);have ad:=hid (xj w c.win (c.mss*c.mss/c.win:Int) 3)
 go_region_held3 (fun w'=>w'.cell? B=some (c.mss:Y)/\w'.cell? ⟨B,1,none⟩=some (c.win:Y)) (go_keep) (first | (go_at_call 178;((with_reducible refine(fc 1 c.win w.heap.size _ ac.o).mono ?_);rintro e w1⟨rfl,rfl⟩)) | (go_at_call 178;((with_reducible refine(fc 1 (c.mss*c.mss/c.win) (w.heap.size+1) _ ad.o).mono ?_);rintro e w1⟨rfl,rfl⟩)))
 all_goals
  go_wp2;go_ret;exact⟨rfl,(((Below.refl _ _).alloc (Nat.le_refl _) _).alloc (by simp) _).drew⟩
end
section
open Go.RowKit
theorem qs {P:Program}{f:FuncId}{args:Array Value}{w:World}{n:Nat}{v:Value}
  (h:Calls P f args (w.drewN n) fun e w'=>e= .returned v/\w.drewN n=w'):Calls P f args (w.drewN n) fun e w''=>e= .returned v/\∃m,w''=w.drewN m :=
 h.mono fun _ _ ⟨he,hm⟩=>⟨he,n,hm.symm⟩
theorem dj.drewN {B:Nat}{m:Cg}{w:World}(h:dj B m w)(n:Nat):dj B m (w.drewN n):=h
theorem ky.drewN {a:Addr}{w:World}(h:ky a w)(n:Nat):ky a (w.drewN n):=h
theorem Chg.drewN {B:Nat}{a w:World}(h:Chg B a w)(n:Nat):Chg B a (w.drewN n):=⟨h.os,h.tape,h.output,h.size,h.block⟩
set_option maxHeartbeats 800000 in
theorem nV (m:Int) (a:Addr) (w:World) (he:ky a w) (h1:28<=m) (h2:m<=1024) :
  Calls Tryz.prog 99 #[m] w fun e w'=>e= .returned (.tuple #[w.heap.size,(0:Int)])/\dj w.heap.size (wI m) w'/\Below w.heap.size w w':=by
 have h0:=he.1
 go_enter Tryz.func99,Tryz.ntmps99
 go_wp2_with fail
 go_region_with (first | (go_at_call 128;refine(oy m _ (by omega) (by omega)).mono ?_;rintro e w1⟨rfl,rfl⟩) | (go_at_call 127;refine(wQ a _).mono ?_;rintro e w1⟨rfl,rfl⟩))
 all_goals
  go_wp2_with fail
  go_ret2
  refine⟨rfl,?_,?_⟩
  ·exact⟨⟨_,rfl⟩,heap_alloc_new _ _⟩
  ·exact((Below.refl _ _).alloc (Nat.le_refl _) _).drew
set_option maxHeartbeats 800000 in
theorem iD (B:Nat) (c:Cg) (w:World) (h:dj B c w) :
  Calls Tryz.prog 199 #[B] w fun e w'=>e= .returned c.win/\w=w':=by
 go_enter Tryz.func199,Tryz.ntmps199
 go_wp2_with fail;refine(i8 B c _ h).mono ?_;rintro e w1⟨rfl,rfl⟩;obtain⟨c0,c1,c2,c3,c4,c5,c6⟩:=h.cells;go_wp2;go_ret;exact⟨rfl,rfl⟩
set_option maxHeartbeats 800000 in
theorem tL (B:Nat) (c:Cg) (f n:Int) (hf:aI f) (hok:c.Ok) (w:World) (h:dj B c w) :
  Calls Tryz.prog 162 #[B,f,n] w fun e w'=>e= .returned (!c.on)/\dj B (c.lost f n) w'/\Chg B w w':=by
 go_enter Tryz.func162,Tryz.ntmps162
 go_wp2_with fail;refine(i8 B c _ h).mono ?_;rintro e w1⟨rfl,rfl⟩;go_wp2_with fail;refine(i7 B c hok _ h).mono ?_;rintro e w2⟨rfl,rfl⟩;have hC:Chg B w w:=Chg.refl _ _;by_cases ho:c.on=true
 ·have HM:=hid (show c.lost f n=c by unfold Cg.lost;rw[if_pos ho]);have HO:=hid (show(!c.on)=false by rw[ho];rfl);rw[ho];clear ho;go_wp2;go_ret;exact⟨by rw[HO.o];rfl,by rw[HM.o];exact h,hC⟩
 have ho':c.on=false:=by simpa using ho
 have HM:=hid (show c.lost f n={ c with thr:=dF c.mss f,win:=dF c.mss f,on:=true,pt:=n } by unfold Cg.lost;rw[if_neg ho]);have HO:=hid (show(!c.on)=true by rw[ho'];rfl);rw[ho'];clear ho ho';go_wp2_with fail;refine(kH B c f hf hok _ h).mono ?_;rintro e w3⟨rfl,hT,hc⟩;obtain⟨c0,c1,c2,c3,c4,c5,c6⟩:=hT.cells;have g1:=hT.free 1;have g3:=hT.free 3;have g4:=hT.free 4;replace hC:=hC.trans hc;go_wp2;go_ret;refine⟨by rw[HO.o];rfl,?_,((hC.setCell _ _).setCell _ _).setCell _ _⟩;rw[HM.o];exact((hT.set 1 _ { c with thr:=dF c.mss f,win:=dF c.mss f } rfl).set 3 _ { c with thr:=dF c.mss f,win:=dF c.mss f,on:=true } rfl).set 4 _ _ rfl
set_option maxHeartbeats 800000 in
theorem nW (B:Nat) (c:Cg) (f n:Int) (hf:aI f) (hok:c.Ok) (w:World) (h:dj B c w) :
  Calls Tryz.prog 120 #[B,f,n] w fun e w'=>e= .returned (.tuple #[])/\dj B (c.timeout f) w'/\Chg B w w':=by
 go_enter Tryz.func120,Tryz.ntmps120
 go_wp2_with fail;refine(i8 B c _ h).mono ?_;rintro e w1⟨rfl,rfl⟩;go_wp2_with fail;have hC:Chg B w w:=Chg.refl _ _;refine(kH B c f hf hok _ h).mono ?_;rintro e w3⟨rfl,hT,hc⟩;obtain⟨c0,c1,c2,c3,c4,c5,c6⟩:=hT.cells;have g1:=hT.free 1;have g3:=hT.free 3;have g4:=hT.free 4;replace hC:=hC.trans hc;go_wp2_with fail
 go_end0
 refine⟨rfl,?_,((hC.setCell _ _).setCell _ _).setCell _ _⟩;exact((hT.set 1 _ { c with thr:=dF c.mss f,win:=c.mss } rfl).set 3 _ { c with thr:=dF c.mss f,win:=c.mss,on:=false } rfl).set 4 _ _ rfl
end
section
open Go.RowKit
theorem Chg.cell {B:Nat}{w w':World}(h:Chg B w w'){p:Addr}(hp:p.block<w.heap.size)(hne:p.block≠B):w'.cell? p=w.cell? p:=World.cell?_of_block (h.block p.block hp hne)
set_option maxHeartbeats 1600000 in
theorem qv (B C:Nat) (c:Cg) (w:World) (h:dj B c w) (hc:w.cell? C=some (B:Y)) :
  Calls Tryz.prog 192 #[C] w fun e w'=>e= .returned (.tuple #[])/\dj B { c with on:=false,pt:=0,win:=c.thr } w'/\Chg B w w':=by
 obtain⟨c0,c1,c2,c3,c4,c5,c6⟩:=h.cells;have g1:=h.free 1;have g3:=h.free 3;have g4:=h.free 4;clear c5 c6 c0
 go_enter Tryz.func192,Tryz.ntmps192
 go_wp2_with fail;have HT:=hid ((h.set 3 false { c with on:=false } rfl).set 4 (0:Int) { c with on:=false,pt:=0 } rfl);have HC:=hid (((Chg.refl B w).setCell 3 false).setCell 4 (0:Int))
 have hc':((w.setCell ⟨B,3,none⟩ false).setCell ⟨B,4,none⟩ (0:Int)).cell? C=some (B:Y):=by
  rw[World.cell?_setCell_other _ _ _ _ (by simp),World.cell?_setCell_other _ _ _ _ (by simp)];exact hc
 generalize (w.setCell ⟨B,3,none⟩ false).setCell ⟨B,4,none⟩ (0:Int)=W1 at *;clear c1 c2 c3 c4 g1 g3 g4 hc;obtain⟨c0,c1,c2,c3,c4,c5,c6⟩:=HT.cells;have g1:=HT.free 1;clear c5 c6 c0 c3 c4;replace c1:W1.cell? ⟨B,1,none⟩=some (c.win:Y):=c1;replace c2:W1.cell? ⟨B,2,none⟩=some (c.thr:Y):=c2
 go_region
 all_goals
  go_wp2_with fail
  go_end0
  exact⟨rfl,(HT.drew).set 1 _ _ rfl,(HC.drew).setCell _ _⟩
set_option maxHeartbeats 1600000 in
theorem nX (B:Nat) (c:Cg) (n una:Int) (hok:c.Ok) (w:World) (h:dj B c w) :
  Calls Tryz.prog 159 #[B,n,una] w fun e w'=>e= .returned (.tuple #[])/\dj B (c.acked n una) w'/\Chg B w w':=by
 go_enter Tryz.func159,Tryz.ntmps159
 go_wp2_with fail;have hne:B≠w.heap.size:=by have:=h.lt;omega
 replace h:=h.alloc (.cells #[B] 95);have hC:=(Chg.refl B w).alloc (.cells #[B] 95);have aF:(w.alloc (.cells #[B] 95)).cell? w.heap.size=some (B:Y):=by rw[cell_of_row _ _ _ _ _ _ (heap_alloc_new _ _)];rfl
 have aa:w.heap.size<(w.alloc (.cells #[B] 95)).heap.size:=by simp
 generalize w.alloc (.cells #[B] 95)=W at *;generalize w.heap.size=C at *;refine(i8 B c _ h).mono ?_;rintro e w1⟨rfl,rfl⟩;go_wp2_with fail;refine(i7 B c hok _ h).mono ?_;rintro e w1⟨rfl,rfl⟩;obtain⟨c0,c1,c2,c3,c4,c5,c6⟩:=h.cells;clear c0 c3;have a9:=hok;by_cases ho:c.on=true
 ·rw[ho];by_cases hp:c.pt<=una
  ·have HM:=hid (show c.acked n una={ c with on:=false,pt:=0,win:=c.thr } by unfold Cg.acked;rw[if_pos ho,if_pos hp]);clear ho;go_wp2_with fail;refine(qv B C c _ h aF).mono ?_;rintro e w2⟨rfl,hT,hc⟩;go_wp2_with fail;exact bodyPost_ret (results_none rfl _ _ _) rfl ⟨rfl,by rw[HM.o];exact hT,hC.trans hc⟩
  have HM:=hid (show c.acked n una=c by unfold Cg.acked;rw[if_pos ho,if_neg hp]);clear ho;go_wp2_with fail;exact bodyPost_ret (results_none rfl _ _ _) rfl ⟨rfl,by rw[HM.o];exact h,hC⟩
 have ho':c.on=false:=by simpa using ho
 rw[ho'];by_cases hn:n<=0
 ·have HM:=hid (show c.acked n una=c by unfold Cg.acked;rw[if_neg ho,if_pos hn]);clear ho ho';go_wp2_with fail;exact bodyPost_ret (results_none rfl _ _ _) rfl ⟨rfl,by rw[HM.o];exact h,hC⟩
 by_cases hw:c.win<c.thr
 ·have HM:=hid (show c.acked n una={ c with win:=min (c.win+min n c.mss) 65535 } by unfold Cg.acked;rw[if_neg ho,if_neg hn,if_pos hw]);clear ho ho';go_wp2_with fail
  go_quiet (fail)
  go_wp2_with fail;have h2:=h.drewN nq;replace hC:=hC.drewN nq;have a0:(W.drewN nq).cell? C=some (B:Y):=aF;have a7:C<(W.drewN nq).heap.size:=aa;clear h aF aa c1 c2 c4 c5 c6;generalize W.drewN nq=W2 at *;have h3:=h2.drew;obtain⟨k1,k2,k3,k4,-⟩:=hok;have q1:0<=min n c.mss:=by omega
  have q2:min n c.mss<=10000000:=by omega
  have ab:=hid a9
  go_region_held3 (fun w'=>w'.cell? C=some (B:Y)) (first | exact hq2 | go_keep) (first | (go_at_call 140;refine(tK B c n _ h3).mono ?_;rintro e w3⟨rfl,rfl⟩) | (go_at_call 193;refine(lW B c (min n c.mss) q1 q2 ab.o _ h3).mono ?_;rintro e w4⟨rfl,hT,hc⟩;have hq2:=(hc.cell (p:=⟨C,0,none⟩) a7 hne.symm).trans a0))
  all_goals
   go_wp2_with fail
   go_end0
   exact⟨rfl,by rw[HM.o];exact hT,hC.drew.trans hc⟩
 have HM:=hid (show c.acked n una={ c with win:=min (c.win+gv c.mss c.win) 65535 } by unfold Cg.acked;rw[if_neg ho,if_neg hn,if_neg hw]);clear ho ho';go_wp2_with fail
 go_quiet (fail)
 go_wp2_with fail;have h2:=h.drewN nq;replace hC:=hC.drewN nq;have a0:(W.drewN nq).cell? C=some (B:Y):=aF;have a7:C<(W.drewN nq).heap.size:=aa;clear h aF aa c1 c2 c4 c5 c6;generalize W.drewN nq=W2 at *;have h3:=h2.drew;obtain⟨k1,k2,k3,k4,-⟩:=hok;obtain⟨q1,q2,-⟩:=jD k1 k2 k3;have ab:=hid a9
 go_region_held3 (fun w'=>w'.cell? C=some (B:Y)) (first | exact hq2 | exact hq | go_keep) (first | (go_at_call 141;refine(qu B c n ab.o _ h3).mono ?_;rintro e w3⟨rfl,hb⟩;have h4:=h3.below hb;have hq:=(hb.cell (p:=⟨C,0,none⟩) a7).trans a0) | (go_at_call 193;refine(lW B c (gv c.mss c.win) (by omega) (by omega) ab.o _ h4).mono ?_;rintro e w4⟨rfl,hT,hc⟩;have hq2:=(hc.cell (p:=⟨C,0,none⟩) (Nat.lt_of_lt_of_le a7 hb.size) hne.symm).trans hq))
 all_goals
  go_wp2_with fail
  go_end0
  exact⟨rfl,by rw[HM.o];exact hT,(hC.drew.trans (Chg.of_below hb)).trans hc⟩
end
end Go.Proofs.YtclkcmidhhfdmaaGreatDoor
