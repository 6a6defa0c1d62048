import Derived.Test.YtcmncipikdpnbaaGreatDoorUk
import Derived.Test.YtcmncipikdpnbaaGreatDoorUb2
import Derived.Test.YtcmncipikdpnbaaGreatDoorUb3
import Derived.Test.YtcmncipikdpnbaaGreatDoorRows
import Derived.WalkLawsBesides
import Derived.Laws.Bits64
import Derived.IntWalk
import Derived.RegionTactic
import Derived.BigRegion
import Derived.Deep.RegionWith
import Derived.Deep.RegionHeld3
import Derived.Outline
namespace Go.Proofs.YtcmncipikdpnbaaGreatDoor
section
open Go.RowKit
def gn (m:Tm):Array Value:= #[m.had,m.trip,m.dev,m.timing,m.goal,m.since,m.backs]
def fO (B:Nat)(m:Tm)(w:World):Prop:=∃t:{ t:TypeId // t=142 },w.heap[B]? =some (.cells (gn m) t.1 (0,0))
theorem fO.cells {B:Nat}{m:Tm}{w:World}(h:fO B m w) :
  w.cell? B=some (m.had:Y)/\w.cell? ⟨B,1,none⟩=some (m.trip:Y)/\w.cell? ⟨B,2,none⟩=some (m.dev:Y)/\w.cell? ⟨B,3,none⟩=some (m.timing:Y)/\w.cell? ⟨B,4,none⟩=some (m.goal:Y)/\w.cell? ⟨B,5,none⟩=some (m.since:Y)/\w.cell? ⟨B,6,none⟩=some (m.backs:Y):=by
 obtain⟨t,a⟩:=h;refine⟨?_,?_,?_,?_,?_,?_,?_⟩ <;> (rw[Lq _ _ _ _ _ _ a];rfl)
theorem fO.free {B:Nat}{m:Tm}{w:World}(h:fO B m w)(i:Nat):w.frozen? ⟨B,i,none⟩=false:=by
 obtain⟨t,a⟩:=h;exact LW _ _ _ _ _ a
theorem fO.lt {B:Nat}{m:Tm}{w:World}(h:fO B m w):B<w.heap.size:=by
 obtain⟨t,a⟩:=h;exact(L8.1 a).1
theorem fO.drew {B:Nat}{m:Tm}{w:World}(h:fO B m w):fO B m w.drew:=h
theorem fO.alloc {B:Nat}{m:Tm}{w:World}(h:fO B m w)(o:Obj):fO B m (w.alloc o):=by
 have a:=h.lt;obtain⟨t,b⟩:=h;exact⟨t,by rw[Mh _ _ _ a];exact b⟩
theorem fO.set {B:Nat}{m:Tm}{w:World}(h:fO B m w)(i:Nat)(v:Value)(a:Tm)(he:(gn m).setIfInBounds i v=gn a):fO B a (w.setCell ⟨B,i,none⟩ v):=by
 obtain⟨t,b⟩:=h;exact⟨t,by rw[LK _ _ _ _ _ _ b,he]⟩
theorem fO.below {B:Nat}{m:Tm}{w w':World}(h:fO B m w)(a:Below w.heap.size w w'):fO B m w':=by
 have b:=h.lt;obtain⟨t,c⟩:=h;exact⟨t,by rw[a.block B b];exact c⟩
theorem fO.other {B C:Nat}{m:Tm}{w w':World}(h:fO B m w)(b:nF C w w')(a:B≠C):fO B m w':=by
 obtain⟨t,c⟩:=h;exact⟨t,b.other c a⟩
theorem fO.new (w:World):fO w.heap.size po (w.alloc (.cells (gn po) 142)):=⟨⟨_,Z⟩,Ls _ _⟩
set_option maxHeartbeats 400000 in
theorem zo (w:World):Calls Tryz.prog 64 #[] w fun e w'=>e= .returned w.heap.size/\w'=w.alloc (.cells (gn po) 142):=by
 go_enter Tryz.func64,Tryz.ntmps64
 go_wp2
 go_ret;exact⟨Z,Z⟩
set_option maxHeartbeats 400000 in
theorem mJ (B:Nat) (m:Tm) (now n:Int) (w:World) (h:fO B m w) :
  Calls Tryz.prog 68 #[B,now,n] w fun e w'=>e= .returned (.tuple #[])/\fO B (m.sent now n) w'/\nF B w w':=by
 obtain⟨f,g,i,d,j,k,l⟩:=h.cells;have f3:=h.free 3;have p:=h.free 4;have q:=h.free 5;by_cases b:m.timing=true
 ·have c:=H (show m.sent now n=m by unfold Tm.sent;rw[L9 b]);rw[b]at d;clear b
  go_enter Tryz.func68,Tryz.ntmps68
  go_wp2
  exact Lo (LY Z _ _ _) Z ⟨Z,by rw[c.o];exact h,nF.refl _ _⟩
 have c:=H (show m.sent now n={ m with timing:=true,goal:=n,since:=now } by unfold Tm.sent;rw[L7 b]);have a:m.timing=false:=Jr
 rw[a]at d;clear b;have r:=H a;clear a
 go_enter Tryz.func68,Tryz.ntmps68
 go_wp2
 go_end0
 refine⟨Z,?_,(((nF.refl _ _).setCell _ _).setCell _ _).setCell _ _⟩;rw[c.o];exact((h.set 3 _ { m with timing:=true } Z).set 4 _ { m with timing:=true,goal:=n } Z).set 5 _ _ Z
set_option maxHeartbeats 400000 in
theorem qO (B:Nat) (m:Tm) (w:World) (h:fO B m w) :
  Calls Tryz.prog 73 #[B] w fun e w'=>e= .returned (.tuple #[])/\fO B m.rl w'/\nF B w w':=by
 obtain⟨a,b,c,d,f,g,i⟩:=h.cells;have f3:=h.free 3
 go_enter Tryz.func73,Tryz.ntmps73
 go_wp2
 go_end0
 exact⟨Z,h.set 3 _ _ Z,(nF.refl _ _).setCell _ _⟩
theorem tQ (s n:Int)(a: -9223372036854775808<=s)(b:s<=9223372036854775807)(c: -9223372036854775808<=n)(d:n<=9223372036854775807)(h:s<n) :
  IntKind.u64.wrap (IntKind.u64.wrap n-IntKind.u64.wrap s)=n-s:=by
 rw[Na,Na,Na];omega
set_option maxHeartbeats 400000 in
theorem qP (since now:Int) (b: -9223372036854775808<=since) (c:since<=9223372036854775807) (d: -9223372036854775808<=now) (f:now<=9223372036854775807) (w:World) :
  Calls Tryz.prog 127 #[since,now] w fun e w'=>e= .returned (dF since now)/\w=w':=by
 by_cases h1:now<=since
 ·have a:=H (show(1:Int)=dF since now by unfold dF;rw[L9 h1])
  go_enter Tryz.func127,Tryz.ntmps127
  go_wp2
  go_ret;exact⟨cH a.out,Z⟩
 go_enter Tryz.func127,Tryz.ntmps127
 go_wp2
 ·rename_i g;go_ret;refine⟨cH ?_,Z⟩;have h:=tQ since now b c d f O;rw[h]at g|-;unfold dF;rw[L7 O,L9 g,IntWalk.wrap64_in _ O]
 rename_i g;go_ret;refine⟨cH ?_,Z⟩;have h:=tQ since now b c d f O;rw[h]at g;unfold dF;rw[L7 O,L7 O]
set_option maxHeartbeats 800000 in
theorem rt (B:Nat) (m:Tm) (r:Int) (h1:1<=r) (h2:r<=1000) (g:m.Ok) (w:World) (h:fO B m w) :
  Calls Tryz.prog 126 #[B,r] w fun e w'=>e= .returned (.tuple #[])/\fO B (m.Ds r) w'/\nF B w w':=by
 obtain⟨i,q,j,s,t,u,x⟩:=h.cells;obtain⟨J,K,L,M,N,P⟩:=g;have y:=h.free 0;have z:=h.free 1;have f2:=h.free 2;clear s t u x;by_cases b:m.had=true
 ·have c:=H (show m.Ds r={ m with trip:=m.trip+(r-m.trip/8),dev:=m.dev+(max (r-m.trip/8) (-(r-m.trip/8))-m.dev/4) } by unfold Tm.Ds;rw[L9 b]);rw[b]at i;have S:=H b;clear b
  go_enter Tryz.func126,Tryz.ntmps126
  go_wp2
  obtain⟨d,k⟩:∃d,r-m.trip/8=d:=⟨_,Z⟩;rw[k]at c|-;have A: -1000<=d:=O
  have C:d<=1000:=O
  clear k;generalize a:w.setCell ⟨B,1,none⟩ (m.trip+d:Int)=W1;have T:W1.cell? ⟨B,2,none⟩=some (m.dev:Y):=by rw[<-a];rw[LX _ _ _ _ IK];exact j
  have E:W1.frozen? ⟨B,2,none⟩=false:=by rw[<-a,Nj];exact f2
  have l:Hid (fO B { m with trip:=m.trip+d } W1):=by rw[<-a];exact h.set 1 _ _ Z
  have n:Hid (nF B w W1):=by rw[<-a];exact(nF.refl _ _).setCell _ _
  clear a i q j y z f2;have U:IntKind.i64.wrap (-d)= -d:=LF _ O;by_cases p:d<0
  ·have F:IntKind.i64.wrap (-d-m.dev/4)= -d-m.dev/4:=LF _ O;have G:IntKind.i64.wrap (m.dev+(-d-m.dev/4))=m.dev+(-d-m.dev/4):=LF _ O;have I:d< -d:=by omega
   go_region
   go_wp2
   go_end0
   refine⟨Z,?_,(n.setCell _ _).drew⟩;rw[c.o,show max d (-d)= -d by omega];exact(l.set 2 (m.dev+(-d-m.dev/4):Int) { m with trip:=m.trip+d,dev:=m.dev+(-d-m.dev/4) } Z).drew
  have F:IntKind.i64.wrap (d-m.dev/4)=d-m.dev/4:=LF _ O;have G:IntKind.i64.wrap (m.dev+(d-m.dev/4))=m.dev+(d-m.dev/4):=LF _ O;have I:¬d< -d:=O
  go_region
  go_wp2
  go_end0
  refine⟨Z,?_,(n.setCell _ _).drew⟩;rw[c.o,show max d (-d)=d by omega];exact(l.set 2 (m.dev+(d-m.dev/4):Int) { m with trip:=m.trip+d,dev:=m.dev+(d-m.dev/4) } Z).drew
 have f:m.had=false:=Jr
 have c:=H (show m.Ds r={ m with had:=true,trip:=8*r,dev:=2*r } by unfold Tm.Ds;rw[L7 b]);rw[f]at i;clear b f
 go_enter Tryz.func126,Tryz.ntmps126
 go_wp2
 refine Lo (LY Z _ _ _) Z ⟨Z,?_,(((nF.refl _ _).setCell _ _).setCell _ _).setCell _ _⟩;rw[c.o];exact((h.set 0 _ { m with had:=true } Z).set 1 _ { m with had:=true,trip:=8*r } Z).set 2 _ _ Z
def dw (n lo hi:Int):Int:=min (max n lo) hi
set_option maxHeartbeats 800000 in
theorem ng (n lo hi:Int) (C:Nat) (w:World) (h0:w.cell? C=some (lo:Y)) (h1:w.cell? ⟨C,1,none⟩=some (hi:Y)) :
  Calls Tryz.prog 115 #[n,.slice (some ⟨C,0,none⟩) 2 2] w fun e w'=>e= .returned (dw n lo hi)/\w'=w.drew:=by
 have c:IntKind.i64.wrap ((2:Int)-1)=1:=D
 have d:IntKind.i64.wrap 1=1:=D
 by_cases f:n<lo
 ·by_cases b:hi<lo
  ·have a:=H (show hi=dw n lo hi by unfold dw;omega)
   go_enter Tryz.func115,Tryz.ntmps115
   go_wp2
   go_region
   go_wp2
   go_ret;exact⟨cH a.o,Z⟩
  have a:=H (show lo=dw n lo hi by unfold dw;omega)
  go_enter Tryz.func115,Tryz.ntmps115
  go_wp2
  go_region
  go_wp2
  go_ret;exact⟨cH a.o,Z⟩
 by_cases b:hi<n
 ·have a:=H (show hi=dw n lo hi by unfold dw;omega)
  go_enter Tryz.func115,Tryz.ntmps115
  go_wp2
  go_region
  go_wp2
  go_ret;exact⟨cH a.o,Z⟩
 have a:=H (show n=dw n lo hi by unfold dw;omega)
 go_enter Tryz.func115,Tryz.ntmps115
 go_wp2
 go_region
 go_wp2
 go_ret;exact⟨cH a.o,Z⟩
end
section
open Go.RowKit
theorem Ai (w:World)(a b:Value)(t:TypeId):(w.alloc (.cells #[a,b] t)).cell? w.heap.size=some a:=by
 rw[Lq _ _ _ _ _ _ (Ls _ _)];rfl
theorem Aj (w:World)(a b:Value)(t:TypeId):(w.alloc (.cells #[a,b] t)).cell? ⟨w.heap.size,1,none⟩=some b:=by
 rw[Lq _ _ _ _ _ _ (Ls _ _)];rfl
set_option maxHeartbeats 800000 in
theorem qQ (B:Nat) (m:Tm) (a:m.Ok) (w:World) (h:fO B m w) :
  Calls Tryz.prog 74 #[B] w fun e w'=>e= .returned (.tuple #[])/\fO B m.kf w'/\nF B w w':=by
 obtain⟨c,d,f,g,i,j,k⟩:=h.cells;obtain⟨q,r,s,t,u,x⟩:=a;have f6:=h.free 6;have n:B≠w.heap.size:=by have:=h.lt;omega
 have p:=H (show dw (m.backs+1) 0 8=min (m.backs+1) 8 by unfold dw;omega);clear c d f g i j
 go_enter Tryz.func74,Tryz.ntmps74
 go_wp2_with fail;refine(ng (m.backs+1) 0 8 w.heap.size _ (Ai _ _ _ _) (Aj _ _ _ _)).mono ?_;rintro e y⟨rfl,rfl⟩;rw[p.o];have h2:=(h.alloc (.cells #[(0:Int),(8:Int)] 3)).drew;have l:=((nF.refl B w).alloc (.cells #[(0:Int),(8:Int)] 3)).drew;clear k f6;generalize (w.alloc (.cells #[(0:Int),(8:Int)] 3)).drew=W1 at h2 l|-;obtain⟨c,d,f,g,i,j,k⟩:=h2.cells;have f6:=h2.free 6;generalize b:min (m.backs+1) 8=b8;go_wp2_with fail
 go_end0
 refine⟨Z,?_,l.setCell _ _⟩;unfold Tm.kf;rw[b];exact h2.set 6 _ _ Z
set_option maxHeartbeats 1600000 in
theorem xP (B:Nat) (m:Tm) (g:m.Ok) (w:World) (h:fO B m w) :
  Calls Tryz.prog 108 #[B] w fun e w'=>e= .returned m.base/\Below w.heap.size w w':=by
 obtain⟨i,y,z,k,l,n,p⟩:=h.cells;obtain⟨j,A,C,E,F,G⟩:=g;have q:B≠w.heap.size:=by have:=h.lt;omega
 clear k l n p;by_cases a:m.had=true
 ·have b:=H (show dw (m.trip/8+max m.dev 1) 4 240=m.base by unfold dw Tm.base;rw[L9 a]);rw[a]at i;clear a;by_cases I:m.dev<1
  focus
   rw[show max m.dev 1=1 by omega]at b
   go_enter Tryz.func108,Tryz.ntmps108
   go_wp2_with fail;have r:m.trip.tdiv 8=m.trip/8:=MM j;have s:IntKind.i64.wrap (m.trip/8)=m.trip/8:=LF _ O;have t:IntKind.i64.wrap (m.trip/8+1)=m.trip/8+1:=LF _ O
  rotate_left 1
  focus
   rw[show max m.dev 1=m.dev by omega]at b
   go_enter Tryz.func108,Tryz.ntmps108
   go_wp2_with fail;have r:m.trip.tdiv 8=m.trip/8:=MM j;have s:IntKind.i64.wrap (m.trip/8)=m.trip/8:=LF _ O;have t:IntKind.i64.wrap (m.trip/8+m.dev)=m.trip/8+m.dev:=LF _ O
  all_goals
   have c:((w.alloc (.cells #[(4:Int),(240:Int)] 3)).drew).cell? w.heap.size=some ((4:Int):Y):=Ai _ _ _ _;have d:((w.alloc (.cells #[(4:Int),(240:Int)] 3)).drew).cell? ⟨w.heap.size,1,none⟩=some ((240:Int):Y):=Aj _ _ _ _;obtain⟨-,J,K,-,-,-,-⟩:=(h.alloc (.cells #[(4:Int),(240:Int)] 3)).cells;have u:=H c;have x:=H d;clear c d
   go_region_held3 (fun w'=>w'.cell? ⟨B,1,none⟩=some (m.trip:Y)/\w'.cell? ⟨B,2,none⟩=some (m.dev:Y)) (go_keep) (first | (go_at_call 115;refine(ng _ 4 240 w.heap.size _ u.o x.o).mono ?_;rintro e L⟨rfl,rfl⟩))
   all_goals
    rw[b.o];go_wp2;go_ret;exact⟨Z,(((L5 _ _).alloc (L6 _) _).drew).drew⟩
 have f:m.had=false:=Jf
 have b:=H (show(12:Int)=m.base by unfold Tm.base;rw[L7 a]);rw[f]at i;clear a f
 go_enter Tryz.func108,Tryz.ntmps108
 go_wp2;go_ret;exact⟨cH b.o,L5 _ _⟩
theorem zp (b:Int)(c:4<=b)(a:b<=240)(k:Int)(d:0<=k)(e:k<=8):b*2 ^ k.toNat<=61440/\0<=b*2 ^ k.toNat:=by
 have h:(2:Int) ^ k.toNat<=256/\1<=(2:Int) ^ k.toNat:=by
  rcases(show k=0\/k=1\/k=2\/k=3\/k=4\/k=5\/k=6\/k=7\/k=8 by omega)with rfl | rfl | rfl | rfl | rfl | rfl | rfl | rfl | rfl <;> decide
 constructor
 ·calc b*2 ^ k.toNat<=240*2 ^ k.toNat:=Int.mul_le_mul_of_nonneg_right a O
   _<=240*256:=Int.mul_le_mul_of_nonneg_left h.1 O
 exact MV O O
set_option maxHeartbeats 1600000 in
theorem ia (B:Nat) (m:Tm) (a:m.Ok) (w:World) (h:fO B m w) :
  Calls Tryz.prog 66 #[B] w fun e w'=>e= .returned m.value/\Below w.heap.size w w':=by
 obtain⟨d,f,g,i,j,k,l⟩:=h.cells;have n:=a;obtain⟨y,z,A,C,o,q⟩:=a;obtain⟨r,s⟩:=m.Dy;have t:=h.drew;have c:B<w.drew.heap.size:=h.lt;clear d f g i j k
 go_enter Tryz.func66,Tryz.ntmps66
 go_wp2_with fail
 go_region_held3 (fun w'=>w'.cell? ⟨B,6,none⟩=some (m.backs:Y)) (first | exact u | go_keep) (first | (go_at_call 108;refine(xP B m n _ t).mono ?_;rintro e E⟨rfl,b⟩;have u:=(b.cell (p:=⟨B,6,none⟩) c).trans l))
 all_goals
  have F:=zp m.base r s m.backs o q;have x:IntKind.i64.wrap (m.base*2 ^ m.backs.toNat)=m.base*2 ^ m.backs.toNat:=LF _ O;rw[x];have hval:m.value=if 240<m.base*2 ^ m.backs.toNat then 240 else m.base*2 ^ m.backs.toNat:=by unfold Tm.value;split <;> omega
  rw[<-hval];go_wp2;go_ret;exact⟨Z,(L5 _ _).drew.trans b⟩
end
section
open Go.RowKit
def Tm.Fit (m:Tm):Prop:=m.Ok/\aI m.since
theorem zq:po.Fit:=⟨wV,by unfold aI po;decide⟩
theorem Tm.F4 {m:Tm}(h:m.Fit)(now n:Int)(a:aI now):(m.sent now n).Fit:=⟨Tm.Gk h.1 now n,by unfold Tm.sent;split;exact h.2;exact a⟩
theorem Tm.A3 {m:Tm}(h:m.Fit):m.rl.Fit:=h
theorem Tm.EW (m:Tm)(r:Int):(m.Ds r).since=m.since:=by unfold Tm.Ds;split <;> rfl
theorem Tm.Ce {m:Tm}(h:m.Fit)(now gi:Int):(m.i1 now gi).Fit:=⟨Tm.E6 h.1 now gi,by unfold Tm.i1;split;(rw[Tm.EW];exact h.2);exact h.2⟩
theorem Tm.D4 {m:Tm}(h:m.Fit):m.kf.Fit:=⟨Tm.Fd h.1,h.2⟩
set_option maxHeartbeats 1600000 in
theorem nh (B:Nat) (m:Tm) (now gi:Int) (s:aI now) (g:m.Fit) (w:World) (h:fO B m w) :
  Calls Tryz.prog 82 #[B,now,gi] w fun e w'=>e= .returned (.tuple #[])/\fO B (m.i1 now gi) w'/\nF B w w':=by
 obtain⟨E,F,G,n,I,J,K⟩:=h.cells;clear E F G;by_cases i:m.timing=true
 ·by_cases t:m.goal<=gi
  ·have j:=H (show m.i1 now gi=Tm.Ds { m with timing:=false,backs:=0 } (dF m.since now) by unfold Tm.i1;rw[L9 ⟨i,t⟩]);rw[i]at n;have f3:=h.free 3;have f6:=h.free 6
   have u:({ m with timing:=false,backs:=0 }:Tm).Ok:=by
    obtain⟨a,b,c,d,e,f⟩:=g.1;exact⟨a,b,c,d,IN,IN⟩
   have L:=fun W=>qP m.since now g.2.1 g.2.2 s.1 s.2 W;obtain⟨M,N⟩:=lC m.since now;have P:=H u;clear u;have p:¬gi<m.goal:=O
   have y:=((h.set 3 false { m with timing:=false } Z).set 6 (0:Int) { m with timing:=false,backs:=0 } Z);have z:=(((nF.refl B w).setCell 3 false).setCell 6 (0:Int));have q:=H y;have A:=H z;clear y z
   go_enter Tryz.func82,Tryz.ntmps82
   go_wp2_with fail;obtain⟨C,k⟩:∃C,(w.setCell ⟨B,3,none⟩ false).setCell ⟨B,6,none⟩ (0:Int)=C:=⟨_,Z⟩;rw[k]at q A|-;have U:=q.cells.2.2.2.2.2.1;have S:=q.drew;clear n I J K f3 f6 k
   go_region_with (first | (go_at_call 127;refine(L _).mono ?_;rintro e V⟨rfl,rfl⟩) | (go_at_call 126;refine(rt B _ _ M N P.o _ S).mono ?_;rintro e X⟨rfl,T,r⟩))
   all_goals
    go_end0
    exact⟨Z,by rw[j.o];exact T,A.drew.trans r⟩
  have j:=H (show m.i1 now gi=m by unfold Tm.i1;rw[L7 (fun x=>t x.2)]);rw[i]at n;have p:gi<m.goal:=O
  go_enter Tryz.func82,Tryz.ntmps82
  go_wp2_with fail;exact Lo (LY Z _ _ _) Z ⟨Z,by rw[j.o];exact h,nF.refl _ _⟩
 have j:=H (show m.i1 now gi=m by unfold Tm.i1;rw[L7 (fun x=>i x.1)]);have l:m.timing=false:=P9
 rw[l]at n;clear i l
 go_enter Tryz.func82,Tryz.ntmps82
 go_wp2_with fail;exact Lo (LY Z _ _ _) Z ⟨Z,by rw[j.o];exact h,nF.refl _ _⟩
end
section
open Go.RowKit
set_option maxHeartbeats 400000 in
theorem xQ (x y:Int) (w:World):Calls Tryz.prog 103 #[.int .u32 x,.int .u32 y] w fun e w'=>e= .returned (.int .u32 (IntKind.u32.wrap (x+y)))/\w=w':=by
 go_enter Tryz.func103,Tryz.ntmps103
 go_wp2
 go_ret;exact⟨Z,Z⟩
set_option maxHeartbeats 400000 in
theorem uk (x y:Int) (w:World):Calls Tryz.prog 153 #[.int .u32 x,.int .u32 y] w fun e w'=>e= .returned (.int .u32 (IntKind.u32.wrap (x-y)))/\w=w':=by
 go_enter Tryz.func153,Tryz.ntmps153
 go_wp2
 go_ret;exact⟨Z,Z⟩
theorem nj (x:Int):IntKind.u32.wrap x=x%4294967296:=by rw[IntKind.wrap_u32]
set_option maxHeartbeats 400000 in
theorem gp (a n:Int) (w:World):Calls Tryz.prog 58 #[a,n] w fun e w'=>e= .returned (aw a n)/\w=w':=by
 go_enter Tryz.func58,Tryz.ntmps58
 go_wp2_with fail;refine(xQ _ _ _).mono ?_;rintro e b⟨rfl,rfl⟩;rw[nj];go_wp2;go_ret;refine⟨cH ?_,Z⟩;unfold aw;omega
set_option maxHeartbeats 400000 in
theorem ul (a b:Int) (w:World):Calls Tryz.prog 119 #[a,b] w fun e w'=>e= .returned (.int .u32 ((a-b)%4294967296))/\w=w':=by
 go_enter Tryz.func119,Tryz.ntmps119
 go_wp2_with fail;refine(uk _ _ _).mono ?_;rintro e c⟨rfl,rfl⟩;rw[nj];go_wp2;go_ret;exact⟨Z,Z⟩
set_option maxHeartbeats 400000 in
theorem de (a b:Int) (w:World):Calls Tryz.prog 79 #[a,b] w fun e w'=>e= .returned (aE a b)/\w=w':=by
 go_enter Tryz.func79,Tryz.ntmps79
 go_wp2_with fail;refine(ul _ _ _).mono ?_;rintro e c⟨rfl,rfl⟩;go_wp2;go_ret;refine⟨cH ?_,Z⟩;unfold aE wrap64 wrap32;omega
end
end Go.Proofs.YtcmncipikdpnbaaGreatDoor
