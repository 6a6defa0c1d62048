import Derived.Test.YtcmncipikdpnbaaGreatDoorUk
import Derived.Test.YtcmncipikdpnbaaGreatDoorUb2
import Derived.Test.YtcmncipikdpnbaaGreatDoorUb4
import Derived.Test.YtcmncipikdpnbaaGreatDoorRows
import Derived.WalkLawsBesides
import Derived.Laws.Bits64
import Derived.IntWalk
import Derived.RegionTactic
import Derived.BigRegion
import Derived.Deep.RegionWith
import Derived.Deep.RegionHeld3
import Derived.Outline
namespace Go.Proofs.YtcmncipikdpnbaaGreatDoor
section
open Go.RowKit
def gr (m:Tm):Array Value:= #[m.had,m.trip,m.dev,m.timing,m.goal,m.since,m.backs]
def gJ (B:Nat)(m:Tm)(w:World):Prop:=∃t:{ t:TypeId // t=142 },w.heap[B]? =some (.cells (gr m) t.1 (0,0))
theorem gJ.cells {B:Nat}{m:Tm}{w:World}(h:gJ B m w) :
  w.cell? B=some (m.had:Y)/\w.cell? ⟨B,1,none⟩=some (m.trip:Y)/\w.cell? ⟨B,2,none⟩=some (m.dev:Y)/\w.cell? ⟨B,3,none⟩=some (m.timing:Y)/\w.cell? ⟨B,4,none⟩=some (m.goal:Y)/\w.cell? ⟨B,5,none⟩=some (m.since:Y)/\w.cell? ⟨B,6,none⟩=some (m.backs:Y):=by
 obtain⟨t,a⟩:=h;refine⟨?_,?_,?_,?_,?_,?_,?_⟩ <;> (rw[Ln _ _ _ _ _ _ a];rfl)
theorem gJ.free {B:Nat}{m:Tm}{w:World}(h:gJ B m w)(i:Nat):w.frozen? ⟨B,i,none⟩=false:=by
 obtain⟨t,a⟩:=h;exact LT _ _ _ _ _ a
theorem gJ.lt {B:Nat}{m:Tm}{w:World}(h:gJ B m w):B<w.heap.size:=by
 obtain⟨t,a⟩:=h;exact(L6.1 a).1
theorem gJ.drew {B:Nat}{m:Tm}{w:World}(h:gJ B m w):gJ B m w.drew:=h
theorem gJ.alloc {B:Nat}{m:Tm}{w:World}(h:gJ B m w)(o:Obj):gJ B m (w.alloc o):=by
 have a:=h.lt;obtain⟨t,b⟩:=h;exact⟨t,by rw[Me _ _ _ a];exact b⟩
theorem gJ.set {B:Nat}{m:Tm}{w:World}(h:gJ B m w)(i:Nat)(v:Value)(a:Tm)(he:(gr m).setIfInBounds i v=gr a):gJ B a (w.setCell ⟨B,i,none⟩ v):=by
 obtain⟨t,b⟩:=h;exact⟨t,by rw[LH _ _ _ _ _ _ b,he]⟩
theorem gJ.below {B:Nat}{m:Tm}{w w':World}(h:gJ B m w)(a:Below w.heap.size w w'):gJ B m w':=by
 have b:=h.lt;obtain⟨t,c⟩:=h;exact⟨t,by rw[a.block B b];exact c⟩
theorem gJ.new (w:World):gJ w.heap.size qJ (w.alloc (.cells (gr qJ) 142)):=⟨⟨_,Z⟩,Lp _ _⟩
set_option maxHeartbeats 400000 in
theorem AV (w:World):Calls Tryz.prog 64 #[] w fun e w'=>e= .returned w.heap.size/\w'=w.alloc (.cells (gr qJ) 142):=by
 go_enter Tryz.func64,Tryz.ntmps64
 go_wp2
 go_ret;exact⟨Z,Z⟩
set_option maxHeartbeats 400000 in
theorem mP (B:Nat) (m:Tm) (now n:Int) (w:World) (h:gJ B m w) :
  Calls Tryz.prog 68 #[B,now,n] w fun e w'=>e= .returned (.tuple #[])/\gJ B (m.sent now n) w'/\lh B w w':=by
 obtain⟨f,g,i,d,j,k,l⟩:=h.cells;have f3:=h.free 3;have p:=h.free 4;have q:=h.free 5;by_cases b:m.timing=true
 ·have c:=H (show m.sent now n=m by unfold Tm.sent;rw[L7 b]);rw[b]at d;clear b
  go_enter Tryz.func68,Tryz.ntmps68
  go_wp2
  exact Lm (LV Z _ _ _) Z ⟨Z,by rw[c.o];exact h,lh.refl _ _⟩
 have c:=H (show m.sent now n={ m with timing:=true,goal:=n,since:=now } by unfold Tm.sent;rw[L5 b]);have a:m.timing=false:=Jk
 rw[a]at d;clear b;have r:=H a;clear a
 go_enter Tryz.func68,Tryz.ntmps68
 go_wp2
 go_end0
 refine⟨Z,?_,(((lh.refl _ _).setCell _ _).setCell _ _).setCell _ _⟩;rw[c.o];exact((h.set 3 _ { m with timing:=true } Z).set 4 _ { m with timing:=true,goal:=n } Z).set 5 _ _ Z
set_option maxHeartbeats 400000 in
theorem qX (B:Nat) (m:Tm) (w:World) (h:gJ B m w) :
  Calls Tryz.prog 73 #[B] w fun e w'=>e= .returned (.tuple #[])/\gJ B m.og w'/\lh B w w':=by
 obtain⟨a,b,c,d,f,g,i⟩:=h.cells;have f3:=h.free 3
 go_enter Tryz.func73,Tryz.ntmps73
 go_wp2
 go_end0
 exact⟨Z,h.set 3 _ _ Z,(lh.refl _ _).setCell _ _⟩
theorem uA (s n:Int)(hs1: -9223372036854775808<=s)(hs2:s<=9223372036854775807)(a: -9223372036854775808<=n)(b:n<=9223372036854775807)(h:s<n) :
  IntKind.u64.wrap (IntKind.u64.wrap n-IntKind.u64.wrap s)=n-s:=by
 rw[N7,N7,N7];omega
set_option maxHeartbeats 400000 in
theorem qY (since now:Int) (hs1: -9223372036854775808<=since) (hs2:since<=9223372036854775807) (b: -9223372036854775808<=now) (c:now<=9223372036854775807) (w:World) :
  Calls Tryz.prog 127 #[since,now] w fun e w'=>e= .returned (dI since now)/\w=w':=by
 by_cases h1:now<=since
 ·have a:=H (show(1:Int)=dI since now by unfold dI;rw[L7 h1])
  go_enter Tryz.func127,Tryz.ntmps127
  go_wp2
  go_ret;exact⟨cH a.out,Z⟩
 go_enter Tryz.func127,Tryz.ntmps127
 go_wp2
 ·rename_i d;go_ret;refine⟨cH ?_,Z⟩;have f:=uA since now hs1 hs2 b c O;rw[f]at d|-;unfold dI;rw[L5 O,L7 d,IntWalk.wrap64_in _ O]
 rename_i d;go_ret;refine⟨cH ?_,Z⟩;have f:=uA since now hs1 hs2 b c O;rw[f]at d;unfold dI;rw[L5 O,L5 O]
set_option maxHeartbeats 800000 in
theorem sH (B:Nat) (m:Tm) (r:Int) (h1:1<=r) (h2:r<=1000) (g:m.Ok) (w:World) (h:gJ B m w) :
  Calls Tryz.prog 126 #[B,r] w fun e w'=>e= .returned (.tuple #[])/\gJ B (m.Cj r) w'/\lh B w w':=by
 obtain⟨i,q,j,s,t,u,x⟩:=h.cells;obtain⟨J,K,L,M,N,P⟩:=g;have y:=h.free 0;have z:=h.free 1;have f2:=h.free 2;clear s t u x;by_cases b:m.had=true
 ·have c:=H (show m.Cj r={ m with trip:=m.trip+(r-m.trip/8),dev:=m.dev+(max (r-m.trip/8) (-(r-m.trip/8))-m.dev/4) } by unfold Tm.Cj;rw[L7 b]);rw[b]at i;have S:=H b;clear b
  go_enter Tryz.func126,Tryz.ntmps126
  go_wp2
  obtain⟨d,k⟩:∃d,r-m.trip/8=d:=⟨_,Z⟩;rw[k]at c|-;have A: -1000<=d:=O
  have C:d<=1000:=O
  clear k;generalize a:w.setCell ⟨B,1,none⟩ (m.trip+d:Int)=W1;have T:W1.cell? ⟨B,2,none⟩=some (m.dev:Y):=by rw[<-a];rw[LU _ _ _ _ FE];exact j
  have E:W1.frozen? ⟨B,2,none⟩=false:=by rw[<-a,Ng];exact f2
  have l:Hid (gJ B { m with trip:=m.trip+d } W1):=by rw[<-a];exact h.set 1 _ _ Z
  have n:Hid (lh B w W1):=by rw[<-a];exact(lh.refl _ _).setCell _ _
  clear a i q j y z f2;have U:IntKind.i64.wrap (-d)= -d:=LC _ O;by_cases p:d<0
  ·have F:IntKind.i64.wrap (-d-m.dev/4)= -d-m.dev/4:=LC _ O;have G:IntKind.i64.wrap (m.dev+(-d-m.dev/4))=m.dev+(-d-m.dev/4):=LC _ O;have I:d< -d:=by omega
   go_region
   go_wp2
   go_end0
   refine⟨Z,?_,(n.setCell _ _).drew⟩;rw[c.o,show max d (-d)= -d by omega];exact(l.set 2 (m.dev+(-d-m.dev/4):Int) { m with trip:=m.trip+d,dev:=m.dev+(-d-m.dev/4) } Z).drew
  have F:IntKind.i64.wrap (d-m.dev/4)=d-m.dev/4:=LC _ O;have G:IntKind.i64.wrap (m.dev+(d-m.dev/4))=m.dev+(d-m.dev/4):=LC _ O;have I:¬d< -d:=O
  go_region
  go_wp2
  go_end0
  refine⟨Z,?_,(n.setCell _ _).drew⟩;rw[c.o,show max d (-d)=d by omega];exact(l.set 2 (m.dev+(d-m.dev/4):Int) { m with trip:=m.trip+d,dev:=m.dev+(d-m.dev/4) } Z).drew
 have f:m.had=false:=Jk
 have c:=H (show m.Cj r={ m with had:=true,trip:=8*r,dev:=2*r } by unfold Tm.Cj;rw[L5 b]);rw[f]at i;clear b f
 go_enter Tryz.func126,Tryz.ntmps126
 go_wp2
 refine Lm (LV Z _ _ _) Z ⟨Z,?_,(((lh.refl _ _).setCell _ _).setCell _ _).setCell _ _⟩;rw[c.o];exact((h.set 0 _ { m with had:=true } Z).set 1 _ { m with had:=true,trip:=8*r } Z).set 2 _ _ Z
def eA (n lo hi:Int):Int:=min (max n lo) hi
set_option maxHeartbeats 800000 in
theorem nu (n lo hi:Int) (C:Nat) (w:World) (h0:w.cell? C=some (lo:Y)) (h1:w.cell? ⟨C,1,none⟩=some (hi:Y)) :
  Calls Tryz.prog 115 #[n,.slice (some ⟨C,0,none⟩) 2 2] w fun e w'=>e= .returned (eA n lo hi)/\w'=w.drew:=by
 have c:IntKind.i64.wrap ((2:Int)-1)=1:=D
 have d:IntKind.i64.wrap 1=1:=D
 by_cases f:n<lo
 ·by_cases b:hi<lo
  ·have a:=H (show hi=eA n lo hi by unfold eA;omega)
   go_enter Tryz.func115,Tryz.ntmps115
   go_wp2
   go_region
   go_wp2
   go_ret;exact⟨cH a.o,Z⟩
  have a:=H (show lo=eA n lo hi by unfold eA;omega)
  go_enter Tryz.func115,Tryz.ntmps115
  go_wp2
  go_region
  go_wp2
  go_ret;exact⟨cH a.o,Z⟩
 by_cases b:hi<n
 ·have a:=H (show hi=eA n lo hi by unfold eA;omega)
  go_enter Tryz.func115,Tryz.ntmps115
  go_wp2
  go_region
  go_wp2
  go_ret;exact⟨cH a.o,Z⟩
 have a:=H (show n=eA n lo hi by unfold eA;omega)
 go_enter Tryz.func115,Tryz.ntmps115
 go_wp2
 go_region
 go_wp2
 go_ret;exact⟨cH a.o,Z⟩
end
section
open Go.RowKit
theorem B0 (w:World)(a b:Value)(t:TypeId):(w.alloc (.cells #[a,b] t)).cell? w.heap.size=some a:=by
 rw[Ln _ _ _ _ _ _ (Lp _ _)];rfl
theorem B1 (w:World)(a b:Value)(t:TypeId):(w.alloc (.cells #[a,b] t)).cell? ⟨w.heap.size,1,none⟩=some b:=by
 rw[Ln _ _ _ _ _ _ (Lp _ _)];rfl
set_option maxHeartbeats 800000 in
theorem qZ (B:Nat) (m:Tm) (a:m.Ok) (w:World) (h:gJ B m w) :
  Calls Tryz.prog 74 #[B] w fun e w'=>e= .returned (.tuple #[])/\gJ B m.ka w'/\lh B w w':=by
 obtain⟨c,d,f,g,i,j,k⟩:=h.cells;obtain⟨q,r,s,t,u,x⟩:=a;have f6:=h.free 6;have n:B≠w.heap.size:=by have:=h.lt;omega
 have p:=H (show eA (m.backs+1) 0 8=min (m.backs+1) 8 by unfold eA;omega);clear c d f g i j
 go_enter Tryz.func74,Tryz.ntmps74
 go_wp2_with fail;refine(nu (m.backs+1) 0 8 w.heap.size _ (B0 _ _ _ _) (B1 _ _ _ _)).mono ?_;rintro e y⟨rfl,rfl⟩;rw[p.o];have h2:=(h.alloc (.cells #[(0:Int),(8:Int)] 3)).drew;have l:=((lh.refl B w).alloc (.cells #[(0:Int),(8:Int)] 3)).drew;clear k f6;generalize (w.alloc (.cells #[(0:Int),(8:Int)] 3)).drew=W1 at h2 l|-;obtain⟨c,d,f,g,i,j,k⟩:=h2.cells;have f6:=h2.free 6;generalize b:min (m.backs+1) 8=b8;go_wp2_with fail
 go_end0
 refine⟨Z,?_,l.setCell _ _⟩;unfold Tm.ka;rw[b];exact h2.set 6 _ _ Z
set_option maxHeartbeats 1600000 in
theorem xk (B:Nat) (m:Tm) (g:m.Ok) (w:World) (h:gJ B m w) :
  Calls Tryz.prog 108 #[B] w fun e w'=>e= .returned m.base/\Below w.heap.size w w':=by
 obtain⟨i,y,z,k,l,n,p⟩:=h.cells;obtain⟨j,A,C,E,F,G⟩:=g;have q:B≠w.heap.size:=by have:=h.lt;omega
 clear k l n p;by_cases a:m.had=true
 ·have b:=H (show eA (m.trip/8+max m.dev 1) 4 240=m.base by unfold eA Tm.base;rw[L7 a]);rw[a]at i;clear a;by_cases I:m.dev<1
  focus
   rw[show max m.dev 1=1 by omega]at b
   go_enter Tryz.func108,Tryz.ntmps108
   go_wp2_with fail;have r:m.trip.tdiv 8=m.trip/8:=MJ j;have s:IntKind.i64.wrap (m.trip/8)=m.trip/8:=LC _ O;have t:IntKind.i64.wrap (m.trip/8+1)=m.trip/8+1:=LC _ O
  rotate_left 1
  focus
   rw[show max m.dev 1=m.dev by omega]at b
   go_enter Tryz.func108,Tryz.ntmps108
   go_wp2_with fail;have r:m.trip.tdiv 8=m.trip/8:=MJ j;have s:IntKind.i64.wrap (m.trip/8)=m.trip/8:=LC _ O;have t:IntKind.i64.wrap (m.trip/8+m.dev)=m.trip/8+m.dev:=LC _ O
  all_goals
   have c:((w.alloc (.cells #[(4:Int),(240:Int)] 3)).drew).cell? w.heap.size=some ((4:Int):Y):=B0 _ _ _ _;have d:((w.alloc (.cells #[(4:Int),(240:Int)] 3)).drew).cell? ⟨w.heap.size,1,none⟩=some ((240:Int):Y):=B1 _ _ _ _;obtain⟨-,J,K,-,-,-,-⟩:=(h.alloc (.cells #[(4:Int),(240:Int)] 3)).cells;have u:=H c;have x:=H d;clear c d
   go_region_held3 (fun w'=>w'.cell? ⟨B,1,none⟩=some (m.trip:Y)/\w'.cell? ⟨B,2,none⟩=some (m.dev:Y)) (go_keep) (first | (go_at_call 115;refine(nu _ 4 240 w.heap.size _ u.o x.o).mono ?_;rintro e L⟨rfl,rfl⟩))
   all_goals
    rw[b.o];go_wp2;go_ret;exact⟨Z,(((L3 _ _).alloc (L4 _) _).drew).drew⟩
 have f:m.had=false:=Ja
 have b:=H (show(12:Int)=m.base by unfold Tm.base;rw[L5 a]);rw[f]at i;clear a f
 go_enter Tryz.func108,Tryz.ntmps108
 go_wp2;go_ret;exact⟨cH b.o,L3 _ _⟩
theorem AW (b:Int)(c:4<=b)(a:b<=240)(k:Int)(d:0<=k)(e:k<=8):b*2 ^ k.toNat<=61440/\0<=b*2 ^ k.toNat:=by
 have h:(2:Int) ^ k.toNat<=256/\1<=(2:Int) ^ k.toNat:=by
  rcases(show k=0\/k=1\/k=2\/k=3\/k=4\/k=5\/k=6\/k=7\/k=8 by omega)with rfl | rfl | rfl | rfl | rfl | rfl | rfl | rfl | rfl <;> decide
 constructor
 ·calc b*2 ^ k.toNat<=240*2 ^ k.toNat:=Int.mul_le_mul_of_nonneg_right a O
   _<=240*256:=Int.mul_le_mul_of_nonneg_left h.1 O
 exact MS O O
set_option maxHeartbeats 1600000 in
theorem ig (B:Nat) (m:Tm) (a:m.Ok) (w:World) (h:gJ B m w) :
  Calls Tryz.prog 66 #[B] w fun e w'=>e= .returned m.value/\Below w.heap.size w w':=by
 obtain⟨d,f,g,i,j,k,l⟩:=h.cells;have n:=a;obtain⟨y,z,A,C,o,q⟩:=a;obtain⟨r,s⟩:=m.CM;have t:=h.drew;have c:B<w.drew.heap.size:=h.lt;clear d f g i j k
 go_enter Tryz.func66,Tryz.ntmps66
 go_wp2_with fail
 go_region_held3 (fun w'=>w'.cell? ⟨B,6,none⟩=some (m.backs:Y)) (first | exact u | go_keep) (first | (go_at_call 108;refine(xk B m n _ t).mono ?_;rintro e E⟨rfl,b⟩;have u:=(b.cell (p:=⟨B,6,none⟩) c).trans l))
 all_goals
  have F:=AW m.base r s m.backs o q;have x:IntKind.i64.wrap (m.base*2 ^ m.backs.toNat)=m.base*2 ^ m.backs.toNat:=LC _ O;rw[x];have hval:m.value=if 240<m.base*2 ^ m.backs.toNat then 240 else m.base*2 ^ m.backs.toNat:=by unfold Tm.value;split <;> omega
  rw[<-hval];go_wp2;go_ret;exact⟨Z,(L3 _ _).drew.trans b⟩
end
section
open Go.RowKit
def Tm.Fit (m:Tm):Prop:=m.Ok/\aI m.since
theorem AX:qJ.Fit:=⟨xL,by unfold aI qJ;decide⟩
theorem Tm.EO {m:Tm}(h:m.Fit)(now n:Int)(a:aI now):(m.sent now n).Fit:=⟨Tm.G3 h.1 now n,by unfold Tm.sent;split;exact h.2;exact a⟩
theorem Tm.tv {m:Tm}(h:m.Fit):m.og.Fit:=h
theorem Tm.EF (m:Tm)(r:Int):(m.Cj r).since=m.since:=by unfold Tm.Cj;split <;> rfl
theorem Tm.v8 {m:Tm}(h:m.Fit)(now fM:Int):(m.go now fM).Fit:=⟨Tm.Du h.1 now fM,by unfold Tm.go;split;(rw[Tm.EF];exact h.2);exact h.2⟩
theorem Tm.zw {m:Tm}(h:m.Fit):m.ka.Fit:=⟨Tm.EZ h.1,h.2⟩
set_option maxHeartbeats 1600000 in
theorem nz (B:Nat) (m:Tm) (now fM:Int) (s:aI now) (g:m.Fit) (w:World) (h:gJ B m w) :
  Calls Tryz.prog 82 #[B,now,fM] w fun e w'=>e= .returned (.tuple #[])/\gJ B (m.go now fM) w'/\lh B w w':=by
 obtain⟨E,F,G,n,I,J,K⟩:=h.cells;clear E F G;by_cases i:m.timing=true
 ·by_cases t:m.goal<=fM
  ·have j:=H (show m.go now fM=Tm.Cj { m with timing:=false,backs:=0 } (dI m.since now) by unfold Tm.go;rw[L7 ⟨i,t⟩]);rw[i]at n;have f3:=h.free 3;have f6:=h.free 6
   have u:({ m with timing:=false,backs:=0 }:Tm).Ok:=by
    obtain⟨a,b,c,d,e,f⟩:=g.1;exact⟨a,b,c,d,II,II⟩
   have L:=fun W=>qY m.since now g.2.1 g.2.2 s.1 s.2 W;obtain⟨M,N⟩:=lK m.since now;have P:=H u;clear u;have p:¬fM<m.goal:=O
   have y:=((h.set 3 false { m with timing:=false } Z).set 6 (0:Int) { m with timing:=false,backs:=0 } Z);have z:=(((lh.refl B w).setCell 3 false).setCell 6 (0:Int));have q:=H y;have A:=H z;clear y z
   go_enter Tryz.func82,Tryz.ntmps82
   go_wp2_with fail;obtain⟨C,k⟩:∃C,(w.setCell ⟨B,3,none⟩ false).setCell ⟨B,6,none⟩ (0:Int)=C:=⟨_,Z⟩;rw[k]at q A|-;have U:=q.cells.2.2.2.2.2.1;have S:=q.drew;clear n I J K f3 f6 k
   go_region_with (first | (go_at_call 127;refine(L _).mono ?_;rintro e V⟨rfl,rfl⟩) | (go_at_call 126;refine(sH B _ _ M N P.o _ S).mono ?_;rintro e X⟨rfl,T,r⟩))
   all_goals
    go_end0
    exact⟨Z,by rw[j.o];exact T,A.drew.trans r⟩
  have j:=H (show m.go now fM=m by unfold Tm.go;rw[L5 (fun x=>t x.2)]);rw[i]at n;have p:fM<m.goal:=O
  go_enter Tryz.func82,Tryz.ntmps82
  go_wp2_with fail;exact Lm (LV Z _ _ _) Z ⟨Z,by rw[j.o];exact h,lh.refl _ _⟩
 have j:=H (show m.go now fM=m by unfold Tm.go;rw[L5 (fun x=>i x.1)]);have l:m.timing=false:=Jl
 rw[l]at n;clear i l
 go_enter Tryz.func82,Tryz.ntmps82
 go_wp2_with fail;exact Lm (LV Z _ _ _) Z ⟨Z,by rw[j.o];exact h,lh.refl _ _⟩
end
section
open Go.RowKit
set_option maxHeartbeats 400000 in
theorem xl (x y:Int) (w:World):Calls Tryz.prog 103 #[.int .u32 x,.int .u32 y] w fun e w'=>e= .returned (.int .u32 (IntKind.u32.wrap (x+y)))/\w=w':=by
 go_enter Tryz.func103,Tryz.ntmps103
 go_wp2
 go_ret;exact⟨Z,Z⟩
set_option maxHeartbeats 400000 in
theorem vB (x y:Int) (w:World):Calls Tryz.prog 153 #[.int .u32 x,.int .u32 y] w fun e w'=>e= .returned (.int .u32 (IntKind.u32.wrap (x-y)))/\w=w':=by
 go_enter Tryz.func153,Tryz.ntmps153
 go_wp2
 go_ret;exact⟨Z,Z⟩
theorem oC (x:Int):IntKind.u32.wrap x=x%4294967296:=by rw[IntKind.wrap_u32]
set_option maxHeartbeats 400000 in
theorem gt (a n:Int) (w:World):Calls Tryz.prog 58 #[a,n] w fun e w'=>e= .returned (aw a n)/\w=w':=by
 go_enter Tryz.func58,Tryz.ntmps58
 go_wp2_with fail;refine(xl _ _ _).mono ?_;rintro e b⟨rfl,rfl⟩;rw[oC];go_wp2;go_ret;refine⟨cH ?_,Z⟩;unfold aw;omega
set_option maxHeartbeats 400000 in
theorem vC (a b:Int) (w:World):Calls Tryz.prog 119 #[a,b] w fun e w'=>e= .returned (.int .u32 ((a-b)%4294967296))/\w=w':=by
 go_enter Tryz.func119,Tryz.ntmps119
 go_wp2_with fail;refine(vB _ _ _).mono ?_;rintro e c⟨rfl,rfl⟩;rw[oC];go_wp2;go_ret;exact⟨Z,Z⟩
set_option maxHeartbeats 400000 in
theorem df (a b:Int) (w:World):Calls Tryz.prog 79 #[a,b] w fun e w'=>e= .returned (aE a b)/\w=w':=by
 go_enter Tryz.func79,Tryz.ntmps79
 go_wp2_with fail;refine(vC _ _ _).mono ?_;rintro e c⟨rfl,rfl⟩;go_wp2;go_ret;refine⟨cH ?_,Z⟩;unfold aE wrap64 wrap32;omega
end
end Go.Proofs.YtcmncipikdpnbaaGreatDoor
