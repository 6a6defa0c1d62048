import Derived.Test.YtcmncipikdpnbaaGreatDoorUk
import Derived.Test.YtcmncipikdpnbaaGreatDoorUb2
import Derived.Test.YtcmncipikdpnbaaGreatDoorUb3
import Derived.Test.YtcmncipikdpnbaaGreatDoorUb12
import Derived.Test.YtcmncipikdpnbaaGreatDoorChecked
import Derived.LaidEql
import Derived.Stop.Asserts
import Derived.RowKitTokens
import Derived.Test.YtcmncipikdpnbaaGreatDoorRows
import Derived.WalkLawsBesides
import Derived.IntWalk
import Derived.RegionTactic
import Derived.BigRegion
import Derived.Deep.RegionWith
import Derived.Deep.RegionHeld3
import Derived.Outline
import Derived.Deep.QuietTactic
import Derived.BigQuiet
namespace Go.Proofs.YtcmncipikdpnbaaGreatDoor
section
open Go.RowKit Go.Extern.Stop Go.Stop Go.Extern
theorem BF (b:Addr)(w:World) :
  Calls Tryz.prog 98 #[.nilIface,.iface 234 (.pointer (some b))] w fun e w'=>e= .returned false/\w=w':=by
 have a:=run_eql_iface_nil_left (P:=Tryz.prog) w 234 (.pointer (some b)) Tryz.underlying123
 go_enter Tryz.func98,Tryz.ntmps98
 go_wp2
 go_ret;exact⟨Z,Z⟩
end
section
set_option maxRecDepth 100000
open Go.RowKit
def ou (c:Cg):Array Value:= #[c.go,c.win,c.EZ,c.on,c.pt,.func (.func 106) #[] #[],.func (.func 107) #[] #[]]
def eU (B:Nat)(c:Cg)(w:World):Prop:=∃t:{ t:TypeId // t=132 },w.heap[B]? =some (.cells (ou c) t.1 (0,0))
theorem eU.cells {B:Nat}{m:Cg}{w:World}(h:eU B m w) :
  w.cell? B=some (m.go:Y)/\w.cell? ⟨B,1,none⟩=some (m.win:Y)/\w.cell? ⟨B,2,none⟩=some (m.EZ:Y)/\w.cell? ⟨B,3,none⟩=some (m.on:Y)/\w.cell? ⟨B,4,none⟩=some (m.pt:Y)/\w.cell? ⟨B,5,none⟩=some (.func (.func 106) #[] #[])/\w.cell? ⟨B,6,none⟩=some (.func (.func 107) #[] #[]):=by
 obtain⟨t,a⟩:=h;refine⟨?_,?_,?_,?_,?_,?_,?_⟩ <;> (rw[Lq _ _ _ _ _ _ a];rfl)
theorem eU.free {B:Nat}{m:Cg}{w:World}(h:eU B m w)(i:Nat):w.frozen? ⟨B,i,none⟩=false:=by
 obtain⟨t,a⟩:=h;exact LW _ _ _ _ _ a
theorem eU.lt {B:Nat}{m:Cg}{w:World}(h:eU B m w):B<w.heap.size:=by
 obtain⟨t,a⟩:=h;exact(L8.1 a).1
theorem eU.drew {B:Nat}{m:Cg}{w:World}(h:eU B m w):eU B m w.drew:=h
theorem eU.below {B:Nat}{m:Cg}{w w':World}(h:eU B m w)(a:Below w.heap.size w w'):eU B m w':=by
 have b:=h.lt;obtain⟨t,c⟩:=h;exact⟨t,by rw[a.block B b];exact c⟩
theorem eU.alloc {B:Nat}{m:Cg}{w:World}(h:eU B m w)(o:Obj):eU B m (w.alloc o):=h.below ((L5 _ _).alloc (L6 _) _)
theorem eU.set {B:Nat}{m:Cg}{w:World}(h:eU B m w)(i:Nat)(v:Value)(a:Cg)(he:(ou m).setIfInBounds i v=ou a):eU B a (w.setCell ⟨B,i,none⟩ v):=by
 obtain⟨t,b⟩:=h;exact⟨t,by rw[LK _ _ _ _ _ _ b,he]⟩
theorem eU.other {B C:Nat}{m:Cg}{w w':World}(h:eU B m w)(b:nF C w w')(a:B≠C):eU B m w':=by
 obtain⟨t,c⟩:=h;exact⟨t,b.other c a⟩
def ow (a:Addr)(w:World):Prop:=w.cell? ⟨0,0,none⟩=some (.iface 234 (.pointer (some a)))/\0<w.heap.size
theorem ow.below {a:Addr}{w w':World}{N:Nat}(h:ow a w)(b:Below N w w')(c:0<N):ow a w' :=
 ⟨(b.cell (p:=⟨0,0,none⟩) c).trans h.1,Ld h.2 b.size⟩
set_option maxHeartbeats 400000 in
theorem ru (m:Int) (w:World) (h1:28<=m) (h2:m<=1024) :
  Calls Tryz.prog 99 #[m] w fun e w'=>e= .returned .nilIface/\w=w':=by
 go_enter Tryz.func99,Tryz.ntmps99
 go_wp2
 go_ret;exact⟨Z,Z⟩
set_option maxHeartbeats 400000 in
theorem gq (x y:Int) (C:Nat) (w:World) (h:w.cell? C=some (y:Y)) :
  Calls Tryz.prog 146 #[x,.slice (some ⟨C,0,none⟩) 1 1] w fun e w'=>e= .returned (max x y:Int)/\w=w':=by
 by_cases c:x<y
 ·have a:=H (show y=max x y by omega)
  go_enter Tryz.func146,Tryz.ntmps146
  go_wp2
  refine wp_loop_rounds 2 ?_;rw[rounds_succ]
  go_wp2
  rw[rounds_succ]
  go_wp2
  go_ret;exact⟨cH a.o,Z⟩
 have a:=H (show x=max x y by omega)
 go_enter Tryz.func146,Tryz.ntmps146
 go_wp2
 refine wp_loop_rounds 2 ?_;rw[rounds_succ]
 go_wp2
 rw[rounds_succ]
 go_wp2
 go_ret;exact⟨cH a.o,Z⟩
set_option maxHeartbeats 400000 in
theorem je (B:Nat) (c:Cg) (d:c.Ok) (w:World) (h:eU B c w) :
  Calls Tryz.prog 160 #[B] w fun e w'=>e= .returned c.on/\w=w':=by
 obtain⟨i,j,k,f,g,l,m⟩:=h.cells;by_cases b:c.on=true
 ·rw[b]at f|-;clear b
  go_enter Tryz.func160,Tryz.ntmps160
  go_wp2
  go_ret;exact⟨Z,Z⟩
 have a:c.on=false:=Jr
 rw[d.2.2.2.2.2.2.2 a]at g;rw[a]at f|-;clear b a
 go_enter Tryz.func160,Tryz.ntmps160
 go_wp2
 go_ret;exact⟨Z,Z⟩
theorem um (w:World):(binOp .neq 130 (.func (.func 106) #[] #[]) .nilFunc).run Tryz.prog w= .ok true w:=by kernel_rfl
theorem rx (w:World):(binOp .neq 130 (.func (.func 107) #[] #[]) .nilFunc).run Tryz.prog w= .ok true w:=by kernel_rfl
set_option maxHeartbeats 400000 in
theorem jf (B:Nat) (c:Cg) (w:World) (h:eU B c w) :
  Calls Tryz.prog 97 #[B] w fun e w'=>e= .returned true/\w=w':=by
 obtain⟨a,b,d,f,g,i,j⟩:=h.cells;have k:=um;have l:=rx
 go_enter Tryz.func97,Tryz.ntmps97
 go_wp2;go_ret;exact⟨Z,Z⟩
set_option maxHeartbeats 400000 in
theorem mL (B:Nat) (c:Cg) (f:Int) (q:aI f) (a:c.Ok) (w:World) (h:eU B c w) :
  Calls Tryz.prog 152 #[B,f] w fun e w'=>e= .returned (.tuple #[])/\eU B { c with EZ:=dj c.go f } w'/\nF B w w':=by
 obtain⟨b,d,m,g,i,j,k⟩:=h.cells;obtain⟨r,s,-⟩:=a;obtain⟨t,f2⟩:=q
 go_enter Tryz.func152,Tryz.ntmps152
 go_wp2_with fail;refine(gq (f.tdiv 2) (2*c.go) w.heap.size _ Ji).mono ?_;rintro e u⟨rfl,rfl⟩;have hA:=h.alloc (.cells #[(2*c.go:Int)] 3);have n:=(nF.refl B w).alloc (.cells #[(2*c.go:Int)] 3);have y:=hA.free 2;clear b d m g i j k;obtain⟨b,d,m,g,i,j,k⟩:=hA.cells;generalize w.alloc (.cells #[(2*c.go:Int)] 3)=W1 at *;clear b d g i j k;have p:=H (show dj c.go f=min (max (f.tdiv 2) (2*c.go)) 65535 from Z);generalize max (f.tdiv 2) (2*c.go)=x at *;by_cases z:65535<x
 ·have l:=H (show dj c.go f=65535 by rw[p.o];omega);go_wp2_with fail
  go_end0
  exact⟨Z,by rw[l.o];exact hA.set 2 _ _ Z,n.setCell _ _⟩
 have l:=H (show dj c.go f=x by rw[p.o];omega);go_wp2_with fail
 go_end0
 exact⟨Z,by rw[l.o];exact hA.set 2 _ _ Z,n.setCell _ _⟩
set_option maxHeartbeats 400000 in
theorem nk (B:Nat) (c:Cg) (n:Int) (h1:0<=n) (h2:n<=10000000) (a:c.Ok) (w:World) (h:eU B c w) :
  Calls Tryz.prog 162 #[B,n] w fun e w'=>e= .returned (.tuple #[])/\eU B { c with win:=min (c.win+n) 65535 } w'/\nF B w w':=by
 obtain⟨d,f,g,i,j,k,l⟩:=h.cells;obtain⟨-,-,m,p,-⟩:=a;have g1:=h.free 1;by_cases q:65535<c.win+n
 ·have b:=H (show min (c.win+n) 65535=65535 by omega)
  go_enter Tryz.func162,Tryz.ntmps162
  go_wp2_with fail
  go_end0
  exact⟨Z,by rw[b.o];exact h.set 1 _ _ Z,(nF.refl _ _).setCell _ _⟩
 have b:=H (show min (c.win+n) 65535=c.win+n by omega)
 go_enter Tryz.func162,Tryz.ntmps162
 go_wp2_with fail
 go_end0
 exact⟨Z,by rw[b.o];exact h.set 1 _ _ Z,(nF.refl _ _).setCell _ _⟩
set_option maxHeartbeats 400000 in
theorem xR (B:Nat) (c:Cg) (n:Int) (w:World) (h:eU B c w) :
  Calls Tryz.prog 106 #[B,n] w fun e w'=>e= .returned (min n c.go:Int)/\w=w':=by
 obtain⟨b,d,f,g,i,j,k⟩:=h.cells;by_cases l:c.go<n
 ·have a:=H (show c.go=min n c.go by omega)
  go_enter Tryz.func106,Tryz.ntmps106
  go_wp2;go_ret;exact⟨cH a.o,Z⟩
 have a:=H (show n=min n c.go by omega)
 go_enter Tryz.func106,Tryz.ntmps106
 go_wp2;go_ret;exact⟨cH a.o,Z⟩
theorem CL (w:World)(a:Value)(t:TypeId):((w.alloc (.cells #[a] t)).drew).cell? w.heap.size=some a:=by
 show(w.alloc (.cells #[a] t)).cell? w.heap.size=some a;rw[Lq _ _ _ _ _ _ (Ls _ _)];rfl
theorem CM (w:World)(b a:Value)(t:TypeId):(((w.alloc (.cells #[b] t)).alloc (.cells #[a] t)).drew).cell? ⟨w.heap.size+1,0,none⟩=some a:=by
 show((w.alloc (.cells #[b] t)).alloc (.cells #[a] t)).cell? ⟨w.heap.size+1,0,none⟩=some a;have h:=Ls (w.alloc (.cells #[b] t)) (.cells #[a] t);rw[show(w.alloc (.cells #[b] t)).heap.size=w.heap.size+1 by simp]at h;rw[Lq _ _ _ _ _ _ h];rfl
set_option maxHeartbeats 400000 in
theorem uo (B:Nat) (c:Cg) (n:Int) (a:c.Ok) (w:World) (h:eU B c w) :
  Calls Tryz.prog 107 #[B,n] w fun e w'=>e= .returned (jD c.go c.win)/\Below w.heap.size w w':=by
 obtain⟨u,x,b,d,f,g,i⟩:=h.cells;obtain⟨j,k,l,y,-⟩:=a
 go_enter Tryz.func107,Tryz.ntmps107
 go_wp2_with fail;obtain⟨z,A,m,C,E,F⟩:=kU j k l;have G:IntKind.i64.wrap (c.go*c.go)=c.go*c.go:=LF _ O;have I:max 1 c.win=c.win:=O
 have J:(c.go*c.go).tdiv c.win=c.go*c.go/c.win:=MM m;have K:IntKind.i64.wrap (c.go*c.go/c.win)=c.go*c.go/c.win:=LF _ O;clear b d f g i;have p:(c.win==0)=false:=by rw[Ln];omega
 have q:c.win≠0:=O
 have r:=H (CL w c.win 3);have s:=H (CM w c.win (c.go*c.go/c.win:Int) 3)
 go_region_held3 (fun w'=>w'.cell? B=some (c.go:Y)/\w'.cell? ⟨B,1,none⟩=some (c.win:Y)) (go_keep) (first | (go_at_call 146;((with_reducible refine(gq 1 c.win w.heap.size _ r.o).mono ?_);rintro e t⟨rfl,rfl⟩)) | (go_at_call 146;((with_reducible refine(gq 1 (c.go*c.go/c.win) (w.heap.size+1) _ s.o).mono ?_);rintro e t⟨rfl,rfl⟩)))
 all_goals
  go_wp2;go_ret;exact⟨Z,(((L5 _ _).alloc (L6 _) _).alloc IK _).drew⟩
end
section
open Go.RowKit
theorem qs {P:Program}{f:FuncId}{args:Array Value}{w:World}{n:Nat}{v:Value}
  (h:Calls P f args (w.drewN n) fun e w'=>e= .returned v/\w.drewN n=w'):Calls P f args (w.drewN n) fun e a=>e= .returned v/\∃m,a=w.drewN m :=
 h.mono fun _ _ ⟨he,hm⟩=>⟨he,n,hm.symm⟩
theorem eU.drewN {B:Nat}{m:Cg}{w:World}(h:eU B m w)(n:Nat):eU B m (w.drewN n):=h
theorem ow.drewN {a:Addr}{w:World}(h:ow a w)(n:Nat):ow a (w.drewN n):=h
theorem nF.drewN {B:Nat}{a w:World}(h:nF B a w)(n:Nat):nF B a (w.drewN n):=⟨h.os,h.tape,h.output,h.size,h.block⟩
set_option maxHeartbeats 800000 in
theorem qR (m:Int) (a:Addr) (w:World) (he:ow a w) (h1:28<=m) (h2:m<=1024) :
  Calls Tryz.prog 62 #[m] w fun e w'=>e= .returned (.tuple #[w.heap.size,(0:Int)])/\eU w.heap.size (Ay m) w'/\Below w.heap.size w w':=by
 have h0:=he.1
 go_enter Tryz.func62,Tryz.ntmps62
 go_wp2_with fail
 go_region_with (first | (go_at_call 99;refine(ru m _ O O).mono ?_;rintro e b⟨rfl,rfl⟩) | (go_at_call 98;refine(BF a _).mono ?_;rintro e b⟨rfl,rfl⟩))
 all_goals
  go_wp2_with fail
  go_ret2
  refine⟨Z,?_,?_⟩
  ·exact⟨⟨_,Z⟩,Ls _ _⟩
  ·exact((L5 _ _).alloc (L6 _) _).drew
set_option maxHeartbeats 800000 in
theorem jK (B:Nat) (c:Cg) (w:World) (h:eU B c w) :
  Calls Tryz.prog 168 #[B] w fun e w'=>e= .returned c.win/\w=w':=by
 go_enter Tryz.func168,Tryz.ntmps168
 go_wp2_with fail;refine(jf B c _ h).mono ?_;rintro e a⟨rfl,rfl⟩;obtain⟨b,d,f,g,i,j,k⟩:=h.cells;go_wp2;go_ret;exact⟨Z,Z⟩
set_option maxHeartbeats 800000 in
theorem xS (B:Nat) (c:Cg) (f n:Int) (l:aI f) (d:c.Ok) (w:World) (h:eU B c w) :
  Calls Tryz.prog 134 #[B,f,n] w fun e w'=>e= .returned (!c.on)/\eU B (c.lost f n) w'/\nF B w w':=by
 go_enter Tryz.func134,Tryz.ntmps134
 go_wp2_with fail;refine(jf B c _ h).mono ?_;rintro e p⟨rfl,rfl⟩;go_wp2_with fail;refine(je B c d _ h).mono ?_;rintro e q⟨rfl,rfl⟩;have i:nF B w w:=nF.refl _ _;by_cases a:c.on=true
 ·have j:=H (show c.lost f n=c by unfold Cg.lost;rw[L9 a]);have k:=H (show(!c.on)=false by rw[a];rfl);rw[a];clear a;go_wp2;go_ret;exact⟨by rw[k.o];rfl,by rw[j.o];exact h,i⟩
 have b:c.on=false:=Jf
 have j:=H (show c.lost f n={ c with EZ:=dj c.go f,win:=dj c.go f,on:=true,pt:=n } by unfold Cg.lost;rw[L7 a]);have k:=H (show(!c.on)=true by rw[b];rfl);rw[b];clear a b;go_wp2_with fail;refine(mL B c f l d _ h).mono ?_;rintro e r⟨rfl,g,m⟩;obtain⟨s,t,u,x,y,z,A⟩:=g.cells;have g1:=g.free 1;have C:=g.free 3;have E:=g.free 4;replace i:=i.trans m;go_wp2;go_ret;refine⟨by rw[k.o];rfl,?_,((i.setCell _ _).setCell _ _).setCell _ _⟩;rw[j.o];exact((g.set 1 _ { c with EZ:=dj c.go f,win:=dj c.go f } Z).set 3 _ { c with EZ:=dj c.go f,win:=dj c.go f,on:=true } Z).set 4 _ _ Z
set_option maxHeartbeats 800000 in
theorem qS (B:Nat) (c:Cg) (f n:Int) (g:aI f) (b:c.Ok) (w:World) (h:eU B c w) :
  Calls Tryz.prog 116 #[B,f,n] w fun e w'=>e= .returned (.tuple #[])/\eU B (c.timeout f) w'/\nF B w w':=by
 go_enter Tryz.func116,Tryz.ntmps116
 go_wp2_with fail;refine(jf B c _ h).mono ?_;rintro e j⟨rfl,rfl⟩;go_wp2_with fail;have d:nF B w w:=nF.refl _ _;refine(mL B c f g b _ h).mono ?_;rintro e k⟨rfl,a,i⟩;obtain⟨l,m,o,p,q,r,s⟩:=a.cells;have g1:=a.free 1;have t:=a.free 3;have u:=a.free 4;replace d:=d.trans i;go_wp2_with fail
 go_end0
 refine⟨Z,?_,((d.setCell _ _).setCell _ _).setCell _ _⟩;exact((a.set 1 _ { c with EZ:=dj c.go f,win:=c.go } Z).set 3 _ { c with EZ:=dj c.go f,win:=c.go,on:=false } Z).set 4 _ _ Z
end
section
open Go.RowKit
theorem nF.cell {B:Nat}{w w':World}(h:nF B w w'){p:Addr}(b:p.block<w.heap.size)(a:p.block≠B):w'.cell? p=w.cell? p:=Li (h.block p.block b a)
set_option maxHeartbeats 1600000 in
theorem uq (B C:Nat) (c:Cg) (w:World) (h:eU B c w) (l:w.cell? C=some (B:Y)) :
  Calls Tryz.prog 161 #[C] w fun e w'=>e= .returned (.tuple #[])/\eU B { c with on:=false,pt:=0,win:=c.EZ } w'/\nF B w w':=by
 obtain⟨d,a,b,f,g,i,j⟩:=h.cells;have g1:=h.free 1;have m:=h.free 3;have n:=h.free 4;clear i j d
 go_enter Tryz.func161,Tryz.ntmps161
 go_wp2_with fail;have k:=H ((h.set 3 false { c with on:=false } Z).set 4 (0:Int) { c with on:=false,pt:=0 } Z);have o:=H (((nF.refl B w).setCell 3 false).setCell 4 (0:Int))
 have p:((w.setCell ⟨B,3,none⟩ false).setCell ⟨B,4,none⟩ (0:Int)).cell? C=some (B:Y):=by
  rw[LX _ _ _ _ IK,LX _ _ _ _ IK];exact l
 generalize (w.setCell ⟨B,3,none⟩ false).setCell ⟨B,4,none⟩ (0:Int)=W1 at *;clear a b f g g1 m n l;obtain⟨d,a,b,f,g,i,j⟩:=k.cells;have g1:=k.free 1;clear i j d f g;replace a:W1.cell? ⟨B,1,none⟩=some (c.win:Y):=a;replace b:W1.cell? ⟨B,2,none⟩=some (c.EZ:Y):=b
 go_region
 all_goals
  go_wp2_with fail
  go_end0
  exact⟨Z,(k.drew).set 1 _ _ Z,(o.drew).setCell _ _⟩
set_option maxHeartbeats 1600000 in
theorem qT (B:Nat) (c:Cg) (n gi:Int) (b:c.Ok) (w:World) (h:eU B c w) :
  Calls Tryz.prog 131 #[B,n,gi] w fun e w'=>e= .returned (.tuple #[])/\eU B (c.i1 n gi) w'/\nF B w w':=by
 go_enter Tryz.func131,Tryz.ntmps131
 go_wp2_with fail;have k:B≠w.heap.size:=by have:=h.lt;omega
 replace h:=h.alloc (.cells #[B] 76);have d:=(nF.refl B w).alloc (.cells #[B] 76);have l:(w.alloc (.cells #[B] 76)).cell? w.heap.size=some (B:Y):=Ji
 have r:w.heap.size<(w.alloc (.cells #[B] 76)).heap.size:=IK
 generalize w.alloc (.cells #[B] 76)=W at *;generalize w.heap.size=C at *;refine(jf B c _ h).mono ?_;rintro e T⟨rfl,rfl⟩;go_wp2_with fail;refine(je B c b _ h).mono ?_;rintro e T⟨rfl,rfl⟩;obtain⟨U,z,A,V,E,F,G⟩:=h.cells;clear U V;have I:=b;by_cases a:c.on=true
 ·rw[a];by_cases J:c.pt<=gi
  ·have f:=H (show c.i1 n gi={ c with on:=false,pt:=0,win:=c.EZ } by unfold Cg.i1;rw[L9 a,L9 J]);clear a;go_wp2_with fail;refine(uq B C c _ h l).mono ?_;rintro e w2⟨rfl,m,i⟩;go_wp2_with fail;exact Lo (LY Z _ _ _) Z ⟨Z,by rw[f.o];exact m,d.trans i⟩
  have f:=H (show c.i1 n gi=c by unfold Cg.i1;rw[L9 a,L7 J]);clear a;go_wp2_with fail;exact Lo (LY Z _ _ _) Z ⟨Z,by rw[f.o];exact h,d⟩
 have g:c.on=false:=Jf
 rw[g];by_cases x:n<=0
 ·have f:=H (show c.i1 n gi=c by unfold Cg.i1;rw[L7 a,L9 x]);clear a g;go_wp2_with fail;exact Lo (LY Z _ _ _) Z ⟨Z,by rw[f.o];exact h,d⟩
 by_cases hw:c.win<c.EZ
 ·have f:=H (show c.i1 n gi={ c with win:=min (c.win+min n c.go) 65535 } by unfold Cg.i1;rw[L7 a,L7 x,L9 hw]);clear a g;go_wp2_with fail
  go_quiet (fail)
  go_wp2_with fail;have h2:=h.drewN nq;replace d:=d.drewN nq;have y:(W.drewN nq).cell? C=some (B:Y):=l;have s:C<(W.drewN nq).heap.size:=r;clear h l r z A E F G;generalize W.drewN nq=W2 at *;have q:=h2.drew;obtain⟨K,L,M,X,-⟩:=b;have N:0<=min n c.go:=O
  have P:min n c.go<=10000000:=O
  have t:=H I
  go_region_held3 (fun w'=>w'.cell? C=some (B:Y)) (first | exact j | go_keep) (first | (go_at_call 106;refine(xR B c n _ q).mono ?_;rintro e w3⟨rfl,rfl⟩) | (go_at_call 162;refine(nk B c (min n c.go) N P t.o _ q).mono ?_;rintro e w4⟨rfl,m,i⟩;have j:=(i.cell (p:=⟨C,0,none⟩) s k.symm).trans y))
  all_goals
   go_wp2_with fail
   go_end0
   exact⟨Z,by rw[f.o];exact m,d.drew.trans i⟩
 have f:=H (show c.i1 n gi={ c with win:=min (c.win+jD c.go c.win) 65535 } by unfold Cg.i1;rw[L7 a,L7 x,L7 hw]);clear a g;go_wp2_with fail
 go_quiet (fail)
 go_wp2_with fail;have h2:=h.drewN nq;replace d:=d.drewN nq;have y:(W.drewN nq).cell? C=some (B:Y):=l;have s:C<(W.drewN nq).heap.size:=r;clear h l r z A E F G;generalize W.drewN nq=W2 at *;have q:=h2.drew;obtain⟨K,L,M,X,-⟩:=b;obtain⟨N,P,-⟩:=kU K L M;have t:=H I
 go_region_held3 (fun w'=>w'.cell? C=some (B:Y)) (first | exact j | exact S | go_keep) (first | (go_at_call 107;refine(uo B c n t.o _ q).mono ?_;rintro e w3⟨rfl,u⟩;have h4:=q.below u;have S:=(u.cell (p:=⟨C,0,none⟩) s).trans y) | (go_at_call 162;refine(nk B c (jD c.go c.win) O O t.o _ h4).mono ?_;rintro e w4⟨rfl,m,i⟩;have j:=(i.cell (p:=⟨C,0,none⟩) (Ld s u.size) k.symm).trans S))
 all_goals
  go_wp2_with fail
  go_end0
  exact⟨Z,by rw[f.o];exact m,(d.drew.trans (nF.of_below u)).trans i⟩
end
end Go.Proofs.YtcmncipikdpnbaaGreatDoor
