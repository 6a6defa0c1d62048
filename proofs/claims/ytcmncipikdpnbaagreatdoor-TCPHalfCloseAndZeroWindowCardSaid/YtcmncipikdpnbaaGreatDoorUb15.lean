import Derived.Test.YtcmncipikdpnbaaGreatDoorUk
import Derived.Test.YtcmncipikdpnbaaGreatDoorUb2
import Derived.Test.YtcmncipikdpnbaaGreatDoorUb4
import Derived.Test.YtcmncipikdpnbaaGreatDoorUb14
import Derived.Test.YtcmncipikdpnbaaGreatDoorChecked
import Derived.LaidEql
import Derived.Stop.Asserts
import Derived.RowKitTokens
import Derived.Test.YtcmncipikdpnbaaGreatDoorRows
import Derived.WalkLawsBesides
import Derived.IntWalk
import Derived.RegionTactic
import Derived.BigRegion
import Derived.Deep.RegionWith
import Derived.Deep.RegionHeld3
import Derived.Outline
import Derived.Deep.QuietTactic
import Derived.BigQuiet
namespace Go.Proofs.YtcmncipikdpnbaaGreatDoor
section
open Go.RowKit Go.Extern.Stop Go.Stop Go.Extern
theorem yK (v:Value)(w:World):(Extern.ReflectliteType.typeOf #[.iface 234 v]).run Tryz.prog w= .ok (.iface 197 (.agg #[.pointer (some ⟨2,234,none⟩)])) w:=by kernel_rfl
def CY:Array Value->Sem Value:=Extern.ReflectliteType.method fun t=>do Go.Extern.Rtype.noPackHeld "Comparable" t;pure (<-typeInfo t).comparable
theorem pP (w:World):(CY #[.agg #[.pointer (some ⟨2,234,none⟩)]]).run Tryz.prog w= .ok true w:=by kernel_rfl
theorem jQ (v:Value)(w:World):(Go.method 370 197 v "Comparable").run Tryz.prog w= .ok (223,v) w:=by kernel_rfl
theorem Bl:(Tryz.prog.info? 234).map (·.comparable)=some true:=by kernel_rfl
theorem Bm:(Tryz.prog.info? 258).map (·.size)=some 1:=by kernel_rfl
set_option maxHeartbeats 1600000 in
theorem A7 (a:Addr) (w:World) :
  Calls Tryz.prog 98 #[.iface 234 (.pointer (some a)),.iface 234 (.pointer (some a))] w fun e w'=>e= .returned true/\w=w':=by
 obtain⟨i,hi,b⟩:=Option.map_eq_some_iff.1 Bl;obtain⟨j,c,d⟩:=Option.map_eq_some_iff.1 Bm;have g:= @run_callFunc_extern Tryz.prog 142 _ Extern.ReflectliteType.typeOf Tryz.func142 IG IG IG IG;have h:= @run_callFunc_extern Tryz.prog 223 _ CY Tryz.func223 IG IG IG IG;have k:=yK;have l:=pP;have m:=jQ;have f:=run_eql_iface_ptr_same (P:=Tryz.prog) w a Tryz.underlying123 Tryz.underlying234 hi b c
 go_enter Tryz.func98,Tryz.ntmps98
 go_wp2
 refine wp_loop_rounds 1 ?_;rw[rounds_succ]
 go_wp2
 go_ret;exact⟨Z,Z⟩
theorem sZ (b:Addr)(w:World) :
  Calls Tryz.prog 98 #[.nilIface,.iface 234 (.pointer (some b))] w fun e w'=>e= .returned false/\w=w':=by
 have a:=run_eql_iface_nil_left (P:=Tryz.prog) w 234 (.pointer (some b)) Tryz.underlying123
 go_enter Tryz.func98,Tryz.ntmps98
 go_wp2
 go_ret;exact⟨Z,Z⟩
end
section
set_option maxRecDepth 100000
open Go.RowKit
def pQ (c:Cg):Array Value:= #[c.gi,c.win,c.EJ,c.on,c.pt,.func (.func 106) #[] #[],.func (.func 107) #[] #[]]
def eX (B:Nat)(c:Cg)(w:World):Prop:=∃t:{ t:TypeId // t=132 },w.heap[B]? =some (.cells (pQ c) t.1 (0,0))
theorem eX.cells {B:Nat}{m:Cg}{w:World}(h:eX B m w) :
  w.cell? B=some (m.gi:Y)/\w.cell? ⟨B,1,none⟩=some (m.win:Y)/\w.cell? ⟨B,2,none⟩=some (m.EJ:Y)/\w.cell? ⟨B,3,none⟩=some (m.on:Y)/\w.cell? ⟨B,4,none⟩=some (m.pt:Y)/\w.cell? ⟨B,5,none⟩=some (.func (.func 106) #[] #[])/\w.cell? ⟨B,6,none⟩=some (.func (.func 107) #[] #[]):=by
 obtain⟨t,a⟩:=h;refine⟨?_,?_,?_,?_,?_,?_,?_⟩ <;> (rw[Ln _ _ _ _ _ _ a];rfl)
theorem eX.free {B:Nat}{m:Cg}{w:World}(h:eX B m w)(i:Nat):w.frozen? ⟨B,i,none⟩=false:=by
 obtain⟨t,a⟩:=h;exact LT _ _ _ _ _ a
theorem eX.lt {B:Nat}{m:Cg}{w:World}(h:eX B m w):B<w.heap.size:=by
 obtain⟨t,a⟩:=h;exact(L6.1 a).1
theorem eX.drew {B:Nat}{m:Cg}{w:World}(h:eX B m w):eX B m w.drew:=h
theorem eX.below {B:Nat}{m:Cg}{w w':World}(h:eX B m w)(a:Below w.heap.size w w'):eX B m w':=by
 have b:=h.lt;obtain⟨t,c⟩:=h;exact⟨t,by rw[a.block B b];exact c⟩
theorem eX.alloc {B:Nat}{m:Cg}{w:World}(h:eX B m w)(o:Obj):eX B m (w.alloc o):=h.below ((L3 _ _).alloc (L4 _) _)
theorem eX.set {B:Nat}{m:Cg}{w:World}(h:eX B m w)(i:Nat)(v:Value)(a:Cg)(he:(pQ m).setIfInBounds i v=pQ a):eX B a (w.setCell ⟨B,i,none⟩ v):=by
 obtain⟨t,b⟩:=h;exact⟨t,by rw[LH _ _ _ _ _ _ b,he]⟩
def mY (a:Addr)(w:World):Prop:=w.cell? ⟨0,0,none⟩=some (.iface 234 (.pointer (some a)))/\0<w.heap.size
theorem mY.below {a:Addr}{w w':World}{N:Nat}(h:mY a w)(b:Below N w w')(c:0<N):mY a w' :=
 ⟨(b.cell (p:=⟨0,0,none⟩) c).trans h.1,Lb h.2 b.size⟩
set_option maxHeartbeats 400000 in
theorem vT (m:Int) (a:Addr) (w:World) (h:mY a w) (hm:m<28\/1024<m) :
  Calls Tryz.prog 99 #[m] w fun e w'=>e= .returned (.iface 234 (.pointer (some a)))/\w=w':=by
 have h0:=h.1;clear h;by_cases c:m<28
 ·go_enter Tryz.func99,Tryz.ntmps99
  go_wp2
  go_ret;exact⟨Z,Z⟩
 have b:1024<m:=O
 clear hm
 go_enter Tryz.func99,Tryz.ntmps99
 go_wp2
 go_ret;exact⟨Z,Z⟩
set_option maxHeartbeats 400000 in
theorem jR (m:Int) (w:World) (h1:28<=m) (h2:m<=1024) :
  Calls Tryz.prog 99 #[m] w fun e w'=>e= .returned .nilIface/\w=w':=by
 go_enter Tryz.func99,Tryz.ntmps99
 go_wp2
 go_ret;exact⟨Z,Z⟩
set_option maxHeartbeats 400000 in
theorem iB (x y:Int) (C:Nat) (w:World) (h:w.cell? C=some (y:Y)) :
  Calls Tryz.prog 146 #[x,.slice (some ⟨C,0,none⟩) 1 1] w fun e w'=>e= .returned (max x y:Int)/\w=w':=by
 by_cases c:x<y
 ·have a:=H (show y=max x y by omega)
  go_enter Tryz.func146,Tryz.ntmps146
  go_wp2
  refine wp_loop_rounds 2 ?_;rw[rounds_succ]
  go_wp2
  rw[rounds_succ]
  go_wp2
  go_ret;exact⟨cH a.o,Z⟩
 have a:=H (show x=max x y by omega)
 go_enter Tryz.func146,Tryz.ntmps146
 go_wp2
 refine wp_loop_rounds 2 ?_;rw[rounds_succ]
 go_wp2
 rw[rounds_succ]
 go_wp2
 go_ret;exact⟨cH a.o,Z⟩
set_option maxHeartbeats 400000 in
theorem jp (B:Nat) (c:Cg) (d:c.Ok) (w:World) (h:eX B c w) :
  Calls Tryz.prog 160 #[B] w fun e w'=>e= .returned c.on/\w=w':=by
 obtain⟨i,j,k,f,g,l,m⟩:=h.cells;by_cases b:c.on=true
 ·rw[b]at f|-;clear b
  go_enter Tryz.func160,Tryz.ntmps160
  go_wp2
  go_ret;exact⟨Z,Z⟩
 have a:c.on=false:=Jk
 rw[d.2.2.2.2.2.2.2 a]at g;rw[a]at f|-;clear b a
 go_enter Tryz.func160,Tryz.ntmps160
 go_wp2
 go_ret;exact⟨Z,Z⟩
theorem vU (w:World):(binOp .neq 130 (.func (.func 106) #[] #[]) .nilFunc).run Tryz.prog w= .ok true w:=by kernel_rfl
theorem se (w:World):(binOp .neq 130 (.func (.func 107) #[] #[]) .nilFunc).run Tryz.prog w= .ok true w:=by kernel_rfl
set_option maxHeartbeats 400000 in
theorem fJ (B:Nat) (c:Cg) (w:World) (h:eX B c w) :
  Calls Tryz.prog 97 #[B] w fun e w'=>e= .returned true/\w=w':=by
 obtain⟨a,b,d,f,g,i,j⟩:=h.cells;have k:=vU;have l:=se
 go_enter Tryz.func97,Tryz.ntmps97
 go_wp2;go_ret;exact⟨Z,Z⟩
set_option maxHeartbeats 400000 in
theorem mZ (B:Nat) (c:Cg) (f:Int) (hf:aI f) (a:c.Ok) (w:World) (h:eX B c w) :
  Calls Tryz.prog 152 #[B,f] w fun e w'=>e= .returned (.tuple #[])/\eX B { c with EJ:=dt c.gi f } w'/\lh B w w':=by
 obtain⟨b,d,m,g,i,j,k⟩:=h.cells;obtain⟨q,r,-⟩:=a;obtain⟨s,f2⟩:=hf
 go_enter Tryz.func152,Tryz.ntmps152
 go_wp2_with fail;refine(iB (f.tdiv 2) (2*c.gi) w.heap.size _ Jd).mono ?_;rintro e t⟨rfl,rfl⟩;have hA:=h.alloc (.cells #[(2*c.gi:Int)] 3);have n:=(lh.refl B w).alloc (.cells #[(2*c.gi:Int)] 3);have u:=hA.free 2;clear b d m g i j k;obtain⟨b,d,m,g,i,j,k⟩:=hA.cells;generalize w.alloc (.cells #[(2*c.gi:Int)] 3)=W1 at *;clear b d g i j k;have p:=H (show dt c.gi f=min (max (f.tdiv 2) (2*c.gi)) 65535 from Z);generalize max (f.tdiv 2) (2*c.gi)=x at *;by_cases y:65535<x
 ·have l:=H (show dt c.gi f=65535 by rw[p.o];omega);go_wp2_with fail
  go_end0
  exact⟨Z,by rw[l.o];exact hA.set 2 _ _ Z,n.setCell _ _⟩
 have l:=H (show dt c.gi f=x by rw[p.o];omega);go_wp2_with fail
 go_end0
 exact⟨Z,by rw[l.o];exact hA.set 2 _ _ Z,n.setCell _ _⟩
set_option maxHeartbeats 400000 in
theorem oK (B:Nat) (c:Cg) (n:Int) (h1:0<=n) (h2:n<=10000000) (a:c.Ok) (w:World) (h:eX B c w) :
  Calls Tryz.prog 162 #[B,n] w fun e w'=>e= .returned (.tuple #[])/\eX B { c with win:=min (c.win+n) 65535 } w'/\lh B w w':=by
 obtain⟨d,f,g,i,j,k,l⟩:=h.cells;obtain⟨-,-,m,p,-⟩:=a;have g1:=h.free 1;by_cases q:65535<c.win+n
 ·have b:=H (show min (c.win+n) 65535=65535 by omega)
  go_enter Tryz.func162,Tryz.ntmps162
  go_wp2_with fail
  go_end0
  exact⟨Z,by rw[b.o];exact h.set 1 _ _ Z,(lh.refl _ _).setCell _ _⟩
 have b:=H (show min (c.win+n) 65535=c.win+n by omega)
 go_enter Tryz.func162,Tryz.ntmps162
 go_wp2_with fail
 go_end0
 exact⟨Z,by rw[b.o];exact h.set 1 _ _ Z,(lh.refl _ _).setCell _ _⟩
set_option maxHeartbeats 400000 in
theorem yL (B:Nat) (c:Cg) (n:Int) (w:World) (h:eX B c w) :
  Calls Tryz.prog 106 #[B,n] w fun e w'=>e= .returned (min n c.gi:Int)/\w=w':=by
 obtain⟨b,d,f,g,i,j,k⟩:=h.cells;by_cases l:c.gi<n
 ·have a:=H (show c.gi=min n c.gi by omega)
  go_enter Tryz.func106,Tryz.ntmps106
  go_wp2;go_ret;exact⟨cH a.o,Z⟩
 have a:=H (show n=min n c.gi by omega)
 go_enter Tryz.func106,Tryz.ntmps106
 go_wp2;go_ret;exact⟨cH a.o,Z⟩
theorem Cx (w:World)(a:Value)(t:TypeId):((w.alloc (.cells #[a] t)).drew).cell? w.heap.size=some a:=by
 show(w.alloc (.cells #[a] t)).cell? w.heap.size=some a;rw[Ln _ _ _ _ _ _ (Lp _ _)];rfl
theorem Cy (w:World)(b a:Value)(t:TypeId):(((w.alloc (.cells #[b] t)).alloc (.cells #[a] t)).drew).cell? ⟨w.heap.size+1,0,none⟩=some a:=by
 show((w.alloc (.cells #[b] t)).alloc (.cells #[a] t)).cell? ⟨w.heap.size+1,0,none⟩=some a;have h:=Lp (w.alloc (.cells #[b] t)) (.cells #[a] t);rw[show(w.alloc (.cells #[b] t)).heap.size=w.heap.size+1 by simp]at h;rw[Ln _ _ _ _ _ _ h];rfl
set_option maxHeartbeats 400000 in
theorem vV (B:Nat) (c:Cg) (n:Int) (a:c.Ok) (w:World) (h:eX B c w) :
  Calls Tryz.prog 107 #[B,n] w fun e w'=>e= .returned (jI c.gi c.win)/\Below w.heap.size w w':=by
 obtain⟨u,x,b,d,f,g,i⟩:=h.cells;obtain⟨j,k,l,y,-⟩:=a
 go_enter Tryz.func107,Tryz.ntmps107
 go_wp2_with fail;obtain⟨z,A,m,C,E,F⟩:=kh j k l;have G:IntKind.i64.wrap (c.gi*c.gi)=c.gi*c.gi:=LC _ O;have I:max 1 c.win=c.win:=O
 have J:(c.gi*c.gi).tdiv c.win=c.gi*c.gi/c.win:=MJ m;have K:IntKind.i64.wrap (c.gi*c.gi/c.win)=c.gi*c.gi/c.win:=LC _ O;clear b d f g i;have p:(c.win==0)=false:=by rw[Ll];omega
 have q:c.win≠0:=O
 have r:=H (Cx w c.win 3);have s:=H (Cy w c.win (c.gi*c.gi/c.win:Int) 3)
 go_region_held3 (fun w'=>w'.cell? B=some (c.gi:Y)/\w'.cell? ⟨B,1,none⟩=some (c.win:Y)) (go_keep) (first | (go_at_call 146;((with_reducible refine(iB 1 c.win w.heap.size _ r.o).mono ?_);rintro e t⟨rfl,rfl⟩)) | (go_at_call 146;((with_reducible refine(iB 1 (c.gi*c.gi/c.win) (w.heap.size+1) _ s.o).mono ?_);rintro e t⟨rfl,rfl⟩)))
 all_goals
  go_wp2;go_ret;exact⟨Z,(((L3 _ _).alloc (L4 _) _).alloc FE _).drew⟩
end
section
open Go.RowKit
theorem qs {P:Program}{f:FuncId}{args:Array Value}{w:World}{n:Nat}{v:Value}
  (h:Calls P f args (w.drewN n) fun e w'=>e= .returned v/\w.drewN n=w'):Calls P f args (w.drewN n) fun e a=>e= .returned v/\∃m,a=w.drewN m :=
 h.mono fun _ _ ⟨he,hm⟩=>⟨he,n,hm.symm⟩
theorem eX.drewN {B:Nat}{m:Cg}{w:World}(h:eX B m w)(n:Nat):eX B m (w.drewN n):=h
theorem mY.drewN {a:Addr}{w:World}(h:mY a w)(n:Nat):mY a (w.drewN n):=h
theorem lh.drewN {B:Nat}{a w:World}(h:lh B a w)(n:Nat):lh B a (w.drewN n):=⟨h.os,h.tape,h.output,h.size,h.block⟩
set_option maxHeartbeats 800000 in
theorem qt (m:Int) (a:Addr) (w:World) (he:mY a w) (h1:28<=m) (h2:m<=1024) :
  Calls Tryz.prog 62 #[m] w fun e w'=>e= .returned (.tuple #[w.heap.size,(0:Int)])/\eX w.heap.size (Bd m) w'/\Below w.heap.size w w':=by
 have h0:=he.1
 go_enter Tryz.func62,Tryz.ntmps62
 go_wp2_with fail
 go_region_with (first | (go_at_call 99;refine(jR m _ O O).mono ?_;rintro e b⟨rfl,rfl⟩) | (go_at_call 98;refine(sZ a _).mono ?_;rintro e b⟨rfl,rfl⟩))
 all_goals
  go_wp2_with fail
  go_ret2
  refine⟨Z,?_,?_⟩
  ·exact⟨⟨_,Z⟩,Lp _ _⟩
  ·exact((L3 _ _).alloc (L4 _) _).drew
set_option maxHeartbeats 800000 in
theorem jS (B:Nat) (c:Cg) (w:World) (h:eX B c w) :
  Calls Tryz.prog 168 #[B] w fun e w'=>e= .returned c.win/\w=w':=by
 go_enter Tryz.func168,Tryz.ntmps168
 go_wp2_with fail;refine(fJ B c _ h).mono ?_;rintro e a⟨rfl,rfl⟩;obtain⟨b,d,f,g,i,j,k⟩:=h.cells;go_wp2;go_ret;exact⟨Z,Z⟩
set_option maxHeartbeats 800000 in
theorem yM (B:Nat) (c:Cg) (f n:Int) (hf:aI f) (d:c.Ok) (w:World) (h:eX B c w) :
  Calls Tryz.prog 134 #[B,f,n] w fun e w'=>e= .returned (!c.on)/\eX B (c.lost f n) w'/\lh B w w':=by
 go_enter Tryz.func134,Tryz.ntmps134
 go_wp2_with fail;refine(fJ B c _ h).mono ?_;rintro e m⟨rfl,rfl⟩;go_wp2_with fail;refine(jp B c d _ h).mono ?_;rintro e p⟨rfl,rfl⟩;have i:lh B w w:=lh.refl _ _;by_cases a:c.on=true
 ·have j:=H (show c.lost f n=c by unfold Cg.lost;rw[L7 a]);have k:=H (show(!c.on)=false by rw[a];rfl);rw[a];clear a;go_wp2;go_ret;exact⟨by rw[k.o];rfl,by rw[j.o];exact h,i⟩
 have b:c.on=false:=Ja
 have j:=H (show c.lost f n={ c with EJ:=dt c.gi f,win:=dt c.gi f,on:=true,pt:=n } by unfold Cg.lost;rw[L5 a]);have k:=H (show(!c.on)=true by rw[b];rfl);rw[b];clear a b;go_wp2_with fail;refine(mZ B c f hf d _ h).mono ?_;rintro e q⟨rfl,g,l⟩;obtain⟨r,s,t,u,x,y,z⟩:=g.cells;have g1:=g.free 1;have A:=g.free 3;have C:=g.free 4;replace i:=i.trans l;go_wp2;go_ret;refine⟨by rw[k.o];rfl,?_,((i.setCell _ _).setCell _ _).setCell _ _⟩;rw[j.o];exact((g.set 1 _ { c with EJ:=dt c.gi f,win:=dt c.gi f } Z).set 3 _ { c with EJ:=dt c.gi f,win:=dt c.gi f,on:=true } Z).set 4 _ _ Z
set_option maxHeartbeats 800000 in
theorem qu (B:Nat) (c:Cg) (f n:Int) (hf:aI f) (b:c.Ok) (w:World) (h:eX B c w) :
  Calls Tryz.prog 116 #[B,f,n] w fun e w'=>e= .returned (.tuple #[])/\eX B (c.timeout f) w'/\lh B w w':=by
 go_enter Tryz.func116,Tryz.ntmps116
 go_wp2_with fail;refine(fJ B c _ h).mono ?_;rintro e i⟨rfl,rfl⟩;go_wp2_with fail;have d:lh B w w:=lh.refl _ _;refine(mZ B c f hf b _ h).mono ?_;rintro e j⟨rfl,a,g⟩;obtain⟨k,l,m,o,p,q,r⟩:=a.cells;have g1:=a.free 1;have s:=a.free 3;have t:=a.free 4;replace d:=d.trans g;go_wp2_with fail
 go_end0
 refine⟨Z,?_,((d.setCell _ _).setCell _ _).setCell _ _⟩;exact((a.set 1 _ { c with EJ:=dt c.gi f,win:=c.gi } Z).set 3 _ { c with EJ:=dt c.gi f,win:=c.gi,on:=false } Z).set 4 _ _ Z
set_option maxHeartbeats 800000 in
theorem si (B:Nat) (c:Cg) (m:Int) (a:Addr) (w:World) (he:mY a w) (h:eX B c w) :
  Calls Tryz.prog 52 #[B,m] w fun e w'=>e= .returned (.tuple #[])/\eX B (c.tl m) w'/\lh B w w':=by
 have h0:=he.1;obtain⟨r,g,i,j,k,l,n⟩:=h.cells;clear g i j k l n;have s:=h.free 0;by_cases d:m<28\/1024<m
 ·have b:=H (show c.tl m=c by unfold Cg.tl;rw[L5 O]);have p:=H d;clear d
  go_enter Tryz.func52,Tryz.ntmps52
  go_wp2_with fail
  go_quiet ((first | (go_at_call 97;exact qs (fJ B c _ (h.drewN _))) | (go_at_call 99;exact qs (vT m a _ (he.drewN _) p.o)) | (go_at_call 98;exact qs (A7 a _))))
  all_goals
   go_wp2_with fail;exact Lm (LV Z _ _ _) Z ⟨Z,by rw[b.o];exact h,(lh.refl _ _).drewN _⟩
 have t:28<=m:=O
 have u:m<=1024:=O
 clear d;by_cases q:m<c.gi
 ·have b:=H (show c.tl m={ c with gi:=m } by unfold Cg.tl;rw[L7 O]);have f:¬c.gi<=m:=by omega
  go_enter Tryz.func52,Tryz.ntmps52
  go_wp2_with fail
  go_quiet ((first | (go_at_call 97;exact qs (fJ B c _ (h.drewN _))) | (go_at_call 99;exact qs (jR m _ O O)) | (go_at_call 98;exact qs (sZ a _))))
  all_goals
   go_wp2_with fail
   go_end0
   exact⟨Z,by rw[b.o];exact(h.drewN _).set 0 _ _ Z,((lh.refl _ _).drewN _).setCell _ _⟩
 have b:=H (show c.tl m=c by unfold Cg.tl;rw[L5 O]);have f:c.gi<=m:=O
 go_enter Tryz.func52,Tryz.ntmps52
 go_wp2_with fail
 go_quiet ((first | (go_at_call 97;exact qs (fJ B c _ (h.drewN _))) | (go_at_call 99;exact qs (jR m _ O O)) | (go_at_call 98;exact qs (sZ a _))))
 all_goals
  go_wp2_with fail;exact Lm (LV Z _ _ _) Z ⟨Z,by rw[b.o];exact h,(lh.refl _ _).drewN _⟩
end
section
open Go.RowKit
theorem lh.cell {B:Nat}{w w':World}(h:lh B w w'){p:Addr}(b:p.block<w.heap.size)(a:p.block≠B):w'.cell? p=w.cell? p:=Lg (h.block p.block b a)
set_option maxHeartbeats 1600000 in
theorem vX (B C:Nat) (c:Cg) (w:World) (h:eX B c w) (l:w.cell? C=some (B:Y)) :
  Calls Tryz.prog 161 #[C] w fun e w'=>e= .returned (.tuple #[])/\eX B { c with on:=false,pt:=0,win:=c.EJ } w'/\lh B w w':=by
 obtain⟨d,a,b,f,g,i,j⟩:=h.cells;have g1:=h.free 1;have m:=h.free 3;have n:=h.free 4;clear i j d
 go_enter Tryz.func161,Tryz.ntmps161
 go_wp2_with fail;have k:=H ((h.set 3 false { c with on:=false } Z).set 4 (0:Int) { c with on:=false,pt:=0 } Z);have o:=H (((lh.refl B w).setCell 3 false).setCell 4 (0:Int))
 have p:((w.setCell ⟨B,3,none⟩ false).setCell ⟨B,4,none⟩ (0:Int)).cell? C=some (B:Y):=by
  rw[LU _ _ _ _ FE,LU _ _ _ _ FE];exact l
 generalize (w.setCell ⟨B,3,none⟩ false).setCell ⟨B,4,none⟩ (0:Int)=W1 at *;clear a b f g g1 m n l;obtain⟨d,a,b,f,g,i,j⟩:=k.cells;have g1:=k.free 1;clear i j d f g;replace a:W1.cell? ⟨B,1,none⟩=some (c.win:Y):=a;replace b:W1.cell? ⟨B,2,none⟩=some (c.EJ:Y):=b
 go_region
 all_goals
  go_wp2_with fail
  go_end0
  exact⟨Z,(k.drew).set 1 _ _ Z,(o.drew).setCell _ _⟩
set_option maxHeartbeats 1600000 in
theorem qv (B:Nat) (c:Cg) (n fM:Int) (b:c.Ok) (w:World) (h:eX B c w) :
  Calls Tryz.prog 131 #[B,n,fM] w fun e w'=>e= .returned (.tuple #[])/\eX B (c.go n fM) w'/\lh B w w':=by
 go_enter Tryz.func131,Tryz.ntmps131
 go_wp2_with fail;have k:B≠w.heap.size:=by have:=h.lt;omega
 replace h:=h.alloc (.cells #[B] 76);have d:=(lh.refl B w).alloc (.cells #[B] 76);have l:(w.alloc (.cells #[B] 76)).cell? w.heap.size=some (B:Y):=Jd
 have r:w.heap.size<(w.alloc (.cells #[B] 76)).heap.size:=FE
 generalize w.alloc (.cells #[B] 76)=W at *;generalize w.heap.size=C at *;refine(fJ B c _ h).mono ?_;rintro e T⟨rfl,rfl⟩;go_wp2_with fail;refine(jp B c b _ h).mono ?_;rintro e T⟨rfl,rfl⟩;obtain⟨U,z,A,V,E,F,G⟩:=h.cells;clear U V;have I:=b;by_cases a:c.on=true
 ·rw[a];by_cases J:c.pt<=fM
  ·have f:=H (show c.go n fM={ c with on:=false,pt:=0,win:=c.EJ } by unfold Cg.go;rw[L7 a,L7 J]);clear a;go_wp2_with fail;refine(vX B C c _ h l).mono ?_;rintro e w2⟨rfl,m,i⟩;go_wp2_with fail;exact Lm (LV Z _ _ _) Z ⟨Z,by rw[f.o];exact m,d.trans i⟩
  have f:=H (show c.go n fM=c by unfold Cg.go;rw[L7 a,L5 J]);clear a;go_wp2_with fail;exact Lm (LV Z _ _ _) Z ⟨Z,by rw[f.o];exact h,d⟩
 have g:c.on=false:=Ja
 rw[g];by_cases x:n<=0
 ·have f:=H (show c.go n fM=c by unfold Cg.go;rw[L5 a,L7 x]);clear a g;go_wp2_with fail;exact Lm (LV Z _ _ _) Z ⟨Z,by rw[f.o];exact h,d⟩
 by_cases hw:c.win<c.EJ
 ·have f:=H (show c.go n fM={ c with win:=min (c.win+min n c.gi) 65535 } by unfold Cg.go;rw[L5 a,L5 x,L7 hw]);clear a g;go_wp2_with fail
  go_quiet (fail)
  go_wp2_with fail;have h2:=h.drewN nq;replace d:=d.drewN nq;have y:(W.drewN nq).cell? C=some (B:Y):=l;have s:C<(W.drewN nq).heap.size:=r;clear h l r z A E F G;generalize W.drewN nq=W2 at *;have q:=h2.drew;obtain⟨K,L,M,X,-⟩:=b;have N:0<=min n c.gi:=O
  have P:min n c.gi<=10000000:=O
  have t:=H I
  go_region_held3 (fun w'=>w'.cell? C=some (B:Y)) (first | exact j | go_keep) (first | (go_at_call 106;refine(yL B c n _ q).mono ?_;rintro e w3⟨rfl,rfl⟩) | (go_at_call 162;refine(oK B c (min n c.gi) N P t.o _ q).mono ?_;rintro e w4⟨rfl,m,i⟩;have j:=(i.cell (p:=⟨C,0,none⟩) s k.symm).trans y))
  all_goals
   go_wp2_with fail
   go_end0
   exact⟨Z,by rw[f.o];exact m,d.drew.trans i⟩
 have f:=H (show c.go n fM={ c with win:=min (c.win+jI c.gi c.win) 65535 } by unfold Cg.go;rw[L5 a,L5 x,L5 hw]);clear a g;go_wp2_with fail
 go_quiet (fail)
 go_wp2_with fail;have h2:=h.drewN nq;replace d:=d.drewN nq;have y:(W.drewN nq).cell? C=some (B:Y):=l;have s:C<(W.drewN nq).heap.size:=r;clear h l r z A E F G;generalize W.drewN nq=W2 at *;have q:=h2.drew;obtain⟨K,L,M,X,-⟩:=b;obtain⟨N,P,-⟩:=kh K L M;have t:=H I
 go_region_held3 (fun w'=>w'.cell? C=some (B:Y)) (first | exact j | exact S | go_keep) (first | (go_at_call 107;refine(vV B c n t.o _ q).mono ?_;rintro e w3⟨rfl,u⟩;have h4:=q.below u;have S:=(u.cell (p:=⟨C,0,none⟩) s).trans y) | (go_at_call 162;refine(oK B c (jI c.gi c.win) O O t.o _ h4).mono ?_;rintro e w4⟨rfl,m,i⟩;have j:=(i.cell (p:=⟨C,0,none⟩) (Lb s u.size) k.symm).trans S))
 all_goals
  go_wp2_with fail
  go_end0
  exact⟨Z,by rw[f.o];exact m,(d.drew.trans (lh.of_below u)).trans i⟩
end
end Go.Proofs.YtcmncipikdpnbaaGreatDoor
