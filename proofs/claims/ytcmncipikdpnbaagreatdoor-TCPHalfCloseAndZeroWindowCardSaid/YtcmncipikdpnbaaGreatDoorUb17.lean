import Derived.Test.YtcmncipikdpnbaaGreatDoorUk
import Derived.Test.YtcmncipikdpnbaaGreatDoorUb1
import Derived.Test.YtcmncipikdpnbaaGreatDoorUb16
import Derived.Test.YtcmncipikdpnbaaGreatDoorRows
import Derived.WalkKit
import Derived.WalkSpells
import Derived.WalkLawsBesides
namespace Go.Proofs.YtcmncipikdpnbaaGreatDoor
section
open Go.RowKit
theorem yP (w:World):(zeroValue 145).run Tryz.prog w= .ok (.agg (dN fun _=>0)) w:=by kernel_rfl
theorem Bn (w:World):(zeroValue 179).run Tryz.prog w= .ok (.agg #[(0:Int),(0:Int),(0:Int)]) w:=by kernel_rfl
def ij:Array Value:=((List.range 16).flatMap fun i=>[Value.int .i64 (ma i),(mc i:Int),(uG i:Int)]).toArray
theorem Bo:∀i,i<16->∀w,(Instr.index 180 (.agg ij) (.int .i64 (i:Nat))).run Tryz.prog w= .ok (.agg #[(ma i:Int),(mc i:Int),(uG i:Int)]) w
 | 0,_,_=>by kernel_rfl
 | 1,_,_=>by kernel_rfl
 | 2,_,_=>by kernel_rfl
 | 3,_,_=>by kernel_rfl
 | 4,_,_=>by kernel_rfl
 | 5,_,_=>by kernel_rfl
 | 6,_,_=>by kernel_rfl
 | 7,_,_=>by kernel_rfl
 | 8,_,_=>by kernel_rfl
 | 9,_,_=>by kernel_rfl
 | 10,_,_=>by kernel_rfl
 | 11,_,_=>by kernel_rfl
 | 12,_,_=>by kernel_rfl
 | 13,_,_=>by kernel_rfl
 | 14,_,_=>by kernel_rfl
 | 15,_,_=>by kernel_rfl
 | n+16,h,_=>by omega
def fS (w:World):Prop:=∃t a,w.heap[1]? =some (.cells ij t a)
set_option maxHeartbeats 400000 in
theorem vZ (w:World) (y:fS w) :
  Calls Tryz.prog 111 #[] w fun e w'=>e= .returned (.agg (dN (gM 16)))/\Below w.heap.size w w':=by
 have hz:=yP
 go_enter Tryz.func111,Tryz.ntmps111
 go_wp2
 go_loopw [2,3,6,7,8,9,10,11,12,13,14,15,16,17,18,19,20,21,22,23,24,25] (fun _ _ i _ _ _ _ _ _ _ _ _ _ _ _ _ _ _ _ _ _ _ wr=>∃k:Nat,k<=10/\i= .int .i64 k/\cp w (eY k 0) wr) (fun _ _ i _ _ _ _ _ _ _ _ _ _ _ _ _ _ _ _ _ _ _ _=>10-(intOf i).toNat)
 case atStart=>exact⟨0,O,Z,cp.start w⟩
 case round =>
  obtain⟨k,I,rfl,f⟩:=hrel;by_cases z:k<10
  ·go_wp2
   obtain⟨c,rfl⟩:∃c:World,c=wr:=⟨_,Z⟩
   go_loopw [3,9,10,11,12,13,14,15,16] (fun _ i _ _ _ _ _ _ _ wr=>∃j:Nat,j<=10/\i= .int .i64 j/\cp w (eY k j) wr) (fun _ i _ _ _ _ _ _ _ _=>10-(intOf i).toNat)
   case atStart=>exact⟨0,O,Z,f⟩
   case round =>
    obtain⟨j,A,rfl,a⟩:=hrel;by_cases b:j<10
    ·have B:=a.cell (k*10+j) O;have C:=a.frozen (k*10+j)
     go_wp2
     go_roundw
     case rel=>exact⟨j+1,O,IK,a.step b⟩
     case measure=>simp[intOf];omega
    obtain rfl:j=10:=O
    by_cases g:k=0
    ·subst g
     go_wp2
     go_roundw
     case rel=>exact⟨1,O,IK,a.row0⟩
     case measure=>simp[intOf]
    have J:=a.cell (k*10+8) O;have K:=a.frozen (k*10+8);have L:=a.cell (k*10+9) O;have M:=a.frozen (k*10+9)
    go_wp2
    go_roundw
    case rel=>exact⟨k+1,O,IK,a.Hp O⟩
    case measure=>simp[intOf];omega
  obtain rfl:k=10:=O
  have h:Below w.heap.size w wr:=f.2.2.2;obtain⟨m,n,l⟩:=y
  have d:wr.heap[1]? =some (.cells ij m n):=by
   rw[h.block _ (L6.1 l).1];exact l
  clear l;have q:=H d;clear d
  go_wp2_with (refine wpList_load_row Z 180 _ Z 1 Z m _ n _ q.o Tryz.underlying180 Z IG ?_)
  have r:cp w (gM 0) wr:=f.congr fun _ _=>rfl;clear f q h;have N:=Bn;obtain⟨c,rfl⟩:∃c:World,c=wr:=⟨_,Z⟩
  go_loopw [5,27,28,29,30,31,32,33,34,35,36,37,38] (fun _ i _ _ _ _ _ _ _ _ _ _ _ wr=>∃j:Nat,j<=16/\i= .int .i64 j/\cp w (gM j) wr) (fun _ i _ _ _ _ _ _ _ _ _ _ _ _=>16-(intOf i).toNat)
  case atStart=>exact⟨0,O,Z,r⟩
  case round =>
   clear r;obtain⟨j,A,rfl,a⟩:=hrel;by_cases b:j<16
   ·have P:=Bo j b;have hA:=yN j b;have h:=yO j b
    go_wp2
    have B:=fun o=>(a.alloc o).cell (ma j*10+mc j) O;have C:=fun o=>(a.alloc o).frozen (ma j*10+mc j);have E:=a.1
    go_region
    go_wp2
    go_roundw
    case rel=>exact⟨j+1,O,IK,(a.alloc _).trip.drew⟩
    case measure=>simp[intOf];omega
   obtain rfl:j=16:=O
   obtain⟨s,t,u,F⟩:=a;have S:=H s;have x:=H t;have G:=H u;clear s t u
   go_wp2_with (first | (refine wpList_load_row Z 145 (.tmp 1) Z (w.heap.size+1) Z 145 _ (0,0) _ G.o Tryz.underlying145 Z IG ?_) | (refine wpList_store_row Z 145 (.tmp 0) (.tmp 39) Z w.heap.size _ Z Z 145 _ x.o IG IG IG ?_))
   refine Lm (v:=.agg (dN (gM 16))) (M3 (p:=0) (ty:=145) Z _ _ w.heap.size 145 _ (0,0) _ Z (setRow_heap _ _ _ _ _ _ x.o) Tryz.underlying145 Z IG) Z ⟨Z,jq F _ _ (L4 _)⟩
end
section
open Go.RowKit
def yQ (s e:Int):Int:=if 0<=s/\s<10/\0<=e/\e<10 then gM 16 (s.toNat*10+e.toNat)else -1
def A8 (s e:Int):Int:=if yQ s e= -1 then 0 else yQ s e
def yR (s e:Int):Int:=if yQ s e= -1 then 170 else 0
theorem Bp (a b:Nat)(ha:a<10)(c:b<10):yQ a b=gM 16 (a*10+b):=by
 unfold yQ;rw[L7 ⟨O,O,O,O⟩];simp
theorem uH (s e:Int)(h:s<0\/10<=s\/e<0\/10<=e):yQ s e= -1:=by
 unfold yQ;rw[L5 O]
theorem CZ {a b c d:Int}(h:a=b)(e:c=d):Ending.returned (.tuple #[a,c])= .returned (.tuple #[b,d]):=by rw[h,e]
set_option maxHeartbeats 400000 in
theorem yS (s e:Int) (w:World) (h:s<0\/10<=s\/e<0\/10<=e) :
  Calls Tryz.prog 69 #[s,e] w fun r w'=>r= .returned (.tuple #[(A8 s e),(yR s e)])/\Below w.heap.size w w':=by
 have h0:A8 s e=0:=by unfold A8;rw[L7 (uH s e h)]
 have h1:yR s e=170:=by unfold yR;rw[L7 (uH s e h)]
 rw[h0,h1];clear h0 h1;by_cases a:s<0
 ·clear h
  go_enter Tryz.func69,Tryz.ntmps69
  go_wp2
  go_ret2
  exact⟨Z,L3 _ _⟩
 by_cases b:10<=s
 ·clear h
  go_enter Tryz.func69,Tryz.ntmps69
  go_wp2
  go_ret2
  exact⟨Z,L3 _ _⟩
 by_cases c:e<0
 ·clear h
  go_enter Tryz.func69,Tryz.ntmps69
  go_wp2
  go_ret2
  exact⟨Z,L3 _ _⟩
 have d:10<=e:=O
 clear h
 go_enter Tryz.func69,Tryz.ntmps69
 go_wp2
 go_ret2
 exact⟨Z,L3 _ _⟩
set_option maxHeartbeats 400000 in
theorem A9 (a b:Nat) (ha:a<10) (j:b<10) (w:World) (k:fS w) :
  Calls Tryz.prog 69 #[.int .i64 a,.int .i64 b] w fun r w'=>r= .returned (.tuple #[(A8 a b),(yR a b)])/\Below w.heap.size w w':=by
 have hz:=yP;have h:=Bp a b ha j;have l:=H h;clear h
 go_enter Tryz.func69,Tryz.ntmps69
 go_wp2_with (first | (go_at_call 111;refine(vZ _ k).mono ?_;rintro r d⟨rfl,e⟩) | (refine wpList_store_row rfl 145 (.tmp 6) (.tmp 22) rfl d.heap.size _ rfl rfl 145 _ (Lp _ _) IG IG IG ?_;have i:((d.alloc (.cells (dN fun _=>0) 145)).setRow d.heap.size (dN (gM 16))).cell? ⟨d.heap.size,a*10+b,none⟩=some (gM 16 (a*10+b):Y):=(cell_setRow_same _ _ _ _ _ _ _ (Lp _ _)).trans (oL _ _ O);have f:Below w.heap.size w ((d.alloc (.cells (dN fun _=>0) 145)).setRow d.heap.size (dN (gM 16))):=jq (e.alloc e.size _) _ _ e.size;generalize (d.alloc (.cells (dN fun _=>0) 145)).setRow d.heap.size (dN (gM 16))=w2 at i f|-;rw[<-l.o]at i))
 all_goals go_ret2
 ·rename_i g;have c:yQ a b= -1:=by simpa using g
  exact⟨CZ (by unfold A8;rw[L7 c]) (by unfold yR;rw[L7 c]),f⟩
 rename_i g;have c:¬yQ a b= -1:=Ji
 exact⟨CZ (by unfold A8;rw[L5 c]) (by unfold yR;rw[L5 c]),f⟩
theorem qx (s e:Int)(w:World)(c:fS w) :
  Calls Tryz.prog 69 #[s,e] w fun r w'=>r= .returned (.tuple #[(A8 s e),(yR s e)])/\Below w.heap.size w w':=by
 by_cases h:s<0\/10<=s\/e<0\/10<=e
 ·exact yS s e w h
 obtain⟨a,rfl⟩:=LY (show 0<=s by omega);obtain⟨b,rfl⟩:=LY (show 0<=e by omega);exact A9 a b O O w c
theorem fS.below {w w':World}(h:fS w)(b:Below w.heap.size w w'):fS w':=by
 obtain⟨t,c,a⟩:=h;exact⟨t,c,by rw[b.block _ (L6.1 a).1];exact a⟩
end
section
open Go.RowKit
def jr (s:Int):Bool:=decide (s=3\/s=4\/s=5)
def dg (s:Int):Bool:=decide (3<=s/\s<=9)
theorem yT {a b:Bool}(h:a=b):Ending.returned a= .returned b:=by rw[h]
set_option maxHeartbeats 400000 in
theorem bJ (s:Int) (w:World):Calls Tryz.prog 94 #[s] w fun r w'=>r= .returned (jr s)/\w=w':=by
 by_cases b:s=3
 ·subst b
  go_enter Tryz.func94,Tryz.ntmps94
  go_wp2
  go_ret;exact⟨Z,Z⟩
 by_cases c:s=4
 ·subst c
  go_enter Tryz.func94,Tryz.ntmps94
  go_wp2
  go_ret;exact⟨Z,Z⟩
 have d:(s==3)=false:=Jk
 have e:(s==4)=false:=by simpa using c
 have a:=H (show(s==5)=jr s by unfold jr;rw[NO];simp[b,c]);clear b c
 go_enter Tryz.func94,Tryz.ntmps94
 go_wp2
 go_ret;exact⟨yT a.out,Z⟩
set_option maxHeartbeats 400000 in
theorem bS (s:Int) (w:World):Calls Tryz.prog 53 #[s] w fun r w'=>r= .returned (dg s)/\w=w':=by
 by_cases b:3<=s
 ·have a:=H (show decide (s<=9)=dg s by unfold dg;simp[b])
  go_enter Tryz.func53,Tryz.ntmps53
  go_wp2
  go_ret;exact⟨yT a.out,Z⟩
 have a:=H (show false=dg s by unfold dg;simp[b])
 go_enter Tryz.func53,Tryz.ntmps53
 go_wp2
 go_ret;exact⟨yT a.out,Z⟩
end
end Go.Proofs.YtcmncipikdpnbaaGreatDoor
