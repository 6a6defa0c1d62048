import Derived.Test.YtcmncipikdpnbaaGreatDoorUk
import Derived.Test.YtcmncipikdpnbaaGreatDoorUb1
import Derived.Test.YtcmncipikdpnbaaGreatDoorUb14
import Derived.Test.YtcmncipikdpnbaaGreatDoorRows
import Derived.WalkKit
import Derived.WalkSpells
import Derived.WalkLawsBesides
namespace Go.Proofs.YtcmncipikdpnbaaGreatDoor
section
open Go.RowKit
theorem xV (w:World):(zeroValue 145).run Tryz.prog w= .ok (.agg (dK fun _=>0)) w:=by kernel_rfl
theorem BG (w:World):(zeroValue 179).run Tryz.prog w= .ok (.agg #[(0:Int),(0:Int),(0:Int)]) w:=by kernel_rfl
def ib:Array Value:=((List.range 16).flatMap fun i=>[Value.int .i64 (mM i),(mN i:Int),(tR i:Int)]).toArray
theorem BH:∀i,i<16->∀w,(Instr.index 180 (.agg ib) (.int .i64 (i:Nat))).run Tryz.prog w= .ok (.agg #[(mM i:Int),(mN i:Int),(tR i:Int)]) w
 | 0,_,_=>by kernel_rfl
 | 1,_,_=>by kernel_rfl
 | 2,_,_=>by kernel_rfl
 | 3,_,_=>by kernel_rfl
 | 4,_,_=>by kernel_rfl
 | 5,_,_=>by kernel_rfl
 | 6,_,_=>by kernel_rfl
 | 7,_,_=>by kernel_rfl
 | 8,_,_=>by kernel_rfl
 | 9,_,_=>by kernel_rfl
 | 10,_,_=>by kernel_rfl
 | 11,_,_=>by kernel_rfl
 | 12,_,_=>by kernel_rfl
 | 13,_,_=>by kernel_rfl
 | 14,_,_=>by kernel_rfl
 | 15,_,_=>by kernel_rfl
 | n+16,h,_=>by omega
def fP (w:World):Prop:=∃t a,w.heap[1]? =some (.cells ib t a)
set_option maxHeartbeats 400000 in
theorem us (w:World) (y:fP w) :
  Calls Tryz.prog 111 #[] w fun e w'=>e= .returned (.agg (dK (gD 16)))/\Below w.heap.size w w':=by
 have hz:=xV
 go_enter Tryz.func111,Tryz.ntmps111
 go_wp2
 go_loopw [2,3,6,7,8,9,10,11,12,13,14,15,16,17,18,19,20,21,22,23,24,25] (fun _ _ i _ _ _ _ _ _ _ _ _ _ _ _ _ _ _ _ _ _ _ wr=>∃k:Nat,k<=10/\i= .int .i64 k/\cp w (eV k 0) wr) (fun _ _ i _ _ _ _ _ _ _ _ _ _ _ _ _ _ _ _ _ _ _ _=>10-(intOf i).toNat)
 case atStart=>exact⟨0,O,Z,cp.start w⟩
 case round =>
  obtain⟨k,I,rfl,f⟩:=hrel;by_cases z:k<10
  ·go_wp2
   obtain⟨c,rfl⟩:∃c:World,c=wr:=⟨_,Z⟩
   go_loopw [3,9,10,11,12,13,14,15,16] (fun _ i _ _ _ _ _ _ _ wr=>∃j:Nat,j<=10/\i= .int .i64 j/\cp w (eV k j) wr) (fun _ i _ _ _ _ _ _ _ _=>10-(intOf i).toNat)
   case atStart=>exact⟨0,O,Z,f⟩
   case round =>
    obtain⟨j,A,rfl,a⟩:=hrel;by_cases b:j<10
    ·have B:=a.cell (k*10+j) O;have C:=a.frozen (k*10+j)
     go_wp2
     go_roundw
     case rel=>exact⟨j+1,O,IP,a.step b⟩
     case measure=>simp[intOf];omega
    obtain rfl:j=10:=O
    by_cases g:k=0
    ·subst g
     go_wp2
     go_roundw
     case rel=>exact⟨1,O,IP,a.row0⟩
     case measure=>simp[intOf]
    have J:=a.cell (k*10+8) O;have K:=a.frozen (k*10+8);have L:=a.cell (k*10+9) O;have M:=a.frozen (k*10+9)
    go_wp2
    go_roundw
    case rel=>exact⟨k+1,O,IP,a.HU O⟩
    case measure=>simp[intOf];omega
  obtain rfl:k=10:=O
  have h:Below w.heap.size w wr:=f.2.2.2;obtain⟨m,n,l⟩:=y
  have d:wr.heap[1]? =some (.cells ib m n):=by
   rw[h.block _ (L8.1 l).1];exact l
  clear l;have q:=H d;clear d
  go_wp2_with (refine wpList_load_row Z 180 _ Z 1 Z m _ n _ q.o Tryz.underlying180 Z IL ?_)
  have r:cp w (gD 0) wr:=f.congr fun _ _=>rfl;clear f q h;have N:=BG;obtain⟨c,rfl⟩:∃c:World,c=wr:=⟨_,Z⟩
  go_loopw [5,27,28,29,30,31,32,33,34,35,36,37,38] (fun _ i _ _ _ _ _ _ _ _ _ _ _ wr=>∃j:Nat,j<=16/\i= .int .i64 j/\cp w (gD j) wr) (fun _ i _ _ _ _ _ _ _ _ _ _ _ _=>16-(intOf i).toNat)
  case atStart=>exact⟨0,O,Z,r⟩
  case round =>
   clear r;obtain⟨j,A,rfl,a⟩:=hrel;by_cases b:j<16
   ·have P:=BH j b;have hA:=xT j b;have h:=xU j b
    go_wp2
    have B:=fun o=>(a.alloc o).cell (mM j*10+mN j) O;have C:=fun o=>(a.alloc o).frozen (mM j*10+mN j);have E:=a.1
    go_region
    go_wp2
    go_roundw
    case rel=>exact⟨j+1,O,IP,(a.alloc _).trip.drew⟩
    case measure=>simp[intOf];omega
   obtain rfl:j=16:=O
   obtain⟨s,t,u,F⟩:=a;have S:=H s;have x:=H t;have G:=H u;clear s t u
   go_wp2_with (first | (refine wpList_load_row Z 145 (.tmp 1) Z (w.heap.size+1) Z 145 _ (0,0) _ G.o Tryz.underlying145 Z IL ?_) | (refine wpList_store_row Z 145 (.tmp 0) (.tmp 39) Z w.heap.size _ Z Z 145 _ x.o IL IL IL ?_))
   refine Lo (v:=.agg (dK (gD 16))) (M6 (p:=0) (ty:=145) Z _ _ w.heap.size 145 _ (0,0) _ Z (setRow_heap _ _ _ _ _ _ x.o) Tryz.underlying145 Z IL) Z ⟨Z,jg F _ _ (L6 _)⟩
end
section
open Go.RowKit
def xW (s e:Int):Int:=if 0<=s/\s<10/\0<=e/\e<10 then gD 16 (s.toNat*10+e.toNat)else -1
def zr (s e:Int):Int:=if xW s e= -1 then 0 else xW s e
def xX (s e:Int):Int:=if xW s e= -1 then 170 else 0
theorem BI (a b:Nat)(ha:a<10)(c:b<10):xW a b=gD 16 (a*10+b):=by
 unfold xW;rw[L9 ⟨O,O,O,O⟩];simp
theorem tS (s e:Int)(h:s<0\/10<=s\/e<0\/10<=e):xW s e= -1:=by
 unfold xW;rw[L7 O]
theorem Bj {a b c d:Int}(h:a=b)(e:c=d):Ending.returned (.tuple #[a,c])= .returned (.tuple #[b,d]):=by rw[h,e]
set_option maxHeartbeats 400000 in
theorem xY (s e:Int) (w:World) (h:s<0\/10<=s\/e<0\/10<=e) :
  Calls Tryz.prog 69 #[s,e] w fun r w'=>r= .returned (.tuple #[(zr s e),(xX s e)])/\Below w.heap.size w w':=by
 have h0:zr s e=0:=by unfold zr;rw[L9 (tS s e h)]
 have h1:xX s e=170:=by unfold xX;rw[L9 (tS s e h)]
 rw[h0,h1];clear h0 h1;by_cases a:s<0
 ·clear h
  go_enter Tryz.func69,Tryz.ntmps69
  go_wp2
  go_ret2
  exact⟨Z,L5 _ _⟩
 by_cases b:10<=s
 ·clear h
  go_enter Tryz.func69,Tryz.ntmps69
  go_wp2
  go_ret2
  exact⟨Z,L5 _ _⟩
 by_cases c:e<0
 ·clear h
  go_enter Tryz.func69,Tryz.ntmps69
  go_wp2
  go_ret2
  exact⟨Z,L5 _ _⟩
 have d:10<=e:=O
 clear h
 go_enter Tryz.func69,Tryz.ntmps69
 go_wp2
 go_ret2
 exact⟨Z,L5 _ _⟩
set_option maxHeartbeats 400000 in
theorem zt (a b:Nat) (ha:a<10) (j:b<10) (w:World) (k:fP w) :
  Calls Tryz.prog 69 #[.int .i64 a,.int .i64 b] w fun r w'=>r= .returned (.tuple #[(zr a b),(xX a b)])/\Below w.heap.size w w':=by
 have hz:=xV;have h:=BI a b ha j;have l:=H h;clear h
 go_enter Tryz.func69,Tryz.ntmps69
 go_wp2_with (first | (go_at_call 111;refine(us _ k).mono ?_;rintro r d⟨rfl,e⟩) | (refine wpList_store_row rfl 145 (.tmp 6) (.tmp 22) rfl d.heap.size _ rfl rfl 145 _ (Ls _ _) IL IL IL ?_;have i:((d.alloc (.cells (dK fun _=>0) 145)).setRow d.heap.size (dK (gD 16))).cell? ⟨d.heap.size,a*10+b,none⟩=some (gD 16 (a*10+b):Y):=(cell_setRow_same _ _ _ _ _ _ _ (Ls _ _)).trans (np _ _ O);have f:Below w.heap.size w ((d.alloc (.cells (dK fun _=>0) 145)).setRow d.heap.size (dK (gD 16))):=jg (e.alloc e.size _) _ _ e.size;generalize (d.alloc (.cells (dK fun _=>0) 145)).setRow d.heap.size (dK (gD 16))=w2 at i f|-;rw[<-l.o]at i))
 all_goals go_ret2
 ·rename_i g;have c:xW a b= -1:=by simpa using g
  exact⟨Bj (by unfold zr;rw[L9 c]) (by unfold xX;rw[L9 c]),f⟩
 rename_i g;have c:¬xW a b= -1:=Jl
 exact⟨Bj (by unfold zr;rw[L7 c]) (by unfold xX;rw[L7 c]),f⟩
theorem qU (s e:Int)(w:World)(c:fP w) :
  Calls Tryz.prog 69 #[s,e] w fun r w'=>r= .returned (.tuple #[(zr s e),(xX s e)])/\Below w.heap.size w w':=by
 by_cases h:s<0\/10<=s\/e<0\/10<=e
 ·exact xY s e w h
 obtain⟨a,rfl⟩:=M2 (show 0<=s by omega);obtain⟨b,rfl⟩:=M2 (show 0<=e by omega);exact zt a b O O w c
theorem fP.below {w w':World}(h:fP w)(b:Below w.heap.size w w'):fP w':=by
 obtain⟨t,c,a⟩:=h;exact⟨t,c,by rw[b.block _ (L8.1 a).1];exact a⟩
end
section
open Go.RowKit
def jh (s:Int):Bool:=decide (s=3\/s=4\/s=5)
def fE (s:Int):Bool:=decide (3<=s/\s<=9)
theorem xZ {a b:Bool}(h:a=b):Ending.returned a= .returned b:=by rw[h]
set_option maxHeartbeats 400000 in
theorem bK (s:Int) (w:World):Calls Tryz.prog 94 #[s] w fun r w'=>r= .returned (jh s)/\w=w':=by
 by_cases b:s=3
 ·subst b
  go_enter Tryz.func94,Tryz.ntmps94
  go_wp2
  go_ret;exact⟨Z,Z⟩
 by_cases c:s=4
 ·subst c
  go_enter Tryz.func94,Tryz.ntmps94
  go_wp2
  go_ret;exact⟨Z,Z⟩
 have d:(s==3)=false:=Jr
 have e:(s==4)=false:=by simpa using c
 have a:=H (show(s==5)=jh s by unfold jh;rw[NS];simp[b,c]);clear b c
 go_enter Tryz.func94,Tryz.ntmps94
 go_wp2
 go_ret;exact⟨xZ a.out,Z⟩
set_option maxHeartbeats 400000 in
theorem bi (s:Int) (w:World):Calls Tryz.prog 53 #[s] w fun r w'=>r= .returned (fE s)/\w=w':=by
 by_cases b:3<=s
 ·have a:=H (show decide (s<=9)=fE s by unfold fE;simp[b])
  go_enter Tryz.func53,Tryz.ntmps53
  go_wp2
  go_ret;exact⟨xZ a.out,Z⟩
 have a:=H (show false=fE s by unfold fE;simp[b])
 go_enter Tryz.func53,Tryz.ntmps53
 go_wp2
 go_ret;exact⟨xZ a.out,Z⟩
end
end Go.Proofs.YtcmncipikdpnbaaGreatDoor
