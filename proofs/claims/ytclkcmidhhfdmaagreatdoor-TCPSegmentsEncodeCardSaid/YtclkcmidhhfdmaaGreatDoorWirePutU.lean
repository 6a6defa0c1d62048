import Derived.Test.YtclkcmidhhfdmaaGreatDoorUc
import Derived.Test.YtclkcmidhhfdmaaGreatDoorUb0
import Derived.Test.YtclkcmidhhfdmaaGreatDoorRows
import Derived.WalkKit
import Derived.WalkSpells
import Derived.WalkLawsBesides
import Derived.Lib.Hide
import Derived.Laws.BitsAllLaws
import Derived.Laws.Rows
import Derived.Laws.CopyRow
import Derived.Laws.IdiomStrings
import Derived.IntWalk
namespace Go.Proofs.YtclkcmidhhfdmaaGreatDoor
open Go.RowKit
theorem yE (w:World)(old new:Array Value)(t:TypeId):(w.alloc (.cells old t)).setRow w.heap.size new=w.alloc (.cells new t):=by
 have h:(w.heap.push (.cells old t)).modify w.heap.size (fun o=>match o with | .cells _ t f=>.cells new t f | o=>o)=w.heap.push (.cells new t):=by
  apply Array.ext
  ·simp
  intro i h1 h2;rw[Array.getElem_modify,Array.getElem_push,Array.getElem_push];by_cases e:w.heap.size=i
  ·subst e;simp
  rw[if_neg e];have:i<w.heap.size:=by simp at h2;omega
  simp[this]
 show({ w with heap:=(w.heap.push (.cells old t)).modify w.heap.size _ }:World)={ w with heap:=w.heap.push (.cells new t) };rw[<-h];rfl
def yF (l:List UInt8):Array Value:=(l.map fun c=>Value.int .u8 (c.toNat:Int)).toArray
theorem yT (W:World)(l:List UInt8)(t:TypeId):(convert 112 9 (.slice (some ⟨W.heap.size,0,none⟩) l.length l.length)).run Tryz.prog (W.alloc (.cells (yF l) t))= .ok (.string ⟨l.toArray⟩) (W.alloc (.cells (yF l) t)):=by
 refine run_convert_bytes_back _ _ _ 5 _ _ l Tryz.underlying112 Tryz.underlying5 Tryz.underlying9 fun j hj=> ?_;have e:(⟨W.heap.size,0,none⟩:Addr).add j=⟨W.heap.size,j,none⟩:=by unfold Addr.add;split <;> simp_all
 rw[e,cell_of_row _ _ _ _ _ _ (heap_alloc_new _ _)]
 simp[yF,hj]
theorem AQ (n:Nat):(UInt8.ofNat (n%256)).toNat=n%256:=by simp
def zK (n b:Int):ByteArray:=if 1<=b/\b<=4/\0<=n/\n<256 ^ b.toNat then⟨(be b.toNat n.toNat).toArray⟩else⟨#[]⟩
def yq (n b:Int):Int:=if 1<=b/\b<=4/\0<=n/\n<256 ^ b.toNat then 0 else 10
theorem AC {a b:ByteArray}{c d:Int}(h:a=b)(h':c=d):Ending.returned (.tuple #[.string a,c])= .returned (.tuple #[.string b,d]):=by rw[h,h']
theorem AR (w:World):(Instr.makeSlice 112 (1:Int) (1:Int)).run Tryz.prog w= .ok (.slice (some ⟨w.heap.size,0,none⟩) 1 1) (w.alloc (.cells #[.int .u8 0] 5)):=by kernel_rfl
theorem AS (w:World)(x0 x1 x2 x3:Int)(T:TypeId):(Builtin.copy_ #[112,112] 3 #[.slice (some ⟨w.heap.size+1,0,none⟩) 1 1,.slice (some ⟨w.heap.size,3,none⟩) 1 1]).run Tryz.prog ((w.alloc (.cells #[.int .u8 x0,.int .u8 x1,.int .u8 x2,.int .u8 x3] T)).alloc (.cells #[.int .u8 0] 5)) =
  .ok (1:Int) ((w.alloc (.cells #[.int .u8 x0,.int .u8 x1,.int .u8 x2,.int .u8 x3] T)).alloc (.cells #[.int .u8 x3] 5)):=by
 have h:=run_copy_row (P:=Tryz.prog) ((w.alloc (.cells #[.int .u8 x0,.int .u8 x1,.int .u8 x2,.int .u8 x3] T)).alloc (.cells #[.int .u8 0] 5)) 112 112 3 5 (w.heap.size+1) 0 1 1 ⟨w.heap.size,3,none⟩ 1 1 #[.int .u8 0] 5 [.int .u8 x3] Tryz.underlying112 (by kernel_rfl) (heap_alloc2_new _ _ _) rfl ?_ (by simp) (by intro v hv;simp at hv;subst hv;rfl)
 ·rw[h];have e:=yE (w.alloc (.cells #[.int .u8 x0,.int .u8 x1,.int .u8 x2,.int .u8 x3] T)) #[.int .u8 0] #[.int .u8 x3] 5;rw[World.size_alloc]at e;exact congrArg (Result.ok (Value.int .i64 1)) e
 intro j v hj;have e:(⟨w.heap.size,3,none⟩:Addr).add j=⟨w.heap.size,3+j,none⟩:=by unfold Addr.add;split <;> simp_all
 rw[e,cell_of_row _ _ _ _ _ _ (heap_alloc2_old _ _ _)]
 match j,hj with
 | 0,hj=>simpa using hj
 | j+1,hj=>simp at hj
theorem AT (m:Nat)(hm:m<256):(#[.int .u8 ((m:Int))]:Array Value)=yF (be 1 m):=by
 simp[yF,be]
 omega
set_option maxHeartbeats 400000 in
theorem zL (m:Nat) (hm:m<256) (w:World) :
  Calls Tryz.prog 134 #[.int .i64 m,(1:Int)] w fun e w'=>e= .returned (.tuple #[.string ⟨(be 1 m).toArray⟩,(0:Int)])/\Below w.heap.size w w':=by
 have hmk:=AR;have aF:=AS w;have hnz:((m:Int)/256 != 0)=false:=by simp;omega
 have hcv:=fun o=>yT (w.alloc o) (be 1 m) 5;rw[dr,<-AT m hm]at hcv;simp only[World.size_alloc]at hcv;generalize (⟨(be 1 m).toArray⟩:ByteArray)=S at hcv|-
 go_enter Tryz.func134,Tryz.ntmps134
 go_wp2
 go_ret2
 exact⟨rfl,((Below.refl _ _).alloc (Nat.le_refl _) _).alloc (by simp) _⟩
theorem AU (w:World):(Instr.makeSlice 112 (2:Int) (2:Int)).run Tryz.prog w= .ok (.slice (some ⟨w.heap.size,0,none⟩) 2 2) (w.alloc (.cells #[.int .u8 0,.int .u8 0] 5)):=by kernel_rfl
theorem AV (w:World)(x0 x1 x2 x3:Int)(T:TypeId):(Builtin.copy_ #[112,112] 3 #[.slice (some ⟨w.heap.size+1,0,none⟩) 2 2,.slice (some ⟨w.heap.size,2,none⟩) 2 2]).run Tryz.prog ((w.alloc (.cells #[.int .u8 x0,.int .u8 x1,.int .u8 x2,.int .u8 x3] T)).alloc (.cells #[.int .u8 0,.int .u8 0] 5)) =
  .ok (2:Int) ((w.alloc (.cells #[.int .u8 x0,.int .u8 x1,.int .u8 x2,.int .u8 x3] T)).alloc (.cells #[.int .u8 x2,.int .u8 x3] 5)):=by
 have h:=run_copy_row (P:=Tryz.prog) ((w.alloc (.cells #[.int .u8 x0,.int .u8 x1,.int .u8 x2,.int .u8 x3] T)).alloc (.cells #[.int .u8 0,.int .u8 0] 5)) 112 112 3 5 (w.heap.size+1) 0 2 2 ⟨w.heap.size,2,none⟩ 2 2 #[.int .u8 0,.int .u8 0] 5 [.int .u8 x2,.int .u8 x3] Tryz.underlying112 (by kernel_rfl) (heap_alloc2_new _ _ _) rfl ?_ (by simp) (by intro v hv;simp at hv;rcases hv with rfl | rfl <;> rfl)
 ·rw[h];have e:=yE (w.alloc (.cells #[.int .u8 x0,.int .u8 x1,.int .u8 x2,.int .u8 x3] T)) #[.int .u8 0,.int .u8 0] #[.int .u8 x2,.int .u8 x3] 5;rw[World.size_alloc]at e;exact congrArg (Result.ok (Value.int .i64 2)) e
 intro j v hj;have e:(⟨w.heap.size,2,none⟩:Addr).add j=⟨w.heap.size,2+j,none⟩:=by unfold Addr.add;split <;> simp_all
 rw[e,cell_of_row _ _ _ _ _ _ (heap_alloc2_old _ _ _)]
 match j,hj with
 | 0,hj=>simpa using hj
 | 1,hj=>simpa using hj
 | j+2,hj=>simp at hj
theorem AW (m:Nat)(hm:m<65536):(#[.int .u8 ((m:Int)/256),.int .u8 ((m:Int)%256)]:Array Value)=yF (be 2 m):=by
 simp[yF,be]
 omega
set_option maxHeartbeats 400000 in
theorem zM (m:Nat) (hm:m<65536) (w:World) :
  Calls Tryz.prog 134 #[.int .i64 m,(2:Int)] w fun e w'=>e= .returned (.tuple #[.string ⟨(be 2 m).toArray⟩,(0:Int)])/\Below w.heap.size w w':=by
 have hmk:=AU;have aF:=AV w;have hnz:((m:Int)/65536 != 0)=false:=by simp;omega
 have hcv:=fun o=>yT (w.alloc o) (be 2 m) 5;rw[dr,<-AW m hm]at hcv;simp only[World.size_alloc]at hcv;generalize (⟨(be 2 m).toArray⟩:ByteArray)=S at hcv|-
 go_enter Tryz.func134,Tryz.ntmps134
 go_wp2
 go_ret2
 exact⟨rfl,((Below.refl _ _).alloc (Nat.le_refl _) _).alloc (by simp) _⟩
theorem AX (w:World):(Instr.makeSlice 112 (3:Int) (3:Int)).run Tryz.prog w= .ok (.slice (some ⟨w.heap.size,0,none⟩) 3 3) (w.alloc (.cells #[.int .u8 0,.int .u8 0,.int .u8 0] 5)):=by kernel_rfl
theorem AY (w:World)(x0 x1 x2 x3:Int)(T:TypeId):(Builtin.copy_ #[112,112] 3 #[.slice (some ⟨w.heap.size+1,0,none⟩) 3 3,.slice (some ⟨w.heap.size,1,none⟩) 3 3]).run Tryz.prog ((w.alloc (.cells #[.int .u8 x0,.int .u8 x1,.int .u8 x2,.int .u8 x3] T)).alloc (.cells #[.int .u8 0,.int .u8 0,.int .u8 0] 5)) =
  .ok (3:Int) ((w.alloc (.cells #[.int .u8 x0,.int .u8 x1,.int .u8 x2,.int .u8 x3] T)).alloc (.cells #[.int .u8 x1,.int .u8 x2,.int .u8 x3] 5)):=by
 have h:=run_copy_row (P:=Tryz.prog) ((w.alloc (.cells #[.int .u8 x0,.int .u8 x1,.int .u8 x2,.int .u8 x3] T)).alloc (.cells #[.int .u8 0,.int .u8 0,.int .u8 0] 5)) 112 112 3 5 (w.heap.size+1) 0 3 3 ⟨w.heap.size,1,none⟩ 3 3 #[.int .u8 0,.int .u8 0,.int .u8 0] 5 [.int .u8 x1,.int .u8 x2,.int .u8 x3] Tryz.underlying112 (by kernel_rfl) (heap_alloc2_new _ _ _) rfl ?_ (by simp) (by intro v hv;simp at hv;rcases hv with rfl | rfl | rfl <;> rfl)
 ·rw[h];have e:=yE (w.alloc (.cells #[.int .u8 x0,.int .u8 x1,.int .u8 x2,.int .u8 x3] T)) #[.int .u8 0,.int .u8 0,.int .u8 0] #[.int .u8 x1,.int .u8 x2,.int .u8 x3] 5;rw[World.size_alloc]at e;exact congrArg (Result.ok (Value.int .i64 3)) e
 intro j v hj;have e:(⟨w.heap.size,1,none⟩:Addr).add j=⟨w.heap.size,1+j,none⟩:=by unfold Addr.add;split <;> simp_all
 rw[e,cell_of_row _ _ _ _ _ _ (heap_alloc2_old _ _ _)]
 match j,hj with
 | 0,hj=>simpa using hj
 | 1,hj=>simpa using hj
 | 2,hj=>simpa using hj
 | j+3,hj=>simp at hj
theorem AZ (m:Nat)(hm:m<16777216):(#[.int .u8 ((m:Int)/65536),.int .u8 ((m:Int)/256%256),.int .u8 ((m:Int)%256)]:Array Value)=yF (be 3 m):=by
 simp[yF,be]
 omega
set_option maxHeartbeats 400000 in
theorem zN (m:Nat) (hm:m<16777216) (w:World) :
  Calls Tryz.prog 134 #[.int .i64 m,(3:Int)] w fun e w'=>e= .returned (.tuple #[.string ⟨(be 3 m).toArray⟩,(0:Int)])/\Below w.heap.size w w':=by
 have hmk:=AX;have aF:=AY w;have hnz:((m:Int)/16777216 != 0)=false:=by simp;omega
 have hcv:=fun o=>yT (w.alloc o) (be 3 m) 5;rw[dr,<-AZ m hm]at hcv;simp only[World.size_alloc]at hcv;generalize (⟨(be 3 m).toArray⟩:ByteArray)=S at hcv|-
 go_enter Tryz.func134,Tryz.ntmps134
 go_wp2
 go_ret2
 exact⟨rfl,((Below.refl _ _).alloc (Nat.le_refl _) _).alloc (by simp) _⟩
theorem A6 (w:World):(Instr.makeSlice 112 (4:Int) (4:Int)).run Tryz.prog w= .ok (.slice (some ⟨w.heap.size,0,none⟩) 4 4) (w.alloc (.cells #[.int .u8 0,.int .u8 0,.int .u8 0,.int .u8 0] 5)):=by kernel_rfl
theorem A7 (w:World)(x0 x1 x2 x3:Int)(T:TypeId):(Builtin.copy_ #[112,112] 3 #[.slice (some ⟨w.heap.size+1,0,none⟩) 4 4,.slice (some ⟨w.heap.size,0,none⟩) 4 4]).run Tryz.prog ((w.alloc (.cells #[.int .u8 x0,.int .u8 x1,.int .u8 x2,.int .u8 x3] T)).alloc (.cells #[.int .u8 0,.int .u8 0,.int .u8 0,.int .u8 0] 5)) =
  .ok (4:Int) ((w.alloc (.cells #[.int .u8 x0,.int .u8 x1,.int .u8 x2,.int .u8 x3] T)).alloc (.cells #[.int .u8 x0,.int .u8 x1,.int .u8 x2,.int .u8 x3] 5)):=by
 have h:=run_copy_row (P:=Tryz.prog) ((w.alloc (.cells #[.int .u8 x0,.int .u8 x1,.int .u8 x2,.int .u8 x3] T)).alloc (.cells #[.int .u8 0,.int .u8 0,.int .u8 0,.int .u8 0] 5)) 112 112 3 5 (w.heap.size+1) 0 4 4 ⟨w.heap.size,0,none⟩ 4 4 #[.int .u8 0,.int .u8 0,.int .u8 0,.int .u8 0] 5 [.int .u8 x0,.int .u8 x1,.int .u8 x2,.int .u8 x3] Tryz.underlying112 (by kernel_rfl) (heap_alloc2_new _ _ _) rfl ?_ (by simp) (by intro v hv;simp at hv;rcases hv with rfl | rfl | rfl | rfl <;> rfl)
 ·rw[h];have e:=yE (w.alloc (.cells #[.int .u8 x0,.int .u8 x1,.int .u8 x2,.int .u8 x3] T)) #[.int .u8 0,.int .u8 0,.int .u8 0,.int .u8 0] #[.int .u8 x0,.int .u8 x1,.int .u8 x2,.int .u8 x3] 5;rw[World.size_alloc]at e;exact congrArg (Result.ok (Value.int .i64 4)) e
 intro j v hj;have e:(⟨w.heap.size,0,none⟩:Addr).add j=⟨w.heap.size,0+j,none⟩:=by unfold Addr.add;split <;> simp_all
 rw[e,cell_of_row _ _ _ _ _ _ (heap_alloc2_old _ _ _)]
 match j,hj with
 | 0,hj=>simpa using hj
 | 1,hj=>simpa using hj
 | 2,hj=>simpa using hj
 | 3,hj=>simpa using hj
 | j+4,hj=>simp at hj
theorem A8 (m:Nat)(hm:m<4294967296):(#[.int .u8 ((m:Int)/16777216),.int .u8 ((m:Int)/65536%256),.int .u8 ((m:Int)/256%256),.int .u8 ((m:Int)%256)]:Array Value)=yF (be 4 m):=by
 simp[yF,be]
 omega
set_option maxHeartbeats 400000 in
theorem zO (m:Nat) (hm:m<4294967296) (w:World) :
  Calls Tryz.prog 134 #[.int .i64 m,(4:Int)] w fun e w'=>e= .returned (.tuple #[.string ⟨(be 4 m).toArray⟩,(0:Int)])/\Below w.heap.size w w':=by
 have hmk:=A6;have aF:=A7 w;have hnz:((m:Int)/4294967296 != 0)=false:=by simp;omega
 have hcv:=fun o=>yT (w.alloc o) (be 4 m) 5;rw[dr,<-A8 m hm]at hcv;simp only[World.size_alloc]at hcv;generalize (⟨(be 4 m).toArray⟩:ByteArray)=S at hcv|-
 go_enter Tryz.func134,Tryz.ntmps134
 go_wp2
 go_ret2
 exact⟨rfl,((Below.refl _ _).alloc (Nat.le_refl _) _).alloc (by simp) _⟩
theorem yU (n b:Int)(h:¬(1<=b/\b<=4/\0<=n/\n<256 ^ b.toNat)):zK n b=⟨#[]⟩/\yq n b=10:=by
 unfold zK yq;rw[if_neg h,if_neg h];exact⟨rfl,rfl⟩
theorem yP (m b:Nat)(h1:1<=b)(h4:b<=4)(h:m<256 ^ b):zK m b=⟨(be b m).toArray⟩/\yq m b=0:=by
 have hh:1<=(b:Int)/\(b:Int)<=4/\0<=(m:Int)/\(m:Int)<256 ^ (b:Int).toNat:=by
  refine⟨by omega,by omega,by omega,?_⟩;rw[Int.toNat_natCast];have e:((256 ^ b:Nat):Int)=(256:Int) ^ b:=Int.natCast_pow 256 b;rw[<-e];exact Int.ofNat_lt.2 h
 unfold zK yq;rw[if_pos hh,if_pos hh];simp
set_option maxHeartbeats 400000 in
theorem zf (n b:Int) (w:World) (h:b<1\/4<b\/n<0) :
  Calls Tryz.prog 134 #[n,b] w fun e w'=>e= .returned (.tuple #[.string ⟨#[]⟩,(10:Int)])/\Below w.heap.size w w':=by
 by_cases c1:b<1
 ·clear h
  go_enter Tryz.func134,Tryz.ntmps134
  go_wp2
  go_ret2
  exact⟨rfl,Below.refl _ _⟩
 by_cases c2:4<b
 ·clear h
  go_enter Tryz.func134,Tryz.ntmps134
  go_wp2
  go_ret2
  exact⟨rfl,Below.refl _ _⟩
 have c3:n<0:=by omega
 clear h
 go_enter Tryz.func134,Tryz.ntmps134
 go_wp2
 go_ret2
 exact⟨rfl,Below.refl _ _⟩
set_option maxHeartbeats 400000 in
theorem zP (m:Nat) (hm:256<=m) (hm2:m<=9223372036854775807) (w:World) :
  Calls Tryz.prog 134 #[.int .i64 m,(1:Int)] w fun e w'=>e= .returned (.tuple #[.string ⟨#[]⟩,(10:Int)])/\Below w.heap.size w w':=by
 have hnz:((m:Int)/256 != 0)=true:=by simp;omega
 go_enter Tryz.func134,Tryz.ntmps134
 go_wp2
 go_ret2
 exact⟨rfl,Below.refl _ _⟩
set_option maxHeartbeats 400000 in
theorem zQ (m:Nat) (hm:65536<=m) (hm2:m<=9223372036854775807) (w:World) :
  Calls Tryz.prog 134 #[.int .i64 m,(2:Int)] w fun e w'=>e= .returned (.tuple #[.string ⟨#[]⟩,(10:Int)])/\Below w.heap.size w w':=by
 have hnz:((m:Int)/65536 != 0)=true:=by simp;omega
 go_enter Tryz.func134,Tryz.ntmps134
 go_wp2
 go_ret2
 exact⟨rfl,Below.refl _ _⟩
set_option maxHeartbeats 400000 in
theorem zR (m:Nat) (hm:16777216<=m) (hm2:m<=9223372036854775807) (w:World) :
  Calls Tryz.prog 134 #[.int .i64 m,(3:Int)] w fun e w'=>e= .returned (.tuple #[.string ⟨#[]⟩,(10:Int)])/\Below w.heap.size w w':=by
 have hnz:((m:Int)/16777216 != 0)=true:=by simp;omega
 go_enter Tryz.func134,Tryz.ntmps134
 go_wp2
 go_ret2
 exact⟨rfl,Below.refl _ _⟩
set_option maxHeartbeats 400000 in
theorem zS (m:Nat) (hm:4294967296<=m) (hm2:m<=9223372036854775807) (w:World) :
  Calls Tryz.prog 134 #[.int .i64 m,(4:Int)] w fun e w'=>e= .returned (.tuple #[.string ⟨#[]⟩,(10:Int)])/\Below w.heap.size w w':=by
 have hnz:((m:Int)/4294967296 != 0)=true:=by simp;omega
 go_enter Tryz.func134,Tryz.ntmps134
 go_wp2
 go_ret2
 exact⟨rfl,Below.refl _ _⟩
theorem zT (n b:Int)(hn:n<=9223372036854775807)(w:World) :
  Calls Tryz.prog 134 #[n,b] w fun e w'=>e= .returned (.tuple #[.string (zK n b),(yq n b)])/\Below w.heap.size w w':=by
 by_cases h:b<1\/4<b\/n<0
 ·obtain⟨e1,e2⟩:=yU n b (by omega);rw[e1,e2];exact zf n b w h
 obtain⟨m,rfl⟩:=Int.eq_ofNat_of_zero_le (show 0<=n by omega)
 rcases(show b=1\/b=2\/b=3\/b=4 by omega)with rfl | rfl | rfl | rfl
 ·by_cases hm:m<256
  ·obtain⟨e1,e2⟩:=yP m 1 (by omega) (by omega) (by simpa using hm);rw[show((1:Nat):Int)=1 from rfl]at e1 e2;rw[e1,e2];exact zL m hm w
  obtain⟨e1,e2⟩:=yU m 1 (by simp;omega);rw[e1,e2];exact zP m (by omega) (by omega) w
 ·by_cases hm:m<65536
  ·obtain⟨e1,e2⟩:=yP m 2 (by omega) (by omega) (by simpa using hm);rw[show((2:Nat):Int)=2 from rfl]at e1 e2;rw[e1,e2];exact zM m hm w
  obtain⟨e1,e2⟩:=yU m 2 (by simp;omega);rw[e1,e2];exact zQ m (by omega) (by omega) w
 ·by_cases hm:m<16777216
  ·obtain⟨e1,e2⟩:=yP m 3 (by omega) (by omega) (by simpa using hm);rw[show((3:Nat):Int)=3 from rfl]at e1 e2;rw[e1,e2];exact zN m hm w
  obtain⟨e1,e2⟩:=yU m 3 (by simp;omega);rw[e1,e2];exact zR m (by omega) (by omega) w
 by_cases hm:m<4294967296
 ·obtain⟨e1,e2⟩:=yP m 4 (by omega) (by omega) (by simpa using hm);rw[show((4:Nat):Int)=4 from rfl]at e1 e2;rw[e1,e2];exact zO m hm w
 obtain⟨e1,e2⟩:=yU m 4 (by simp;omega);rw[e1,e2];exact zS m (by omega) (by omega) w
end Go.Proofs.YtclkcmidhhfdmaaGreatDoor
