import Derived.Test.YtclkcmidhhfdmaaGreatDoorWirePutU
import Derived.Test.YtclkcmidhhfdmaaGreatDoorWireBitsU
import Derived.Lib.BufferWrite
namespace Go.Proofs.YtclkcmidhhfdmaaGreatDoor
open Lib (hid)
set_option maxRecDepth 100000
open Go.RowKit
theorem yJ (s:ByteArray)(a b:Nat):(s.extract a (a+b)).data.toList=(s.data.toList.drop a).take b:=by
 rw[Lib.extract_data];simp
theorem yM (w:World)(g:Nat)(cs:Array Value):w.drew.setRow g cs=(w.setRow g cs).drew:=rfl
theorem AD (w:World)(t:ByteArray)(c0:UInt8)(ht:t.data.toList=[c0]) :
  (Builtin.copy_ #[112,9] 3 #[.slice (some ⟨w.heap.size,3,none⟩) 1 1,.string t]).run Tryz.prog (w.alloc (.cells #[.int .u8 0,.int .u8 0,.int .u8 0,.int .u8 0] 216)).drew =
  .ok (1:Int) (w.alloc (.cells #[.int .u8 0,.int .u8 0,.int .u8 0,.int .u8 (c0.toNat:Int)] 216)).drew:=by
 have hsz:t.size=1:=by
  have:=congrArg List.length ht
  simpa using this
 have h:=Lib.run_copy_row_string (P:=Tryz.prog) (w.alloc (.cells #[.int .u8 0,.int .u8 0,.int .u8 0,.int .u8 0] 216)).drew 112 9 3 5 w.heap.size 3 1 1 t #[.int .u8 0,.int .u8 0,.int .u8 0,.int .u8 0] 216 Tryz.underlying112 (by kernel_rfl) (heap_alloc_new _ _) (by omega) (by simp;omega);rw[h,ht,hsz,yM,yE];rfl
theorem AE (w:World)(t:ByteArray)(c0 c1:UInt8)(ht:t.data.toList=[c0,c1]) :
  (Builtin.copy_ #[112,9] 3 #[.slice (some ⟨w.heap.size,2,none⟩) 2 2,.string t]).run Tryz.prog (w.alloc (.cells #[.int .u8 0,.int .u8 0,.int .u8 0,.int .u8 0] 216)).drew =
  .ok (2:Int) (w.alloc (.cells #[.int .u8 0,.int .u8 0,.int .u8 (c0.toNat:Int),.int .u8 (c1.toNat:Int)] 216)).drew:=by
 have hsz:t.size=2:=by
  have:=congrArg List.length ht
  simpa using this
 have h:=Lib.run_copy_row_string (P:=Tryz.prog) (w.alloc (.cells #[.int .u8 0,.int .u8 0,.int .u8 0,.int .u8 0] 216)).drew 112 9 3 5 w.heap.size 2 2 2 t #[.int .u8 0,.int .u8 0,.int .u8 0,.int .u8 0] 216 Tryz.underlying112 (by kernel_rfl) (heap_alloc_new _ _) (by omega) (by simp;omega);rw[h,ht,hsz,yM,yE];rfl
theorem AF (w:World)(t:ByteArray)(c0 c1 c2:UInt8)(ht:t.data.toList=[c0,c1,c2]) :
  (Builtin.copy_ #[112,9] 3 #[.slice (some ⟨w.heap.size,1,none⟩) 3 3,.string t]).run Tryz.prog (w.alloc (.cells #[.int .u8 0,.int .u8 0,.int .u8 0,.int .u8 0] 216)).drew =
  .ok (3:Int) (w.alloc (.cells #[.int .u8 0,.int .u8 (c0.toNat:Int),.int .u8 (c1.toNat:Int),.int .u8 (c2.toNat:Int)] 216)).drew:=by
 have hsz:t.size=3:=by
  have:=congrArg List.length ht
  simpa using this
 have h:=Lib.run_copy_row_string (P:=Tryz.prog) (w.alloc (.cells #[.int .u8 0,.int .u8 0,.int .u8 0,.int .u8 0] 216)).drew 112 9 3 5 w.heap.size 1 3 3 t #[.int .u8 0,.int .u8 0,.int .u8 0,.int .u8 0] 216 Tryz.underlying112 (by kernel_rfl) (heap_alloc_new _ _) (by omega) (by simp;omega);rw[h,ht,hsz,yM,yE];rfl
theorem AG (w:World)(t:ByteArray)(c0 c1 c2 c3:UInt8)(ht:t.data.toList=[c0,c1,c2,c3]) :
  (Builtin.copy_ #[112,9] 3 #[.slice (some ⟨w.heap.size,0,none⟩) 4 4,.string t]).run Tryz.prog (w.alloc (.cells #[.int .u8 0,.int .u8 0,.int .u8 0,.int .u8 0] 216)).drew =
  .ok (4:Int) (w.alloc (.cells #[.int .u8 (c0.toNat:Int),.int .u8 (c1.toNat:Int),.int .u8 (c2.toNat:Int),.int .u8 (c3.toNat:Int)] 216)).drew:=by
 have hsz:t.size=4:=by
  have:=congrArg List.length ht
  simpa using this
 have h:=Lib.run_copy_row_string (P:=Tryz.prog) (w.alloc (.cells #[.int .u8 0,.int .u8 0,.int .u8 0,.int .u8 0] 216)).drew 112 9 3 5 w.heap.size 0 4 4 t #[.int .u8 0,.int .u8 0,.int .u8 0,.int .u8 0] 216 Tryz.underlying112 (by kernel_rfl) (heap_alloc_new _ _) (by omega) (by simp;omega);rw[h,ht,hsz,yM,yE];rfl
theorem AH:bits BinOp.or IntKind.i64 0 0=0:=by decide
theorem AI (b:Nat)(hb:b<9223372036854775808):bits BinOp.or IntKind.i64 0 (b:Int)=(b:Int):=by
 have:=yc 0 b (by omega) hb;rw[Nat.zero_or]at this;exact this
theorem AJ (x0:Nat)(h0:x0<2 ^ 8):bits BinOp.or IntKind.i64 (bits BinOp.or IntKind.i64 (bits BinOp.or IntKind.i64 0 0) 0) (x0:Int)=((x0:Nat):Int):=by
 rw[AH,AH,AI x0 (by omega)]
theorem AK (x0:Nat)(h0:x0<2 ^ 8)(x1:Nat)(h1:x1<2 ^ 8):bits BinOp.or IntKind.i64 (bits BinOp.or IntKind.i64 (bits BinOp.or IntKind.i64 0 0) ((x0:Int)*256)) (x1:Int)=((256*x0+x1:Nat):Int):=by
 rw[AH,show((x0:Int)*256)=((256*x0:Nat):Int) by omega,AI _ (by omega),yS 8 _ _ (by omega) (by omega) (by omega) (by omega)]
theorem AL (x0:Nat)(h0:x0<2 ^ 8)(x1:Nat)(h1:x1<2 ^ 8)(x2:Nat)(h2:x2<2 ^ 8):bits BinOp.or IntKind.i64 (bits BinOp.or IntKind.i64 (bits BinOp.or IntKind.i64 0 ((x0:Int)*65536)) ((x1:Int)*256)) (x2:Int)=((65536*x0+256*x1+x2:Nat):Int):=by
 rw[show((x0:Int)*65536)=((65536*x0:Nat):Int) by omega,show((x1:Int)*256)=((256*x1:Nat):Int) by omega,AI _ (by omega),yS 16 _ _ (by omega) (by omega) (by omega) (by omega),yS 8 _ _ (by omega) (by omega) (by omega) (by omega)]
theorem AM (x0:Nat)(h0:x0<2 ^ 8)(x1:Nat)(h1:x1<2 ^ 8)(x2:Nat)(h2:x2<2 ^ 8)(x3:Nat)(h3:x3<2 ^ 8):bits BinOp.or IntKind.i64 (bits BinOp.or IntKind.i64 (bits BinOp.or IntKind.i64 ((x0:Int)*16777216) ((x1:Int)*65536)) ((x2:Int)*256)) (x3:Int)=((16777216*x0+65536*x1+256*x2+x3:Nat):Int):=by
 rw[show((x0:Int)*16777216)=((16777216*x0:Nat):Int) by omega,show((x1:Int)*65536)=((65536*x1:Nat):Int) by omega,show((x2:Int)*256)=((256*x2:Nat):Int) by omega,yS 24 _ _ (by omega) (by omega) (by omega) (by omega),yS 16 _ _ (by omega) (by omega) (by omega) (by omega),yS 8 _ _ (by omega) (by omega) (by omega) (by omega)]
theorem yZ {a b:Int}(h:a=b):Ending.returned (.tuple #[a,(0:Int)])= .returned (.tuple #[b,(0:Int)]):=by rw[h]
set_option maxHeartbeats 400000 in
theorem zU (s:ByteArray) (a:Nat) (hs:s.size<=9223372036854775807) (ha:a+1<=s.size) (w:World) :
  Calls Tryz.prog 136 #[.string s,.int .i64 a,(1:Int)] w fun e w'=>e= .returned (.tuple #[.int .i64 (rq ((s.data.toList.drop a).take 1):Nat),(0:Int)])/\Below w.heap.size w w':=by
 have hlen:((s.data.toList.drop a).take 1).length=1:=by simp;omega
 obtain⟨c0,hl⟩:∃c0:UInt8,(s.data.toList.drop a).take 1=[c0]:=by
  match (s.data.toList.drop a).take 1,hlen with
  | [c0],_=>exact⟨_,rfl⟩
 rw[hl];have aF:=AD w (s.extract a (a+1)) c0 (by rw[yJ,hl]);clear hl hlen;have e1:(a:Int)+1<=(s.size:Int):=by omega
 have e2:(a:Int)<=(a:Int)+1:=by omega
 have hu:rq [c0]=c0.toNat:=by simp[rq]
 rw[hu];have hc0:=c0.toNat_lt;clear hu;have H:=hid (AJ c0.toNat hc0);generalize c0.toNat=nc0 at *
 go_enter Tryz.func136,Tryz.ntmps136
 go_wp2
 have hw2:IntKind.i64.wrap 3=3:=by decide
 have a0:IntKind.i64.wrap ((a:Int)+1)=(a:Int)+1:=IntWalk.i64_in _ (by omega);have a1:0<=(a:Int)+1:=by omega
 have a2:((a:Int)+1).toNat=a+1:=by omega
 go_region
 clear hw2 a0 a1 a2 aF e1 e2
 go_wp2
 go_ret2
 exact⟨yZ H.out,((Below.refl _ _).alloc (Nat.le_refl _) _).drew⟩
set_option maxHeartbeats 400000 in
theorem zV (s:ByteArray) (a:Nat) (hs:s.size<=9223372036854775807) (ha:a+2<=s.size) (w:World) :
  Calls Tryz.prog 136 #[.string s,.int .i64 a,(2:Int)] w fun e w'=>e= .returned (.tuple #[.int .i64 (rq ((s.data.toList.drop a).take 2):Nat),(0:Int)])/\Below w.heap.size w w':=by
 have hlen:((s.data.toList.drop a).take 2).length=2:=by simp;omega
 obtain⟨c0,c1,hl⟩:∃c0 c1:UInt8,(s.data.toList.drop a).take 2=[c0,c1]:=by
  match (s.data.toList.drop a).take 2,hlen with
  | [c0,c1],_=>exact⟨_,_,rfl⟩
 rw[hl];have aF:=AE w (s.extract a (a+2)) c0 c1 (by rw[yJ,hl]);clear hl hlen;have e1:(a:Int)+2<=(s.size:Int):=by omega
 have e2:(a:Int)<=(a:Int)+2:=by omega
 have hu:rq [c0,c1]=256*c0.toNat+c1.toNat:=by simp[rq]
 rw[hu];have hc0:=c0.toNat_lt;have hc1:=c1.toNat_lt;clear hu;have H:=hid (AK c0.toNat hc0 c1.toNat hc1);generalize c0.toNat=nc0 at *;generalize c1.toNat=nc1 at *
 go_enter Tryz.func136,Tryz.ntmps136
 go_wp2
 have hw2:IntKind.i64.wrap 2=2:=by decide
 have a0:IntKind.i64.wrap ((a:Int)+2)=(a:Int)+2:=IntWalk.i64_in _ (by omega);have a1:0<=(a:Int)+2:=by omega
 have a2:((a:Int)+2).toNat=a+2:=by omega
 go_region
 clear hw2 a0 a1 a2 aF e1 e2
 go_wp2
 go_ret2
 exact⟨yZ H.out,((Below.refl _ _).alloc (Nat.le_refl _) _).drew⟩
set_option maxHeartbeats 400000 in
theorem zW (s:ByteArray) (a:Nat) (hs:s.size<=9223372036854775807) (ha:a+3<=s.size) (w:World) :
  Calls Tryz.prog 136 #[.string s,.int .i64 a,(3:Int)] w fun e w'=>e= .returned (.tuple #[.int .i64 (rq ((s.data.toList.drop a).take 3):Nat),(0:Int)])/\Below w.heap.size w w':=by
 have hlen:((s.data.toList.drop a).take 3).length=3:=by simp;omega
 obtain⟨c0,c1,c2,hl⟩:∃c0 c1 c2:UInt8,(s.data.toList.drop a).take 3=[c0,c1,c2]:=by
  match (s.data.toList.drop a).take 3,hlen with
  | [c0,c1,c2],_=>exact⟨_,_,_,rfl⟩
 rw[hl];have aF:=AF w (s.extract a (a+3)) c0 c1 c2 (by rw[yJ,hl]);clear hl hlen;have e1:(a:Int)+3<=(s.size:Int):=by omega
 have e2:(a:Int)<=(a:Int)+3:=by omega
 have hu:rq [c0,c1,c2]=65536*c0.toNat+256*c1.toNat+c2.toNat:=by simp[rq];omega
 rw[hu];have hc0:=c0.toNat_lt;have hc1:=c1.toNat_lt;have hc2:=c2.toNat_lt;clear hu;have H:=hid (AL c0.toNat hc0 c1.toNat hc1 c2.toNat hc2);generalize c0.toNat=nc0 at *;generalize c1.toNat=nc1 at *;generalize c2.toNat=nc2 at *
 go_enter Tryz.func136,Tryz.ntmps136
 go_wp2
 have hw2:IntKind.i64.wrap 1=1:=by decide
 have a0:IntKind.i64.wrap ((a:Int)+3)=(a:Int)+3:=IntWalk.i64_in _ (by omega);have a1:0<=(a:Int)+3:=by omega
 have a2:((a:Int)+3).toNat=a+3:=by omega
 go_region
 clear hw2 a0 a1 a2 aF e1 e2
 go_wp2
 go_ret2
 exact⟨yZ H.out,((Below.refl _ _).alloc (Nat.le_refl _) _).drew⟩
set_option maxHeartbeats 400000 in
theorem zX (s:ByteArray) (a:Nat) (hs:s.size<=9223372036854775807) (ha:a+4<=s.size) (w:World) :
  Calls Tryz.prog 136 #[.string s,.int .i64 a,(4:Int)] w fun e w'=>e= .returned (.tuple #[.int .i64 (rq ((s.data.toList.drop a).take 4):Nat),(0:Int)])/\Below w.heap.size w w':=by
 have hlen:((s.data.toList.drop a).take 4).length=4:=by simp;omega
 obtain⟨c0,c1,c2,c3,hl⟩:∃c0 c1 c2 c3:UInt8,(s.data.toList.drop a).take 4=[c0,c1,c2,c3]:=by
  match (s.data.toList.drop a).take 4,hlen with
  | [c0,c1,c2,c3],_=>exact⟨_,_,_,_,rfl⟩
 rw[hl];have aF:=AG w (s.extract a (a+4)) c0 c1 c2 c3 (by rw[yJ,hl]);clear hl hlen;have e1:(a:Int)+4<=(s.size:Int):=by omega
 have e2:(a:Int)<=(a:Int)+4:=by omega
 have hu:rq [c0,c1,c2,c3]=16777216*c0.toNat+65536*c1.toNat+256*c2.toNat+c3.toNat:=by simp[rq];omega
 rw[hu];have hc0:=c0.toNat_lt;have hc1:=c1.toNat_lt;have hc2:=c2.toNat_lt;have hc3:=c3.toNat_lt;clear hu;have H:=hid (AM c0.toNat hc0 c1.toNat hc1 c2.toNat hc2 c3.toNat hc3);generalize c0.toNat=nc0 at *;generalize c1.toNat=nc1 at *;generalize c2.toNat=nc2 at *;generalize c3.toNat=nc3 at *
 go_enter Tryz.func136,Tryz.ntmps136
 go_wp2
 have hw2:IntKind.i64.wrap 0=0:=by decide
 have a0:IntKind.i64.wrap ((a:Int)+4)=(a:Int)+4:=IntWalk.i64_in _ (by omega);have a1:0<=(a:Int)+4:=by omega
 have a2:((a:Int)+4).toNat=a+4:=by omega
 go_region
 clear hw2 a0 a1 a2 aF e1 e2
 go_wp2
 go_ret2
 exact⟨yZ H.out,((Below.refl _ _).alloc (Nat.le_refl _) _).drew⟩
set_option maxHeartbeats 400000 in
theorem zh (s:ByteArray) (hs:s.size<=9223372036854775807) (a b:Int) (w:World) (h:b<1\/4<b\/a<0\/(s.size:Int)-b<a) :
  Calls Tryz.prog 136 #[.string s,a,b] w fun e w'=>e= .returned (.tuple #[(0:Int),(10:Int)])/\Below w.heap.size w w':=by
 by_cases c1:b<1
 ·clear h
  go_enter Tryz.func136,Tryz.ntmps136
  go_wp2
  go_ret2
  exact⟨rfl,Below.refl _ _⟩
 by_cases c2:4<b
 ·clear h
  go_enter Tryz.func136,Tryz.ntmps136
  go_wp2
  go_ret2
  exact⟨rfl,Below.refl _ _⟩
 by_cases c3:a<0
 ·clear h
  go_enter Tryz.func136,Tryz.ntmps136
  go_wp2
  go_ret2
  exact⟨rfl,Below.refl _ _⟩
 have c4:(s.size:Int)-b<a:=by omega
 clear h
 go_enter Tryz.func136,Tryz.ntmps136
 go_wp2
 go_ret2
 exact⟨rfl,Below.refl _ _⟩
def zC (l:List UInt8)(a b:Int):Nat:=if 1<=b/\b<=4/\0<=a/\a+b<=l.length then rq ((l.drop a.toNat).take b.toNat)else 0
def zi (l:List UInt8)(a b:Int):Int:=if 1<=b/\b<=4/\0<=a/\a+b<=l.length then 0 else 10
theorem zj (s:ByteArray)(hs:s.size<=9223372036854775807)(a b:Int)(w:World) :
  Calls Tryz.prog 136 #[.string s,.int .i64 a,.int .i64 b] w fun e w'=>e= .returned (.tuple #[.int .i64 (zC s.data.toList a b:Nat),(zi s.data.toList a b)])/\Below w.heap.size w w':=by
 have hsz:s.data.toList.length=s.size:=by rw[Array.length_toList];rfl
 by_cases h:1<=b/\b<=4/\0<=a/\a+b<=s.data.toList.length
 ·unfold zC zi;rw[if_pos h,if_pos h];rw[hsz]at h;obtain⟨x,rfl⟩:=Int.eq_ofNat_of_zero_le h.2.2.1;rw[Int.toNat_natCast]
  rcases(show b=1\/b=2\/b=3\/b=4 by omega)with rfl | rfl | rfl | rfl
  ·exact zU s x hs (by omega) w
  ·exact zV s x hs (by omega) w
  ·exact zW s x hs (by omega) w
  exact zX s x hs (by omega) w
 unfold zC zi;rw[if_neg h,if_neg h];rw[hsz]at h;exact zh s hs a b w (by omega)
end Go.Proofs.YtclkcmidhhfdmaaGreatDoor
