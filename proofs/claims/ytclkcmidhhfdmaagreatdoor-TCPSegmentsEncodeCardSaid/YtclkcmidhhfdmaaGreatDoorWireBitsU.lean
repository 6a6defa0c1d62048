import Derived.Laws.BitsAllLaws
import Derived.IntWalk
namespace Go.Proofs.YtclkcmidhhfdmaaGreatDoor
open Go.RowKit
theorem yQ (a:Nat)(ha:a<9223372036854775808):(BitVec.ofInt 64 (a:Int)).toNat=a:=ofInt_u64 a (by omega)
theorem yc (a b:Nat)(ha:a<9223372036854775808)(hb:b<9223372036854775808):bits .or .i64 (a:Int) (b:Int)=((a ||| b:Nat):Int):=by
 have h1:=yQ a ha;have h2:=yQ b hb;have h3:a ||| b<9223372036854775808:=Nat.or_lt_two_pow (n:=63) ha hb
 show IntKind.i64.wrap ((BitVec.ofInt 64 (a:Int) ||| BitVec.ofInt 64 (b:Int)).toNat:Int)=_;rw[BitVec.toNat_or,h1,h2];exact IntWalk.i64_in _ ⟨by omega,by omega⟩
theorem zn (a b:Nat)(ha:a<9223372036854775808)(hb:b<9223372036854775808):bits .xor .i64 (a:Int) (b:Int)=((a ^^^ b:Nat):Int):=by
 have h1:=yQ a ha;have h2:=yQ b hb;have h3:a ^^^ b<9223372036854775808:=Nat.xor_lt_two_pow (n:=63) ha hb;show IntKind.i64.wrap ((BitVec.ofInt 64 (a:Int) ^^^ BitVec.ofInt 64 (b:Int)).toNat:Int)=_;rw[BitVec.toNat_xor,h1,h2];exact IntWalk.i64_in _ ⟨by omega,by omega⟩
theorem yS (i a b:Nat)(ha:a<9223372036854775808)(hi:a%2 ^ i=0)(hb:b<2 ^ i)(h63:2 ^ i<=9223372036854775808):bits .or .i64 (a:Int) (b:Int)=((a+b:Nat):Int):=by
 rw[yc a b ha (by omega),nat_join i a b hi hb]
theorem zg (a b:Nat)(ha:a<2 ^ 8)(hb:b<2 ^ 8):bits .or .i64 ((a:Int)*256) (b:Int)=((256*a+b:Nat):Int):=by
 have e:((a:Int)*256)=((256*a:Nat):Int):=by omega
 rw[e,yS 8 (256*a) b (by omega) (by omega) (by omega) (by omega)]
end Go.Proofs.YtclkcmidhhfdmaaGreatDoor
