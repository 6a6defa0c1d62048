import Derived.Test.YtcmncipikdpnbaaGreatDoorUc
namespace Go.Proofs.YtcmncipikdpnbaaGreatDoor
def be:Nat->Nat->List UInt8
 | 0,_=>[]
 | b+1,n=>be b (n/256)++[UInt8.ofNat (n%256)]
structure Tm where
 had:Bool
 trip:Int
 dev:Int
 timing:Bool
 goal:Int
 since:Int
 backs:Int
def qJ:Tm:=⟨false,0,0,false,0,0,0⟩
def dI (since now:Int):Int:=if now<=since then 1 else if now-since<1000 then now-since else 1000
def Tm.Cj (m:Tm)(r:Int):Tm :=
 if m.had then { m with trip:=m.trip+(r-m.trip/8),dev:=m.dev+(max (r-m.trip/8) (-(r-m.trip/8))-m.dev/4) }
 else { m with had:=true,trip:=8*r,dev:=2*r }
def Tm.sent (m:Tm)(now n:Int):Tm:=if m.timing then m else { m with timing:=true,goal:=n,since:=now }
def Tm.og (m:Tm):Tm:={ m with timing:=false }
def Tm.go (m:Tm)(now fM:Int):Tm :=
 if m.timing=true/\m.goal<=fM then Tm.Cj { m with timing:=false,backs:=0 } (dI m.since now)else m
def Tm.ka (m:Tm):Tm:={ m with backs:=min (m.backs+1) 8 }
def Tm.base (m:Tm):Int:=if m.had then min (max (m.trip/8+max m.dev 1) 4) 240 else 12
def Tm.value (m:Tm):Int:=min (m.base*2 ^ m.backs.toNat) 240
def Tm.Ok (m:Tm):Prop:=0<=m.trip/\m.trip<=8000/\0<=m.dev/\m.dev<=4003/\0<=m.backs/\m.backs<=8
theorem xL:qJ.Ok:=by unfold Tm.Ok qJ;decide
theorem lK (s n:Int):1<=dI s n/\dI s n<=1000:=by unfold dI;split <;> (try split) <;> omega
theorem Tm.Fq {m:Tm}(h:m.Ok){r:Int}(h1:1<=r)(h2:r<=1000):(m.Cj r).Ok:=by
 obtain⟨a,b,c,d,e,f⟩:=h;unfold Tm.Cj Tm.Ok;split
 ·refine⟨?_,?_,?_,?_,e,f⟩ <;> dsimp only <;> omega
 refine⟨?_,?_,?_,?_,e,f⟩ <;> dsimp only <;> omega
theorem Tm.G3 {m:Tm}(h:m.Ok)(now n:Int):(m.sent now n).Ok:=by unfold Tm.sent;split;exact h;exact h
theorem Tm.Du {m:Tm}(h:m.Ok)(now fM:Int):(m.go now fM).Ok:=by
 unfold Tm.go;split
 ·obtain⟨g,i⟩:=lK m.since now;refine Tm.Fq ?_ g i;obtain⟨a,b,c,d,e,f⟩:=h;exact⟨a,b,c,d,II,II⟩
 exact h
theorem Tm.EZ {m:Tm}(h:m.Ok):m.ka.Ok:=by
 obtain⟨a,b,c,d,e,f⟩:=h;exact⟨a,b,c,d,by unfold Tm.ka;dsimp only;omega,by unfold Tm.ka;dsimp only;omega⟩
theorem Tm.CM (m:Tm):4<=m.base/\m.base<=240:=by unfold Tm.base;split <;> omega
end Go.Proofs.YtcmncipikdpnbaaGreatDoor
