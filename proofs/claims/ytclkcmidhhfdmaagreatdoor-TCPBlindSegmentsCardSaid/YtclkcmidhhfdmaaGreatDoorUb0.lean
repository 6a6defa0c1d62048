namespace Go.Proofs.YtclkcmidhhfdmaaGreatDoor
def be:Nat->Nat->List UInt8
 | 0,_=>[]
 | b+1,n=>be b (n/256)++[UInt8.ofNat (n%256)]
structure Tm where
 had:Bool
 trip:Int
 dev:Int
 timing:Bool
 goal:Int
 since:Int
 backs:Int
def oO:Tm:=⟨false,0,0,false,0,0,0⟩
def ct (since now:Int):Int:=if now<=since then 1 else if now-since<1000 then now-since else 1000
def Tm.sample (m:Tm)(r:Int):Tm :=
 if m.had then { m with trip:=m.trip+(r-m.trip/8),dev:=m.dev+(max (r-m.trip/8) (-(r-m.trip/8))-m.dev/4) }
 else { m with had:=true,trip:=8*r,dev:=2*r }
def Tm.sent (m:Tm)(now n:Int):Tm:=if m.timing then m else { m with timing:=true,goal:=n,since:=now }
def Tm.retr (m:Tm):Tm:={ m with timing:=false }
def Tm.acked (m:Tm)(now una:Int):Tm :=
 if m.timing=true/\m.goal<=una then Tm.sample { m with timing:=false,backs:=0 } (ct m.since now)else m
def Tm.backoff (m:Tm):Tm:={ m with backs:=min (m.backs+1) 8 }
def Tm.base (m:Tm):Int:=if m.had then min (max (m.trip/8+max m.dev 1) 4) 240 else 12
def Tm.value (m:Tm):Int:=min (m.base*2 ^ m.backs.toNat) 240
def Tm.Ok (m:Tm):Prop:=0<=m.trip/\m.trip<=8000/\0<=m.dev/\m.dev<=4003/\0<=m.backs/\m.backs<=8
theorem uS:oO.Ok:=by unfold Tm.Ok oO;decide
theorem kL (s n:Int):1<=ct s n/\ct s n<=1000:=by unfold ct;split <;> (try split) <;> omega
theorem Tm.sample_ok {m:Tm}(h:m.Ok){r:Int}(h1:1<=r)(h2:r<=1000):(m.sample r).Ok:=by
 obtain⟨a,b,c,d,e,f⟩:=h;unfold Tm.sample Tm.Ok;split
 ·refine⟨?_,?_,?_,?_,e,f⟩ <;> dsimp only <;> omega
 refine⟨?_,?_,?_,?_,e,f⟩ <;> dsimp only <;> omega
theorem Tm.sent_ok {m:Tm}(h:m.Ok)(now n:Int):(m.sent now n).Ok:=by unfold Tm.sent;split;exact h;exact h
theorem Tm.acked_ok {m:Tm}(h:m.Ok)(now una:Int):(m.acked now una).Ok:=by
 unfold Tm.acked;split
 ·obtain⟨e1,e2⟩:=kL m.since now;refine Tm.sample_ok ?_ e1 e2;obtain⟨a,b,c,d,e,f⟩:=h;exact⟨a,b,c,d,by dsimp only;omega,by dsimp only;omega⟩
 exact h
theorem Tm.backoff_ok {m:Tm}(h:m.Ok):m.backoff.Ok:=by
 obtain⟨a,b,c,d,e,f⟩:=h;exact⟨a,b,c,d,by unfold Tm.backoff;dsimp only;omega,by unfold Tm.backoff;dsimp only;omega⟩
theorem Tm.base_bd (m:Tm):4<=m.base/\m.base<=240:=by unfold Tm.base;split <;> omega
end Go.Proofs.YtclkcmidhhfdmaaGreatDoor
