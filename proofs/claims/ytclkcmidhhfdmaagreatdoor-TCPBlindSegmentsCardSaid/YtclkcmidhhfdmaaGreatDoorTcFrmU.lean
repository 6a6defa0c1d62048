import Derived.Test.YtclkcmidhhfdmaaGreatDoorUb33
namespace Go.Proofs.YtclkcmidhhfdmaaGreatDoor
open Lib (hid)
def mK (now ack una:Int)(r:Cn):Cn :=
 if una<ack then
  let d:Cn:={ r with dl:=eO,tm:=r.tm.acked now ack }
  let e:Cn:=if 0<ack-max una 1 then { d with cg:=d.cg.acked (ack-max una 1) ack }else d
  e.drop ack
 else r
def js (ack win sacked flight:Int)(a:Cn):Cn :=
 let b:=a.announce ack win
 if 0<sacked/\b.mark<=ack/\b.sc.lost b.mss≠[]then { b with cg:=b.cg.lost flight b.next }else b
theorem jE (c:Cn)(now:Int)(s:Sg)(ack:Int):c.acked now s ack =
 if ack<c.una then { c with tries:=0 }
 else if c.una<=c.last/\c.last<ack then(js ack s.win (c.repN ack s.bl) c.flight (mK now ack c.una (({ c with tries:=0 }:Cn).report ack s.bl))).step now 7
 else js ack s.win (c.repN ack s.bl) c.flight (mK now ack c.una (({ c with tries:=0 }:Cn).report ack s.bl)):=rfl
theorem dZ (c:Cn)(y:Bool):(c.ackC y).irs=c.irs/\(c.ackC y).cf=c.cf:=by unfold Cn.ackC;split <;> exact⟨rfl,rfl⟩
theorem jF (c:Cn)(now:Int):c.pushD now=finL now (sizeL now ((lostL (c.flight.toNat+1) c []).1.unsent.toNat+1) (lostL (c.flight.toNat+1) c []).1 (lostL (c.flight.toNat+1) c []).2).1 (sizeL now ((lostL (c.flight.toNat+1) c []).1.unsent.toNat+1) (lostL (c.flight.toNat+1) c []).1 (lostL (c.flight.toNat+1) c []).2).2:=rfl
theorem kJ (c:Cn)(now:Int):c.push now=if c.st=0 then(c,[])else(((if aq c.st=true then c.pushD now else(c,[])).1.pushA (if aq c.st=true then c.pushD now else(c,[])).2).1.pushT now,((if aq c.st=true then c.pushD now else(c,[])).1.pushA (if aq c.st=true then c.pushD now else(c,[])).2).2):=rfl
theorem bs (c:Cn)(now e:Int):(c.step now e).cf=c.cf:=by unfold Cn.step;split;rfl;split <;> rfl
theorem px (now ack una:Int)(r:Cn):(mK now ack una r).cf=r.cf:=by unfold mK;split;dsimp only;split <;> rfl;rfl
theorem py (ack win sacked flight:Int)(r:Cn):(js ack win sacked flight r).cf=r.cf:=by unfold js;dsimp only;split <;> rfl
theorem fu (c:Cn)(now:Int)(s:Sg)(ack:Int):(c.acked now s ack).cf=c.cf:=by
 rw[jE];split
 ·rfl
 split
 ·rw[bs,py,px];rfl
 rw[py,px];rfl
theorem jt (c:Cn)(now:Int)(s:Sg)(off:Int):(c.store now s off).cf=c.cf:=by
 unfold Cn.store;split
 ·rfl
 split
 ·split
  ·unfold Cn.ackSoon;split <;> rfl
  rfl
 rfl
theorem kz (c:Cn)(now:Int)(s:Sg)(off:Int):(c.finS now s off).cf=c.cf:=by
 unfold Cn.finS;dsimp only;have h1:(if s.fin=true/\aT c.st=true/\c.ended=false/\c.bx.nx<=off+s.s.length then { c with ended:=true,fend:=off+s.s.length }else c).cf=c.cf:=by split <;> rfl
 generalize (if s.fin=true/\aT c.st=true/\c.ended=false/\c.bx.nx<=off+s.s.length then { c with ended:=true,fend:=off+s.s.length }else c)=d at h1|-;split
 ·rw[<-h1];exact bs { d with over:=true } now 6
 exact h1
def wv (c:Cn)(s:Sg):Cn:={ c.meet s with tries:=0 }
def ww (d:Cn)(now:Int):Cn:={ ({ d with sc:=d.sc.acked 1 [],tm:=d.tm.acked now 1 }:Cn).step now 3 with dl:=eO }
theorem jG (c:Cn)(now:Int)(s:Sg):c.greet now s=if s.has=true/\aA s.ak c.cf.iss≠1 then(if s.rst=true then(c,[])else(c,[c.resetS s.ak]))else if s.rst=true/\s.has=true then(c.finish now 8 184,[])else if s.syn=false then(c,[])else if s.has=false then(((wv c s).step now 2).synC,[((wv c s).step now 2).synS])else(ww (wv c s) now).ackNow.push now:=rfl
theorem AD (d:Cn)(now:Int):(ww d now).cf=d.cf:=bs _ now 3
end Go.Proofs.YtclkcmidhhfdmaaGreatDoor
