import Derived.Test.YtcmncipikdpnbaaGreatDoorUc
import Derived.Test.YtcmncipikdpnbaaGreatDoorUb1
import Derived.WalkSpells
namespace Go.Proofs.YtcmncipikdpnbaaGreatDoor
def aI (x:Int):Prop:= -9223372036854775808<=x/\x<=9223372036854775807
theorem cH {a b:Int}(h:a=b):Ending.returned a= .returned b:=by rw[h]
structure Cg where
 go:Int
 win:Int
 EZ:Int
 on:Bool
 pt:Int
def Ay (go:Int):Cg:=⟨go,2*go,65535,false,0⟩
def dj (go flight:Int):Int:=min (max (flight.tdiv 2) (2*go)) 65535
def Cg.lost (c:Cg)(flight next:Int):Cg:=if c.on then c else { c with EZ:=dj c.go flight,win:=dj c.go flight,on:=true,pt:=next }
def Cg.timeout (c:Cg)(flight:Int):Cg:={ c with EZ:=dj c.go flight,win:=c.go,on:=false,pt:=0 }
def jD (go win:Int):Int:=max 1 (go*go/win)
def Cg.i1 (c:Cg)(n gi:Int):Cg :=
 if c.on then(if c.pt<=gi then { c with on:=false,pt:=0,win:=c.EZ }else c)
 else if n<=0 then c
 else if c.win<c.EZ then { c with win:=min (c.win+min n c.go) 65535 }
 else { c with win:=min (c.win+jD c.go c.win) 65535 }
def Cg.Ok (c:Cg):Prop:=28<=c.go/\c.go<=1024/\28<=c.win/\c.win<=65535/\56<=c.EZ/\c.EZ<=65535/\aI c.pt/\(c.on=false->c.pt=0)
theorem wY {m:Int}(h1:28<=m)(h2:m<=1024):(Ay m).Ok:=by
 unfold Cg.Ok Ay aI;dsimp only;refine⟨h1,h2,?_,?_,?_,?_,⟨?_,?_⟩,fun _=>rfl⟩ <;> omega
theorem pw {m:Int}(f:Int)(h1:28<=m)(h2:m<=1024):56<=dj m f/\dj m f<=65535:=by unfold dj;omega
theorem Cg.Fw {c:Cg}(h:c.Ok)(f:Int){n:Int}(k:aI n):(c.lost f n).Ok:=by
 unfold Cg.lost;split
 ·exact h
 obtain⟨a,b,d,e,l,g,i,j⟩:=h;have:=pw f a b;exact⟨a,b,IN,IN,this.1,this.2,k,fun h=>by cases h⟩
theorem Cg.Fg {c:Cg}(h:c.Ok)(f:Int):(c.timeout f).Ok:=by
 obtain⟨a,b,d,e,k,g,i,j⟩:=h;have:=pw f a b;exact⟨a,b,a,by unfold Cg.timeout;dsimp only;omega,this.1,this.2,by unfold Cg.timeout aI;dsimp only;omega,fun _=>rfl⟩
theorem kU {m w:Int}(h1:28<=m)(h2:m<=1024)(e:28<=w):1<=jD m w/\jD m w<=1048576/\0<=m*m/\m*m<=1048576/\0<=m*m/w/\m*m/w<=1048576:=by
 have a:0<=m*m:=MV O O;have b:m*m<=1024*1024:=Int.mul_le_mul h2 h2 O O;have c:0<=m*m/w:=Int.ediv_nonneg a O;have d:m*m/w<=m*m:=Int.ediv_le_self _ a;unfold jD;omega
theorem Cg.E6 {c:Cg}(h:c.Ok)(n gi:Int):(c.i1 n gi).Ok:=by
 obtain⟨a,b,d,e,f,g,i,j⟩:=h;unfold Cg.i1;split
 ·split
  ·exact⟨a,b,IN,IN,f,g,by unfold aI;dsimp only;omega,fun _=>rfl⟩
  exact⟨a,b,d,e,f,g,i,j⟩
 split
 ·exact⟨a,b,d,e,f,g,i,j⟩
 split
 ·exact⟨a,b,IN,IN,f,g,i,j⟩
 obtain⟨k,l,_⟩:=kU a b d;exact⟨a,b,IN,IN,f,g,i,j⟩
def aw (a n:Int):Int:=(a+n)%4294967296
def aE (a b:Int):Int:=(a-b+2147483648)%4294967296-2147483648
structure Al where
 set:Bool
 since:Int
 ticks:Int
def eE:Al:=⟨false,0,0⟩
def Al.Ck (now t:Int):Al:=⟨true,now,t⟩
def Al.due (a:Al)(now:Int):Bool:=a.set&&(decide (a.since<=now)&&decide (a.ticks<=now-a.since))
structure Cf where
 fp:Int
 tp:Int
 ki:Int
 go:Int
 room:Int
 keep:Int
structure Cn where
 sc:Sc
 tm:Tm
 cg:Cg
 held:List UInt8
 base:Int
 limit:Int
 largest:Int
 go:Int
 ke:Bool
 shut:Bool
 mark:Int
 bx:Bx
 A2:Int
 room:Int
 ann:Int
 ended:Bool
 sw:Int
 over:Bool
 pend:Int
 t8:Al
 cf:Cf
 st:Int
 err:Int
 dl:Al
 tries:Int
 per:Al
def gS (s e:Int):Option Int :=
 if s=0 then(if e=1 then some 1 else if e=2 then some 2 else none)
 else if e=8\/e=9 then some 0
 else if s=1 then(if e=3 then some 3 else if e=2 then some 2 else if e=5 then some 0 else none)
 else if s=2 then(if e=4 then some 3 else if e=5 then some 4 else if e=6 then some 6 else none)
 else if s=3 then(if e=5 then some 4 else if e=6 then some 6 else none)
 else if s=4 then(if e=7 then some 5 else if e=6 then some 7 else none)
 else if s=5 then(if e=6 then some 9 else none)
 else if s=6 then(if e=5 then some 8 else none)
 else if s=7 then(if e=7 then some 9 else none)
 else if s=8 then(if e=7 then some 0 else none)
 else none
def Cn.step (c:Cn)(now e:Int):Cn :=
 match gS c.st e with
 | none=>c
 | some n=>if n=9 then { c with per:=.Ck now 60,st:=n }else { c with st:=n }
def Cn.finish (c:Cn)(now e err:Int):Cn:={ c.step now e with err:=err }
def Cn.failure (c:Cn):Int:=if c.err≠0 then c.err else 183
def bf (s:Int):Bool:=decide (3<=s/\s<=9)
def aV (s:Int):Bool:=decide (s=3\/s=4\/s=5)
def ae (s:Int):Bool:=decide (s=3\/s=4\/s=6\/s=7\/s=8)
def Cn.gi (c:Cn):Int:=c.sc.gi
def Cn.next (c:Cn):Int:=c.sc.next
def Cn.flight (c:Cn):Int:=c.sc.next-c.sc.gi
def Cn.last (c:Cn):Int:=c.base+c.held.length
def Cn.kc (c:Cn):Int:=max 0 (c.last-c.next)
def lv (held:List UInt8)(base lo hi:Int):List UInt8 :=
 (held.take (min (max (hi-base) (min (max (lo-base) 0) held.length)) held.length).toNat).drop (min (max (lo-base) 0) held.length).toNat
def Cn.data (c:Cn)(lo hi:Int):List UInt8:=lv c.held c.base lo hi
def dI (held:List UInt8)(base gi:Int):Int:=min (max (gi-base) 0) held.length
def Cn.drop (c:Cn)(gi:Int):Cn:={ c with held:=c.held.drop (dI c.held c.base gi).toNat,base:=c.base+dI c.held c.base gi }
def Cn.announce (c:Cn)(ack win:Int):Cn:={ c with limit:=max c.limit (ack+win),largest:=max c.largest win }
def Cn.resize (c:Cn)(m:Int):Cn:={ c with go:=min c.go (if m=0 then 28 else m),cg:=Ay (min c.go (if m=0 then 28 else m)) }
def dU (ke:Bool)(next a:Int)(bl:List Sp):List Sp :=
 (bl.map fun b=>(aE b.1 a,aE b.2 a)).filter fun x=>ke&&decide (1<=x.1/\x.1<x.2/\x.2<=next)
def jE (ack:Int):List Sp->Int
 | []=>0
 | x::l=>max 0 (min x.2 ack-x.1)+jE ack l
def Cn.Dx (c:Cn)(ack:Int)(bl:List Sp):Int:=c.sc.Db ack (dU c.ke c.next c.cf.ki bl)-(ack-c.gi-jE ack c.sc.sk)
def Cn.report (c:Cn)(ack:Int)(bl:List Sp):Cn:={ c with sc:=c.sc.i1 ack (dU c.ke c.next c.cf.ki bl) }
def Cn.offset (c:Cn)(n:Int):Int:=aE n (aw c.A2 1)
def Cn.number (c:Cn)(off:Int):Int:=aw c.A2 (off+1)
def Cn.reached (c:Cn):Bool:=c.ended&&decide (c.bx.nx=c.sw)
def Cn.expected (c:Cn):Int:=if c.reached=true then c.bx.nx+1 else c.bx.nx
def Cn.most (c:Cn):Int:=c.bx.rd+c.bx.ring.length
def Cn.C7 (c:Cn)(m:Int):Bool:=decide (c.ann<c.most/\min m (c.room/2)<=c.most-c.ann)
def Cn.raised (c:Cn)(m:Int):Int:=if c.C7 m=true then c.most else max c.ann c.bx.nx
def Cn.accepts (c:Cn)(off n:Int):Bool :=
 if n=0/\off=c.expected then true
 else if c.ann-c.bx.nx<=0\/c.expected+(c.ann-c.bx.nx)<=off then false
 else if n=0 then decide (c.expected<=off)else decide (c.expected<off+n)
def Cn.i2 (c:Cn):Cn:={ c with pend:=2 }
def Cn.xa (c:Cn)(now:Int):Cn:=if c.pend≠0 then { c with pend:=2 }else { c with pend:=1,t8:=.Ck now 2 }
def nO (ended:Bool)(sw off:Int)(s:List UInt8):List UInt8 :=
 (if ended=true then s.take (min (max (sw-off) 0) s.length).toNat else s).drop (if off<0 then(min (-off) (if ended=true then s.take (min (max (sw-off) 0) s.length).toNat else s).length).toNat else 0)
def Cn.Ca (c:Cn)(off:Int)(s:List UInt8):Bx:=if nO c.ended c.sw off s=[]then c.bx else c.bx.put (max off 0) (nO c.ended c.sw off s)
def Cn.insert (c:Cn)(off:Int)(s:List UInt8):Cn:={ c with bx:=c.Ca off s }
def Cn.F1 (c:Cn)(off:Int)(s:List UInt8):Bool:=decide ((c.Ca off s).nx≠c.bx.nx/\c.bx.bl=[]/\(c.Ca off s).bl=[])
def dE:Sg:=⟨0,0,0,0,false,false,false,false,0,0,false,[],[]⟩
def Cn.address (c:Cn)(s:Sg)(off:Int):Sg:={ s with fp:=c.cf.fp,tp:=c.cf.tp,sq:=aw c.cf.ki off,win:=if s.syn=true then c.room else s.win }
def Cn.wk (c:Cn)(syn:Bool):Cn:=if syn=true then { c with pend:=0 }else { c with pend:=0,ann:=c.raised c.go }
def Cn.v7 (c:Cn)(s:Sg)(off:Int):Sg :=
 if s.syn=true then { c.address s off with has:=true,ak:=c.number c.expected }
 else { c.address s off with has:=true,ak:=c.number c.expected,win:=c.raised c.go-c.bx.nx,bl:=if s.s=[]/\c.ke=true then s.bl++c.bx.rep.map (fun b=>(c.number b.1,c.number b.2))else s.bl }
def Cn.Cc (c:Cn):Cn:=if c.st=1 then { c with ann:=c.room }else { c with ann:=c.room,pend:=0 }
def Cn.x7 (c:Cn):Sg:=if c.st=1 then c.address { dE with syn:=true,go:=c.cf.go,ke:=true } 0 else c.v7 { dE with syn:=true,go:=c.cf.go,ke:=true } 0
def Cn.x3 (c:Cn)(n:Int):Sg:={ dE with fp:=c.cf.fp,tp:=c.cf.tp,sq:=n,te:=true }
def Cn.nB (c:Cn)(lo hi:Int):Sg:=c.v7 { dE with s:=c.data lo hi,fin:=c.shut&&decide (c.last<hi) } lo
def Cn.tq (c:Cn):Cn:=c.wk false
def Cn.ms (c:Cn)(n:Int):Int:=if c.shut=true/\c.next+n=c.last then c.next+n+1 else c.next+n
def Cn.kr (c:Cn)(n:Int):Sg:=c.nB c.next (c.ms n)
def Cn.qa (c:Cn)(n:Int):Cn:={ c.tq with sc:=c.sc.sent (c.ms n) }
def Cn.allowed (c:Cn):Int :=
 if min (min c.kc c.go) (c.limit-c.next)<=0 then 0
 else if c.sc.pipe c.go≠0/\c.cg.win<c.sc.pipe c.go+min (min c.kc c.go) (c.limit-c.next)then 0
 else if min (min c.kc c.go) (c.limit-c.next)=c.go\/(min (min c.kc c.go) (c.limit-c.next)=c.kc/\(c.gi=c.next\/c.shut=true))\/c.largest<=2*min (min c.kc c.go) (c.limit-c.next)then min (min c.kc c.go) (c.limit-c.next)
 else 0
def aK (m:Int)(x:Sp):Sp:=(x.1,min x.2 (x.1+m))
def oi:Nat->Cn->List Sg->Cn×List Sg
 | 0,c,l=>(c,l)
 | n+1,c,l =>
  if c.sc.pipe c.go<c.cg.win then
   match c.sc.lost c.go with
   | []=>(c,l)
   | x::_ =>
    if c.sc.Eh (aK c.go x)=0 then oi n { c.tq with sc:=c.sc.ret (aK c.go x),tm:=c.tm.rl } (l++[c.nB x.1 (aK c.go x).2])
    else({ c.tq with sc:=c.sc.ret (aK c.go x) },l)
  else(c,l)
def Cn.out (c:Cn)(now n:Int):Cn:={ c.qa n with tm:=c.tm.sent now (c.qa n).next }
def nA (now:Int):Nat->Cn->List Sg->Cn×List Sg
 | 0,c,l=>(c,l)
 | k+1,c,l=>if 0<c.allowed then nA now k (c.out now c.allowed) (l++[c.kr c.allowed])else(c,l)
def Cb (now:Int)(c:Cn)(l:List Sg):Cn×List Sg:=if c.shut=true/\c.next=c.last then(c.out now 0,l++[c.kr 0])else(c,l)
def Cn.qb (c:Cn)(now:Int):Cn×List Sg :=
 let a:=oi (c.flight.toNat+1) c []
 let b:=nA now (a.1.kc.toNat+1) a.1 a.2
 Cb now b.1 b.2
def Cn.tt (c:Cn)(l:List Sg):Cn×List Sg:=if c.pend=2 then(c.wk false,l++[c.v7 dE c.next])else(c,l)
def Cn.o6 (c:Cn)(now:Int):Cn :=
 if c.flight<=0/\¬(ae c.st=true/\0<c.kc)then { c with dl:=eE }
 else if c.dl.set=true then c else { c with dl:=.Ck now c.tm.value }
def Cn.push (c:Cn)(now:Int):Cn×List Sg :=
 if c.st=0 then(c,[])
 else
  let a:=if ae c.st=true then c.qb now else(c,[])
  let b:=a.1.tt a.2
  (b.1.o6 now,b.2)
def Cn.meet (c:Cn)(s:Sg):Cn:=({ c with A2:=s.sq,ke:=s.ke }.announce 1 s.win).resize s.go
def aq (s:Sg):Int:=s.s.length+(if s.syn=true then 1 else 0)+(if s.fin=true then 1 else 0)
def Cn.i1 (c:Cn)(now:Int)(s:Sg)(ack:Int):Cn :=
 if ack<c.gi then { c with tries:=0 }
 else
  let flight:=c.flight
  let fin:=c.last
  let gi:=c.gi
  let f:=c.Dx ack s.bl
  let r:Cn:={ c with tries:=0 }.report ack s.bl
  -- the steps behind the report compare with the old gi
  let a:Cn:=if gi<ack then
    let d:Cn:={ r with dl:=eE,tm:=r.tm.i1 now ack }
    let e:Cn:=if 0<ack-max gi 1 then { d with cg:=d.cg.i1 (ack-max gi 1) ack }else d
    e.drop ack
   else r
  let b:=a.announce ack s.win
  let d:Cn:=if 0<f/\b.mark<=ack/\b.sc.lost b.go≠[]then { b with cg:=b.cg.lost flight b.next }else b
  if gi<=fin/\fin<ack then d.step now 7 else d
def Cn.store (c:Cn)(now:Int)(s:Sg)(off:Int):Cn :=
 if s.s=[]then c
 else if aV c.st=true then(if c.F1 off s.s=true then(c.insert off s.s).xa now else(c.insert off s.s).i2)
 else c.i2
def Cn.tl (c:Cn)(now:Int)(s:Sg)(off:Int):Cn :=
 let e:=off+s.s.length
 let d:Cn:=if s.fin=true/\aV c.st=true/\c.ended=false/\c.bx.nx<=e then { c with ended:=true,sw:=e }else c
 if d.reached=true/\d.over=false then({ d with over:=true }.step now 6).i2 else d
def Cn.process (c:Cn)(now:Int)(s:Sg)(off:Int):Cn×List Sg :=
 let ack:=aE s.ak c.cf.ki
 if c.st=2 then
  if ack<1\/c.next<ack then(c,[c.x3 s.ak])
  else
   let d:=c.step now 4
   let e:=if d.shut=true then d.step now 5 else d
   (((e.i1 now s ack).store now s off).tl now s off).push now
 else if c.next<ack then c.i2.push now
 else(((c.i1 now s ack).store now s off).tl now s off).push now
def Cn.stray (c:Cn)(now:Int)(s:Sg):Cn×List Sg :=
 let ack:=aE s.ak c.cf.ki
 let a:=if bf c.st=true/\s.has=true/\s.syn=false/\c.gi<=ack/\ack<=c.next then c.i1 now s ack else c
 let b:Cn:=if a.st=9/\s.fin=true then { a with per:=.Ck now 60 }else a
 (if 0<aq s then b.i2 else b).push now
def Cn.Ct (c:Cn)(now:Int)(s:Sg):Cn×List Sg :=
 if s.has=true/\aE s.ak c.cf.ki≠1 then(if s.te=true then(c,[])else(c,[c.x3 s.ak]))
 else if s.te=true/\s.has=true then(c.finish now 8 184,[])
 else if s.syn=false then(c,[])
 else
  let d:Cn:={ c.meet s with tries:=0 }
  if s.has=false then
   let e:=d.step now 2
   (e.Cc,[e.x7])
  else
   let e:Cn:={ d with sc:=d.sc.i1 1 [],tm:=d.tm.i1 now 1 }
   ({ e.step now 3 with dl:=eE }.i2).push now
def Cn.Cw (c:Cn)(now:Int)(s:Sg):Cn×List Sg :=
 let off:=c.offset s.sq
 if s.te=true/\off=c.expected then(c.finish now 8 181,[])
 else if s.te=true/\c.accepts off (aq s)=false then(c,[])
 else if c.accepts off (aq s)=false then c.stray now s
 else if s.te=true\/s.syn=true then c.i2.push now
 else if s.has=false then(c,[])
 else c.process now s off
def Cn.receive (c:Cn)(now:Int)(s:Sg):Cn×List Sg :=
 if c.st=0 then(c,[])
 else if s.fp≠c.cf.tp\/s.tp≠c.cf.fp then(c,[])
 else if c.st=1 then c.Ct now s
 else c.Cw now s
def Cn.expire (c:Cn):Cn×List Sg :=
 if 0<c.flight then({ c with cg:=c.cg.timeout c.flight,sc:=c.sc.timeout,mark:=c.next },[])
 else if c.kc=0 then(c,[])
 else(c.qa (max 1 (min (min c.go (c.limit-c.next)) c.kc)),[c.kr (max 1 (min (min c.go (c.limit-c.next)) c.kc))])
def Cn.sg (c:Cn)(now:Int)(l:List Sg):Cn×List Sg :=
 let a:=if c.pend=1/\c.t8.due now=true then c.i2 else c
 let b:=a.push now
 (b.1,l++b.2)
def Cn.tick (c:Cn)(now:Int):Cn×List Sg :=
 if c.st=0 then(c,[])
 else if c.st=9/\c.per.due now=true then(c.finish now 9 0,[])
 else if c.dl.due now=true then
  let d:Cn:={ c with tries:=c.tries+1 }
  if 12<d.tries then(d.finish now 9 182,[])
  else
   let t:=d.tm.rl.kf
   let e:Cn:={ d with tm:=t,dl:=.Ck now t.value }
   if bf e.st=true then e.expire.1.sg now e.expire.2
   else(e.Cc,[e.x7])
 else c.sg now []
def Cn.refusal (c:Cn):Int:=if c.st=0 then c.failure else if c.shut=false/\(c.st=1\/c.st=2\/c.st=3\/c.st=6)then 0 else 183
def Cn.space (c:Cn):Int:=if c.refusal≠0 then 0 else max 0 (c.cf.keep-c.held.length)
def Cn.pd (c:Cn)(s:List UInt8):Int:=min s.length c.space
def Cn.send (c:Cn)(now:Int)(s:List UInt8):Cn×List Sg:=if c.refusal≠0 then(c,[])else { c with held:=c.held++s.take (c.pd s).toNat }.push now
def Cn.v8 (c:Cn)(n:Int):Bool:={ c with bx:=c.bx.take n }.reached&&decide ((c.bx.take n).nx-(c.bx.take n).rd=0)
def Cn.recv (c:Cn)(now n:Int):Cn×List Sg :=
 if n<0 then(c,[])
 else
  let d:Cn:={ c with bx:=c.bx.take n }
  if c.bx.ox n=[]then(d,[])
  else if d.C7 d.go=false\/aV d.st=false then(d,[])
  else d.i2.push now
def Cn.oB (c:Cn)(n:Int):Int:=if n<0 then 2 else if c.bx.ox n=[]/\c.st=0/\c.v8 n=false then c.failure else 0
def Cn.close (c:Cn)(now:Int):Cn×List Sg :=
 if c.st=0\/c.shut=true then(c,[])
 else
  let d:Cn:={ c with shut:=true }
  if d.st=1 then(d.finish now 5 183,[])
  else if d.st=2 then d.push now
  else(d.step now 5).push now
def Cn.z8 (c:Cn):Int:=if c.st=0\/c.shut=true then 183 else 0
def Cf.okB (c:Cf):Bool :=
 decide ((1<=c.fp/\c.fp<=65535)/\(1<=c.tp/\c.tp<=65535)/\(0<=c.ki/\c.ki<=4294967295)/\(28<=c.go/\c.go<=1000)/\(1<=c.room/\c.room<=8192)/\1<=c.keep/\c.keep<=8192)
def dZ (now:Int)(c:Cf):Cn :=
 {
  sc:=zd.sent 1,tm:=po.sent now 1,cg:=Ay c.go,held:=[],base:=1,limit:=0,largest:=0,go:=c.go,ke:=false,shut:=false,mark:=0,
  bx:=nM c.room.toNat,A2:=0,room:=c.room,ann:=c.room,ended:=false,sw:=0,over:=false,pend:=0,t8:=eE,cf:=c,st:=0,err:=0,dl:=.Ck now po.value,tries:=0,per:=eE }
def tM (now:Int)(c:Cf):Cn:=(dZ now c).step now 1
def fz (now:Int)(c:Cf):Cn×List Sg:=((tM now c).Cc,[(tM now c).x7])
def fL (now:Int)(c:Cf)(s:Sg):Cn:=((dZ now c).meet s).step now 2
def cZ (now:Int)(c:Cf)(s:Sg):Cn×List Sg:=((fL now c s).Cc,[(fL now c s).x7])
def aO (c n:Int):Int:=(if c<0 then -(c+1)else c)%n
theorem ah (c n:Int)(a:1<=n):0<=aO c n/\aO c n<n:=by
 unfold aO;exact⟨Int.emod_nonneg _ O,Int.emod_lt_of_pos _ O⟩
structure Fl where
 dst:Bool
 due:Int
 held:Bool
 s:Sg
structure Sd where
 c:Cn
 all:List UInt8
 sent:Int
 got:List UInt8
 fin:Bool
 closed:Bool
structure Pr where
 a:Sd
 b:Sd
 wire:List Fl
 now:Int
 kq:List Int
 many:Nat
 log:List Fl
namespace Pr
def sd (p:Pr)(i:Bool):Sd:=match i with | false=>p.a | true=>p.b
def kl (p:Pr)(i:Bool)(s:Sd):Pr:=match i with | false=>{ p with a:=s } | true=>{ p with b:=s }
def v6 (p:Pr)(i:Bool)(c:Cn):Pr:=p.kl i { p.sd i with c:=c }
def Ch (p:Pr):Int:=match p.kq[p.many]? with | some x=>aO x 24 | none=>0
def fl (p:Pr)(i:Bool)(s:Sg):Fl:=⟨!i,p.now+1,false,s⟩
def D6 (p:Pr)(f:Fl):List Fl :=
 if p.Ch=0 then [f]else if p.Ch=1 then []else if p.Ch=2 then [f,f]else if p.Ch=3 then [{ f with held:=true }]else [{ f with due:=p.now+p.Ch-3 }]
def z7 (p:Pr)(i:Bool)(s:Sg):Pr:={ p with many:=p.many+1,log:=p.log++[p.fl i s],wire:=p.wire++p.D6 (p.fl i s) }
def put (p:Pr)(i:Bool)(l:List Sg):Pr:=l.foldl (fun q s=>q.z7 i s) p
def A4 (now:Int)(f:Fl):Bool:= !f.held&&decide (f.due<=now)
def EI (now:Int)(W:List Fl):List Fl:=W.filter (A4 now)
def DZ (now:Int)(W:List Fl):List Fl:=W.filter (fun f=> !A4 now f)
def GT (l:List Fl)(d:Bool):Bool:=l.any fun f=>f.dst==d
def Cd (now:Int)(due:List Fl)(f:Fl):Bool:=f.held&&(GT due f.dst||decide (f.due+30<=now))
def due (p:Pr):List Fl:=EI p.now p.wire++(DZ p.now p.wire).filter (Cd p.now (EI p.now p.wire))
def rest (p:Pr):List Fl:=(DZ p.now p.wire).filter fun f=> !Cd p.now (EI p.now p.wire) f
def kd (p:Pr)(f:Fl):Pr:=(p.v6 f.dst ((p.sd f.dst).c.receive p.now f.s).1).put f.dst ((p.sd f.dst).c.receive p.now f.s).2
def deliver (p:Pr):Pr:=p.due.foldl kd { p with wire:=p.rest }
def kp (p:Pr)(i:Bool):Pr:=(p.v6 i ((p.sd i).c.tick p.now).1).put i ((p.sd i).c.tick p.now).2
def tick (p:Pr):Pr:=(({ p with now:=p.now+1 }.deliver).kp false).kp true
def bytes (s:Sd)(n:Int):List UInt8:=(s.all.take (min (s.sent+n) s.all.length).toNat).drop s.sent.toNat
def send (p:Pr)(i:Bool)(n:Int):Pr :=
 let s:=p.sd i
 if s.closed=true\/(s.all.length:Int)<=s.sent then p
 else if s.c.refusal≠0 then p
 else(p.kl i { s with c:=(s.c.send p.now (bytes s n)).1,sent:=s.sent+s.c.pd (bytes s n) }).put i (s.c.send p.now (bytes s n)).2
def recv (p:Pr)(i:Bool)(n:Int):Pr :=
 let s:=p.sd i
 if s.c.oB n≠0 then p.v6 i (s.c.recv p.now n).1
 else(p.kl i { s with c:=(s.c.recv p.now n).1,got:=s.got++s.c.bx.ox n,fin:=s.fin||s.c.v8 n }).put i (s.c.recv p.now n).2
def shut (p:Pr)(i:Bool):Pr :=
 let s:=p.sd i
 if s.closed=true then p
 else if s.c.z8≠0 then p
 else(p.kl i { s with c:=(s.c.close p.now).1,closed:=true }).put i (s.c.close p.now).2
def D3 (s o:Sd):Bool :=
 decide (o.sent<s.got.length)||(decide (s.got≠o.all.take (min s.got.length o.all.length))||(s.fin&&(!o.closed||decide ((s.got.length:Int)≠o.sent))))
def ET (p:Pr):Int:=(if D3 p.a p.b=true then 1 else 0)+(if D3 p.b p.a=true then 1 else 0)
end Pr
structure Dv where
 side:Int
 kind:Int
 n:Int
 tick:Int
def Dv.i (x:Dv):Bool:=decide (aO x.side 2=1)
namespace Pr
def Ep:Nat->Pr->Pr×Bool
 | 0,p=>(p,decide (p.ET=0))
 | n+1,p=>if 0<p.tick.ET then(p.tick,false)else Ep n p.tick
def ticks:Nat->Pr->Pr
 | 0,p=>p
 | n+1,p=>ticks n p.tick
end Pr
structure Rw where
 DL:Int
 Eb:Int
 go:Int
 xb:Int
 x4:Int
 keep:Int
def wZ:Rw:=⟨0,0,0,0,0,0⟩
def ck (n:Int):Int:=n%4294967296
def ee (x:Rw):Cf:=⟨5000,80,ck x.DL,28+aO x.go 100,40+aO x.xb 400,40+aO x.keep 400⟩
def eF (x:Rw):Cf:=⟨80,5000,ck x.Eb,28+aO x.go 100,40+aO x.x4 400,40+aO x.keep 400⟩
def wg (a:Int)(i:Nat):UInt8:=UInt8.ofNat (97+(i*7+i/13+a.toNat*5)%26)
def dV (a:Int)(n:Nat):List UInt8:=(List.range n).map (wg a)
def CE (c:Cn)(all:List UInt8):Sd:=⟨c,all,0,[],false,false⟩
def gA (x:Rw):Sg:=(tM 0 (ee x)).x7
def eK (x:Rw)(kq:List Int)(n m:Nat):Pr :=
 ({ a:=CE (fz 0 (ee x)).1 (dV 0 n),b:=CE (cZ 0 (eF x) (gA x)).1 (dV 1 m),wire:=[],now:=0,kq:=kq,many:=0,log:=[] }:Pr).put true (cZ 0 (eF x) (gA x)).2
def Pr.nv (p:Pr)(i:Bool):Pr :=
 let q:=(p.send i 1000).recv i 1000
 if(q.sd i).sent=(q.sd i).all.length/\(q.sd i).c.st≠1 then q.shut i else q
def rY:Pr:=eK wZ [] 3 0
def wh:Pr:=rY.tick
def uP:Pr:=wh.tick
def wi:Pr:=(uP.send false 3).tick
def zf:Pr:=((wi.recv true 9).shut false).tick
def j7:Pr:=(zf.recv true 9).shut true
def oT:Pr:=Pr.ticks 70 j7
theorem Az:(decide (rY.a.c.st=1/\rY.b.c.st=2/\wh.a.c.st=3/\uP.b.c.st=3)&&decide (j7.b.got=[97,104,111])&&j7.b.fin&&decide (j7.b.c.st=8)&&decide (oT.a.c.st=0/\oT.b.c.st=0/\oT.a.c.err=0/\oT.b.c.err=0))=true:=by decide +kernel
def Pr.E0 (s o:Sd):Bool:=s.fin&&decide (s.got.length=o.all.length)
def Pr.Cm (p:Pr):Pr×Bool :=
 let q:=p.nv false
 let s:=(p.send false 1000).recv false 1000
 let r:=q.nv true
 let t:=(q.send true 1000).recv true 1000
 (r,Pr.E0 (s.sd false) s.b&&Pr.E0 (t.sd true) t.a)
end Go.Proofs.YtcmncipikdpnbaaGreatDoor
