import Derived.Test.YtclkcmidhhfdmaaGreatDoorUc
import Derived.Test.YtclkcmidhhfdmaaGreatDoorUb1
import Derived.WalkSpells
namespace Go.Proofs.YtclkcmidhhfdmaaGreatDoor
def aI (x:Int):Prop:= -9223372036854775808<=x/\x<=9223372036854775807
theorem bk {a b:Int}(h:a=b):Ending.returned a= .returned b:=by rw[h]
structure Cg where
 mss:Int
 win:Int
 thr:Int
 on:Bool
 pt:Int
def wI (mss:Int):Cg:=⟨mss,2*mss,65535,false,0⟩
def dF (mss flight:Int):Int:=min (max (flight.tdiv 2) (2*mss)) 65535
def Cg.lost (c:Cg)(flight next:Int):Cg:=if c.on then c else { c with thr:=dF c.mss flight,win:=dF c.mss flight,on:=true,pt:=next }
def Cg.timeout (c:Cg)(flight:Int):Cg:={ c with thr:=dF c.mss flight,win:=c.mss,on:=false,pt:=0 }
def gv (mss win:Int):Int:=max 1 (mss*mss/win)
def Cg.acked (c:Cg)(n una:Int):Cg :=
 if c.on then(if c.pt<=una then { c with on:=false,pt:=0,win:=c.thr }else c)
 else if n<=0 then c
 else if c.win<c.thr then { c with win:=min (c.win+min n c.mss) 65535 }
 else { c with win:=min (c.win+gv c.mss c.win) 65535 }
def Cg.Ok (c:Cg):Prop:=28<=c.mss/\c.mss<=1024/\28<=c.win/\c.win<=65535/\56<=c.thr/\c.thr<=65535/\aI c.pt/\(c.on=false->c.pt=0)
theorem ry {m:Int}(h1:28<=m)(h2:m<=1024):(wI m).Ok:=by
 unfold Cg.Ok wI aI;dsimp only;refine⟨h1,h2,?_,?_,?_,?_,⟨?_,?_⟩,fun _=>rfl⟩ <;> omega
theorem mj {m:Int}(f:Int)(h1:28<=m)(h2:m<=1024):56<=dF m f/\dF m f<=65535:=by unfold dF;omega
theorem Cg.lost_ok {c:Cg}(h:c.Ok)(f:Int){n:Int}(hn:aI n):(c.lost f n).Ok:=by
 unfold Cg.lost;split
 ·exact h
 obtain⟨a,b,d,e,f1,g,i,j⟩:=h;have:=mj f a b;exact⟨a,b,by dsimp only;omega,by dsimp only;omega,this.1,this.2,hn,fun h=>by cases h⟩
theorem Cg.timeout_ok {c:Cg}(h:c.Ok)(f:Int):(c.timeout f).Ok:=by
 obtain⟨a,b,d,e,f1,g,i,j⟩:=h;have:=mj f a b;exact⟨a,b,a,by unfold Cg.timeout;dsimp only;omega,this.1,this.2,by unfold Cg.timeout aI;dsimp only;omega,fun _=>rfl⟩
theorem jD {m w:Int}(h1:28<=m)(h2:m<=1024)(h3:28<=w):1<=gv m w/\gv m w<=1048576/\0<=m*m/\m*m<=1048576/\0<=m*m/w/\m*m/w<=1048576:=by
 have a:0<=m*m:=Int.mul_nonneg (by omega) (by omega);have b:m*m<=1024*1024:=Int.mul_le_mul h2 h2 (by omega) (by omega);have c:0<=m*m/w:=Int.ediv_nonneg a (by omega);have d:m*m/w<=m*m:=Int.ediv_le_self _ a;unfold gv;omega
theorem Cg.acked_ok {c:Cg}(h:c.Ok)(n una:Int):(c.acked n una).Ok:=by
 obtain⟨a,b,d,e,f1,g,i,j⟩:=h;unfold Cg.acked;split
 ·split
  ·exact⟨a,b,by dsimp only;omega,by dsimp only;omega,f1,g,by unfold aI;dsimp only;omega,fun _=>rfl⟩
  exact⟨a,b,d,e,f1,g,i,j⟩
 split
 ·exact⟨a,b,d,e,f1,g,i,j⟩
 split
 ·exact⟨a,b,by dsimp only;omega,by dsimp only;omega,f1,g,i,j⟩
 obtain⟨k,l,_⟩:=jD a b d;exact⟨a,b,by dsimp only;omega,by dsimp only;omega,f1,g,i,j⟩
def bt (a n:Int):Int:=(a+n)%4294967296
def aD (a b:Int):Int:=(a-b+2147483648)%4294967296-2147483648
structure Al where
 set:Bool
 since:Int
 ticks:Int
def ex:Al:=⟨false,0,0⟩
def Al.aft (now t:Int):Al:=⟨true,now,t⟩
def Al.due (a:Al)(now:Int):Bool:=a.set&&(decide (a.since<=now)&&decide (a.ticks<=now-a.since))
structure Cf where
 fp:Int
 tp:Int
 iss:Int
 mss:Int
 room:Int
 keep:Int
structure Cn where
 sc:Sc
 tm:Tm
 cg:Cg
 held:List UInt8
 base:Int
 limit:Int
 largest:Int
 mss:Int
 sacks:Bool
 shut:Bool
 mark:Int
 bx:Bx
 irs:Int
 room:Int
 ann:Int
 ended:Bool
 fend:Int
 over:Bool
 pend:Int
 ackT:Al
 cf:Cf
 st:Int
 err:Int
 dl:Al
 tries:Int
 per:Al
def jC (s e:Int):Option Int :=
 if s=0 then(if e=1 then some 1 else if e=2 then some 2 else none)
 else if e=8\/e=9 then some 0
 else if s=1 then(if e=3 then some 3 else if e=2 then some 2 else if e=5 then some 0 else none)
 else if s=2 then(if e=4 then some 3 else if e=5 then some 4 else if e=6 then some 6 else none)
 else if s=3 then(if e=5 then some 4 else if e=6 then some 6 else none)
 else if s=4 then(if e=7 then some 5 else if e=6 then some 7 else none)
 else if s=5 then(if e=6 then some 9 else none)
 else if s=6 then(if e=5 then some 8 else none)
 else if s=7 then(if e=7 then some 9 else none)
 else if s=8 then(if e=7 then some 0 else none)
 else none
def Cn.step (c:Cn)(now e:Int):Cn :=
 match jC c.st e with
 | none=>c
 | some n=>if n=9 then { c with per:=.aft now 60,st:=n }else { c with st:=n }
def Cn.finish (c:Cn)(now e err:Int):Cn:={ c.step now e with err:=err }
def Cn.failure (c:Cn):Int:=if c.err≠0 then c.err else 183
def cA (s:Int):Bool:=decide (3<=s/\s<=9)
def ao (s:Int):Bool:=decide (s=3\/s=4\/s=5)
def eh (s:Int):Bool:=decide (s=3\/s=4\/s=6\/s=7\/s=8)
def Cn.una (c:Cn):Int:=c.sc.una
def Cn.next (c:Cn):Int:=c.sc.next
def Cn.flight (c:Cn):Int:=c.sc.next-c.sc.una
def Cn.last (c:Cn):Int:=c.base+c.held.length
def Cn.unsent (c:Cn):Int:=max 0 (c.last-c.next)
def mm (held:List UInt8)(base lo hi:Int):List UInt8 :=
 (held.take (min (max (hi-base) (min (max (lo-base) 0) held.length)) held.length).toNat).drop (min (max (lo-base) 0) held.length).toNat
def Cn.data (c:Cn)(lo hi:Int):List UInt8:=mm c.held c.base lo hi
def eP (held:List UInt8)(base una:Int):Int:=min (max (una-base) 0) held.length
def Cn.drop (c:Cn)(una:Int):Cn:={ c with held:=c.held.drop (eP c.held c.base una).toNat,base:=c.base+eP c.held c.base una }
def Cn.announce (c:Cn)(ack win:Int):Cn:={ c with limit:=max c.limit (ack+win),largest:=max c.largest win }
def Cn.resize (c:Cn)(m:Int):Cn:={ c with mss:=min c.mss (if m=0 then 28 else m),cg:=wI (min c.mss (if m=0 then 28 else m)) }
def ej (sacks:Bool)(next iss:Int)(bl:List Sp):List Sp :=
 (bl.map fun b=>(aD b.1 iss,aD b.2 iss)).filter fun x=>sacks&&decide (1<=x.1/\x.1<x.2/\x.2<=next)
def gz (ack:Int):List Sp->Int
 | []=>0
 | x::l=>max 0 (min x.2 ack-x.1)+gz ack l
def Cn.repN (c:Cn)(ack:Int)(bl:List Sp):Int:=c.sc.ackN ack (ej c.sacks c.next c.cf.iss bl)-(ack-c.una-gz ack c.sc.sk)
def Cn.report (c:Cn)(ack:Int)(bl:List Sp):Cn:={ c with sc:=c.sc.acked ack (ej c.sacks c.next c.cf.iss bl) }
def Cn.offset (c:Cn)(n:Int):Int:=aD n (bt c.irs 1)
def Cn.number (c:Cn)(off:Int):Int:=bt c.irs (off+1)
def Cn.reached (c:Cn):Bool:=c.ended&&decide (c.bx.nx=c.fend)
def Cn.expected (c:Cn):Int:=if c.reached=true then c.bx.nx+1 else c.bx.nx
def Cn.most (c:Cn):Int:=c.bx.rd+c.bx.ring.length
def Cn.growsB (c:Cn)(m:Int):Bool:=decide (c.ann<c.most/\min m (c.room/2)<=c.most-c.ann)
def Cn.raised (c:Cn)(m:Int):Int:=if c.growsB m=true then c.most else max c.ann c.bx.nx
def Cn.accepts (c:Cn)(off n:Int):Bool :=
 if n=0/\off=c.expected then true
 else if c.ann-c.bx.nx<=0\/c.expected+(c.ann-c.bx.nx)<=off then false
 else if n=0 then decide (c.expected<=off)else decide (c.expected<off+n)
def Cn.ackNow (c:Cn):Cn:={ c with pend:=2 }
def Cn.ackSoon (c:Cn)(now:Int):Cn:=if c.pend≠0 then { c with pend:=2 }else { c with pend:=1,ackT:=.aft now 2 }
def mo (ended:Bool)(fend off:Int)(s:List UInt8):List UInt8 :=
 (if ended=true then s.take (min (max (fend-off) 0) s.length).toNat else s).drop (if off<0 then(min (-off) (if ended=true then s.take (min (max (fend-off) 0) s.length).toNat else s).length).toNat else 0)
def Cn.insBx (c:Cn)(off:Int)(s:List UInt8):Bx:=if mo c.ended c.fend off s=[]then c.bx else c.bx.put (max off 0) (mo c.ended c.fend off s)
def Cn.insert (c:Cn)(off:Int)(s:List UInt8):Cn:={ c with bx:=c.insBx off s }
def Cn.insB (c:Cn)(off:Int)(s:List UInt8):Bool:=decide ((c.insBx off s).nx≠c.bx.nx/\c.bx.bl=[]/\(c.insBx off s).bl=[])
def dg:Sg:=⟨0,0,0,0,false,false,false,false,0,0,false,[],[]⟩
def Cn.address (c:Cn)(s:Sg)(off:Int):Sg:={ s with fp:=c.cf.fp,tp:=c.cf.tp,sq:=bt c.cf.iss off,win:=if s.syn=true then c.room else s.win }
def Cn.ackC (c:Cn)(syn:Bool):Cn:=if syn=true then { c with pend:=0 }else { c with pend:=0,ann:=c.raised c.mss }
def Cn.ackS (c:Cn)(s:Sg)(off:Int):Sg :=
 if s.syn=true then { c.address s off with has:=true,ak:=c.number c.expected }
 else { c.address s off with has:=true,ak:=c.number c.expected,win:=c.raised c.mss-c.bx.nx,bl:=if s.s=[]/\c.sacks=true then s.bl++c.bx.rep.map (fun b=>(c.number b.1,c.number b.2))else s.bl }
def Cn.synC (c:Cn):Cn:=if c.st=1 then { c with ann:=c.room }else { c with ann:=c.room,pend:=0 }
def Cn.synS (c:Cn):Sg:=if c.st=1 then c.address { dg with syn:=true,mss:=c.cf.mss,sacks:=true } 0 else c.ackS { dg with syn:=true,mss:=c.cf.mss,sacks:=true } 0
def Cn.resetS (c:Cn)(n:Int):Sg:={ dg with fp:=c.cf.fp,tp:=c.cf.tp,sq:=n,rst:=true }
def Cn.pieceS (c:Cn)(lo hi:Int):Sg:=c.ackS { dg with s:=c.data lo hi,fin:=c.shut&&decide (c.last<hi) } lo
def Cn.pieceC (c:Cn):Cn:=c.ackC false
def Cn.freshTo (c:Cn)(n:Int):Int:=if c.shut=true/\c.next+n=c.last then c.next+n+1 else c.next+n
def Cn.freshS (c:Cn)(n:Int):Sg:=c.pieceS c.next (c.freshTo n)
def Cn.freshC (c:Cn)(n:Int):Cn:={ c.pieceC with sc:=c.sc.sent (c.freshTo n) }
def Cn.allowed (c:Cn):Int :=
 if min (min c.unsent c.mss) (c.limit-c.next)<=0 then 0
 else if c.sc.pipe c.mss≠0/\c.cg.win<c.sc.pipe c.mss+min (min c.unsent c.mss) (c.limit-c.next)then 0
 else if min (min c.unsent c.mss) (c.limit-c.next)=c.mss\/(min (min c.unsent c.mss) (c.limit-c.next)=c.unsent/\(c.una=c.next\/c.shut=true))\/c.largest<=2*min (min c.unsent c.mss) (c.limit-c.next)then min (min c.unsent c.mss) (c.limit-c.next)
 else 0
def aS (m:Int)(x:Sp):Sp:=(x.1,min x.2 (x.1+m))
def lostL:Nat->Cn->List Sg->Cn×List Sg
 | 0,c,l=>(c,l)
 | n+1,c,l =>
  if c.sc.pipe c.mss<c.cg.win then
   match c.sc.lost c.mss with
   | []=>(c,l)
   | x::_ =>
    if c.sc.retE (aS c.mss x)=0 then lostL n { c.pieceC with sc:=c.sc.ret (aS c.mss x),tm:=c.tm.retr } (l++[c.pieceS x.1 (aS c.mss x).2])
    else({ c.pieceC with sc:=c.sc.ret (aS c.mss x) },l)
  else(c,l)
def Cn.out (c:Cn)(now n:Int):Cn:={ c.freshC n with tm:=c.tm.sent now (c.freshC n).next }
def sizeL (now:Int):Nat->Cn->List Sg->Cn×List Sg
 | 0,c,l=>(c,l)
 | k+1,c,l=>if 0<c.allowed then sizeL now k (c.out now c.allowed) (l++[c.freshS c.allowed])else(c,l)
def finL (now:Int)(c:Cn)(l:List Sg):Cn×List Sg:=if c.shut=true/\c.next=c.last then(c.out now 0,l++[c.freshS 0])else(c,l)
def Cn.pushD (c:Cn)(now:Int):Cn×List Sg :=
 let a:=lostL (c.flight.toNat+1) c []
 let b:=sizeL now (a.1.unsent.toNat+1) a.1 a.2
 finL now b.1 b.2
def Cn.pushA (c:Cn)(l:List Sg):Cn×List Sg:=if c.pend=2 then(c.ackC false,l++[c.ackS dg c.next])else(c,l)
def Cn.pushT (c:Cn)(now:Int):Cn :=
 if c.flight<=0/\¬(eh c.st=true/\0<c.unsent)then { c with dl:=ex }
 else if c.dl.set=true then c else { c with dl:=.aft now c.tm.value }
def Cn.push (c:Cn)(now:Int):Cn×List Sg :=
 if c.st=0 then(c,[])
 else
  let a:=if eh c.st=true then c.pushD now else(c,[])
  let b:=a.1.pushA a.2
  (b.1.pushT now,b.2)
def Cn.meet (c:Cn)(s:Sg):Cn:=({ c with irs:=s.sq,sacks:=s.sacks }.announce 1 s.win).resize s.mss
def bh (s:Sg):Int:=s.s.length+(if s.syn=true then 1 else 0)+(if s.fin=true then 1 else 0)
def Cn.acked (c:Cn)(now:Int)(s:Sg)(ack:Int):Cn :=
 if ack<c.una then { c with tries:=0 }
 else
  let flight:=c.flight
  let fin:=c.last
  let una:=c.una
  let sacked:=c.repN ack s.bl
  let r:Cn:={ c with tries:=0 }.report ack s.bl
  -- the steps behind the report compare with the old una
  let a:Cn:=if una<ack then
    let d:Cn:={ r with dl:=ex,tm:=r.tm.acked now ack }
    let e:Cn:=if 0<ack-max una 1 then { d with cg:=d.cg.acked (ack-max una 1) ack }else d
    e.drop ack
   else r
  let b:=a.announce ack s.win
  let d:Cn:=if 0<sacked/\b.mark<=ack/\b.sc.lost b.mss≠[]then { b with cg:=b.cg.lost flight b.next }else b
  if una<=fin/\fin<ack then d.step now 7 else d
def Cn.store (c:Cn)(now:Int)(s:Sg)(off:Int):Cn :=
 if s.s=[]then c
 else if ao c.st=true then(if c.insB off s.s=true then(c.insert off s.s).ackSoon now else(c.insert off s.s).ackNow)
 else c.ackNow
def Cn.finS (c:Cn)(now:Int)(s:Sg)(off:Int):Cn :=
 let e:=off+s.s.length
 let d:Cn:=if s.fin=true/\ao c.st=true/\c.ended=false/\c.bx.nx<=e then { c with ended:=true,fend:=e }else c
 if d.reached=true/\d.over=false then({ d with over:=true }.step now 6).ackNow else d
def Cn.process (c:Cn)(now:Int)(s:Sg)(off:Int):Cn×List Sg :=
 let ack:=aD s.ak c.cf.iss
 if c.st=2 then
  if ack<1\/c.next<ack then(c,[c.resetS s.ak])
  else
   let d:=c.step now 4
   let e:=if d.shut=true then d.step now 5 else d
   (((e.acked now s ack).store now s off).finS now s off).push now
 else if c.next<ack then c.ackNow.push now
 else(((c.acked now s ack).store now s off).finS now s off).push now
def Cn.stray (c:Cn)(now:Int)(s:Sg):Cn×List Sg :=
 let ack:=aD s.ak c.cf.iss
 let a:=if cA c.st=true/\s.has=true/\s.syn=false/\c.una<=ack/\ack<=c.next then c.acked now s ack else c
 let b:Cn:=if a.st=9/\s.fin=true then { a with per:=.aft now 60 }else a
 (if 0<bh s then b.ackNow else b).push now
def Cn.greet (c:Cn)(now:Int)(s:Sg):Cn×List Sg :=
 if s.has=true/\aD s.ak c.cf.iss≠1 then(if s.rst=true then(c,[])else(c,[c.resetS s.ak]))
 else if s.rst=true/\s.has=true then(c.finish now 8 184,[])
 else if s.syn=false then(c,[])
 else
  let d:Cn:={ c.meet s with tries:=0 }
  if s.has=false then
   let e:=d.step now 2
   (e.synC,[e.synS])
  else
   let e:Cn:={ d with sc:=d.sc.acked 1 [],tm:=d.tm.acked now 1 }
   ({ e.step now 3 with dl:=ex }.ackNow).push now
def Cn.recvOk (c:Cn)(now:Int)(s:Sg):Cn×List Sg :=
 let off:=c.offset s.sq
 if s.rst=true/\off=c.expected then(c.finish now 8 181,[])
 else if s.rst=true/\c.accepts off (bh s)=false then(c,[])
 else if c.accepts off (bh s)=false then c.stray now s
 else if s.rst=true\/s.syn=true then c.ackNow.push now
 else if s.has=false then(c,[])
 else c.process now s off
def Cn.receive (c:Cn)(now:Int)(s:Sg):Cn×List Sg :=
 if c.st=0 then(c,[])
 else if s.fp≠c.cf.tp\/s.tp≠c.cf.fp then(c,[])
 else if c.st=1 then c.greet now s
 else c.recvOk now s
def Cn.expire (c:Cn):Cn×List Sg :=
 if 0<c.flight then({ c with cg:=c.cg.timeout c.flight,sc:=c.sc.timeout,mark:=c.next },[])
 else if c.unsent=0 then(c,[])
 else(c.freshC (max 1 (min (min c.mss (c.limit-c.next)) c.unsent)),[c.freshS (max 1 (min (min c.mss (c.limit-c.next)) c.unsent))])
def Cn.tickEnd (c:Cn)(now:Int)(l:List Sg):Cn×List Sg :=
 let a:=if c.pend=1/\c.ackT.due now=true then c.ackNow else c
 let b:=a.push now
 (b.1,l++b.2)
def Cn.tick (c:Cn)(now:Int):Cn×List Sg :=
 if c.st=0 then(c,[])
 else if c.st=9/\c.per.due now=true then(c.finish now 9 0,[])
 else if c.dl.due now=true then
  let d:Cn:={ c with tries:=c.tries+1 }
  if 12<d.tries then(d.finish now 9 182,[])
  else
   let t:=d.tm.retr.backoff
   let e:Cn:={ d with tm:=t,dl:=.aft now t.value }
   if cA e.st=true then e.expire.1.tickEnd now e.expire.2
   else(e.synC,[e.synS])
 else c.tickEnd now []
def Cn.refusal (c:Cn):Int:=if c.st=0 then c.failure else if c.shut=false/\(c.st=1\/c.st=2\/c.st=3\/c.st=6)then 0 else 183
def Cn.space (c:Cn):Int:=if c.refusal≠0 then 0 else max 0 (c.cf.keep-c.held.length)
def Cn.sendN (c:Cn)(s:List UInt8):Int:=min s.length c.space
def Cn.send (c:Cn)(now:Int)(s:List UInt8):Cn×List Sg:=if c.refusal≠0 then(c,[])else { c with held:=c.held++s.take (c.sendN s).toNat }.push now
def Cn.recvE (c:Cn)(n:Int):Bool:={ c with bx:=c.bx.take n }.reached&&decide ((c.bx.take n).nx-(c.bx.take n).rd=0)
def Cn.recv (c:Cn)(now n:Int):Cn×List Sg :=
 if n<0 then(c,[])
 else
  let d:Cn:={ c with bx:=c.bx.take n }
  if c.bx.takeS n=[]then(d,[])
  else if d.growsB d.mss=false\/ao d.st=false then(d,[])
  else d.ackNow.push now
def Cn.recvErr (c:Cn)(n:Int):Int:=if n<0 then 2 else if c.bx.takeS n=[]/\c.st=0/\c.recvE n=false then c.failure else 0
def Cn.close (c:Cn)(now:Int):Cn×List Sg :=
 if c.st=0\/c.shut=true then(c,[])
 else
  let d:Cn:={ c with shut:=true }
  if d.st=1 then(d.finish now 5 183,[])
  else if d.st=2 then d.push now
  else(d.step now 5).push now
def Cn.closeE (c:Cn):Int:=if c.st=0\/c.shut=true then 183 else 0
def Cf.okB (c:Cf):Bool :=
 decide ((1<=c.fp/\c.fp<=65535)/\(1<=c.tp/\c.tp<=65535)/\(0<=c.iss/\c.iss<=4294967295)/\(28<=c.mss/\c.mss<=1000)/\(1<=c.room/\c.room<=8192)/\1<=c.keep/\c.keep<=8192)
def cx (now:Int)(c:Cf):Cn :=
 {
  sc:=uj.sent 1,tm:=me.sent now 1,cg:=wI c.mss,held:=[],base:=1,limit:=0,largest:=0,mss:=c.mss,sacks:=false,shut:=false,mark:=0,
  bx:=pY c.room.toNat,irs:=0,room:=c.room,ann:=c.room,ended:=false,fend:=0,over:=false,pend:=0,ackT:=ex,cf:=c,st:=0,err:=0,dl:=.aft now me.value,tries:=0,per:=ex }
def pZ (now:Int)(c:Cf):Cn:=(cx now c).step now 1
def fq (now:Int)(c:Cf):Cn×List Sg:=((pZ now c).synC,[(pZ now c).synS])
def fN (now:Int)(c:Cf)(s:Sg):Cn:=((cx now c).meet s).step now 2
def cO (now:Int)(c:Cf)(s:Sg):Cn×List Sg:=((fN now c s).synC,[(fN now c s).synS])
def aR (c n:Int):Int:=(if c<0 then -(c+1)else c)%n
theorem aj (c n:Int)(hn:1<=n):0<=aR c n/\aR c n<n:=by
 unfold aR;exact⟨Int.emod_nonneg _ (by omega),Int.emod_lt_of_pos _ (by omega)⟩
structure Fl where
 dst:Bool
 due:Int
 held:Bool
 s:Sg
structure Sd where
 c:Cn
 all:List UInt8
 sent:Int
 got:List UInt8
 fin:Bool
 closed:Bool
structure Pr where
 a:Sd
 b:Sd
 wire:List Fl
 now:Int
 fates:List Int
 many:Nat
 log:List Fl
namespace Pr
def sd (p:Pr)(i:Bool):Sd:=match i with | false=>p.a | true=>p.b
def setSd (p:Pr)(i:Bool)(s:Sd):Pr:=match i with | false=>{ p with a:=s } | true=>{ p with b:=s }
def setC (p:Pr)(i:Bool)(c:Cn):Pr:=p.setSd i { p.sd i with c:=c }
def fate (p:Pr):Int:=match p.fates[p.many]? with | some x=>aR x 24 | none=>0
def fl (p:Pr)(i:Bool)(s:Sg):Fl:=⟨!i,p.now+1,false,s⟩
def addW (p:Pr)(f:Fl):List Fl :=
 if p.fate=0 then [f]else if p.fate=1 then []else if p.fate=2 then [f,f]else if p.fate=3 then [{ f with held:=true }]else [{ f with due:=p.now+p.fate-3 }]
def put1 (p:Pr)(i:Bool)(s:Sg):Pr:={ p with many:=p.many+1,log:=p.log++[p.fl i s],wire:=p.wire++p.addW (p.fl i s) }
def put (p:Pr)(i:Bool)(l:List Sg):Pr:=l.foldl (fun q s=>q.put1 i s) p
def readyB (now:Int)(f:Fl):Bool:= !f.held&&decide (f.due<=now)
def due1 (now:Int)(W:List Fl):List Fl:=W.filter (readyB now)
def left1 (now:Int)(W:List Fl):List Fl:=W.filter (fun f=> !readyB now f)
def metB (l:List Fl)(d:Bool):Bool:=l.any fun f=>f.dst==d
def lateB (now:Int)(due:List Fl)(f:Fl):Bool:=f.held&&(metB due f.dst||decide (f.due+30<=now))
def due (p:Pr):List Fl:=due1 p.now p.wire++(left1 p.now p.wire).filter (lateB p.now (due1 p.now p.wire))
def rest (p:Pr):List Fl:=(left1 p.now p.wire).filter fun f=> !lateB p.now (due1 p.now p.wire) f
def recv1 (p:Pr)(f:Fl):Pr:=(p.setC f.dst ((p.sd f.dst).c.receive p.now f.s).1).put f.dst ((p.sd f.dst).c.receive p.now f.s).2
def deliver (p:Pr):Pr:=p.due.foldl recv1 { p with wire:=p.rest }
def tick1 (p:Pr)(i:Bool):Pr:=(p.setC i ((p.sd i).c.tick p.now).1).put i ((p.sd i).c.tick p.now).2
def tick (p:Pr):Pr:=(({ p with now:=p.now+1 }.deliver).tick1 false).tick1 true
def bytes (s:Sd)(n:Int):List UInt8:=(s.all.take (min (s.sent+n) s.all.length).toNat).drop s.sent.toNat
def send (p:Pr)(i:Bool)(n:Int):Pr :=
 let s:=p.sd i
 if s.closed=true\/(s.all.length:Int)<=s.sent then p
 else if s.c.refusal≠0 then p
 else(p.setSd i { s with c:=(s.c.send p.now (bytes s n)).1,sent:=s.sent+s.c.sendN (bytes s n) }).put i (s.c.send p.now (bytes s n)).2
def recv (p:Pr)(i:Bool)(n:Int):Pr :=
 let s:=p.sd i
 if s.c.recvErr n≠0 then p.setC i (s.c.recv p.now n).1
 else(p.setSd i { s with c:=(s.c.recv p.now n).1,got:=s.got++s.c.bx.takeS n,fin:=s.fin||s.c.recvE n }).put i (s.c.recv p.now n).2
def shut (p:Pr)(i:Bool):Pr :=
 let s:=p.sd i
 if s.closed=true then p
 else if s.c.closeE≠0 then p
 else(p.setSd i { s with c:=(s.c.close p.now).1,closed:=true }).put i (s.c.close p.now).2
def viol1 (s o:Sd):Bool :=
 decide (o.sent<s.got.length)||(decide (s.got≠o.all.take (min s.got.length o.all.length))||(s.fin&&(!o.closed||decide ((s.got.length:Int)≠o.sent))))
def viol (p:Pr):Int:=(if viol1 p.a p.b=true then 1 else 0)+(if viol1 p.b p.a=true then 1 else 0)
end Pr
structure Dv where
 side:Int
 kind:Int
 n:Int
 tick:Int
def Dv.i (x:Dv):Bool:=decide (aR x.side 2=1)
namespace Pr
def opD (p:Pr)(x:Dv):Pr :=
 if aR x.kind 8<=2 then p.send x.i (1+aR x.n 200)
 else if aR x.kind 8<=5 then p.recv x.i (1+aR x.n 200)
 else if aR x.kind 8=6/\aR x.n 3=0 then p.shut x.i
 else p
def ticksV:Nat->Pr->Pr×Bool
 | 0,p=>(p,decide (p.viol=0))
 | n+1,p=>if 0<p.tick.viol then(p.tick,false)else ticksV n p.tick
def doD (p:Pr)(x:Dv):Pr×Bool:=(p.opD x).ticksV (aR x.tick 20).toNat
def ticks:Nat->Pr->Pr
 | 0,p=>p
 | n+1,p=>ticks n p.tick
end Pr
structure Rw where
 issA:Int
 issB:Int
 mss:Int
 roomA:Int
 roomB:Int
 keep:Int
def rz:Rw:=⟨0,0,0,0,0,0⟩
def gB (n:Int):Int:=n%4294967296
def eM (x:Rw):Cf:=⟨5000,80,gB x.issA,28+aR x.mss 100,40+aR x.roomA 400,40+aR x.keep 400⟩
def di (x:Rw):Cf:=⟨80,5000,gB x.issB,28+aR x.mss 100,40+aR x.roomB 400,40+aR x.keep 400⟩
def sA (side:Int)(i:Nat):UInt8:=UInt8.ofNat (97+(i*7+i/13+side.toNat*5)%26)
def dJ (side:Int)(n:Nat):List UInt8:=(List.range n).map (sA side)
def x8 (c:Cn)(all:List UInt8):Sd:=⟨c,all,0,[],false,false⟩
def fu (x:Rw):Sg:=(pZ 0 (eM x)).synS
def mp (x:Rw)(fates:List Int)(n m:Nat):Pr :=
 ({ a:=x8 (fq 0 (eM x)).1 (dJ 0 n),b:=x8 (cO 0 (di x) (fu x)).1 (dJ 1 m),wire:=[],now:=0,fates:=fates,many:=0,log:=[] }:Pr).put true (cO 0 (di x) (fu x)).2
def Pr.fin1 (p:Pr)(i:Bool):Pr :=
 let q:=(p.send i 1000).recv i 1000
 if(q.sd i).sent=(q.sd i).all.length/\(q.sd i).c.st≠1 then q.shut i else q
def oT:Pr:=mp rz [] 3 0
def sB:Pr:=oT.tick
def qQ:Pr:=sB.tick
def sC:Pr:=(qQ.send false 3).tick
def ul:Pr:=((sC.recv true 9).shut false).tick
def iR:Pr:=(ul.recv true 9).shut true
def lw:Pr:=Pr.ticks 70 iR
theorem wJ:(decide (oT.a.c.st=1/\oT.b.c.st=2/\sB.a.c.st=3/\qQ.b.c.st=3)&&decide (iR.b.got=[97,104,111])&&iR.b.fin&&decide (iR.b.c.st=8)&&decide (lw.a.c.st=0/\lw.b.c.st=0/\lw.a.c.err=0/\lw.b.c.err=0))=true:=by decide +kernel
end Go.Proofs.YtclkcmidhhfdmaaGreatDoor
