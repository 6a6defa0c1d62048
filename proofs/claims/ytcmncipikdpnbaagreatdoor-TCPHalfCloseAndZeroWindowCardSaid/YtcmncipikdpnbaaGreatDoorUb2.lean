import Derived.Test.YtcmncipikdpnbaaGreatDoorUc
import Derived.Test.YtcmncipikdpnbaaGreatDoorUb1
import Derived.WalkSpells
namespace Go.Proofs.YtcmncipikdpnbaaGreatDoor
def aI (x:Int):Prop:= -9223372036854775808<=x/\x<=9223372036854775807
theorem cH {a b:Int}(h:a=b):Ending.returned a= .returned b:=by rw[h]
structure Cg where
 gi:Int
 win:Int
 EJ:Int
 on:Bool
 pt:Int
def Bd (gi:Int):Cg:=⟨gi,2*gi,65535,false,0⟩
def dt (gi flight:Int):Int:=min (max (flight.tdiv 2) (2*gi)) 65535
def Cg.lost (c:Cg)(flight next:Int):Cg:=if c.on then c else { c with EJ:=dt c.gi flight,win:=dt c.gi flight,on:=true,pt:=next }
def Cg.timeout (c:Cg)(flight:Int):Cg:={ c with EJ:=dt c.gi flight,win:=c.gi,on:=false,pt:=0 }
def Cg.tl (c:Cg)(m:Int):Cg:=if 28<=m/\m<=1024/\m<c.gi then { c with gi:=m }else c
def jI (gi win:Int):Int:=max 1 (gi*gi/win)
def Cg.go (c:Cg)(n fM:Int):Cg :=
 if c.on then(if c.pt<=fM then { c with on:=false,pt:=0,win:=c.EJ }else c)
 else if n<=0 then c
 else if c.win<c.EJ then { c with win:=min (c.win+min n c.gi) 65535 }
 else { c with win:=min (c.win+jI c.gi c.win) 65535 }
def Cg.Ok (c:Cg):Prop:=28<=c.gi/\c.gi<=1024/\28<=c.win/\c.win<=65535/\56<=c.EJ/\c.EJ<=65535/\aI c.pt/\(c.on=false->c.pt=0)
theorem xO {m:Int}(h1:28<=m)(h2:m<=1024):(Bd m).Ok:=by
 unfold Cg.Ok Bd aI;dsimp only;refine⟨h1,h2,?_,?_,?_,?_,⟨?_,?_⟩,fun _=>rfl⟩ <;> omega
theorem qN {m:Int}(f:Int)(h1:28<=m)(h2:m<=1024):56<=dt m f/\dt m f<=65535:=by unfold dt;omega
theorem Cg.Fc {c:Cg}(h:c.Ok)(f:Int){n:Int}(k:aI n):(c.lost f n).Ok:=by
 unfold Cg.lost;split
 ·exact h
 obtain⟨a,b,d,e,l,g,i,j⟩:=h;have:=qN f a b;exact⟨a,b,II,II,this.1,this.2,k,fun h=>by cases h⟩
theorem Cg.F1 {c:Cg}(h:c.Ok)(f:Int):(c.timeout f).Ok:=by
 obtain⟨a,b,d,e,k,g,i,j⟩:=h;have:=qN f a b;exact⟨a,b,a,by unfold Cg.timeout;dsimp only;omega,this.1,this.2,by unfold Cg.timeout aI;dsimp only;omega,fun _=>rfl⟩
theorem Cg.Eu {c:Cg}(h:c.Ok)(m:Int):(c.tl m).Ok:=by
 unfold Cg.tl;split
 ·obtain⟨a,b,d,e,k,g,i,j⟩:=h;rename_i f;exact⟨f.1,f.2.1,d,e,k,g,i,j⟩
 exact h
theorem kh {m w:Int}(h1:28<=m)(h2:m<=1024)(e:28<=w):1<=jI m w/\jI m w<=1048576/\0<=m*m/\m*m<=1048576/\0<=m*m/w/\m*m/w<=1048576:=by
 have a:0<=m*m:=MS O O;have b:m*m<=1024*1024:=Int.mul_le_mul h2 h2 O O;have c:0<=m*m/w:=Int.ediv_nonneg a O;have d:m*m/w<=m*m:=Int.ediv_le_self _ a;unfold jI;omega
theorem Cg.Du {c:Cg}(h:c.Ok)(n fM:Int):(c.go n fM).Ok:=by
 obtain⟨a,b,d,e,f,g,i,j⟩:=h;unfold Cg.go;split
 ·split
  ·exact⟨a,b,II,II,f,g,by unfold aI;dsimp only;omega,fun _=>rfl⟩
  exact⟨a,b,d,e,f,g,i,j⟩
 split
 ·exact⟨a,b,d,e,f,g,i,j⟩
 split
 ·exact⟨a,b,II,II,f,g,i,j⟩
 obtain⟨k,l,_⟩:=kh a b d;exact⟨a,b,II,II,f,g,i,j⟩
def aw (a n:Int):Int:=(a+n)%4294967296
def aE (a b:Int):Int:=(a-b+2147483648)%4294967296-2147483648
structure Al where
 set:Bool
 since:Int
 ticks:Int
def eG:Al:=⟨false,0,0⟩
def Al.wA (now t:Int):Al:=⟨true,now,t⟩
def Al.due (a:Al)(now:Int):Bool:=a.set&&(decide (a.since<=now)&&decide (a.ticks<=now-a.since))
structure Cf where
 fp:Int
 tp:Int
 kc:Int
 gi:Int
 room:Int
 keep:Int
structure Cn where
 sc:Sc
 tm:Tm
 cg:Cg
 held:List UInt8
 base:Int
 limit:Int
 largest:Int
 gi:Int
 iu:Bool
 shut:Bool
 mark:Int
 bx:Bx
 tq:Int
 room:Int
 ann:Int
 ended:Bool
 ox:Int
 over:Bool
 pend:Int
 pd:Al
 cf:Cf
 st:Int
 err:Int
 dl:Al
 tries:Int
 per:Al
def gb (s e:Int):Option Int :=
 if s=0 then(if e=1 then some 1 else if e=2 then some 2 else none)
 else if e=8\/e=9 then some 0
 else if s=1 then(if e=3 then some 3 else if e=2 then some 2 else if e=5 then some 0 else none)
 else if s=2 then(if e=4 then some 3 else if e=5 then some 4 else if e=6 then some 6 else none)
 else if s=3 then(if e=5 then some 4 else if e=6 then some 6 else none)
 else if s=4 then(if e=7 then some 5 else if e=6 then some 7 else none)
 else if s=5 then(if e=6 then some 9 else none)
 else if s=6 then(if e=5 then some 8 else none)
 else if s=7 then(if e=7 then some 9 else none)
 else if s=8 then(if e=7 then some 0 else none)
 else none
def Cn.step (c:Cn)(now e:Int):Cn :=
 match gb c.st e with
 | none=>c
 | some n=>if n=9 then { c with per:=.wA now 60,st:=n }else { c with st:=n }
def Cn.finish (c:Cn)(now e err:Int):Cn:={ c.step now e with err:=err }
def Cn.failure (c:Cn):Int:=if c.err≠0 then c.err else 183
def bU (s:Int):Bool:=decide (3<=s/\s<=9)
def aV (s:Int):Bool:=decide (s=3\/s=4\/s=5)
def ae (s:Int):Bool:=decide (s=3\/s=4\/s=6\/s=7\/s=8)
def Cn.fM (c:Cn):Int:=c.sc.fM
def Cn.next (c:Cn):Int:=c.sc.next
def Cn.flight (c:Cn):Int:=c.sc.next-c.sc.fM
def Cn.last (c:Cn):Int:=c.base+c.held.length
def Cn.iq (c:Cn):Int:=max 0 (c.last-c.next)
def mC (held:List UInt8)(base lo hi:Int):List UInt8 :=
 (held.take (min (max (hi-base) (min (max (lo-base) 0) held.length)) held.length).toNat).drop (min (max (lo-base) 0) held.length).toNat
def Cn.data (c:Cn)(lo hi:Int):List UInt8:=mC c.held c.base lo hi
def dL (held:List UInt8)(base fM:Int):Int:=min (max (fM-base) 0) held.length
def Cn.drop (c:Cn)(fM:Int):Cn:={ c with held:=c.held.drop (dL c.held c.base fM).toNat,base:=c.base+dL c.held c.base fM }
def Cn.announce (c:Cn)(ack win:Int):Cn:={ c with limit:=max c.limit (ack+win),largest:=max c.largest win }
def Cn.resize (c:Cn)(m:Int):Cn:={ c with gi:=min c.gi (if m=0 then 28 else m),cg:=Bd (min c.gi (if m=0 then 28 else m)) }
def dV (iu:Bool)(next a:Int)(bl:List Sp):List Sp :=
 (bl.map fun b=>(aE b.1 a,aE b.2 a)).filter fun x=>iu&&decide (1<=x.1/\x.1<x.2/\x.2<=next)
def jJ (ack:Int):List Sp->Int
 | []=>0
 | x::l=>max 0 (min x.2 ack-x.1)+jJ ack l
def Cn.Ct (c:Cn)(ack:Int)(bl:List Sp):Int:=c.sc.A2 ack (dV c.iu c.next c.cf.kc bl)-(ack-c.fM-jJ ack c.sc.sk)
def Cn.report (c:Cn)(ack:Int)(bl:List Sp):Cn:={ c with sc:=c.sc.go ack (dV c.iu c.next c.cf.kc bl) }
def Cn.offset (c:Cn)(n:Int):Int:=aE n (aw c.tq 1)
def Cn.number (c:Cn)(off:Int):Int:=aw c.tq (off+1)
def Cn.reached (c:Cn):Bool:=c.ended&&decide (c.bx.nx=c.ox)
def Cn.expected (c:Cn):Int:=if c.reached=true then c.bx.nx+1 else c.bx.nx
def Cn.most (c:Cn):Int:=c.bx.rd+c.bx.ring.length
def Cn.tE (c:Cn)(m:Int):Bool:=decide (c.ann<c.most/\min m (c.room/2)<=c.most-c.ann)
def Cn.raised (c:Cn)(m:Int):Int:=if c.tE m=true then c.most else max c.ann c.bx.nx
def Cn.accepts (c:Cn)(off n:Int):Bool :=
 if n=0/\off=c.expected then true
 else if c.ann-c.bx.nx<=0\/c.expected+(c.ann-c.bx.nx)<=off then false
 else if n=0 then decide (c.expected<=off)else decide (c.expected<off+n)
def Cn.gB (c:Cn):Cn:={ c with pend:=2 }
def Cn.rl (c:Cn)(now:Int):Cn:=if c.pend≠0 then { c with pend:=2 }else { c with pend:=1,pd:=.wA now 2 }
def n8 (ended:Bool)(ox off:Int)(s:List UInt8):List UInt8 :=
 (if ended=true then s.take (min (max (ox-off) 0) s.length).toNat else s).drop (if off<0 then(min (-off) (if ended=true then s.take (min (max (ox-off) 0) s.length).toNat else s).length).toNat else 0)
def Cn.uf (c:Cn)(off:Int)(s:List UInt8):Bx:=if n8 c.ended c.ox off s=[]then c.bx else c.bx.put (max off 0) (n8 c.ended c.ox off s)
def Cn.insert (c:Cn)(off:Int)(s:List UInt8):Cn:={ c with bx:=c.uf off s }
def Cn.EM (c:Cn)(off:Int)(s:List UInt8):Bool:=decide ((c.uf off s).nx≠c.bx.nx/\c.bx.bl=[]/\(c.uf off s).bl=[])
def dH:Sg:=⟨0,0,0,0,false,false,false,false,0,0,false,[],[]⟩
def Cn.address (c:Cn)(s:Sg)(off:Int):Sg:={ s with fp:=c.cf.fp,tp:=c.cf.tp,sq:=aw c.cf.kc off,win:=if s.syn=true then c.room else s.win }
def Cn.qG (c:Cn)(syn:Bool):Cn:=if syn=true then { c with pend:=0 }else { c with pend:=0,ann:=c.raised c.gi }
def Cn.qE (c:Cn)(s:Sg)(off:Int):Sg :=
 if s.syn=true then { c.address s off with has:=true,ak:=c.number c.expected }
 else { c.address s off with has:=true,ak:=c.number c.expected,win:=c.raised c.gi-c.bx.nx,bl:=if s.s=[]/\c.iu=true then s.bl++c.bx.rep.map (fun b=>(c.number b.1,c.number b.2))else s.bl }
def Cn.v6 (c:Cn):Cn:=if c.st=1 then { c with ann:=c.room }else { c with ann:=c.room,pend:=0 }
def Cn.qI (c:Cn):Sg:=if c.st=1 then c.address { dH with syn:=true,gi:=c.cf.gi,iu:=true } 0 else c.qE { dH with syn:=true,gi:=c.cf.gi,iu:=true } 0
def Cn.qH (c:Cn)(n:Int):Sg:={ dH with fp:=c.cf.fp,tp:=c.cf.tp,sq:=n,qa:=true }
def Cn.kZ (c:Cn)(lo hi:Int):Sg:=c.qE { dH with s:=c.data lo hi,fin:=c.shut&&decide (c.last<hi) } lo
def Cn.qn (c:Cn):Cn:=c.qG false
def Cn.kn (c:Cn)(n:Int):Int:=if c.shut=true/\c.next+n=c.last then c.next+n+1 else c.next+n
def Cn.kl (c:Cn)(n:Int):Sg:=c.kZ c.next (c.kn n)
def Cn.nY (c:Cn)(n:Int):Cn:={ c.qn with sc:=c.sc.sent (c.kn n) }
def Cn.allowed (c:Cn):Int :=
 if min (min c.iq c.gi) (c.limit-c.next)<=0 then 0
 else if c.sc.pipe c.gi≠0/\c.cg.win<c.sc.pipe c.gi+min (min c.iq c.gi) (c.limit-c.next)then 0
 else if min (min c.iq c.gi) (c.limit-c.next)=c.gi\/(min (min c.iq c.gi) (c.limit-c.next)=c.iq/\(c.fM=c.next\/c.shut=true))\/c.largest<=2*min (min c.iq c.gi) (c.limit-c.next)then min (min c.iq c.gi) (c.limit-c.next)
 else 0
def aK (m:Int)(x:Sp):Sp:=(x.1,min x.2 (x.1+m))
def n7:Nat->Cn->List Sg->Cn×List Sg
 | 0,c,l=>(c,l)
 | n+1,c,l =>
  if c.sc.pipe c.gi<c.cg.win then
   match c.sc.lost c.gi with
   | []=>(c,l)
   | x::_ =>
    if c.sc.DY (aK c.gi x)=0 then n7 n { c.qn with sc:=c.sc.ret (aK c.gi x),tm:=c.tm.og } (l++[c.kZ x.1 (aK c.gi x).2])
    else({ c.qn with sc:=c.sc.ret (aK c.gi x) },l)
  else(c,l)
def Cn.out (c:Cn)(now n:Int):Cn:={ c.nY n with tm:=c.tm.sent now (c.nY n).next }
def kr (now:Int):Nat->Cn->List Sg->Cn×List Sg
 | 0,c,l=>(c,l)
 | k+1,c,l=>if 0<c.allowed then kr now k (c.out now c.allowed) (l++[c.kl c.allowed])else(c,l)
def ug (now:Int)(c:Cn)(l:List Sg):Cn×List Sg:=if c.shut=true/\c.next=c.last then(c.out now 0,l++[c.kl 0])else(c,l)
def Cn.o6 (c:Cn)(now:Int):Cn×List Sg :=
 let a:=n7 (c.flight.toNat+1) c []
 let b:=kr now (a.1.iq.toNat+1) a.1 a.2
 ug now b.1 b.2
def Cn.qD (c:Cn)(l:List Sg):Cn×List Sg:=if c.pend=2 then(c.qG false,l++[c.qE dH c.next])else(c,l)
def Cn.lp (c:Cn)(now:Int):Cn :=
 if c.flight<=0/\¬(ae c.st=true/\0<c.iq)then { c with dl:=eG }
 else if c.dl.set=true then c else { c with dl:=.wA now c.tm.value }
def Cn.push (c:Cn)(now:Int):Cn×List Sg :=
 if c.st=0 then(c,[])
 else
  let a:=if ae c.st=true then c.o6 now else(c,[])
  let b:=a.1.qD a.2
  (b.1.lp now,b.2)
def Cn.meet (c:Cn)(s:Sg):Cn:=({ c with tq:=s.sq,iu:=s.iu }.announce 1 s.win).resize s.gi
def aj (s:Sg):Int:=s.s.length+(if s.syn=true then 1 else 0)+(if s.fin=true then 1 else 0)
def Cn.go (c:Cn)(now:Int)(s:Sg)(ack:Int):Cn :=
 if ack<c.fM then { c with tries:=0 }
 else
  let flight:=c.flight
  let fin:=c.last
  let fM:=c.fM
  let f:=c.Ct ack s.bl
  let r:Cn:={ c with tries:=0 }.report ack s.bl
  -- the steps behind the report compare with the old fM
  let a:Cn:=if fM<ack then
    let d:Cn:={ r with dl:=eG,tm:=r.tm.go now ack }
    let e:Cn:=if 0<ack-max fM 1 then { d with cg:=d.cg.go (ack-max fM 1) ack }else d
    e.drop ack
   else r
  let b:=a.announce ack s.win
  let d:Cn:=if 0<f/\b.mark<=ack/\b.sc.lost b.gi≠[]then { b with cg:=b.cg.lost flight b.next }else b
  if fM<=fin/\fin<ack then d.step now 7 else d
def Cn.store (c:Cn)(now:Int)(s:Sg)(off:Int):Cn :=
 if s.s=[]then c
 else if aV c.st=true then(if c.EM off s.s=true then(c.insert off s.s).rl now else(c.insert off s.s).gB)
 else c.gB
def Cn.qb (c:Cn)(now:Int)(s:Sg)(off:Int):Cn :=
 let e:=off+s.s.length
 let d:Cn:=if s.fin=true/\aV c.st=true/\c.ended=false/\c.bx.nx<=e then { c with ended:=true,ox:=e }else c
 if d.reached=true/\d.over=false then({ d with over:=true }.step now 6).gB else d
def Cn.process (c:Cn)(now:Int)(s:Sg)(off:Int):Cn×List Sg :=
 let ack:=aE s.ak c.cf.kc
 if c.st=2 then
  if ack<1\/c.next<ack then(c,[c.qH s.ak])
  else
   let d:=c.step now 4
   let e:=if d.shut=true then d.step now 5 else d
   (((e.go now s ack).store now s off).qb now s off).push now
 else if c.next<ack then c.gB.push now
 else(((c.go now s ack).store now s off).qb now s off).push now
def Cn.stray (c:Cn)(now:Int)(s:Sg):Cn×List Sg :=
 let ack:=aE s.ak c.cf.kc
 let a:=if bU c.st=true/\s.has=true/\s.syn=false/\c.fM<=ack/\ack<=c.next then c.go now s ack else c
 let b:Cn:=if a.st=9/\s.fin=true then { a with per:=.wA now 60 }else a
 (if 0<aj s then b.gB else b).push now
def Cn.xs (c:Cn)(now:Int)(s:Sg):Cn×List Sg :=
 if s.has=true/\aE s.ak c.cf.kc≠1 then(if s.qa=true then(c,[])else(c,[c.qH s.ak]))
 else if s.qa=true/\s.has=true then(c.finish now 8 184,[])
 else if s.syn=false then(c,[])
 else
  let d:Cn:={ c.meet s with tries:=0 }
  if s.has=false then
   let e:=d.step now 2
   (e.v6,[e.qI])
  else
   let e:Cn:={ d with sc:=d.sc.go 1 [],tm:=d.tm.go now 1 }
   ({ e.step now 3 with dl:=eG }.gB).push now
def Cn.ys (c:Cn)(now:Int)(s:Sg):Cn×List Sg :=
 let off:=c.offset s.sq
 if s.qa=true/\off=c.expected then(c.finish now 8 181,[])
 else if s.qa=true/\c.accepts off (aj s)=false then(c,[])
 else if c.accepts off (aj s)=false then c.stray now s
 else if s.qa=true\/s.syn=true then c.gB.push now
 else if s.has=false then(c,[])
 else c.process now s off
def Cn.receive (c:Cn)(now:Int)(s:Sg):Cn×List Sg :=
 if c.st=0 then(c,[])
 else if s.fp≠c.cf.tp\/s.tp≠c.cf.fp then(c,[])
 else if c.st=1 then c.xs now s
 else c.ys now s
def Cn.expire (c:Cn):Cn×List Sg :=
 if 0<c.flight then({ c with cg:=c.cg.timeout c.flight,sc:=c.sc.timeout,mark:=c.next },[])
 else if c.iq=0 then(c,[])
 else(c.nY (max 1 (min (min c.gi (c.limit-c.next)) c.iq)),[c.kl (max 1 (min (min c.gi (c.limit-c.next)) c.iq))])
def Cn.oi (c:Cn)(now:Int)(l:List Sg):Cn×List Sg :=
 let a:=if c.pend=1/\c.pd.due now=true then c.gB else c
 let b:=a.push now
 (b.1,l++b.2)
def Cn.tick (c:Cn)(now:Int):Cn×List Sg :=
 if c.st=0 then(c,[])
 else if c.st=9/\c.per.due now=true then(c.finish now 9 0,[])
 else if c.dl.due now=true then
  let d:Cn:={ c with tries:=c.tries+1 }
  if 12<d.tries then(d.finish now 9 182,[])
  else
   let t:=d.tm.og.ka
   let e:Cn:={ d with tm:=t,dl:=.wA now t.value }
   if bU e.st=true then e.expire.1.oi now e.expire.2
   else(e.v6,[e.qI])
 else c.oi now []
def Cn.refusal (c:Cn):Int:=if c.st=0 then c.failure else if c.shut=false/\(c.st=1\/c.st=2\/c.st=3\/c.st=6)then 0 else 183
def Cn.space (c:Cn):Int:=if c.refusal≠0 then 0 else max 0 (c.cf.keep-c.held.length)
def Cn.nX (c:Cn)(s:List UInt8):Int:=min s.length c.space
def Cn.send (c:Cn)(now:Int)(s:List UInt8):Cn×List Sg:=if c.refusal≠0 then(c,[])else { c with held:=c.held++s.take (c.nX s).toNat }.push now
def Cn.qF (c:Cn)(n:Int):Bool:={ c with bx:=c.bx.take n }.reached&&decide ((c.bx.take n).nx-(c.bx.take n).rd=0)
def Cn.recv (c:Cn)(now n:Int):Cn×List Sg :=
 if n<0 then(c,[])
 else
  let d:Cn:={ c with bx:=c.bx.take n }
  if c.bx.nB n=[]then(d,[])
  else if d.tE d.gi=false\/aV d.st=false then(d,[])
  else d.gB.push now
def Cn.nF (c:Cn)(n:Int):Int:=if n<0 then 2 else if c.bx.nB n=[]/\c.st=0/\c.qF n=false then c.failure else 0
def Cn.close (c:Cn)(now:Int):Cn×List Sg :=
 if c.st=0\/c.shut=true then(c,[])
 else
  let d:Cn:={ c with shut:=true }
  if d.st=1 then(d.finish now 5 183,[])
  else if d.st=2 then d.push now
  else(d.step now 5).push now
def Cn.te (c:Cn):Int:=if c.st=0\/c.shut=true then 183 else 0
def Cn.tl (c:Cn)(now m:Int):Cn×List Sg :=
 if c.st=0\/m<28\/c.gi<=m then(c,[])
 else
  let d:Cn:={ c with gi:=m,cg:=c.cg.tl m }
  if bU d.st=true then(if 0<d.flight then { d with sc:=d.sc.timeout,mark:=d.next }else d).push now
  else(d,[])
def Cf.okB (c:Cf):Bool :=
 decide ((1<=c.fp/\c.fp<=65535)/\(1<=c.tp/\c.tp<=65535)/\(0<=c.kc/\c.kc<=4294967295)/\(28<=c.gi/\c.gi<=1000)/\(1<=c.room/\c.room<=8192)/\1<=c.keep/\c.keep<=8192)
def db (now:Int)(c:Cf):Cn :=
 {
  sc:=AK.sent 1,tm:=qJ.sent now 1,cg:=Bd c.gi,held:=[],base:=1,limit:=0,largest:=0,gi:=c.gi,iu:=false,shut:=false,mark:=0,
  bx:=nZ c.room.toNat,tq:=0,room:=c.room,ann:=c.room,ended:=false,ox:=0,over:=false,pend:=0,pd:=eG,cf:=c,st:=0,err:=0,dl:=.wA now qJ.value,tries:=0,per:=eG }
def tx (now:Int)(c:Cf):Cn:=(db now c).step now 1
def gE (now:Int)(c:Cf):Cn×List Sg:=((tx now c).v6,[(tx now c).qI])
def fP (now:Int)(c:Cf)(s:Sg):Cn:=((db now c).meet s).step now 2
def cZ (now:Int)(c:Cf)(s:Sg):Cn×List Sg:=((fP now c s).v6,[(fP now c s).qI])
def aO (c n:Int):Int:=(if c<0 then -(c+1)else c)%n
theorem ah (c n:Int)(a:1<=n):0<=aO c n/\aO c n<n:=by
 unfold aO;exact⟨Int.emod_nonneg _ O,Int.emod_lt_of_pos _ O⟩
structure Fl where
 dst:Bool
 due:Int
 held:Bool
 s:Sg
structure Sd where
 c:Cn
 all:List UInt8
 sent:Int
 got:List UInt8
 fin:Bool
 closed:Bool
structure Pr where
 a:Sd
 b:Sd
 wire:List Fl
 now:Int
 kq:List Int
 many:Nat
 log:List Fl
namespace Pr
def sd (p:Pr)(i:Bool):Sd:=match i with | false=>p.a | true=>p.b
def kd (p:Pr)(i:Bool)(s:Sd):Pr:=match i with | false=>{ p with a:=s } | true=>{ p with b:=s }
def ro (p:Pr)(i:Bool)(c:Cn):Pr:=p.kd i { p.sd i with c:=c }
def wB (p:Pr):Int:=match p.kq[p.many]? with | some x=>aO x 24 | none=>0
def fl (p:Pr)(i:Bool)(s:Sg):Fl:=⟨!i,p.now+1,false,s⟩
def AA (p:Pr)(f:Fl):List Fl :=
 if p.wB=0 then [f]else if p.wB=1 then []else if p.wB=2 then [f,f]else if p.wB=3 then [{ f with held:=true }]else [{ f with due:=p.now+p.wB-3 }]
def tt (p:Pr)(i:Bool)(s:Sg):Pr:={ p with many:=p.many+1,log:=p.log++[p.fl i s],wire:=p.wire++p.AA (p.fl i s) }
def put (p:Pr)(i:Bool)(l:List Sg):Pr:=l.foldl (fun q s=>q.tt i s) p
def tD (now:Int)(f:Fl):Bool:= !f.held&&decide (f.due<=now)
def El (now:Int)(W:List Fl):List Fl:=W.filter (tD now)
def Dm (now:Int)(W:List Fl):List Fl:=W.filter (fun f=> !tD now f)
def GD (l:List Fl)(d:Bool):Bool:=l.any fun f=>f.dst==d
def v7 (now:Int)(due:List Fl)(f:Fl):Bool:=f.held&&(GD due f.dst||decide (f.due+30<=now))
def due (p:Pr):List Fl:=El p.now p.wire++(Dm p.now p.wire).filter (v7 p.now (El p.now p.wire))
def rest (p:Pr):List Fl:=(Dm p.now p.wire).filter fun f=> !v7 p.now (El p.now p.wire) f
def ke (p:Pr)(f:Fl):Pr:=(p.ro f.dst ((p.sd f.dst).c.receive p.now f.s).1).put f.dst ((p.sd f.dst).c.receive p.now f.s).2
def deliver (p:Pr):Pr:=p.due.foldl ke { p with wire:=p.rest }
def ki (p:Pr)(i:Bool):Pr:=(p.ro i ((p.sd i).c.tick p.now).1).put i ((p.sd i).c.tick p.now).2
def tick (p:Pr):Pr:=(({ p with now:=p.now+1 }.deliver).ki false).ki true
def bytes (s:Sd)(n:Int):List UInt8:=(s.all.take (min (s.sent+n) s.all.length).toNat).drop s.sent.toNat
def send (p:Pr)(i:Bool)(n:Int):Pr :=
 let s:=p.sd i
 if s.closed=true\/(s.all.length:Int)<=s.sent then p
 else if s.c.refusal≠0 then p
 else(p.kd i { s with c:=(s.c.send p.now (bytes s n)).1,sent:=s.sent+s.c.nX (bytes s n) }).put i (s.c.send p.now (bytes s n)).2
def recv (p:Pr)(i:Bool)(n:Int):Pr :=
 let s:=p.sd i
 if s.c.nF n≠0 then p.ro i (s.c.recv p.now n).1
 else(p.kd i { s with c:=(s.c.recv p.now n).1,got:=s.got++s.c.bx.nB n,fin:=s.fin||s.c.qF n }).put i (s.c.recv p.now n).2
def shut (p:Pr)(i:Bool):Pr :=
 let s:=p.sd i
 if s.closed=true then p
 else if s.c.te≠0 then p
 else(p.kd i { s with c:=(s.c.close p.now).1,closed:=true }).put i (s.c.close p.now).2
def AB (s o:Sd):Bool :=
 decide (o.sent<s.got.length)||(decide (s.got≠o.all.take (min s.got.length o.all.length))||(s.fin&&(!o.closed||decide ((s.got.length:Int)≠o.sent))))
def EC (p:Pr):Int:=(if AB p.a p.b=true then 1 else 0)+(if AB p.b p.a=true then 1 else 0)
end Pr
structure Dv where
 side:Int
 kind:Int
 n:Int
 tick:Int
def Dv.i (x:Dv):Bool:=decide (aO x.side 2=1)
namespace Pr
def E5:Nat->Pr->Pr×Bool
 | 0,p=>(p,decide (p.EC=0))
 | n+1,p=>if 0<p.tick.EC then(p.tick,false)else E5 n p.tick
def ticks:Nat->Pr->Pr
 | 0,p=>p
 | n+1,p=>ticks n p.tick
end Pr
structure Rw where
 Dc:Int
 DZ:Int
 gi:Int
 sw:Int
 rp:Int
 keep:Int
def xP:Rw:=⟨0,0,0,0,0,0⟩
def ck (n:Int):Int:=n%4294967296
def ej (x:Rw):Cf:=⟨5000,80,ck x.Dc,28+aO x.gi 100,40+aO x.sw 400,40+aO x.keep 400⟩
def eH (x:Rw):Cf:=⟨80,5000,ck x.DZ,28+aO x.gi 100,40+aO x.rp 400,40+aO x.keep 400⟩
def xQ (a:Int)(i:Nat):UInt8:=UInt8.ofNat (97+(i*7+i/13+a.toNat*5)%26)
def dW (a:Int)(n:Nat):List UInt8:=(List.range n).map (xQ a)
def Cm (c:Cn)(all:List UInt8):Sd:=⟨c,all,0,[],false,false⟩
def gG (x:Rw):Sg:=(tx 0 (ej x)).qI
def eN (x:Rw)(kq:List Int)(n m:Nat):Pr :=
 ({ a:=Cm (gE 0 (ej x)).1 (dW 0 n),b:=Cm (cZ 0 (eH x) (gG x)).1 (dW 1 m),wire:=[],now:=0,kq:=kq,many:=0,log:=[] }:Pr).put true (cZ 0 (eH x) (gG x)).2
def Pr.mR (p:Pr)(i:Bool):Pr :=
 let q:=(p.send i 1000).recv i 1000
 if(q.sd i).sent=(q.sd i).all.length/\(q.sd i).c.st≠1 then q.shut i else q
def Pr.Dn (s o:Sd):Bool:=s.fin&&decide (s.got.length=o.all.length)
def Pr.zx (p:Pr):Pr×Bool :=
 let q:=p.mR false
 let s:=(p.send false 1000).recv false 1000
 let r:=q.mR true
 let t:=(q.send true 1000).recv true 1000
 (r,Pr.Dn (s.sd false) s.b&&Pr.Dn (t.sd true) t.a)
def rz:Pr:=eN xP [] 3 0
def xR:Pr:=rz.tick
def uq:Pr:=xR.tick
def xS:Pr:=(uq.send false 3).tick
def AM:Pr:=((xS.recv true 9).shut false).tick
def je:Pr:=(AM.recv true 9).shut true
def ol:Pr:=Pr.ticks 70 je
theorem Be:(decide (rz.a.c.st=1/\rz.b.c.st=2/\xR.a.c.st=3/\uq.b.c.st=3)&&decide (je.b.got=[97,104,111])&&je.b.fin&&decide (je.b.c.st=8)&&decide (ol.a.c.st=0/\ol.b.c.st=0/\ol.a.c.err=0/\ol.b.c.err=0))=true:=by decide +kernel
end Go.Proofs.YtcmncipikdpnbaaGreatDoor
