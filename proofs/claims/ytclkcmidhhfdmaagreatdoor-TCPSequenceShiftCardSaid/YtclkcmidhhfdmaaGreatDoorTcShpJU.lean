import Derived.Test.YtclkcmidhhfdmaaGreatDoorUb36
import Derived.Deep.LoopGhost
import Derived.BigQuiet
import Derived.Deep.CutBlock
import Derived.Deep.DeepCutAuto
namespace Go.Proofs.YtclkcmidhhfdmaaGreatDoor
open Lib (hid)
def mK (now ack una:Int)(r:Cn):Cn :=
 if una<ack then
  let d:Cn:={ r with dl:=eO,tm:=r.tm.acked now ack }
  let e:Cn:=if 0<ack-max una 1 then { d with cg:=d.cg.acked (ack-max una 1) ack }else d
  e.drop ack
 else r
def js (ack win sacked flight:Int)(a:Cn):Cn :=
 let b:=a.announce ack win
 if 0<sacked/\b.mark<=ack/\b.sc.lost b.mss≠[]then { b with cg:=b.cg.lost flight b.next }else b
theorem jE (c:Cn)(now:Int)(s:Sg)(ack:Int):c.acked now s ack =
 if ack<c.una then { c with tries:=0 }
 else if c.una<=c.last/\c.last<ack then(js ack s.win (c.repN ack s.bl) c.flight (mK now ack c.una (({ c with tries:=0 }:Cn).report ack s.bl))).step now 7
 else js ack s.win (c.repN ack s.bl) c.flight (mK now ack c.una (({ c with tries:=0 }:Cn).report ack s.bl)):=rfl
theorem dZ (c:Cn)(y:Bool):(c.ackC y).irs=c.irs/\(c.ackC y).cf=c.cf:=by unfold Cn.ackC;split <;> exact⟨rfl,rfl⟩
theorem jF (c:Cn)(now:Int):c.pushD now=finL now (sizeL now ((lostL (c.flight.toNat+1) c []).1.unsent.toNat+1) (lostL (c.flight.toNat+1) c []).1 (lostL (c.flight.toNat+1) c []).2).1 (sizeL now ((lostL (c.flight.toNat+1) c []).1.unsent.toNat+1) (lostL (c.flight.toNat+1) c []).1 (lostL (c.flight.toNat+1) c []).2).2:=rfl
theorem kJ (c:Cn)(now:Int):c.push now=if c.st=0 then(c,[])else(((if aq c.st=true then c.pushD now else(c,[])).1.pushA (if aq c.st=true then c.pushD now else(c,[])).2).1.pushT now,((if aq c.st=true then c.pushD now else(c,[])).1.pushA (if aq c.st=true then c.pushD now else(c,[])).2).2):=rfl
theorem bs (c:Cn)(now e:Int):(c.step now e).cf=c.cf:=by unfold Cn.step;split;rfl;split <;> rfl
theorem px (now ack una:Int)(r:Cn):(mK now ack una r).cf=r.cf:=by unfold mK;split;dsimp only;split <;> rfl;rfl
theorem py (ack win sacked flight:Int)(r:Cn):(js ack win sacked flight r).cf=r.cf:=by unfold js;dsimp only;split <;> rfl
theorem fu (c:Cn)(now:Int)(s:Sg)(ack:Int):(c.acked now s ack).cf=c.cf:=by
 rw[jE];split
 ·rfl
 split
 ·rw[bs,py,px];rfl
 rw[py,px];rfl
theorem jt (c:Cn)(now:Int)(s:Sg)(off:Int):(c.store now s off).cf=c.cf:=by
 unfold Cn.store;split
 ·rfl
 split
 ·split
  ·unfold Cn.ackSoon;split <;> rfl
  rfl
 rfl
theorem kz (c:Cn)(now:Int)(s:Sg)(off:Int):(c.finS now s off).cf=c.cf:=by
 unfold Cn.finS;dsimp only;have h1:(if s.fin=true/\aT c.st=true/\c.ended=false/\c.bx.nx<=off+s.s.length then { c with ended:=true,fend:=off+s.s.length }else c).cf=c.cf:=by split <;> rfl
 generalize (if s.fin=true/\aT c.st=true/\c.ended=false/\c.bx.nx<=off+s.s.length then { c with ended:=true,fend:=off+s.s.length }else c)=d at h1|-;split
 ·rw[<-h1];exact bs { d with over:=true } now 6
 exact h1
def wv (c:Cn)(s:Sg):Cn:={ c.meet s with tries:=0 }
def ww (d:Cn)(now:Int):Cn:={ ({ d with sc:=d.sc.acked 1 [],tm:=d.tm.acked now 1 }:Cn).step now 3 with dl:=eO }
theorem jG (c:Cn)(now:Int)(s:Sg):c.greet now s=if s.has=true/\aA s.ak c.cf.iss≠1 then(if s.rst=true then(c,[])else(c,[c.resetS s.ak]))else if s.rst=true/\s.has=true then(c.finish now 8 184,[])else if s.syn=false then(c,[])else if s.has=false then(((wv c s).step now 2).synC,[((wv c s).step now 2).synS])else(ww (wv c s) now).ackNow.push now:=rfl
section
open Go.RowKit Go.Shelf
def uG (a n:Int):Int:=bY (bY a+bY n)
def gb (a b:Int):Int:=bY (bY a-bY b)
theorem iW (n:Int):0<=bY n/\bY n<4294967296:=by unfold bY;omega
theorem jI (a n:Int)(w:World)(ha:aG a)(hn:aG n) :
  Calls Tryz.prog 24 #[.int .i64 a,.int .i64 n] w fun e w'=>e= .returned (.int .i64 (gb a n))/\w=w':=by
 have HV:=hid (show bY (bY a-bY n)=gb a n from rfl);have b1:=iW a;have b2:=iW n;obtain⟨x,hx⟩:∃x,x=bY a:=⟨_,rfl⟩;obtain⟨y,hy⟩:∃y,y=bY n:=⟨_,rfl⟩;have HX:=hid hx;have HY:=hid hy;rw[<-hx]at b1 HV;rw[<-hy]at b2 HV;clear hx hy;obtain⟨b3,b4⟩:=b1;obtain⟨b5,b6⟩:=b2
 go_enter Tryz.func24,Tryz.ntmps24
 go_wp2_with fail;refine(dF a _ ha).mono ?_;rintro e w1⟨rfl,rfl⟩;rw[<-HX.o];go_wp2_with fail;refine(dF n _ hn).mono ?_;rintro e w1⟨rfl,rfl⟩;rw[<-HY.o];go_wp2_with fail;refine(dF (x-y) _ (by unfold aG;omega)).mono ?_;rintro e w1⟨rfl,rfl⟩;rw[HV.o];go_wp2;go_ret;exact⟨rfl,rfl⟩
end
def rel (n a:Int):Int:=(n-a)%4294967296
theorem ju (a n:Int):rel (ar a n) a=ar 0 n:=by unfold rel ar;omega
theorem iJ (x a:Int):aA (rel x a) 0=aA x a:=by unfold aA rel;omega
theorem yr (x b:Int):aA (rel x b) (ar 0 1)=aA x (ar b 1):=by unfold aA rel ar;omega
def Cn.nz (c:Cn):Cn:={ c with cf:={ c.cf with iss:=0 },irs:=0 }
def Sg.nz (s:Sg)(a b:Int):Sg:={ s with sq:=rel s.sq a,ak:=if s.has=true then rel s.ak b else s.ak,bl:=s.bl.map fun x=>(rel x.1 b,rel x.2 b) }
def dp (a b:Int)(r:Cn×List Sg):Cn×List Sg:=(r.1.nz,r.2.map fun s=>s.nz a b)
theorem jw (a b:Int)(c:Cn)(s:Sg):dp a b (c,[s])=(c.nz,[s.nz a b]):=rfl
theorem jx (a b:Int)(c:Cn):dp a b (c,[])=(c.nz,[]):=rfl
theorem du (c:Cn)(now e:Int):(c.step now e).nz=c.nz.step now e:=by
 unfold Cn.step;show Cn.nz (match gq c.st e with | none=>c | some n=>if n=9 then { c with per:=.aft now 60,st:=n }else { c with st:=n })=(match gq c.st e with | none=>c.nz | some n=>if n=9 then { c.nz with per:=.aft now 60,st:=n }else { c.nz with st:=n })
 cases gq c.st e with
 | none=>rfl
 | some n=>dsimp only;split <;> rfl
theorem fw (c:Cn)(now e er:Int):(c.finish now e er).nz=c.nz.finish now e er:=by
 unfold Cn.finish;rw[<-du];rfl
theorem lA (c:Cn)(y:Bool):(c.ackC y).nz=c.nz.ackC y:=by unfold Cn.ackC;split <;> rfl
theorem lB (c:Cn):c.synC.nz=c.nz.synC:=by
 unfold Cn.synC;show Cn.nz (if c.st=1 then _ else _)=(if c.st=1 then _ else _);split <;> rfl
theorem oL {c:Cn}{b:Int}(h:c.irs=b)(s:Sg)(hbl:s.bl=[])(off:Int):(c.ackS s off).nz c.cf.iss b=c.nz.ackS s off:=by
 subst h;have e1:rel (ar c.cf.iss off) c.cf.iss=ar 0 off:=ju _ _;have e2:rel (c.number c.expected) c.irs=c.nz.number c.nz.expected:=ju _ _;unfold Cn.ackS;by_cases hs:s.syn=true;rotate_left 1
 ·rw[if_neg hs,if_neg hs];unfold Sg.nz Cn.address;dsimp only;rw[if_pos rfl,e1,e2]
  have e3:(if s.s=[]/\c.sacks=true then s.bl++c.bx.rep.map (fun b=>(c.number b.1,c.number b.2))else s.bl).map (fun x=>(rel x.1 c.irs,rel x.2 c.irs))=(if s.s=[]/\c.nz.sacks=true then s.bl++c.nz.bx.rep.map (fun b=>(c.nz.number b.1,c.nz.number b.2))else s.bl):=by
   rw[hbl];show _=(if s.s=[]/\c.sacks=true then []++c.bx.rep.map (fun b=>(c.nz.number b.1,c.nz.number b.2))else []);split
   ·rw[List.nil_append,List.nil_append,List.map_map];refine List.map_congr_left fun x _=> ?_;show(rel (ar c.irs (x.1+1)) c.irs,rel (ar c.irs (x.2+1)) c.irs)=(ar 0 (x.1+1),ar 0 (x.2+1));rw[ju,ju]
   rfl
  rw[e3];rfl
 rw[if_pos hs,if_pos hs];unfold Sg.nz Cn.address;dsimp only;rw[if_pos rfl,e1,e2,hbl];rfl
theorem sA (k:Bool)(n a:Int)(l:List Sp):dx k n 0 (l.map fun x=>(rel x.1 a,rel x.2 a))=dx k n a l:=by
 unfold dx;rw[List.map_map];refine congrArg _ (List.map_congr_left fun x _=> ?_);show(aA (rel x.1 a) 0,aA (rel x.2 a) 0)=_;rw[iJ,iJ]
theorem uD (c:Cn)(ack:Int)(s:Sg)(b:Int):(c.report ack s.bl).nz=c.nz.report ack (s.nz b c.cf.iss).bl:=by
 unfold Cn.report;show _=({ c.nz with sc:=c.sc.acked ack (dx c.sacks c.next 0 (s.bl.map fun x=>(rel x.1 c.cf.iss,rel x.2 c.cf.iss))) }:Cn);rw[sA];rfl
theorem yt (c:Cn)(ack:Int)(s:Sg)(b:Int):c.nz.repN ack (s.nz b c.cf.iss).bl=c.repN ack s.bl:=by
 unfold Cn.repN;show c.sc.ackN ack (dx c.sacks c.next 0 (s.bl.map fun x=>(rel x.1 c.cf.iss,rel x.2 c.cf.iss)))-_=_;rw[sA];rfl
theorem wy (now ack una:Int)(r:Cn):(mK now ack una r).nz=mK now ack una r.nz:=by
 unfold mK;split
 ·dsimp only;split <;> rfl
 rfl
theorem pz (ack win sacked flight:Int)(r:Cn):(js ack win sacked flight r).nz=js ack win sacked flight r.nz:=by
 unfold js;dsimp only;show Cn.nz (if 0<sacked/\(r.announce ack win).mark<=ack/\(r.announce ack win).sc.lost (r.announce ack win).mss≠[]then _ else _)=(if 0<sacked/\(r.announce ack win).mark<=ack/\(r.announce ack win).sc.lost (r.announce ack win).mss≠[]then _ else _);split <;> rfl
theorem qA (c:Cn)(now:Int)(s:Sg)(ack b:Int):(c.acked now s ack).nz=c.nz.acked now (s.nz b c.cf.iss) ack:=by
 rw[jE,jE,yt];have e:({ c.nz with tries:=0 }:Cn).report ack (s.nz b c.cf.iss).bl=(({ c with tries:=0 }:Cn).report ack s.bl).nz:=(uD { c with tries:=0 } ack s b).symm;rw[e,<-wy];show Cn.nz (if ack<c.una then _ else if c.una<=c.last/\c.last<ack then _ else _)=(if ack<c.una then _ else if c.una<=c.last/\c.last<ack then Cn.step (js ack s.win _ c.flight _) now 7 else js ack s.win _ c.flight _);split
 ·rfl
 split
 ·rw[du,pz];rfl
 rw[pz];rfl
theorem xA (c:Cn)(now:Int)(s:Sg)(off a b:Int):(c.store now s off).nz=c.nz.store now (s.nz a b) off:=by
 unfold Cn.store;show Cn.nz (if s.s=[]then c else if aT c.st=true then(if c.insB off s.s=true then(c.insert off s.s).ackSoon now else(c.insert off s.s).ackNow)else c.ackNow)=(if s.s=[]then c.nz else if aT c.st=true then(if c.insB off s.s=true then(c.insert off s.s).nz.ackSoon now else(c.insert off s.s).nz.ackNow)else c.nz.ackNow);split
 ·rfl
 split
 ·split
  ·unfold Cn.ackSoon;show Cn.nz (if c.pend≠0 then _ else _)=(if c.pend≠0 then _ else _);split <;> rfl
  rfl
 rfl
theorem yu (c:Cn)(now:Int)(s:Sg)(off a b:Int):(c.finS now s off).nz=c.nz.finS now (s.nz a b) off:=by
 unfold Cn.finS;dsimp only
 have h:(if(s.nz a b).fin=true/\aT c.nz.st=true/\c.nz.ended=false/\c.nz.bx.nx<=off+(s.nz a b).s.length then { c.nz with ended:=true,fend:=off+(s.nz a b).s.length }else c.nz)=(if s.fin=true/\aT c.st=true/\c.ended=false/\c.bx.nx<=off+s.s.length then { c with ended:=true,fend:=off+s.s.length }else c).nz:=by
  show(if s.fin=true/\aT c.st=true/\c.ended=false/\c.bx.nx<=off+s.s.length then _ else _)=_;split <;> rfl
 rw[h];generalize (if s.fin=true/\aT c.st=true/\c.ended=false/\c.bx.nx<=off+s.s.length then { c with ended:=true,fend:=off+s.s.length }else c)=d;show Cn.nz (if d.reached=true/\d.over=false then _ else _)=(if d.reached=true/\d.over=false then _ else _);split
 ·show Cn.ackNow (Cn.nz (Cn.step { d with over:=true } now 6))=_;rw[du];rfl
 rfl
theorem nL {c:Cn}{b:Int}(h:c.irs=b)(lo hi:Int):(c.pieceS lo hi).nz c.cf.iss b=c.nz.pieceS lo hi:=oL h _ rfl lo
theorem kK {c:Cn}{b:Int}(h:c.irs=b)(n:Int):(c.freshS n).nz c.cf.iss b=c.nz.freshS n:=nL h _ _
theorem nM (c:Cn)(n:Int):(c.freshC n).nz=c.nz.freshC n:=by
 unfold Cn.freshC Cn.pieceC;rw[<-lA];rfl
theorem xB (c:Cn)(now n:Int):(c.out now n).nz=c.nz.out now n:=by
 unfold Cn.out;rw[<-nM];rfl
theorem xC {a b:Int}(n:Nat):∀(c:Cn) (l:List Sg),c.irs=b->c.cf.iss=a->dp a b (lostL n c l)=lostL n c.nz (l.map fun s=>s.nz a b)/\(lostL n c l).1.irs=b/\(lostL n c l).1.cf.iss=a:=by
 induction n with
 | zero=>exact fun c l h1 h2=>⟨rfl,h1,h2⟩
 | succ n ih =>
  intro c l h1 h2;have f:=dZ c false;unfold lostL;show dp a b (if c.sc.pipe c.mss<c.cg.win then _ else _)=(if c.sc.pipe c.mss<c.cg.win then _ else _)/\_;split
  ·show dp a b (match c.sc.lost c.mss with | []=>_ | x::_=>_)=(match c.sc.lost c.mss with | []=>_ | x::_=>_)/\_
   cases c.sc.lost c.mss with
   | nil=>exact⟨rfl,h1,h2⟩
   | cons x t =>
    dsimp only;show dp a b (if c.sc.retE (aN c.mss x)=0 then _ else _)=(if c.sc.retE (aN c.mss x)=0 then _ else _)/\_;split
    ·obtain⟨i1,i2⟩:=ih { c.pieceC with sc:=c.sc.ret (aN c.mss x),tm:=c.tm.retr } (l++[c.pieceS x.1 (aN c.mss x).2]) (f.1.trans h1) ((congrArg Cf.iss f.2).trans h2);refine⟨?_,i2⟩;rw[i1,List.map_append,List.map_singleton,<-h2,nL h1];refine congrArg (fun d=>lostL n d _) ?_;show({ c.pieceC.nz with sc:=c.sc.ret (aN c.mss x),tm:=c.tm.retr }:Cn)={ c.nz.pieceC with sc:=c.sc.ret (aN c.mss x),tm:=c.tm.retr };unfold Cn.pieceC;rw[lA]
    refine⟨?_,f.1.trans h1,(congrArg Cf.iss f.2).trans h2⟩;show(({ c.pieceC.nz with sc:=c.sc.ret (aN c.mss x) }:Cn),_)=(({ c.nz.pieceC with sc:=c.sc.ret (aN c.mss x) }:Cn),_);unfold Cn.pieceC;rw[lA]
  exact⟨rfl,h1,h2⟩
theorem xD {a b:Int}(now:Int)(n:Nat):∀(c:Cn) (l:List Sg),c.irs=b->c.cf.iss=a->dp a b (sizeL now n c l)=sizeL now n c.nz (l.map fun s=>s.nz a b)/\(sizeL now n c l).1.irs=b/\(sizeL now n c l).1.cf.iss=a:=by
 induction n with
 | zero=>exact fun c l h1 h2=>⟨rfl,h1,h2⟩
 | succ n ih =>
  intro c l h1 h2;have f:=dZ c false;unfold sizeL;show dp a b (if 0<c.allowed then _ else _)=(if 0<c.allowed then _ else _)/\_;split
  ·obtain⟨i1,i2⟩:=ih (c.out now c.allowed) (l++[c.freshS c.allowed]) (f.1.trans h1) ((congrArg Cf.iss f.2).trans h2);refine⟨?_,i2⟩;rw[i1,List.map_append,List.map_singleton,<-h2,kK h1,xB];rfl
  exact⟨rfl,h1,h2⟩
theorem yv {a b:Int}(now:Int)(c:Cn)(l:List Sg)(h1:c.irs=b)(h2:c.cf.iss=a):dp a b (finL now c l)=finL now c.nz (l.map fun s=>s.nz a b)/\(finL now c l).1.irs=b/\(finL now c l).1.cf.iss=a:=by
 have f:=dZ c false;unfold finL;show dp a b (if c.shut=true/\c.next=c.last then _ else _)=(if c.shut=true/\c.next=c.last then _ else _)/\_;split
 ·refine⟨?_,f.1.trans h1,(congrArg Cf.iss f.2).trans h2⟩;show((c.out now 0).nz,(l++[c.freshS 0]).map fun s=>s.nz a b)=_;rw[xB,List.map_append,List.map_singleton,<-h2,kK h1]
 exact⟨rfl,h1,h2⟩
theorem xE {a b:Int}(now:Int)(c:Cn)(h1:c.irs=b)(h2:c.cf.iss=a):dp a b (c.pushD now)=c.nz.pushD now/\(c.pushD now).1.irs=b/\(c.pushD now).1.cf.iss=a:=by
 obtain⟨l1,l2,l3⟩:=xC (a:=a) (b:=b) (c.flight.toNat+1) c [] h1 h2;have l1:dp a b (lostL (c.flight.toNat+1) c [])=lostL (c.nz.flight.toNat+1) c.nz []:=l1;rw[jF,jF c.nz,<-l1];generalize lostL (c.flight.toNat+1) c []=r at l2 l3|-;obtain⟨s1,s2,s3⟩:=xD (a:=a) (b:=b) now (r.1.unsent.toNat+1) r.1 r.2 l2 l3;have s1:dp a b (sizeL now (r.1.unsent.toNat+1) r.1 r.2)=sizeL now ((dp a b r).1.unsent.toNat+1) (dp a b r).1 (dp a b r).2:=s1;rw[<-s1];generalize sizeL now (r.1.unsent.toNat+1) r.1 r.2=q at s2 s3|-;exact yv now q.1 q.2 s2 s3
theorem xF {a b:Int}(c:Cn)(l:List Sg)(h1:c.irs=b)(h2:c.cf.iss=a):dp a b (c.pushA l)=c.nz.pushA (l.map fun s=>s.nz a b):=by
 unfold Cn.pushA;show dp a b (if c.pend=2 then _ else _)=(if c.pend=2 then _ else _);split
 ·show((c.ackC false).nz,(l++[c.ackS cy c.next]).map fun s=>s.nz a b)=_;rw[lA,List.map_append,List.map_singleton,<-h2,oL h1 cy rfl];rfl
 rfl
theorem qB (c:Cn)(now:Int):(c.pushT now).nz=c.nz.pushT now:=by
 unfold Cn.pushT;show Cn.nz (if c.flight<=0/\¬(aq c.st=true/\0<c.unsent)then _ else if c.dl.set=true then _ else _)=(if c.flight<=0/\¬(aq c.st=true/\0<c.unsent)then _ else if c.dl.set=true then _ else _);split
 ·rfl
 split <;> rfl
theorem dv {a b:Int}(c:Cn)(now:Int)(h1:c.irs=b)(h2:c.cf.iss=a):dp a b (c.push now)=c.nz.push now:=by
 rw[kJ,kJ c.nz];obtain⟨p1,p2,p3⟩:=xE now c h1 h2
 have k:dp a b (if aq c.st=true then c.pushD now else(c,[]))=(if aq c.nz.st=true then c.nz.pushD now else(c.nz,[]))/\(if aq c.st=true then c.pushD now else(c,[])).1.irs=b/\(if aq c.st=true then c.pushD now else(c,[])).1.cf.iss=a:=by
  show dp a b (if aq c.st=true then c.pushD now else(c,[]))=(if aq c.st=true then c.nz.pushD now else(c.nz,[]))/\_;split
  ·exact⟨p1,p2,p3⟩
  exact⟨rfl,h1,h2⟩
 obtain⟨k1,k2,k3⟩:=k;rw[<-k1];generalize (if aq c.st=true then c.pushD now else(c,[]))=r at k2 k3|-;have e:=xF r.1 r.2 k2 k3;have e:dp a b (r.1.pushA r.2)=(dp a b r).1.pushA (dp a b r).2:=e;rw[<-e];show dp a b (if c.st=0 then _ else _)=(if c.st=0 then _ else _);split
 ·rfl
 show((Cn.pushT (r.1.pushA r.2).1 now).nz,(r.1.pushA r.2).2.map fun s=>s.nz a b)=_;rw[qB];rfl
theorem jH (c:Cn)(now:Int)(h1:aq c.st=false)(h2:c.pend≠2):c.push now=if c.st=0 then(c,[])else(c.pushT now,[]):=by
 unfold Cn.push;dsimp only;split
 ·rfl
 rw[if_neg (by rw[h1];decide)];unfold Cn.pushA;rw[if_neg h2]
def Jr (b:Int)(c:Cn):Prop:=c.st=0\/(c.st=1/\c.pend=0)\/c.irs=b
theorem qC {a b:Int}(c:Cn)(now:Int)(j:Jr b c)(h2:c.cf.iss=a):dp a b (c.push now)=c.nz.push now:=by
 rcases j with h | ⟨h,hp⟩ | h
 ·have e1:c.push now=(c,[]):=by unfold Cn.push;rw[if_pos h]
  have e2:c.nz.push now=(c.nz,[]):=by unfold Cn.push;rw[if_pos (show c.nz.st=0 from h)]
  rw[e1,e2];rfl
 ·have hs:aq c.st=false:=by rw[h];rfl
  rw[jH c now hs (by rw[hp];decide),jH c.nz now hs (by show c.pend≠2;rw[hp];decide)];show dp a b (if c.st=0 then _ else _)=(if c.st=0 then _ else _);split
  ·rfl
  rw[<-qB];rfl
 exact dv c now h h2
theorem oM {a b:Int}(x:Cn)(now:Int)(s:Sg)(off ack:Int)(h1:x.irs=b)(h2:x.cf.iss=a) :
  dp a b ((((x.acked now s ack).store now s off).finS now s off).push now)=(((x.nz.acked now (s.nz b a) ack).store now (s.nz b a) off).finS now (s.nz b a) off).push now:=by
 rw[dv _ now (by rw[po,nD,(fW x now s ack).irs,h1]) (by rw[kz,jt,fu,h2]),yu _ now s off b a,xA _ now s off b a,qA x now s ack b,h2]
theorem rM {a b:Int}(c:Cn)(now:Int)(s:Sg)(off:Int)(h1:c.irs=b)(h2:c.cf.iss=a)(hh:s.has=true) :
  dp a b (c.process now s off)=c.nz.process now (s.nz b a) off:=by
 have hk:(s.nz b a).ak=rel s.ak a:=if_pos hh;have hd:aA (s.nz b a).ak c.nz.cf.iss=aA s.ak c.cf.iss:=by rw[hk,h2];exact iJ _ _
 unfold Cn.process;dsimp only;rw[hd];show dp a b (if c.st=2 then(if aA s.ak c.cf.iss<1\/c.next<aA s.ak c.cf.iss then _ else _)else if c.next<aA s.ak c.cf.iss then _ else _)=(if c.st=2 then(if aA s.ak c.cf.iss<1\/c.next<aA s.ak c.cf.iss then _ else _)else if c.next<aA s.ak c.cf.iss then _ else _);split
 ·split
  ·rw[jw,hk,<-h2];rfl
  rw[<-du];show dp a b (Cn.push (Cn.finS (Cn.store (Cn.acked (if(c.step now 4).shut=true then(c.step now 4).step now 5 else c.step now 4) now s _) now s off) now s off) now)=Cn.push (Cn.finS (Cn.store (Cn.acked (if(c.step now 4).shut=true then(c.step now 4).nz.step now 5 else(c.step now 4).nz) now (s.nz b a) _) now (s.nz b a) off) now (s.nz b a) off) now;have i4:(c.step now 4).irs=b:=(cI c now 4).irs.trans h1;have k4:(c.step now 4).cf.iss=a:=(congrArg Cf.iss (bs c now 4)).trans h2;split
  ·rw[<-du];exact oM _ now s off _ ((cI _ now 5).irs.trans i4) ((congrArg Cf.iss (bs _ now 5)).trans k4)
  exact oM _ now s off _ i4 k4
 split
 ·exact dv c.ackNow now h1 h2
 exact oM c now s off _ h1 h2
theorem xG {a b:Int}(c:Cn)(now:Int)(s:Sg)(h1:c.irs=b)(h2:c.cf.iss=a):dp a b (c.stray now s)=c.nz.stray now (s.nz b a):=by
 have hk:s.has=true->(s.nz b a).ak=rel s.ak a:=fun h=>if_pos h;unfold Cn.stray;dsimp only
 have e:(if ap c.nz.st=true/\(s.nz b a).has=true/\(s.nz b a).syn=false/\c.nz.una<=aA (s.nz b a).ak c.nz.cf.iss/\aA (s.nz b a).ak c.nz.cf.iss<=c.nz.next then c.nz.acked now (s.nz b a) (aA (s.nz b a).ak c.nz.cf.iss)else c.nz)=(if ap c.st=true/\s.has=true/\s.syn=false/\c.una<=aA s.ak c.cf.iss/\aA s.ak c.cf.iss<=c.next then c.acked now s (aA s.ak c.cf.iss)else c).nz:=by
  by_cases hh:s.has=true
  ·have hd:aA (s.nz b a).ak c.nz.cf.iss=aA s.ak c.cf.iss:=by rw[hk hh,h2];exact iJ _ _
   rw[hd];show(if ap c.st=true/\s.has=true/\s.syn=false/\c.una<=aA s.ak c.cf.iss/\aA s.ak c.cf.iss<=c.next then _ else _)=_;split
   ·rw[qA c now s _ b,h2]
   rfl
  rw[if_neg (fun h=>hh h.2.1),if_neg (fun h=>hh h.2.1)]
 rw[e]
 have f:(if ap c.st=true/\s.has=true/\s.syn=false/\c.una<=aA s.ak c.cf.iss/\aA s.ak c.cf.iss<=c.next then c.acked now s (aA s.ak c.cf.iss)else c).irs=b/\(if ap c.st=true/\s.has=true/\s.syn=false/\c.una<=aA s.ak c.cf.iss/\aA s.ak c.cf.iss<=c.next then c.acked now s (aA s.ak c.cf.iss)else c).cf.iss=a:=by
  split
  ·exact⟨(fW c now s _).irs.trans h1,(congrArg Cf.iss (fu c now s _)).trans h2⟩
  exact⟨h1,h2⟩
 generalize (if ap c.st=true/\s.has=true/\s.syn=false/\c.una<=aA s.ak c.cf.iss/\aA s.ak c.cf.iss<=c.next then c.acked now s (aA s.ak c.cf.iss)else c)=x at f|-
 have e2:(if x.nz.st=9/\(s.nz b a).fin=true then { x.nz with per:=.aft now 60 }else x.nz)=(if x.st=9/\s.fin=true then { x with per:=.aft now 60 }else x).nz:=by
  show(if x.st=9/\s.fin=true then _ else _)=_;split <;> rfl
 rw[e2];have g:(if x.st=9/\s.fin=true then { x with per:=.aft now 60 }else x).irs=b/\(if x.st=9/\s.fin=true then { x with per:=.aft now 60 }else x).cf.iss=a:=by split <;> exact f
 generalize (if x.st=9/\s.fin=true then { x with per:=.aft now 60 }else x)=y at g|-;show dp a b (Cn.push (if 0<bF s then y.ackNow else y) now)=Cn.push (if 0<bF s then y.nz.ackNow else y.nz) now;split
 ·exact dv y.ackNow now g.1 g.2
 exact dv y now g.1 g.2
theorem uE {a b:Int}(c:Cn)(now:Int)(s:Sg)(h1:c.irs=b)(h2:c.cf.iss=a):dp a b (c.recvOk now s)=c.nz.recvOk now (s.nz b a):=by
 have ho:c.nz.offset (s.nz b a).sq=c.offset s.sq:=by rw[<-h1];exact(yr s.sq c.irs)
 unfold Cn.recvOk;dsimp only;rw[ho];show dp a b (if s.rst=true/\c.offset s.sq=c.expected then _ else if s.rst=true/\c.accepts (c.offset s.sq) (bF s)=false then _ else if c.accepts (c.offset s.sq) (bF s)=false then _ else if s.rst=true\/s.syn=true then _ else if s.has=false then _ else _)=(if s.rst=true/\c.offset s.sq=c.expected then _ else if s.rst=true/\c.accepts (c.offset s.sq) (bF s)=false then _ else if c.accepts (c.offset s.sq) (bF s)=false then _ else if s.rst=true\/s.syn=true then _ else if s.has=false then _ else _);split
 ·rw[jx,fw]
 split
 ·rfl
 split
 ·exact xG c now s h1 h2
 split
 ·exact dv c.ackNow now h1 h2
 split
 ·rfl
 rename_i hh;exact rM c now s _ h1 h2 (by simpa using hh)
theorem lC {c:Cn}{b:Int}(h:c.st=1\/c.irs=b):(c.synS).nz c.cf.iss b=c.nz.synS:=by
 unfold Cn.synS;by_cases h1:c.st=1
 ·rw[if_pos h1,if_pos (show c.nz.st=1 from h1)];unfold Sg.nz Cn.address;dsimp only;rw[ju];rfl
 rw[if_neg h1,if_neg (show ¬c.nz.st=1 from h1)];exact oL (h.resolve_left h1) _ rfl 0
theorem sB {a b:Int}(c:Cn)(s:Sg)(hq:s.sq=b):(c.meet s).nz=c.nz.meet (s.nz b a):=by
 have e:rel b b=0:=by unfold rel;omega
 have h:c.nz.meet (s.nz b a)=({ c.nz with irs:=rel s.sq b,sacks:=s.sacks }.announce 1 s.win).resize s.mss:=rfl;rw[h,hq,e];rfl
theorem AE (d:Cn)(now:Int):(ww d now).nz=ww d.nz now/\(ww d now).irs=d.irs/\(ww d now).cf=d.cf:=by
 have h1:=du { d with sc:=d.sc.acked 1 [],tm:=d.tm.acked now 1 } now 3;have h2:=bs { d with sc:=d.sc.acked 1 [],tm:=d.tm.acked now 1 } now 3;have h3:=(cI { d with sc:=d.sc.acked 1 [],tm:=d.tm.acked now 1 } now 3).irs;refine⟨?_,h3,h2⟩;unfold ww;have e:({ d.nz with sc:=d.nz.sc.acked 1 [],tm:=d.nz.tm.acked now 1 }:Cn)=({ d with sc:=d.sc.acked 1 [],tm:=d.tm.acked now 1 }:Cn).nz:=rfl;rw[e,<-h1];rfl
theorem xH {a b:Int}(c:Cn)(now:Int)(s:Sg)(h2:c.cf.iss=a)(hq:s.syn=true->s.sq=b):dp a b (c.greet now s)=c.nz.greet now (s.nz b a):=by
 have hk:s.has=true->(s.nz b a).ak=rel s.ak a:=fun h=>if_pos h;have hd:s.has=true->aA (s.nz b a).ak c.nz.cf.iss=aA s.ak c.cf.iss:=fun hh=>by rw[hk hh,h2];exact iJ _ _
 rw[jG,jG c.nz];by_cases g1:s.has=true/\aA s.ak c.cf.iss≠1
 ·rw[if_pos g1,if_pos (show(s.nz b a).has=true/\aA (s.nz b a).ak c.nz.cf.iss≠1 from⟨g1.1,by rw[hd g1.1];exact g1.2⟩)];show dp a b (if s.rst=true then _ else _)=(if s.rst=true then _ else _);split
  ·rfl
  rw[jw,hk g1.1,<-h2];rfl
 rw[if_neg g1,if_neg (show ¬((s.nz b a).has=true/\aA (s.nz b a).ak c.nz.cf.iss≠1)from fun h=>g1 ⟨h.1,by rw[<-hd h.1];exact h.2⟩)];show dp a b (if s.rst=true/\s.has=true then _ else if s.syn=false then _ else _)=(if s.rst=true/\s.has=true then _ else if s.syn=false then _ else _);split
 ·rw[jx,fw]
 split
 ·rfl
 rename_i hy;have hy:s.syn=true:=by simpa using hy
 have hb:=hq hy;have em:wv c.nz (s.nz b a)=(wv c s).nz:=by unfold wv;rw[<-sB c s hb];rfl
 have hi:(wv c s).irs=b:=hb;have hc:(wv c s).cf.iss=a:=h2;rw[em];generalize wv c s=d at hi hc|-;show dp a b (if s.has=false then _ else _)=(if s.has=false then _ else _);split
 ·have i2:(d.step now 2).irs=b:=(cI d now 2).irs.trans hi;have c2:(d.step now 2).cf.iss=a:=(congrArg Cf.iss (bs d now 2)).trans hc;rw[jw,<-du,<-lB,<-lC (.inr i2),c2]
 show dp a b ((ww d now).ackNow.push now)=(ww d.nz now).ackNow.push now;obtain⟨g1,g2,g3⟩:=AE d now;rw[<-g1];exact dv (ww d now).ackNow now (g2.trans hi) ((congrArg Cf.iss g3).trans hc)
theorem rN {a b:Int}(c:Cn)(now:Int)(s:Sg)(j:Jr b c)(h2:c.cf.iss=a)(hq:s.syn=true->s.sq=b):dp a b (c.receive now s)=c.nz.receive now (s.nz b a):=by
 unfold Cn.receive;show dp a b (if c.st=0 then _ else if s.fp≠c.cf.tp\/s.tp≠c.cf.fp then _ else if c.st=1 then _ else _)=(if c.st=0 then _ else if s.fp≠c.cf.tp\/s.tp≠c.cf.fp then _ else if c.st=1 then _ else _);split
 ·rfl
 split
 ·rfl
 split
 ·exact xH c now s h2 hq
 rename_i h0 _ h1;refine uE c now s ?_ h2
 rcases j with h | h | h
 ·exact absurd h h0
 ·exact absurd h.1 h1
 exact h
theorem uF {a b:Int}(c:Cn)(h1:c.irs=b)(h2:c.cf.iss=a):dp a b c.expire=c.nz.expire:=by
 unfold Cn.expire;show dp a b (if 0<c.flight then _ else if c.unsent=0 then _ else _)=(if 0<c.flight then _ else if c.unsent=0 then _ else _);split
 ·rfl
 split
 ·rfl
 rw[jw,nM,<-h2,kK h1];rfl
theorem mL {a b:Int}(c:Cn)(now:Int)(l:List Sg)(j:Jr b c)(h2:c.cf.iss=a):dp a b (c.tickEnd now l)=c.nz.tickEnd now (l.map fun s=>s.nz a b):=by
 unfold Cn.tickEnd;dsimp only
 have e:(if c.nz.pend=1/\c.nz.ackT.due now=true then c.nz.ackNow else c.nz)=(if c.pend=1/\c.ackT.due now=true then c.ackNow else c).nz:=by
  show(if c.pend=1/\c.ackT.due now=true then _ else _)=_;split <;> rfl
 rw[e]
 have k:Jr b (if c.pend=1/\c.ackT.due now=true then c.ackNow else c)/\(if c.pend=1/\c.ackT.due now=true then c.ackNow else c).cf.iss=a:=by
  split
  ·rename_i hx;refine⟨?_,h2⟩
   rcases j with h | h | h
   ·exact .inl h
   ·rw[h.2]at hx;exact absurd hx.1 (by decide)
   exact .inr (.inr h)
  exact⟨j,h2⟩
 generalize (if c.pend=1/\c.ackT.due now=true then c.ackNow else c)=d at k|-;have p:=qC d now k.1 k.2;rw[<-p];show(_,(l++(d.push now).2).map _)=_;rw[List.map_append];rfl
theorem yw {a b:Int}(c:Cn)(now:Int)(j:Jr b c)(h2:c.cf.iss=a):dp a b (c.tick now)=c.nz.tick now:=by
 unfold Cn.tick;dsimp only;show dp a b (if c.st=0 then _ else if c.st=9/\c.per.due now=true then _ else if c.dl.due now=true then(if 12<c.tries+1 then _ else if ap c.st=true then _ else _)else _)=(if c.st=0 then _ else if c.st=9/\c.per.due now=true then _ else if c.dl.due now=true then(if 12<c.tries+1 then _ else if ap c.st=true then _ else _)else _);split
 ·rfl
 rename_i h0;split
 ·rw[jx,fw]
 split
 ·split
  ·rw[jx,fw];rfl
  have hd:Jr b ({ c with tries:=c.tries+1,tm:=c.tm.retr.backoff,dl:=.aft now c.tm.retr.backoff.value }:Cn):=j;have hc:({ c with tries:=c.tries+1,tm:=c.tm.retr.backoff,dl:=.aft now c.tm.retr.backoff.value }:Cn).cf.iss=a:=h2;have hst:({ c with tries:=c.tries+1,tm:=c.tm.retr.backoff,dl:=.aft now c.tm.retr.backoff.value }:Cn).st=c.st:=rfl;show dp a b (if ap c.st=true then(Cn.expire { c with tries:=c.tries+1,tm:=c.tm.retr.backoff,dl:=.aft now c.tm.retr.backoff.value }).1.tickEnd now (Cn.expire { c with tries:=c.tries+1,tm:=c.tm.retr.backoff,dl:=.aft now c.tm.retr.backoff.value }).2 else((Cn.synC { c with tries:=c.tries+1,tm:=c.tm.retr.backoff,dl:=.aft now c.tm.retr.backoff.value }),[Cn.synS { c with tries:=c.tries+1,tm:=c.tm.retr.backoff,dl:=.aft now c.tm.retr.backoff.value }]))=(if ap c.st=true then(Cn.expire (Cn.nz { c with tries:=c.tries+1,tm:=c.tm.retr.backoff,dl:=.aft now c.tm.retr.backoff.value })).1.tickEnd now (Cn.expire (Cn.nz { c with tries:=c.tries+1,tm:=c.tm.retr.backoff,dl:=.aft now c.tm.retr.backoff.value })).2 else((Cn.synC (Cn.nz { c with tries:=c.tries+1,tm:=c.tm.retr.backoff,dl:=.aft now c.tm.retr.backoff.value })),[Cn.synS (Cn.nz { c with tries:=c.tries+1,tm:=c.tm.retr.backoff,dl:=.aft now c.tm.retr.backoff.value })]));generalize ({ c with tries:=c.tries+1,tm:=c.tm.retr.backoff,dl:=.aft now c.tm.retr.backoff.value }:Cn)=d at hd hc hst|-;split
  ·rename_i hs
   have hi:d.irs=b:=by
    rcases hd with h | h | h
    ·exact absurd (hst.symm.trans h) h0
    ·rw[hst]at h;rw[h.1]at hs;cases hs
    exact h
   have e:=uF d hi hc;have f:=(nE d).1
   have fc:d.expire.1.cf.iss=a:=by
    rw[<-hc];unfold Cn.expire;split
    ·rfl
    split
    ·rfl
    exact congrArg Cf.iss (dZ d false).2
   rw[mL _ now _ (.inr (.inr (f.irs.trans hi))) fc,<-e];rfl
  rw[jw,lB,<-hc,lC]
  rcases hd with h | h | h
  ·exact absurd (hst.symm.trans h) h0
  ·exact .inl h.1
  exact .inr h
 exact mL c now [] j h2
theorem yx {a b:Int}(c:Cn)(now:Int)(x:List UInt8)(j:Jr b c)(h2:c.cf.iss=a):dp a b (c.send now x)=c.nz.send now x:=by
 unfold Cn.send;show dp a b (if c.refusal≠0 then _ else _)=(if c.refusal≠0 then _ else _);split
 ·rfl
 exact qC { c with held:=c.held++x.take (c.sendN x).toNat } now j h2
theorem yy {a b:Int}(c:Cn)(now n:Int)(j:Jr b c)(h2:c.cf.iss=a):dp a b (c.recv now n)=c.nz.recv now n:=by
 unfold Cn.recv;dsimp only;split
 ·rfl
 show dp a b (if c.bx.takeS n=[]then _ else if Cn.growsB { c with bx:=c.bx.take n } c.mss=false\/aT c.st=false then _ else _)=(if c.bx.takeS n=[]then _ else if Cn.growsB { c with bx:=c.bx.take n } c.mss=false\/aT c.st=false then _ else _);split
 ·rfl
 split
 ·rfl
 rename_i hx;refine dv (Cn.ackNow { c with bx:=c.bx.take n }) now ?_ h2
 rcases j with h | h | h
 ·exact absurd (.inr (by rw[h];rfl)) hx
 ·exact absurd (.inr (by rw[h.1];rfl)) hx
 exact h
theorem xI {a b:Int}(c:Cn)(now:Int)(j:Jr b c)(h2:c.cf.iss=a):dp a b (c.close now)=c.nz.close now:=by
 unfold Cn.close;dsimp only;show dp a b (if c.st=0\/c.shut=true then _ else if c.st=1 then _ else if c.st=2 then _ else _)=(if c.st=0\/c.shut=true then _ else if c.st=1 then _ else if c.st=2 then _ else _);split
 ·rfl
 rename_i h0;split
 ·rw[jx,fw];rfl
 rename_i h1
 have hi:c.irs=b:=by
  rcases j with h | h | h
  ·exact absurd (.inl h) h0
  ·exact absurd h.1 h1
  exact h
 split
 ·exact dv { c with shut:=true } now hi h2
 rw[dv _ now ((cI { c with shut:=true } now 5).irs.trans hi) ((congrArg Cf.iss (bs { c with shut:=true } now 5)).trans h2),du];rfl
theorem Rs.syn1 {cl:Bool}{a:Int}(h:Rs cl a 1):a=1:=by
 cases h with
 | refl=>rfl
 | step e _ h0 h5 hs =>
  exfalso
  unfold gq at hs;rw[if_neg h0]at hs
  (repeat' split at hs) <;> first | (cases hs;done) | (injection hs with hs;omega)
def Jp (c:Cn):Prop:=c.st=1->c.pend=0
theorem sC (c:Cn)(now:Int)(j:Jp c):Jp (c.push now).1:=by
 intro h;rw[cm]at h;have hp:=j h;rw[jH c now (by rw[h];rfl) (by rw[hp];decide)];split
 ·exact hp
 show(c.pushT now).pend=0;unfold Cn.pushT;split
 ·exact hp
 split <;> exact hp
theorem rO (c:Cn)(now:Int)(s:Sg)(j:Jp c):Jp (c.receive now s).1:=by
 intro h;have h1:c.st=1:=by have:=(qe c now s).rs;rw[h]at this;exact this.syn1
 have hp:=j h1;unfold Cn.receive at h|-;rw[if_neg (by omega)]at h|-;split
 ·exact hp
 rename_i hq;rw[if_neg hq,if_pos h1]at h
 try rw[if_pos h1]
 unfold Cn.greet at h|-;split
 ·split <;> exact hp
 rename_i g1;rw[if_neg g1]at h;split
 ·rename_i g2;rw[if_pos g2]at h;exact absurd (h.symm.trans (bf c now 184 (.inl rfl))) (by decide)
 rename_i g2;rw[if_neg g2]at h;split
 ·exact hp
 rename_i g3;rw[if_neg g3]at h;dsimp only at h|-
 exfalso
 have hst:(c.meet s).st=1:=h1;split at h
 ·have e2:∀x:Cn,x.synC.st=x.st:=fun x=>by unfold Cn.synC;split <;> rfl
  rw[e2,Cn.step_st]at h;have:(match gq (c.meet s).st 2 with | none=>(c.meet s).st | some n=>n)=1:=h;rw[hst]at this;exact absurd this (by decide)
 rw[cm]at h;have h:(Cn.step { ({ c.meet s with tries:=0 }:Cn)with sc:=(c.meet s).sc.acked 1 [],tm:=(c.meet s).tm.acked now 1 } now 3).st=1:=h;rw[Cn.step_st]at h;have:(match gq (c.meet s).st 3 with | none=>(c.meet s).st | some n=>n)=1:=h;rw[hst]at this;exact absurd this (by decide)
theorem yz (c:Cn)(now:Int)(j:Jp c):Jp (c.tick now).1:=by
 intro h;have h1:c.st=1:=by have:=(yH c now).rs;rw[h]at this;exact this.syn1
 have hp:=j h1;unfold Cn.tick at h|-;rw[if_neg (by omega),if_neg (fun hh=>by rw[h1]at hh;exact absurd hh.1 (by decide))]at h|-
 have ht:∀l,(c.tickEnd now l).1.pend=0:=fun l=>by
  have e:(c.tickEnd now l).1=(c.push now).1:=by
   unfold Cn.tickEnd;dsimp only;rw[if_neg (fun hh=>by rw[hp]at hh;exact absurd hh.1 (by decide))]
  rw[e];exact sC c now j (by rw[cm];exact h1)
 split
 ·rename_i hd;rw[if_pos hd]at h;dsimp only at h|-;split
  ·rename_i g;rw[if_pos g]at h;exact absurd (h.symm.trans (bf _ now 182 (.inr rfl))) (by decide)
  rename_i g;rw[if_neg g]at h;have hs:ap ({ c with tries:=c.tries+1,tm:=c.tm.retr.backoff,dl:=.aft now c.tm.retr.backoff.value }:Cn).st=false:=by show ap c.st=false;rw[h1];rfl
  rw[if_neg (by rw[hs];decide)];unfold Cn.synC;split <;> first | exact hp | rfl
 exact ht []
theorem zA (c:Cn)(now:Int)(x:List UInt8)(j:Jp c):Jp (c.send now x).1:=by
 unfold Cn.send;split
 ·exact j
 exact sC { c with held:=c.held++x.take (c.sendN x).toNat } now j
theorem sD (c:Cn)(now n:Int)(j:Jp c):Jp (c.recv now n).1:=by
 unfold Cn.recv;dsimp only;split
 ·exact j
 split
 ·exact j
 split
 ·exact j
 rename_i hx;intro h;rw[cm]at h;have h:c.st=1:=h;exact absurd (.inr (show aT c.st=false by rw[h];rfl)) hx
theorem xJ (c:Cn)(now:Int)(j:Jp c):Jp (c.close now).1:=by
 intro h;have h1:c.st=1:=by have:=(lT c now).1;rw[h]at this;exact this.syn1
 have hp:=j h1;unfold Cn.close at h|-;split
 ·exact hp
 rename_i g;rw[if_neg g]at h;dsimp only at h|-;rw[if_pos h1]at h|-
 exact absurd (show(Cn.finish { c with shut:=true } now 5 183).st=1 from h) (by
  show ¬(Cn.step { c with shut:=true } now 5).st=1;rw[Cn.step_st];dsimp only;rw[h1]
  decide)
section
def Fl.nz (P:Pr.Par)(f:Fl):Fl:={ f with s:=f.s.nz (P.iss (!f.dst)) (P.iss f.dst) }
def Sd.nz (s:Sd):Sd:={ s with c:=s.c.nz }
def Pr.nz (P:Pr.Par)(p:Pr):Pr:={ p with a:=p.a.nz,b:=p.b.nz,wire:=p.wire.map (Fl.nz P),log:=p.log.map (Fl.nz P) }
namespace Pr
variable {P Q : Par} {p q : Pr}
theorem nN (P:Par)(p:Pr)(i:Bool):(p.nz P).sd i=(p.sd i).nz:=by cases i <;> rfl
theorem iK (P:Par)(p:Pr)(i:Bool)(d:Sd):(p.setSd i d).nz P=(p.nz P).setSd i d.nz:=by cases i <;> rfl
theorem zW (P:Par)(p:Pr)(i:Bool)(s:Sg):(p.fl i s).nz P=(p.nz P).fl i (s.nz (P.iss i) (P.iss (!i))):=by cases i <;> rfl
theorem zB (P:Par)(p:Pr)(f:Fl):(p.addW f).map (Fl.nz P)=(p.nz P).addW (f.nz P):=by
 unfold addW;show _=if p.fate=0 then _ else if p.fate=1 then _ else if p.fate=2 then _ else if p.fate=3 then _ else _;split
 ·rfl
 split
 ·rfl
 split
 ·rfl
 split <;> rfl
theorem zC (P:Par)(p:Pr)(i:Bool)(s:Sg):(p.put1 i s).nz P=(p.nz P).put1 i (s.nz (P.iss i) (P.iss (!i))):=by
 unfold put1;rw[<-zW,<-zB];show({ a:=p.a.nz,b:=p.b.nz,wire:=(p.wire++p.addW (p.fl i s)).map (Fl.nz P),now:=p.now,fates:=p.fates,many:=p.many+1,log:=(p.log++[p.fl i s]).map (Fl.nz P) }:Pr)=_;rw[List.map_append,List.map_append];rfl
theorem put_nz (P:Par)(i:Bool):∀(l:List Sg) (p:Pr),(p.put i l).nz P=(p.nz P).put i (l.map fun s=>s.nz (P.iss i) (P.iss (!i))):=by
 intro l
 induction l with
 | nil=>intro p;rfl
 | cons s l ih =>
  intro p;show((p.put1 i s).put i l).nz P=((p.nz P).put1 i (s.nz (P.iss i) (P.iss (!i)))).put i (l.map fun s=>s.nz (P.iss i) (P.iss (!i)));rw[ih,zC]
structure Nm (P:Par)(p:Pr):Prop where
 iss:∀i,(p.sd i).c.cf.iss=P.iss i
 jr:∀i,Jr (P.iss (!i)) (p.sd i).c
theorem xK (P:Par)(p:Pr)(i:Bool)(d:Sd)(r:Cn×List Sg)(c':Cn×List Sg)(h:dp (P.iss i) (P.iss (!i)) r=c'):(((p.setSd i { d with c:=r.1 }).put i r.2).nz P)=((p.nz P).setSd i { d.nz with c:=c'.1 }).put i c'.2:=by
 rw[put_nz,iK,<-h];rfl
theorem xL (h:Nm P p){f:Fl}(hq:f.s.syn=true->f.s.sq=P.iss (!f.dst)):(p.recv1 f).nz P=(p.nz P).recv1 (f.nz P):=by
 have e:=rN (a:=P.iss f.dst) (p.sd f.dst).c p.now f.s (h.jr f.dst) (h.iss f.dst) hq;have k:=xK P p f.dst (p.sd f.dst) _ _ e;refine k.trans ?_;unfold recv1 setC;rw[nN];rfl
theorem qD (h:Nm P p)(i:Bool):(p.tick1 i).nz P=(p.nz P).tick1 i:=by
 have e:=yw (a:=P.iss i) (p.sd i).c p.now (h.jr i) (h.iss i);refine(xK P p i (p.sd i) _ _ e).trans ?_;unfold tick1 setC;rw[nN];rfl
theorem nO (P:Par)(g:Fl->Bool)(l:List Fl)(hg:∀f,g (f.nz P)=g f):(l.map (Fl.nz P)).filter g=(l.filter g).map (Fl.nz P):=by
 rw[List.filter_map];have e:(g ∘ Fl.nz P)=g:=funext hg;rw[e]
theorem AF (P:Par)(g:Fl->Bool)(l:List Fl)(hg:∀f,g (f.nz P)=g f):(l.map (Fl.nz P)).any g=l.any g:=by
 rw[List.any_map];have e:(g ∘ Fl.nz P)=g:=funext hg;rw[e]
theorem sE (P:Par)(now:Int)(W:List Fl):due1 now (W.map (Fl.nz P))=(due1 now W).map (Fl.nz P):=nO P _ W (fun _=>rfl)
theorem qE (P:Par)(now:Int)(W:List Fl):left1 now (W.map (Fl.nz P))=(left1 now W).map (Fl.nz P):=nO P _ W (fun _=>rfl)
theorem sF (P:Par)(now:Int)(D:List Fl)(f:Fl):lateB now (D.map (Fl.nz P)) (f.nz P)=lateB now D f:=by
 unfold lateB metB;rw[AF P _ D (fun _=>rfl)];rfl
theorem AG (P:Par)(p:Pr):(p.nz P).due=p.due.map (Fl.nz P):=by
 unfold due;show due1 p.now (p.wire.map (Fl.nz P))++(left1 p.now (p.wire.map (Fl.nz P))).filter (lateB p.now (due1 p.now (p.wire.map (Fl.nz P))))=_;rw[sE,qE,List.map_append];refine congrArg _ ?_;rw[List.filter_map];have e:(lateB p.now ((due1 p.now p.wire).map (Fl.nz P)) ∘ Fl.nz P)=lateB p.now (due1 p.now p.wire):=funext fun f=>sF P p.now _ f;rw[e]
theorem zD (P:Par)(p:Pr):(p.nz P).rest=p.rest.map (Fl.nz P):=by
 unfold rest;show(left1 p.now (p.wire.map (Fl.nz P))).filter (fun f=> !lateB p.now (due1 p.now (p.wire.map (Fl.nz P))) f)=_;rw[sE,qE,List.filter_map]
 have e:((fun f=> !lateB p.now ((due1 p.now p.wire).map (Fl.nz P)) f) ∘ Fl.nz P)=fun f=> !lateB p.now (due1 p.now p.wire) f:=funext fun f=>by
  show(!lateB p.now _ (f.nz P))=_;rw[sF]
 rw[e]
def JpP (p:Pr):Prop:=∀i,Jp (p.sd i).c
theorem Nm.of (h:PV P p)(j:JpP p):Nm P p:=⟨fun i=>(h.s i).1.iss,fun i=>by
 rcases(h.r i).2.1 with g | g | g
 ·exact .inl g
 ·exact .inr (.inl ⟨g,j i g⟩)
 ·exact .inr (.inr g)⟩
theorem AH (hP:P.Ok){f:Fl}{k:Kx}(hk:k.iss=P.iss (!f.dst))(g:GS k f.s):f.s.syn=true->f.s.sq=P.iss (!f.dst):=by
 intro hy
 have hr:f.s.rst=false:=by
  cases hq:f.s.rst with
  | false=>rfl
  | true=>have:=(g.rst hq).2.2;rw[hy]at this;cases this
 obtain⟨off,g1,-,g3,-⟩:=g.dat hr;have e0:=(g3 hy).1;have hb:=hP (!f.dst);rw[g1,hk,e0];unfold ar;omega
theorem iV {c:Cn}(h:JpP p)(i:Bool){d:Sd}(hd:d.c=c)(hc:Jp c)(l:List Sg):JpP ((p.setSd i d).put i l):=by
 intro j;rw[put_sd]
 rcases eU i j with rfl | rfl
 ·rw[(iG p _ d).1,hd];exact hc
 rw[(iG p _ d).2.1];exact h _
theorem xM (h:JpP p)(f:Fl):JpP (p.recv1 f):=iV h f.dst (d:={ p.sd f.dst with c:=((p.sd f.dst).c.receive p.now f.s).1 }) rfl (rO _ _ _ (h _)) _
theorem qF (h:JpP p)(i:Bool):JpP (p.tick1 i):=iV h i (d:={ p.sd i with c:=((p.sd i).c.tick p.now).1 }) rfl (yz _ _ (h _)) _
theorem zE (hP:P.Ok):∀(l:List Fl) {p:Pr} {q r:Int},PV P p->Fit p q r->JpP p->(∀f∈l,f.s.Ok/\GS (kx P p (!f.dst)) f.s/\io (kx P p f.dst) f.s)->(l.foldl Pr.recv1 p).nz P=(l.map (Fl.nz P)).foldl Pr.recv1 (p.nz P)/\JpP (l.foldl Pr.recv1 p):=by
 intro l
 induction l with
 | nil=>intro p q r _ _ j _;exact⟨rfl,j⟩
 | cons f l ih =>
  intro p q r h k j hl;obtain⟨h1,h2,h3⟩:=hl f List.mem_cons_self;have e:=xL (Nm.of h j) (AH hP (k:=kx P p (!f.dst)) rfl h2);have h':=h.recv1 k hP h1 (k1:=kx P p (!f.dst)) rfl rfl rfl h2 (.refl _) h3
  obtain⟨i1,i2⟩:=ih h' (recv1_fit k h1) (xM j f) (fun x hx=>by
   obtain⟨h4,h5,h6⟩:=hl x (List.mem_cons_of_mem _ hx);exact⟨h4,h5.gw (jq p f _),h6.gw (jq p f _)⟩)
  refine⟨?_,i2⟩;show(l.foldl Pr.recv1 (p.recv1 f)).nz P=(l.map (Fl.nz P)).foldl Pr.recv1 ((p.nz P).recv1 (f.nz P));rw[i1,e]
theorem rP (hP:P.Ok){x:Pr}{q r:Int}(h:PV P x)(k:Fit x q r)(j:JpP x):x.deliver.nz P=(x.nz P).deliver/\JpP x.deliver:=by
 obtain⟨e1,e2⟩:=zE hP x.due (p:={ x with wire:=x.rest }) ⟨h.s,h.r,fun f hf=>h.w f (iF hf),h.g⟩ (rest_fit k) (fun i=>by cases i;exact j false;exact j true) (fun f hf=>⟨k.wire f (due_mem hf),h.w f (due_mem hf)⟩);refine⟨?_,e2⟩;refine e1.trans ?_;unfold deliver;rw[AG,zD];rfl
theorem PV.deliver (h:PV P p){q r:Int}(k:Fit p q r)(hP:P.Ok):PV P p.deliver :=
 PV.fold hP p.due (p:={ p with wire:=p.rest }) ⟨h.s,h.r,fun f hf=>h.w f (iF hf),h.g⟩ (rest_fit k) (fun f hf=>⟨k.wire f (due_mem hf),h.w f (due_mem hf)⟩)
theorem xN (hP:P.Ok){q r:Int}(h:PV P p)(k:Fit p q r)(hn:p.now+1<=1000000)(j:JpP p):p.tick.nz P=(p.nz P).tick/\JpP p.tick:=by
 have h0:PV P { p with now:=p.now+1 }:=⟨h.s,h.r,h.w,h.g⟩;have k0:Fit { p with now:=p.now+1 } q r:=⟨k.a,k.b,⟨by have:=k.now;dsimp only;omega,hn⟩,k.wire,k.due,k.log,k.q,k.r⟩;have j0:JpP { p with now:=p.now+1 }:=fun i=>by cases i;exact j false;exact j true
 obtain⟨e1,j1⟩:=rP hP h0 k0 j0;have h1:=h0.deliver k0 hP;have k1:=deliver_fit k0;have e2:=qD (Nm.of h1 j1) false;have h2:=h1.tick1 k1 false;have j2:=qF j1 false;have e3:=qD (Nm.of h2 j2) true;refine⟨?_,qF j2 true⟩;show(((({ p with now:=p.now+1 }:Pr).deliver).tick1 false).tick1 true).nz P=(((({ p.nz P with now:=p.now+1 }:Pr).deliver).tick1 false).tick1 true);rw[e3,e2,e1];rfl
theorem xO (h:Nm P p)(i:Bool)(n:Int):(p.send i n).nz P=(p.nz P).send i n:=by
 have e:=yx (a:=P.iss i) (p.sd i).c p.now (bytes (p.sd i) n) (h.jr i) (h.iss i);unfold send;dsimp only;rw[nN];show Pr.nz P (if(p.sd i).closed=true\/((p.sd i).all.length:Int)<=(p.sd i).sent then _ else if(p.sd i).c.refusal≠0 then _ else _)=(if(p.sd i).closed=true\/((p.sd i).all.length:Int)<=(p.sd i).sent then _ else if(p.sd i).c.refusal≠0 then _ else _);split
 ·rfl
 split
 ·rfl
 rw[put_nz,iK];show _=((p.nz P).setSd i { (p.sd i).nz with c:=((p.sd i).c.nz.send p.now (bytes (p.sd i) n)).1,sent:=(p.sd i).sent+(p.sd i).c.sendN (bytes (p.sd i) n) }).put i ((p.sd i).c.nz.send p.now (bytes (p.sd i) n)).2;rw[<-e];rfl
theorem xP (h:Nm P p)(i:Bool)(n:Int):(p.recv i n).nz P=(p.nz P).recv i n:=by
 have e:=yy (a:=P.iss i) (p.sd i).c p.now n (h.jr i) (h.iss i);unfold recv;dsimp only;rw[nN];show Pr.nz P (if(p.sd i).c.recvErr n≠0 then _ else _)=(if(p.sd i).c.recvErr n≠0 then _ else _);split
 ·unfold setC;rw[iK,nN];show _=(p.nz P).setSd i { (p.sd i).nz with c:=((p.sd i).c.nz.recv p.now n).1 };rw[<-e];rfl
 rw[put_nz,iK];show _=((p.nz P).setSd i { (p.sd i).nz with c:=((p.sd i).c.nz.recv p.now n).1,got:=(p.sd i).got++(p.sd i).c.bx.takeS n,fin:=(p.sd i).fin||(p.sd i).c.recvE n }).put i ((p.sd i).c.nz.recv p.now n).2;rw[<-e];rfl
theorem xQ (h:Nm P p)(i:Bool):(p.shut i).nz P=(p.nz P).shut i:=by
 have e:=xI (a:=P.iss i) (p.sd i).c p.now (h.jr i) (h.iss i);unfold shut;dsimp only;rw[nN];show Pr.nz P (if(p.sd i).closed=true then _ else if(p.sd i).c.closeE≠0 then _ else _)=(if(p.sd i).closed=true then _ else if(p.sd i).c.closeE≠0 then _ else _);split
 ·rfl
 split
 ·rfl
 rw[put_nz,iK];show _=((p.nz P).setSd i { (p.sd i).nz with c:=((p.sd i).c.nz.close p.now).1,closed:=true }).put i ((p.sd i).c.nz.close p.now).2;rw[<-e];rfl
theorem xR (h:JpP p)(i:Bool)(n:Int):JpP (p.send i n):=by
 unfold send;dsimp only;split
 ·exact h
 split
 ·exact h
 exact iV h i (d:={ p.sd i with c:=((p.sd i).c.send p.now (bytes (p.sd i) n)).1,sent:=_ }) rfl (zA _ _ _ (h i)) _
theorem xS (h:JpP p)(i:Bool)(n:Int):JpP (p.recv i n):=by
 unfold recv;dsimp only;split
 ·exact iV h i (d:={ p.sd i with c:=((p.sd i).c.recv p.now n).1 }) rfl (sD _ _ _ (h i)) []
 exact iV h i (d:={ p.sd i with c:=((p.sd i).c.recv p.now n).1,got:=_,fin:=_ }) rfl (sD _ _ _ (h i)) _
theorem xT (h:JpP p)(i:Bool):JpP (p.shut i):=by
 unfold shut;dsimp only;split
 ·exact h
 split
 ·exact h
 exact iV h i (d:={ p.sd i with c:=((p.sd i).c.close p.now).1,closed:=true }) rfl (xJ _ _ (h i)) _
theorem AI (h:Nm P p)(x:Dv):(p.opD x).nz P=(p.nz P).opD x:=by
 unfold opD;split
 ·exact xO h _ _
 split
 ·exact xP h _ _
 split
 ·exact xQ h _
 rfl
theorem AJ (h:JpP p)(x:Dv):JpP (p.opD x):=by
 unfold opD;split
 ·exact xR h _ _
 split
 ·exact xS h _ _
 split
 ·exact xT h _
 exact h
theorem xU (hP:P.Ok):∀(k:Nat) {p:Pr} {n:Int},Al P p n->0<=n->n+k<=5000->JpP p->(ticks k p).nz P=ticks k (p.nz P)/\JpP (ticks k p):=by
 intro k
 induction k with
 | zero=>intro p n _ _ _ j;exact⟨rfl,j⟩
 | succ k ih =>
  intro p n h h0 hn j;obtain⟨e1,j1⟩:=xN hP h.pv h.run.1 (by have:=h.run.2;omega) j;obtain⟨i1,i2⟩:=ih (h.tick h0 (by omega) hP) (by omega) (by omega) j1;refine⟨?_,i2⟩;show(ticks k p.tick).nz P=ticks k (p.nz P).tick;rw[i1,e1]
theorem xV (hP:P.Ok){n:Int}(h:Al P p n)(h0:0<=n)(hn:n+21<=5000)(j:JpP p)(x:Dv):((p.doD x).1).nz P=ticks (aR x.tick 20).toNat ((p.nz P).opD x)/\JpP (p.doD x).1:=by
 have hb:=ai x.tick 20 (by decide);obtain⟨e,-⟩:=h.doD hP x h0 hn;rw[e];obtain⟨i1,i2⟩:=xU hP (aR x.tick 20).toNat (h.opD x) (by omega) (by omega) (AJ j x);refine⟨?_,i2⟩;show(ticks _ (p.opD x)).nz P=_;rw[i1,AI (Nm.of h.pv j)]
theorem BD (hP:P.Ok)(hQ:Q.Ok){n:Int}(h:Al P p n)(k:Al Q q n)(h0:0<=n)(hn:n+21<=5000)(j:JpP p)(j':JpP q)(e:p.nz P=q.nz Q)(x:Dv) :
  ((p.doD x).1).nz P=((q.doD x).1).nz Q/\JpP (p.doD x).1/\JpP (q.doD x).1:=by
 obtain⟨a1,a2⟩:=xV hP h h0 hn j x;obtain⟨b1,b2⟩:=xV hQ k h0 hn j' x;exact⟨by rw[a1,b1,e],a2,b2⟩
end Pr
theorem BE (x:Rw)(fates:List Int)(n m:Nat):Pr.JpP (gr x fates n m):=by
 rw[iI];intro i;rw[Pr.put_sd]
 cases i
 ·exact fun _=>rfl
 exact fun h=>absurd h (by show ¬(2:Int)=1;decide)
theorem qG (c:Cf):(cU 0 c).nz=cU 0 { c with iss:=0 }:=rfl
theorem qH (c:Cf):(ez 0 c).nz=ez 0 { c with iss:=0 }:=by unfold ez;rw[du,qG]
theorem xW (c:Cf):((eX 0 c).1).nz=(eX 0 { c with iss:=0 }).1:=by
 show((ez 0 c).synC).nz=(ez 0 { c with iss:=0 }).synC;rw[lB,qH]
theorem sG (x:Rw):(dy x).sq=bY x.issA:=by
 show ar (bY x.issA) 0=bY x.issA;unfold ar bY;omega
theorem zF (x:Rw)(b:Int):(dy x).nz (bY x.issA) b=(ez 0 { df x with iss:=0 }).synS:=by
 have h:=lC (c:=ez 0 (df x)) (b:=b) (.inl rfl);rw[qH]at h;exact h
theorem sH (x:Rw):(cD 0 (dC x) (dy x)).nz=cD 0 { dC x with iss:=0 } (ez 0 { df x with iss:=0 }).synS:=by
 unfold cD;rw[du,sB (a:=0) (cU 0 (dC x)) (dy x) (sG x),qG,zF]
def Bf (x:Rw)(fates:List Int)(n m:Nat):Pr:={ a:=AN (eX 0 { df x with iss:=0 }).1 (dQ 0 n),b:=AN (cD 0 { dC x with iss:=0 } (ez 0 { df x with iss:=0 }).synS).synC (dQ 1 m),wire:=[],now:=0,fates:=fates,many:=0,log:=[] }
theorem zG (x:Rw)(fates:List Int)(n m:Nat):(fq x fates n m).nz (fm x)=Bf x fates n m:=by
 unfold Bf;rw[<-xW,<-sH,<-lB];rfl
theorem Ao (x:Rw)(a b:Int)(fates:List Int)(n m:Nat):(gr x fates n m).nz (fm x)=(gr { x with issA:=a,issB:=b } fates n m).nz (fm { x with issA:=a,issB:=b }):=by
 have key:∀y:Rw,((cD 0 (dC y) (dy y)).synS).nz ((fm y).iss true) ((fm y).iss (!true))=(cD 0 (dC y) (dy y)).nz.synS:=fun y=>by
  have hi:(cD 0 (dC y) (dy y)).irs=bY y.issA:=sG y;exact lC (.inr hi)
 have e1:∀y:Rw,(gr y fates n m).nz (fm y)=(Bf y fates n m).put true [(cD 0 { dC y with iss:=0 } (ez 0 { df y with iss:=0 }).synS).synS]:=fun y=>by
  rw[iI,Pr.put_nz,List.map_singleton,key,zG,sH]
 have e2:{ df { x with issA:=a,issB:=b }with iss:=0 }={ df x with iss:=0 }:=rfl;have e3:{ dC { x with issA:=a,issB:=b }with iss:=0 }={ dC x with iss:=0 }:=rfl;rw[e1,e1];unfold Bf;rw[e2,e3]
end
section
set_option maxHeartbeats 8000000
set_option maxRecDepth 100000
open Go.ChangeShapes Go.WideShapes Go.ChangeAt Go.RowKit Go.Shelf
theorem jJ (a b:Int):gb a b=rel a b:=by unfold gb bY rel;omega
theorem rQ (W:World)(t1 t2 t3:TypeId)(a b c:List Value):RowB W.heap.size t1 a (((W.alloc (.cells a.toArray t1)).alloc (.cells b.toArray t2)).alloc (.cells c.toArray t3))/\RowB (W.heap.size+1) t2 b (((W.alloc (.cells a.toArray t1)).alloc (.cells b.toArray t2)).alloc (.cells c.toArray t3))/\RowB (W.heap.size+2) t3 c (((W.alloc (.cells a.toArray t1)).alloc (.cells b.toArray t2)).alloc (.cells c.toArray t3))/\Below W.heap.size W (((W.alloc (.cells a.toArray t1)).alloc (.cells b.toArray t2)).alloc (.cells c.toArray t3)):=by
 have b1:=(Below.refl W.heap.size W).alloc (Nat.le_refl _) (.cells a.toArray t1);have r1:=RowB.new W t1 a;have s1:(W.alloc (.cells a.toArray t1)).heap.size=W.heap.size+1:=World.size_alloc ..;generalize W.alloc (.cells a.toArray t1)=w1 at *;have b2:=(Below.refl w1.heap.size w1).alloc (Nat.le_refl _) (.cells b.toArray t2);have r2:=RowB.new w1 t2 b;have s2:(w1.alloc (.cells b.toArray t2)).heap.size=w1.heap.size+1:=World.size_alloc ..;generalize w1.alloc (.cells b.toArray t2)=w2 at *;have b3:=(Below.refl w2.heap.size w2).alloc (Nat.le_refl _) (.cells c.toArray t3);have r3:=RowB.new w2 t3 c;rw[s1]at r2;rw[s2,s1]at r3;exact⟨(r1.below b2).below b3,r2.below b3,r3,(b1.trans (b2.mono b1.size)).trans (b3.mono (Nat.le_trans b1.size b2.size))⟩
theorem RowB.flSeg {B:Nat}{x:bD}{W:World}(h:RowB B 46 (cQ x) W):W.rangeAt B 3 (aU (x.1.s,x.2.1,x.2.2)):=fun j v hj=>h.cell (3+j) v (by rw[show cQ x=[.int .i64 (bI x.1.dst),.int .i64 x.1.due,.bool x.1.held]++aU (x.1.s,x.2.1,x.2.2)from rfl,List.getElem?_append_right (by show 3<=3+j;omega)];rw[show 3+j-[Value.int .i64 (bI x.1.dst),.int .i64 x.1.due,.bool x.1.held].length=j by show 3+j-3=j;omega];exact hj)
def Ba (v:World)(F i:Nat)(x:Value):Prop:=v.cell? ⟨F,i,none⟩=some x/\v.frozen? ⟨F,i,none⟩=false
theorem Bc {F:Nat}{v:World}(h:RowB F 43 (aU (cy,none,0)) v):Ba v F 0 (.int .i64 0)/\Ba v F 1 (.int .i64 0)/\Ba v F 2 (.int .i64 0)/\Ba v F 3 (.int .i64 0)/\Ba v F 4 (.bool false)/\Ba v F 5 (.bool false)/\Ba v F 6 (.bool false)/\Ba v F 7 (.bool false)/\Ba v F 8 (.int .i64 0)/\Ba v F 9 (.int .i64 0)/\Ba v F 10 (.bool false)/\Ba v F 11 (.slice none 0 0)/\Ba v F 12 (.string ⟨#[]⟩):=by
 refine⟨?_,?_,?_,?_,?_,?_,?_,?_,?_,?_,?_,?_,?_⟩ <;> exact⟨h.cell _ _ rfl,h.free _⟩
structure Sh3 (x:bD)(w:World)(X:Nat)(y:cA)(W:World):Prop where
 raw:RowB X 46 (cQ x) W
 res:RowB (X+1) 43 (aU (cy,none,0)) W
 cur:RowB (X+2) 43 (aU y) W
 bl:SpAt W X x.2.1 x.1.s.bl
 bel:Below X w W
namespace Sh3
variable {x : bD} {w W W' : World} {X : Nat} {y z : cA}
theorem lo (h:Sh3 x w X y W):X<=W.heap.size:=Nat.le_of_lt h.raw.lt
theorem below (h:Sh3 x w X y W)(hb:Below W.heap.size W W'):Sh3 x w X y W':=⟨h.raw.below hb,h.res.below hb,h.cur.below hb,h.bl.below (hb.mono h.lo),h.bel.trans (hb.mono h.lo)⟩
theorem set (h:Sh3 x w X y W)(i:Nat)(v:Value)(he:(aU y).set i v=aU z):Sh3 x w X z (W.setCell ⟨X+2,i,none⟩ v) :=
 ⟨h.raw.other (by omega) i v,h.res.other (by omega) i v,by have:=h.cur.set i v;rw[he]at this;exact this,h.bl.below ((Below.refl X W).setCell (p:=⟨X+2,i,none⟩) (by show X<=X+2;omega) v),h.bel.setCell (p:=⟨X+2,i,none⟩) (by show X<=X+2;omega) v⟩
theorem grown (h:Sh3 x w X y W){r:Option Nat}(hg:W.grownBy W' r)(hr:∀k,r=some k->X<=k/\cz W k 92):Sh3 x w X y W':=by
 have hb:=aL hg h.lo (fun k e=>(hr k e).1);have k1:∀{B:Nat} {t:TypeId} {cs:List Value},RowB B t cs W->t≠92->RowB B t cs W':=fun h ht=>(hg.block _ h.lt (fun e=>(show cz W _ _ from⟨_,_,h⟩).ne (hr _ e.symm).2 ht rfl)).trans h;exact⟨k1 h.raw (by decide),k1 h.res (by decide),k1 h.cur (by decide),h.bl.below hb,h.bel.trans hb⟩
end Sh3
def As (w:World)(s:Sg)(e:Ending)(w':World):Prop:=∃a cap,e= .returned (dO s a cap)/\SpAt w' w'.heap.size a s.bl/\Below w.heap.size w w'/\∀ad,a=some ad->w.heap.size<=ad.block/\ad.block<w'.heap.size
def jK (x:Fl)(a b:Int):Int:=if x.dst=true then a else b
def rR (x:Fl)(a b:Int):Int:=if x.dst=true then b else a
theorem zH (x:bD) (ia ib:Int) (w:World) (ha:aG ia) (hb:aG ib) (hs:x.1.s.Ok) (hsp:SpAt w w.heap.size x.2.1 x.1.s.bl) :
  Calls Tryz.prog 18 #[.agg (cQ x).toArray,.int .i64 ia,.int .i64 ib] w (As w (x.1.s.nz (jK x.1 ia ib) (rR x.1 ia ib))):=by
 have HI:=hid (And.intro ha hb);have dk:=hid hs;have HT:=hid (rQ w 46 43 43 (cQ x) (aU (cy,none,0)) (aU (x.1.s,x.2.1,x.2.2)));have be:=hid (show RowB w.heap.size 46 (cQ x) ((w.alloc (.cells (cQ x).toArray 46)).alloc (.cells (aU (cy,none,0)).toArray 43))from(RowB.new w 46 (cQ x)).below ((Below.refl _ _).alloc (Nat.le_refl _) _));have HS:=hid (show Sh3 x w w.heap.size (x.1.s,x.2.1,x.2.2) (((w.alloc (.cells (cQ x).toArray 46)).alloc (.cells (aU (cy,none,0)).toArray 43)).alloc (.cells (aU (x.1.s,x.2.1,x.2.2)).toArray 43))from⟨HT.1,HT.2.1,HT.2.2.1,hsp.below HT.2.2.2,HT.2.2.2⟩);clear ha hb hs hsp HT;obtain⟨fr,dn⟩:∃fr,fr=jK x.1 ia ib:=⟨_,rfl⟩;obtain⟨to',hto⟩:∃to',to'=rR x.1 ia ib:=⟨_,rfl⟩;rw[<-dn,<-hto];have am:=hid (And.intro dn hto);have es:=hid (show aG fr/\aG to' from by rw[dn,hto];unfold jK rR;split;exact⟨HI.1,HI.2⟩;exact⟨HI.2,HI.1⟩);clear dn hto
 go_enter Tryz.func18,Tryz.ntmps18
 go_upto_region 2 with(refine wpList_load_mid rfl 43 _ rfl w.heap.size 3 rfl (aU (x.1.s,x.2.1,x.2.2)) _ be.flSeg Tryz.underlying43 rfl jk ?_;(try dsimp only[aU]))
 change Code.wp _ _ _ _ (((w.alloc (.cells (cQ x).toArray 46)).alloc (.cells (aU (cy,none,0)).toArray 43)).alloc (.cells (aU (x.1.s,x.2.1,x.2.2)).toArray 43));obtain⟨X,hX⟩:∃X,X=w.heap.size:=⟨_,rfl⟩;have HX:=hid hX;rw[<-hX]at HS|-;rw[show X+1+1=X+2 from rfl];clear hX be;generalize (((w.alloc (.cells (cQ x).toArray 46)).alloc (.cells (aU (cy,none,0)).toArray 43)).alloc (.cells (aU (x.1.s,x.2.1,x.2.2)).toArray 43))=w1 at HS|-;obtain⟨dI,hdI⟩:∃dI,dI=bI x.1.dst:=⟨_,rfl⟩;have z0:w1.cell? ⟨X,0,none⟩=some (.int .i64 dI):=by rw[hdI];exact HS.raw.cell 0 _ rfl
 have eu:=hid hdI;clear hdI
 go_upto_if 18 with fail
 go_cut [8,9]from 19 to 20 (fun v8 v9 wx=>v8= .int .i64 fr/\v9= .int .i64 to'/\wx=w1)
 case first =>
  rcases hd:x.1.dst
  ·have hdi:(dI==0)=true:=by rw[eu.o,hd];rfl
   have e1:fr=ib:=by rw[am.1];unfold jK;rw[hd];rfl
   have e2:to'=ia:=by rw[am.2];unfold rR;rw[hd];rfl
   have E1:=hid e1;have E2:=hid e2;clear e1 e2;go_wp2_with fail
   go_meet
   case rel=>exact⟨by rw[E1.out],by rw[E2.out],rfl⟩
  have hdi:(dI==0)=false:=by rw[eu.o,hd];rfl
  have e1:fr=ia:=by rw[am.1];unfold jK;rw[hd];rfl
  have e2:to'=ib:=by rw[am.2];unfold rR;rw[hd];rfl
  have E1:=hid e1;have E2:=hid e2;clear e1 e2;go_wp2_with fail
  go_meet
  case rel=>exact⟨by rw[E1.out],by rw[E2.out],rfl⟩
 case rest =>
  obtain⟨rfl,rfl,hwc⟩:=hcut;have hw2:=hwc.symm;clear hwc;subst hw2;clear am HI z0 eu;have hJ:=hid (show aG x.1.s.sq/\aG x.1.s.ak from⟨by have:=dk.sq;unfold aG;omega,by have:=dk.ak;unfold aG;omega⟩);have z2:=HS.cur.cell 2 (.int .i64 x.1.s.sq) rfl;have z3:=HS.cur.free 2;go_wp2_with fail;refine(jI x.1.s.sq fr _ hJ.1 es.1).mono ?_;rintro e wx⟨rfl,rfl⟩;rw[jJ]
  go_upto_region 8 with fail
  have a7:=hid (HS.set 2 (.int .i64 (rel x.1.s.sq fr)) (z:=({ x.1.s with sq:=rel x.1.s.sq fr },x.2.1,x.2.2)) rfl);clear HS z2 z3;generalize w1.setCell ⟨X+2,2,none⟩ (.int .i64 (rel x.1.s.sq fr))=w2 at a7|-;obtain⟨hv,hhv⟩:∃hv,hv=x.1.s.has:=⟨_,rfl⟩;have z7:w2.cell? ⟨X+2,7,none⟩=some (.bool hv):=by rw[hhv];exact a7.cur.cell 7 _ rfl
  have HH:=hid hhv.symm;clear hhv
  go_upto_if 27 with fail
  go_cut []from 28 to 32 (fun wx=>Sh3 x w X ({ x.1.s with sq:=rel x.1.s.sq fr,ak:=if x.1.s.has=true then rel x.1.s.ak to' else x.1.s.ak },x.2.1,x.2.2) wx)
  case first =>
   cases hv
   ·go_wp2_with fail
    go_meet
    case rel=>first | (rw[HH.o,if_neg (by decide)];exact a7.o) | (have h:=a7.o;simpa[HH.o]using h)
   have z3:=a7.cur.cell 3 (.int .i64 x.1.s.ak) rfl;have z4:=a7.cur.free 3;go_wp2_with fail;refine(jI x.1.s.ak to' _ hJ.2 es.2).mono ?_;rintro e wx⟨rfl,rfl⟩;rw[jJ];go_wp2_with fail
   go_meet
   case rel=>exact a7.set 3 (.int .i64 (rel x.1.s.ak to')) (by rw[HH.o,if_pos rfl];rfl)
  case rest =>
   clear a7 z7 HH;have HS:=hid hcut;clear hcut;obtain⟨cur,hcur⟩:∃cur:Sg,cur={ x.1.s with sq:=rel x.1.s.sq fr,ak:=if x.1.s.has=true then rel x.1.s.ak to' else x.1.s.ak }:=⟨_,rfl⟩;rw[<-hcur]at HS;have hO:=hid hcur;clear hcur;obtain⟨bl,hbl⟩:∃bl,bl=x.1.s.bl:=⟨_,rfl⟩;have cT:=hid hbl;have ki:=hid (show cur.bl=bl from by rw[hO.o,hbl]);clear hbl;have kn:=hid (show ∀y∈bl,aG y.1/\aG y.2 from fun y hy=>by have:=dk.blk y (by rw[<-cT.o];exact hy);exact⟨by have:=this.1;unfold aG;omega,by have:=this.2.1;unfold aG;omega⟩);have kq:=hid (show bl.length<=3 from by rw[cT.o];exact dk.blen);have a6:=hid (show SpAt wc X x.2.1 bl from by rw[cT.o];exact HS.bl);have nw:=kq.o;go_wp2_with fail
   go_loopg [10,11] bl.length (fun g lv iv wr=>∃(k:Nat) (a:Option Addr) (cap:Nat),iv= .int .i64 (k:Int)/\g+k=bl.length/\lv= .slice a ((bl.map fun b=>(rel b.1 to',rel b.2 to')).take k).length cap/\aH wr wc.heap.size (.slice a ((bl.map fun b=>(rel b.1 to',rel b.2 to')).take k).length cap) ((bl.map fun b=>(rel b.1 to',rel b.2 to')).take k)/\Sh3 x w X (cur,x.2.1,x.2.2) wr/\wc.heap.size<=wr.heap.size)
   case atStart=>exact⟨0,none,0,rfl,rfl,rfl,aH.nil _ _,HS.o,Nat.le_refl _⟩
   case round =>
    obtain⟨k,a,cap,rfl,ks,rfl,ho,hs,hz⟩:=hrel;have HOW:=hid ho;have ab:=hid hs;have ev:=hid hz;clear ho hs hz;have l0:wr.cell? ⟨X+2,11,none⟩=some (.slice x.2.1 bl.length x.2.2):=by have h:=ab.cur.cell 11 (.slice x.2.1 cur.bl.length x.2.2) rfl;rwa [ki.o]at h
    by_cases hk:k<bl.length
    ·have ey:=hid (show SpAt wr X x.2.1 bl from by rw[cT.o];exact ab.bl);obtain⟨b,l4,ff,hblt,hcs⟩:=ey.cells (by omega);obtain⟨d0,d1⟩:=hcs k hk;clear hcs;rw[ff]at l0;have ny:=hid ff;clear ff;have o0:(k:Int)<(bl.length:Int):=by omega
     have eC:=hid (show(bl.map fun b=>(rel b.1 to',rel b.2 to')).take (k+1)=(bl.map fun b=>(rel b.1 to',rel b.2 to')).take k++[(rel bl[k].1 to',rel bl[k].2 to')] by rw[List.take_succ_eq_append_getElem (by rw[List.length_map];exact hk),List.getElem_map]);have fo:=hid (kn.o _ (List.getElem_mem hk));have hR:=hid (show((bl.map fun b=>(rel b.1 to',rel b.2 to')).take k).length=k by rw[List.length_take,List.length_map];omega);generalize bl[k]=y at d0 d1 eC fo;generalize (bl.map fun b=>(rel b.1 to',rel b.2 to')).take k=TT at HOW eC hR|-;obtain⟨y1,y2⟩:=y;dsimp only at d0 d1
     go_upto_region 14 with fail
     have a7:=hid (ab.below (Below.refl _ _).drew);have fs:=hid (HOW.bel (Below.refl _ _).drew);have l5:=hid (a7.below ((Below.refl _ _).alloc (Nat.le_refl _) (.cells #[.int .i64 (rel y1 to'),.int .i64 (rel y2 to')] 92)));have b9:=hid (fs.alloc (.cells #[.int .i64 (rel y1 to'),.int .i64 (rel y2 to')] 92))
     have l6:=hid (show ∀k,(Value.slice a TT.length cap).ownBlock=some k->X<=k/\cz (wr.drew.alloc (.cells #[.int .i64 (rel y1 to'),.int .i64 (rel y2 to')] 92)) k 92 from fun k e=>by
      have h1:=(b9.lt k e).1
      cases a with
      | none=>cases e
      | some ad=>cases e;exact⟨Nat.le_trans HS.lo h1,b9.ty ad rfl⟩)
     have l7:=hid (At.new (B:=wr.heap.size) (W:=wr.drew) (i:=0) (v:=.int .i64 (rel y1 to')) (vs:= #[.int .i64 (rel y1 to'),.int .i64 (rel y2 to')]) 92 (by simp) rfl);have l8:=hid (At.new (B:=wr.heap.size) (W:=wr.drew) (i:=1) (v:=.int .i64 (rel y2 to')) (vs:= #[.int .i64 (rel y1 to'),.int .i64 (rel y2 to')]) 92 (by simp) rfl);have fv:=hid (show TT.length<=4398046511104 by rw[hR.o];omega)
     go_region_law (first | (refine fX rfl _ _ rfl wc.heap.size (.slice a TT.length cap) TT (by rfl) b9.o fv.o wr.heap.size (rel y1 to',rel y2 to') (by rfl) l7.1 l8.1 (by have:=ev.o;simp;omega) ?_;intro v4 w4 ho4 hg4 hb4;obtain⟨a4,bn,rfl,-⟩:=ho4.val;have l9:=hid (l5.grown hg4 l6.o)) | (go_simp;go_at_call 24;refine(jI _ to' _ (by first | exact fo.1 | exact fo.2) es.2).mono ?_;rintro e w3⟨rfl,rfl⟩;rw[jJ]))
     all_goals
      have hle:(TT++[(rel y1 to',rel y2 to')]).length=TT.length+1:=by rw[List.length_append];rfl
      have hS:=aL (N:=wc.heap.size) hg4 (by have:=ev.o;simp;omega) (fun k e=>(b9.lt k e).1);have fx:wc.heap.size<=w4.heap.size:=Nat.le_trans (by have:=ev.o;simp;omega) hS.size;have hT:=hid ho4;have hT:=hid ho4;clear ho4 hg4 hb4 hS;go_wp2_with fail
      go_roundg (gk-1)
      case measure=>omega
      case rel=>exact⟨k+1,a4,bn,by first | rfl | go_num | (have e:wrap64 ((k:Int)+1)=((k+1:Nat):Int):=(by unfold wrap64;omega);rw[e]),by omega,by rw[eC.o,hle],by rw[eC.o];exact hT.o,l9.o,fx⟩
    obtain rfl:k=bl.length:=by omega
    have HE:=hid (show(bl.map fun b=>(rel b.1 to',rel b.2 to')).take bl.length=(bl.map fun b=>(rel b.1 to',rel b.2 to')) by rw[List.take_of_length_le];rw[List.length_map];exact Nat.le_refl _);replace HOW:=hid (HE.o ▸ HOW.o);have hlm:(bl.map fun b=>(rel b.1 to',rel b.2 to')).length=bl.length:=List.length_map _;rw[HE.o];obtain⟨M,hM⟩:∃M,M=(bl.map fun b=>(rel b.1 to',rel b.2 to')):=⟨_,rfl⟩;rw[<-hM]at HOW hlm|-;have HM:=hid hM;have la:=hid hlm;clear hM HE hlm;have o1:=ab.cur.free 11;have q0:=ab.cur.cell 0 _ rfl;have q1:=ab.cur.cell 1 _ rfl;have q2:=ab.cur.cell 2 _ rfl;have q3:=ab.cur.cell 3 _ rfl;have q4:=ab.cur.cell 4 _ rfl;have q5:=ab.cur.cell 5 _ rfl;have q6:=ab.cur.cell 6 _ rfl;have q7:=ab.cur.cell 7 _ rfl;have q8:=ab.cur.cell 8 _ rfl;have q9:=ab.cur.cell 9 _ rfl;have lb:=ab.cur.cell 10 _ rfl;have lc:=ab.cur.cell 12 _ rfl;obtain⟨⟨r0,p0⟩,⟨r1,p1⟩,⟨r2,p2⟩,⟨r3,p3⟩,⟨r4,p4⟩,⟨r5,p5⟩,⟨r6,p6⟩,⟨r7,p7⟩,⟨r8,p8⟩,⟨r9,p9⟩,⟨lg,lj⟩,⟨ls,m0⟩,⟨m1,m2⟩⟩:=Bc ab.res;go_wp2_with fail;clear q0 q1 q2 q3 q4 q5 q6 q7 q8 q9 lb lc r0 p0 r1 p1 r2 p2 r3 p3 r4 p4 r5 p5 r6 p6 r7 p7 r8 p8 r9 p9 lg lj ls m0 m1 m2;have k0:=ab.set 11 (.slice a M.length cap) (z:=({ cur with bl:=M },a,cap)) rfl;have k1:aQ (X+1) ({ cur with bl:=M },a,cap) (cq (wr.setCell ⟨X+2,11,none⟩ (.slice a M.length cap)) (X+1) ({ cur with bl:=M },a,cap)):=aQ.put (x:=(cy,none,0)) k0.res;have hch:=(Chg.refl (X+2) wr).setCell 11 (.slice a M.length cap);have hc2:=dN (wr.setCell ⟨X+2,11,none⟩ (.slice a M.length cap)) (X+1) ({ cur with bl:=M },a,cap);obtain⟨a5,m3,e5,h5,-,h8⟩:=HOW.at (by rw[la.o];omega)
    cases e5
    have hsp:SpAt (cq (wr.setCell ⟨X+2,11,none⟩ (.slice a M.length cap)) (X+1) ({ cur with bl:=M },a,cap)) (cq (wr.setCell ⟨X+2,11,none⟩ (.slice a M.length cap)) (X+1) ({ cur with bl:=M },a,cap)).heap.size a M:=((h5.chgN hch (Nat.le_refl _) (fun ad e=>by have:=(h8 ad e).1;have:=HS.cur.lt;omega)).chgN hc2 (by rw[World.size_setCell];exact Nat.le_refl _) (fun ad e=>by have:=(h8 ad e).1;have:=HS.cur.lt;omega)).mono (Nat.le_trans hch.size hc2.size);have m4:Below w.heap.size w (cq (wr.setCell ⟨X+2,11,none⟩ (.slice a M.length cap)) (X+1) ({ cur with bl:=M },a,cap)):=by rw[<-HX.o];exact k0.bel.trans ⟨hc2.os,hc2.tape,hc2.output,hc2.size,fun k hk=>hc2.block k (Nat.lt_of_lt_of_le hk k0.lo) (by omega)⟩
    have HQ:({ cur with bl:=M }:Sg)=x.1.s.nz fr to':=by rw[hO.o,HM.o,cT.o];rfl
    exact bodyPost_ret (results_cell_row (p:=6) (ty:=43) rfl _ _ (X+1) 43 _ (0,0) _ (by rfl) k1 Tryz.underlying43 rfl (by kernel_rfl)) rfl ⟨a,cap,by rw[<-HQ];rfl,by rw[<-HQ];exact hsp,m4,fun ad e=>by have h1:=h8 ad e;have h2:=HS.cur.lt;have h3:=HX.o;have h4:=(HOW.lt _ h1.2.1).2;have h5:=Nat.le_trans hch.size hc2.size;exact⟨by omega,Nat.lt_of_lt_of_le h4 h5⟩⟩
end
theorem AK (x:Rw)(f:Fl):jK f (bY x.issA) (bY x.issB)=(fm x).iss (!f.dst):=by unfold jK;cases f.dst <;> rfl
theorem Au (x:Rw)(f:Fl):rR f (bY x.issA) (bY x.issB)=(fm x).iss f.dst:=by unfold rR;cases f.dst <;> rfl
theorem BG {P Q:Pr.Par}{p q:Pr}(e:p.nz P=q.nz Q){L M:List bD}(hL:L.map (·.1)=p.log)(hM:M.map (·.1)=q.log) :
  L.length=M.length/\∀i (h:i<L.length) (k:i<M.length),L[i].1.nz P=M[i].1.nz Q:=by
 have h1:p.log.map (Fl.nz P)=q.log.map (Fl.nz Q):=congrArg Pr.log e;rw[<-hL,<-hM,List.map_map,List.map_map]at h1;refine⟨by have:=congrArg List.length h1;simpa using this,fun i h k=> ?_⟩;have h2:=congrArg (fun l=>l[i]?) h1;simp only[List.getElem?_map,List.getElem?_eq_getElem h,List.getElem?_eq_getElem k,Option.map_some]at h2;exact Option.some.inj h2
theorem zW {P Q:Pr.Par}{f g:Fl}(e:f.nz P=g.nz Q):f.dst=g.dst/\f.due=g.due/\f.s.nz (P.iss (!f.dst)) (P.iss f.dst)=g.s.nz (Q.iss (!g.dst)) (Q.iss g.dst):=by
 have h1:(f.nz P).dst=(g.nz Q).dst:=congrArg _ e;have h2:(f.nz P).due=(g.nz Q).due:=congrArg _ e;have h3:(f.nz P).s=(g.nz Q).s:=congrArg _ e;exact⟨h1,h2,h3⟩
theorem BH {P Q:Pr.Par}{p q:Pr}(e:p.nz P=q.nz Q):p.a.got=q.a.got/\p.b.got=q.b.got/\p.a.c.st=q.a.c.st/\p.b.c.st=q.b.c.st:=by
 have h1:(p.nz P).a=(q.nz Q).a:=congrArg _ e;have h2:(p.nz P).b=(q.nz Q).b:=congrArg _ e;have g1:(p.nz P).a.got=(q.nz Q).a.got:=congrArg _ h1;have g2:(p.nz P).b.got=(q.nz Q).b.got:=congrArg _ h2;have g3:(p.nz P).a.c.st=(q.nz Q).a.c.st:=congrArg (fun s:Sd=>s.c.st) h1;have g4:(p.nz P).b.c.st=(q.nz Q).b.c.st:=congrArg (fun s:Sd=>s.c.st) h2;exact⟨g1,g2,g3,g4⟩
section
set_option maxHeartbeats 8000000
set_option maxRecDepth 100000
open Go.RowKit Go.Shelf
theorem AL {N:Nat}(w:World)(n:Nat):Below N w (w.drewN n) :=
 have h:=Below.refl N w
 ⟨h.os,h.tape,h.output,h.size,h.block⟩
theorem AM (w:World) (n₀:Nat) (g:Sg) (a b:Option Addr) (ca cb:Nat) (S:ByteArray) (hA:SpAt w n₀ a g.bl) (hB:SpAt w n₀ b g.bl) (hn:n₀<=w.heap.size) :
  Calls Tryz.prog 20 #[.agg #[.int .i64 g.fp,.int .i64 g.tp,.int .i64 g.sq,.int .i64 g.ak,.bool g.syn,.bool g.fin,.bool g.rst,.bool g.has,.int .i64 g.win,.int .i64 g.mss,.bool g.sacks,.slice a g.bl.length ca,.string S],.agg #[.int .i64 g.fp,.int .i64 g.tp,.int .i64 g.sq,.int .i64 g.ak,.bool g.syn,.bool g.fin,.bool g.rst,.bool g.has,.int .i64 g.win,.int .i64 g.mss,.bool g.sacks,.slice b g.bl.length cb,.string S]] w fun e w'=>e= .returned (.bool true)/\Below w.heap.size w w':=by
 obtain⟨fp,tp,sq,ak,syn,fin,rst,has,win,mss,sacks,bl,s⟩:=g;dsimp only at hA hB|-;have hs:=hA.small;have HB:=hid (((Below.refl w.heap.size w).alloc (Nat.le_refl _) (.cells #[.int .i64 fp,.int .i64 tp,.int .i64 sq,.int .i64 ak,.bool syn,.bool fin,.bool rst,.bool has,.int .i64 win,.int .i64 mss,.bool sacks,.slice a bl.length ca,.string S] 43)).alloc (by simp) (.cells #[.int .i64 fp,.int .i64 tp,.int .i64 sq,.int .i64 ak,.bool syn,.bool fin,.bool rst,.bool has,.int .i64 win,.int .i64 mss,.bool sacks,.slice b bl.length cb,.string S] 43));have hY:=hid (hA.below (HB.mono hn));have h7:=hid (hB.below (HB.mono hn));have gF:=hid ((RowB.new w 43 [.int .i64 fp,.int .i64 tp,.int .i64 sq,.int .i64 ak,.bool syn,.bool fin,.bool rst,.bool has,.int .i64 win,.int .i64 mss,.bool sacks,.slice a bl.length ca,.string S]).below ((Below.refl _ _).alloc (Nat.le_refl _) (.cells #[.int .i64 fp,.int .i64 tp,.int .i64 sq,.int .i64 ak,.bool syn,.bool fin,.bool rst,.bool has,.int .i64 win,.int .i64 mss,.bool sacks,.slice b bl.length cb,.string S] 43)));have be:=hid (RowB.new (w.alloc (.cells #[.int .i64 fp,.int .i64 tp,.int .i64 sq,.int .i64 ak,.bool syn,.bool fin,.bool rst,.bool has,.int .i64 win,.int .i64 mss,.bool sacks,.slice a bl.length ca,.string S] 43)) 43 [.int .i64 fp,.int .i64 tp,.int .i64 sq,.int .i64 ak,.bool syn,.bool fin,.bool rst,.bool has,.int .i64 win,.int .i64 mss,.bool sacks,.slice b bl.length cb,.string S]);clear hA hB
 go_enter Tryz.func20,Tryz.ntmps20
 go_upto_region 1 with fail
 change Code.wp _ _ _ _ ((w.alloc (.cells #[.int .i64 fp,.int .i64 tp,.int .i64 sq,.int .i64 ak,.bool syn,.bool fin,.bool rst,.bool has,.int .i64 win,.int .i64 mss,.bool sacks,.slice a bl.length ca,.string S] 43)).alloc (.cells #[.int .i64 fp,.int .i64 tp,.int .i64 sq,.int .i64 ak,.bool syn,.bool fin,.bool rst,.bool has,.int .i64 win,.int .i64 mss,.bool sacks,.slice b bl.length cb,.string S] 43));rw[World.size_alloc]at be;generalize ((w.alloc (.cells #[.int .i64 fp,.int .i64 tp,.int .i64 sq,.int .i64 ak,.bool syn,.bool fin,.bool rst,.bool has,.int .i64 win,.int .i64 mss,.bool sacks,.slice a bl.length ca,.string S] 43)).alloc (.cells #[.int .i64 fp,.int .i64 tp,.int .i64 sq,.int .i64 ak,.bool syn,.bool fin,.bool rst,.bool has,.int .i64 win,.int .i64 mss,.bool sacks,.slice b bl.length cb,.string S] 43))=w1 at HB hY h7 gF be|-;have c11:=gF.cell 11 (.slice a bl.length ca) rfl;have e11:=be.cell 11 (.slice b bl.length cb) rfl;go_wp2_with fail
 go_loopg [5] bl.length (fun g kv wr=>∃(k:Nat),kv= .int .i64 (k:Int)/\g+k=bl.length/\Below w1.heap.size w1 wr)
 case atStart=>exact⟨0,rfl,rfl,Below.refl _ _⟩
 case round =>
  obtain⟨k,rfl,hg,hBl⟩:=hrel;have HW:=hid hBl;have an:=hid (gF.below hBl);have av:=hid (be.below hBl);clear hBl c11 e11;have c11:=an.cell 11 (.slice a bl.length ca) rfl;have e11:=av.cell 11 (.slice b bl.length cb) rfl;by_cases hk:k<bl.length
  ·have hkr:(k:Int)<(bl.length:Int):=by omega
   obtain⟨ba,oa,rfl,o2,h9⟩:=(hY.below (HW.mono (Nat.le_trans hn HB.size))).cells (by omega);obtain⟨bb,ob,rfl,hbb,hcb⟩:=(h7.below (HW.mono (Nat.le_trans hn HB.size))).cells (by omega);obtain⟨d0,d1⟩:=h9 k hk;obtain⟨e0,e1⟩:=hcb k hk;clear h9 hcb;go_wp2_with fail
   go_quiet (fail)
   go_wp2_with fail
   go_roundg (gk-1)
   case measure=>omega
   case rel=>exact⟨k+1,by first | go_num | (have hsm:=hs;have e:wrap64 ((k:Int)+1)=((k+1:Nat):Int):=(by unfold wrap64;omega);rw[e]),by omega,HW.trans (AL wr nq)⟩
  have hkr:¬(k:Int)<(bl.length:Int):=by omega
  have c0:=an.cell 0 (.int .i64 fp) rfl;have e0:=av.cell 0 (.int .i64 fp) rfl;have c1:=an.cell 1 (.int .i64 tp) rfl;have e1:=av.cell 1 (.int .i64 tp) rfl;have c2:=an.cell 2 (.int .i64 sq) rfl;have e2:=av.cell 2 (.int .i64 sq) rfl;have c3:=an.cell 3 (.int .i64 ak) rfl;have e3:=av.cell 3 (.int .i64 ak) rfl;have c4:=an.cell 4 (.bool syn) rfl;have e4:=av.cell 4 (.bool syn) rfl;have c5:=an.cell 5 (.bool fin) rfl;have e5:=av.cell 5 (.bool fin) rfl;have c6:=an.cell 6 (.bool rst) rfl;have e6:=av.cell 6 (.bool rst) rfl;have c7:=an.cell 7 (.bool has) rfl;have e7:=av.cell 7 (.bool has) rfl;have c8:=an.cell 8 (.int .i64 win) rfl;have e8:=av.cell 8 (.int .i64 win) rfl;have c9:=an.cell 9 (.int .i64 mss) rfl;have e9:=av.cell 9 (.int .i64 mss) rfl;have c10:=an.cell 10 (.bool sacks) rfl;have e10:=av.cell 10 (.bool sacks) rfl;have c12:=an.cell 12 (.string S) rfl;have e12:=av.cell 12 (.string S) rfl;go_wp2;go_ret;exact⟨rfl,HB.trans (HW.mono HB.size)⟩
end
section
open Go.ChangeShapes Go.WideShapes Go.ChangeAt Go.RowKit Go.Shelf
theorem bO.low {w:World}{N M:Nat}{v:Value}{L:List bD}(h:bO w M v L)(hN:N<=M):bO w N v L:=by
 refine⟨⟨h.1.1,?_⟩,h.2⟩
 rcases h.1.2 with h1 | ⟨g,cap,cur,e,hb,hg⟩
 ·exact .inl h1
 exact .inr ⟨g,cap,cur,e,Nat.le_trans hN hb,hg⟩
theorem lq.low {w:World}{N M:Nat}{v:Value}{L:List Fl}(h:lq w M v L)(hN:N<=M):lq w N v L:=by
 obtain⟨K,e,h⟩:=h;exact⟨K,e,h.low hN⟩
theorem PrAt.low {N M:Nat}{t:Ft}{p:Pr}{w:World}(h:PrAt M t p w)(hN:N<=M)(ht:di<=N)(hf:FatAt N t.aF p.fates w):PrAt N t p w :=
 ⟨h.blk,h.a,h.b,h.dis,h.wire.low hN,h.log.low hN,h.ne,hf,fun k hk=>Nat.le_trans hN (h.lo k hk),ht⟩
structure Two (N:Nat)(t u:Ft)(p q:Pr)(w:World):Prop where
 p:PrAt N t p w
 q:PrAt N u q w
 dis:∀k,t.D k->¬u.D k
namespace Two
variable {N : Nat} {t u t' u' : Ft} {p q p' q' : Pr} {w w' : World}
theorem left (h:Two N t u p q w)(s:PrSt N t w t' p' w'):Two N t' u p' q w' :=
 ⟨s.pa,h.q.apart s.fr fun k hk=>⟨h.p.lo k hk,h.dis k hk⟩,fun k hk hu=>by
  rcases s.sub k hk with h1 | h1
  ·exact h.dis k h1 hu
  ·have:=(h.q.inD k hu).1;omega⟩
theorem right (h:Two N t u p q w)(s:PrSt N u w u' q' w'):Two N t u' p q' w' :=
 ⟨h.p.apart s.fr fun k hk=>⟨h.q.lo k hk,fun hu=>h.dis k hu hk⟩,s.pa,fun k hk hu=>by
  rcases s.sub k hu with h1 | h1
  ·exact h.dis k hk h1
  ·have:=(h.p.inD k hk).1;omega⟩
theorem bel (h:Two N t u p q w)(hb:Below w.heap.size w w'):Two N t u p q w' :=
 ⟨(h.p.bel hb).pa,(h.q.bel hb).pa,h.dis⟩
end Two
structure TwSt (N:Nat)(t u:Ft)(w:World)(t' u':Ft)(p q:Pr)(w':World):Prop where
 two:Two N t' u' p q w'
 fr:PrFr (fun k=>t.D k\/u.D k) w w'
 s1:∀k,t'.D k->t.D k\/w.heap.size<=k
 s2:∀k,u'.D k->u.D k\/w.heap.size<=k
 e1:t'.B=t.B
 e2:u'.B=u.B
namespace TwSt
variable {N : Nat} {t u t' u' v : Ft} {p q p' q' : Pr} {w w' w'' : World}
theorem start (h:Two N t u p q w):TwSt N t u w t u p q w:=⟨h,.refl _ _,fun _ h=>.inl h,fun _ h=>.inl h,rfl,rfl⟩
theorem left (h:TwSt N t u w t' u' p q w')(s:PrSt N t' w' v p' w''):TwSt N t u w v u' p' q w'' :=
 ⟨h.two.left s,h.fr.trans s.fr fun x hx=>(h.s1 x hx).imp .inl id,fun k hk=>(s.sub k hk).elim (h.s1 k) fun h1=>.inr (Nat.le_trans h.fr.size h1),h.s2,s.eB.trans h.e1,h.e2⟩
theorem right (h:TwSt N t u w t' u' p q w')(s:PrSt N u' w' v q' w''):TwSt N t u w t' v p q' w'' :=
 ⟨h.two.right s,h.fr.trans s.fr fun x hx=>(h.s2 x hx).imp .inr id,h.s1,fun k hk=>(s.sub k hk).elim (h.s2 k) fun h1=>.inr (Nat.le_trans h.fr.size h1),h.e1,s.eB.trans h.e2⟩
theorem bel (h:TwSt N t u w t' u' p q w')(hb:Below w'.heap.size w' w''):TwSt N t u w t' u' p q w'':=h.left (h.two.p.bel hb)
theorem below (h:TwSt N t u w t' u' p q w')(k:Two N t u p' q' w):Below N w w' :=
 h.fr.below k.p.big fun x hx=>hx.elim (k.p.lo x) (k.q.lo x)
end TwSt
end
end Go.Proofs.YtclkcmidhhfdmaaGreatDoor
