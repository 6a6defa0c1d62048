import Derived.Test.YtcmncipikdpnbaaGreatDoorUb39
namespace Go.Proofs.YtcmncipikdpnbaaGreatDoor
theorem tI {c:Cn}(now:Int)(h0:c.st=1\/c.st=2)(a:c.pend≠2)(f:0<c.flight)(b:c.dl.set=true):c.push now=(c,[]):=by
 have hs:ae c.st=false:=by rcases h0 with e | e <;> (rw[e];rfl)
 unfold Cn.push;rw[L7 O,hs];show((Cn.tt c []).1.o6 now,(Cn.tt c []).2)=_;have e:Cn.tt c []=(c,[]):=by unfold Cn.tt;rw[L7 a]
 rw[e];have d:c.o6 now=c:=by unfold Cn.o6;rw[L7 O,L9 b]
 rw[d]
structure Wt (c0 c:Cn):Prop where
 eq:∃h s,c={ c0 with held:=h,shut:=s }
 st:c0.st=1\/c0.st=2
 pend:c0.pend=0
 fl:c0.flight=1
 dl:c0.dl= .Ck 0 12
 bx:∃n,c0.bx=nM n
 en:c0.ended=false
theorem Wt.f {c0 c:Cn}(h:Wt c0 c):(c.st=c0.st)/\c.pend=0/\c.flight=1/\c.dl= .Ck 0 12/\(∃n,c.bx=nM n)/\c.ended=false/\c.sc=c0.sc:=by
 obtain⟨x,s,rfl⟩:=h.eq;exact⟨Z,h.pend,h.fl,h.dl,h.bx,h.en,Z⟩
theorem Wt.to {c0 c:Cn}(h:Wt c0 c)(x:List UInt8)(s:Bool):Wt c0 { c with held:=x,shut:=s }:=by
 obtain⟨y,t,rfl⟩:=h.eq;exact⟨⟨x,s,Z⟩,h.st,h.pend,h.fl,h.dl,h.bx,h.en⟩
theorem Wt.push {c0 c:Cn}(h:Wt c0 c)(now:Int):c.push now=(c,[]):=by
 obtain⟨a,f2,f3,b,-⟩:=h.f;exact tI now (by rw[a];exact h.st) (by rw[f2];decide) (by rw[f3];decide) (by rw[b];rfl)
theorem Wt.tick {c0 c:Cn}(h:Wt c0 c){now:Int}(e:now<12):c.tick now=(c,[]):=by
 obtain⟨g,f2,f3,a,-⟩:=h.f;have b:=h.st
 have d:c.dl.due now=false:=by
  rw[a];unfold Al.due;show(true&&(decide ((0:Int)<=now)&&decide ((12:Int)<=now-0)))=false;rw[Lh (show ¬(12:Int)<=now-0 by omega)]
  simp
 unfold Cn.tick;rw[L7 O,L7 O,L7 (by rw[d];decide)];unfold Cn.sg;dsimp only;rw[L7 O,h.push now];rfl
theorem zG (n:Nat)(k:Int):(nM n).take k=nM n/\(nM n).ox k=[]:=by
 have e:min k ((nM n).nx-(nM n).rd)<=0:=by show min k (0-0)<=0;omega
 constructor
 ·unfold Bx.take;rw[L9 e]
 unfold Bx.ox;rw[L9 e]
structure Fc (a0 b0:Cn)(W:List Fl)(p:Pr):Prop where
 a:Wt a0 (p.sd false).c
 b:Wt b0 (p.sd true).c
 wire:p.wire=W
 now:p.now=0
 calm:p.kq.length<=p.many
 got:∀i,(p.sd i).got=[]
 fin:∀i,(p.sd i).fin=false
 sh:∀i,(p.sd i).c.st=1->(p.sd i).c.shut=false
 cs:∀i,(p.sd i).closed=true->(p.sd i).c.shut=true
def Bz (a b0:Cn)(i:Bool):Cn:=match i with | false=>a | true=>b0
theorem Fc.w {d b0:Cn}{W:List Fl}{p:Pr}(h:Fc d b0 W p)(i:Bool):Wt (Bz d b0 i) (p.sd i).c:=by
 cases i
 ·exact h.a
 exact h.b
theorem Fc.set {d b0:Cn}{W:List Fl}{p:Pr}(h:Fc d b0 W p)(i:Bool){s:Sd}(e:Wt (Bz d b0 i) s.c)(l:s.got=[])(m:s.fin=false)(hs:s.c.st=1->s.c.shut=false)(n:s.closed=true->s.c.shut=true):Fc d b0 W (p.kl i s):=by
 have g:=h.got;have f:=h.fin;have k:=h.sh;have z:=h.cs
 cases i
 ·exact⟨e,h.b,h.wire,h.now,h.calm,fun j=>by cases j;exact l;exact g true,fun j=>by cases j;exact m;exact f true,fun j=>by cases j;exact hs;exact k true,fun j=>by cases j;exact n;exact z true⟩
 exact⟨h.a,e,h.wire,h.now,h.calm,fun j=>by cases j;exact g false;exact l,fun j=>by cases j;exact f false;exact m,fun j=>by cases j;exact k false;exact hs,fun j=>by cases j;exact z false;exact n⟩
theorem Wt.nv {c0:Cn}{p:Pr}{i:Bool}(h:Wt c0 (p.sd i).c)(l:(p.sd i).got=[])(m:(p.sd i).fin=false)(hs:(p.sd i).c.st=1->(p.sd i).c.shut=false)(o:(p.sd i).closed=true->(p.sd i).c.shut=true) :
  ∃s:Sd,p.nv i=p.kl i s/\Wt c0 s.c/\s.got=[]/\s.fin=false/\(s.c.st=1->s.c.shut=false)/\(s.closed=true->s.c.shut=true):=by
 have j:∀(p:Pr) (s t:Sd),(p.kl i s).kl i t=p.kl i t/\(p.kl i s).sd i=s:=fun p s t=>by cases i <;> exact⟨Z,Z⟩
 have y:p.kl i (p.sd i)=p:=by cases i <;> rfl
 have r:∃s:Sd,p.send i 1000=p.kl i s/\Wt c0 s.c/\s.got=[]/\s.fin=false/\(s.c.st=1->s.c.shut=false)/\(s.closed=true->s.c.shut=true):=by
  unfold Pr.send;dsimp only;split
  ·exact⟨p.sd i,y.symm,h,l,m,hs,o⟩
  split
  ·exact⟨p.sd i,y.symm,h,l,m,hs,o⟩
  rename_i g
  have e:(p.sd i).c.send p.now (Pr.bytes (p.sd i) 1000)=({ (p.sd i).c with held:=(p.sd i).c.held++(Pr.bytes (p.sd i) 1000).take ((p.sd i).c.pd (Pr.bytes (p.sd i) 1000)).toNat },[]):=by
   unfold Cn.send;rw[L7 g];exact(h.to _ (p.sd i).c.shut).push p.now
  rw[e];exact⟨_,Z,h.to _ (p.sd i).c.shut,l,m,hs,o⟩
 obtain⟨b,B,u,g1,C,h1,E⟩:=r
 have bd:∃s:Sd,(p.kl i b).recv i 1000=p.kl i s/\Wt c0 s.c/\s.got=[]/\s.fin=false/\(s.c.st=1->s.c.shut=false)/\(s.closed=true->s.c.shut=true):=by
  obtain⟨F,P,S,T,⟨n,w⟩,G,-⟩:=u.f;obtain⟨I,z⟩:=zG n 1000;have J:=u.st
  have e:b.c.recv (p.kl i b).now 1000=(b.c,[]):=by
   unfold Cn.recv;rw[L7 D];dsimp only;rw[w,I,L9 z,<-w]
  have K:b.c.v8 1000=false:=by
   unfold Cn.v8 Cn.reached;dsimp only;rw[G];rfl
  have L:b.c.oB 1000=0:=by
   unfold Cn.oB;rw[L7 D,L7 (by rw[F];omega)]
  unfold Pr.recv;dsimp only;rw[(j p b b).2,L7 (by rw[L];decide),e,K,w,z];refine⟨_,(j p b _).1,u,?_,?_,h1,E⟩
  ·show b.got++[]=[];rw[g1];rfl
  show(b.fin||false)=false;rw[C];rfl
 obtain⟨a,M,d,k,f2,h2,x⟩:=bd;unfold Pr.nv;dsimp only;rw[B,M,(j p a a).2];split
 ·rename_i g;unfold Pr.shut;dsimp only;rw[(j p a a).2];split
  ·exact⟨a,Z,d,k,f2,h2,x⟩
  split
  ·exact⟨a,Z,d,k,f2,h2,x⟩
  rename_i A
  have N:a.c.st=2:=by
   have:=d.f.1;have:=d.st;omega
  have e:a.c.close (p.kl i a).now=({ a.c with shut:=true },[]):=by
   unfold Cn.close;unfold Cn.z8 at A;rw[L7 (fun q=>A (by rw[L9 q];decide))];dsimp only;rw[L7 g.2,L9 N];exact(d.to a.c.held true).push _
  rw[e];exact⟨_,(j p a _).1,d.to a.c.held true,k,f2,fun q=>absurd q g.2,fun _=>rfl⟩
 exact⟨a,Z,d,k,f2,h2,x⟩
theorem Fc.nv {a b0:Cn}{W:List Fl}{p:Pr}(h:Fc a b0 W p)(i:Bool):Fc a b0 W (p.nv i):=by
 obtain⟨s,e,w,g,f,hs,b⟩:=(h.w i).nv (h.got i) (h.fin i) (h.sh i) (h.cs i);rw[e];exact h.set i w g f hs b
def iI (T:Int)(c:Cn):Cn:={ c with st:=if c.shut=true then 4 else 3,sc:=⟨1,1,0,[],[]⟩,dl:=eE,tm:=c.tm.i1 T 1,tries:=0 }
theorem rQ (m:Int):(⟨1,1,0,[],[]⟩:Sc).lost m=[]:=by unfold Sc.lost;split <;> rfl
theorem lA:(⟨0,1,0,[],[]⟩:Sc).i1 1 []=⟨1,1,0,[],[]⟩/\(⟨1,1,0,[],[]⟩:Sc).i1 1 []=⟨1,1,0,[],[]⟩:=⟨Z,Z⟩
theorem zH (k:Bool)(a:Int)(bl:List Sp):dU k 1 a bl=[]:=by
 unfold dU;rw[List.filter_eq_nil_iff];intro x _ h;rw[LD,Lj]at h;omega
theorem oQ {c:Cn}(T:Int)(s:Sg)(h:c.sc=⟨0,1,0,[],[]⟩\/c.sc=⟨1,1,0,[],[]⟩)(f:c.base=1) :
  c.i1 T s 1=Cn.announce { c with sc:=⟨1,1,0,[],[]⟩,tries:=0,dl:=if c.gi=0 then eE else c.dl,tm:=if c.gi=0 then c.tm.i1 T 1 else c.tm } 1 s.win:=by
 have j:c.gi=0\/c.gi=1:=by unfold Cn.gi;rcases h with e | e <;> (rw[e];simp)
 have k:c.next=1:=by unfold Cn.next;rcases h with e | e <;> rw[e]
 have o:c.last=1+c.held.length:=by unfold Cn.last;rw[f]
 have l:Cn.report { c with tries:=0 } 1 s.bl={ c with tries:=0,sc:=⟨1,1,0,[],[]⟩ }:=by
  have i:dU c.ke c.next c.cf.ki s.bl=[]:=by rw[k];exact zH _ _ _
  have a:c.sc.i1 1 (dU c.ke c.next c.cf.ki s.bl)=⟨1,1,0,[],[]⟩:=by
   rw[i]
   rcases h with e | e
   ·rw[e];exact lA.1
   rw[e];exact lA.2
  show({ c with tries:=0,sc:=c.sc.i1 1 (dU c.ke c.next c.cf.ki s.bl) }:Cn)=_;rw[a]
 have m:∀d:Cn,d.held=c.held->d.base=c.base->d.drop 1=d:=fun d i a=>by
  have e:dI d.held d.base 1=0:=by unfold dI;rw[a,f];omega
  unfold Cn.drop;rw[e];show({ d with held:=d.held.drop 0,base:=d.base+0 }:Cn)=d;rw[MK,Int.add_zero]
 have hz:∀b d:Cn,b.sc=⟨1,1,0,[],[]⟩->(if 0<c.Dx 1 s.bl/\b.mark<=1/\b.sc.lost b.go≠[]then d else b)=b:=fun b d e=>by
  rw[L7];rintro⟨-,-,g⟩;rw[e,rQ]at g;exact g Z
 unfold Cn.i1;rw[L7 O];dsimp only;rw[l,L7 (show ¬(c.gi<=c.last/\c.last<1) by omega)]
 rcases j with e | e
 ·have h1:c.gi<1:=by omega
  have h2:¬0<1-max c.gi 1:=O
  simp only[L9 h1,L7 h2,L9 e];have n:=m { c with sc:=⟨1,1,0,[],[]⟩,tries:=0,dl:=eE,tm:=c.tm.i1 T 1 } Z Z;rw[n];exact hz _ _ Z
 have h1:¬c.gi<1:=O
 have h2:¬c.gi=0:=O
 simp only[L7 h1,L7 h2];exact hz _ _ Z
theorem wN {c:Cn}(T:Int)(s:Sg)(a:c.sc=⟨0,1,0,[],[]⟩)(b:c.base=1):({ c with st:=if c.shut=true then 4 else 3 }:Cn).i1 T s 1=(iI T c).i1 T s 1:=by
 have d:c.gi=0:=by unfold Cn.gi;rw[a]
 rw[oQ (c:={ c with st:=if c.shut=true then 4 else 3 }) T s (.inl a) b,oQ (c:=iI T c) T s (.inr Z) b];have e:({ c with st:=if c.shut=true then 4 else 3 }:Cn).gi=0:=d;rw[e];rfl
theorem rR {c:Cn}{T:Int}{s:Sg}(h2:c.st=2)(b:c.sc=⟨0,1,0,[],[]⟩)(m:c.base=1)(f:s.te=false/\s.syn=false/\s.has=true)(l:s.fp=c.cf.tp/\s.tp=c.cf.fp)(j:aE s.ak c.cf.ki=1)(a:c.accepts (c.offset s.sq) (aq s)=true):c.receive T s=(iI T c).receive T s:=by
 have p:c.next=1:=by unfold Cn.next;rw[b]
 have n:(iI T c).st=3\/(iI T c).st=4:=by
  show(if c.shut=true then(4:Int)else 3)=3\/(if c.shut=true then(4:Int)else 3)=4;split <;> simp
 unfold Cn.receive;rw[L7 O,L7 (show ¬(iI T c).st=0 by omega)];have i:¬(s.fp≠c.cf.tp\/s.tp≠c.cf.fp):=fun g=>by rcases g with g | g;exact g l.1;exact g l.2
 rw[L7 i,L7 (show ¬(s.fp≠(iI T c).cf.tp\/s.tp≠(iI T c).cf.fp)from i),L7 O,L7 O]
 have k:∀d:Cn,d.accepts (d.offset s.sq) (aq s)=true->d.Cw T s=d.process T s (d.offset s.sq):=fun d h=>by
  unfold Cn.Cw;dsimp only;rw[L7 (fun g=>by rw[f.1]at g;cases g.1),L7 (fun g=>by rw[f.1]at g;cases g.1),L7 (by rw[h];decide),L7 (fun g=>by rw[f.1,f.2.1]at g;rcases g with g | g <;> cases g),L7 (by rw[f.2.2];decide)]
 rw[k c a,k (iI T c) a];unfold Cn.process;dsimp only;rw[L9 h2,L7 (show ¬(iI T c).st=2 by omega)];rw[show(iI T c).cf.ki=c.cf.ki from Z,j,L7 O,L7 (show ¬(iI T c).next<1 by show ¬(1:Int)<1;omega)]
 have e:(if(c.step T 4).shut=true then(c.step T 4).step T 5 else c.step T 4)={ c with st:=if c.shut=true then 4 else 3 }:=by
  have o:c.step T 4={ c with st:=3 }:=by
   unfold Cn.step;rw[h2];rfl
  rw[o];show(if c.shut=true then Cn.step { c with st:=3 } T 5 else { c with st:=3 })=_;split
  ·unfold Cn.step;rfl
  rfl
 rw[e,wN T s b m];rfl
def Vp (T:Int)(p:Pr):Pr:=p.v6 true (iI T (p.sd true).c)
theorem zI:(⟨1,1,0,[],[]⟩:Sc).Ok:=⟨D,D,D,D,D,Z,Z,fun _ h=>(a8 h).elim,fun _ h=>(a8 h).elim⟩
theorem B0 {c:Cn}(ok:c.Ok)(T:Int):(iI T c).Ok:=by
 have a:=ok.tr;exact { ok with sc:=zI,tm:=Tm.Ce ok.tm T 1,dl:=dx,st:=by(show 0<=(if c.shut=true then(4:Int)else 3)/\(if c.shut=true then(4:Int)else 3)<=9;split <;> omega),tr:=by(show(0:Int)<=0/\(0:Int)<=13;omega),tr2:=fun _=>by(show(0:Int)<=12;omega) }
theorem B1 {k:Kx}{c:Cn}(h:SI k c)(d:c.base=1)(b:1<=c.limit)(T:Int):SI k (iI T c):=by
 have a:=h.last;have e:(iI T c).last=c.last:=Z;exact⟨h.b1,h.held,h.last,by(show(1:Int)<=c.last+(if c.shut=true then 1 else 0);split <;> omega),h.sh,by(show c.base<=max 1 1;omega),by(show(1:Int)<=1;omega),h.ki,h.sm,h.lim,fun _=>b,by(show min 1 c.last<=c.limit+1;omega),h.go,h.room⟩
structure Wb (c:Cn):Prop where
 st:c.st=2
 sc:c.sc=⟨0,1,0,[],[]⟩
 base:c.base=1
 lim:1<=c.limit
theorem zJ (P:Pr.BX)(T:Int)(p:Pr)(i:Bool):Pr.kx P (Vp T p) i=Pr.kx P p i:=by cases i <;> rfl
theorem ce (T:Int)(p:Pr):(Vp T p).sd false=p.sd false/\((Vp T p).sd true).c=iI T (p.sd true).c/\(∀i,((Vp T p).sd i).str=(p.sd i).str/\((Vp T p).sd i).closed=(p.sd i).closed/\((Vp T p).sd i).got=(p.sd i).got/\((Vp T p).sd i).all=(p.sd i).all/\((Vp T p).sd i).fin=(p.sd i).fin):=⟨Z,Z,fun i=>by cases i <;> exact⟨Z,Z,Z,Z,Z⟩⟩
theorem PV.vp {P:Pr.BX}{p:Pr}(h:Pr.PV P p)(w:Wb (p.sd true).c)(T:Int):Pr.PV P (Vp T p):=by
 refine⟨fun i=> ?_,fun i=> ?_,fun f d=> ?_,h.g⟩
 ·rw[zJ]
  cases i
  ·exact h.s false
  exact⟨B1 (h.s true).1 w.base w.lim T,fun _=>Lb 1⟩
 ·cases i
  ·exact h.r false
  obtain⟨b,a,e⟩:=h.r true;refine⟨⟨b.pi,b.en⟩,?_,e⟩;have j:=w.st
  rcases a with a | a | a
  ·omega
  ·omega
  exact .inr (.inr a)
 have:=h.w f d;rw[zJ,zJ];exact this
theorem Fit.vp {p:Pr}{a b:Int}(h:Pr.Fit p a b)(T:Int):Pr.Fit (Vp T p) (Vp T p).Q (Vp T p).R:=by
 have k:=h.b;exact⟨h.a,⟨B0 k.c T,k.len,k.s0,k.sl,k.last,by(have h1:p.b.c.last=1+p.b.sent:=k.last;have h2:=k.s0;show(1:Int)<=p.b.c.last+1;omega)⟩,h.now,h.wire,h.due,h.log,Lb _,Lb _⟩
def met (c:Cn)(now:Int)(s:Sg):Cn:={ c.meet s with sc:=⟨1,1,0,[],[]⟩,tm:=c.tm.i1 now 1,tries:=0,st:=3,dl:=eE,pend:=2 }
theorem wO {c:Cn}{now:Int}{s:Sg}(h1:c.st=1)(a:c.sc=⟨0,1,0,[],[]⟩)(b:s.has=true/\s.te=false/\s.syn=true)(i:s.fp=c.cf.tp/\s.tp=c.cf.fp)(f:aE s.ak c.cf.ki=1):c.receive now s=(met c now s).push now:=by
 have h:¬(s.fp≠c.cf.tp\/s.tp≠c.cf.fp):=fun g=>by rcases g with g | g;exact g i.1;exact g i.2
 unfold Cn.receive;rw[L7 O,L7 h,L9 h1];unfold Cn.Ct;rw[L7 (fun g=>g.2 f),L7 (fun g=>by rw[b.2.1]at g;cases g.1),L7 (by rw[b.2.2];decide)];dsimp only;rw[L7 (by rw[b.1];decide)]
 have e:∀d:Cn,d.st=1->d.step now 3={ d with st:=3 }:=fun d j=>by
  unfold Cn.step;rw[j];rfl
 have k:({ ({ c.meet s with tries:=0,sc:=(c.meet s).sc.i1 1 [],tm:=(c.meet s).tm.i1 now 1 }:Cn).step now 3 with dl:=eE }:Cn).i2=met c now s:=by
  rw[e { c.meet s with tries:=0,sc:=(c.meet s).sc.i1 1 [],tm:=(c.meet s).tm.i1 now 1 } h1,show(c.meet s).sc=c.sc from Z,a,lA.1];rfl
 exact congrArg (fun d:Cn=>d.push now) k
theorem B2 {c:Cn}(ok:c.Ok){now:Int}{s:Sg}(hs:s.Ok)(hy:s.syn=true):(met c now s).Ok :=
 { ok.meet hs hy with sc:=zI,tm:=Tm.Ce ok.tm now 1,dl:=dx,st:=by(show(0:Int)<=3/\(3:Int)<=9;omega),pend:=by(show(0:Int)<=2/\(2:Int)<=2;omega),tr:=by(show(0:Int)<=0/\(0:Int)<=13;omega),tr2:=fun _=>by(show(0:Int)<=12;omega) }
theorem B3 {k:Kx}{c:Cn}(h:SI k c)(d:c.base=1)(now:Int){s:Sg}(b:1<=max c.limit (1+s.win))(he:max c.limit (1+s.win)<=1+k.e):SI k (met c now s):=by
 have a:=h.last;have f:=h.go;have e:(met c now s).last=c.last:=Z;exact⟨h.b1,h.held,h.last,by(show(1:Int)<=c.last+(if c.shut=true then 1 else 0);split <;> omega),h.sh,by(show c.base<=max 1 1;omega),by(show(1:Int)<=1;omega),h.ki,h.sm,he,fun _=>b,by(show min 1 c.last<=max c.limit (1+s.win)+1;omega),by(show min c.go (if s.go=0 then 28 else s.go)<=k.m;omega),h.room⟩
structure IJ (c:Cn):Prop where
 st:c.st=1
 sc:c.sc=⟨0,1,0,[],[]⟩
 base:c.base=1
 sh:c.shut=false
theorem Op.start {x:Cn}(ok:x.Ok){now:Int}(a:aI now)(so:Fu x)(hs:Hs x)(h0:x.st≠0):Op True x (x.push now).1 (x.push now).2 now :=
 Op.of ⟨Lb _,Z,Lb _,Lb _,Z,fun _ h=>h,Lb _,Z,Z,.inr (.inl ⟨Z,Z,Z⟩),.same now Z Z Z Z Z Z Z Z Z⟩ a ok (fun _=>so) hs h0 (.inl Z) Z Z (fun _=>NM) Z Z
theorem DI.start {s r:Cn}{q N:Int}(f:1<=q)(h1:r.A2=s.cf.ki)(hs:s.sc=⟨1,1,0,[],[]⟩)(a:r.bx.nx=0)(he:r.ended=false)(b:∀i,¬r.bx.has i)(c:s.limit=r.ann+1):DI s r [] [] q N:=by
 have j:s.gi=1/\s.next=1:=by unfold Cn.gi Cn.next;rw[hs];exact⟨Z,Z⟩
 have d:r.reached=false:=by unfold Cn.reached;rw[he];rfl
 have e:r.expected=0:=by unfold Cn.expected;rw[L7 (by rw[d];decide),a]
 exact⟨h1,fun g h=>by(cases h),fun g h=>by(cases h),.nil,O,O,fun _=>by omega,fun o h2 k=>by omega,.inl O,fun _=>.inl c,fun o h=>absurd h (b o),fun h=>by rw[he]at h;cases h⟩
theorem pg (T:Int)(i:Bool):∀(l:List Sg) (p:Pr),Vp T (p.put i l)=(Vp T p).put i l:=by
 intro l
 induction l with
 | nil=>intro p;rfl
 | cons s l a=>intro p;exact a (p.z7 i s)
theorem zK (T:Int)(p:Pr):(Vp T p).kp false=Vp T (p.kp false):=(pg T false ((p.sd false).c.tick p.now).2 (p.v6 false ((p.sd false).c.tick p.now).1)).symm
theorem Ac (T:Int)(p:Pr):(Vp T p).nv false=Vp T (p.nv false):=by
 have a:∀p:Pr,(Vp T p).send false 1000=Vp T (p.send false 1000):=fun p=>by
  unfold Pr.send;dsimp only;rw[(ce T p).1];split
  ·rfl
  split
  ·rfl
  exact(pg T false ((p.sd false).c.send p.now (Pr.bytes (p.sd false) 1000)).2 (p.kl false { (p.sd false)with c:=((p.sd false).c.send p.now (Pr.bytes (p.sd false) 1000)).1,sent:=(p.sd false).sent+(p.sd false).c.pd (Pr.bytes (p.sd false) 1000) })).symm
 have b:∀p:Pr,(Vp T p).recv false 1000=Vp T (p.recv false 1000):=fun p=>by
  unfold Pr.recv;dsimp only;rw[(ce T p).1];split
  ·rfl
  exact(pg T false ((p.sd false).c.recv p.now 1000).2 (p.kl false { (p.sd false)with c:=((p.sd false).c.recv p.now 1000).1,got:=(p.sd false).got++(p.sd false).c.bx.ox 1000,fin:=(p.sd false).fin||(p.sd false).c.v8 1000 })).symm
 have d:∀p:Pr,(Vp T p).shut false=Vp T (p.shut false):=fun p=>by
  unfold Pr.shut;dsimp only;rw[(ce T p).1];split
  ·rfl
  split
  ·rfl
  exact(pg T false ((p.sd false).c.close p.now).2 (p.kl false { (p.sd false)with c:=((p.sd false).c.close p.now).1,closed:=true })).symm
 unfold Pr.nv;dsimp only;rw[a,b,d,(ce T _).1];split <;> rfl
def B4 (x:Rw):Cn:=(fz 0 (ee x)).1
def uE (x:Rw):Cn:=(cZ 0 (eF x) (gA x)).1
def oR (x:Rw):Sg:=(fL 0 (eF x) (gA x)).x7
theorem CS (x:Rw):((oR x).has=true/\(oR x).te=false/\(oR x).syn=true)/\((oR x).fp=80/\(oR x).tp=5000)/\(oR x).ak=aw (aw (ck x.DL) 0) (0+1)/\(oR x).sq=aw (ck x.Eb) 0/\(oR x).win=40+aO x.x4 400:=⟨⟨Z,Z,Z⟩,⟨Z,Z⟩,Z,Z,Z⟩
theorem CT (x:Rw):Wt (B4 x) (B4 x):=⟨⟨[],false,Z⟩,.inl Z,Z,Z,Z,⟨_,Z⟩,Z⟩
theorem CU (x:Rw):Wt (uE x) (uE x):=⟨⟨[],false,Z⟩,.inr Z,Z,Z,Z,⟨_,Z⟩,Z⟩
theorem Fc.meet (x:Rw)(n m:Nat):Fc (B4 x) (uE x) [⟨false,1,false,oR x⟩] (eK x [] n m) :=
 ⟨CT x,CU x,Z,Z,Nat.le_succ 0,fun i=>by cases i <;> rfl,fun i=>by cases i <;> rfl,fun i _=>by cases i <;> rfl,fun i h=>by cases i <;> cases h⟩
theorem uF (n:Nat)(i:Int):¬(nM n).has i:=by
 rintro (h | h)
 ·have h1:0<=i/\i<0:=h;omega
 exact(a8 h).elim
theorem lB {i:Int}(h:0<=i/\i<=4294967295):aw i 0=i:=by unfold aw;omega
theorem Fit.off {p:Pr}{a b:Int}(d:Pr.Fit p a b)(g:p.now<1000000):Pr.Fit { p with now:=p.now+1,wire:=[] } a b:=by
 have h:=d.now;refine⟨d.a,d.b,Kt,fun f e=>IZ,fun f e=>IZ,d.log,?_,d.r⟩;have h1:p.Q<=a:=d.q;refine LE ?_ h1;unfold Pr.Q;show(([]:List Fl).length:Int)+p.rem+p.a.c.Cu+p.b.c.Cu<=(p.wire.length:Int)+p.rem+p.a.c.Cu+p.b.c.Cu;have:(([]:List Fl).length:Int)=0:=Z;omega
theorem Fc.f {x:Rw}{W:List Fl}{p:Pr}(h:Fc (B4 x) (uE x) W p):(∃y,(p.sd false).c={ B4 x with held:=y })/\(∃y s,(p.sd true).c={ uE x with held:=y,shut:=s }):=by
 obtain⟨y,s,e⟩:=h.a.eq;refine⟨⟨y,?_⟩,h.b.eq⟩;have h1:=h.sh false (by rw[e];rfl);rw[e]at h1|-;have h1:s=false:=h1;rw[h1];rfl
theorem Ga.f2 {P:Pr.BX}{N:Bool->Int}{p:Pr}{n:Int}(g:Ga P N p n):Fv p N:=by
 refine⟨g.cl,fun j=> ?_,fun j=> ?_⟩
 ·have h1:=g.all j;unfold Sd.str;rw[Lg];omega
 have h1:=g.all j;have h2:=(g.al.run.1.sd j).len;omega
theorem Ga.mono {P:Pr.BX}{N:Bool->Int}{p:Pr}{n m:Int}(g:Ga P N p n)(h:n<=m):Ga P N p m:=⟨g.al.mono h,g.cl,g.all⟩
theorem Fc.start {x:Rw}{N:Bool->Int}{p:Pr}{n:Int}{W:List Fl}(h:Fc (B4 x) (uE x) W p)(g:Ga (cG x) N p n)(I:p.now<1000000) :
  ∃a b,Cl (cG x) (Vp 2 (({ p with now:=p.now+1,wire:=[] }:Pr).v6 false (met (p.sd false).c (p.now+1) (oR x)))) [] (fun _=>1) N a b:=by
 obtain⟨⟨y,l⟩,⟨z,s,m⟩⟩:=h.f;have pv:=g.al.pv;have o:=Fit.off g.al.run.1 I;have S:=ah x.xb 400 (by decide);have T:=ah x.x4 400 (by decide);have J:0<=ck x.DL/\ck x.DL<=4294967295:=by unfold ck;omega
 have E:0<=ck x.Eb/\ck x.Eb<=4294967295:=by unfold ck;omega
 have hs:=(kE x).E8;have f2:=g.f2;obtain⟨q,d⟩:∃q:Pr,q=({ p with now:=p.now+1,wire:=[] }:Pr).v6 false (met (p.sd false).c (p.now+1) (oR x)):=⟨_,Z⟩;have K:(q.sd false).c=met (p.sd false).c (p.now+1) (oR x):=by rw[d];rfl
 have F:q.sd true=p.sd true:=by rw[d];rfl
 have hw:Wb (q.sd true).c:=by rw[F,m];exact⟨Z,Z,Z,by show(1:Int)<=max 0 (1+(40+aO x.xb 400));omega⟩
 have L:Pr.PV (cG x) q:=by
  rw[d];refine⟨fun i=> ?_,fun i=> ?_,fun f t=>(by cases t),pv.g⟩
  ·cases i
   ·have k:=(pv.s false).1;have he:=Pr.Gc (cG x) false p.log;have he:40+aO x.x4 400<=Pr.D9 (cG x) false p.log:=he;refine⟨B3 k (by rw[l];rfl) _ ?_ ?_,fun _=>Lb 1⟩
    ·rw[l];show(1:Int)<=max 0 (1+(40+aO x.x4 400));omega
    rw[l];show max (0:Int) (1+(40+aO x.x4 400))<=1+Pr.D9 (cG x) false p.log;omega
   exact pv.s true
  cases i
  ·obtain⟨G,U,M⟩:=pv.r false;exact⟨⟨G.pi,G.en⟩,.inr (.inr (show aw (ck x.Eb) 0=ck x.Eb from lB E)),M⟩
  exact pv.r true
 have P:Pr.Fit q q.Q q.R:=by
  rw[d];have k:=o.a;exact⟨⟨B2 k.c hs Z,k.len,k.s0,k.sl,k.last,by(have h1:p.a.c.last=1+p.a.sent:=k.last;have h2:0<=p.a.sent:=k.s0;show(1:Int)<=p.a.c.last+1;omega)⟩,o.b,o.now,o.wire,o.due,o.log,Lb _,Lb _⟩
 have w:=PV.vp L hw 2;have be:=Fit.vp P 2;have v1:((Vp 2 q).sd false).c=met (p.sd false).c (p.now+1) (oR x):=K;have u:((Vp 2 q).sd true).c=iI 2 (p.sd true).c:=by rw[(ce 2 q).2.1,F]
 have A:Hs (met (p.sd false).c (p.now+1) (oR x)):=by
  rw[l];exact⟨fun e=>(by cases e),fun e=>(by cases e),fun e=>absurd e (by show ¬(6:Int)<=3;decide),fun e=>(by cases e)⟩
 have B:Hs (iI 2 (p.sd true).c):=by
  rw[m];refine⟨fun e=>(by cases e),fun e=>(by cases e),fun e=> ?_,fun e=>(by cases e)⟩;have e:6<=(if s=true then(4:Int)else 3):=e;split at e <;> omega
 rw[<-d];refine⟨_,_,⟨w,be,fun i=> ?_,⟨?_,?_,f2.sm⟩,?_,fun i=> ?_,fun i=> ?_,fun f t=> ?_,fun i=> ?_,fun f t=>(by cases t)⟩⟩
 ·have C:(Vp 2 q).wire=[]:=by rw[d];rfl
  rw[C]
  cases i
  ·show DI ((Vp 2 q).sd false).c ((Vp 2 q).sd true).c [] [] 1 (N false);rw[v1,u,l,m];exact DI.start (Lb 1) (lB J) Z Z Z (uF _) (by show max (0:Int) (1+(40+aO x.x4 400))=40+aO x.x4 400+1;omega)
  show DI ((Vp 2 q).sd true).c ((Vp 2 q).sd false).c [] [] 1 (N true);rw[v1,u,l,m];exact DI.start (Lb 1) (lB E) Z Z Z (uF _) (by show max (0:Int) (1+(40+aO x.xb 400))=40+aO x.xb 400+1;omega)
 ·intro j e;rw[((ce 2 q).2.2 j).1];rw[((ce 2 q).2.2 j).2.1]at e;have k:=f2.cl j;rw[d]at e|-
  cases j <;> exact k e
 ·intro j;rw[((ce 2 q).2.2 j).1];have k:=f2.le j;rw[d]
  cases j <;> exact k
 ·rw[d];exact h.calm
 ·cases i
  ·rw[v1];show(3:Int)<=3;omega
  rw[u];show(3:Int)<=(if(p.sd true).c.shut=true then 4 else 3);split <;> omega
 ·cases i
  ·rw[v1];exact A
  rw[u];exact B
 ·have C:(Vp 2 q).wire=[]:=by rw[d];rfl
  rw[C]at t
  cases t
 cases i
 ·rw[show((Vp 2 q).sd false).c.cf.fp=((p.sd false).c).cf.fp from by rw[v1];rfl,show((Vp 2 q).sd (!false)).c.cf.tp=((p.sd true).c).cf.tp from by(show((Vp 2 q).sd true).c.cf.tp=_;rw[u];rfl),l,m];rfl
 rw[show((Vp 2 q).sd true).c.cf.fp=((p.sd true).c).cf.fp from by rw[u];rfl,show((Vp 2 q).sd (!true)).c.cf.tp=((p.sd false).c).cf.tp from by(show((Vp 2 q).sd false).c.cf.tp=_;rw[v1];rfl),l,m];rfl
theorem wP (now:Int)(n:Nat):∀(c:Cn) (l:List Sg),∃t,(nA now n c l).2=l++t:=by
 induction n with
 | zero=>intro c l;exact⟨[],(LP l).symm⟩
 | succ n a =>
  intro c l;unfold nA;split
  ·obtain⟨t,e⟩:=a (c.out now c.allowed) (l++[c.kr c.allowed]);exact⟨_,e.trans (LO _ _ _)⟩
  exact⟨[],(LP l).symm⟩
theorem wQ {c:Cn}{now:Int}(hs:ae c.st=true)(j:c.sc.lost c.go=[])(l:c.pend=2)(b:c.shut=false):∃g t,(c.push now).2=g::t/\g.sq=aw c.cf.ki c.next:=by
 have h0:c.st≠0:=Kp
 have d:∀n,oi n c []=(c,[]):=fun n=>by
  cases n with
  | zero=>rfl
  | succ n=>unfold oi;rw[j];split <;> rfl
 unfold Cn.push;rw[L7 h0];dsimp only;rw[L9 hs];unfold Cn.qb;dsimp only;rw[d];dsimp only;unfold nA;split
 ·obtain⟨t,e⟩:=wP now c.kc.toNat (c.out now c.allowed) ([]++[c.kr c.allowed])
  have k:∀a:Cn×List Sg,a.2=[]++[c.kr c.allowed]++t->∃f,((Cb now a.1 a.2).1.tt (Cb now a.1 a.2).2).2=c.kr c.allowed::f:=fun a m=>by
   have o:∃i,(Cb now a.1 a.2).2=c.kr c.allowed::i:=by
    unfold Cb;rw[m];split
    ·exact⟨_,Z⟩
    exact⟨_,Z⟩
   obtain⟨i,d⟩:=o;unfold Cn.tt;rw[d];split
   ·exact⟨_,Z⟩
   exact⟨_,Z⟩
  obtain⟨f,p⟩:=k _ e;exact⟨_,f,p,(kG c _ _).1⟩
 unfold Cb;rw[L7 (fun g=>by rw[b]at g;cases g.1)];unfold Cn.tt;rw[L9 l];exact⟨_,[],Z,(gz c dE c.next).1⟩
theorem zL {p:Pr}{i:Bool}(h:(p.sd i).c.tick p.now=((p.sd i).c,[])):p.kp i=p:=by
 unfold Pr.kp;rw[h]
 cases i <;> rfl
structure HJ (x:Rw)(N:Bool->Int)(p:Pr):Prop where
 tn:Tn (cG x) (Vp 2 p) (fun _=>1) N
 b:Wt (uE x) (p.sd true).c
 now:p.now=1
 got:(p.sd true).got=[]
 fin:(p.sd true).fin=false
 cs:(p.sd true).closed=true->(p.sd true).c.shut=true
 hd:∃f W,p.wire=f::W/\f.dst=true/\f.s.sq=aw (ck x.DL) 1
theorem Fc.tick {x:Rw}{N:Bool->Int}{p:Pr}{n:Int}(h:Fc (B4 x) (uE x) [⟨false,1,false,oR x⟩] p)(g:Ga (cG x) N p n):HJ x N p.tick:=by
 obtain⟨⟨y,L⟩,⟨z,s,eb⟩⟩:=h.f;have pv:=g.al.pv;have ft:=Fit.off g.al.run.1 (by rw[h.now];decide);have pA:=ah x.xb 400 D;have pB:=ah x.x4 400 D;have oA:0<=ck x.DL/\ck x.DL<=4294967295:=by unfold ck;omega
 have bk:=h.now;obtain⟨A,B,cV⟩:=h.start g (by rw[h.now];decide);obtain⟨q,C⟩:∃q:Pr,q={ p with now:=p.now+1,wire:=[] }:=⟨_,Z⟩;rw[<-C]at cV ft;have qs:q.sd=p.sd:=by rw[C];rfl
 have M:q.now=1:=by rw[C];show p.now+1=1;omega
 obtain⟨f,t⟩:∃f:Fl,f=⟨false,1,false,oR x⟩:=⟨_,Z⟩;have S:f∈p.wire:=by rw[h.wire,t];simp
 have a7:f.dst=false:=by rw[t]
 have b6:f.s=oR x:=by rw[t]
 -- deliver
 have ed:({ p with now:=p.now+1 }:Pr).deliver=q.kd f:=by
  obtain⟨d1,d2⟩:=kL (p:={ p with now:=p.now+1 }) (fun k hk=>by
   have hk:k∈p.wire:=hk;rw[h.wire]at hk;rw[Ly.1 hk];exact⟨Z,by show(1:Int)<=p.now+1;omega⟩)
  unfold Pr.deliver;rw[d1,d2];show p.wire.foldl Pr.kd { p with now:=p.now+1,wire:=[] }=_;rw[h.wire,<-t,C];rfl
 obtain⟨a0,bn,bo,c3,c4⟩:=CS x
 have b7:(p.sd false).c.receive q.now (oR x)=(met (p.sd false).c q.now (oR x)).push q.now:=by
  refine wO (by rw[L];rfl) (by rw[L];rfl) a0 ?_ ?_
  ·rw[L];exact bn
  rw[L,bo];show aE (aw (aw (ck x.DL) 0) (0+1)) (ck x.DL)=1;unfold aE aw;omega
 obtain⟨T,G⟩:=lr q f;rw[a7,b6,qs,b7]at T;rw[a7,qs]at G;have G:(q.kd f).sd true=p.sd true:=G;obtain⟨⟨-,-,E⟩,w2,w3⟩:=lq (p:=q) f.dst ((q.sd f.dst).c.receive q.now f.s).1 ((q.sd f.dst).c.receive q.now f.s).2 (by rw[C];exact h.calm);have E:(q.kd f).wire=q.wire++((q.sd f.dst).c.receive q.now f.s).2.map (q.fl f.dst):=E;have w2:(q.kd f).now=q.now:=w2;have w3:(q.kd f).kq.length<=(q.kd f).many:=w3;rw[a7,b6,qs,b7]at E;have qw:q.wire=[]:=by rw[C]
 rw[qw,LG]at E;obtain⟨m,hm⟩:∃m,m=met (p.sd false).c q.now (oR x):=⟨_,Z⟩;have bu:p.now+1=q.now:=by rw[M];omega
 rw[bu,<-hm]at cV;rw[<-hm]at T E;have vm:((Vp 2 (q.v6 false m)).sd false).c=m:=Z;have P:=(cV.ns false).1;rw[vm]at P;have a5:m.st=3:=by rw[hm];rfl
 have op:=Op.start P.hv.ok P.now (P.hv.so P.gi) P.hv.hs O;have vn:(Vp 2 (q.v6 false m)).now=q.now:=Z;rw[vn]at op;have pq:Pr.PV (cG x) q:=by rw[C];exact⟨pv.s,pv.r,fun f t=>(by cases t),pv.g⟩
 obtain⟨I,an⟩:=pv.w f S;have I:GS (Pr.kx (cG x) q (!f.dst)) f.s:=by rw[C];exact I
 have an:iM (Pr.kx (cG x) q f.dst) f.s:=by rw[C];exact an
 have b8:=g.al.run.1.wire f S;have bv:=Pr.PV.kd pq ft (eI x) b8 Z Z Z I (Gw.refl _) an;have bz:=Pr.D5 ft b8;have a1:Wb ((q.kd f).sd true).c:=by rw[G,eb];exact⟨Z,Z,Z,Ku⟩
 have f2:=g.f2
 have cC:Fv (Vp 2 (q.kd f)) N:=by
  refine⟨fun j e=> ?_,fun j=> ?_,f2.sm⟩
  ·rw[((ce 2 _).2.2 j).1];rw[((ce 2 _).2.2 j).2.1]at e;rw[(Pr.A1 q f j).2,qs]at e;rw[(Pr.A1 q f j).1,qs];exact f2.cl j e
  rw[((ce 2 _).2.2 j).1,(Pr.A1 q f j).1,qs];exact f2.le j
 have c1:=cV.op (p':=Vp 2 (q.kd f)) false (d:=(m.push q.now).1) (l:=(m.push q.now).2) op T (by
   show { (q.kd f).sd true with c:=iI 2 ((q.kd f).sd true).c }=_;rw[G,<-qs];rfl) (by show(q.kd f).wire=q.wire++(m.push q.now).2.map (q.fl false);rw[E,qw];rfl) w3 (PV.vp bv a1 2) (Fit.vp bz 2) cC (fun e=>by rw[(bF m q.now).ended]at e;exact e) (eR m q.now) (by rw[dL,a5];decide)
 obtain⟨o,U⟩:∃o,o=q.kd f:=⟨_,Z⟩;rw[<-U]at c1 T G E w2 w3 ed;have v1:((Vp 2 o).sd false).c=(m.push q.now).1:=T;have V:(Vp 2 o).now=q.now:=w2;have fm:m.shut=false/\m.base=1/\m.gi=1/\m.largest=max 0 (40+aO x.x4 400)/\m.limit=max 0 (1+(40+aO x.x4 400))/\m.dl=eE/\m.tries=0/\m.pend=2/\m.ann=40+aO x.xb 400/\m.sc=⟨1,1,0,[],[]⟩/\m.cf=ee x:=by rw[hm,L];exact⟨Z,Z,Z,Z,Z,Z,Z,Z,Z,Z,Z⟩
 obtain⟨m1,m2,m3,m4,m5,m6,m7,m8,m9,av,b9⟩:=fm;have u:Op True m ((Vp 2 o).sd false).c (m.push q.now).2 q.now:=by rw[v1];exact op
 have cF:NI m q.now:=by
  refine⟨O,fun e=>by omega,?_,fun e=>by rw[m6]at e;cases e⟩;rw[m7,M];decide
 have ax:Sx ((Vp 2 o).sd false).c ((cG x).r true) q.now:=by
  refine⟨u.xv.ex.ci ⟨fun _=>.inl a5,fun e=>by omega,O⟩,u.rv.p2,fun e=> ?_,u.xv.set (fun e=> ?_),u.xv.ex.ni cF,?_,?_⟩
  ·rcases u.rv.k with⟨-,-,⟨e1,-,-⟩ | ⟨-,e1,-⟩⟩ | ⟨-,e1,-⟩ <;> omega
  ·have a2:m.flight=m.next-m.gi:=Z;have a9:m.next=1:=by unfold Cn.next;rw[av]
   omega
  ·have:=u.xv.ex.De;omega
  rw[u.De,m4];show max (0:Int) (40+aO x.x4 400)<=40+aO x.x4 400;omega
 have cL:((Vp 2 o).sd false).c.st=3:=by rw[v1,dL,a5]
 have a3:=ax.tries (by rw[M];decide)
 rcases c1.kp false a3 (fun e1 _=>by
   have a2:((Vp 2 o).sd false).c.flight=((Vp 2 o).sd false).c.next-((Vp 2 o).sd false).c.gi:=Z;have h1:=u.gi;have h2:=u.lim;omega)with⟨k,-⟩ | ⟨c2,op2,e2,J,e4⟩
 ·omega
 have g2:G1 _ (Vp 2 o) ((Vp 2 o).kp false) false _:=⟨op2.sv,op2.rv,op2.xv,e2,J,e4⟩;have ab:Sx ((Vp 2 o).sd false).c ((cG x).r true) (Vp 2 o).now:=by rw[V];exact ax
 have ad:=ab.step op2.rv op2.xv (by rw[op2.De];exact ax.lR);have ag:=op2.xv.ex.nd (fun hd=>ab.ni.nd hd);have W:=oP (Vp 2 o) false;rw[zK]at c2 e2 J e4 g2 ad ag W;have bI:(((Vp 2 (o.kp false))).sd true)=(Vp 2 o).sd true:=e2;obtain⟨a,K⟩:∃a,a=o.kp false:=⟨_,Z⟩;rw[<-K]at c2 e2 J e4 g2 ad ag W bI;have X:a.now=q.now:=e4.trans V;have F:a.sd true=p.sd true:=by rw[K];exact(kM o false).2.trans G
 have wb:Wt (uE x) (a.sd true).c:=by rw[F];exact h.b
 have et:p.tick=a:=by
  unfold Pr.tick;rw[ed,<-K];exact zL (wb.tick (by rw[X,M];decide))
 rw[et]
 have a4:∀f∈a.wire,f.held=false/\f.due<=a.now+1:=fun f t=>by
  have t:f∈(Vp 2 a).wire:=t;rw[J]at t;rw[X]
  rcases LH.1 t with t | t
  ·have t:f∈o.wire:=t;rw[E]at t;obtain⟨g,-,rfl⟩:=Mg.1 t;exact⟨Z,Lb _⟩
  obtain⟨g,-,rfl⟩:=Mg.1 t;exact⟨Z,by show(Vp 2 o).now+1<=_;rw[V];exact Lb _⟩
 have ba:=Mn.of u.sv u.rv u.xv;have bb:=g2.mn false
 have b5:(a.sd false).got=(p.sd false).got/\(a.sd false).all=(p.sd false).all/\(a.sd false).closed=(p.sd false).closed:=by
  have k1:=oO q f;rw[a7,qs,<-U]at k1;exact⟨W.1.trans k1.1,W.2.1.trans k1.2.1,W.2.2.trans k1.2.2⟩
 have vb:((Vp 2 a).sd true).c=iI 2 (p.sd true).c:=by rw[(ce 2 a).2.1,F]
 have a6:((p.sd true).c.shut=s)/\(p.sd true).c.base=1/\(p.sd true).c.pend=0/\(p.sd true).c.largest=max 0 (40+aO x.xb 400)/\(p.sd true).c.ann=40+aO x.x4 400/\(p.sd true).c.cf=eF x/\(p.sd true).c.bx.nx=0:=by rw[eb];exact⟨Z,Z,Z,Z,Z,Z,Z⟩
 obtain⟨c5,c6,c7,c8,c9,cM,ca⟩:=a6
 have cb:(iI 2 (p.sd true).c).st=3\/(iI 2 (p.sd true).c).st=4:=by
  show(if(p.sd true).c.shut=true then(4:Int)else 3)=3\/(if(p.sd true).c.shut=true then(4:Int)else 3)=4;split <;> simp
 refine⟨⟨⟨_,_,c2⟩,fun i=> ?_,fun i=> ?_,a4,fun i=> ?_,fun i=>⟨?_,?_⟩,fun i=> ?_,fun i=> ?_⟩,wb,by rw[X,M],by rw[F];exact h.got true,by rw[F];exact h.fin true,by rw[F];exact h.cs true,?_⟩
 ·show Sx ((Vp 2 a).sd i).c ((cG x).r (!i)) a.now;rw[X]
  cases i
  ·rw[V]at ad;exact ad
  rw[vb];refine⟨⟨fun e=>.inl ?_,fun e=>by omega,by show min 1 (p.sd true).c.last<=(p.sd true).c.base;omega⟩,by show(p.sd true).c.pend≠2;omega,fun e=> ?_,fun e=> ?_,⟨Lb 0,fun e=> ?_,by rw[M];show(0:Int)<=1;decide,fun e=>IZ⟩,by show 40<=(p.sd true).c.largest;omega,by show(p.sd true).c.largest<=40+aO x.xb 400;omega⟩
  ·have e:(p.sd true).c.shut=false:=e;show(if(p.sd true).c.shut=true then(4:Int)else 3)=3;rw[e];rfl
  ·have e:(p.sd true).c.pend=1:=e;omega
  ·have e:(0:Int)<1-1:=e;omega
  have e:(0:Int)<0:=e;omega
 ·show ND ((Vp 2 a).sd i).c a.now;rw[X]
  cases i
  ·rw[V]at ag;exact ag
  rw[vb];exact fun e=>by cases e
 ·cases i
  ·refine .inr fun _=> ?_;have hg:((Vp 2 a).sd false).got=[]:=b5.1.trans (h.got false);rw[hg];have h1:=ba.ann;have h2:=bb.ann;show((0:Nat):Int)+(40+aO x.xb 400)<((Vp 2 a).sd false).c.ann+max 1 ((40+aO x.xb 400)/2);omega
  refine .inr fun _=> ?_;have hg:((Vp 2 a).sd true).got=[]:=by rw[((ce 2 a).2.2 true).2.2.1,F];exact h.got true
  rw[hg,vb];show((0:Nat):Int)+(40+aO x.x4 400)<(p.sd true).c.ann+max 1 ((40+aO x.x4 400)/2);omega
 ·cases i
  ·show 40<=40+aO x.xb 400;omega
  show 40<=40+aO x.x4 400;omega
 ·have pK:=ah x.keep 400 D
  cases i
  ·rw[bb.cf,ba.cf,b9];show 40<=40+aO x.keep 400;omega
  rw[vb];show 40<=(p.sd true).c.cf.keep;rw[cM];show 40<=40+aO x.keep 400;omega
 ·rw[((ce 2 a).2.2 i).2.2.2.1]
  cases i
  ·rw[b5.2.1];exact g.all false
  rw[F];exact g.all true
 ·intro e;rw[((ce 2 a).2.2 i).2.1]at e
  cases i
  ·rw[b5.2.2]at e;have h1:=h.cs false e;rw[L]at h1
   cases h1
  rw[F]at e;rw[vb];exact h.cs true e
 obtain⟨g1,t1,h1,h2⟩:=wQ (c:=m) (now:=q.now) (by rw[a5];rfl) (by rw[av];exact rQ _) m8 m1;have J:a.wire=o.wire++_:=J;rw[J,E,h1];refine⟨q.fl false g1,_,Z,Z,?_⟩;show g1.sq=_;rw[h2,b9,show m.next=1 from by unfold Cn.next;rw[av]];rfl
theorem Wt.b {x:Rw}{c:Cn}(h:Wt (uE x) c):∃y s,c={ uE x with held:=y,shut:=s }:=h.eq
theorem Wt.wb {x:Rw}{c:Cn}(h:Wt (uE x) c):Wb c:=by
 have a:=ah x.xb 400 D;obtain⟨y,s,e⟩:=h.eq;rw[e];exact⟨Z,Z,Z,Ku⟩
theorem B5 {x:Rw}{c:Cn}(h:Wt (uE x) c){now:Int}(a:0<=now):Sx (iI 2 c) (40+aO x.xb 400) now/\Hs (iI 2 c)/\3<=(iI 2 c).st:=by
 have d:=ah x.xb 400 D;obtain⟨y,s,e⟩:=h.eq;have b:c.base=1/\c.pend=0/\c.largest=max 0 (40+aO x.xb 400):=by rw[e];exact⟨Z,Z,Z⟩
 obtain⟨f,i,j⟩:=b
 have st:(iI 2 c).st=3\/(iI 2 c).st=4:=by
  show(if c.shut=true then(4:Int)else 3)=3\/(if c.shut=true then(4:Int)else 3)=4;split <;> simp
 refine⟨⟨⟨fun g=>.inl ?_,fun g=>by omega,by show min 1 c.last<=c.base;omega⟩,by show c.pend≠2;omega,fun g=> ?_,fun g=> ?_,⟨Lb 0,fun g=> ?_,a,fun g=>(by cases g)⟩,by show 40<=c.largest;omega,by show c.largest<=40+aO x.xb 400;omega⟩,?_,O⟩
 ·have g:c.shut=false:=g;show(if c.shut=true then(4:Int)else 3)=3;rw[g];rfl
 ·have g:c.pend=1:=g;omega
 ·have g:(0:Int)<1-1:=g;omega
 ·have g:(0:Int)<0:=g;omega
 rw[e]at st|-;exact⟨fun g=>(by cases g),fun g=>(by cases g),fun g=>by omega,fun g=>(by cases g)⟩
theorem DI.held {c0:Cn}{y b:List UInt8}{s s':Bool}{T:Int}{r:Cn}{a A:List Sg}{q N:Int}:(DI (iI T { c0 with held:=y,shut:=s }) r a A q N->DI (iI T { c0 with held:=b,shut:=s' }) r a A q N)/\(DI r (iI T { c0 with held:=y,shut:=s }) a A q N->DI r (iI T { c0 with held:=b,shut:=s' }) a A q N) :=
 ⟨fun h=>⟨h.A2,h.seg,h.ack,h.Hw,h.gi,h.E5,h.lim,h.safe,h.told,h.Fb,h.Hx,h.EP⟩,fun h=>⟨h.A2,h.seg,h.ack,h.Hw,h.gi,h.E5,h.lim,h.safe,h.told,h.Fb,h.Hx,h.EP⟩⟩
theorem zM {p:Pr}{f:Fl}(a:f.dst=true)(e:(p.sd true).c.receive p.now f.s=(iI 2 (p.sd true).c).receive p.now f.s):(Vp 2 p).kd f=p.kd f:=by
 unfold Pr.kd;rw[a];have b:((Vp 2 p).sd true).c.receive (Vp 2 p).now f.s=(p.sd true).c.receive p.now f.s:=e.symm;rw[b];rfl
theorem HJ.round {x:Rw}{N:Bool->Int}{p:Pr}{n:Int}(h:HJ x N p)(g:Ga (cG x) N p n):Ek (cG x) N p.E5\/(Tn (cG x) p.E5 (fun _=>1) N/\∀i,wU (p.E5.sd i).c):=by
 have pB:=ah x.x4 400 D;obtain⟨y,M,d1⟩:=h.tn.nv false;rw[Ac]at y M d1;have g1:=g.nv false;have F:=g1.nv true;have G:(p.nv false).sd true=p.sd true:=nJ p false;have V:(p.nv false).now=1:=M.now.trans h.now;obtain⟨s,e,w,sg,sf,-,sk⟩:=Wt.nv (p:=p.nv false) (i:=true) (by rw[G];exact h.b) (by rw[G];exact h.got) (by rw[G];exact h.fin) (fun q=>by rw[G,h.b.f.1]at q;cases q) (by rw[G];exact h.cs);have X:p.Cm.1=(p.nv false).kl true s:=e;rw[e]at F;obtain⟨p1,a0⟩:∃p1,p1=p.nv false:=⟨_,Z⟩;rw[<-a0]at y M d1 g1 F G V X;obtain⟨l,o⟩:∃l,l=p1.kl true s:=⟨_,Z⟩;rw[<-o]at F X;have sa:l.sd false=p1.sd false:=by rw[o];rfl
 have K:l.sd true=s:=by rw[o];rfl
 have T:l.wire=p1.wire:=by rw[o];rfl
 have sn:l.now=1:=by rw[o];exact V
 have wb:Wt (uE x) (l.sd true).c:=by rw[K];exact w
 obtain⟨A,B,L⟩:=y.cl;have t:((Vp 2 l).sd false)=(Vp 2 p1).sd false:=sa;have u:((Vp 2 p1).sd true).c=iI 2 (p1.sd true).c:=(ce 2 p1).2.1;have m:((Vp 2 l).sd true).c=iI 2 s.c:=by rw[(ce 2 l).2.1,K]
 obtain⟨y1,z1,I⟩:=h.b.eq;rw[<-G]at I;obtain⟨y2,z2,z⟩:=w.eq;obtain⟨sx,hs,cS⟩:=B5 w (now:=l.now) (by rw[sn];decide);have f2:=F.f2
 have cl:Cl (cG x) (Vp 2 l) [] (fun _=>1) N (Vp 2 l).Q (Vp 2 l).R:=by
  refine⟨PV.vp F.al.pv wb.wb 2,Fit.vp F.al.run.1 2,fun i=> ?_,⟨fun j q=> ?_,fun j=> ?_,f2.sm⟩,by rw[o];exact L.calm,fun i=> ?_,fun i=> ?_,fun f C=> ?_,fun i=> ?_,fun f C=>(by cases C)⟩
  ·have k:=L.dp i;have E:(Vp 2 l).wire=(Vp 2 p1).wire:=T;rw[E]
   cases i
   ·show DI ((Vp 2 l).sd false).c ((Vp 2 l).sd true).c _ _ _ _;have k:DI ((Vp 2 p1).sd false).c ((Vp 2 p1).sd true).c _ _ _ _:=k;rw[t,m,z];rw[u,I]at k;exact DI.held.2 k
   show DI ((Vp 2 l).sd true).c ((Vp 2 l).sd false).c _ _ _ _;have k:DI ((Vp 2 p1).sd true).c ((Vp 2 p1).sd false).c _ _ _ _:=k;rw[t,m,z];rw[u,I]at k;exact DI.held.1 k
  ·rw[((ce 2 l).2.2 j).1];rw[((ce 2 l).2.2 j).2.1]at q;exact f2.cl j q
  ·rw[((ce 2 l).2.2 j).1];exact f2.le j
  ·cases i
   ·rw[t];exact L.st false
   rw[m];exact cS
  ·cases i
   ·rw[t];exact L.hs false
   rw[m];exact hs
  ·have C:f∈[]++(Vp 2 p1).wire:=by
    have E:(Vp 2 l).wire=(Vp 2 p1).wire:=T;rw[<-E];exact C
   have k:=L.pl f C
   cases hd:f.dst with
   | false=>rw[hd]at k;rw[t];exact k
   | true =>
    rw[hd,u,I]at k;rw[m,z];exact k
  have k:=L.prt i
  cases i
  ·show((Vp 2 l).sd false).c.cf.fp=((Vp 2 l).sd true).c.cf.tp;have k:((Vp 2 p1).sd false).c.cf.fp=((Vp 2 p1).sd true).c.cf.tp:=k;rw[u,I]at k;rw[t,m,z];exact k
  show((Vp 2 l).sd true).c.cf.fp=((Vp 2 l).sd false).c.cf.tp;have k:((Vp 2 p1).sd true).c.cf.fp=((Vp 2 p1).sd false).c.cf.tp:=k;rw[u,I]at k;rw[t,m,z];exact k
 have bc:((Vp 2 l).sd true).got.length+(cG x).r true<((Vp 2 l).sd true).c.ann+max 1 ((cG x).r true/2):=by
  rw[((ce 2 l).2.2 true).2.2.1,K,sg,m,z];show((0:Nat):Int)+(40+aO x.x4 400)<40+aO x.x4 400+max 1 ((40+aO x.x4 400)/2);omega
 have cT:(((Vp 2 l).sd true).got.length:Int)=((Vp 2 l).sd true).c.bx.nx:=by
  rw[((ce 2 l).2.2 true).2.2.1,K,sg,m,z];rfl
 have tn:Tn (cG x) (Vp 2 l) (fun _=>1) N:=by
  refine⟨⟨_,_,cl⟩,fun i=> ?_,fun i=> ?_,fun f C=> ?_,fun i=> ?_,fun i=>⟨(y.par i).1,?_⟩,fun i=>by rw[((ce 2 l).2.2 i).2.2.2.1];exact F.all i,fun i q=> ?_⟩
  ·show Sx ((Vp 2 l).sd i).c ((cG x).r (!i)) l.now
   cases i
   ·rw[t,sn,<-V];exact y.sx false
   rw[m];exact sx
  ·show ND ((Vp 2 l).sd i).c l.now;rw[show l.now=p1.now by omega]
   cases i
   ·rw[t];exact y.nd false
   rw[m];exact fun q=>by cases q
  ·have C:f∈(Vp 2 p1).wire:=by
    have E:(Vp 2 l).wire=(Vp 2 p1).wire:=T;rw[<-E];exact C
   have k:=y.w f C;exact⟨k.1,by have U:f.due<=p1.now+1:=k.2;show f.due<=l.now+1;omega⟩
  ·cases i
   ·unfold A9;rw[t];exact y.rw false
   exact .inr fun _=>bc
  ·cases i
   ·rw[t];exact(y.par false).2
   have k:=(y.par true).2;rw[u,I]at k;rw[m,z];exact k
  rw[((ce 2 l).2.2 i).2.1]at q
  cases i
  ·rw[sa]at q;rw[t];exact y.cs false q
  rw[K]at q;rw[m];exact sk q
 have rd:∀i,Rd (cG x) (Vp 2 l) i:=fun i=>by
  cases i
  ·unfold Rd;rw[t];exact d1.rd
  exact .inr ⟨cT,bc⟩
 -- the tick
 obtain⟨f,W,hw,a7,cX⟩:=h.hd;obtain⟨l1,E⟩:=M.ww;have E:p1.wire=p.wire++l1:=E;have J:l.wire=f::(W++l1):=by rw[T,E,hw];rfl
 have cY:f∈(Vp 2 l).wire:=by show f∈l.wire;rw[J];simp
 have wd:=tn.w
 have ed:(Vp 2 l).tick=l.tick:=by
  have P:∀k∈({ l with now:=l.now+1 }:Pr).wire,k.held=false/\k.due<=l.now+1:=fun k hk=>wd k hk;obtain⟨d1,d2⟩:=kL (p:={ l with now:=l.now+1 }) P;obtain⟨d3,d4⟩:=kL (p:={ (Vp 2 l)with now:=l.now+1 }) P
  have q1:({ (Vp 2 l)with now:=l.now+1 }:Pr).deliver=l.wire.foldl Pr.kd (Vp 2 { l with now:=l.now+1,wire:=[] }):=by
   unfold Pr.deliver;rw[d3,d4];rfl
  have q2:({ l with now:=l.now+1 }:Pr).deliver=l.wire.foldl Pr.kd { l with now:=l.now+1,wire:=[] }:=by
   unfold Pr.deliver;rw[d1,d2]
  have q3:(Vp 2 { l with now:=l.now+1,wire:=[] }).kd f=({ l with now:=l.now+1,wire:=[] }:Pr).kd f:=by
   refine zM a7 ?_;have e1:(({ l with now:=l.now+1,wire:=[] }:Pr).sd true).c=s.c:=by show(l.sd true).c=s.c;rw[K]
   rw[e1,show({ l with now:=l.now+1,wire:=[] }:Pr).now=2 by show l.now+1=2;omega];have k:=cl.pl f cY;have d:=cl.dp true;rw[a7,m]at k;have d:DI ((Vp 2 l).sd true).c ((Vp 2 l).sd false).c _ _ _ _:=d;rw[m]at d;obtain⟨-,⟨k1,U,k3⟩,k4,k5⟩:=k;have kb:s.c.st=2/\s.c.sc=⟨0,1,0,[],[]⟩/\s.c.base=1/\s.c.A2=aw (ck x.DL) 0/\s.c.bx.nx=0/\s.c.ann=40+aO x.x4 400/\s.c.ended=false:=by rw[z];exact⟨Z,Z,Z,Z,Z,Z,Z⟩
   obtain⟨m1,m2,m3,m4,m5,m6,m7⟩:=kb;refine rR m1 m2 m3 ⟨k1,U,k3⟩ ⟨k4,k5⟩ ?_ ?_
   ·have a:=d.ack f.s (by show f.s∈jY true l.wire;rw[J,<-a7,(kK f _).1];exact M7);have b:=d.E5;have M:(iI 2 s.c).gi=1:=Z;have u2:(iI 2 s.c).next=1:=Z;have a1:=a.1;have a2:=a.2.1;have u3:iF (iI 2 s.c).cf.ki f.s=aE f.s.ak s.c.cf.ki:=Z;omega
   have off:s.c.offset f.s.sq=0:=by
    unfold Cn.offset;rw[m4,cX];unfold aE aw ck;omega
   have ex:s.c.expected=0:=by unfold Cn.expected Cn.reached;rw[m7,m5];rfl
   have sl:0<=aq f.s:=by unfold aq;split <;> split <;> omega
   rw[off];unfold Cn.accepts;rw[ex,m5,m6];split
   ·rfl
   rw[L7 O,L7 O];exact Le O
  unfold Pr.tick;show((({ (Vp 2 l)with now:=l.now+1 }:Pr).deliver).kp false).kp true=((({ l with now:=l.now+1 }:Pr).deliver).kp false).kp true;rw[q1,q2,J,Nn,Nn,q3]
 have S:=tn.tick (eI x) rd (by show l.now+1<1692;omega);rw[ed]at S;unfold Pr.E5;rw[X]
 rcases S with k | ⟨k1,U,-,-⟩
 ·exact .inl k
 exact .inr ⟨k1,U⟩
def ph (n m:Nat):Bool->Int:=fun i=>if i=true then m else n
theorem uG (x:Rw){n m:Nat}(a:n<=1000)(b:m<=1000):Ga (cG x) (ph n m) (eK x [] n m) 0 :=
 ⟨kF x [] n m D a b,fun i h=>(by cases i <;> cases h),fun i=>by
  cases i
  ·exact congrArg Int.ofNat (ll 0 n)
  ·exact congrArg Int.ofNat (ll 1 m)⟩
theorem zN (x:Rw){n m:Nat}(c:n<=500)(d:m<=500):∃k,k<=493/\Ek (cG x) (ph n m) ((eK x [] n m).seq k):=by
 have g:=uG x (n:=n) (m:=m) O O;have h:=((Fc.meet x n m).nv false).nv true;generalize eK x [] n m=p at g h;have h1:HJ x (ph n m) (p.seq 1):=h.tick ((g.nv false).nv true);have g1:Ga (cG x) (ph n m) (p.seq 1) _:=g.E5 (eI x) (Lb 0) D;have a:Ga (cG x) (ph n m) (p.seq 2) _:=g1.E5 (eI x) D D
 rcases h1.round g1 with k | ⟨t,s⟩
 ·exact⟨2,D,k⟩
 have hw:=a.al.run.2;have t:Tn (cG x) (p.seq 2) (fun _=>1) (ph n m):=t;obtain⟨k,f,b⟩:=t.through s (eI x) (fun _=>Lb 1) (J:=25) (fun i=>by unfold ph;split <;> omega) O;refine⟨k+2,O,?_⟩
 have e:∀k,p.seq (k+2)=(p.seq 2).seq k:=fun k=>by
  rw[rM,rM];rfl
 rw[e];exact b
theorem il (p:Pr)(f:Fl)(j:Bool):((p.kd f).sd j).all=(p.sd j).all/\((p.kd f).sd j).fin=(p.sd j).fin:=by
 unfold Pr.kd;rw[af]
 cases f.dst <;> cases j <;> exact⟨Z,Z⟩
theorem zO (p:Pr)(j:Bool):(p.tick.sd j).fin=(p.sd j).fin:=by
 have b:∀(Q:List Fl) (p:Pr),((Q.foldl Pr.kd p).sd j).fin=(p.sd j).fin:=fun Q=>by
  induction Q with
  | nil=>intro p;rfl
  | cons f Q c=>intro p;exact(c (p.kd f)).trans (il p f j).2
 have a:∀(p:Pr) (i:Bool),((p.kp i).sd j).fin=(p.sd j).fin:=fun p i=>by
  unfold Pr.kp;rw[af]
  cases i <;> cases j <;> rfl
 refine(a _ _).trans ((a _ _).trans ((b _ _).trans ?_))
 cases j <;> rfl
theorem zP (p:Pr)(i j:Bool)(n:Int)(h:(p.sd j).fin=true):((p.recv i n).sd j).fin=true:=by
 unfold Pr.recv;dsimp only;split
 ·cases i <;> cases j <;> exact h
 rw[af]
 cases i <;> cases j <;> first | exact h | (show((p.sd _).fin||_)=true;rw[h];rfl)
structure Rp (P:Pr.BX)(N:Bool->Int)(A:Bool->List UInt8)(p:Pr)(n:Int):Prop where
 ga:Ga P N p n
 lp:Lp P p
 fin:∀i,(p.sd i).fin=true
 all:∀i,(p.sd i).all=A i
theorem Rp.got {P:Pr.BX}{N:Bool->Int}{A:Bool->List UInt8}{p:Pr}{n:Int}(h:Rp P N A p n)(i:Bool):(p.sd i).got=A (!i):=by
 have v:Pr.D3 (p.sd i) (p.sd (!i))=false:=h.ga.al.pv.D3 h.ga.al.run.1 i;have r:=(h.ga.al.pv.r i).2.2 (h.fin i);have c:=h.ga.cl (!i) r.1;have l:=h.ga.all (!i);unfold Pr.D3 at v;rw[MR,MR]at v;have e:=v.2.1;rw[Lu,Classical.not_not]at e;rw[e,h.all (!i)];rw[h.all (!i)]at l;have a:((A (!i)).length:Int)=(p.sd i).got.length:=O
 rw[Mf O]
theorem Rp.tick {P:Pr.BX}{N:Bool->Int}{A:Bool->List UInt8}{p:Pr}{n:Int}(h:Rp P N A p n)(a:P.Ok)(h0:0<=n)(b:n+1<=5000):Rp P N A p.tick (n+1)/\∀g∈p.log,g∈p.tick.log:=by
 have hw:=h.ga.al.run.2;obtain⟨c,d⟩:=h.lp.tick a O;exact⟨⟨h.ga.tick a h0 b,c,fun i=>by rw[zO];exact h.fin i,fun i=>by rw[(kP p i).2.2];exact h.all i⟩,d⟩
theorem Rp.ticks {P:Pr.BX}{N:Bool->Int}{A:Bool->List UInt8}(a:P.Ok):∀(k:Nat) {p:Pr} {n:Int},Rp P N A p n->0<=n->n+k<=5000->Rp P N A (Pr.ticks k p) (n+k):=by
 intro k
 induction k with
 | zero=>intro p n h _ _;rw[show n+((0:Nat):Int)=n by omega];exact h
 | succ k b =>
  intro p n h h0 c;have:=b (h.tick a h0 O).1 O O;rw[show n+((k+1:Nat):Int)=n+1+k by omega];exact this
theorem Rp.recv {P:Pr.BX}{N:Bool->Int}{A:Bool->List UInt8}{p:Pr}{n:Int}(h:Rp P N A p n)(i:Bool){k:Int}(a:0<=k):Rp P N A (p.recv i k) (n+1)/\∀g∈p.log,g∈(p.recv i k).log:=by
 obtain⟨b,c⟩:=h.lp.recv i a;have s:=fun j=>nL p i j k;exact⟨⟨⟨h.ga.al.recv i a,fun j g=>by rw[(s j).2.1]at g;rw[(s j).2.2.1];exact h.ga.cl j g,fun j=>by rw[(s j).1];exact h.ga.all j⟩,b,fun j=>zP p i j k (h.fin j),fun j=>by rw[(s j).1];exact h.all j⟩,c⟩
theorem Rp.kd {P:Pr.BX}{N:Bool->Int}{A:Bool->List UInt8}{p:Pr}{n:Int}(h:Rp P N A p n)(b:P.Ok){f:Fl}(a:f∈p.log):Rp P N A (p.kd f) (n+1)/\∀g∈p.log,g∈(p.kd f).log:=by
 obtain⟨d,e⟩:=h.lp.kd b a;have g:=h.lp.pv.w f a;have c:=h.ga.al.run.1.log f a;have s:=fun j=>Pr.A1 p f j;have i:(p.kd f).now=p.now:=(Pr.Ea [f] p).1;have hw:=h.ga.al.run.2;exact⟨⟨⟨⟨⟨(Pr.D5 h.ga.al.run.1 c).mono O O,by rw[i];omega⟩,Pr.PV.kd h.ga.al.pv h.ga.al.run.1 b c Z Z Z g.1 (Gw.refl _) g.2,Pr.Ml.put (h.ga.al.ml.kl _ _) _ _⟩,fun j g=>by rw[(s j).2]at g;rw[(s j).1];exact h.ga.cl j g,fun j=>by rw[(il p f j).1];exact h.ga.all j⟩,d,fun j=>by rw[(il p f j).2];exact h.fin j,fun j=>by rw[(il p f j).1];exact h.all j⟩,e⟩
theorem Rp.rep {P:Pr.BX}{N:Bool->Int}{A:Bool->List UInt8}{p:Pr}{n:Int}(h:Rp P N A p n)(a:P.Ok){f:Fl}(c:f∈p.log)(h0:0<=n)(r:n+4<=5000):Rp P N A (((p.kd f).recv false 100).recv true 100).tick (n+4)/\∀g∈p.log,g∈(((p.kd f).recv false 100).recv true 100).tick.log:=by
 obtain⟨d,e⟩:=h.kd a c;obtain⟨i,j⟩:=d.recv false (k:=100) D;obtain⟨l,m⟩:=i.recv true (k:=100) D;obtain⟨b,o⟩:=l.tick a O O;rw[show n+1+1+1+1=n+4 by omega]at b;exact⟨b,fun g q=>o g (m g (j g (e g q)))⟩
theorem lU {c:Cn}(h:c.st=0)(now:Int)(s:Sg):(c.receive now s).1.st=0:=by
 unfold Cn.receive;rw[L9 h];exact h
theorem Ad (x:Rw){n m:Nat}(b:n<=1000)(c:m<=1000):Lp (cG x) (eK x [] n m):=by
 have a:=kF x [] n m D b c;exact⟨a.pv,⟨_,_,a.run.1⟩,fun f d=>d,Nat.le_succ 0,_,M7⟩
theorem Lp.seq {P:Pr.BX}{N:Bool->Int}(a:P.Ok){p:Pr}{n:Int}(h:Lp P p)(g:Ga P N p n)(h0:0<=n):∀k:Nat,n+7*k<=5000->Lp P (p.seq k):=by
 intro k
 induction k with
 | zero=>intro _;exact h
 | succ k b =>
  intro c;have g1:=((g.seq a h0 k O).nv false).nv true;have hw:=g1.al.run.2;exact((((b O).nv false).nv true).tick a O).1
theorem zQ (x:Rw)(n m:Nat)(i:Bool):((eK x [] n m).sd i).all=dV (if i=true then 1 else 0) (if i=true then m else n):=by cases i <;> rfl
theorem kQ (p:Pr)(i j:Bool):((p.nv i).sd j).all=(p.sd j).all:=by
 have e:=((nL (p.send i 1000) i j 1000).1).trans (rN p i j 1000).1;unfold Pr.nv;dsimp only;split
 ·rw[(kO _ i j).2];exact e
 exact e
theorem zR (p:Pr)(j:Bool):∀k,((p.seq k).sd j).all=(p.sd j).all:=by
 intro k
 induction k with
 | zero=>rfl
 | succ k a=>exact((kP _ j).2.2).trans ((kQ _ _ _).trans ((kQ _ _ _).trans a))
theorem Ae (x:Rw){n m:Nat}(b:n<=500)(c:m<=500):∃J:Nat,J<=493/\((eK x [] n m).seq J).Cm.2=true/\(∀k,k<J->((eK x [] n m).seq k).Cm.2=false) /\
  Rp (cG x) (ph n m) (fun i=>dV (if i=true then 1 else 0) (if i=true then m else n)) ((eK x [] n m).seq J).Cm.1 3500:=by
 obtain⟨k,q,e⟩:=zN x b c;have g:=uG x (n:=n) (m:=m) O O;have h:=Ad x (n:=n) (m:=m) O O;have d:=(e.done (g.seq (eI x) (Lb 0) k O).all).1;obtain⟨j,r,a,o⟩:=By (f:=fun k=>((eK x [] n m).seq k).Cm.2) d;have p:=g.seq (eI x) (Lb 0) j O;have l:=Lp.seq (eI x) h g (Lb 0) j O;have h2:=(p.nv false).nv true
 exact⟨j,O,a,o,⟨h2.al.mono O,h2.cl,h2.all⟩,(l.nv false).nv true,zE a,fun i =>
  ((kQ _ _ _).trans (kQ _ _ _)).trans ((zR _ i j).trans (zQ x n m i))⟩
end Go.Proofs.YtcmncipikdpnbaaGreatDoor
