import Derived.Test.YtcmncipikdpnbaaGreatDoorUb35
namespace Go.Proofs.YtcmncipikdpnbaaGreatDoor
theorem td {c:Cn}(now:Int)(h0:c.st=1\/c.st=2)(a:c.pend≠2)(hf:0<c.flight)(hd:c.dl.set=true):c.push now=(c,[]):=by
 have hs:ae c.st=false:=by rcases h0 with e | e <;> (rw[e];rfl)
 unfold Cn.push;rw[L5 O,hs];show((Cn.qD c []).1.lp now,(Cn.qD c []).2)=_;have e:Cn.qD c []=(c,[]):=by unfold Cn.qD;rw[L5 a]
 rw[e];have b:c.lp now=c:=by unfold Cn.lp;rw[L5 O,L7 hd]
 rw[b]
structure Wt (c0 c:Cn):Prop where
 eq:∃h s,c={ c0 with held:=h,shut:=s }
 st:c0.st=1\/c0.st=2
 pend:c0.pend=0
 fl:c0.flight=1
 dl:c0.dl= .wA 0 12
 bx:∃n,c0.bx=nZ n
 en:c0.ended=false
theorem Wt.f {c0 c:Cn}(h:Wt c0 c):(c.st=c0.st)/\c.pend=0/\c.flight=1/\c.dl= .wA 0 12/\(∃n,c.bx=nZ n)/\c.ended=false/\c.sc=c0.sc:=by
 obtain⟨x,s,rfl⟩:=h.eq;exact⟨Z,h.pend,h.fl,h.dl,h.bx,h.en,Z⟩
theorem Wt.to {c0 c:Cn}(h:Wt c0 c)(x:List UInt8)(s:Bool):Wt c0 { c with held:=x,shut:=s }:=by
 obtain⟨y,t,rfl⟩:=h.eq;exact⟨⟨x,s,Z⟩,h.st,h.pend,h.fl,h.dl,h.bx,h.en⟩
theorem Wt.push {c0 c:Cn}(h:Wt c0 c)(now:Int):c.push now=(c,[]):=by
 obtain⟨a,f2,f3,b,-⟩:=h.f;exact td now (by rw[a];exact h.st) (by rw[f2];decide) (by rw[f3];decide) (by rw[b];rfl)
theorem Wt.tick {c0 c:Cn}(h:Wt c0 c){now:Int}(e:now<12):c.tick now=(c,[]):=by
 obtain⟨g,f2,f3,a,-⟩:=h.f;have b:=h.st
 have d:c.dl.due now=false:=by
  rw[a];unfold Al.due;show(true&&(decide ((0:Int)<=now)&&decide ((12:Int)<=now-0)))=false;rw[Lf (show ¬(12:Int)<=now-0 by omega)]
  simp
 unfold Cn.tick;rw[L5 O,L5 O,L5 (by rw[d];decide)];unfold Cn.oi;dsimp only;rw[L5 O,h.push now];rfl
theorem ze (n:Nat)(k:Int):(nZ n).take k=nZ n/\(nZ n).nB k=[]:=by
 have e:min k ((nZ n).nx-(nZ n).rd)<=0:=by show min k (0-0)<=0;omega
 constructor
 ·unfold Bx.take;rw[L7 e]
 unfold Bx.nB;rw[L7 e]
structure EY (a0 b0:Cn)(W:List Fl)(p:Pr):Prop where
 a:Wt a0 (p.sd false).c
 b:Wt b0 (p.sd true).c
 wire:p.wire=W
 now:p.now=0
 calm:p.kq.length<=p.many
 got:∀i,(p.sd i).got=[]
 fin:∀i,(p.sd i).fin=false
 sh:∀i,(p.sd i).c.st=1->(p.sd i).c.shut=false
 cs:∀i,(p.sd i).closed=true->(p.sd i).c.shut=true
def Cb (a b0:Cn)(i:Bool):Cn:=match i with | false=>a | true=>b0
theorem EY.w {d b0:Cn}{W:List Fl}{p:Pr}(h:EY d b0 W p)(i:Bool):Wt (Cb d b0 i) (p.sd i).c:=by
 cases i
 ·exact h.a
 exact h.b
theorem EY.set {d b0:Cn}{W:List Fl}{p:Pr}(h:EY d b0 W p)(i:Bool){s:Sd}(e:Wt (Cb d b0 i) s.c)(l:s.got=[])(hf:s.fin=false)(hs:s.c.st=1->s.c.shut=false)(m:s.closed=true->s.c.shut=true):EY d b0 W (p.kd i s):=by
 have g:=h.got;have f:=h.fin;have k:=h.sh;have z:=h.cs
 cases i
 ·exact⟨e,h.b,h.wire,h.now,h.calm,fun j=>by cases j;exact l;exact g true,fun j=>by cases j;exact hf;exact f true,fun j=>by cases j;exact hs;exact k true,fun j=>by cases j;exact m;exact z true⟩
 exact⟨h.a,e,h.wire,h.now,h.calm,fun j=>by cases j;exact g false;exact l,fun j=>by cases j;exact f false;exact hf,fun j=>by cases j;exact k false;exact hs,fun j=>by cases j;exact z false;exact m⟩
theorem Wt.mR {c0:Cn}{p:Pr}{i:Bool}(h:Wt c0 (p.sd i).c)(l:(p.sd i).got=[])(hf:(p.sd i).fin=false)(hs:(p.sd i).c.st=1->(p.sd i).c.shut=false)(m:(p.sd i).closed=true->(p.sd i).c.shut=true) :
  ∃s:Sd,p.mR i=p.kd i s/\Wt c0 s.c/\s.got=[]/\s.fin=false/\(s.c.st=1->s.c.shut=false)/\(s.closed=true->s.c.shut=true):=by
 have j:∀(p:Pr) (s t:Sd),(p.kd i s).kd i t=p.kd i t/\(p.kd i s).sd i=s:=fun p s t=>by cases i <;> exact⟨Z,Z⟩
 have x:p.kd i (p.sd i)=p:=by cases i <;> rfl
 have o:∃s:Sd,p.send i 1000=p.kd i s/\Wt c0 s.c/\s.got=[]/\s.fin=false/\(s.c.st=1->s.c.shut=false)/\(s.closed=true->s.c.shut=true):=by
  unfold Pr.send;dsimp only;split
  ·exact⟨p.sd i,x.symm,h,l,hf,hs,m⟩
  split
  ·exact⟨p.sd i,x.symm,h,l,hf,hs,m⟩
  rename_i g
  have e:(p.sd i).c.send p.now (Pr.bytes (p.sd i) 1000)=({ (p.sd i).c with held:=(p.sd i).c.held++(Pr.bytes (p.sd i) 1000).take ((p.sd i).c.nX (Pr.bytes (p.sd i) 1000)).toNat },[]):=by
   unfold Cn.send;rw[L5 g];exact(h.to _ (p.sd i).c.shut).push p.now
  rw[e];exact⟨_,Z,h.to _ (p.sd i).c.shut,l,hf,hs,m⟩
 obtain⟨b,A,r,g1,B,h1,C⟩:=o
 have E:∃s:Sd,(p.kd i b).recv i 1000=p.kd i s/\Wt c0 s.c/\s.got=[]/\s.fin=false/\(s.c.st=1->s.c.shut=false)/\(s.closed=true->s.c.shut=true):=by
  obtain⟨F,P,S,T,⟨n,u⟩,G,-⟩:=r.f;obtain⟨I,y⟩:=ze n 1000;have J:=r.st
  have e:b.c.recv (p.kd i b).now 1000=(b.c,[]):=by
   unfold Cn.recv;rw[L5 D];dsimp only;rw[u,I,L7 y,<-u]
  have K:b.c.qF 1000=false:=by
   unfold Cn.qF Cn.reached;dsimp only;rw[G];rfl
  have L:b.c.nF 1000=0:=by
   unfold Cn.nF;rw[L5 D,L5 (by rw[F];omega)]
  unfold Pr.recv;dsimp only;rw[(j p b b).2,L5 (by rw[L];decide),e,K,u,y];refine⟨_,(j p b _).1,r,?_,?_,h1,C⟩
  ·show b.got++[]=[];rw[g1];rfl
  show(b.fin||false)=false;rw[B];rfl
 obtain⟨a,M,d,k,f2,h2,w⟩:=E;unfold Pr.mR;dsimp only;rw[A,M,(j p a a).2];split
 ·rename_i g;unfold Pr.shut;dsimp only;rw[(j p a a).2];split
  ·exact⟨a,Z,d,k,f2,h2,w⟩
  split
  ·exact⟨a,Z,d,k,f2,h2,w⟩
  rename_i z
  have N:a.c.st=2:=by
   have:=d.f.1;have:=d.st;omega
  have e:a.c.close (p.kd i a).now=({ a.c with shut:=true },[]):=by
   unfold Cn.close;unfold Cn.te at z;rw[L5 (fun q=>z (by rw[L7 q];decide))];dsimp only;rw[L5 g.2,L7 N];exact(d.to a.c.held true).push _
  rw[e];exact⟨_,(j p a _).1,d.to a.c.held true,k,f2,fun q=>absurd q g.2,fun _=>rfl⟩
 exact⟨a,Z,d,k,f2,h2,w⟩
theorem EY.mR {a b0:Cn}{W:List Fl}{p:Pr}(h:EY a b0 W p)(i:Bool):EY a b0 W (p.mR i):=by
 obtain⟨s,e,w,g,f,hs,b⟩:=(h.w i).mR (h.got i) (h.fin i) (h.sh i) (h.cs i);rw[e];exact h.set i w g f hs b
def gA (T:Int)(c:Cn):Cn:={ c with st:=if c.shut=true then 4 else 3,sc:=⟨1,1,0,[],[]⟩,dl:=eG,tm:=c.tm.go T 1,tries:=0 }
theorem ri (m:Int):(⟨1,1,0,[],[]⟩:Sc).lost m=[]:=by unfold Sc.lost;split <;> rfl
theorem lH:(⟨0,1,0,[],[]⟩:Sc).go 1 []=⟨1,1,0,[],[]⟩/\(⟨1,1,0,[],[]⟩:Sc).go 1 []=⟨1,1,0,[],[]⟩:=⟨Z,Z⟩
theorem zf (k:Bool)(a:Int)(bl:List Sp):dV k 1 a bl=[]:=by
 unfold dV;rw[List.filter_eq_nil_iff];intro x _ h;rw[Ly,Lh]at h;omega
theorem oZ {c:Cn}(T:Int)(s:Sg)(h:c.sc=⟨0,1,0,[],[]⟩\/c.sc=⟨1,1,0,[],[]⟩)(f:c.base=1) :
  c.go T s 1=Cn.announce { c with sc:=⟨1,1,0,[],[]⟩,tries:=0,dl:=if c.fM=0 then eG else c.dl,tm:=if c.fM=0 then c.tm.go T 1 else c.tm } 1 s.win:=by
 have j:c.fM=0\/c.fM=1:=by unfold Cn.fM;rcases h with e | e <;> (rw[e];simp)
 have k:c.next=1:=by unfold Cn.next;rcases h with e | e <;> rw[e]
 have o:c.last=1+c.held.length:=by unfold Cn.last;rw[f]
 have l:Cn.report { c with tries:=0 } 1 s.bl={ c with tries:=0,sc:=⟨1,1,0,[],[]⟩ }:=by
  have i:dV c.iu c.next c.cf.kc s.bl=[]:=by rw[k];exact zf _ _ _
  have a:c.sc.go 1 (dV c.iu c.next c.cf.kc s.bl)=⟨1,1,0,[],[]⟩:=by
   rw[i]
   rcases h with e | e
   ·rw[e];exact lH.1
   rw[e];exact lH.2
  show({ c with tries:=0,sc:=c.sc.go 1 (dV c.iu c.next c.cf.kc s.bl) }:Cn)=_;rw[a]
 have m:∀d:Cn,d.held=c.held->d.base=c.base->d.drop 1=d:=fun d i a=>by
  have e:dL d.held d.base 1=0:=by unfold dL;rw[a,f];omega
  unfold Cn.drop;rw[e];show({ d with held:=d.held.drop 0,base:=d.base+0 }:Cn)=d;rw[MH,Int.add_zero]
 have hz:∀b d:Cn,b.sc=⟨1,1,0,[],[]⟩->(if 0<c.Ct 1 s.bl/\b.mark<=1/\b.sc.lost b.gi≠[]then d else b)=b:=fun b d e=>by
  rw[L5];rintro⟨-,-,g⟩;rw[e,ri]at g;exact g Z
 unfold Cn.go;rw[L5 O];dsimp only;rw[l,L5 (show ¬(c.fM<=c.last/\c.last<1) by omega)]
 rcases j with e | e
 ·have h1:c.fM<1:=by omega
  have h2:¬0<1-max c.fM 1:=O
  simp only[L7 h1,L5 h2,L7 e];have n:=m { c with sc:=⟨1,1,0,[],[]⟩,tries:=0,dl:=eG,tm:=c.tm.go T 1 } Z Z;rw[n];exact hz _ _ Z
 have h1:¬c.fM<1:=O
 have h2:¬c.fM=0:=O
 simp only[L5 h1,L5 h2];exact hz _ _ Z
theorem wv {c:Cn}(T:Int)(s:Sg)(a:c.sc=⟨0,1,0,[],[]⟩)(b:c.base=1):({ c with st:=if c.shut=true then 4 else 3 }:Cn).go T s 1=(gA T c).go T s 1:=by
 have d:c.fM=0:=by unfold Cn.fM;rw[a]
 rw[oZ (c:={ c with st:=if c.shut=true then 4 else 3 }) T s (.inl a) b,oZ (c:=gA T c) T s (.inr Z) b];have e:({ c with st:=if c.shut=true then 4 else 3 }:Cn).fM=0:=d;rw[e];rfl
theorem rj {c:Cn}{T:Int}{s:Sg}(h2:c.st=2)(b:c.sc=⟨0,1,0,[],[]⟩)(m:c.base=1)(f:s.qa=false/\s.syn=false/\s.has=true)(l:s.fp=c.cf.tp/\s.tp=c.cf.fp)(j:aE s.ak c.cf.kc=1)(a:c.accepts (c.offset s.sq) (aj s)=true):c.receive T s=(gA T c).receive T s:=by
 have p:c.next=1:=by unfold Cn.next;rw[b]
 have n:(gA T c).st=3\/(gA T c).st=4:=by
  show(if c.shut=true then(4:Int)else 3)=3\/(if c.shut=true then(4:Int)else 3)=4;split <;> simp
 unfold Cn.receive;rw[L5 O,L5 (show ¬(gA T c).st=0 by omega)];have i:¬(s.fp≠c.cf.tp\/s.tp≠c.cf.fp):=fun g=>by rcases g with g | g;exact g l.1;exact g l.2
 rw[L5 i,L5 (show ¬(s.fp≠(gA T c).cf.tp\/s.tp≠(gA T c).cf.fp)from i),L5 O,L5 O]
 have k:∀d:Cn,d.accepts (d.offset s.sq) (aj s)=true->d.ys T s=d.process T s (d.offset s.sq):=fun d h=>by
  unfold Cn.ys;dsimp only;rw[L5 (fun g=>by rw[f.1]at g;cases g.1),L5 (fun g=>by rw[f.1]at g;cases g.1),L5 (by rw[h];decide),L5 (fun g=>by rw[f.1,f.2.1]at g;rcases g with g | g <;> cases g),L5 (by rw[f.2.2];decide)]
 rw[k c a,k (gA T c) a];unfold Cn.process;dsimp only;rw[L7 h2,L5 (show ¬(gA T c).st=2 by omega)];rw[show(gA T c).cf.kc=c.cf.kc from Z,j,L5 O,L5 (show ¬(gA T c).next<1 by show ¬(1:Int)<1;omega)]
 have e:(if(c.step T 4).shut=true then(c.step T 4).step T 5 else c.step T 4)={ c with st:=if c.shut=true then 4 else 3 }:=by
  have o:c.step T 4={ c with st:=3 }:=by
   unfold Cn.step;rw[h2];rfl
  rw[o];show(if c.shut=true then Cn.step { c with st:=3 } T 5 else { c with st:=3 })=_;split
  ·unfold Cn.step;rfl
  rfl
 rw[e,wv T s b m];rfl
def Vp (T:Int)(p:Pr):Pr:=p.ro true (gA T (p.sd true).c)
theorem zg:(⟨1,1,0,[],[]⟩:Sc).Ok:=⟨D,D,D,D,D,Z,Z,fun _ h=>(a8 h).elim,fun _ h=>(a8 h).elim⟩
theorem tf {c:Cn}(ok:c.Ok)(T:Int):(gA T c).Ok:=by
 have a:=ok.tr;exact { ok with sc:=zg,tm:=Tm.v8 ok.tm T 1,dl:=eD,st:=by(show 0<=(if c.shut=true then(4:Int)else 3)/\(if c.shut=true then(4:Int)else 3)<=9;split <;> omega),tr:=by(show(0:Int)<=0/\(0:Int)<=13;omega),tr2:=fun _=>by(show(0:Int)<=12;omega) }
theorem zh {k:Kx}{c:Cn}(h:SI k c)(b:c.base=1)(hl:1<=c.limit)(T:Int):SI k (gA T c):=by
 have a:=h.last;have e:(gA T c).last=c.last:=Z;exact⟨h.b1,h.held,h.last,by(show(1:Int)<=c.last+(if c.shut=true then 1 else 0);split <;> omega),h.sh,by(show c.base<=max 1 1;omega),by(show(1:Int)<=1;omega),h.kc,h.sm,h.lim,fun _=>hl,by(show min 1 c.last<=c.limit+1;omega),h.gi,h.room⟩
structure Wb (c:Cn):Prop where
 st:c.st=2
 sc:c.sc=⟨0,1,0,[],[]⟩
 base:c.base=1
 lim:1<=c.limit
theorem zi (P:Pr.zc)(T:Int)(p:Pr)(i:Bool):Pr.kx P (Vp T p) i=Pr.kx P p i:=by cases i <;> rfl
theorem ce (T:Int)(p:Pr):(Vp T p).sd false=p.sd false/\((Vp T p).sd true).c=gA T (p.sd true).c/\(∀i,((Vp T p).sd i).str=(p.sd i).str/\((Vp T p).sd i).closed=(p.sd i).closed/\((Vp T p).sd i).got=(p.sd i).got/\((Vp T p).sd i).all=(p.sd i).all/\((Vp T p).sd i).fin=(p.sd i).fin):=⟨Z,Z,fun i=>by cases i <;> exact⟨Z,Z,Z,Z,Z⟩⟩
theorem PV.vp {P:Pr.zc}{p:Pr}(h:Pr.PV P p)(w:Wb (p.sd true).c)(T:Int):Pr.PV P (Vp T p):=by
 refine⟨fun i=> ?_,fun i=> ?_,fun f d=> ?_,h.g⟩
 ·rw[zi]
  cases i
  ·exact h.s false
  exact⟨zh (h.s true).1 w.base w.lim T,fun _=>L9 1⟩
 ·cases i
  ·exact h.r false
  obtain⟨b,a,e⟩:=h.r true;refine⟨⟨b.pi,b.en⟩,?_,e⟩;have j:=w.st
  rcases a with a | a | a
  ·omega
  ·omega
  exact .inr (.inr a)
 have:=h.w f d;rw[zi,zi];exact this
theorem Fit.vp {p:Pr}{a b:Int}(h:Pr.Fit p a b)(T:Int):Pr.Fit (Vp T p) (Vp T p).Q (Vp T p).R:=by
 have k:=h.b;exact⟨h.a,⟨tf k.c T,k.len,k.s0,k.sl,k.last,by(have h1:p.b.c.last=1+p.b.sent:=k.last;have h2:=k.s0;show(1:Int)<=p.b.c.last+1;omega)⟩,h.now,h.wire,h.due,h.log,L9 _,L9 _⟩
def met (c:Cn)(now:Int)(s:Sg):Cn:={ c.meet s with sc:=⟨1,1,0,[],[]⟩,tm:=c.tm.go now 1,tries:=0,st:=3,dl:=eG,pend:=2 }
theorem wy {c:Cn}{now:Int}{s:Sg}(h1:c.st=1)(a:c.sc=⟨0,1,0,[],[]⟩)(b:s.has=true/\s.qa=false/\s.syn=true)(i:s.fp=c.cf.tp/\s.tp=c.cf.fp)(f:aE s.ak c.cf.kc=1):c.receive now s=(met c now s).push now:=by
 have h:¬(s.fp≠c.cf.tp\/s.tp≠c.cf.fp):=fun g=>by rcases g with g | g;exact g i.1;exact g i.2
 unfold Cn.receive;rw[L5 O,L5 h,L7 h1];unfold Cn.xs;rw[L5 (fun g=>g.2 f),L5 (fun g=>by rw[b.2.1]at g;cases g.1),L5 (by rw[b.2.2];decide)];dsimp only;rw[L5 (by rw[b.1];decide)]
 have e:∀d:Cn,d.st=1->d.step now 3={ d with st:=3 }:=fun d j=>by
  unfold Cn.step;rw[j];rfl
 have k:({ ({ c.meet s with tries:=0,sc:=(c.meet s).sc.go 1 [],tm:=(c.meet s).tm.go now 1 }:Cn).step now 3 with dl:=eG }:Cn).gB=met c now s:=by
  rw[e { c.meet s with tries:=0,sc:=(c.meet s).sc.go 1 [],tm:=(c.meet s).tm.go now 1 } h1,show(c.meet s).sc=c.sc from Z,a,lH.1];rfl
 exact congrArg (fun d:Cn=>d.push now) k
theorem CD {c:Cn}(ok:c.Ok){now:Int}{s:Sg}(hs:s.Ok)(hy:s.syn=true):(met c now s).Ok :=
 { ok.meet hs hy with sc:=zg,tm:=Tm.v8 ok.tm now 1,dl:=eD,st:=by(show(0:Int)<=3/\(3:Int)<=9;omega),pend:=by(show(0:Int)<=2/\(2:Int)<=2;omega),tr:=by(show(0:Int)<=0/\(0:Int)<=13;omega),tr2:=fun _=>by(show(0:Int)<=12;omega) }
theorem CE {k:Kx}{c:Cn}(h:SI k c)(b:c.base=1)(now:Int){s:Sg}(hl:1<=max c.limit (1+s.win))(he:max c.limit (1+s.win)<=1+k.e):SI k (met c now s):=by
 have a:=h.last;have d:=h.gi;have e:(met c now s).last=c.last:=Z;exact⟨h.b1,h.held,h.last,by(show(1:Int)<=c.last+(if c.shut=true then 1 else 0);split <;> omega),h.sh,by(show c.base<=max 1 1;omega),by(show(1:Int)<=1;omega),h.kc,h.sm,he,fun _=>hl,by(show min 1 c.last<=max c.limit (1+s.win)+1;omega),by(show min c.gi (if s.gi=0 then 28 else s.gi)<=k.m;omega),h.room⟩
structure IE (c:Cn):Prop where
 st:c.st=1
 sc:c.sc=⟨0,1,0,[],[]⟩
 base:c.base=1
 sh:c.shut=false
theorem Op.start {x:Cn}(ok:x.Ok){now:Int}(a:aI now)(so:F6 x)(hs:Hs x)(h0:x.st≠0):Op True x (x.push now).1 (x.push now).2 now :=
 Op.of ⟨L9 _,Z,L9 _,L9 _,Z,fun _ h=>h,L9 _,Z,Z,.inr (.inl ⟨Z,Z,Z⟩),.same now Z Z Z Z Z Z Z Z Z⟩ a ok (fun _=>so) hs h0 (.inl Z) Z Z (fun _=>NJ) Z Z
theorem DI.start {s r:Cn}{q N:Int}(d:1<=q)(h1:r.tq=s.cf.kc)(hs:s.sc=⟨1,1,0,[],[]⟩)(hx:r.bx.nx=0)(he:r.ended=false)(a:∀i,¬r.bx.has i)(hl:s.limit=r.ann+1):DI s r [] [] q N:=by
 have e:s.fM=1/\s.next=1:=by unfold Cn.fM Cn.next;rw[hs];exact⟨Z,Z⟩
 have b:r.reached=false:=by unfold Cn.reached;rw[he];rfl
 have c:r.expected=0:=by unfold Cn.expected;rw[L5 (by rw[b];decide),hx]
 exact⟨h1,fun g h=>by(cases h),fun g h=>by(cases h),.nil,O,O,fun _=>by omega,fun o h2 f=>by omega,.inl O,fun _=>.inl hl,fun o h=>absurd h (a o),fun h=>by rw[he]at h;cases h⟩
theorem pz (T:Int)(i:Bool):∀(l:List Sg) (p:Pr),Vp T (p.put i l)=(Vp T p).put i l:=by
 intro l
 induction l with
 | nil=>intro p;rfl
 | cons s l a=>intro p;exact a (p.tt i s)
theorem zj (T:Int)(p:Pr):(Vp T p).ki false=Vp T (p.ki false):=(pz T false ((p.sd false).c.tick p.now).2 (p.ro false ((p.sd false).c.tick p.now).1)).symm
theorem BK (T:Int)(p:Pr):(Vp T p).mR false=Vp T (p.mR false):=by
 have a:∀p:Pr,(Vp T p).send false 1000=Vp T (p.send false 1000):=fun p=>by
  unfold Pr.send;dsimp only;rw[(ce T p).1];split
  ·rfl
  split
  ·rfl
  exact(pz T false ((p.sd false).c.send p.now (Pr.bytes (p.sd false) 1000)).2 (p.kd false { (p.sd false)with c:=((p.sd false).c.send p.now (Pr.bytes (p.sd false) 1000)).1,sent:=(p.sd false).sent+(p.sd false).c.nX (Pr.bytes (p.sd false) 1000) })).symm
 have b:∀p:Pr,(Vp T p).recv false 1000=Vp T (p.recv false 1000):=fun p=>by
  unfold Pr.recv;dsimp only;rw[(ce T p).1];split
  ·rfl
  exact(pz T false ((p.sd false).c.recv p.now 1000).2 (p.kd false { (p.sd false)with c:=((p.sd false).c.recv p.now 1000).1,got:=(p.sd false).got++(p.sd false).c.bx.nB 1000,fin:=(p.sd false).fin||(p.sd false).c.qF 1000 })).symm
 have d:∀p:Pr,(Vp T p).shut false=Vp T (p.shut false):=fun p=>by
  unfold Pr.shut;dsimp only;rw[(ce T p).1];split
  ·rfl
  split
  ·rfl
  exact(pz T false ((p.sd false).c.close p.now).2 (p.kd false { (p.sd false)with c:=((p.sd false).c.close p.now).1,closed:=true })).symm
 unfold Pr.mR;dsimp only;rw[a,b,d,(ce T _).1];split <;> rfl
def CF (x:Rw):Cn:=(gE 0 (ej x)).1
def uc (x:Rw):Cn:=(cZ 0 (eH x) (gG x)).1
def o7 (x:Rw):Sg:=(fP 0 (eH x) (gG x)).qI
theorem DE (x:Rw):((o7 x).has=true/\(o7 x).qa=false/\(o7 x).syn=true)/\((o7 x).fp=80/\(o7 x).tp=5000)/\(o7 x).ak=aw (aw (ck x.Dc) 0) (0+1)/\(o7 x).sq=aw (ck x.DZ) 0/\(o7 x).win=40+aO x.rp 400:=⟨⟨Z,Z,Z⟩,⟨Z,Z⟩,Z,Z,Z⟩
theorem DF (x:Rw):Wt (CF x) (CF x):=⟨⟨[],false,Z⟩,.inl Z,Z,Z,Z,⟨_,Z⟩,Z⟩
theorem DG (x:Rw):Wt (uc x) (uc x):=⟨⟨[],false,Z⟩,.inr Z,Z,Z,Z,⟨_,Z⟩,Z⟩
theorem EY.meet (x:Rw)(n m:Nat):EY (CF x) (uc x) [⟨false,1,false,o7 x⟩] (eN x [] n m) :=
 ⟨DF x,DG x,Z,Z,Nat.le_succ 0,fun i=>by cases i <;> rfl,fun i=>by cases i <;> rfl,fun i _=>by cases i <;> rfl,fun i h=>by cases i <;> cases h⟩
theorem ud (n:Nat)(i:Int):¬(nZ n).has i:=by
 rintro (h | h)
 ·have h1:0<=i/\i<0:=h;omega
 exact(a8 h).elim
theorem lI {i:Int}(h:0<=i/\i<=4294967295):aw i 0=i:=by unfold aw;omega
theorem Fit.off {p:Pr}{a b:Int}(d:Pr.Fit p a b)(g:p.now<1000000):Pr.Fit { p with now:=p.now+1,wire:=[] } a b:=by
 have h:=d.now;refine⟨d.a,d.b,Kp,fun f e=>IU,fun f e=>IU,d.log,?_,d.r⟩;have h1:p.Q<=a:=d.q;refine Lz ?_ h1;unfold Pr.Q;show(([]:List Fl).length:Int)+p.rem+p.a.c.xJ+p.b.c.xJ<=(p.wire.length:Int)+p.rem+p.a.c.xJ+p.b.c.xJ;have:(([]:List Fl).length:Int)=0:=Z;omega
theorem EY.f {x:Rw}{W:List Fl}{p:Pr}(h:EY (CF x) (uc x) W p):(∃y,(p.sd false).c={ CF x with held:=y })/\(∃y s,(p.sd true).c={ uc x with held:=y,shut:=s }):=by
 obtain⟨y,s,e⟩:=h.a.eq;refine⟨⟨y,?_⟩,h.b.eq⟩;have h1:=h.sh false (by rw[e];rfl);rw[e]at h1|-;have h1:s=false:=h1;rw[h1];rfl
theorem Ga.f2 {P:Pr.zc}{N:Bool->Int}{p:Pr}{n:Int}(g:Ga P N p n):Fb p N:=by
 refine⟨g.cl,fun j=> ?_,fun j=> ?_⟩
 ·have h1:=g.all j;unfold Sd.str;rw[Le];omega
 have h1:=g.all j;have h2:=(g.al.run.1.sd j).len;omega
theorem Ga.mono {P:Pr.zc}{N:Bool->Int}{p:Pr}{n m:Int}(g:Ga P N p n)(h:n<=m):Ga P N p m:=⟨g.al.mono h,g.cl,g.all⟩
theorem EY.start {x:Rw}{N:Bool->Int}{p:Pr}{n:Int}{W:List Fl}(h:EY (CF x) (uc x) W p)(g:Ga (cG x) N p n)(I:p.now<1000000) :
  ∃a b,Cl (cG x) (Vp 2 (({ p with now:=p.now+1,wire:=[] }:Pr).ro false (met (p.sd false).c (p.now+1) (o7 x)))) [] (fun _=>1) N a b:=by
 obtain⟨⟨y,l⟩,⟨z,s,m⟩⟩:=h.f;have pv:=g.al.pv;have o:=Fit.off g.al.run.1 I;have T:=ah x.sw 400 (by decide);have U:=ah x.rp 400 (by decide);have J:0<=ck x.Dc/\ck x.Dc<=4294967295:=by unfold ck;omega
 have E:0<=ck x.DZ/\ck x.DZ<=4294967295:=by unfold ck;omega
 have hs:=(kN x).Dx;have f2:=g.f2;obtain⟨q,d⟩:∃q:Pr,q=({ p with now:=p.now+1,wire:=[] }:Pr).ro false (met (p.sd false).c (p.now+1) (o7 x)):=⟨_,Z⟩;have K:(q.sd false).c=met (p.sd false).c (p.now+1) (o7 x):=by rw[d];rfl
 have F:q.sd true=p.sd true:=by rw[d];rfl
 have hw:Wb (q.sd true).c:=by rw[F,m];exact⟨Z,Z,Z,by show(1:Int)<=max 0 (1+(40+aO x.sw 400));omega⟩
 have L:Pr.PV (cG x) q:=by
  rw[d];refine⟨fun i=> ?_,fun i=> ?_,fun f t=>(by cases t),pv.g⟩
  ·cases i
   ·have k:=(pv.s false).1;have he:=Pr.FW (cG x) false p.log;have he:40+aO x.rp 400<=Pr.zz (cG x) false p.log:=he;refine⟨CE k (by rw[l];rfl) _ ?_ ?_,fun _=>L9 1⟩
    ·rw[l];show(1:Int)<=max 0 (1+(40+aO x.rp 400));omega
    rw[l];show max (0:Int) (1+(40+aO x.rp 400))<=1+Pr.zz (cG x) false p.log;omega
   exact pv.s true
  cases i
  ·obtain⟨G,V,M⟩:=pv.r false;exact⟨⟨G.pi,G.en⟩,.inr (.inr (show aw (ck x.DZ) 0=ck x.DZ from lI E)),M⟩
  exact pv.r true
 have P:Pr.Fit q q.Q q.R:=by
  rw[d];have k:=o.a;exact⟨⟨CD k.c hs Z,k.len,k.s0,k.sl,k.last,by(have h1:p.a.c.last=1+p.a.sent:=k.last;have h2:0<=p.a.sent:=k.s0;show(1:Int)<=p.a.c.last+1;omega)⟩,o.b,o.now,o.wire,o.due,o.log,L9 _,L9 _⟩
 have w:=PV.vp L hw 2;have S:=Fit.vp P 2;have v1:((Vp 2 q).sd false).c=met (p.sd false).c (p.now+1) (o7 x):=K;have u:((Vp 2 q).sd true).c=gA 2 (p.sd true).c:=by rw[(ce 2 q).2.1,F]
 have A:Hs (met (p.sd false).c (p.now+1) (o7 x)):=by
  rw[l];exact⟨fun e=>(by cases e),fun e=>(by cases e),fun e=>absurd e (by show ¬(6:Int)<=3;decide),fun e=>(by cases e)⟩
 have B:Hs (gA 2 (p.sd true).c):=by
  rw[m];refine⟨fun e=>(by cases e),fun e=>(by cases e),fun e=> ?_,fun e=>(by cases e)⟩;have e:6<=(if s=true then(4:Int)else 3):=e;split at e <;> omega
 rw[<-d];refine⟨_,_,⟨w,S,fun i=> ?_,⟨?_,?_,f2.sm⟩,?_,fun i=> ?_,fun i=> ?_,fun f t=> ?_,fun i=> ?_,fun f t=>(by cases t)⟩⟩
 ·have C:(Vp 2 q).wire=[]:=by rw[d];rfl
  rw[C]
  cases i
  ·show DI ((Vp 2 q).sd false).c ((Vp 2 q).sd true).c [] [] 1 (N false);rw[v1,u,l,m];exact DI.start (L9 1) (lI J) Z Z Z (ud _) (by show max (0:Int) (1+(40+aO x.rp 400))=40+aO x.rp 400+1;omega)
  show DI ((Vp 2 q).sd true).c ((Vp 2 q).sd false).c [] [] 1 (N true);rw[v1,u,l,m];exact DI.start (L9 1) (lI E) Z Z Z (ud _) (by show max (0:Int) (1+(40+aO x.sw 400))=40+aO x.sw 400+1;omega)
 ·intro j e;rw[((ce 2 q).2.2 j).1];rw[((ce 2 q).2.2 j).2.1]at e;have k:=f2.cl j;rw[d]at e|-
  cases j <;> exact k e
 ·intro j;rw[((ce 2 q).2.2 j).1];have k:=f2.le j;rw[d]
  cases j <;> exact k
 ·rw[d];exact h.calm
 ·cases i
  ·rw[v1];show(3:Int)<=3;omega
  rw[u];show(3:Int)<=(if(p.sd true).c.shut=true then 4 else 3);split <;> omega
 ·cases i
  ·rw[v1];exact A
  rw[u];exact B
 ·have C:(Vp 2 q).wire=[]:=by rw[d];rfl
  rw[C]at t
  cases t
 cases i
 ·rw[show((Vp 2 q).sd false).c.cf.fp=((p.sd false).c).cf.fp from by rw[v1];rfl,show((Vp 2 q).sd (!false)).c.cf.tp=((p.sd true).c).cf.tp from by(show((Vp 2 q).sd true).c.cf.tp=_;rw[u];rfl),l,m];rfl
 rw[show((Vp 2 q).sd true).c.cf.fp=((p.sd true).c).cf.fp from by rw[u];rfl,show((Vp 2 q).sd (!true)).c.cf.tp=((p.sd false).c).cf.tp from by(show((Vp 2 q).sd false).c.cf.tp=_;rw[v1];rfl),l,m];rfl
theorem xA (now:Int)(n:Nat):∀(c:Cn) (l:List Sg),∃t,(kr now n c l).2=l++t:=by
 induction n with
 | zero=>intro c l;exact⟨[],(LM l).symm⟩
 | succ n a =>
  intro c l;unfold kr;split
  ·obtain⟨t,e⟩:=a (c.out now c.allowed) (l++[c.kl c.allowed]);exact⟨_,e.trans (LK _ _ _)⟩
  exact⟨[],(LM l).symm⟩
theorem xB {c:Cn}{now:Int}(hs:ae c.st=true)(hl:c.sc.lost c.gi=[])(j:c.pend=2)(b:c.shut=false):∃g t,(c.push now).2=g::t/\g.sq=aw c.cf.kc c.next:=by
 have h0:c.st≠0:=Km
 have d:∀n,n7 n c []=(c,[]):=fun n=>by
  cases n with
  | zero=>rfl
  | succ n=>unfold n7;rw[hl];split <;> rfl
 unfold Cn.push;rw[L5 h0];dsimp only;rw[L7 hs];unfold Cn.o6;dsimp only;rw[d];dsimp only;unfold kr;split
 ·obtain⟨t,e⟩:=xA now c.iq.toNat (c.out now c.allowed) ([]++[c.kl c.allowed])
  have k:∀a:Cn×List Sg,a.2=[]++[c.kl c.allowed]++t->∃f,((ug now a.1 a.2).1.qD (ug now a.1 a.2).2).2=c.kl c.allowed::f:=fun a l=>by
   have m:∃i,(ug now a.1 a.2).2=c.kl c.allowed::i:=by
    unfold ug;rw[l];split
    ·exact⟨_,Z⟩
    exact⟨_,Z⟩
   obtain⟨i,d⟩:=m;unfold Cn.qD;rw[d];split
   ·exact⟨_,Z⟩
   exact⟨_,Z⟩
  obtain⟨f,o⟩:=k _ e;exact⟨_,f,o,(jj c _ _).1⟩
 unfold ug;rw[L5 (fun g=>by rw[b]at g;cases g.1)];unfold Cn.qD;rw[L7 j];exact⟨_,[],Z,(gu c dH c.next).1⟩
theorem zk {p:Pr}{i:Bool}(h:(p.sd i).c.tick p.now=((p.sd i).c,[])):p.ki i=p:=by
 unfold Pr.ki;rw[h]
 cases i <;> rfl
structure Hm (x:Rw)(N:Bool->Int)(p:Pr):Prop where
 tn:Tn (cG x) (Vp 2 p) (fun _=>1) N
 b:Wt (uc x) (p.sd true).c
 now:p.now=1
 got:(p.sd true).got=[]
 fin:(p.sd true).fin=false
 cs:(p.sd true).closed=true->(p.sd true).c.shut=true
 hd:∃f W,p.wire=f::W/\f.dst=true/\f.s.sq=aw (ck x.Dc) 1
theorem EY.tick {x:Rw}{N:Bool->Int}{p:Pr}{n:Int}(h:EY (CF x) (uc x) [⟨false,1,false,o7 x⟩] p)(g:Ga (cG x) N p n):Hm x N p.tick:=by
 obtain⟨⟨y,L⟩,⟨z,s,eb⟩⟩:=h.f;have pv:=g.al.pv;have ft:=Fit.off g.al.run.1 (by rw[h.now];decide);have pA:=ah x.sw 400 D;have pB:=ah x.rp 400 D;have oA:0<=ck x.Dc/\ck x.Dc<=4294967295:=by unfold ck;omega
 have bd:=h.now;obtain⟨A,B,cV⟩:=h.start g (by rw[h.now];decide);obtain⟨q,C⟩:∃q:Pr,q={ p with now:=p.now+1,wire:=[] }:=⟨_,Z⟩;rw[<-C]at cV ft;have qs:q.sd=p.sd:=by rw[C];rfl
 have M:q.now=1:=by rw[C];show p.now+1=1;omega
 obtain⟨f,t⟩:∃f:Fl,f=⟨false,1,false,o7 x⟩:=⟨_,Z⟩;have S:f∈p.wire:=by rw[h.wire,t];simp
 have a5:f.dst=false:=by rw[t]
 have bI:f.s=o7 x:=by rw[t]
 -- deliver
 have ed:({ p with now:=p.now+1 }:Pr).deliver=q.ke f:=by
  obtain⟨d1,d2⟩:=eV (p:={ p with now:=p.now+1 }) (fun k hk=>by
   have hk:k∈p.wire:=hk;rw[h.wire]at hk;rw[Lu.1 hk];exact⟨Z,by show(1:Int)<=p.now+1;omega⟩)
  unfold Pr.deliver;rw[d1,d2];show p.wire.foldl Pr.ke { p with now:=p.now+1,wire:=[] }=_;rw[h.wire,<-t,C];rfl
 obtain⟨a0,be,bk,cX,cY⟩:=DE x
 have b5:(p.sd false).c.receive q.now (o7 x)=(met (p.sd false).c q.now (o7 x)).push q.now:=by
  refine wy (by rw[L];rfl) (by rw[L];rfl) a0 ?_ ?_
  ·rw[L];exact be
  rw[L,bk];show aE (aw (aw (ck x.Dc) 0) (0+1)) (ck x.Dc)=1;unfold aE aw;omega
 obtain⟨T,G⟩:=mA q f;rw[a5,bI,qs,b5]at T;rw[a5,qs]at G;have G:(q.ke f).sd true=p.sd true:=G;obtain⟨⟨-,-,E⟩,w2,w3⟩:=kR (p:=q) f.dst ((q.sd f.dst).c.receive q.now f.s).1 ((q.sd f.dst).c.receive q.now f.s).2 (by rw[C];exact h.calm);have E:(q.ke f).wire=q.wire++((q.sd f.dst).c.receive q.now f.s).2.map (q.fl f.dst):=E;have w2:(q.ke f).now=q.now:=w2;have w3:(q.ke f).kq.length<=(q.ke f).many:=w3;rw[a5,bI,qs,b5]at E;have qw:q.wire=[]:=by rw[C]
 rw[qw,LD]at E;obtain⟨m,hm⟩:∃m,m=met (p.sd false).c q.now (o7 x):=⟨_,Z⟩;have bn:p.now+1=q.now:=by rw[M];omega
 rw[bn,<-hm]at cV;rw[<-hm]at T E;have vm:((Vp 2 (q.ro false m)).sd false).c=m:=Z;have P:=(cV.ns false).1;rw[vm]at P;have a3:m.st=3:=by rw[hm];rfl
 have op:=Op.start P.hv.ok P.now (P.hv.so P.fM) P.hv.hs O;have vn:(Vp 2 (q.ro false m)).now=q.now:=Z;rw[vn]at op;have pq:Pr.PV (cG x) q:=by rw[C];exact⟨pv.s,pv.r,fun f t=>(by cases t),pv.g⟩
 obtain⟨I,ag⟩:=pv.w f S;have I:GS (Pr.kx (cG x) q (!f.dst)) f.s:=by rw[C];exact I
 have ag:fj (Pr.kx (cG x) q f.dst) f.s:=by rw[C];exact ag
 have b6:=g.al.run.1.wire f S;have bo:=Pr.PV.ke pq ft (eK x) b6 Z Z Z I (Gw.refl _) ag;have bu:=Pr.Ce ft b6;have a1:Wb ((q.ke f).sd true).c:=by rw[G,eb];exact⟨Z,Z,Z,Kr⟩
 have f2:=g.f2
 have bv:Fb (Vp 2 (q.ke f)) N:=by
  refine⟨fun j e=> ?_,fun j=> ?_,f2.sm⟩
  ·rw[((ce 2 _).2.2 j).1];rw[((ce 2 _).2.2 j).2.1]at e;rw[(Pr.tC q f j).2,qs]at e;rw[(Pr.tC q f j).1,qs];exact f2.cl j e
  rw[((ce 2 _).2.2 j).1,(Pr.tC q f j).1,qs];exact f2.le j
 have c1:=cV.op (p':=Vp 2 (q.ke f)) false (d:=(m.push q.now).1) (l:=(m.push q.now).2) op T (by
   show { (q.ke f).sd true with c:=gA 2 ((q.ke f).sd true).c }=_;rw[G,<-qs];rfl) (by show(q.ke f).wire=q.wire++(m.push q.now).2.map (q.fl false);rw[E,qw];rfl) w3 (PV.vp bo a1 2) (Fit.vp bu 2) bv (fun e=>by rw[(bA m q.now).ended]at e;exact e) (dr m q.now) (by rw[dA,a3];decide)
 obtain⟨o,U⟩:∃o,o=q.ke f:=⟨_,Z⟩;rw[<-U]at c1 T G E w2 w3 ed;have v1:((Vp 2 o).sd false).c=(m.push q.now).1:=T;have V:(Vp 2 o).now=q.now:=w2;have fm:m.shut=false/\m.base=1/\m.fM=1/\m.largest=max 0 (40+aO x.rp 400)/\m.limit=max 0 (1+(40+aO x.rp 400))/\m.dl=eG/\m.tries=0/\m.pend=2/\m.ann=40+aO x.sw 400/\m.sc=⟨1,1,0,[],[]⟩/\m.cf=ej x:=by rw[hm,L];exact⟨Z,Z,Z,Z,Z,Z,Z,Z,Z,Z,Z⟩
 obtain⟨m1,m2,m3,m4,m5,m6,m7,m8,m9,am,b7⟩:=fm;have u:Op True m ((Vp 2 o).sd false).c (m.push q.now).2 q.now:=by rw[v1];exact op
 have bz:NI m q.now:=by
  refine⟨O,fun e=>by omega,?_,fun e=>by rw[m6]at e;cases e⟩;rw[m7,M];decide
 have an:Sx ((Vp 2 o).sd false).c ((cG x).r true) q.now:=by
  refine⟨u.xv.ex.ci ⟨fun _=>.inl a3,fun e=>by omega,O⟩,u.rv.p2,fun e=> ?_,u.xv.set (fun e=> ?_),u.xv.ex.ni bz,?_,?_⟩
  ·rcases u.rv.k with⟨-,-,⟨e1,-,-⟩ | ⟨-,e1,-⟩⟩ | ⟨-,e1,-⟩ <;> omega
  ·have a2:m.flight=m.next-m.fM:=Z;have b1:m.next=1:=by unfold Cn.next;rw[am]
   omega
  ·have:=u.xv.ex.AC;omega
  rw[u.AC,m4];show max (0:Int) (40+aO x.rp 400)<=40+aO x.rp 400;omega
 have cC:((Vp 2 o).sd false).c.st=3:=by rw[v1,dA,a3]
 have a4:=an.tries (by rw[M];decide)
 rcases c1.ki false a4 (fun e1 _=>by
   have a2:((Vp 2 o).sd false).c.flight=((Vp 2 o).sd false).c.next-((Vp 2 o).sd false).c.fM:=Z;have h1:=u.fM;have h2:=u.lim;omega)with⟨k,-⟩ | ⟨c2,op2,e2,J,e4⟩
 ·omega
 have g2:G1 _ (Vp 2 o) ((Vp 2 o).ki false) false _:=⟨op2.sv,op2.rv,op2.xv,e2,J,e4⟩;have a9:Sx ((Vp 2 o).sd false).c ((cG x).r true) (Vp 2 o).now:=by rw[V];exact an
 have ab:=a9.step op2.rv op2.xv (by rw[op2.AC];exact an.lR);have ac:=op2.xv.ex.nd (fun hd=>a9.ni.nd hd);have W:=oY (Vp 2 o) false;rw[zj]at c2 e2 J e4 g2 ab ac W;have av:(((Vp 2 (o.ki false))).sd true)=(Vp 2 o).sd true:=e2;obtain⟨a,K⟩:∃a,a=o.ki false:=⟨_,Z⟩;rw[<-K]at c2 e2 J e4 g2 ab ac W av;have X:a.now=q.now:=e4.trans V;have F:a.sd true=p.sd true:=by rw[K];exact(kU o false).2.trans G
 have wb:Wt (uc x) (a.sd true).c:=by rw[F];exact h.b
 have et:p.tick=a:=by
  unfold Pr.tick;rw[ed,<-K];exact zk (wb.tick (by rw[X,M];decide))
 rw[et]
 have a6:∀f∈a.wire,f.held=false/\f.due<=a.now+1:=fun f t=>by
  have t:f∈(Vp 2 a).wire:=t;rw[J]at t;rw[X]
  rcases LE.1 t with t | t
  ·have t:f∈o.wire:=t;rw[E]at t;obtain⟨g,-,rfl⟩:=Md.1 t;exact⟨Z,L9 _⟩
  obtain⟨g,-,rfl⟩:=Md.1 t;exact⟨Z,by show(Vp 2 o).now+1<=_;rw[V];exact L9 _⟩
 have b8:=Mn.of u.sv u.rv u.xv;have b9:=g2.mn false
 have ax:(a.sd false).got=(p.sd false).got/\(a.sd false).all=(p.sd false).all/\(a.sd false).closed=(p.sd false).closed:=by
  have k1:=lG q f;rw[a5,qs,<-U]at k1;exact⟨W.1.trans k1.1,W.2.1.trans k1.2.1,W.2.2.trans k1.2.2⟩
 have vb:((Vp 2 a).sd true).c=gA 2 (p.sd true).c:=by rw[(ce 2 a).2.1,F]
 have b0:((p.sd true).c.shut=s)/\(p.sd true).c.base=1/\(p.sd true).c.pend=0/\(p.sd true).c.largest=max 0 (40+aO x.sw 400)/\(p.sd true).c.ann=40+aO x.rp 400/\(p.sd true).c.cf=eH x/\(p.sd true).c.bx.nx=0:=by rw[eb];exact⟨Z,Z,Z,Z,Z,Z,Z⟩
 obtain⟨c3,c4,c5,c6,c7,cF,c8⟩:=b0
 have c9:(gA 2 (p.sd true).c).st=3\/(gA 2 (p.sd true).c).st=4:=by
  show(if(p.sd true).c.shut=true then(4:Int)else 3)=3\/(if(p.sd true).c.shut=true then(4:Int)else 3)=4;split <;> simp
 refine⟨⟨⟨_,_,c2⟩,fun i=> ?_,fun i=> ?_,a6,fun i=> ?_,fun i=>⟨?_,?_⟩,fun i=> ?_,fun i=> ?_⟩,wb,by rw[X,M],by rw[F];exact h.got true,by rw[F];exact h.fin true,by rw[F];exact h.cs true,?_⟩
 ·show Sx ((Vp 2 a).sd i).c ((cG x).r (!i)) a.now;rw[X]
  cases i
  ·rw[V]at ab;exact ab
  rw[vb];refine⟨⟨fun e=>.inl ?_,fun e=>by omega,by show min 1 (p.sd true).c.last<=(p.sd true).c.base;omega⟩,by show(p.sd true).c.pend≠2;omega,fun e=> ?_,fun e=> ?_,⟨L9 0,fun e=> ?_,by rw[M];show(0:Int)<=1;decide,fun e=>IU⟩,by show 40<=(p.sd true).c.largest;omega,by show(p.sd true).c.largest<=40+aO x.sw 400;omega⟩
  ·have e:(p.sd true).c.shut=false:=e;show(if(p.sd true).c.shut=true then(4:Int)else 3)=3;rw[e];rfl
  ·have e:(p.sd true).c.pend=1:=e;omega
  ·have e:(0:Int)<1-1:=e;omega
  have e:(0:Int)<0:=e;omega
 ·show ND ((Vp 2 a).sd i).c a.now;rw[X]
  cases i
  ·rw[V]at ac;exact ac
  rw[vb];exact fun e=>by cases e
 ·cases i
  ·refine .inr fun _=> ?_;have hg:((Vp 2 a).sd false).got=[]:=ax.1.trans (h.got false);rw[hg];have h1:=b8.ann;have h2:=b9.ann;show((0:Nat):Int)+(40+aO x.sw 400)<((Vp 2 a).sd false).c.ann+max 1 ((40+aO x.sw 400)/2);omega
  refine .inr fun _=> ?_;have hg:((Vp 2 a).sd true).got=[]:=by rw[((ce 2 a).2.2 true).2.2.1,F];exact h.got true
  rw[hg,vb];show((0:Nat):Int)+(40+aO x.rp 400)<(p.sd true).c.ann+max 1 ((40+aO x.rp 400)/2);omega
 ·cases i
  ·show 40<=40+aO x.sw 400;omega
  show 40<=40+aO x.rp 400;omega
 ·have pK:=ah x.keep 400 D
  cases i
  ·rw[b9.cf,b8.cf,b7];show 40<=40+aO x.keep 400;omega
  rw[vb];show 40<=(p.sd true).c.cf.keep;rw[cF];show 40<=40+aO x.keep 400;omega
 ·rw[((ce 2 a).2.2 i).2.2.2.1]
  cases i
  ·rw[ax.2.1];exact g.all false
  rw[F];exact g.all true
 ·intro e;rw[((ce 2 a).2.2 i).2.1]at e
  cases i
  ·rw[ax.2.2]at e;have h1:=h.cs false e;rw[L]at h1
   cases h1
  rw[F]at e;rw[vb];exact h.cs true e
 obtain⟨g1,t1,h1,h2⟩:=xB (c:=m) (now:=q.now) (by rw[a3];rfl) (by rw[am];exact ri _) m8 m1;have J:a.wire=o.wire++_:=J;rw[J,E,h1];refine⟨q.fl false g1,_,Z,Z,?_⟩;show g1.sq=_;rw[h2,b7,show m.next=1 from by unfold Cn.next;rw[am]];rfl
theorem Wt.b {x:Rw}{c:Cn}(h:Wt (uc x) c):∃y s,c={ uc x with held:=y,shut:=s }:=h.eq
theorem Wt.wb {x:Rw}{c:Cn}(h:Wt (uc x) c):Wb c:=by
 have a:=ah x.sw 400 D;obtain⟨y,s,e⟩:=h.eq;rw[e];exact⟨Z,Z,Z,Kr⟩
theorem CG {x:Rw}{c:Cn}(h:Wt (uc x) c){now:Int}(a:0<=now):Sx (gA 2 c) (40+aO x.sw 400) now/\Hs (gA 2 c)/\3<=(gA 2 c).st:=by
 have d:=ah x.sw 400 D;obtain⟨y,s,e⟩:=h.eq;have b:c.base=1/\c.pend=0/\c.largest=max 0 (40+aO x.sw 400):=by rw[e];exact⟨Z,Z,Z⟩
 obtain⟨f,i,j⟩:=b
 have st:(gA 2 c).st=3\/(gA 2 c).st=4:=by
  show(if c.shut=true then(4:Int)else 3)=3\/(if c.shut=true then(4:Int)else 3)=4;split <;> simp
 refine⟨⟨⟨fun g=>.inl ?_,fun g=>by omega,by show min 1 c.last<=c.base;omega⟩,by show c.pend≠2;omega,fun g=> ?_,fun g=> ?_,⟨L9 0,fun g=> ?_,a,fun g=>(by cases g)⟩,by show 40<=c.largest;omega,by show c.largest<=40+aO x.sw 400;omega⟩,?_,O⟩
 ·have g:c.shut=false:=g;show(if c.shut=true then(4:Int)else 3)=3;rw[g];rfl
 ·have g:c.pend=1:=g;omega
 ·have g:(0:Int)<1-1:=g;omega
 ·have g:(0:Int)<0:=g;omega
 rw[e]at st|-;exact⟨fun g=>(by cases g),fun g=>(by cases g),fun g=>by omega,fun g=>(by cases g)⟩
theorem DI.held {c0:Cn}{y b:List UInt8}{s s':Bool}{T:Int}{r:Cn}{a A:List Sg}{q N:Int}:(DI (gA T { c0 with held:=y,shut:=s }) r a A q N->DI (gA T { c0 with held:=b,shut:=s' }) r a A q N)/\(DI r (gA T { c0 with held:=y,shut:=s }) a A q N->DI r (gA T { c0 with held:=b,shut:=s' }) a A q N) :=
 ⟨fun h=>⟨h.tq,h.seg,h.ack,h.Hg,h.fM,h.Ds,h.lim,h.safe,h.told,h.EX,h.Hh,h.Ez⟩,fun h=>⟨h.tq,h.seg,h.ack,h.Hg,h.fM,h.Ds,h.lim,h.safe,h.told,h.EX,h.Hh,h.Ez⟩⟩
theorem zl {p:Pr}{f:Fl}(hd:f.dst=true)(e:(p.sd true).c.receive p.now f.s=(gA 2 (p.sd true).c).receive p.now f.s):(Vp 2 p).ke f=p.ke f:=by
 unfold Pr.ke;rw[hd];have a:((Vp 2 p).sd true).c.receive (Vp 2 p).now f.s=(p.sd true).c.receive p.now f.s:=e.symm;rw[a];rfl
theorem Hm.round {x:Rw}{N:Bool->Int}{p:Pr}{n:Int}(h:Hm x N p)(g:Ga (cG x) N p n):E2 (cG x) N p.Ds\/(Tn (cG x) p.Ds (fun _=>1) N/\∀i,tQ (p.Ds.sd i).c):=by
 have pB:=ah x.rp 400 D;obtain⟨y,M,d1⟩:=h.tn.mR false;rw[BK]at y M d1;have g1:=g.mR false;have F:=g1.mR true;have G:(p.mR false).sd true=p.sd true:=nR p false;have V:(p.mR false).now=1:=M.now.trans h.now;obtain⟨s,e,w,sg,sf,-,sk⟩:=Wt.mR (p:=p.mR false) (i:=true) (by rw[G];exact h.b) (by rw[G];exact h.got) (by rw[G];exact h.fin) (fun q=>by rw[G,h.b.f.1]at q;cases q) (by rw[G];exact h.cs);have X:p.zx.1=(p.mR false).kd true s:=e;rw[e]at F;obtain⟨p1,a0⟩:∃p1,p1=p.mR false:=⟨_,Z⟩;rw[<-a0]at y M d1 g1 F G V X;obtain⟨l,o⟩:∃l,l=p1.kd true s:=⟨_,Z⟩;rw[<-o]at F X;have sa:l.sd false=p1.sd false:=by rw[o];rfl
 have K:l.sd true=s:=by rw[o];rfl
 have T:l.wire=p1.wire:=by rw[o];rfl
 have sn:l.now=1:=by rw[o];exact V
 have wb:Wt (uc x) (l.sd true).c:=by rw[K];exact w
 obtain⟨A,B,L⟩:=y.cl;have t:((Vp 2 l).sd false)=(Vp 2 p1).sd false:=sa;have u:((Vp 2 p1).sd true).c=gA 2 (p1.sd true).c:=(ce 2 p1).2.1;have m:((Vp 2 l).sd true).c=gA 2 s.c:=by rw[(ce 2 l).2.1,K]
 obtain⟨y1,z1,I⟩:=h.b.eq;rw[<-G]at I;obtain⟨y2,z2,z⟩:=w.eq;obtain⟨sx,hs,cL⟩:=CG w (now:=l.now) (by rw[sn];decide);have f2:=F.f2
 have cl:Cl (cG x) (Vp 2 l) [] (fun _=>1) N (Vp 2 l).Q (Vp 2 l).R:=by
  refine⟨PV.vp F.al.pv wb.wb 2,Fit.vp F.al.run.1 2,fun i=> ?_,⟨fun j q=> ?_,fun j=> ?_,f2.sm⟩,by rw[o];exact L.calm,fun i=> ?_,fun i=> ?_,fun f C=> ?_,fun i=> ?_,fun f C=>(by cases C)⟩
  ·have k:=L.dp i;have E:(Vp 2 l).wire=(Vp 2 p1).wire:=T;rw[E]
   cases i
   ·show DI ((Vp 2 l).sd false).c ((Vp 2 l).sd true).c _ _ _ _;have k:DI ((Vp 2 p1).sd false).c ((Vp 2 p1).sd true).c _ _ _ _:=k;rw[t,m,z];rw[u,I]at k;exact DI.held.2 k
   show DI ((Vp 2 l).sd true).c ((Vp 2 l).sd false).c _ _ _ _;have k:DI ((Vp 2 p1).sd true).c ((Vp 2 p1).sd false).c _ _ _ _:=k;rw[t,m,z];rw[u,I]at k;exact DI.held.1 k
  ·rw[((ce 2 l).2.2 j).1];rw[((ce 2 l).2.2 j).2.1]at q;exact f2.cl j q
  ·rw[((ce 2 l).2.2 j).1];exact f2.le j
  ·cases i
   ·rw[t];exact L.st false
   rw[m];exact cL
  ·cases i
   ·rw[t];exact L.hs false
   rw[m];exact hs
  ·have C:f∈[]++(Vp 2 p1).wire:=by
    have E:(Vp 2 l).wire=(Vp 2 p1).wire:=T;rw[<-E];exact C
   have k:=L.pl f C
   cases hd:f.dst with
   | false=>rw[hd]at k;rw[t];exact k
   | true =>
    rw[hd,u,I]at k;rw[m,z];exact k
  have k:=L.prt i
  cases i
  ·show((Vp 2 l).sd false).c.cf.fp=((Vp 2 l).sd true).c.cf.tp;have k:((Vp 2 p1).sd false).c.cf.fp=((Vp 2 p1).sd true).c.cf.tp:=k;rw[u,I]at k;rw[t,m,z];exact k
  show((Vp 2 l).sd true).c.cf.fp=((Vp 2 l).sd false).c.cf.tp;have k:((Vp 2 p1).sd true).c.cf.fp=((Vp 2 p1).sd false).c.cf.tp:=k;rw[u,I]at k;rw[t,m,z];exact k
 have ba:((Vp 2 l).sd true).got.length+(cG x).r true<((Vp 2 l).sd true).c.ann+max 1 ((cG x).r true/2):=by
  rw[((ce 2 l).2.2 true).2.2.1,K,sg,m,z];show((0:Nat):Int)+(40+aO x.rp 400)<40+aO x.rp 400+max 1 ((40+aO x.rp 400)/2);omega
 have cM:(((Vp 2 l).sd true).got.length:Int)=((Vp 2 l).sd true).c.bx.nx:=by
  rw[((ce 2 l).2.2 true).2.2.1,K,sg,m,z];rfl
 have tn:Tn (cG x) (Vp 2 l) (fun _=>1) N:=by
  refine⟨⟨_,_,cl⟩,fun i=> ?_,fun i=> ?_,fun f C=> ?_,fun i=> ?_,fun i=>⟨(y.par i).1,?_⟩,fun i=>by rw[((ce 2 l).2.2 i).2.2.2.1];exact F.all i,fun i q=> ?_⟩
  ·show Sx ((Vp 2 l).sd i).c ((cG x).r (!i)) l.now
   cases i
   ·rw[t,sn,<-V];exact y.sx false
   rw[m];exact sx
  ·show ND ((Vp 2 l).sd i).c l.now;rw[show l.now=p1.now by omega]
   cases i
   ·rw[t];exact y.nd false
   rw[m];exact fun q=>by cases q
  ·have C:f∈(Vp 2 p1).wire:=by
    have E:(Vp 2 l).wire=(Vp 2 p1).wire:=T;rw[<-E];exact C
   have k:=y.w f C;exact⟨k.1,by have U:f.due<=p1.now+1:=k.2;show f.due<=l.now+1;omega⟩
  ·cases i
   ·unfold BH;rw[t];exact y.rw false
   exact .inr fun _=>ba
  ·cases i
   ·rw[t];exact(y.par false).2
   have k:=(y.par true).2;rw[u,I]at k;rw[m,z];exact k
  rw[((ce 2 l).2.2 i).2.1]at q
  cases i
  ·rw[sa]at q;rw[t];exact y.cs false q
  rw[K]at q;rw[m];exact sk q
 have rd:∀i,Rd (cG x) (Vp 2 l) i:=fun i=>by
  cases i
  ·unfold Rd;rw[t];exact d1.rd
  exact .inr ⟨cM,ba⟩
 -- the tick
 obtain⟨f,W,hw,a5,cS⟩:=h.hd;obtain⟨l1,E⟩:=M.ww;have E:p1.wire=p.wire++l1:=E;have J:l.wire=f::(W++l1):=by rw[T,E,hw];rfl
 have cT:f∈(Vp 2 l).wire:=by show f∈l.wire;rw[J];simp
 have wd:=tn.w
 have ed:(Vp 2 l).tick=l.tick:=by
  have P:∀k∈({ l with now:=l.now+1 }:Pr).wire,k.held=false/\k.due<=l.now+1:=fun k hk=>wd k hk;obtain⟨d1,d2⟩:=eV (p:={ l with now:=l.now+1 }) P;obtain⟨d3,d4⟩:=eV (p:={ (Vp 2 l)with now:=l.now+1 }) P
  have q1:({ (Vp 2 l)with now:=l.now+1 }:Pr).deliver=l.wire.foldl Pr.ke (Vp 2 { l with now:=l.now+1,wire:=[] }):=by
   unfold Pr.deliver;rw[d3,d4];rfl
  have q2:({ l with now:=l.now+1 }:Pr).deliver=l.wire.foldl Pr.ke { l with now:=l.now+1,wire:=[] }:=by
   unfold Pr.deliver;rw[d1,d2]
  have q3:(Vp 2 { l with now:=l.now+1,wire:=[] }).ke f=({ l with now:=l.now+1,wire:=[] }:Pr).ke f:=by
   refine zl a5 ?_;have e1:(({ l with now:=l.now+1,wire:=[] }:Pr).sd true).c=s.c:=by show(l.sd true).c=s.c;rw[K]
   rw[e1,show({ l with now:=l.now+1,wire:=[] }:Pr).now=2 by show l.now+1=2;omega];have k:=cl.pl f cT;have d:=cl.dp true;rw[a5,m]at k;have d:DI ((Vp 2 l).sd true).c ((Vp 2 l).sd false).c _ _ _ _:=d;rw[m]at d;obtain⟨-,⟨k1,U,k3⟩,k4,k5⟩:=k;have kb:s.c.st=2/\s.c.sc=⟨0,1,0,[],[]⟩/\s.c.base=1/\s.c.tq=aw (ck x.Dc) 0/\s.c.bx.nx=0/\s.c.ann=40+aO x.rp 400/\s.c.ended=false:=by rw[z];exact⟨Z,Z,Z,Z,Z,Z,Z⟩
   obtain⟨m1,m2,m3,m4,m5,m6,m7⟩:=kb;refine rj m1 m2 m3 ⟨k1,U,k3⟩ ⟨k4,k5⟩ ?_ ?_
   ·have a:=d.ack f.s (by show f.s∈jb true l.wire;rw[J,<-a5,(kQ f _).1];exact M4);have b:=d.Ds;have M:(gA 2 s.c).fM=1:=Z;have u2:(gA 2 s.c).next=1:=Z;have a1:=a.1;have a2:=a.2.1;have u3:iL (gA 2 s.c).cf.kc f.s=aE f.s.ak s.c.cf.kc:=Z;omega
   have off:s.c.offset f.s.sq=0:=by
    unfold Cn.offset;rw[m4,cS];unfold aE aw ck;omega
   have ex:s.c.expected=0:=by unfold Cn.expected Cn.reached;rw[m7,m5];rfl
   have sl:0<=aj f.s:=by unfold aj;split <;> split <;> omega
   rw[off];unfold Cn.accepts;rw[ex,m5,m6];split
   ·rfl
   rw[L5 O,L5 O];exact Lc O
  unfold Pr.tick;show((({ (Vp 2 l)with now:=l.now+1 }:Pr).deliver).ki false).ki true=((({ l with now:=l.now+1 }:Pr).deliver).ki false).ki true;rw[q1,q2,J,Nk,Nk,q3]
 have S:=tn.tick (eK x) rd (by show l.now+1<1692;omega);rw[ed]at S;unfold Pr.Ds;rw[X]
 rcases S with k | ⟨k1,U,-,-⟩
 ·exact .inl k
 exact .inr ⟨k1,U⟩
def qA (n m:Nat):Bool->Int:=fun i=>if i=true then m else n
theorem ue (x:Rw){n m:Nat}(a:n<=1000)(hm:m<=1000):Ga (cG x) (qA n m) (eN x [] n m) 0 :=
 ⟨kO x [] n m D a hm,fun i h=>(by cases i <;> cases h),fun i=>by
  cases i
  ·exact congrArg Int.ofNat (ly 0 n)
  ·exact congrArg Int.ofNat (ly 1 m)⟩
theorem zm (x:Rw){n m:Nat}(c:n<=500)(hm:m<=500):∃k,k<=493/\E2 (cG x) (qA n m) ((eN x [] n m).seq k):=by
 have g:=ue x (n:=n) (m:=m) O O;have h:=((EY.meet x n m).mR false).mR true;generalize eN x [] n m=p at g h;have h1:Hm x (qA n m) (p.seq 1):=h.tick ((g.mR false).mR true);have g1:Ga (cG x) (qA n m) (p.seq 1) _:=g.Ds (eK x) (L9 0) D;have a:Ga (cG x) (qA n m) (p.seq 2) _:=g1.Ds (eK x) D D
 rcases h1.round g1 with k | ⟨t,s⟩
 ·exact⟨2,D,k⟩
 have hw:=a.al.run.2;have t:Tn (cG x) (p.seq 2) (fun _=>1) (qA n m):=t;obtain⟨k,d,b⟩:=t.through s (eK x) (fun _=>L9 1) (J:=25) (fun i=>by unfold qA;split <;> omega) O;refine⟨k+2,O,?_⟩
 have e:∀k,p.seq (k+2)=(p.seq 2).seq k:=fun k=>by
  rw[nS,nS];rfl
 rw[e];exact b
end Go.Proofs.YtcmncipikdpnbaaGreatDoor
