import Derived.Test.YtcmncipikdpnbaaGreatDoorUb35
namespace Go.Proofs.YtcmncipikdpnbaaGreatDoor
theorem td {c:Cn}(now:Int)(h0:c.st=1\/c.st=2)(a:c.pend≠2)(hf:0<c.flight)(hd:c.dl.set=true):c.push now=(c,[]):=by
 have hs:ae c.st=false:=by rcases h0 with e | e <;> (rw[e];rfl)
 unfold Cn.push;rw[L5 O,hs];show((Cn.qD c []).1.lp now,(Cn.qD c []).2)=_;have e:Cn.qD c []=(c,[]):=by unfold Cn.qD;rw[L5 a]
 rw[e];have b:c.lp now=c:=by unfold Cn.lp;rw[L5 O,L7 hd]
 rw[b]
structure Wt (c0 c:Cn):Prop where
 eq:∃h s,c={ c0 with held:=h,shut:=s }
 st:c0.st=1\/c0.st=2
 pend:c0.pend=0
 fl:c0.flight=1
 dl:c0.dl= .wA 0 12
 bx:∃n,c0.bx=nZ n
 en:c0.ended=false
theorem Wt.f {c0 c:Cn}(h:Wt c0 c):(c.st=c0.st)/\c.pend=0/\c.flight=1/\c.dl= .wA 0 12/\(∃n,c.bx=nZ n)/\c.ended=false/\c.sc=c0.sc:=by
 obtain⟨x,s,rfl⟩:=h.eq;exact⟨Z,h.pend,h.fl,h.dl,h.bx,h.en,Z⟩
theorem Wt.to {c0 c:Cn}(h:Wt c0 c)(x:List UInt8)(s:Bool):Wt c0 { c with held:=x,shut:=s }:=by
 obtain⟨y,t,rfl⟩:=h.eq;exact⟨⟨x,s,Z⟩,h.st,h.pend,h.fl,h.dl,h.bx,h.en⟩
theorem Wt.push {c0 c:Cn}(h:Wt c0 c)(now:Int):c.push now=(c,[]):=by
 obtain⟨a,f2,f3,b,-⟩:=h.f;exact td now (by rw[a];exact h.st) (by rw[f2];decide) (by rw[f3];decide) (by rw[b];rfl)
theorem Wt.tick {c0 c:Cn}(h:Wt c0 c){now:Int}(e:now<12):c.tick now=(c,[]):=by
 obtain⟨g,f2,f3,a,-⟩:=h.f;have b:=h.st
 have d:c.dl.due now=false:=by
  rw[a];unfold Al.due;show(true&&(decide ((0:Int)<=now)&&decide ((12:Int)<=now-0)))=false;rw[Lf (show ¬(12:Int)<=now-0 by omega)]
  simp
 unfold Cn.tick;rw[L5 O,L5 O,L5 (by rw[d];decide)];unfold Cn.oi;dsimp only;rw[L5 O,h.push now];rfl
theorem ze (n:Nat)(k:Int):(nZ n).take k=nZ n/\(nZ n).nB k=[]:=by
 have e:min k ((nZ n).nx-(nZ n).rd)<=0:=by show min k (0-0)<=0;omega
 constructor
 ·unfold Bx.take;rw[L7 e]
 unfold Bx.nB;rw[L7 e]
theorem Wt.mR {c0:Cn}{p:Pr}{i:Bool}(h:Wt c0 (p.sd i).c)(l:(p.sd i).got=[])(hf:(p.sd i).fin=false)(hs:(p.sd i).c.st=1->(p.sd i).c.shut=false)(m:(p.sd i).closed=true->(p.sd i).c.shut=true) :
  ∃s:Sd,p.mR i=p.kd i s/\Wt c0 s.c/\s.got=[]/\s.fin=false/\(s.c.st=1->s.c.shut=false)/\(s.closed=true->s.c.shut=true):=by
 have j:∀(p:Pr) (s t:Sd),(p.kd i s).kd i t=p.kd i t/\(p.kd i s).sd i=s:=fun p s t=>by cases i <;> exact⟨Z,Z⟩
 have x:p.kd i (p.sd i)=p:=by cases i <;> rfl
 have o:∃s:Sd,p.send i 1000=p.kd i s/\Wt c0 s.c/\s.got=[]/\s.fin=false/\(s.c.st=1->s.c.shut=false)/\(s.closed=true->s.c.shut=true):=by
  unfold Pr.send;dsimp only;split
  ·exact⟨p.sd i,x.symm,h,l,hf,hs,m⟩
  split
  ·exact⟨p.sd i,x.symm,h,l,hf,hs,m⟩
  rename_i g
  have e:(p.sd i).c.send p.now (Pr.bytes (p.sd i) 1000)=({ (p.sd i).c with held:=(p.sd i).c.held++(Pr.bytes (p.sd i) 1000).take ((p.sd i).c.nX (Pr.bytes (p.sd i) 1000)).toNat },[]):=by
   unfold Cn.send;rw[L5 g];exact(h.to _ (p.sd i).c.shut).push p.now
  rw[e];exact⟨_,Z,h.to _ (p.sd i).c.shut,l,hf,hs,m⟩
 obtain⟨b,A,r,g1,B,h1,C⟩:=o
 have be:∃s:Sd,(p.kd i b).recv i 1000=p.kd i s/\Wt c0 s.c/\s.got=[]/\s.fin=false/\(s.c.st=1->s.c.shut=false)/\(s.closed=true->s.c.shut=true):=by
  obtain⟨E,N,P,S,⟨n,u⟩,F,-⟩:=r.f;obtain⟨G,y⟩:=ze n 1000;have I:=r.st
  have e:b.c.recv (p.kd i b).now 1000=(b.c,[]):=by
   unfold Cn.recv;rw[L5 D];dsimp only;rw[u,G,L7 y,<-u]
  have J:b.c.qF 1000=false:=by
   unfold Cn.qF Cn.reached;dsimp only;rw[F];rfl
  have K:b.c.nF 1000=0:=by
   unfold Cn.nF;rw[L5 D,L5 (by rw[E];omega)]
  unfold Pr.recv;dsimp only;rw[(j p b b).2,L5 (by rw[K];decide),e,J,u,y];refine⟨_,(j p b _).1,r,?_,?_,h1,C⟩
  ·show b.got++[]=[];rw[g1];rfl
  show(b.fin||false)=false;rw[B];rfl
 obtain⟨a,L,d,k,f2,h2,w⟩:=be;unfold Pr.mR;dsimp only;rw[A,L,(j p a a).2];split
 ·rename_i g;unfold Pr.shut;dsimp only;rw[(j p a a).2];split
  ·exact⟨a,Z,d,k,f2,h2,w⟩
  split
  ·exact⟨a,Z,d,k,f2,h2,w⟩
  rename_i z
  have M:a.c.st=2:=by
   have:=d.f.1;have:=d.st;omega
  have e:a.c.close (p.kd i a).now=({ a.c with shut:=true },[]):=by
   unfold Cn.close;unfold Cn.te at z;rw[L5 (fun q=>z (by rw[L7 q];decide))];dsimp only;rw[L5 g.2,L7 M];exact(d.to a.c.held true).push _
  rw[e];exact⟨_,(j p a _).1,d.to a.c.held true,k,f2,fun q=>absurd q g.2,fun _=>rfl⟩
 exact⟨a,Z,d,k,f2,h2,w⟩
def gA (T:Int)(c:Cn):Cn:={ c with st:=if c.shut=true then 4 else 3,sc:=⟨1,1,0,[],[]⟩,dl:=eG,tm:=c.tm.go T 1,tries:=0 }
theorem ri (m:Int):(⟨1,1,0,[],[]⟩:Sc).lost m=[]:=by unfold Sc.lost;split <;> rfl
theorem lH:(⟨0,1,0,[],[]⟩:Sc).go 1 []=⟨1,1,0,[],[]⟩/\(⟨1,1,0,[],[]⟩:Sc).go 1 []=⟨1,1,0,[],[]⟩:=⟨Z,Z⟩
theorem zf (k:Bool)(a:Int)(bl:List Sp):dV k 1 a bl=[]:=by
 unfold dV;rw[List.filter_eq_nil_iff];intro x _ h;rw[Ly,Lh]at h;omega
theorem oZ {c:Cn}(T:Int)(s:Sg)(h:c.sc=⟨0,1,0,[],[]⟩\/c.sc=⟨1,1,0,[],[]⟩)(f:c.base=1) :
  c.go T s 1=Cn.announce { c with sc:=⟨1,1,0,[],[]⟩,tries:=0,dl:=if c.fM=0 then eG else c.dl,tm:=if c.fM=0 then c.tm.go T 1 else c.tm } 1 s.win:=by
 have j:c.fM=0\/c.fM=1:=by unfold Cn.fM;rcases h with e | e <;> (rw[e];simp)
 have k:c.next=1:=by unfold Cn.next;rcases h with e | e <;> rw[e]
 have o:c.last=1+c.held.length:=by unfold Cn.last;rw[f]
 have l:Cn.report { c with tries:=0 } 1 s.bl={ c with tries:=0,sc:=⟨1,1,0,[],[]⟩ }:=by
  have i:dV c.iu c.next c.cf.kc s.bl=[]:=by rw[k];exact zf _ _ _
  have a:c.sc.go 1 (dV c.iu c.next c.cf.kc s.bl)=⟨1,1,0,[],[]⟩:=by
   rw[i]
   rcases h with e | e
   ·rw[e];exact lH.1
   rw[e];exact lH.2
  show({ c with tries:=0,sc:=c.sc.go 1 (dV c.iu c.next c.cf.kc s.bl) }:Cn)=_;rw[a]
 have m:∀d:Cn,d.held=c.held->d.base=c.base->d.drop 1=d:=fun d i a=>by
  have e:dL d.held d.base 1=0:=by unfold dL;rw[a,f];omega
  unfold Cn.drop;rw[e];show({ d with held:=d.held.drop 0,base:=d.base+0 }:Cn)=d;rw[MH,Int.add_zero]
 have hz:∀b d:Cn,b.sc=⟨1,1,0,[],[]⟩->(if 0<c.Ct 1 s.bl/\b.mark<=1/\b.sc.lost b.gi≠[]then d else b)=b:=fun b d e=>by
  rw[L5];rintro⟨-,-,g⟩;rw[e,ri]at g;exact g Z
 unfold Cn.go;rw[L5 O];dsimp only;rw[l,L5 (show ¬(c.fM<=c.last/\c.last<1) by omega)]
 rcases j with e | e
 ·have h1:c.fM<1:=by omega
  have h2:¬0<1-max c.fM 1:=O
  simp only[L7 h1,L5 h2,L7 e];have n:=m { c with sc:=⟨1,1,0,[],[]⟩,tries:=0,dl:=eG,tm:=c.tm.go T 1 } Z Z;rw[n];exact hz _ _ Z
 have h1:¬c.fM<1:=O
 have h2:¬c.fM=0:=O
 simp only[L5 h1,L5 h2];exact hz _ _ Z
theorem wv {c:Cn}(T:Int)(s:Sg)(a:c.sc=⟨0,1,0,[],[]⟩)(b:c.base=1):({ c with st:=if c.shut=true then 4 else 3 }:Cn).go T s 1=(gA T c).go T s 1:=by
 have d:c.fM=0:=by unfold Cn.fM;rw[a]
 rw[oZ (c:={ c with st:=if c.shut=true then 4 else 3 }) T s (.inl a) b,oZ (c:=gA T c) T s (.inr Z) b];have e:({ c with st:=if c.shut=true then 4 else 3 }:Cn).fM=0:=d;rw[e];rfl
theorem rj {c:Cn}{T:Int}{s:Sg}(h2:c.st=2)(b:c.sc=⟨0,1,0,[],[]⟩)(m:c.base=1)(f:s.qa=false/\s.syn=false/\s.has=true)(l:s.fp=c.cf.tp/\s.tp=c.cf.fp)(j:aE s.ak c.cf.kc=1)(a:c.accepts (c.offset s.sq) (aj s)=true):c.receive T s=(gA T c).receive T s:=by
 have p:c.next=1:=by unfold Cn.next;rw[b]
 have n:(gA T c).st=3\/(gA T c).st=4:=by
  show(if c.shut=true then(4:Int)else 3)=3\/(if c.shut=true then(4:Int)else 3)=4;split <;> simp
 unfold Cn.receive;rw[L5 O,L5 (show ¬(gA T c).st=0 by omega)];have i:¬(s.fp≠c.cf.tp\/s.tp≠c.cf.fp):=fun g=>by rcases g with g | g;exact g l.1;exact g l.2
 rw[L5 i,L5 (show ¬(s.fp≠(gA T c).cf.tp\/s.tp≠(gA T c).cf.fp)from i),L5 O,L5 O]
 have k:∀d:Cn,d.accepts (d.offset s.sq) (aj s)=true->d.ys T s=d.process T s (d.offset s.sq):=fun d h=>by
  unfold Cn.ys;dsimp only;rw[L5 (fun g=>by rw[f.1]at g;cases g.1),L5 (fun g=>by rw[f.1]at g;cases g.1),L5 (by rw[h];decide),L5 (fun g=>by rw[f.1,f.2.1]at g;rcases g with g | g <;> cases g),L5 (by rw[f.2.2];decide)]
 rw[k c a,k (gA T c) a];unfold Cn.process;dsimp only;rw[L7 h2,L5 (show ¬(gA T c).st=2 by omega)];rw[show(gA T c).cf.kc=c.cf.kc from Z,j,L5 O,L5 (show ¬(gA T c).next<1 by show ¬(1:Int)<1;omega)]
 have e:(if(c.step T 4).shut=true then(c.step T 4).step T 5 else c.step T 4)={ c with st:=if c.shut=true then 4 else 3 }:=by
  have o:c.step T 4={ c with st:=3 }:=by
   unfold Cn.step;rw[h2];rfl
  rw[o];show(if c.shut=true then Cn.step { c with st:=3 } T 5 else { c with st:=3 })=_;split
  ·unfold Cn.step;rfl
  rfl
 rw[e,wv T s b m];rfl
theorem zg:(⟨1,1,0,[],[]⟩:Sc).Ok:=⟨D,D,D,D,D,Z,Z,fun _ h=>(a8 h).elim,fun _ h=>(a8 h).elim⟩
theorem tf {c:Cn}(ok:c.Ok)(T:Int):(gA T c).Ok:=by
 have a:=ok.tr;exact { ok with sc:=zg,tm:=Tm.v8 ok.tm T 1,dl:=eD,st:=by(show 0<=(if c.shut=true then(4:Int)else 3)/\(if c.shut=true then(4:Int)else 3)<=9;split <;> omega),tr:=by(show(0:Int)<=0/\(0:Int)<=13;omega),tr2:=fun _=>by(show(0:Int)<=12;omega) }
theorem zh {k:Kx}{c:Cn}(h:SI k c)(b:c.base=1)(hl:1<=c.limit)(T:Int):SI k (gA T c):=by
 have a:=h.last;have e:(gA T c).last=c.last:=Z;exact⟨h.b1,h.held,h.last,by(show(1:Int)<=c.last+(if c.shut=true then 1 else 0);split <;> omega),h.sh,by(show c.base<=max 1 1;omega),by(show(1:Int)<=1;omega),h.kc,h.sm,h.lim,fun _=>hl,by(show min 1 c.last<=c.limit+1;omega),h.gi,h.room⟩
structure Wb (c:Cn):Prop where
 st:c.st=2
 sc:c.sc=⟨0,1,0,[],[]⟩
 base:c.base=1
 lim:1<=c.limit
def met (c:Cn)(now:Int)(s:Sg):Cn:={ c.meet s with sc:=⟨1,1,0,[],[]⟩,tm:=c.tm.go now 1,tries:=0,st:=3,dl:=eG,pend:=2 }
theorem wy {c:Cn}{now:Int}{s:Sg}(h1:c.st=1)(a:c.sc=⟨0,1,0,[],[]⟩)(b:s.has=true/\s.qa=false/\s.syn=true)(i:s.fp=c.cf.tp/\s.tp=c.cf.fp)(f:aE s.ak c.cf.kc=1):c.receive now s=(met c now s).push now:=by
 have h:¬(s.fp≠c.cf.tp\/s.tp≠c.cf.fp):=fun g=>by rcases g with g | g;exact g i.1;exact g i.2
 unfold Cn.receive;rw[L5 O,L5 h,L7 h1];unfold Cn.xs;rw[L5 (fun g=>g.2 f),L5 (fun g=>by rw[b.2.1]at g;cases g.1),L5 (by rw[b.2.2];decide)];dsimp only;rw[L5 (by rw[b.1];decide)]
 have e:∀d:Cn,d.st=1->d.step now 3={ d with st:=3 }:=fun d j=>by
  unfold Cn.step;rw[j];rfl
 have k:({ ({ c.meet s with tries:=0,sc:=(c.meet s).sc.go 1 [],tm:=(c.meet s).tm.go now 1 }:Cn).step now 3 with dl:=eG }:Cn).gB=met c now s:=by
  rw[e { c.meet s with tries:=0,sc:=(c.meet s).sc.go 1 [],tm:=(c.meet s).tm.go now 1 } h1,show(c.meet s).sc=c.sc from Z,a,lH.1];rfl
 exact congrArg (fun d:Cn=>d.push now) k
theorem CD {c:Cn}(ok:c.Ok){now:Int}{s:Sg}(hs:s.Ok)(hy:s.syn=true):(met c now s).Ok :=
 { ok.meet hs hy with sc:=zg,tm:=Tm.v8 ok.tm now 1,dl:=eD,st:=by(show(0:Int)<=3/\(3:Int)<=9;omega),pend:=by(show(0:Int)<=2/\(2:Int)<=2;omega),tr:=by(show(0:Int)<=0/\(0:Int)<=13;omega),tr2:=fun _=>by(show(0:Int)<=12;omega) }
theorem CE {k:Kx}{c:Cn}(h:SI k c)(b:c.base=1)(now:Int){s:Sg}(hl:1<=max c.limit (1+s.win))(he:max c.limit (1+s.win)<=1+k.e):SI k (met c now s):=by
 have a:=h.last;have d:=h.gi;have e:(met c now s).last=c.last:=Z;exact⟨h.b1,h.held,h.last,by(show(1:Int)<=c.last+(if c.shut=true then 1 else 0);split <;> omega),h.sh,by(show c.base<=max 1 1;omega),by(show(1:Int)<=1;omega),h.kc,h.sm,he,fun _=>hl,by(show min 1 c.last<=max c.limit (1+s.win)+1;omega),by(show min c.gi (if s.gi=0 then 28 else s.gi)<=k.m;omega),h.room⟩
structure IE (c:Cn):Prop where
 st:c.st=1
 sc:c.sc=⟨0,1,0,[],[]⟩
 base:c.base=1
 sh:c.shut=false
theorem Op.start {x:Cn}(ok:x.Ok){now:Int}(a:aI now)(so:F6 x)(hs:Hs x)(h0:x.st≠0):Op True x (x.push now).1 (x.push now).2 now :=
 Op.of ⟨L9 _,Z,L9 _,L9 _,Z,fun _ h=>h,L9 _,Z,Z,.inr (.inl ⟨Z,Z,Z⟩),.same now Z Z Z Z Z Z Z Z Z⟩ a ok (fun _=>so) hs h0 (.inl Z) Z Z (fun _=>NJ) Z Z
theorem DI.start {s r:Cn}{q N:Int}(d:1<=q)(h1:r.tq=s.cf.kc)(hs:s.sc=⟨1,1,0,[],[]⟩)(hx:r.bx.nx=0)(he:r.ended=false)(a:∀i,¬r.bx.has i)(hl:s.limit=r.ann+1):DI s r [] [] q N:=by
 have e:s.fM=1/\s.next=1:=by unfold Cn.fM Cn.next;rw[hs];exact⟨Z,Z⟩
 have b:r.reached=false:=by unfold Cn.reached;rw[he];rfl
 have c:r.expected=0:=by unfold Cn.expected;rw[L5 (by rw[b];decide),hx]
 exact⟨h1,fun g h=>by(cases h),fun g h=>by(cases h),.nil,O,O,fun _=>by omega,fun o h2 f=>by omega,.inl O,fun _=>.inl hl,fun o h=>absurd h (a o),fun h=>by rw[he]at h;cases h⟩
def CF (x:Rw):Cn:=(gE 0 (ej x)).1
def uc (x:Rw):Cn:=(cZ 0 (eH x) (gG x)).1
def o7 (x:Rw):Sg:=(fP 0 (eH x) (gG x)).qI
theorem DE (x:Rw):((o7 x).has=true/\(o7 x).qa=false/\(o7 x).syn=true)/\((o7 x).fp=80/\(o7 x).tp=5000)/\(o7 x).ak=aw (aw (ck x.Dc) 0) (0+1)/\(o7 x).sq=aw (ck x.DZ) 0/\(o7 x).win=40+aO x.rp 400:=⟨⟨Z,Z,Z⟩,⟨Z,Z⟩,Z,Z,Z⟩
theorem ud (n:Nat)(i:Int):¬(nZ n).has i:=by
 rintro (h | h)
 ·have h1:0<=i/\i<0:=h;omega
 exact(a8 h).elim
theorem lI {i:Int}(h:0<=i/\i<=4294967295):aw i 0=i:=by unfold aw;omega
theorem Fit.off {p:Pr}{a b:Int}(d:Pr.Fit p a b)(g:p.now<1000000):Pr.Fit { p with now:=p.now+1,wire:=[] } a b:=by
 have h:=d.now;refine⟨d.a,d.b,Kp,fun f e=>IU,fun f e=>IU,d.log,?_,d.r⟩;have h1:p.Q<=a:=d.q;refine Lz ?_ h1;unfold Pr.Q;show(([]:List Fl).length:Int)+p.rem+p.a.c.xJ+p.b.c.xJ<=(p.wire.length:Int)+p.rem+p.a.c.xJ+p.b.c.xJ;have:(([]:List Fl).length:Int)=0:=Z;omega
theorem Ga.f2 {P:Pr.zc}{N:Bool->Int}{p:Pr}{n:Int}(g:Ga P N p n):Fb p N:=by
 refine⟨g.cl,fun j=> ?_,fun j=> ?_⟩
 ·have h1:=g.all j;unfold Sd.str;rw[Le];omega
 have h1:=g.all j;have h2:=(g.al.run.1.sd j).len;omega
theorem Ga.mono {P:Pr.zc}{N:Bool->Int}{p:Pr}{n m:Int}(g:Ga P N p n)(h:n<=m):Ga P N p m:=⟨g.al.mono h,g.cl,g.all⟩
theorem xA (now:Int)(n:Nat):∀(c:Cn) (l:List Sg),∃t,(kr now n c l).2=l++t:=by
 induction n with
 | zero=>intro c l;exact⟨[],(LM l).symm⟩
 | succ n a =>
  intro c l;unfold kr;split
  ·obtain⟨t,e⟩:=a (c.out now c.allowed) (l++[c.kl c.allowed]);exact⟨_,e.trans (LK _ _ _)⟩
  exact⟨[],(LM l).symm⟩
theorem xB {c:Cn}{now:Int}(hs:ae c.st=true)(hl:c.sc.lost c.gi=[])(j:c.pend=2)(b:c.shut=false):∃g t,(c.push now).2=g::t/\g.sq=aw c.cf.kc c.next:=by
 have h0:c.st≠0:=Km
 have d:∀n,n7 n c []=(c,[]):=fun n=>by
  cases n with
  | zero=>rfl
  | succ n=>unfold n7;rw[hl];split <;> rfl
 unfold Cn.push;rw[L5 h0];dsimp only;rw[L7 hs];unfold Cn.o6;dsimp only;rw[d];dsimp only;unfold kr;split
 ·obtain⟨t,e⟩:=xA now c.iq.toNat (c.out now c.allowed) ([]++[c.kl c.allowed])
  have k:∀a:Cn×List Sg,a.2=[]++[c.kl c.allowed]++t->∃f,((ug now a.1 a.2).1.qD (ug now a.1 a.2).2).2=c.kl c.allowed::f:=fun a l=>by
   have m:∃i,(ug now a.1 a.2).2=c.kl c.allowed::i:=by
    unfold ug;rw[l];split
    ·exact⟨_,Z⟩
    exact⟨_,Z⟩
   obtain⟨i,d⟩:=m;unfold Cn.qD;rw[d];split
   ·exact⟨_,Z⟩
   exact⟨_,Z⟩
  obtain⟨f,o⟩:=k _ e;exact⟨_,f,o,(jj c _ _).1⟩
 unfold ug;rw[L5 (fun g=>by rw[b]at g;cases g.1)];unfold Cn.qD;rw[L7 j];exact⟨_,[],Z,(gu c dH c.next).1⟩
theorem zk {p:Pr}{i:Bool}(h:(p.sd i).c.tick p.now=((p.sd i).c,[])):p.ki i=p:=by
 unfold Pr.ki;rw[h]
 cases i <;> rfl
theorem DI.held {c0:Cn}{y b:List UInt8}{s s':Bool}{T:Int}{r:Cn}{a A:List Sg}{q N:Int}:(DI (gA T { c0 with held:=y,shut:=s }) r a A q N->DI (gA T { c0 with held:=b,shut:=s' }) r a A q N)/\(DI r (gA T { c0 with held:=y,shut:=s }) a A q N->DI r (gA T { c0 with held:=b,shut:=s' }) a A q N) :=
 ⟨fun h=>⟨h.tq,h.seg,h.ack,h.Hg,h.fM,h.Ds,h.lim,h.safe,h.told,h.EX,h.Hh,h.Ez⟩,fun h=>⟨h.tq,h.seg,h.ack,h.Hg,h.fM,h.Ds,h.lim,h.safe,h.told,h.EX,h.Hh,h.Ez⟩⟩
def pz (w:Bool)(T:Int)(p:Pr):Pr:=p.ro w (gA T (p.sd w).c)
theorem O3 (P:Pr.zc)(w:Bool)(T:Int)(p:Pr)(i:Bool):Pr.kx P (pz w T p) i=Pr.kx P p i:=by cases w <;> cases i <;> rfl
theorem O0 (w:Bool)(T:Int)(p:Pr):(pz w T p).sd (!w)=p.sd (!w)/\((pz w T p).sd w).c=gA T (p.sd w).c/\(∀i,((pz w T p).sd i).str=(p.sd i).str/\((pz w T p).sd i).closed=(p.sd i).closed/\((pz w T p).sd i).got=(p.sd i).got/\((pz w T p).sd i).all=(p.sd i).all/\((pz w T p).sd i).fin=(p.sd i).fin):=by
 cases w <;> exact⟨Z,Z,fun i=>by cases i <;> exact⟨Z,Z,Z,Z,Z⟩⟩
theorem O1 (w:Bool)(T:Int)(p:Pr):(pz w T p).wire=p.wire/\(pz w T p).now=p.now/\(pz w T p).kq=p.kq/\(pz w T p).many=p.many/\(pz w T p).log=p.log:=by cases w <;> exact⟨Z,Z,Z,Z,Z⟩
theorem PV.vw {P:Pr.zc}{p:Pr}{w:Bool}(h:Pr.PV P p)(k:Wb (p.sd w).c)(T:Int):Pr.PV P (pz w T p):=by
 have l:=k.st
 have a:∀i,Ir (P.kc (!w)) (gA T (p.sd w).c)\/i≠w:=fun i=>by
  refine .inl ?_
  rcases(h.r w).2.1 with a | a | a
  ·omega
  ·omega
  exact .inr (.inr a)
 refine⟨fun i=> ?_,fun i=> ?_,fun f b=> ?_,by rw[(O1 w T p).2.2.2.2];exact h.g⟩
 ·rw[O3]
  rcases px (i:=w) (j:=i)with rfl | rfl
  ·rw[(O0 i T p).2.1];exact⟨zh (h.s i).1 k.base k.lim T,fun _=>L9 1⟩
  rw[(O0 w T p).1];exact h.s _
 ·rw[((O0 w T p).2.2 _).1,((O0 w T p).2.2 _).2.1,((O0 w T p).2.2 i).2.2.1,((O0 w T p).2.2 i).2.2.2.2]
  rcases px (i:=w) (j:=i)with rfl | rfl
  ·rw[(O0 i T p).2.1];obtain⟨d,n,m⟩:=h.r i;refine⟨⟨d.pi,d.en⟩,?_,m⟩
   rcases a i with e | e
   ·exact e
   exact absurd Z e
  rw[(O0 w T p).1];exact h.r _
 rw[(O1 w T p).1]at b;have:=h.w f b;rw[O3,O3];exact this
theorem Fit.vw {p:Pr}{a b:Int}(h:Pr.Fit p a b)(w:Bool)(T:Int):Pr.Fit (pz w T p) (pz w T p).Q (pz w T p).R:=by
 have k:=h.b;have m:=h.a
 cases w
 ·exact⟨⟨tf m.c T,m.len,m.s0,m.sl,m.last,by(have h1:p.a.c.last=1+p.a.sent:=m.last;have h2:=m.s0;show(1:Int)<=p.a.c.last+1;omega)⟩,h.b,h.now,h.wire,h.due,h.log,L9 _,L9 _⟩
 exact⟨h.a,⟨tf k.c T,k.len,k.s0,k.sl,k.last,by(have h1:p.b.c.last=1+p.b.sent:=k.last;have h2:=k.s0;show(1:Int)<=p.b.c.last+1;omega)⟩,h.now,h.wire,h.due,h.log,L9 _,L9 _⟩
theorem O2 (w:Bool)(T:Int)(i:Bool):∀(l:List Sg) (p:Pr),pz w T (p.put i l)=(pz w T p).put i l:=by
 intro l
 induction l with
 | nil=>intro p;rfl
 | cons s l a=>intro p;refine(a (p.tt i s)).trans ?_;cases w <;> rfl
theorem O4 (w:Bool)(T:Int)(p:Pr)(s:Sd):pz w T (p.kd (!w) s)=(pz w T p).kd (!w) s:=by cases w <;> rfl
theorem O5 (w:Bool)(T:Int)(p:Pr)(c:Cn):pz w T (p.ro (!w) c)=(pz w T p).ro (!w) c:=by cases w <;> rfl
theorem O6 (w:Bool)(T:Int)(p:Pr):(pz w T p).ki (!w)=pz w T (p.ki (!w)):=by
 unfold Pr.ki;rw[O2,O5,(O0 w T p).1,(O1 w T p).2.1]
theorem O7 {w:Bool}{f:Fl}(hf:f.dst= !w)(T:Int)(p:Pr):(pz w T p).ke f=pz w T (p.ke f):=by
 unfold Pr.ke;rw[hf,O2,O5,(O0 w T p).1,(O1 w T p).2.1]
theorem O8 (w:Bool)(T:Int)(p:Pr):(pz w T p).mR (!w)=pz w T (p.mR (!w)):=by
 have a:∀p:Pr,(pz w T p).send (!w) 1000=pz w T (p.send (!w) 1000):=fun p=>by
  unfold Pr.send;dsimp only;rw[(O0 w T p).1,(O1 w T p).2.1];split
  ·rfl
  split
  ·rfl
  rw[O2,O4]
 have b:∀p:Pr,(pz w T p).recv (!w) 1000=pz w T (p.recv (!w) 1000):=fun p=>by
  unfold Pr.recv;dsimp only;rw[(O0 w T p).1,(O1 w T p).2.1];split
  ·rw[O5]
  rw[O2,O4]
 have c:∀p:Pr,(pz w T p).shut (!w)=pz w T (p.shut (!w)):=fun p=>by
  unfold Pr.shut;dsimp only;rw[(O0 w T p).1,(O1 w T p).2.1];split
  ·rfl
  split
  ·rfl
  rw[O2,O4]
 unfold Pr.mR;dsimp only;rw[a,b,c,(O0 w T _).1];split <;> rfl
theorem O9 {w:Bool}{T:Int}{p:Pr}{f:Fl}(hd:f.dst=w)(e:(p.sd w).c.receive p.now f.s=(gA T (p.sd w).c).receive p.now f.s):(pz w T p).ke f=p.ke f:=by
 unfold Pr.ke;rw[hd,(O0 w T p).2.1,(O1 w T p).2.1,<-e]
 cases w <;> rfl
theorem Oa (p:Pr)(f:Fl):(p.ke f).now=p.now/\(p.ke f).sd (!f.dst)=p.sd (!f.dst):=by
 unfold Pr.ke;refine⟨((bs _ _ _).2.2.1).trans (by cases f.dst <;> rfl),?_⟩;rw[af]
 cases f.dst <;> rfl
theorem Ob {w:Bool}(T:Int):∀(S:List Fl) (p:Pr),(∀k∈S,k.dst= !w)->S.foldl Pr.ke (pz w T p)=pz w T (S.foldl Pr.ke p)/\(S.foldl Pr.ke p).now=p.now/\(S.foldl Pr.ke p).sd w=p.sd w:=by
 intro S
 induction S with
 | nil=>intro p _;exact⟨Z,Z,Z⟩
 | cons k S c =>
  intro p h;have a:=h k FE;obtain⟨d,e,f⟩:=c (p.ke k) (fun x g=>h x (by simp[g]));obtain⟨i,b⟩:=Oa p k;rw[a,LF]at b;rw[Nk,Nk,O7 a];exact⟨d,e.trans i,f.trans b⟩
theorem q1z {w:Bool}{T:Int}{p:Pr}{S W:List Fl}{f:Fl}(hS:∀k∈S,k.dst= !w/\k.held=false/\k.due<=p.now+1)(hw:∀k∈p.wire,k.held=false/\k.due<=p.now+1)(d:p.wire=f::W)(hd:f.dst=w)(e:(p.sd w).c.receive (p.now+1) f.s=(gA T (p.sd w).c).receive (p.now+1) f.s) :
  ({ (pz w T p)with wire:=S++p.wire }:Pr).tick=({ p with wire:=S++p.wire }:Pr).tick:=by
 have h1:∀k∈S++p.wire,k.held=false/\k.due<=p.now+1:=fun k a=>by
  rcases LE.1 a with a | a
  ·exact(hS k a).2
  exact hw k a
 obtain⟨g,o⟩:=(O1 w T p).2;obtain⟨d1,d2⟩:=eV (p:={ p with wire:=S++p.wire,now:=p.now+1 }) h1;obtain⟨d3,d4⟩:=eV (p:={ (pz w T p)with wire:=S++p.wire,now:=(pz w T p).now+1 }) (by rw[g];exact h1);obtain⟨q,b⟩:∃q:Pr,q={ p with wire:=[],now:=p.now+1 }:=⟨_,Z⟩
 have h:({ p with wire:=S++p.wire,now:=p.now+1 }:Pr).deliver=(S++p.wire).foldl Pr.ke q:=by
  unfold Pr.deliver;rw[d1,d2,b]
 have i:({ (pz w T p)with wire:=S++p.wire,now:=(pz w T p).now+1 }:Pr).deliver=(S++p.wire).foldl Pr.ke (pz w T q):=by
  unfold Pr.deliver;rw[d3,d4,b]
  cases w <;> rfl
 obtain⟨j,f2,f3⟩:=Ob (w:=w) T S q (fun k a=>(hS k a).1);have l:q.now=p.now+1:=by rw[b]
 have m:q.sd w=p.sd w:=by rw[b];cases w <;> rfl
 have n:(S++p.wire).foldl Pr.ke (pz w T q)=(S++p.wire).foldl Pr.ke q:=by
  rw[N2,N2,j,d,Nk,Nk,O9 hd (by rw[f2,f3,l,m];exact e)]
 unfold Pr.tick;show(({ (pz w T p)with wire:=S++p.wire,now:=(pz w T p).now+1 }:Pr).deliver.ki false).ki true=(({ p with wire:=S++p.wire,now:=p.now+1 }:Pr).deliver.ki false).ki true;rw[h,i,n]
theorem zl {w i:Bool}:w=i\/(!w)=i:=by cases i <;> cases w <;> simp
def Cb (x:Rw)(w:Bool):Cf:=match w with | false=>ej x | true=>eH x
structure AH (x:Rw)(w:Bool)(c:Cn):Prop where
 st:c.st=2
 sc:c.sc=⟨0,1,0,[],[]⟩
 base:c.base=1
 lim:c.limit=1+(cG x).r (!w)
 AC:c.largest=(cG x).r (!w)
 cf:c.cf=Cb x w
 ann:c.ann=(cG x).r w
 bx:c.bx=nZ ((cG x).r w).toNat
 en:c.ended=false
 ov:c.over=false
 tq:c.tq=(cG x).kc (!w)
 pend:c.pend=0
theorem zi (x:Rw)(i:Bool):40<=(cG x).r i/\(cG x).r i<=439:=by
 have a:=ah x.sw 400 D;have b:=ah x.rp 400 D
 cases i
 ·show 40<=40+aO x.sw 400/\40+aO x.sw 400<=439;omega
 show 40<=40+aO x.rp 400/\40+aO x.rp 400<=439;omega
theorem DG (x:Rw)(w:Bool):(Cb x w).kc=(cG x).kc w/\(Cb x w).fp=(Cb x (!w)).tp/\40<=(Cb x w).keep:=by
 have a:=ah x.keep 400 D
 cases w <;> exact⟨Z,Z,by show 40<=40+aO x.keep 400;omega⟩
theorem Wt.wx {x:Rw}{w:Bool}{a c:Cn}(h:Wt a c)(k:AH x w a):AH x w c:=by
 obtain⟨y,s,rfl⟩:=h.eq;exact⟨k.st,k.sc,k.base,k.lim,k.AC,k.cf,k.ann,k.bx,k.en,k.ov,k.tq,k.pend⟩
theorem AH.wb {x:Rw}{w:Bool}{c:Cn}(k:AH x w c):Wb c:=⟨k.st,k.sc,k.base,by rw[k.lim];have:=zi x (!w);omega⟩
theorem AH.sx {x:Rw}{w:Bool}{c:Cn}(k:AH x w c)(T:Int){now:Int}(b:0<=now):Sx (gA T c) ((cG x).r (!w)) now/\Hs (gA T c)/\3<=(gA T c).st:=by
 have e:=zi x (!w);have f:=k.base;have h:=k.pend;have i:=k.AC
 have st:(gA T c).st=3\/(gA T c).st=4:=by
  show(if c.shut=true then(4:Int)else 3)=3\/(if c.shut=true then(4:Int)else 3)=4;split <;> simp
 refine⟨⟨⟨fun g=>.inl ?_,fun g=>by omega,by show min 1 c.last<=c.base;omega⟩,by show c.pend≠2;omega,fun g=> ?_,fun g=> ?_,⟨L9 0,fun g=> ?_,b,fun g=>(by cases g)⟩,by show 40<=c.largest;omega,by show c.largest<=_;omega⟩,?_,O⟩
 ·have g:c.shut=false:=g;show(if c.shut=true then(4:Int)else 3)=3;rw[g];rfl
 ·have g:c.pend=1:=g;omega
 ·have g:(0:Int)<1-1:=g;omega
 ·have g:(0:Int)<0:=g;omega
 have d:=k.en;have a:=k.ov
 exact⟨fun g=>(by have g:c.over=true:=g;rw[a]at g;cases g),fun g=>(by
  have g:(gA T c).reached=true:=g;unfold Cn.reached at g;have g:(c.ended&&_)=true:=g;rw[d]at g
  cases g),fun g=>by omega,fun g=>(by have g:c.over=true:=g;rw[a]at g;cases g)⟩
structure Hx (x:Rw)(N:Bool->Int)(w:Bool)(w0:Cn)(T:Int)(p:Pr):Prop where
 tn:Tn (cG x) (pz w (T+1) p) (fun _=>1) N
 b:Wt w0 (p.sd w).c
 now:p.now=T
 got:(p.sd w).got=[]
 fin:(p.sd w).fin=false
 cs:(p.sd w).closed=true->(p.sd w).c.shut=true
 hd:∃f W,p.wire=f::W/\f.dst=w/\f.s.sq=aw ((cG x).kc (!w)) 1
theorem Hx.NZ {x:Rw}{N:Bool->Int}{w:Bool}{a:Cn}{T:Int}{p:Pr}(h:Hx x N w a T p)(d:AH x w a):Rd (cG x) (pz w (T+1) p) w:=by
 have kw:=h.b.wx d;have e:=zi x w;refine .inr ?_;rw[((O0 w _ p).2.2 w).2.2.1,(O0 w _ p).2.1,h.got];refine⟨?_,?_⟩
 ·show((0:Nat):Int)=(p.sd w).c.bx.nx;rw[kw.bx];rfl
 show((0:Nat):Int)+(cG x).r w<(p.sd w).c.ann+max 1 ((cG x).r w/2);rw[kw.ann];omega
theorem Hx.wait {x:Rw}{N:Bool->Int}{w:Bool}{F:Cn}{T:Int}{p:Pr}{n:Int}(h:Hx x N w F T p)(M:AH x w F)(hT:0<=T)(g:Ga (cG x) N p n):Hx x N w F T (p.mR w)/\(p.mR w).sd (!w)=p.sd (!w):=by
 have k2:=M.st;obtain⟨s,e,ws,P,W,-,S⟩:=Wt.mR (p:=p) (i:=w) h.b h.got h.fin (fun q=>by have:=h.b.f.1;omega) h.cs;have z:=g.mR w;rw[e]at z|-;obtain⟨a,l⟩:∃a,a=p.kd w s:=⟨_,Z⟩;rw[<-l]at z|-;have G:a.sd (!w)=p.sd (!w):=by rw[l];cases w <;> rfl
 have t:a.sd w=s:=by rw[l];cases w <;> rfl
 have X:a.wire=p.wire/\a.now=p.now/\a.kq=p.kq/\a.many=p.many:=by rw[l];cases w <;> exact⟨Z,Z,Z,Z⟩
 obtain⟨U,V,bk,sm⟩:=X;obtain⟨y1,z1,I⟩:=h.b.eq;obtain⟨y2,z2,an⟩:=ws.eq;obtain⟨A,B,C⟩:=h.tn.cl;have kw:=ws.wx M;have m:(pz w (T+1) a).sd (!w)=p.sd (!w):=((O0 w _ a).1).trans G;have d:(pz w (T+1) p).sd (!w)=p.sd (!w):=(O0 w _ p).1;have u:((pz w (T+1) p).sd w).c=gA (T+1) (p.sd w).c:=(O0 w _ p).2.1;have o:((pz w (T+1) a).sd w).c=gA (T+1) s.c:=by rw[(O0 w _ a).2.1,t]
 have J:(pz w (T+1) a).wire=(pz w (T+1) p).wire:=by rw[(O1 w _ a).1,(O1 w _ p).1,U]
 have K:(pz w (T+1) a).now=a.now:=(O1 w _ a).2.1;have L:(pz w (T+1) p).now=a.now:=by rw[(O1 w _ p).2.1,V]
 have a6:=h.now;obtain⟨sx,hs,bn⟩:=kw.sx (T+1) (now:=a.now) O;have f2:=z.f2;have wb:Wb (a.sd w).c:=by rw[t];exact kw.wb
 have E:∀i,((pz w (T+1) a).sd i).c.cf=((pz w (T+1) p).sd i).c.cf:=fun i=>by
  rcases zl (w:=w) (i:=i)with rfl | rfl
  ·rw[u,o,I,an];rfl
  rw[m,d]
 have hr:=zi x w
 have cl:Cl (cG x) (pz w (T+1) a) [] (fun _=>1) N (pz w (T+1) a).Q (pz w (T+1) a).R:=by
  refine⟨PV.vw z.al.pv wb (T+1),Fit.vw z.al.run.1 w (T+1),fun i=> ?_,⟨fun j q=> ?_,fun j=> ?_,f2.sm⟩,?_,fun i=> ?_,fun i=> ?_,fun f y=> ?_,fun i=> ?_,fun f y=>(by cases y)⟩
  ·have k:=C.dp i;rw[J]
   rcases zl (w:=w) (i:=i)with rfl | rfl
   ·rw[o,m,an];rw[u,d,I]at k;exact DI.held.1 k
   rw[LF]at k|-;rw[o,m,an];rw[u,d,I]at k;exact DI.held.2 k
  ·rw[((O0 w _ a).2.2 j).1];rw[((O0 w _ a).2.2 j).2.1]at q;exact f2.cl j q
  ·rw[((O0 w _ a).2.2 j).1];exact f2.le j
  ·have k:=C.calm;rw[(O1 w _ p).2.2.1,(O1 w _ p).2.2.2.1]at k;rw[(O1 w _ a).2.2.1,(O1 w _ a).2.2.2.1,bk,sm];exact k
  ·rcases zl (w:=w) (i:=i)with rfl | rfl
   ·rw[o];exact bn
   rw[m,<-d];exact C.st _
  ·rcases zl (w:=w) (i:=i)with rfl | rfl
   ·rw[o];exact hs
   rw[m,<-d];exact C.hs _
  ·rw[J]at y;have k:=C.pl f y;unfold rW at k|-;rw[E];exact k
  rw[E,E];exact C.prt i
 refine⟨⟨⟨⟨_,_,cl⟩,fun i=> ?_,fun i=> ?_,fun f y=> ?_,fun i=> ?_,fun i=>⟨(h.tn.par i).1,by rw[E];exact(h.tn.par i).2⟩,fun i=>by rw[((O0 w _ a).2.2 i).2.2.2.1];exact z.all i,fun i q=> ?_⟩,by rw[t];exact ws,V.trans h.now,by rw[t];exact P,by rw[t];exact W,by rw[t];exact S,by rw[U];exact h.hd⟩,G⟩
 ·rw[K]
  rcases zl (w:=w) (i:=i)with rfl | rfl
  ·rw[o];exact sx
  have k:=h.tn.sx (!w);rw[L]at k;rw[m,<-d];exact k
 ·rw[K]
  rcases zl (w:=w) (i:=i)with rfl | rfl
  ·rw[o];exact fun q=>by cases q
  have k:=h.tn.nd (!w);rw[L]at k;rw[m,<-d];exact k
 ·rw[J]at y;have k:=h.tn.w f y;rw[L]at k;rw[K];exact k
 ·rcases zl (w:=w) (i:=i)with rfl | rfl
  ·refine .inr fun _=> ?_;rw[((O0 w _ a).2.2 w).2.2.1,t,P,o];show((0:Nat):Int)+(cG x).r w<s.c.ann+max 1 ((cG x).r w/2);rw[kw.ann];omega
  have k:=h.tn.rw (!w);unfold BH at k|-;rw[m,<-d];exact k
 rw[((O0 w _ a).2.2 i).2.1]at q
 rcases zl (w:=w) (i:=i)with rfl | rfl
 ·rw[t]at q;rw[o];exact S q
 rw[G,<-d]at q;rw[m,<-d];exact h.tn.cs _ q
theorem Hx.opn {x:Rw}{N:Bool->Int}{w:Bool}{c:Cn}{T:Int}{p:Pr}(h:Hx x N w c T p):Hx x N w c T (p.mR (!w))/\Rd (cG x) (pz w (T+1) (p.mR (!w))) (!w)/\(p.mR (!w)).sd w=p.sd w:=by
 obtain⟨d,a,d1⟩:=h.tn.mR (!w);rw[O8]at d a d1;have e:=nR p (!w);rw[LF]at e;obtain⟨f,W,hw,j,k⟩:=h.hd;obtain⟨l,g⟩:=a.ww;rw[(O1 w _ _).1,(O1 w _ p).1,hw]at g;have i:=a.now;rw[(O1 w _ _).2.1,(O1 w _ p).2.1]at i;exact⟨⟨d,by rw[e];exact h.b,i.trans h.now,by rw[e];exact h.got,by rw[e];exact h.fin,by rw[e];exact h.cs,f,W++l,g,j,k⟩,d1.rd,e⟩
theorem Rd.sd {P:Pr.zc}{p p':Pr}{i:Bool}(h:Rd P p i)(e:p'.sd i=p.sd i):Rd P p' i:=by
 unfold Rd at h|-;rw[e];exact h
theorem Hx.turn {x:Rw}{N:Bool->Int}{w:Bool}{a:Cn}{T:Int}{p:Pr}{n:Int}(h:Hx x N w a T p)(b:AH x w a)(c:0<=T)(g:Ga (cG x) N p n):Hx x N w a T p.zx.1/\∀i,Rd (cG x) (pz w (T+1) p.zx.1) i:=by
 cases w
 ·obtain⟨h1,j⟩:=h.wait b c g;obtain⟨h2,d,-⟩:=h1.opn
  exact⟨h2,fun i=>by
   cases i
   ·exact h2.NZ b
   exact d⟩
 obtain⟨h1,e,-⟩:=h.opn;have h1:Hx x N true a T (p.mR false):=h1;obtain⟨h2,f⟩:=h1.wait b c (g.mR false);refine⟨h2,fun i=> ?_⟩
 cases i
 ·refine Rd.sd e ?_;show(pz true (T+1) ((p.mR false).mR true)).sd false=(pz true (T+1) (p.mR false)).sd false;exact f
 exact h2.NZ b
theorem Hx.pt {x:Rw}{N:Bool->Int}{w:Bool}{d:Cn}{T:Int}{p:Pr}(h:Hx x N w d T p)(f:AH x w d):(Cb x w).fp=((pz w (T+1) p).sd (!w)).c.cf.tp/\(Cb x w).tp=((pz w (T+1) p).sd (!w)).c.cf.fp:=by
 obtain⟨A,B,c⟩:=h.tn.cl;have kw:=h.b.wx f;have e:((pz w (T+1) p).sd w).c.cf=Cb x w:=by rw[(O0 w _ p).2.1];exact kw.cf
 have p1:=c.prt w;have a:=c.prt (!w);rw[LF]at a;rw[e]at p1 a;exact⟨p1,a.symm⟩
theorem Hx.first {x:Rw}{N:Bool->Int}{w:Bool}{g:Cn}{T:Int}{p:Pr}{f:Fl}{W:List Fl}(h:Hx x N w g T p)(l:AH x w g)(i:p.wire=f::W)(e:f.dst=w)(m:f.s.sq=aw ((cG x).kc (!w)) 1):(p.sd w).c.receive (p.now+1) f.s=(gA (T+1) (p.sd w).c).receive (p.now+1) f.s:=by
 have kw:=h.b.wx l;obtain⟨A,B,j⟩:=h.tn.cl;have y:=zi x w;have hi:=eK x (!w);have n:f∈[]++(pz w (T+1) p).wire:=by rw[(O1 w _ p).1,i];simp
 have k:=j.pl f n;have d:=j.dp w;rw[e,(O0 w _ p).2.1]at k;rw[(O0 w _ p).2.1,(O1 w _ p).1,i,LD,<-e,(kQ f _).1,e]at d;obtain⟨-,⟨o,q,r⟩,t,u⟩:=k;rw[show p.now+1=T+1 by rw[h.now]];refine rj kw.st kw.sc kw.base ⟨o,q,r⟩ ⟨t,u⟩ ?_ ?_
 ·have a:=d.ack f.s M4;have b:=d.Ds;have z:(gA (T+1) (p.sd w).c).fM=1:=Z;have C:(gA (T+1) (p.sd w).c).next=1:=Z;have E:=a.1;have F:=a.2.1;have G:iL (gA (T+1) (p.sd w).c).cf.kc f.s=aE f.s.ak (p.sd w).c.cf.kc:=Z;omega
 have off:(p.sd w).c.offset f.s.sq=0:=by
  unfold Cn.offset;rw[kw.tq,m];unfold aE aw;omega
 have nx:(p.sd w).c.bx.nx=0:=by rw[kw.bx];rfl
 have ex:(p.sd w).c.expected=0:=by unfold Cn.expected Cn.reached;rw[kw.en,nx];rfl
 have I:0<=aj f.s:=by unfold aj;split <;> split <;> omega
 rw[off];unfold Cn.accepts;rw[ex,nx,kw.ann];split
 ·rfl
 rw[L5 O,L5 O];exact Lc O
theorem Hx.tick {x:Rw}{N:Bool->Int}{w:Bool}{d:Cn}{T:Int}{p:Pr}(h:Hx x N w d T p)(l:AH x w d)(s:T<=9)(rd:∀i,Rd (cG x) (pz w (T+1) p) i):E2 (cG x) N p.tick\/(Tn (cG x) p.tick (fun _=>1) N/\(∀i,tQ (p.tick.sd i).c)/\∀i,(p.tick.sd i).c.cf=((pz w (T+1) p).sd i).c.cf):=by
 obtain⟨f,W,e,g,m⟩:=h.hd;have t:=h.now
 have hw:∀k∈p.wire,k.held=false/\k.due<=p.now+1:=fun k b=>by
  have:=h.tn.w k (by rw[(O1 w _ p).1];exact b);rw[(O1 w _ p).2.1]at this;exact this
 have j:=q1z (T:=T+1) (S:=[]) (fun k b=>by cases b) hw e g (h.first l e g m);have n:({ (pz w (T+1) p)with wire:=[]++p.wire }:Pr)=pz w (T+1) p:=by cases w <;> rfl
 rw[n]at j;have a:=h.tn.tick (eK x) rd (by rw[(O1 w _ p).2.1];omega);rw[j]at a
 rcases a with k | ⟨o,q,r,-⟩
 ·exact .inl k
 exact .inr ⟨o,q,fun i=>(r.mn i).cf⟩
structure Hw (c0:Bool->Cn)(W:List Fl)(T:Int)(p:Pr):Prop where
 b:∀i,Wt (c0 i) (p.sd i).c
 wire:p.wire=W
 now:p.now=T
 calm:p.kq.length<=p.many
 got:∀i,(p.sd i).got=[]
 fin:∀i,(p.sd i).fin=false
 sh:∀i,(p.sd i).c.st=1->(p.sd i).c.shut=false
 cs:∀i,(p.sd i).closed=true->(p.sd i).c.shut=true
theorem DF (p:Pr)(i:Bool)(s:Sd):(p.kd i s).sd i=s/\(p.kd i s).sd (!i)=p.sd (!i)/\(p.kd i s).wire=p.wire/\(p.kd i s).now=p.now/\(p.kd i s).kq=p.kq/\(p.kd i s).many=p.many:=by cases i <;> exact⟨Z,Z,Z,Z,Z,Z⟩
theorem CG (x:Rw):AH x true (uc x):=by
 have h:=zi x false;have a:0<=ck x.Dc/\ck x.Dc<=4294967295:=by unfold ck;omega
 exact⟨Z,Z,Z,(show max (0:Int) (1+(cG x).r false)=1+(cG x).r false from O),(show max (0:Int) ((cG x).r false)=(cG x).r false from O),Z,Z,Z,Z,Z,lI a,Z⟩
theorem Hw.mR {c0:Bool->Cn}{W:List Fl}{T:Int}{p:Pr}(h:Hw c0 W T p)(i:Bool):Hw c0 W T (p.mR i):=by
 obtain⟨s,e,w,g,f,hs,k⟩:=(h.b i).mR (h.got i) (h.fin i) (h.sh i) (h.cs i);obtain⟨l,m,n,o,q,r⟩:=DF p i s;rw[e]
 have d:∀{Q:Sd->Bool->Prop},Q s i->(∀j,Q (p.sd j) j)->∀j,Q ((p.kd i s).sd j) j:=fun a b j=>by
  rcases zl (w:=i) (i:=j)with rfl | rfl
  ·rw[l];exact a
  rw[m];exact b _
 exact⟨d (Q:=fun s j=>Wt (c0 j) s.c) w h.b,n.trans h.wire,o.trans h.now,by rw[q,r];exact h.calm,d (Q:=fun s _=>s.got=[]) g h.got,d (Q:=fun s _=>s.fin=false) f h.fin,d (Q:=fun s _=>s.c.st=1->s.c.shut=false) hs h.sh,d (Q:=fun s _=>s.closed=true->s.c.shut=true) k h.cs⟩
theorem Hw.ki {c0:Bool->Cn}{W:List Fl}{T:Int}{p:Pr}(h:Hw c0 W T p)(a:T<12)(i:Bool):p.ki i=p:=zk ((h.b i).tick (by have:=h.now;omega))
abbrev Vp (T : Int) (p : Pr) : Pr := pz true T p
theorem ce (T:Int)(p:Pr):(Vp T p).sd false=p.sd false/\((Vp T p).sd true).c=gA T (p.sd true).c/\(∀i,((Vp T p).sd i).str=(p.sd i).str/\((Vp T p).sd i).closed=(p.sd i).closed/\((Vp T p).sd i).got=(p.sd i).got/\((Vp T p).sd i).all=(p.sd i).all/\((Vp T p).sd i).fin=(p.sd i).fin):=O0 true T p
theorem zj (T:Int)(p:Pr):(Vp T p).ki false=Vp T (p.ki false):=O6 true T p
theorem Hw.f {x:Rw}{c0:Bool->Cn}{W:List Fl}{T:Int}{p:Pr}(h:Hw c0 W T p)(hA:c0 false=CF x)(a:c0 true=uc x):(∃y,(p.sd false).c={ CF x with held:=y })/\(∃y s,(p.sd true).c={ uc x with held:=y,shut:=s }):=by
 obtain⟨y,s,e⟩:=(h.b false).eq;rw[hA]at e;refine⟨⟨y,?_⟩,by rw[<-a];exact(h.b true).eq⟩;have h1:=h.sh false (by rw[e];rfl);rw[e]at h1|-;have h1:s=false:=h1;rw[h1];rfl
theorem Hw.start {x:Rw}{N:Bool->Int}{p:Pr}{n:Int}{W:List Fl}{c0:Bool->Cn}{T:Int}(U:Int)(h:Hw c0 W T p)(hA:c0 false=CF x)(J:c0 true=uc x)(g:Ga (cG x) N p n)(K:p.now<1000000) :
  ∃a b,Cl (cG x) (Vp (U+1) (({ p with now:=p.now+1,wire:=[] }:Pr).ro false (met (p.sd false).c (p.now+1) (o7 x)))) [] (fun _=>1) N a b:=by
 obtain⟨⟨y,l⟩,⟨z,s,m⟩⟩:=h.f hA J;have pv:=g.al.pv;have o:=Fit.off g.al.run.1 K;have pA:=ah x.sw 400 (by decide);have pB:=ah x.rp 400 (by decide);have L:0<=ck x.Dc/\ck x.Dc<=4294967295:=by unfold ck;omega
 have F:0<=ck x.DZ/\ck x.DZ<=4294967295:=by unfold ck;omega
 have hs:=(kN x).Dx;have f2:=g.f2;obtain⟨q,d⟩:∃q:Pr,q=({ p with now:=p.now+1,wire:=[] }:Pr).ro false (met (p.sd false).c (p.now+1) (o7 x)):=⟨_,Z⟩;have M:(q.sd false).c=met (p.sd false).c (p.now+1) (o7 x):=by rw[d];rfl
 have G:q.sd true=p.sd true:=by rw[d];rfl
 have hw:Wb (q.sd true).c:=by rw[G,m];exact⟨Z,Z,Z,by show(1:Int)<=max 0 (1+(40+aO x.sw 400));omega⟩
 have P:Pr.PV (cG x) q:=by
  rw[d];refine⟨fun i=> ?_,fun i=> ?_,fun f t=>(by cases t),pv.g⟩
  ·cases i
   ·have k:=(pv.s false).1;have he:=Pr.FW (cG x) false p.log;have he:40+aO x.rp 400<=Pr.zz (cG x) false p.log:=he;refine⟨CE k (by rw[l];rfl) _ ?_ ?_,fun _=>L9 1⟩
    ·rw[l];show(1:Int)<=max 0 (1+(40+aO x.rp 400));omega
    rw[l];show max (0:Int) (1+(40+aO x.rp 400))<=1+Pr.zz (cG x) false p.log;omega
   exact pv.s true
  cases i
  ·obtain⟨I,r2,S⟩:=pv.r false;exact⟨⟨I.pi,I.en⟩,.inr (.inr (show aw (ck x.DZ) 0=ck x.DZ from lI F)),S⟩
  exact pv.r true
 have V:Pr.Fit q q.Q q.R:=by
  rw[d];have k:=o.a;exact⟨⟨CD k.c hs Z,k.len,k.s0,k.sl,k.last,by(have h1:p.a.c.last=1+p.a.sent:=k.last;have h2:0<=p.a.sent:=k.s0;show(1:Int)<=p.a.c.last+1;omega)⟩,o.b,o.now,o.wire,o.due,o.log,L9 _,L9 _⟩
 have A:=PV.vw (w:=true) P hw (U+1);have X:=Fit.vw V true (U+1);have v1:((Vp (U+1) q).sd false).c=met (p.sd false).c (p.now+1) (o7 x):=M;have u:((Vp (U+1) q).sd true).c=gA (U+1) (p.sd true).c:=by rw[(ce (U+1) q).2.1,G]
 have B:Hs (met (p.sd false).c (p.now+1) (o7 x)):=by
  rw[l];exact⟨fun e=>(by cases e),fun e=>(by cases e),fun e=>absurd e (by show ¬(6:Int)<=3;decide),fun e=>(by cases e)⟩
 have C:Hs (gA (U+1) (p.sd true).c):=by
  rw[m];refine⟨fun e=>(by cases e),fun e=>(by cases e),fun e=> ?_,fun e=>(by cases e)⟩;have e:6<=(if s=true then(4:Int)else 3):=e;split at e <;> omega
 rw[<-d];refine⟨_,_,⟨A,X,fun i=> ?_,⟨?_,?_,f2.sm⟩,?_,fun i=> ?_,fun i=> ?_,fun f t=> ?_,fun i=> ?_,fun f t=>(by cases t)⟩⟩
 ·have E:(Vp (U+1) q).wire=[]:=by rw[d];rfl
  rw[E]
  cases i
  ·show DI ((Vp (U+1) q).sd false).c ((Vp (U+1) q).sd true).c [] [] 1 (N false);rw[v1,u,l,m];exact DI.start (L9 1) (lI L) Z Z Z (ud _) (by show max (0:Int) (1+(40+aO x.rp 400))=40+aO x.rp 400+1;omega)
  show DI ((Vp (U+1) q).sd true).c ((Vp (U+1) q).sd false).c [] [] 1 (N true);rw[v1,u,l,m];exact DI.start (L9 1) (lI F) Z Z Z (ud _) (by show max (0:Int) (1+(40+aO x.sw 400))=40+aO x.sw 400+1;omega)
 ·intro j e;rw[((ce (U+1) q).2.2 j).1];rw[((ce (U+1) q).2.2 j).2.1]at e;have k:=f2.cl j;rw[d]at e|-
  cases j <;> exact k e
 ·intro j;rw[((ce (U+1) q).2.2 j).1];have k:=f2.le j;rw[d]
  cases j <;> exact k
 ·rw[d];exact h.calm
 ·cases i
  ·rw[v1];show(3:Int)<=3;omega
  rw[u];show(3:Int)<=(if(p.sd true).c.shut=true then 4 else 3);split <;> omega
 ·cases i
  ·rw[v1];exact B
  rw[u];exact C
 ·have E:(Vp (U+1) q).wire=[]:=by rw[d];rfl
  rw[E]at t
  cases t
 cases i
 ·rw[show((Vp (U+1) q).sd false).c.cf.fp=((p.sd false).c).cf.fp from by rw[v1];rfl,show((Vp (U+1) q).sd (!false)).c.cf.tp=((p.sd true).c).cf.tp from by(show((Vp (U+1) q).sd true).c.cf.tp=_;rw[u];rfl),l,m];rfl
 rw[show((Vp (U+1) q).sd true).c.cf.fp=((p.sd true).c).cf.fp from by rw[u];rfl,show((Vp (U+1) q).sd (!true)).c.cf.tp=((p.sd false).c).cf.tp from by(show((Vp (U+1) q).sd false).c.cf.tp=_;rw[v1];rfl),l,m];rfl
theorem Hw.opened {x:Rw}{N:Bool->Int}{p:Pr}{n:Int}{c0:Bool->Cn}{T U:Int}(hU:U=T+1)(hT:0<=T/\T<=8)(h:Hw c0 [⟨false,U,false,o7 x⟩] T p)(hA:c0 false=CF x)(hB:c0 true=uc x)(g:Ga (cG x) N p n):Hx x N true (uc x) U p.tick:=by
 obtain⟨⟨y,L⟩,⟨z,s,eb⟩⟩:=h.f hA hB;have pv:=g.al.pv;have ft:=Fit.off g.al.run.1 (by rw[h.now];omega);have pA:=ah x.sw 400 D;have pB:=ah x.rp 400 D;have oA:0<=ck x.Dc/\ck x.Dc<=4294967295:=by unfold ck;omega
 have a6:=h.now;obtain⟨A,B,cV⟩:=h.start U hA hB g (by rw[h.now];omega);obtain⟨q,C⟩:∃q:Pr,q={ p with now:=p.now+1,wire:=[] }:=⟨_,Z⟩;rw[<-C]at cV ft;have qs:q.sd=p.sd:=by rw[C];rfl
 have M:q.now=U:=by rw[C];show p.now+1=U;omega
 obtain⟨f,t⟩:∃f:Fl,f=⟨false,U,false,o7 x⟩:=⟨_,Z⟩;have S:f∈p.wire:=by rw[h.wire,t];simp
 have aF:f.dst=false:=by rw[t]
 have b8:f.s=o7 x:=by rw[t]
 -- deliver
 have ed:({ p with now:=p.now+1 }:Pr).deliver=q.ke f:=by
  obtain⟨d1,d2⟩:=eV (p:={ p with now:=p.now+1 }) (fun k hk=>by
   have hk:k∈p.wire:=hk;rw[h.wire]at hk;rw[Lu.1 hk];exact⟨Z,by show U<=p.now+1;omega⟩)
  unfold Pr.deliver;rw[d1,d2];show p.wire.foldl Pr.ke { p with now:=p.now+1,wire:=[] }=_;rw[h.wire,<-t,C];rfl
 obtain⟨a0,bv,bz,cY,c3⟩:=DE x
 have b9:(p.sd false).c.receive q.now (o7 x)=(met (p.sd false).c q.now (o7 x)).push q.now:=by
  refine wy (by rw[L];rfl) (by rw[L];rfl) a0 ?_ ?_
  ·rw[L];exact bv
  rw[L,bz];show aE (aw (aw (ck x.Dc) 0) (0+1)) (ck x.Dc)=1;unfold aE aw;omega
 obtain⟨V,G⟩:=mA q f;rw[aF,b8,qs,b9]at V;rw[aF,qs]at G;have G:(q.ke f).sd true=p.sd true:=G;obtain⟨⟨-,-,E⟩,w2,w3⟩:=kR (p:=q) f.dst ((q.sd f.dst).c.receive q.now f.s).1 ((q.sd f.dst).c.receive q.now f.s).2 (by rw[C];exact h.calm);have E:(q.ke f).wire=q.wire++((q.sd f.dst).c.receive q.now f.s).2.map (q.fl f.dst):=E;have w2:(q.ke f).now=q.now:=w2;have w3:(q.ke f).kq.length<=(q.ke f).many:=w3;rw[aF,b8,qs,b9]at E;have qw:q.wire=[]:=by rw[C]
 rw[qw,LD]at E;obtain⟨m,hm⟩:∃m,m=met (p.sd false).c q.now (o7 x):=⟨_,Z⟩;have cC:p.now+1=q.now:=by rw[M];omega
 rw[cC,<-hm]at cV;rw[<-hm]at V E;have vm:((Vp (U+1) (q.ro false m)).sd false).c=m:=Z;have P:=(cV.ns false).1;rw[vm]at P;have a5:m.st=3:=by rw[hm];rfl
 have op:=Op.start P.hv.ok P.now (P.hv.so P.fM) P.hv.hs O;have vn:(Vp (U+1) (q.ro false m)).now=q.now:=Z;rw[vn]at op;have pq:Pr.PV (cG x) q:=by rw[C];exact⟨pv.s,pv.r,fun f t=>(by cases t),pv.g⟩
 obtain⟨I,bI⟩:=pv.w f S;have I:GS (Pr.kx (cG x) q (!f.dst)) f.s:=by rw[C];exact I
 have bI:fj (Pr.kx (cG x) q f.dst) f.s:=by rw[C];exact bI
 have ba:=g.al.run.1.wire f S;have cF:=Pr.PV.ke pq ft (eK x) ba Z Z Z I (Gw.refl _) bI;have cL:=Pr.Ce ft ba;have a1:Wb ((q.ke f).sd true).c:=by rw[G,eb];exact⟨Z,Z,Z,Kr⟩
 have f2:=g.f2
 have cM:Fb (Vp (U+1) (q.ke f)) N:=by
  refine⟨fun j e=> ?_,fun j=> ?_,f2.sm⟩
  ·rw[((ce (U+1) _).2.2 j).1];rw[((ce (U+1) _).2.2 j).2.1]at e;rw[(Pr.tC q f j).2,qs]at e;rw[(Pr.tC q f j).1,qs];exact f2.cl j e
  rw[((ce (U+1) _).2.2 j).1,(Pr.tC q f j).1,qs];exact f2.le j
 have c1:=cV.op (p':=Vp (U+1) (q.ke f)) false (d:=(m.push q.now).1) (l:=(m.push q.now).2) op V (by
   show { (q.ke f).sd true with c:=gA (U+1) ((q.ke f).sd true).c }=_;rw[G,<-qs];rfl) (by show(q.ke f).wire=q.wire++(m.push q.now).2.map (q.fl false);rw[E,qw];rfl) w3 (PV.vw (w:=true) cF a1 (U+1)) (Fit.vw cL true (U+1)) cM (fun e=>by rw[(bA m q.now).ended]at e;exact e) (dr m q.now) (by rw[dA,a5];decide)
 obtain⟨o,W⟩:∃o,o=q.ke f:=⟨_,Z⟩;rw[<-W]at c1 V G E w2 w3 ed;have v1:((Vp (U+1) o).sd false).c=(m.push q.now).1:=V;have X:(Vp (U+1) o).now=q.now:=w2;have fm:m.shut=false/\m.base=1/\m.fM=1/\m.largest=max 0 (40+aO x.rp 400)/\m.limit=max 0 (1+(40+aO x.rp 400))/\m.dl=eG/\m.tries=0/\m.pend=2/\m.ann=40+aO x.sw 400/\m.sc=⟨1,1,0,[],[]⟩/\m.cf=ej x:=by rw[hm,L];exact⟨Z,Z,Z,Z,Z,Z,Z,Z,Z,Z,Z⟩
 obtain⟨m1,m2,m3,m4,m5,m6,m7,m8,m9,b0,bb⟩:=fm;have u:Op True m ((Vp (U+1) o).sd false).c (m.push q.now).2 q.now:=by rw[v1];exact op
 have cS:NI m q.now:=by
  refine⟨O,fun e=>by omega,?_,fun e=>by rw[m6]at e;cases e⟩;rw[m7,M];show(0:Int)<=U;omega
 have b5:Sx ((Vp (U+1) o).sd false).c ((cG x).r true) q.now:=by
  refine⟨u.xv.ex.ci ⟨fun _=>.inl a5,fun e=>by omega,O⟩,u.rv.p2,fun e=> ?_,u.xv.set (fun e=> ?_),u.xv.ex.ni cS,?_,?_⟩
  ·rcases u.rv.k with⟨-,-,⟨e1,-,-⟩ | ⟨-,e1,-⟩⟩ | ⟨-,e1,-⟩ <;> omega
  ·have a2:m.flight=m.next-m.fM:=Z;have b3:m.next=1:=by unfold Cn.next;rw[b0]
   omega
  ·have:=u.xv.ex.AC;omega
  rw[u.AC,m4];show max (0:Int) (40+aO x.rp 400)<=40+aO x.rp 400;omega
 have cT:((Vp (U+1) o).sd false).c.st=3:=by rw[v1,dA,a5]
 have a3:=b5.tries (by rw[M];omega)
 rcases c1.ki false a3 (fun e1 _=>by
   have a2:((Vp (U+1) o).sd false).c.flight=((Vp (U+1) o).sd false).c.next-((Vp (U+1) o).sd false).c.fM:=Z;have h1:=u.fM;have h2:=u.lim;omega)with⟨k,-⟩ | ⟨c2,op2,e2,J,e4⟩
 ·omega
 have g2:G1 _ (Vp (U+1) o) ((Vp (U+1) o).ki false) false _:=⟨op2.sv,op2.rv,op2.xv,e2,J,e4⟩;have a9:Sx ((Vp (U+1) o).sd false).c ((cG x).r true) (Vp (U+1) o).now:=by rw[X];exact b5
 have ac:=a9.step op2.rv op2.xv (by rw[op2.AC];exact b5.lR);have ad:=op2.xv.ex.nd (fun hd=>a9.ni.nd hd);have aa:=oY (Vp (U+1) o) false;rw[zj]at c2 e2 J e4 g2 ac ad aa;have b6:(((Vp (U+1) (o.ki false))).sd true)=(Vp (U+1) o).sd true:=e2;obtain⟨a,K⟩:∃a,a=o.ki false:=⟨_,Z⟩;rw[<-K]at c2 e2 J e4 g2 ac ad aa b6;have n2:a.now=q.now:=e4.trans X;have F:a.sd true=p.sd true:=by rw[K];exact(kU o false).2.trans G
 have wb:Wt (uc x) (a.sd true).c:=by rw[F,<-hB];exact h.b true
 have et:p.tick=a:=by
  unfold Pr.tick;rw[ed,<-K];exact zk (wb.tick (by rw[n2,M];omega))
 rw[et]
 have a7:∀f∈a.wire,f.held=false/\f.due<=a.now+1:=fun f t=>by
  have t:f∈(Vp (U+1) a).wire:=t;rw[J]at t;rw[n2]
  rcases LE.1 t with t | t
  ·have t:f∈o.wire:=t;rw[E]at t;obtain⟨g,-,rfl⟩:=Md.1 t;exact⟨Z,L9 _⟩
  obtain⟨g,-,rfl⟩:=Md.1 t;exact⟨Z,by show(Vp (U+1) o).now+1<=_;rw[X];exact L9 _⟩
 have bc:=Mn.of u.sv u.rv u.xv;have bd:=g2.mn false
 have b7:(a.sd false).got=(p.sd false).got/\(a.sd false).all=(p.sd false).all/\(a.sd false).closed=(p.sd false).closed:=by
  have k1:=lG q f;rw[aF,qs,<-W]at k1;exact⟨aa.1.trans k1.1,aa.2.1.trans k1.2.1,aa.2.2.trans k1.2.2⟩
 have vb:((Vp (U+1) a).sd true).c=gA (U+1) (p.sd true).c:=by rw[(ce (U+1) a).2.1,F]
 have b1:((p.sd true).c.shut=s)/\(p.sd true).c.base=1/\(p.sd true).c.pend=0/\(p.sd true).c.largest=max 0 (40+aO x.sw 400)/\(p.sd true).c.ann=40+aO x.rp 400/\(p.sd true).c.cf=eH x/\(p.sd true).c.bx.nx=0:=by rw[eb];exact⟨Z,Z,Z,Z,Z,Z,Z⟩
 obtain⟨c4,c5,c6,c7,c8,cX,c9⟩:=b1
 have ca:(gA (U+1) (p.sd true).c).st=3\/(gA (U+1) (p.sd true).c).st=4:=by
  show(if(p.sd true).c.shut=true then(4:Int)else 3)=3\/(if(p.sd true).c.shut=true then(4:Int)else 3)=4;split <;> simp
 refine⟨(show Tn (cG x) (Vp (U+1) a) (fun _=>1) N from⟨⟨_,_,c2⟩,fun i=> ?_,fun i=> ?_,a7,fun i=> ?_,fun i=>⟨?_,?_⟩,fun i=> ?_,fun i=> ?_⟩),wb,by rw[n2,M],by rw[F];exact h.got true,by rw[F];exact h.fin true,by rw[F];exact h.cs true,?_⟩
 ·show Sx ((Vp (U+1) a).sd i).c ((cG x).r (!i)) a.now;rw[n2]
  cases i
  ·rw[X]at ac;exact ac
  rw[vb];refine⟨⟨fun e=>.inl ?_,fun e=>by omega,by show min 1 (p.sd true).c.last<=(p.sd true).c.base;omega⟩,by show(p.sd true).c.pend≠2;omega,fun e=> ?_,fun e=> ?_,⟨L9 0,fun e=> ?_,by rw[M];show(0:Int)<=U;omega,fun e=>IU⟩,by show 40<=(p.sd true).c.largest;omega,by show(p.sd true).c.largest<=40+aO x.sw 400;omega⟩
  ·have e:(p.sd true).c.shut=false:=e;show(if(p.sd true).c.shut=true then(4:Int)else 3)=3;rw[e];rfl
  ·have e:(p.sd true).c.pend=1:=e;omega
  ·have e:(0:Int)<1-1:=e;omega
  have e:(0:Int)<0:=e;omega
 ·show ND ((Vp (U+1) a).sd i).c a.now;rw[n2]
  cases i
  ·rw[X]at ad;exact ad
  rw[vb];exact fun e=>by cases e
 ·cases i
  ·refine .inr fun _=> ?_;have hg:((Vp (U+1) a).sd false).got=[]:=b7.1.trans (h.got false);rw[hg];have h1:=bc.ann;have h2:=bd.ann;show((0:Nat):Int)+(40+aO x.sw 400)<((Vp (U+1) a).sd false).c.ann+max 1 ((40+aO x.sw 400)/2);omega
  refine .inr fun _=> ?_;have hg:((Vp (U+1) a).sd true).got=[]:=by rw[((ce (U+1) a).2.2 true).2.2.1,F];exact h.got true
  rw[hg,vb];show((0:Nat):Int)+(40+aO x.rp 400)<(p.sd true).c.ann+max 1 ((40+aO x.rp 400)/2);omega
 ·cases i
  ·show 40<=40+aO x.sw 400;omega
  show 40<=40+aO x.rp 400;omega
 ·have pK:=ah x.keep 400 D
  cases i
  ·rw[bd.cf,bc.cf,bb];show 40<=40+aO x.keep 400;omega
  rw[vb];show 40<=(p.sd true).c.cf.keep;rw[cX];show 40<=40+aO x.keep 400;omega
 ·rw[((ce (U+1) a).2.2 i).2.2.2.1]
  cases i
  ·rw[b7.2.1];exact g.all false
  rw[F];exact g.all true
 ·intro e;rw[((ce (U+1) a).2.2 i).2.1]at e
  cases i
  ·rw[b7.2.2]at e;have h1:=h.cs false e;rw[L]at h1
   cases h1
  rw[F]at e;rw[vb];exact h.cs true e
 obtain⟨g1,t1,h1,h2⟩:=xB (c:=m) (now:=q.now) (by rw[a5];rfl) (by rw[b0];exact ri _) m8 m1;have J:a.wire=o.wire++_:=J;rw[J,E,h1];refine⟨q.fl false g1,_,Z,Z,?_⟩;show g1.sq=_;rw[h2,bb,show m.next=1 from by unfold Cn.next;rw[b0]];rfl
def qA (n m:Nat):Bool->Int:=fun i=>if i=true then m else n
theorem ue (x:Rw){n m:Nat}(a:n<=1000)(hm:m<=1000):Ga (cG x) (qA n m) (eN x [] n m) 0 :=
 ⟨kO x [] n m D a hm,fun i h=>(by cases i <;> cases h),fun i=>by
  cases i
  ·exact congrArg Int.ofNat (ly 0 n)
  ·exact congrArg Int.ofNat (ly 1 m)⟩
theorem BK (x:Rw)(n m:Nat):Hw (fun i=>match i with | false=>CF x | true=>uc x) [⟨false,1,false,o7 x⟩] 0 (eN x [] n m) :=
 ⟨fun i=>by
  cases i
  ·exact⟨⟨[],false,Z⟩,.inl Z,Z,Z,Z,⟨_,Z⟩,Z⟩
  ·exact⟨⟨[],false,Z⟩,.inr Z,Z,Z,Z,⟨_,Z⟩,Z⟩,Z,Z,LW _,fun i=>by cases i <;> rfl,fun i=>by cases i <;> rfl,fun i _=>by cases i <;> rfl,fun i q=>by cases i <;> cases q⟩
theorem zm (x:Rw){n m:Nat}(f:n<=500)(hm:m<=500):∃k,k<=493/\E2 (cG x) (qA n m) ((eN x [] n m).seq k):=by
 have g:=ue x (n:=n) (m:=m) O O;have h:=((BK x n m).mR false).mR true;generalize eN x [] n m=p at g h;have h1:Hx x (qA n m) true (uc x) 1 (p.seq 1):=h.opened (U:=1) Z D Z Z ((g.mR false).mR true);have g1:Ga (cG x) (qA n m) (p.seq 1) _:=g.Ds (eK x) (L9 0) D;have a:Ga (cG x) (qA n m) (p.seq 2) _:=g1.Ds (eK x) D D;obtain⟨b,c⟩:=h1.turn (CG x) D g1
 rcases b.tick (CG x) D c with k | ⟨t,s,-⟩
 ·exact⟨2,D,k⟩
 have hw:=a.al.run.2;have t:Tn (cG x) (p.seq 2) (fun _=>1) (qA n m):=t;obtain⟨k,j,d⟩:=t.through s (eK x) (fun _=>L9 1) (J:=25) (fun i=>by unfold qA;split <;> omega) O;refine⟨k+2,O,?_⟩
 have e:∀k,p.seq (k+2)=(p.seq 2).seq k:=fun k=>by
  rw[nS,nS];rfl
 rw[e];exact d
end Go.Proofs.YtcmncipikdpnbaaGreatDoor
