import Derived.Test.YtcmncipikdpnbaaGreatDoorTcRpaU
import Derived.Test.YtcmncipikdpnbaaGreatDoorUb36
namespace Go.Proofs.YtcmncipikdpnbaaGreatDoor
theorem O2 (p:Pr)(f:Fl)(j:Bool):((p.ke f).sd j).all=(p.sd j).all/\((p.ke f).sd j).fin=(p.sd j).fin:=by
 unfold Pr.ke;rw[af]
 cases f.dst <;> cases j <;> exact⟨Z,Z⟩
theorem zu (p:Pr)(j:Bool):(p.tick.sd j).fin=(p.sd j).fin:=by
 have b:∀(Q:List Fl) (p:Pr),((Q.foldl Pr.ke p).sd j).fin=(p.sd j).fin:=fun Q=>by
  induction Q with
  | nil=>intro p;rfl
  | cons f Q c=>intro p;exact(c (p.ke f)).trans (O2 p f j).2
 have a:∀(p:Pr) (i:Bool),((p.ki i).sd j).fin=(p.sd j).fin:=fun p i=>by
  unfold Pr.ki;rw[af]
  cases i <;> cases j <;> rfl
 refine(a _ _).trans ((a _ _).trans ((b _ _).trans ?_))
 cases j <;> rfl
theorem zv (p:Pr)(i j:Bool)(n:Int)(h:(p.sd j).fin=true):((p.recv i n).sd j).fin=true:=by
 unfold Pr.recv;dsimp only;split
 ·cases i <;> cases j <;> exact h
 rw[af]
 cases i <;> cases j <;> first | exact h | (show((p.sd _).fin||_)=true;rw[h];rfl)
structure Rp (P:Pr.zc)(N:Bool->Int)(A:Bool->List UInt8)(p:Pr)(n:Int):Prop where
 ga:Ga P N p n
 lp:NZ P p
 fin:∀i,(p.sd i).fin=true
 all:∀i,(p.sd i).all=A i
theorem Rp.got {P:Pr.zc}{N:Bool->Int}{A:Bool->List UInt8}{p:Pr}{n:Int}(h:Rp P N A p n)(i:Bool):(p.sd i).got=A (!i):=by
 have v:Pr.AB (p.sd i) (p.sd (!i))=false:=h.ga.al.pv.AB h.ga.al.run.1 i;have r:=(h.ga.al.pv.r i).2.2 (h.fin i);have c:=h.ga.cl (!i) r.1;have l:=h.ga.all (!i);unfold Pr.AB at v;rw[MO,MO]at v;have e:=v.2.1;rw[Lr,Classical.not_not]at e;rw[e,h.all (!i)];rw[h.all (!i)]at l;have a:((A (!i)).length:Int)=(p.sd i).got.length:=O
 rw[Mc O]
theorem Rp.tick {P:Pr.zc}{N:Bool->Int}{A:Bool->List UInt8}{p:Pr}{n:Int}(h:Rp P N A p n)(a:P.Ok)(h0:0<=n)(b:n+1<=5000):Rp P N A p.tick (n+1)/\∀g∈p.log,g∈p.tick.log:=by
 have hw:=h.ga.al.run.2;obtain⟨c,d⟩:=h.lp.tick a O;exact⟨⟨h.ga.tick a h0 b,c,fun i=>by rw[zu];exact h.fin i,fun i=>by rw[(kX p i).2.2];exact h.all i⟩,d⟩
theorem Rp.ticks {P:Pr.zc}{N:Bool->Int}{A:Bool->List UInt8}(a:P.Ok):∀(k:Nat) {p:Pr} {n:Int},Rp P N A p n->0<=n->n+k<=5000->Rp P N A (Pr.ticks k p) (n+k):=by
 intro k
 induction k with
 | zero=>intro p n h _ _;rw[show n+((0:Nat):Int)=n by omega];exact h
 | succ k b =>
  intro p n h h0 c;have:=b (h.tick a h0 O).1 O O;rw[show n+((k+1:Nat):Int)=n+1+k by omega];exact this
theorem Rp.recv {P:Pr.zc}{N:Bool->Int}{A:Bool->List UInt8}{p:Pr}{n:Int}(h:Rp P N A p n)(i:Bool){k:Int}(a:0<=k):Rp P N A (p.recv i k) (n+1)/\∀g∈p.log,g∈(p.recv i k).log:=by
 obtain⟨b,c⟩:=h.lp.recv i a;have s:=fun j=>nU p i j k;exact⟨⟨⟨h.ga.al.recv i a,fun j g=>by rw[(s j).2.1]at g;rw[(s j).2.2.1];exact h.ga.cl j g,fun j=>by rw[(s j).1];exact h.ga.all j⟩,b,fun j=>zv p i j k (h.fin j),fun j=>by rw[(s j).1];exact h.all j⟩,c⟩
theorem Rp.ke {P:Pr.zc}{N:Bool->Int}{A:Bool->List UInt8}{p:Pr}{n:Int}(h:Rp P N A p n)(a:P.Ok){f:Fl}(hf:f∈p.log):Rp P N A (p.ke f) (n+1)/\∀g∈p.log,g∈(p.ke f).log:=by
 obtain⟨c,d⟩:=h.lp.ke a hf;have g:=h.lp.pv.w f hf;have b:=h.ga.al.run.1.log f hf;have s:=fun j=>Pr.tC p f j;have e:(p.ke f).now=p.now:=(Pr.Ee [f] p).1;have hw:=h.ga.al.run.2;exact⟨⟨⟨⟨⟨(Pr.Ce h.ga.al.run.1 b).mono O O,by rw[e];omega⟩,Pr.PV.ke h.ga.al.pv h.ga.al.run.1 a b Z Z Z g.1 (Gw.refl _) g.2,Pr.Ml.put (h.ga.al.ml.kd _ _) _ _⟩,fun j g=>by rw[(s j).2]at g;rw[(s j).1];exact h.ga.cl j g,fun j=>by rw[(O2 p f j).1];exact h.ga.all j⟩,c,fun j=>by rw[(O2 p f j).2];exact h.fin j,fun j=>by rw[(O2 p f j).1];exact h.all j⟩,d⟩
theorem Rp.rep {P:Pr.zc}{N:Bool->Int}{A:Bool->List UInt8}{p:Pr}{n:Int}(h:Rp P N A p n)(a:P.Ok){f:Fl}(hf:f∈p.log)(h0:0<=n)(q:n+4<=5000):Rp P N A (((p.ke f).recv false 100).recv true 100).tick (n+4)/\∀g∈p.log,g∈(((p.ke f).recv false 100).recv true 100).tick.log:=by
 obtain⟨c,d⟩:=h.ke a hf;obtain⟨e,i⟩:=c.recv false (k:=100) D;obtain⟨j,l⟩:=e.recv true (k:=100) D;obtain⟨b,m⟩:=j.tick a O O;rw[show n+1+1+1+1=n+4 by omega]at b;exact⟨b,fun g o=>m g (l g (i g (d g o)))⟩
theorem O3 {c:Cn}(h:c.st=0)(now:Int)(s:Sg):(c.receive now s).1.st=0:=by
 unfold Cn.receive;rw[L7 h];exact h
theorem BR (x:Rw){n m:Nat}(b:n<=1000)(hm:m<=1000):NZ (cG x) (eN x [] n m):=by
 have a:=kO x [] n m D b hm;exact⟨a.pv,⟨_,_,a.run.1⟩,fun f c=>c,Nat.le_succ 0,_,M4⟩
theorem NZ.seq {P:Pr.zc}{N:Bool->Int}(a:P.Ok){p:Pr}{n:Int}(h:NZ P p)(g:Ga P N p n)(h0:0<=n):∀k:Nat,n+7*k<=5000->NZ P (p.seq k):=by
 intro k
 induction k with
 | zero=>intro _;exact h
 | succ k b =>
  intro c;have g1:=((g.seq a h0 k O).mR false).mR true;have hw:=g1.al.run.2;exact((((b O).mR false).mR true).tick a O).1
theorem zw (x:Rw)(n m:Nat)(i:Bool):((eN x [] n m).sd i).all=dW (if i=true then 1 else 0) (if i=true then m else n):=by cases i <;> rfl
theorem kZ (p:Pr)(i j:Bool):((p.mR i).sd j).all=(p.sd j).all:=by
 have e:=((nU (p.send i 1000) i j 1000).1).trans (rf p i j 1000).1;unfold Pr.mR;dsimp only;split
 ·rw[(kW _ i j).2];exact e
 exact e
theorem zx (p:Pr)(j:Bool):∀k,((p.seq k).sd j).all=(p.sd j).all:=by
 intro k
 induction k with
 | zero=>rfl
 | succ k a=>exact((kX _ j).2.2).trans ((kZ _ _ _).trans ((kZ _ _ _).trans a))
theorem O5 (x:Rw){n m:Nat}(b:n<=500)(hm:m<=500):∃J:Nat,J<=493/\((eN x [] n m).seq J).zx.2=true/\(∀k,k<J->((eN x [] n m).seq k).zx.2=false) /\
  Rp (cG x) (qA n m) (fun i=>dW (if i=true then 1 else 0) (if i=true then m else n)) ((eN x [] n m).seq J).zx.1 3500:=by
 obtain⟨k,p,c⟩:=zm x b hm;have g:=ue x (n:=n) (m:=m) O O;have e:=BR x (n:=n) (m:=m) O O;have d:=(c.done (g.seq (eK x) (L9 0) k O).all).1;obtain⟨j,q,a,h⟩:=Ca (f:=fun k=>((eN x [] n m).seq k).zx.2) d;have o:=g.seq (eK x) (L9 0) j O;have l:=NZ.seq (eK x) e g (L9 0) j O;have h2:=(o.mR false).mR true
 exact⟨j,O,a,h,⟨h2.al.mono O,h2.cl,h2.all⟩,(l.mR false).mR true,zd a,fun i =>
  ((kZ _ _ _).trans (kZ _ _ _)).trans ((zx _ i j).trans (zw x n m i))⟩
end Go.Proofs.YtcmncipikdpnbaaGreatDoor
