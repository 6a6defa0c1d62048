import Derived.Test.YtcmncipikdpnbaaGreatDoorTcHchU
namespace Go.Proofs.YtcmncipikdpnbaaGreatDoor
theorem uf (p:Pr)(a b:Nat):(p.seq a).seq b=p.seq (a+b):=by
 induction b with
 | zero=>rfl
 | succ b ih=>show((p.seq a).seq b).Ds=(p.seq (a+b)).Ds;rw[ih]
def Pr.Of (p:Pr):Pr:=p.kd true { p.sd true with all:=[] }
theorem Ox (i:Bool):∀(l:List Sg) (p:Pr),(p.put i l).Of=p.Of.put i l:=by
 intro l
 induction l with
 | nil=>intro p;rfl
 | cons s l ih=>intro p;exact(ih (p.tt i s)).trans Z
theorem rp (p:Pr)(i:Bool):(p.Of.sd i).c=(p.sd i).c:=by cases i <;> rfl
theorem OB (p:Pr)(i:Bool):(p.ki i).Of=p.Of.ki i:=by
 unfold Pr.ki;rw[Ox,rp]
 cases i <;> rfl
theorem qH (p:Pr)(f:Fl):(p.ke f).Of=p.Of.ke f:=by
 unfold Pr.ke;rw[Ox,rp]
 cases f.dst <;> rfl
theorem sn:∀(L:List Fl) (p:Pr),(L.foldl Pr.ke p).Of=L.foldl Pr.ke p.Of:=by
 intro L
 induction L with
 | nil=>intro p;rfl
 | cons f L ih=>intro p;rw[Nk,Nk,ih,qH]
theorem OC (p:Pr):p.tick.Of=p.Of.tick:=by
 unfold Pr.tick Pr.deliver;rw[OB,OB,sn];rfl
theorem OO (x:Rw)(n m:Nat):(eN x [] n m).Of=eN x [] n 0:=by
 unfold eN;rw[Ox];rfl
theorem E2.closed {P:Pr.zc}{N:Bool->Int}{p:Pr}(h:E2 P N p)(j:Bool):(p.sd j).closed=true:=by
 have h1:=h.re (!j);unfold Cn.reached at h1;rw[Ly]at h1;have:=((h.pv.r (!j)).1.en h1.1).1;rw[LF]at this;exact this
structure Wz (P:Pr.zc)(N:Bool->Int)(p:Pr):Prop where
 t:∃q,Tn P p q N/\(∀i,q i<=(p.sd i).c.fM+1)/\∀i,Oc (p.sd i).c (q i) (N i)
 cl:(p.sd false).closed=false
theorem Wz.of {P:Pr.zc}{N:Bool->Int}{p p':Pr}{q:Bool->Int}(h:Tn P p q N)(a:P.Ok)(hn:p.now+1<1692)(b:∀i,q i<=(p.sd i).c.fM+1)(lm:∀i,Oc (p.sd i).c (q i) (N i))(e:p.tick=p')(cl:(p'.sd false).closed=false):Wz P N p'/\(∀i,tQ (p'.sd i).c)/\p'.now=p.now+1:=by
 subst e
 rcases h.Og a hn b lm with k | ⟨d,t,s,f,h1,h2⟩
 ·rw[k.closed false]at cl
  cases cl
 exact⟨⟨⟨d,t,h1,h2⟩,cl⟩,s,f.now⟩
theorem Wz.send {P:Pr.zc}{N:Bool->Int}{p:Pr}(h:Wz P N p)(d:P.Ok)(hn:p.now+1<1692):Wz P N (p.send false 1000).tick/\(∀i,tQ ((p.send false 1000).tick.sd i).c)/\(p.send false 1000).tick.now=p.now+1:=by
 obtain⟨⟨q,t,h1,h2⟩,cl⟩:=h;obtain⟨f,us,-⟩:=t.send false;obtain⟨g,n,j⟩:=BI p false 1000;obtain⟨a,b,l⟩:=t.cl;have o:=t.all false
 obtain⟨m,u⟩:=l.send false 1000 (t.sx false).p2 (by
  unfold Sd.str;rw[Le,g];omega)
 have e:=us.now;have k:=Wz.of f d O (fun i=>by have:=h1 i;have:=(us.mn i).fM;omega) (fun i=>u.OA m (h2 i)) Z (by rw[(kX _ false).2.1,j];exact cl);rw[e]at k;exact k
def Pr.wt (p:Pr):Nat->Pr
 | 0=>p
 | k+1=>((p.wt k).send false 1000).tick
theorem Wz.wt {P:Pr.zc}{N:Bool->Int}{p:Pr}(h:Wz P N p)(hs:∀i,tQ (p.sd i).c)(a:P.Ok):∀k:Nat,p.now+k<1692->Wz P N (p.wt k)/\(∀i,tQ ((p.wt k).sd i).c)/\(p.wt k).now=p.now+k:=by
 intro k
 induction k with
 | zero=>intro _;exact⟨h,hs,by show p.now=p.now+((0:Nat):Int);omega⟩
 | succ k ih =>
  intro hk;obtain⟨b,g,j⟩:=ih O;obtain⟨d,e,f⟩:=b.send a O;exact⟨d,e,by show((p.wt k).send false 1000).tick.now=_;rw[f];omega⟩
def qE (x:Rw)(n:Nat):Pr:=(eN x [] n 0).tick.tick
theorem xJ (x:Rw)(n:Nat)(i:Bool):((qE x n).sd i).str=[]/\((qE x n).sd i).closed=false:=by
 have a:=kX (eN x [] n 0).tick i;have b:=kX (eN x [] n 0) i;refine⟨a.1.trans (b.1.trans ?_),a.2.1.trans (b.2.1.trans ?_)⟩
 ·cases i <;> rfl
 cases i <;> rfl
theorem OP (x:Rw){n:Nat}(hn:n<=1000):Wz (cG x) (qA n 0) (qE x n)/\(∀i,tQ ((qE x n).sd i).c)/\(qE x n).now=2:=by
 have g:=ue x (n:=n) (m:=0) hn O;have h:=BK x n 0;have d:=xJ x n;unfold qE at d|-
 have r:∀i,((eN x [] n 0).tick.sd i).str=[]/\((eN x [] n 0).tick.sd i).closed=false:=fun i=>by
  have l:=kX (eN x [] n 0) i;refine⟨l.1.trans ?_,l.2.1.trans ?_⟩
  ·cases i <;> rfl
  cases i <;> rfl
 generalize eN x [] n 0=p at g h d r|-;have h1:Hx x (qA n 0) true (uc x) 1 p.tick:=h.opened (U:=1) Z D Z Z g;obtain⟨f,W,t,u,a0⟩:=h1.hd;have A:=h1.now
 have hw:∀k∈p.tick.wire,k.held=false/\k.due<=p.tick.now+1:=fun k hk=>by
  have:=h1.tn.w k (by rw[(O1 true _ p.tick).1];exact hk);rw[(O1 true _ p.tick).2.1]at this;exact this
 have y:=q1z (T:=1+1) (S:=[]) (fun k hk=>by cases hk) hw t u (h1.first (CG x) t u a0);have B:({ (pz true (1+1) p.tick)with wire:=[]++p.tick.wire }:Pr)=pz true (1+1) p.tick:=Z;rw[B]at y;obtain⟨a,b,j⟩:=h1.tn.cl;have I:(pz true (1+1) p.tick).now=1:=(O1 true _ p.tick).2.1.trans A
 obtain⟨C,E,J⟩:=Wz.of (p':=p.tick.tick) h1.tn (eK x) O (fun i=>by have:=(j.ns i).1.fM;omega) (fun i o K L _=>by
  exfalso
  have v:=(O0 true (1+1) p.tick).2.2 i;have l:=r i;have F:=(j.ns i).1.hv.nl;have M:=(j.ft.sd i).last;have e:=(j.ft.sd i).Ei;rw[v.1,l.1]at e;have e:0=((pz true (1+1) p.tick).sd i).sent.toNat:=e;have G:=(j.ft.sd i).s0
  have q:((pz true (1+1) p.tick).sd i).c.shut=false:=by
   cases hs:((pz true (1+1) p.tick).sd i).c.shut with
   | false=>rfl
   | true =>
    have:=(j.pv.s i).1.sh hs;have z:((pz true (1+1) p.tick).sd i).closed=true:=this;rw[v.2.1,l.2]at z
    cases z
  rw[q,L5 D]at F;omega) y (d false).2
 exact⟨C,E,O⟩
theorem OQ (x:Rw){n:Nat}(hn:n<=1000):Wz (cG x) (qA n 0) ((qE x n).shut true)/\(∀i,tQ (((qE x n).shut true).sd i).c)/\((qE x n).shut true).now=2:=by
 obtain⟨⟨⟨q,t,h1,h2⟩,cl⟩,h,j⟩:=OP x hn;have d:=xJ x n;generalize qE x n=p at t h1 h2 cl h d j|-;obtain⟨a,b,k⟩:=t.cl;have l:((p.sd true).str.length:Int)=qA n 0 true:=by rw[(d true).1];rfl
 have m:Rd (cG x) p true:=by
  have e:((p.sd true).got.length:Int)=(p.sd true).c.bx.nx:=by
   have r:=(k.pv.r true).1.pi;have w:=r.rd;have f:=r.nx;have y:=r.ok.xK;have r0:=r.ok.Do;rw[show(p.sd (!true)).str=[]from(d false).1]at f;have f:(p.sd true).c.bx.nx<=((0:Nat):Int):=f;omega
  rcases t.rw true with g | g
  ·exact .inl g
  exact .inr ⟨e,g e⟩
 obtain⟨o,us,-,-,-⟩:=t.shut true l m;obtain⟨s,u⟩:=k.shut true (t.sx true).p2 l;refine⟨⟨⟨q,o,fun i=>by have:=h1 i;have:=(us.mn i).fM;omega,fun i=>u.OA s (h2 i)⟩,?_⟩,us.sb h,us.now.trans j⟩;have e:=u.Ej;rw[show p.shut true=p.shut true from Z];rw[show(p.shut true).sd false=p.sd false from e];exact cl
def nX (x:Rw)(n K:Nat):Pr:=((qE x n).shut true).wt K
theorem xK (x:Rw){n K:Nat}(hn:n<=1000)(e:K<=1600):Wz (cG x) (qA n 0) (nX x n K)/\(∀i,tQ ((nX x n K).sd i).c)/\(nX x n K).now=2+K:=by
 obtain⟨h1,h2,h3⟩:=OQ x hn;obtain⟨a,b,d⟩:=h1.wt h2 (eK x) K O;exact⟨a,b,by show(((qE x n).shut true).wt K).now=_;rw[d,h3]⟩
theorem OR (x:Rw){n K:Nat}(hn:n<=700)(s:K<=310):∃k,k<=833/\E2 (cG x) (qA n 0) ((nX x n K).seq k):=by
 obtain⟨⟨⟨q,t,h1,h2⟩,-⟩,e,g⟩:=xK x (n:=n) (K:=K) O O;generalize nX x n K=p at t h1 h2 e g|-;obtain⟨a,b,c⟩:=t.cl
 have h:Tn (cG x) p (Od q true 1) (qA n 0):={ t with cl:=⟨_,_,c.down true fun o a _ _ d=>by
  have d:o<=((0:Nat):Int):=d;omega⟩ }
 have eq:Od q true 1 false=q false:=(kZ q true 1).2;obtain⟨k,u,l⟩:=h.untied e (eK x) O false (by rw[eq];exact h1 false) (by rw[eq];exact h2 false)
 rcases l with z | ⟨m,r,w⟩
 ·exact⟨k,O,z⟩
 obtain⟨j,y,f⟩:=m.through r (eK x) (fun i=>by
  cases i
  ·exact Mr (kZ _ false 1).1
  exact Mr ((kZ (Od q true 1) false 1).2.trans (kZ q true 1).1)) (J:=35) (fun i=>by unfold qA;split <;> omega) O
 rw[uf]at f;exact⟨k+j,O,f⟩
theorem OD (x:Rw){n:Nat}(hn:n<=1000):Pr.Al (cG x) (qE x n) 2 :=
 ((ue x (n:=n) (m:=0) hn O).al.tick (L9 0) D (eK x)).tick D D (eK x)
theorem zw {P:Pr.zc}{p:Pr}(h:Pr.Al P p 3)(a:P.Ok):∀k:Nat,k<=400->Pr.Al P (p.wt k) (3+2*k):=by
 intro k
 induction k with
 | zero=>intro _;exact h
 | succ k ih =>
  intro hk;have:=((ih O).send false 1000).tick O O a;rw[show 3+2*((k+1:Nat):Int)=3+2*k+1+1 by omega];exact this
theorem OE (x:Rw){n:Nat}(hn:n<=1000):∀k:Nat,k<=400->Pr.Al (cG x) (nX x n k) (3+2*k):=zw ((OD x hn).shut true) (eK x)
theorem OS (x:Rw){n K:Nat}(hn:n<=700)(o:K<=310):∃J:Nat,J<=833/\((nX x n K).seq J).zx.2=true/\(∀i,i<J->((nX x n K).seq i).zx.2=false) /\
  ∃q:Pr,q=((nX x n K).seq J).zx.1/\Pr.Al (cG x) q 7000/\q.a.got=[]/\q.b.got=q.a.all/\q.a.fin=true:=by
 obtain⟨j,w,p⟩:=OR x hn o;obtain⟨⟨⟨q,t,h1,h2⟩,-⟩,y,z⟩:=xK x (n:=n) (K:=K) O O;obtain⟨a,b,c⟩:=t.cl;have s:Pr.Al (cG x) (nX x n K) (3+2*K):=OE x O K O;have g:Ga (cG x) (qA n 0) (nX x n K) (3+2*K):=⟨s,c.f2.cl,t.all⟩;have d:=(p.done (g.seq (eK x) O j O).all).1;obtain⟨J,J1,J2,J3⟩:=Ca (f:=fun i=>((nX x n K).seq i).zx.2) d;have h:=((g.seq (eK x) O J O).mR false).mR true;have h:Ga (cG x) (qA n 0) ((nX x n K).seq J).zx.1 (3+2*K+7*J+3+3):=h;have hf:=zd J2;obtain⟨q,m⟩:∃q,q=((nX x n K).seq J).zx.1:=⟨_,Z⟩;rw[<-m]at h hf
 have k:∀i,(q.sd i).got=(q.sd (!i)).all:=fun i=>by
  have v:Pr.AB (q.sd i) (q.sd (!i))=false:=h.al.pv.AB h.al.run.1 i;have r:=(h.al.pv.r i).2.2 (hf i);have c:=h.cl (!i) r.1;have l:=h.all (!i);unfold Pr.AB at v;rw[MO,MO]at v;have e:=v.2.1;rw[Lr,Classical.not_not]at e;rw[e];rw[Mc O]
 have u:q.b.all=[]:=by
  have:=h.all true;have:((q.b.all.length:Nat):Int)=((0:Nat):Int):=this;exact List.length_eq_zero_iff.1 O
 exact⟨J,O,J2,J3,q,m,h.al.mono O,(k false).trans u,k true,hf false⟩
theorem OF {P:Pr.zc}{p:Pr}{n:Int}(h:Pr.Al P p n):0<=(p.sd true).c.bx.nx-(p.sd true).c.bx.rd/\(p.sd true).c.bx.nx-(p.sd true).c.bx.rd<=P.r true/\(p.sd true).c.bx.nx-(p.sd true).c.bx.rd<=p.a.sent:=by
 have r:=(h.pv.r true).1.pi;have e:=r.ok.Ck;have f:=r.ok.xK;have g:=r.nx;have r0:=r.ok.Do;have k:=h.run.1.sd false;have b:=k.Ei;have d:=k.s0;have i:=(h.run.1.sd true).c.ring;have ro:(p.sd true).c.room=P.r true:=(h.pv.s true).1.room;have b:(p.sd (!true)).str.length=p.a.sent.toNat:=b;have d:0<=p.a.sent:=d;refine⟨O,O,O⟩
end Go.Proofs.YtcmncipikdpnbaaGreatDoor
