import Derived.Test.YtcmncipikdpnbaaGreatDoorUb38
namespace Go.Proofs.YtcmncipikdpnbaaGreatDoor
structure G1 (K:Prop)(p p':Pr)(j:Bool)(l:List Sg):Prop where
 sv:SV (p.sd j).c (p'.sd j).c l
 rv:RV (p.sd j).c (p'.sd j).c l p.now
 xv:XV K (p.sd j).c (p'.sd j).c p.now
 EG:p'.sd (!j)=p.sd (!j)
 wire:p'.wire=p.wire++l.map (p.fl j)
 now:p'.now=p.now
theorem G1.mn {K:Prop}{p p':Pr}{j:Bool}{l:List Sg}(h:G1 K p p' j l)(i:Bool):Mn (p.sd i).c (p'.sd i).c:=by
 rcases rK (i:=j) (j:=i)with rfl | rfl
 ·exact .of h.sv h.rv h.xv
 rw[h.EG];exact .refl _
def Ak (p:Pr)(L:List Fl)(i:Bool)(M T:Int):Prop :=
 M<=(p.sd (!i)).c.expected+1/\(M<=(p.sd i).c.gi\/(∃f∈L,f.dst=i/\M<=iF (p.sd i).c.cf.ki f.s)\/((p.sd (!i)).c.pend=1/\(p.sd (!i)).c.t8.since+2<=T))
theorem G1.ak {K:Prop}{p p':Pr}{j:Bool}{l:List Sg}(h:G1 K p p' j l)(ok:0<=(p'.sd j).c.expected/\(p'.sd j).c.expected<=100000)(hi:(p'.sd j).c.A2=(p.sd (!j)).c.cf.ki){L:List Fl}{i:Bool}{M T:Int}(k:Ak p L i M T):Ak p' (L++l.map (p.fl j)) i M T/\((p'.sd j).c.pend≠1->i= !j->M<=(p'.sd i).c.gi\/∃f∈L++l.map (p.fl j),f.dst=i/\M<=iF (p'.sd i).c.cf.ki f.s):=by
 obtain⟨w,k⟩:=k
 rcases rK (i:=j) (j:=i)with rfl | rfl
 ·have m:=h.mn i;unfold Ak;rw[h.EG];refine⟨⟨w,?_⟩,fun _ e=>absurd e (by cases i <;> decide)⟩
  rcases k with k | ⟨f,q,d,n⟩ | k
  ·exact .inl (LE k m.gi)
  ·exact .inr (.inl ⟨f,LR _ q,d,by rw[m.cf];exact n⟩)
  exact .inr (.inr k)
 have m:=h.mn j;unfold Ak at *;rw[LI]at *;rw[h.EG];have he:=ok;have y:=m.exp
 have o:(M<=(p.sd (!j)).c.gi\/(∃f∈L++l.map (p.fl j),f.dst=(!j)/\M<=iF (p.sd (!j)).c.cf.ki f.s))\/((p'.sd j).c.pend=1/\(p'.sd j).c.t8=(p.sd j).c.t8/\(p.sd j).c.t8.since+2<=T):=by
  rcases k with k | ⟨f,q,d,n⟩ | ⟨d,n⟩
  ·exact .inl (.inl k)
  ·exact .inl (.inr ⟨f,LR _ q,d,n⟩)
  rcases h.rv.k with⟨-,-,⟨r,t,-⟩ | ⟨-,e,-⟩⟩ | ⟨r,-,-,t⟩
  ·exact .inr ⟨r.trans d,t,n⟩
  ·omega
  obtain⟨x,u⟩:=Nx l r;have c:=t x u;refine .inl (.inr ⟨p.fl j x,Mq _ (Mg.2 ⟨x,u,Z⟩),Z,?_⟩);show M<=iF (p.sd (!j)).c.cf.ki x;unfold iF;rw[c.ak];unfold Cn.number;rw[hi,pX _ O O];omega
 refine⟨⟨O,?_⟩,fun g _=> ?_⟩
 ·rcases o with(a | a) | ⟨a,b,c⟩
  ·exact .inl a
  ·exact .inr (.inl a)
  exact .inr (.inr ⟨a,by rw[b];exact c⟩)
 rcases o with a | ⟨a,-⟩
 ·exact a
 exact absurd a g
def Fk (N:Bool->Int)(p:Pr)(L:List Fl)(i:Bool)(T:Int):Prop :=
 (p.sd (!i)).c.reached=true\/(∃f∈L,f.dst=(!i)/\f.s.fin=true)\/((p.sd i).c.gi=N i+1/\(p.sd i).c.next=N i+2/\(p.sd i).c.dl.set=true/\(p.sd i).c.dl.since+(p.sd i).c.dl.ticks<=T)
theorem Hv.exp {c:Cn}{N:Int}(h:Hv c N)(a:c.reached=true):c.expected=N+1:=by
 have h1:=a;unfold Cn.reached at h1;rw[LD,Lj]at h1;have:=h.fe h1.1;unfold Cn.expected;rw[L9 a];omega
theorem G1.fk {K:Prop}{p p':Pr}{j:Bool}{l:List Sg}(h:G1 K p p' j l){N:Bool->Int}{i:Bool}(q:Hv (p.sd (!i)).c (N i))(a:Hv (p'.sd (!i)).c (N i))(x:(p'.sd i).c.gi<=(p'.sd (!i)).c.expected+1)(y:(p'.sd i).c.next<=N i+2)(r:j=i->(p'.sd i).c.gi=N i+1->(p.sd i).c.next=N i+2->(p.sd i).c.dl.set=true->K\/∃f∈l.map (p.fl i),f.dst=(!i)/\f.s.fin=true){L:List Fl}{T:Int}(k:Fk N p L i T):Fk N p' (L++l.map (p.fl j)) i T:=by
 have m:=h.mn i;have t:=h.mn (!i)
 rcases k with k | ⟨f,d,k⟩ | ⟨z,n,b,o⟩
 ·have:=q.exp k;have:=t.exp;exact .inl (a.rch O)
 ·exact .inr (.inl ⟨f,LR _ d,k⟩)
 have u:=m.gi;have w:=m.nx
 rcases(show(p'.sd i).c.gi=N i+1\/N i+2<=(p'.sd i).c.gi by omega)with e | e
 ·rcases rK (i:=j) (j:=i)with rfl | rfl
  ·rcases r rfl e n b with g | ⟨f,d,g⟩
   ·refine .inr (.inr ⟨e,O,?_⟩);rw[h.xv.ex.keep g O O b];exact⟨b,o⟩
   exact .inr (.inl ⟨f,Mq _ d,g⟩)
  exact .inr (.inr ⟨e,by rw[h.EG];exact n,by rw[h.EG];exact b,by rw[h.EG];exact o⟩)
 exact .inl (a.rch O)
def A9 (P:Pr.BX)(p:Pr)(i:Bool):Prop:=(p.sd i).c.reached=true\/(((p.sd i).got.length:Int)=(p.sd i).c.bx.nx->(p.sd i).got.length+P.r i<(p.sd i).c.ann+max 1 (P.r i/2))
def Rd (P:Pr.BX)(p:Pr)(i:Bool):Prop:=(p.sd i).c.reached=true\/(((p.sd i).got.length:Int)=(p.sd i).c.bx.nx/\(p.sd i).got.length+P.r i<(p.sd i).c.ann+max 1 (P.r i/2))
structure Tn (P:Pr.BX)(p:Pr)(q N:Bool->Int):Prop where
 cl:∃a b,Cl P p [] q N a b
 sx:∀i,Sx (p.sd i).c (P.r (!i)) p.now
 nd:∀i,ND (p.sd i).c p.now
 w:∀f∈p.wire,f.held=false/\f.due<=p.now+1
 rw:∀i,A9 P p i
 par:∀i,40<=P.r i/\40<=(p.sd i).c.cf.keep
 all:∀i,((p.sd i).all.length:Int)=N i
 cs:∀i,(p.sd i).closed=true->(p.sd i).c.shut=true
def Tk (N:Bool->Int)(p1 p:Pr)(f:Fl):Prop :=
 iF (p1.sd f.dst).c.cf.ki f.s<=(p.sd f.dst).c.gi/\iF (p1.sd f.dst).c.cf.ki f.s+f.s.win<=(p.sd f.dst).c.limit /\
 (fV (p1.sd (!f.dst)).c.cf.ki f.s-1+f.s.s.length<=(p1.sd f.dst).c.ann->∀i,fV (p1.sd (!f.dst)).c.cf.ki f.s-1<=i->i<fV (p1.sd (!f.dst)).c.cf.ki f.s-1+f.s.s.length->(p.sd f.dst).c.bx.has i) /\
 (f.s.fin=true->N (!f.dst)<=(p1.sd f.dst).c.expected->N (!f.dst)<(p1.sd f.dst).c.ann->N (!f.dst)<(p.sd f.dst).c.expected)
theorem Tk.mn {N:Bool->Int}{p1 p p':Pr}{f:Fl}(h:Tk N p1 p f)(m:∀i,Mn (p.sd i).c (p'.sd i).c):Tk N p1 p' f :=
 ⟨LE h.1 (m _).gi,LE h.2.1 (m _).lim,fun a i d e=>(m _).has i (h.2.2.1 a i d e),fun a b c=>Int.lt_of_lt_of_le (h.2.2.2 a b c) (m _).exp⟩
structure Fo (P:Pr.BX)(N:Bool->Int)(p1 p:Pr)(Q:List Fl):Prop where
 now:p.now=p1.now+1
 mn:∀i,Mn (p1.sd i).c (p.sd i).c
 sx:∀i,Sx (p.sd i).c (P.r (!i)) p.now
 tk:∀f∈p1.wire,f∈Q\/Tk N p1 p f
 sub:∀f∈Q,f∈p1.wire
 ub:∀i,(p.sd i).c.gi<=(p1.sd (!i)).c.expected+1
 w:∀f∈p.wire,f.held=false/\f.due=p.now+1
 ak:∀i M T,Ak p1 p1.wire i M T->Ak p (Q++p.wire) i M T
 fk:∀i T,N i<=(p1.sd (!i)).c.expected->N i<(p1.sd (!i)).c.ann->Fk N p1 p1.wire i T->Fk N p (Q++p.wire) i T
 sd:∀i,(p.sd i).got=(p1.sd i).got/\(p.sd i).all=(p1.sd i).all/\(p.sd i).closed=(p1.sd i).closed
 rw:∀i,A9 P p i
theorem Hv.bd {c:Cn}{N:Int}(h:Hv c N):0<=c.expected/\c.expected<=N+1:=by
 have h1:=h.nx;have h2:=pY h.ok;refine⟨h2.1,?_⟩;unfold Cn.expected;split <;> omega
theorem Hv.fin {c:Cn}{N:Int}(h:Hv c N)(he:c.ended=true)(a:N<=c.expected):c.reached=true:=by
 cases hr:c.reached with
 | true=>rfl
 | false =>
  have e:c.expected=c.bx.nx:=K9
  have h1:=h.nx;have h2:=h.fe he;unfold Cn.reached at hr;rw[he,Le (show c.bx.nx=c.sw by omega)]at hr
  cases hr
theorem A9.keep {P:Pr.BX}{p p':Pr}{i:Bool}{N:Int}(h:A9 P p i)(b:Hv (p.sd i).c N)(a:Hv (p'.sd i).c N)(m:Mn (p.sd i).c (p'.sd i).c)(g:(p'.sd i).got=(p.sd i).got)(rd:((p.sd i).got.length:Int)<=(p.sd i).c.bx.nx):A9 P p' i:=by
 have d:(p.sd i).c.bx.nx<=(p'.sd i).c.bx.nx:=by
  rcases(show(p.sd i).c.bx.nx<=(p'.sd i).c.bx.nx\/(p'.sd i).c.bx.nx<(p.sd i).c.bx.nx by omega)with e | e
  ·exact e
  have h1:=a.ok.bx.E1;have h2:=a.ok.bx.Cv;exact absurd (m.has _ (.inl ⟨O,e⟩)) a.ok.bx.FS
 rcases h with h | h
 ·have h1:=b.exp h;have h2:=m.exp;exact .inl (a.rch O)
 refine .inr fun e=> ?_;rw[g]at e|-;have:=h O;have:=m.ann;omega
theorem Fo.g1 {P:Pr.BX}{q N:Bool->Int}{p1 p p':Pr}{Q e:List Fl}{a b n b':Int}{K:Prop}{j:Bool}{l:List Sg}(h:Fo P N p1 p Q)(m:Cl P p Q q N a b)(o:Cl P p' e q N n b')(g:G1 K p p' j l)(s:(p'.sd j).c.largest<=P.r (!j))(d:(p'.sd j).got=(p.sd j).got/\(p'.sd j).all=(p.sd j).all/\(p'.sd j).closed=(p.sd j).closed)
  (t:∀f∈p1.wire,f∈e\/Tk N p1 p' f)(sub:∀f∈e,f∈p1.wire)(u:(p'.sd j).c.gi<=(p1.sd (!j)).c.expected+1)
  (ak:∀i M T,Ak p1 p1.wire i M T->Ak p' (e++p'.wire) i M T)(fk:∀i T,N i<=(p1.sd (!i)).c.expected->N i<(p1.sd (!i)).c.ann->Fk N p1 p1.wire i T->Fk N p' (e++p'.wire) i T):Fo P N p1 p' e:=by
 refine⟨g.now.trans h.now,fun i=>(h.mn i).trans (g.mn i),fun i=> ?_,t,sub,fun i=> ?_,fun f k=> ?_,ak,fk,fun i=> ?_,fun i=> ?_⟩
 ·rcases rK (i:=j) (j:=i)with rfl | rfl
  ·have:=(h.sx i).step g.rv g.xv s;rw[<-g.now]at this;exact this
  rw[g.EG,g.now];exact h.sx _
 ·rcases rK (i:=j) (j:=i)with rfl | rfl
  ·exact u
  rw[g.EG];exact h.ub _
 ·rw[g.wire]at k;rw[g.now]
  rcases LH.1 k with k | k
  ·exact h.w f k
  obtain⟨x,-,rfl⟩:=Mg.1 k;exact⟨Z,Z⟩
 ·rcases rK (i:=j) (j:=i)with rfl | rfl
  ·exact⟨d.1.trans (h.sd i).1,d.2.1.trans (h.sd i).2.1,d.2.2.trans (h.sd i).2.2⟩
  rw[g.EG];exact h.sd _
 rcases rK (i:=j) (j:=i)with rfl | rfl
 ·have r:=(m.pv.r i).1.pi;have y:=r.ok.Cv;have z:=r.rd;exact(h.rw i).keep (m.ns i).1.hv (o.ns i).1.hv (g.mn i) d.1 O
 unfold A9;rw[g.EG];exact h.rw _
theorem oO (p:Pr)(f:Fl):((p.kd f).sd f.dst).got=(p.sd f.dst).got/\((p.kd f).sd f.dst).all=(p.sd f.dst).all/\((p.kd f).sd f.dst).closed=(p.sd f.dst).closed:=by
 unfold Pr.kd;rw[af]
 cases f.dst <;> exact⟨Z,Z,Z⟩
theorem oP (p:Pr)(i:Bool):((p.kp i).sd i).got=(p.sd i).got/\((p.kp i).sd i).all=(p.sd i).all/\((p.kp i).sd i).closed=(p.sd i).closed:=by
 unfold Pr.kp;rw[af]
 cases i <;> exact⟨Z,Z,Z⟩
theorem Fo.step {P:Pr.BX}{q N:Bool->Int}{p1 p:Pr}{f:Fl}{Q:List Fl}{a b:Int}(c0:∃a b,Cl P p1 [] q N a b)(u:Cl P p (f::Q) q N a b)(h:Fo P N p1 p (f::Q))(w:Cl P (p.kd f) Q q N (a+1) (b+1))
  (k:Rc (p.sd f.dst).c ((p.kd f).sd f.dst).c ((p.sd f.dst).c.receive p.now f.s).2 p.now f.s (fV (p.sd (!f.dst)).c.cf.ki f.s-1) (iF (p.sd f.dst).c.cf.ki f.s) (N (!f.dst)))(I:(p.kd f).sd (!f.dst)=p.sd (!f.dst))(B:(p.kd f).wire=p.wire++((p.sd f.dst).c.receive p.now f.s).2.map (p.fl f.dst))(V:(p.kd f).now=p.now):Fo P N p1 (p.kd f) Q:=by
 have g:G1 True p (p.kd f) f.dst ((p.sd f.dst).c.receive p.now f.s).2:=⟨k.sv,k.rv,k.xv,I,B,V⟩;have J:=(u.ns f.dst).1;have C:=(w.ns f.dst).1;have n2:=(u.ns (!f.dst)).1;have W:=C.hv.bd;have hN:=J.nn.1;have dn:=w.dp (!f.dst);rw[LI,I]at dn;have E:=(h.mn f.dst).cf;have X:=(h.mn (!f.dst)).cf;have m:∀i,Mn (p.sd i).c ((p.kd f).sd i).c:=g.mn;have hq:=u.qg f IK;obtain⟨a0,b0,c0⟩:=c0;have hw:=h.sub f IK
 have ab:iF (p.sd f.dst).c.cf.ki f.s<=(p1.sd (!f.dst)).c.expected+1:=by
  have d0:=(c0.dp f.dst).ack f.s (by rw[LG];unfold jY;exact Mg.2 ⟨f,M3.2 ⟨hw,IK⟩,Z⟩);rw[E];exact d0.2.1
 have o:f.s.fin=true->N (!f.dst)<=(p1.sd f.dst).c.expected->N (!f.dst)<(p1.sd f.dst).c.ann->N (!f.dst)<((p.kd f).sd f.dst).c.expected:=fun e d y=>by
  have K:=h.mn f.dst;have h1:=K.exp;have h2:=K.ann;have h3:=(m f.dst).exp;have h4:=J.hv.nx;have sg:=(u.dp (!f.dst)).seg f.s (by rw[LI];unfold jY;exact Mg.2 ⟨f,M3.2 ⟨IK,IK⟩,Z⟩)
  have h5:fV (p.sd (!f.dst)).c.cf.ki f.s-1<(p.sd f.dst).c.ann:=by
   rcases sg.n with⟨-,F⟩ | ⟨-,F⟩
   ·have:=F e;omega
   rw[F]at e;cases e
  have h6:=C.hv.exp (C.hv.fin (k.fin e O h5) O);omega
 refine h.g1 u w g ?_ (oO p f) (fun x d=> ?_) (fun x d=>h.sub x (by simp[d])) ?_ (fun i M T G=> ?_) (fun i T d y G=> ?_)
 ·have h1:=(h.sx f.dst).lR;have h2:f.s.win<=P.r (!f.dst):=hq.1.win;rw[k.De];omega
 ·rcases h.tk x d with z | z
  ·rcases Mm.1 z with rfl | z
   ·refine .inr ⟨?_,?_,fun y i L S=> ?_,o⟩
    ·rw[k.gi,E];exact Lb _
    ·rw[k.lim,E];omega
    have:=(h.mn x.dst).ann;rw[<-X]at y L S;exact k.has O i L S
   exact .inl z
  exact .inr (z.mn m)
 ·rw[k.gi];exact ab
 ·obtain⟨k0,j⟩:=(g.ak ⟨W.1,O⟩ dn.A2 (h.ak i M T G)).1;refine⟨k0,?_⟩
  rcases j with j | ⟨x,d,A,e⟩ | j
  ·exact .inl j
  ·rw[LT,LT,LO,<-B]at d
   rcases Mm.1 d with rfl | d
   ·refine .inl ?_;subst A;rw[(m _).cf]at e;rw[k.gi];exact e
   exact .inr (.inl ⟨x,d,A,e⟩)
  exact .inr (.inr j)
 have U:=(u.ns (!i)).1.hv;have t:=(w.ns (!i)).1.hv;rw[LI]at U t;have j:=g.fk (i:=i) U t (w.dp i).gi (w.ns i).1.nx (fun _ _ _ _=>.inl trivial) (h.fk i T d y G)
 rcases j with j | ⟨x,l,A,e⟩ | j
 ·exact .inl j
 ·rw[LT,LT,LO,<-B]at l
  rcases Mm.1 l with rfl | l
  ·refine .inl ?_;have hi:i= !x.dst:=by rw[A,LI]
   subst hi;rw[LI]at *;exact t.rch (o e d y)
  exact .inr (.inl ⟨x,l,A,e⟩)
 exact .inr (.inr j)
theorem pf {d:Bool}{W:List Fl}{g:Sg}(h:g∈jY d W):∃f∈W,f.dst=d/\f.s=g:=by
 unfold jY at h;obtain⟨f,a,e⟩:=Mg.1 h;have:=M3.1 a;exact⟨f,this.1,by simpa using this.2,e⟩
theorem Cl.last {P:Pr.BX}{p:Pr}{Q:List Fl}{q N:Bool->Int}{a b:Int}(h:Cl P p Q q N a b)(i:Bool):(p.sd i).c.last<=N i+1/\((p.sd i).c.shut=true->(p.sd i).c.last=N i+1):=by
 have k:=(h.pv.s i).1;have h1:(p.sd i).c.last=1+(p.sd i).str.length:=k.last;have h2:=h.f2.le i;exact⟨O,fun g=>by have:=h.f2.cl i (k.sh g);omega⟩
theorem Fo.hz {P:Pr.BX}{q N:Bool->Int}{p1 p:Pr}{d b0:Int}(c0:Cl P p1 [] q N d b0)(rd:∀i,Rd P p1 i)(a:∀i,40<=P.r i)(h:Fo P N p1 p [])(i:Bool)(l:(p.sd i).c.gi=(p.sd i).c.next)(n:(p.sd i).c.next<=N i):(p.sd i).c.next+20<=(p.sd i).c.limit/\P.r (!i)+1<=2*((p.sd i).c.limit-(p.sd i).c.next):=by
 have d0:=c0.dp i;rw[LG]at d0;have b:=(c0.ns (!i)).1.hv;rw[LI]at b;have m:=h.mn i;have o:=m.nx;have s:=m.lim;have t:=a (!i);have u:=h.ub i
 cases hr:(p1.sd (!i)).c.reached with
 | true =>
  have h1:=b.exp hr;have h2:=d0.E5;omega
 | false =>
  have he:(p1.sd (!i)).c.expected=(p1.sd (!i)).c.bx.nx:=K9
  have w:(p1.sd (!i)).c.ann+1<=(p.sd i).c.limit:=by
   rcases d0.Fb hr with e | ⟨g,j,e⟩
   ·omega
   obtain⟨f,k,rfl,rfl⟩:=pf j
   rcases h.tk f k with z | z
   ·cases z
   have:=z.2.1;omega
  rcases rd (!i)with e | ⟨e1,e2⟩
  ·rw[hr]at e;cases e
  omega
theorem NI.nd {c:Cn}{now:Int}(h:NI c now)(a:c.dl.due now=false):ND c now:=fun hs=>by
 have h1:=(h.dl hs).2.2.1;unfold Al.due at a;rw[hs,Le h1]at a
 simp at a
 omega
theorem Fo.kp {P:Pr.BX}{q N:Bool->Int}{p1 p:Pr}{a b a0 b0:Int}(c0:Cl P p1 [] q N a0 b0)(rd:∀i,Rd P p1 i)(G:∀i,40<=P.r i)(n:Cl P p [] q N a b)(h:Fo P N p1 p [])(hn:p.now<1692)(j:Bool) :
  Ek P N (p.kp j)\/((∃a b,Cl P (p.kp j) [] q N a b)/\Fo P N p1 (p.kp j) []/\ND ((p.kp j).sd j).c p.now/\wU ((p.kp j).sd j).c/\(∃K l,G1 K p (p.kp j) j l) /\
   (∀M T,T<=p.now->Ak p p.wire (!j) M T->M<=((p.kp j).sd (!j)).c.gi\/∃f∈(p.kp j).wire,f.dst=(!j)/\M<=iF ((p.kp j).sd (!j)).c.cf.ki f.s)):=by
 have o:=(n.ns j).1;have ok:=o.hv.ok;have w:=h.sx j;have U:=n.last j;have I:=w.tries hn;have a1:(p.sd j).c.kc=max 0 ((p.sd j).c.last-(p.sd j).c.next):=Z;have a2:(p.sd j).c.flight=(p.sd j).c.next-(p.sd j).c.gi:=Z;have a3:=ok.gi
 rcases n.kp j I (fun f1 f2=>(h.hz c0 rd G j O O).1)with⟨k1,k2⟩ | ⟨k,op,e2,e3,e4⟩
 ·-- both halves are through
  left
  have t:(p.sd j).c.shut=true:=by
   cases hs:(p.sd j).c.shut with
   | true=>rfl
   | false=>have:=w.ci.sf hs;omega
  have h1:=U.2 t;have h2:=w.ci.fa (.inr k1);have h3:=(n.dp j).gi;refine⟨Pr.PV.kp n.pv n.ft j,⟨_,_,Pr.C8 n.ft j⟩,fun i=>(by rw[(kN p j i).1,(kN p j i).2];exact n.f2.cl i),fun i=> ?_⟩
  rcases rK (i:=j) (j:=i)with rfl | rfl
  ·exact k2
  have A:=(n.ns (!j)).1.hv;rw[LI]at A;rw[(kM p j).2];exact A.rch O
 right
 have g:G1 _ p (p.kp j) j ((p.sd j).c.tick p.now).2:=⟨op.sv,op.rv,op.xv,e2,e3,e4⟩;have V:=(k.ns j).1;have dn:=k.dp (!j);rw[LI,e2]at dn;have a5:=V.hv.bd;have hN:=o.nn.1
 have W:∃y:Cn,y.Ok/\y.st≠0/\((p.kp j).sd j).c=(y.push p.now).1/\(((p.sd j).c.pend≠1\/(p.sd j).c.t8.due p.now=true)->y.pend≠1):=by
  rw[(kM p j).1]
  rcases wI ok o.now o.st I with z | z
  ·have h1:=V.st;rw[(kM p j).1]at h1;omega
  exact z
 have an:∀i M T,Ak p p.wire i M T->Ak (p.kp j) (p.kp j).wire i M T/\(((p.kp j).sd j).c.pend≠1->i= !j->M<=((p.kp j).sd i).c.gi\/∃f∈(p.kp j).wire,f.dst=i/\M<=iF ((p.kp j).sd i).c.cf.ki f.s):=fun i M T x=>by
  rw[e3];exact g.ak ⟨a5.1,O⟩ dn.A2 x
 refine⟨⟨_,_,k⟩,h.g1 n k g (by rw[op.De];exact w.lR) (oP p j) (fun f B=> ?_) (fun f B=>by cases B) (by rw[op.gi];exact h.ub j) (fun i M T x=> ?_) (fun i T hx ha x=> ?_),op.xv.ex.nd (fun C=>w.ni.nd C),?_,⟨_,_,g⟩,fun M T hT x=> ?_⟩
 ·rcases h.tk f B with z | z
  ·cases z
  exact .inr (z.mn g.mn)
 ·have h1:=h.ak i M T x;rw[LG]at h1|-;exact(an i M T h1).1
 ·have h1:=h.fk i T hx ha x;rw[LG]at h1|-;rw[e3];have A:=(n.ns (!i)).1.hv;have E:=(k.ns (!i)).1.hv;rw[LI]at A E;refine g.fk A E (k.dp i).gi (k.ns i).1.nx (fun e u1 u2 u3=> ?_) h1;subst e
  cases C:(p.sd j).c.dl.due p.now with
  | false=>exact .inl Z
  | true =>
   refine .inr ?_;rw[op.gi]at u1;have F:=o.hv.nl
   have t:(p.sd j).c.shut=true:=by
    cases hs:(p.sd j).c.shut with
    | true=>rfl
    | false=>rw[hs]at F;simp at F;omega
   have h2:=U.2 t;have h3:=o.st;have h4:=ok.st;have h5:=w.ci.fa;obtain⟨d,d1,d2,d3,d4,d5⟩:=tF ok o.now (Le O) I C O;refine⟨_,Mg.2 ⟨_,d5,Z⟩,Z,?_⟩;have hm:=ok.go;show(d.nB (p.sd j).c.gi (min (p.sd j).c.next ((p.sd j).c.gi+(p.sd j).c.go))).fin=true;have hp:=(gz d { dE with s:=d.data (p.sd j).c.gi (min (p.sd j).c.next ((p.sd j).c.gi+(p.sd j).c.go)),fin:=d.shut&&decide (d.last<min (p.sd j).c.next ((p.sd j).c.gi+(p.sd j).c.go)) } (p.sd j).c.gi).2.2.1;refine hp.trans ?_;show(d.shut&&decide (d.last<min (p.sd j).c.next ((p.sd j).c.gi+(p.sd j).c.go)))=true;rw[d2,t,d3,Le O];rfl
 ·obtain⟨y,J,-,L,-⟩:=W;rw[L];exact nC J o.now
 have S:=an (!j) M T x;obtain⟨x0,u⟩:=x;rw[LI]at u;have m:=g.mn (!j)
 rcases u with u | ⟨f,B,u,X⟩ | ⟨u,X⟩
 ·exact .inl (LE u m.gi)
 ·exact .inr ⟨f,by rw[e3];exact LR _ B,u,by rw[m.cf];exact X⟩
 have al:=w.al u;refine S.2 ?_ Z
 have C:(p.sd j).c.t8.due p.now=true:=by
  unfold Al.due;rw[al.1,Le al.2.2,Le (show(p.sd j).c.t8.ticks<=p.now-(p.sd j).c.t8.since by omega)];rfl
 obtain⟨y,J,L,y3,y4⟩:=W;rw[y3];exact wJ J o.now L (y4 (.inr C))
theorem Cl.If {P:Pr.BX}{p:Pr}{q N:Bool->Int}{a b:Int}(h:Cl P p [] q N a b)(i:p.now<1000000):Cl P { p with now:=p.now+1 } [] q N a b/\Pr.Fit { p with now:=p.now+1,wire:=[] } a b:=by
 have d:=h.ft;have j:=d.now;refine⟨⟨⟨h.pv.s,h.pv.r,h.pv.w,h.pv.g⟩,⟨d.a,d.b,Kt,d.wire,d.due,d.log,d.q,d.r⟩,h.dp,⟨h.f2.cl,h.f2.le,h.f2.sm⟩,h.calm,h.st,h.hs,h.pl,h.prt,h.qg⟩,d.a,d.b,Kt,fun f e=>IZ,fun f e=>IZ,d.log,?_,d.r⟩;have h1:p.Q<=a:=d.q;refine LE ?_ h1;unfold Pr.Q;show(([]:List Fl).length:Int)+p.rem+p.a.c.Cu+p.b.c.Cu<=(p.wire.length:Int)+p.rem+p.a.c.Cu+p.b.c.Cu;have:(([]:List Fl).length:Int)=0:=Z;omega
theorem Tn.tick {P:Pr.BX}{p:Pr}{q N:Bool->Int}(h:Tn P p q N)(J:P.Ok)(rd:∀i,Rd P p i)(K:p.now+1<1692) :
  Ek P N p.tick\/(Tn P p.tick q N/\(∀i,wU (p.tick.sd i).c)/\Fo P N p p.tick []/\∀i M T,T<=p.now+1->Ak p p.wire i M T->M<=(p.tick.sd i).c.gi\/∃f∈p.tick.wire,f.dst=i/\M<=iF (p.tick.sd i).c.cf.ki f.s):=by
 obtain⟨a0,b0,j⟩:=h.cl;have d:∀i,40<=P.r i:=fun i=>(h.par i).1;obtain⟨L,S⟩:=j.If O;obtain⟨d1,d2⟩:=kL (p:={ p with now:=p.now+1 }) h.w
 have e:({ p with now:=p.now+1 }:Pr).deliver=p.wire.foldl Pr.kd { p with now:=p.now+1,wire:=[] }:=by
  unfold Pr.deliver;rw[d1,d2]
 have base:Fo P N p { p with now:=p.now+1,wire:=[] } p.wire :=
  ⟨Z,fun i=>.refl _,fun i=>(h.sx i).If,fun f a=>.inl a,fun f a=>a,fun i=>(j.dp i).gi,fun f a=>(by cases a),fun i M T x=>by(rw[LP];exact x),fun i T _ _ x=>by(rw[LP];exact x),fun i=>⟨Z,Z,Z⟩,h.rw⟩
 unfold Pr.tick;rw[e]
 rcases Cl.fold J (Fo P N p) (fun _ _ _ _ _ U V W X x5 x6 x7=>Fo.step ⟨_,_,j⟩ U V W X x5 x6 x7) p.wire (L.off S) base with k | ⟨E,l⟩
 ·exact .inl ((k.kp false).kp true)
 generalize p.wire.foldl Pr.kd { p with now:=p.now+1,wire:=[] }=p2 at E l|-;have F:p2.now<1692:=by rw[l.now];exact K
 rcases l.kp j rd d E F false with k | ⟨⟨a3,b3,c3⟩,G,u,y,⟨K3,l3,t⟩,A⟩
 ·exact .inl (k.kp true)
 have b6:(p2.kp false).now<1692:=by rw[t.now];exact F
 rcases G.kp j rd d c3 b6 true with k | ⟨c4,b,n,B,⟨K4,l4,o⟩,C⟩
 ·exact .inl k
 refine .inr ⟨⟨c4,b.sx,fun i=> ?_,fun f a=> ?_,b.rw,fun i=>⟨d i,?_⟩,fun i=> ?_,fun i g=> ?_⟩,fun i=> ?_,b,fun i M T hT x=> ?_⟩
 ·rw[o.now,t.now];rw[t.now]at n
  cases i
  ·rw[show((p2.kp false).kp true).sd false=(p2.kp false).sd false from o.EG];exact u
  exact n
 ·obtain⟨w1,w2⟩:=b.w f a;exact⟨w1,Mu w2⟩
 ·rw[(b.mn i).cf];exact(h.par i).2
 ·rw[(b.sd i).2.1];exact h.all i
 ·rw[(b.sd i).2.2]at g;exact(b.mn i).sh (h.cs i g)
 ·cases i
  ·rw[show((p2.kp false).kp true).sd false=(p2.kp false).sd false from o.EG];exact y
  exact B
 have a1:=l.now;have a2:=t.now
 cases i
 ·have I:=G.ak false M T x;rw[LG]at I;exact C M T O I
 have h2:=l.ak true M T x;rw[LG]at h2;have m:=o.mn true
 rcases A M T O h2 with z | ⟨f,a,z1,z2⟩
 ·exact .inl (LE z m.gi)
 exact .inr ⟨f,by rw[o.wire];exact LR _ a,z1,by rw[m.cf];exact z2⟩
structure Us (N:Bool->Int)(p p':Pr):Prop where
 now:p'.now=p.now
 mn:∀i,Mn (p.sd i).c (p'.sd i).c
 ak:∀i M T,Ak p p.wire i M T->Ak p' p'.wire i M T
 fk:∀i T,Fk N p p.wire i T->Fk N p' p'.wire i T
 ww:∃l,p'.wire=p.wire++l
 sb:(∀i,wU (p.sd i).c)->∀i,wU (p'.sd i).c
theorem Us.trans {N:Bool->Int}{p p' a:Pr}(h:Us N p p')(k:Us N p' a):Us N p a :=
 ⟨k.now.trans h.now,fun i=>(h.mn i).trans (k.mn i),fun i M T x=>k.ak i M T (h.ak i M T x),fun i T x=>k.fk i T (h.fk i T x),(by obtain⟨l,e⟩:=h.ww;obtain⟨m,b⟩:=k.ww;exact⟨l++m,by rw[b,e,LO]⟩),fun x=>k.sb (h.sb x)⟩
theorem Tn.user {P:Pr.BX}{p p':Pr}{q N:Bool->Int}{i:Bool}(h:Tn P p q N)(n:∃a b,Cl P p' [] q N a b)(u:UO p p' i)(o:A9 P p' i)(r:(p'.sd i).closed=true->(p'.sd i).c.shut=true):Tn P p' q N/\Us N p p':=by
 obtain⟨l,op,k⟩:=u.op;have g:G1 True p p' i l:=⟨op.sv,op.rv,op.xv,u.EG,k,u.now⟩;obtain⟨a,b,t⟩:=h.cl;obtain⟨z,A,d⟩:=n;have dn:=d.dp (!i);rw[LI,u.EG]at dn;have y:=(d.ns i).1.hv.bd;have B:=(d.ns i).1.nn.1;refine⟨⟨⟨_,_,d⟩,fun j=> ?_,fun j=> ?_,fun f e=> ?_,fun j=> ?_,fun j=>⟨(h.par j).1,by rw[(g.mn j).cf];exact(h.par j).2⟩,fun j=> ?_,fun j=> ?_⟩,u.now,g.mn,fun j M T x=> ?_,fun j T x=> ?_,⟨_,k⟩,fun x j=> ?_⟩
 ·rcases rK (i:=i) (j:=j)with rfl | rfl
  ·have:=(h.sx j).step op.rv op.xv (by rw[op.De];exact(h.sx j).lR);rw[u.now];exact this
  rw[u.EG,u.now];exact h.sx _
 ·rcases rK (i:=i) (j:=j)with rfl | rfl
  ·rw[u.now];exact op.xv.ex.nd fun _=>h.nd j
  rw[u.EG,u.now];exact h.nd _
 ·rw[k]at e;rw[u.now]
  rcases LH.1 e with e | e
  ·exact h.w f e
  obtain⟨x,-,rfl⟩:=Mg.1 e;exact⟨Z,Lb _⟩
 ·rcases rK (i:=i) (j:=j)with rfl | rfl
  ·exact o
  unfold A9;rw[u.EG];exact h.rw _
 ·rcases rK (i:=i) (j:=j)with rfl | rfl
  ·rw[u.all];exact h.all _
  rw[u.EG];exact h.all _
 ·rcases rK (i:=i) (j:=j)with rfl | rfl
  ·exact r
  rw[u.EG];exact h.cs _
 ·rw[k];exact(g.ak ⟨y.1,O⟩ dn.A2 x).1
 ·rw[k];have s:=(t.ns (!j)).1.hv;have m:=(d.ns (!j)).1.hv;rw[LI]at s m;exact g.fk s m (d.dp j).gi (d.ns j).1.nx (fun _ _ _ _=>.inl trivial) x
 rcases rK (i:=i) (j:=j)with rfl | rfl
 ·exact op.xv.IG (x j)
 rw[u.EG];exact x _
theorem Us.wm {N:Bool->Int}{p p':Pr}(h:Us N p p'){f:Fl}(a:f∈p.wire):f∈p'.wire:=by
 obtain⟨l,e⟩:=h.ww;rw[e];exact LR _ a
structure Ud (P:Pr.BX)(N:Bool->Int)(p:Pr)(i:Bool):Prop where
 rd:Rd P p i
 fu:min ((p.sd i).c.gi+40) (N i+1)<=(p.sd i).c.last
 cl:(p.sd i).c.last=N i+1->(p.sd i).closed=true
theorem Aa (p:Pr)(i:Bool)(n:Int):((p.send i n).sd i).all=(p.sd i).all/\((p.send i n).sd i).got=(p.sd i).got/\((p.send i n).sd i).closed=(p.sd i).closed:=by
 unfold Pr.send;dsimp only;split
 ·exact⟨Z,Z,Z⟩
 split
 ·exact⟨Z,Z,Z⟩
 rw[af]
 cases i <;> exact⟨Z,Z,Z⟩
theorem tH {c:Cn}(h2:2<=c.st)(now:Int):(c.close now).1.shut=true:=by
 unfold Cn.close;split
 ·rename_i h
  rcases h with h | h
  ·omega
  exact h
 dsimp only;rw[L7 O];split
 ·exact(ik { c with shut:=true } now).1.shut
 exact(ik _ now).1.shut.trans (kI { c with shut:=true } now 5).shut
theorem Tn.send {P:Pr.BX}{p:Pr}{q N:Bool->Int}(h:Tn P p q N)(i:Bool):Tn P (p.send i 1000) q N/\Us N p (p.send i 1000)/\min (((p.send i 1000).sd i).c.gi+40) (N i+1)<=((p.send i 1000).sd i).c.last:=by
 obtain⟨a,b,f⟩:=h.cl;obtain⟨B,C,E⟩:=Aa p i 1000;have ha:=h.all i
 have hs:(((p.send i 1000).sd i).str.length:Int)<=N i:=by
  unfold Sd.str;rw[Lg,B];omega
 obtain⟨o,u⟩:=f.send i 1000 (h.sx i).p2 hs;have n:=(f.ns i).1;have r:=(f.pv.r i).1.pi;have r2:=r.ok.Cv;have r3:=r.rd;obtain⟨l,op,-⟩:=u.op;obtain⟨F,G⟩:=h.user ⟨_,_,o⟩ u ((h.rw i).keep n.hv (o.ns i).1.hv (.of op.sv op.rv op.xv) C O) (fun g=>op.xv.ex.sh (h.cs i (by rw[<-E];exact g)));refine⟨F,G,?_⟩;have k:=(f.ft.sd i);have I:=(o.ft.sd i);have t:=op.gi;have J:=n.hv.ok.gi;have b4:=(h.sx i).ci.ub;have j:=n.hv.nl;have K:=(h.sx i).ci.sf;have L:=n.st;have w:=(f.pv.s i).1.sh;have x:=f.f2.cl i;have bl:=(h.par i).2;have y:=k.last;have A:=I.last;have hlen:=k.len;have M:=k.s0;have S:=k.sl;have T:=(f.last i);rw[A];unfold Pr.send at *;dsimp only at *;split at A
 ·rename_i d;rw[L9 d]at *
  rcases d with d | d
  ·have:=x d;have:=k.EF;omega
  omega
 rename_i d;rw[L7 d]at *
 have z:(p.sd i).c.shut=false:=by
  cases e:(p.sd i).c.shut with
  | false=>rfl
  | true=>exact absurd (.inl (w e)) d
 have m:(p.sd i).c.refusal=0:=by
  unfold Cn.refusal;have:=K z;rw[L7 O,L9 ⟨z,O⟩]
 have U:¬(p.sd i).c.refusal≠0:=by rw[m];decide
 rw[L7 U]at *;rw[af]at t|-;have V:((p.kl i { (p.sd i)with c:=((p.sd i).c.send p.now (Pr.bytes (p.sd i) 1000)).1,sent:=(p.sd i).sent+(p.sd i).c.pd (Pr.bytes (p.sd i) 1000) }).sd i)={ (p.sd i)with c:=((p.sd i).c.send p.now (Pr.bytes (p.sd i) 1000)).1,sent:=(p.sd i).sent+(p.sd i).c.pd (Pr.bytes (p.sd i) 1000) }:=by cases i <;> rfl
 rw[V]at t|-;dsimp only at t|-
 have W:((Pr.bytes (p.sd i) 1000).length:Int)=N i-(p.sd i).sent:=by
  unfold Pr.bytes;rw[Lt,Lg];omega
 have X:(p.sd i).c.pd (Pr.bytes (p.sd i) 1000)=min (N i-(p.sd i).sent) (max 0 ((p.sd i).c.cf.keep-(p.sd i).c.held.length)):=by
  unfold Cn.pd Cn.space;rw[W,L7 (by rw[m];decide)]
 have a0:(p.sd i).c.last=(p.sd i).c.base+(p.sd i).c.held.length:=Z;rw[z]at j
 simp at j
 show min (((p.sd i).c.send p.now (Pr.bytes (p.sd i) 1000)).1.gi+40) (N i+1)<=1+((p.sd i).sent+(p.sd i).c.pd (Pr.bytes (p.sd i) 1000));rw[X];omega
theorem Ab (p:Pr)(i:Bool)(n:Int):((p.recv i n).sd i).c=((p.sd i).c.recv p.now n).1/\((p.recv i n).sd i).closed=(p.sd i).closed:=by
 unfold Pr.recv;dsimp only;split
 ·cases i <;> exact⟨Z,Z⟩
 rw[af]
 cases i <;> exact⟨Z,Z⟩
theorem Rd.keep {P:Pr.BX}{p p':Pr}{i:Bool}{N:Int}(h:Rd P p i)(d:Hv (p.sd i).c N)(a:Hv (p'.sd i).c N)(m:Mn (p.sd i).c (p'.sd i).c)(g:(p'.sd i).got=(p.sd i).got)(e:(p'.sd i).c.expected=(p.sd i).c.expected):Rd P p' i:=by
 rcases h with h | ⟨h1,h2⟩
 ·have h1:=d.exp h;exact .inl (a.rch O)
 have f:=m.ann
 cases hr:(p.sd i).c.reached with
 | true =>
  have h1:=d.exp hr;exact .inl (a.rch O)
 | false =>
  have j:(p.sd i).c.expected=(p.sd i).c.bx.nx:=K9
  have b:(p'.sd i).c.reached=false:=by
   cases b:(p'.sd i).c.reached with
   | false=>rfl
   | true =>
    have k:=a.exp b;have:=d.rch O;rw[hr]at this
    cases this
  have l:(p'.sd i).c.expected=(p'.sd i).c.bx.nx:=by unfold Cn.expected;rw[L7 (by rw[b];decide)]
  exact .inr ⟨by rw[g];omega,by rw[g];omega⟩
theorem Tn.recv {P:Pr.BX}{p:Pr}{q N:Bool->Int}(h:Tn P p q N)(i:Bool):Tn P (p.recv i 1000) q N/\Us N p (p.recv i 1000)/\Rd P (p.recv i 1000) i/\((p.recv i 1000).sd i).c.gi=(p.sd i).c.gi:=by
 obtain⟨a,b,f⟩:=h.cl;obtain⟨j,u⟩:=f.recv i (n:=1000) D (h.sx i).p2;have d:=(f.ns i).1;have o:=(j.ns i).1;obtain⟨z,A⟩:=Ab p i 1000;obtain⟨l,op,-⟩:=u.op;have m:=Mn.of op.sv op.rv op.xv;have r:=(f.pv.r i).1.pi;have B:=(j.pv.r i).1.pi;have L:=r.ok.E1;have M:=r.rd;have S:=B.rd;have hlen:=(f.ft.sd (!i)).len;have C:=d.hv.nx;have t:=h.all (!i);have k:=(uB d.hv (fun _=>d.gi) d.now (by have:=d.st;omega) (h.sx i).p2 (n:=1000) D).2 O;rw[<-z]at k;obtain⟨T,U,e⟩:=k
 have w:Rd P (p.recv i 1000) i:=by
  have x:(p.sd i).c.reached=true->((p.recv i 1000).sd i).c.reached=true:=fun g=>by
   have h1:=d.hv.exp g;exact o.hv.rch (by rw[op.exp];omega)
  have y:(((p.recv i 1000).sd i).got.length:Int)=((p.recv i 1000).sd i).c.bx.nx:=O
  rcases e with⟨e,V⟩ | e | e
  ·rcases h.rw i with g | g
   ·exact .inl (x g)
   have:=g O;have W:=m.ann;exact .inr ⟨y,O⟩
  ·have E:=d.hv.ok.st;have X:=d.st;unfold aV at e;rw[Lu]at e;exact .inl (x (d.hv.ov (d.hv.st O)))
  have F:=o.hv.ok.ring;have G:((p.recv i 1000).sd i).c.room=P.r i:=(j.pv.s i).1.room;have I:(p.sd i).c.room=P.r i:=(f.pv.s i).1.room;unfold Cn.most at e;rw[I]at e;exact .inr ⟨y,O⟩
 obtain⟨J,K⟩:=h.user ⟨_,_,j⟩ u (w.imp id fun g _=>g.2) (fun g=>m.sh (h.cs i (by rw[<-A];exact g)));exact⟨J,K,w,op.gi⟩
theorem Tn.shut {P:Pr.BX}{p:Pr}{q N:Bool->Int}(h:Tn P p q N)(i:Bool)(o:((p.sd i).str.length:Int)=N i)(rd:Rd P p i):Tn P (p.shut i) q N/\Us N p (p.shut i)/\Rd P (p.shut i) i/\((p.shut i).sd i).c.gi=(p.sd i).c.gi/\((p.shut i).sd i).closed=true:=by
 obtain⟨a,b,j⟩:=h.cl;obtain⟨k,u⟩:=j.shut i (h.sx i).p2 o;have n:=(j.ns i).1;have r:=(k.ns i).1;have t:=n.st
 have e:((p.shut i).sd i).closed=true/\((p.shut i).sd i).c.shut=true/\((p.shut i).sd i).got=(p.sd i).got:=by
  unfold Pr.shut;dsimp only;split
  ·rename_i g;exact⟨g,h.cs i g,Z⟩
  rename_i g;split
  ·rename_i w
   exfalso
   apply w
   unfold Cn.z8;rw[L7 (fun f=>by rcases f with f | f;omega;exact g ((j.pv.s i).1.sh f))]
  rw[af];have x:=tH (c:=(p.sd i).c) O p.now
  cases i <;> exact⟨Z,x,Z⟩
 obtain⟨y,z,A⟩:=e;obtain⟨l,op,-⟩:=u.op;have m:=Mn.of op.sv op.rv op.xv;have d:=rd.keep n.hv r.hv m A op.exp;obtain⟨B,C⟩:=h.user ⟨_,_,k⟩ u (d.imp id fun g _=>g.2) (fun _=>z);exact⟨B,C,d,op.gi,y⟩
theorem Tn.nv {P:Pr.BX}{p:Pr}{q N:Bool->Int}(h:Tn P p q N)(i:Bool):Tn P (p.nv i) q N/\Us N p (p.nv i)/\Ud P N (p.nv i) i:=by
 obtain⟨r,j,x⟩:=h.send i;obtain⟨c,d,k,l⟩:=r.recv i;have y:=(d.mn i).last;obtain⟨a,b,m⟩:=c.cl;have hs:=(m.ft.sd i);have n:=c.all i;have z:=(m.ns i).1.st;have f:=hs.last;have A:=hs.EF;unfold Pr.nv;dsimp only;split
 ·rename_i g;obtain⟨s,o,t,u,w⟩:=c.shut i O k;have B:=(o.mn i).last;exact⟨s,(j.trans d).trans o,t,by rw[u,l];omega,fun _=>w⟩
 rename_i g;refine⟨c,j.trans d,k,by rw[l];omega,fun e=> ?_⟩;exact absurd ⟨O,O⟩ g
theorem Us.EG {P:Pr.BX}{N:Bool->Int}{p:Pr}{i:Bool}(h:Ud P N p (!i)){p':Pr}(e:p'.sd (!i)=p.sd (!i)):Ud P N p' (!i):=by
 refine⟨?_,by rw[e];exact h.fu,by rw[e];exact h.cl⟩;unfold Rd;rw[e];exact h.rd
theorem nJ (p:Pr)(i:Bool):(p.nv i).sd (!i)=p.sd (!i):=by
 have a:∀(p:Pr),(p.send i 1000).sd (!i)=p.sd (!i):=fun p=>by
  unfold Pr.send;dsimp only;split
  ·rfl
  split
  ·rfl
  rw[af];cases i <;> rfl
 have b:∀(p:Pr),(p.recv i 1000).sd (!i)=p.sd (!i):=fun p=>by
  unfold Pr.recv;dsimp only;split
  ·cases i <;> rfl
  rw[af];cases i <;> rfl
 have c:∀(p:Pr),(p.shut i).sd (!i)=p.sd (!i):=fun p=>by
  unfold Pr.shut;dsimp only;split
  ·rfl
  split
  ·rfl
  rw[af];cases i <;> rfl
 unfold Pr.nv;dsimp only;split
 ·exact(c _).trans ((b _).trans (a p))
 exact(b _).trans (a p)
theorem Tn.Cm {P:Pr.BX}{p:Pr}{q N:Bool->Int}(h:Tn P p q N):Tn P p.Cm.1 q N/\Us N p p.Cm.1/\∀i,Ud P N p.Cm.1 i:=by
 obtain⟨a,b,d1⟩:=h.nv false;obtain⟨c,d,d2⟩:=a.nv true;refine⟨c,b.trans d,fun i=> ?_⟩
 cases i
 ·exact Us.EG (i:=true) d1 (nJ (p.nv false) true)
 exact d2
def Pr.E5 (p:Pr):Pr:=p.Cm.1.tick
theorem wM {s:Sc}(ok:s.Ok){m:Int}(a:1<=m)(h:s.gi=s.next):s.pipe m=0:=by
 obtain⟨p1,b,c⟩:=kW ok a;have d:=(aN ok.Eg).1;have e:=(aN (bt ok a).1).1;omega
theorem rL {c:Cn}(ok:c.Ok)(a:c.gi=c.next)(e:c.next<c.last)(hw:c.next<c.limit)(f:c.largest<=2*(c.limit-c.next)):0<c.allowed:=by
 have b:c.kc=max 0 (c.last-c.next):=Z;have h:=ok.go;have d:=wM ok.sc (m:=c.go) O a;unfold Cn.allowed;rw[L7 O,d,L7 (fun g=>g.1 Z)];rw[L9]
 ·omega
 rcases(show min (min c.kc c.go) (c.limit-c.next)=c.go\/min (min c.kc c.go) (c.limit-c.next)=c.kc\/min (min c.kc c.go) (c.limit-c.next)=c.limit-c.next by omega)with g | g | g
 ·exact .inl g
 ·exact .inr (.inl ⟨g,.inl a⟩)
 exact .inr (.inr O)
structure Rn (N:Bool->Int)(p p':Pr):Prop where
 now:p'.now=p.now+1
 mn:∀i,Mn (p.sd i).c (p'.sd i).c
 r1:∀i,min (p.sd i).c.next (N i+1)<=(p'.sd (!i)).c.expected+1
 ak:∀i M T,Ak p p.wire i M T->Ak p' p'.wire i M T
 IH:∀i M T,T<=p.now+1->Ak p p.wire i M T->M<=(p'.sd i).c.gi\/∃f∈p'.wire,f.dst=i/\M<=iF (p'.sd i).c.cf.ki f.s
 wa:∀i M,(∃f∈p.wire,f.dst=i/\M<=iF (p.sd i).c.cf.ki f.s)->M<=(p'.sd i).c.gi
 st:∀i,(p.sd i).c.gi=(p.sd i).c.next->(p.sd i).c.next<=N i->(p.sd i).c.next<(p'.sd i).c.next
 fu:∀i,min ((p.sd i).c.gi+40) (N i+1)<=(p'.sd i).c.last
 fk:∀i T,N i<=(p.sd (!i)).c.expected->Fk N p p.wire i T->Fk N p' p'.wire i T
 fw:∀i,N i<=(p.sd (!i)).c.expected->(∃f∈p.wire,f.dst=(!i)/\f.s.fin=true)->N i<(p'.sd (!i)).c.expected
 fs:∀i,(p.sd i).c.gi=N i+1->Fk N p' p'.wire i (p.now+240)
theorem Tn.round {P:Pr.BX}{p:Pr}{q N:Bool->Int}(h:Tn P p q N)(hs:∀i,wU (p.sd i).c)(hP:P.Ok)(hn:p.now+1<1692)(hq:∀i,q i<=1):Ek P N p.E5\/(Tn P p.E5 q N/\(∀i,wU (p.E5.sd i).c)/\Rn N p p.E5):=by
 obtain⟨n,d,d1⟩:=h.Cm;have o:=d.sb hs;unfold Pr.E5;generalize p.Cm.1=p1 at n d d1 o|-;have ad:=d.now
 rcases n.tick hP (fun i=>(d1 i).rd) O with k | ⟨t2,Iv,fo,el⟩
 ·exact .inl k
 refine .inr ⟨t2,Iv,?_⟩;obtain⟨a0,b0,c0⟩:=h.cl;obtain⟨a1,b1,j⟩:=n.cl;obtain⟨a2,b2,B⟩:=t2.cl;have s:∀i,40<=P.r i:=fun i=>(h.par i).1
 have t:∀i,N i<=(p.sd (!i)).c.expected->(p1.sd (!i)).c.reached=true\/(N i<=(p1.sd (!i)).c.expected/\N i<(p1.sd (!i)).c.ann):=fun i l=>by
  have b:=(j.ns (!i)).1.hv;rw[LI]at b;have hm:=(d.mn (!i)).exp;have hp:=s (!i)
  rcases(d1 (!i)).rd with g | ⟨g1,C⟩
  ·exact .inl g
  cases hr:(p1.sd (!i)).c.reached with
  | true=>exact .inl Z
  | false =>
   have e:(p1.sd (!i)).c.expected=(p1.sd (!i)).c.bx.nx:=K9
   exact .inr ⟨O,O⟩
 have S:∀i T,N i<=(p.sd (!i)).c.expected->Fk N p1 p1.wire i T->Fk N p1.tick p1.tick.wire i T:=fun i T l x=>by
  rcases t i l with g | ⟨g1,C⟩
  ·have b:=(j.ns (!i)).1.hv;have u:=(B.ns (!i)).1.hv;rw[LI]at b u;have h1:=b.exp g;have h2:=(fo.mn (!i)).exp;exact .inl (u.rch O)
  have:=fo.fk i T g1 C x;rw[LG]at this;exact this
 refine⟨by rw[fo.now,ad],fun i=>(d.mn i).trans (fo.mn i),fun i=> ?_,fun i M T x=> ?_,fun i M T hT x=>el i M T O (d.ak i M T x),fun i M x=> ?_,fun i U e2=> ?_,fun i=> ?_,fun i T l x=>S i T l (d.fk i T x),fun i l x=> ?_,fun i e=> ?_⟩
 ·-- what was sent has come in
  have b:=(B.ns (!i)).1.hv;rw[LI]at b;have h1:=(d.mn i).nx;have h2:=hq i;have F:=pY b.ok;have a5:=b.ok.bx.E1;have bb:=b.ok.bx.Cv
  rcases MA ((p1.tick.sd (!i)).c.expected+1) (min (p.sd i).c.next (N i+1))with g | g
  ·exfalso
   apply b.ok.bx.FS
   have d1:=j.dp i;rw[LG]at d1
   have w:(p1.tick.sd (!i)).c.bx.has ((p1.tick.sd (!i)).c.bx.nx+1-1):=by
    rcases d1.safe ((p1.tick.sd (!i)).c.bx.nx+1) O O O with z | ⟨x,l,z1,z2,z3⟩
    ·exact(fo.mn (!i)).has _ z
    obtain⟨f,A,U,rfl⟩:=pf l
    rcases fo.tk f A with y | y
    ·cases y
    have V:=y.2.2.1;rw[U,LI]at V;exact V O _ O O
   rw[show(p1.tick.sd (!i)).c.bx.nx+1-1=(p1.tick.sd (!i)).c.bx.nx by omega]at w;exact w
  exact g
 ·have:=fo.ak i M T (d.ak i M T x);rw[LG]at this;exact this
 ·obtain⟨f,A,rfl,W⟩:=x
  rcases fo.tk f (d.wm A)with y | y
  ·cases y
  have y1:=y.1;rw[(d.mn f.dst).cf]at y1;omega
 ·-- a side that waits is told of the room
  have E:=d.mn i;have G:=fo.mn i;have ok:=(B.ns i).1.hv.ok;have o1:=(j.ns i).1.hv.ok.gi;have o2:=ok.gi;have h1:=E.gi;have h2:=E.nx;have h3:=G.gi;have h4:=G.nx;have h5:=(d1 i).fu;have X:=G.last;have m:=t2.sx i;have hR:=m.lR
  rcases MA (p.sd i).c.next (p1.tick.sd i).c.next with g | g
  ·exact g
  exfalso
  obtain⟨w1,w2⟩:=fo.hz j (fun i=>(d1 i).rd) s i O O;have I:=(B.ns i).1.st;have ag:=ok.st;have bc:=m.ci.fa;obtain⟨-,s2,-⟩:=Iv i (Le O);have:=rL ok O O O O;omega
 ·have h1:=(d1 i).fu;have h2:=(d.mn i).gi;have h3:=(fo.mn i).last;omega
 ·obtain⟨f,A,x1,W⟩:=x
  rcases t i l with g | ⟨g1,C⟩
  ·have b:=(j.ns (!i)).1.hv;rw[LI]at b;have h1:=b.exp g;have h2:=(fo.mn (!i)).exp;omega
  rcases fo.tk f (d.wm A)with y | y
  ·cases y
  have y4:=y.2.2.2;rw[x1,LI]at y4;exact y4 W g1 C
 -- the end of the stream has been sent
 have E:=d.mn i;have J:=(j.ns i).1;have ok:=J.hv.ok;have o1:=ok.gi;have h1:=E.gi;have h5:=(d1 i).fu;have hl:=(j.last i).1;have b:=(j.ns (!i)).1.hv;rw[LI]at b;have a3:=(j.dp i).gi;have K:=(d1 i).cl O;have L:=n.cs i K;have m:=n.sx i;have I:=J.st;have ag:=ok.st;have bc:=m.ci.fa
 have l:N i<=(p.sd (!i)).c.expected:=by
  have:=(c0.dp i).gi;omega
 refine S i _ l ?_
 rcases MA (N i+1) (p1.sd i).c.gi with g | g
 ·exact .inl (b.rch O)
 have be:ae (p1.sd i).c.st=true:=Le O;obtain⟨-,-,s3⟩:=o i be;have F:=J.nx
 have X:(p1.sd i).c.next=N i+2:=by
  rcases(show(p1.sd i).c.next=N i+1\/(p1.sd i).c.next=N i+2 by omega)with e | e
  ·exact absurd ⟨L,O⟩ s3
  exact e
 have hd:=m.ds (by show 0<(p1.sd i).c.next-(p1.sd i).c.gi;omega);have a4:=m.ni.dl hd;exact .inr (.inr ⟨O,X,hd,O⟩)
def Pr.seq (p:Pr):Nat->Pr
 | 0=>p
 | k+1=>(p.seq k).E5
theorem rM (p:Pr):∀k,p.seq (k+1)=p.E5.seq k:=by
 intro k
 induction k with
 | zero=>rfl
 | succ k a=>show(p.seq (k+1)).E5=(p.E5.seq k).E5;rw[a]
theorem Tn.through {P:Pr.BX}{p:Pr}{q N:Bool->Int}(h:Tn P p q N)(hs:∀i,wU (p.sd i).c)(F:P.Ok)(G:∀i,q i<=1){J:Nat}(I:∀i,N i<=20*J)(hn:p.now+10*J+242<1692):∃k,k<=10*J+241/\Ek P N (p.seq k):=by
 rcases Classical.em (∃k,k<=10*J+241/\Ek P N (p.seq k))with g | g
 ·exact g
 exfalso
 have run:∀k,k<=10*J+241->(Tn P (p.seq k) q N/\∀i,wU ((p.seq k).sd i).c)/\(p.seq k).now=p.now+k:=by
  intro k
  induction k with
  | zero=>intro _;exact⟨⟨h,hs⟩,by show p.now=p.now+((0:Nat):Int);omega⟩
  | succ k n =>
   intro l;obtain⟨⟨t,s⟩,e⟩:=n O
   rcases t.round s F O G with z | ⟨z,K,r⟩
   ·exact absurd ⟨k+1,l,z⟩ g
   exact⟨⟨z,K⟩,by show(p.seq k).E5.now=_;rw[r.now];omega⟩
 have R:∀k,k+1<=10*J+241->Rn N (p.seq k) (p.seq (k+1)):=fun k l=>by
  obtain⟨⟨t,s⟩,e⟩:=run k O
  rcases t.round s F O G with z | ⟨-,-,r⟩
  ·exact absurd ⟨k+1,l,z⟩ g
  exact r
 have mn:∀(i:Bool) (k d:Nat),k+d<=10*J+241->Mn ((p.seq k).sd i).c ((p.seq (k+d)).sd i).c:=fun i k d=>by
  induction d with
  | zero=>intro _;exact .refl _
  | succ d n=>intro l;exact(n O).trans ((R (k+d) l).mn i)
 have T:=fun k l=>(run k l).1.1
 have ns:∀(i:Bool) (k:Nat),k<=10*J+241->Ns ((p.seq k).sd i).c (p.seq k).now (N (!i)) (N i):=fun i k l=>by
  obtain⟨a,b,c⟩:=(T k l).cl;exact(c.ns i).1
 have di:∀(i:Bool) (k:Nat),k<=10*J+241->DI ((p.seq k).sd i).c ((p.seq k).sd (!i)).c (jY (!i) (p.seq k).wire) (jY i (p.seq k).wire) (q i) (N i):=fun i k l=>by
  obtain⟨a,b,c⟩:=(T k l).cl;have:=c.dp i;rw[LG]at this;exact this
 -- what has come in is GJ
 have ack:∀(i:Bool) (k:Nat) (M:Int),k+3<=10*J+241->M<=((p.seq k).sd (!i)).c.expected+1->M<=((p.seq (k+3)).sd i).c.gi:=fun i k M l L=>by
  have V:=(run k O).2;have w:=(run (k+1) O).2;have d:=di i k O
  have W:Ak (p.seq k) (p.seq k).wire i M ((p.seq k).now+2):=by
   refine⟨L,?_⟩
   rcases d.told with z | z | ⟨x,X,z⟩
   ·exact .inl O
   ·have:=((T k O).sx (!i)).al z;exact .inr (.inr ⟨z,O⟩)
   obtain⟨f,hf,e,rfl⟩:=pf X;exact .inr (.inl ⟨f,hf,e,O⟩)
  have a1:=(R k O).ak i M _ W;have m:=mn i (k+2) 1 O
  rcases(R (k+1) O).IH i M _ O a1 with z | z
  ·exact LE z m.gi
  exact(R (k+2) O).wa i M z
 have A:∀(i:Bool) (k:Nat),k+4<=10*J+241->min ((p.seq k).sd i).c.next (N i+1)<=((p.seq (k+4)).sd i).c.gi:=fun i k l =>
  ack i (k+1) _ O ((R k O).r1 i)
 have S:∀(i:Bool) (k:Nat),k+10<=10*J+241->min (((p.seq k).sd i).c.gi+20) (N i+1)<=((p.seq (k+10)).sd i).c.gi:=fun i k l=>by
  have f:=(R k O).fu i;have a:=A i (k+1) O;have a2:=A i (k+6) O;have m1:=(mn i k 1 O).gi;have o1:=(ns i (k+1) O).hv.ok.gi;have o5:=(ns i (k+5) O).hv.ok.gi;have m5:=(mn i (k+5) 5 O).gi;have x5:=(mn i (k+1) 4 O).nx;have x6:=(mn i (k+5) 1 O).nx;have st:=(R (k+5) O).st i;have B:=(mn i (k+1) 5 O).inc ((T (k+1) O).sx i).Ie;have w:k+1+4=k+5:=Z;have e2:k+1+5=k+6:=Z;have e3:k+5+1=k+6:=Z;have e4:k+5+5=k+10:=Z;have e5:k+6+4=k+10:=Z;rw[w]at x5 a;rw[e2]at B;rw[e3]at x6 st;rw[e4]at m5;rw[e5]at a2
  rcases MA ((p.seq (k+1)).sd i).c.next (min (((p.seq k).sd i).c.gi+20) (N i+1))with z | z
  ·by_cases y:((p.seq (k+5)).sd i).c.next=((p.seq (k+1)).sd i).c.next
   ·have:=st O O;omega
   omega
  omega
 have U:∀(i:Bool) (j:Nat),j<=J->min (1+20*(j:Int)) (N i+1)<=((p.seq (10*j)).sd i).c.gi:=fun i j=>by
  induction j with
  | zero =>
   intro _;have:=(ns i 0 O).gi;show min (1+20*((0:Nat):Int)) (N i+1)<=((p.seq 0).sd i).c.gi;omega
  | succ j n =>
   intro hj;have h1:=n O;have h2:=S i (10*j) O;rw[show 10*(j+1)=10*j+10 by omega];omega
 have E:∀i,N i<((p.seq (10*J+241)).sd (!i)).c.expected:=fun i=>by
  have u:=U i J (L6 _);have hj:=I i;have d:=(di i (10*J) O).gi;have m:=(mn (!i) (10*J) 241 O).exp
  rcases MA (N i+1) ((p.seq (10*J)).sd i).c.gi with z | z
  ·omega
  have fs:=(R (10*J) O).fs i O
  have fk:∀c:Nat,c<=239->Fk N (p.seq (10*J+1+c)) (p.seq (10*J+1+c)).wire i ((p.seq (10*J)).now+240):=fun c=>by
   induction c with
   | zero=>intro _;exact fs
   | succ c n =>
    intro hc;have C:=(mn (!i) (10*J) (1+c) O).exp;rw[<-P0]at C;exact(R (10*J+1+c) O).fk i _ O (n O)
  have f:=fk 239 (L6 _);obtain⟨m,hm⟩:∃m:Nat,m=10*J+240:=⟨_,Z⟩;rw[show 10*J+1+239=m by omega]at f;have C:=(mn (!i) (10*J) 240 O).exp;have m3:=(mn (!i) m 1 O).exp;have t:=T m O;have V:=(run (10*J) O).2;have w:=(run m O).2;have o:=(ns (!i) m O).hv;rw[LI]at o;rw[show 10*J+240=m from hm.symm]at C;rw[show 10*J+241=m+1 by omega]
  rcases f with f | f | ⟨f1,f2,f3,f4⟩
  ·have:=o.exp f;omega
  ·exact(R m O).fw i O f
  have:=t.nd i f3;omega
 refine g ⟨10*J+241,L6 _,?_⟩;obtain⟨a,b,c⟩:=(T (10*J+241) (L6 _)).cl;refine⟨c.pv,⟨_,_,c.ft⟩,c.f2.cl,fun i=> ?_⟩;have o:=(c.ns i).1.hv;have:=E (!i);rw[LI]at this;exact o.rch this
theorem Ek.recv {P:Pr.BX}{N:Bool->Int}{p:Pr}(h:Ek P N p)(i:Bool):Ek P N (p.recv i 1000)/\((p.recv i 1000).sd i).fin=true/\∀j,(p.sd j).closed=true:=by
 obtain⟨a,b,m⟩:=h.ft;have s:=h.re;have o:=Pr.PV.recv h.pv m i (n:=1000) D;have ok:=(m.sd i).c
 have q:∀j,(p.sd j).closed=true:=fun j=>by
  have h1:=h.re (!j);unfold Cn.reached at h1;rw[LD]at h1;have:=((h.pv.r (!j)).1.en h1.1).1;rw[LI]at this;exact this
 have u:=(h.pv.r i).1.pi.nx;have hlen:=(Pr.E3 m (!i));have B:=ok.bx.E1;have C:=ok.bx.Cv
 have w:(((p.sd i).c.bx.take 1000).rd=(p.sd i).c.bx.nx):=by
  unfold Bx.take;split
  ·omega
  show(p.sd i).c.bx.rd+min 1000 ((p.sd i).c.bx.nx-(p.sd i).c.bx.rd)=(p.sd i).c.bx.nx;omega
 have f:=(Bx.DG (p.sd i).c.bx 1000).1
 have l:(p.sd i).c.v8 1000=true:=by
  unfold Cn.v8 Cn.reached;have:=s i;unfold Cn.reached at this;dsimp only;rw[f,w,this]
  simp
 have he:(p.sd i).c.oB 1000=0:=by
  unfold Cn.oB;rw[L7 D,L7 (fun g=>by rw[l]at g;cases g.2.2)]
 have x:((p.sd i).c.recv p.now 1000).1.reached=true:=by
  have d:∀c:Cn,c.bx=(p.sd i).c.bx.take 1000->c.ended=(p.sd i).c.ended->c.sw=(p.sd i).c.sw->c.reached=true:=fun c y z A=>by
   have:=s i;unfold Cn.reached at this|-;rw[y,z,A,f];exact this
  unfold Cn.recv;rw[L7 D];dsimp only;split
  ·exact d _ Z Z Z
  split
  ·exact d _ Z Z Z
  rw[cr (bF _ p.now)];exact d _ Z Z Z
 have e:p.recv i 1000=(p.kl i { (p.sd i)with c:=((p.sd i).c.recv p.now 1000).1,got:=(p.sd i).got++(p.sd i).c.bx.ox 1000,fin:=(p.sd i).fin||(p.sd i).c.v8 1000 }).put i ((p.sd i).c.recv p.now 1000).2:=by
  unfold Pr.recv;dsimp only;rw[L7 (by rw[he];decide)]
 have k:∀j,((p.recv i 1000).sd j).str=(p.sd j).str/\((p.recv i 1000).sd j).closed=(p.sd j).closed/\(j=i->((p.recv i 1000).sd j).fin=true/\((p.recv i 1000).sd j).c.reached=true)/\(j≠i->((p.recv i 1000).sd j).c=(p.sd j).c):=fun j=>by
  rw[e,af]
  cases i <;> cases j <;> first | exact⟨Z,Z,fun _=>⟨by show(_||_)=true;rw[l];simp,x⟩,fun g=>absurd Z g⟩ | exact⟨Z,Z,(fun g=>by cases g),fun _=>rfl⟩
 refine⟨⟨o,⟨_,_,Pr.DK m i 1000⟩,fun j=>by rw[(k j).1,(k j).2.1];exact h.cl j,fun j=> ?_⟩,((k i).2.2.1 Z).1,q⟩;by_cases t:j=i
 ·exact((k j).2.2.1 t).2
 rw[(k j).2.2.2 t];exact h.re j
theorem nK (p:Pr)(i:Bool)(n:Int)(j:Bool):((p.recv i n).sd j).all=(p.sd j).all/\(j≠i->(p.recv i n).sd j=p.sd j):=by
 unfold Pr.recv;dsimp only;split
 ·cases i <;> cases j <;> first | exact⟨Z,fun _=>rfl⟩ | exact⟨Z,fun g=>absurd Z g⟩
 rw[af]
 cases i <;> cases j <;> first | exact⟨Z,fun _=>rfl⟩ | exact⟨Z,fun g=>absurd Z g⟩
theorem kO (p:Pr)(i j:Bool):((p.shut i).sd j).fin=(p.sd j).fin/\((p.shut i).sd j).all=(p.sd j).all:=by
 unfold Pr.shut;dsimp only;split
 ·exact⟨Z,Z⟩
 split
 ·exact⟨Z,Z⟩
 rw[af]
 cases i <;> cases j <;> exact⟨Z,Z⟩
theorem zE {p:Pr}(h:p.Cm.2=true)(i:Bool):(p.Cm.1.sd i).fin=true:=by
 unfold Pr.Cm Pr.E0 at h;dsimp only at h;simp only[LD]at h
 have k:∀(q:Pr) (j:Bool),((q.nv j).sd j).fin=(((q.send j 1000).recv j 1000).sd j).fin:=fun q j=>by
  unfold Pr.nv;dsimp only;split
  ·exact(kO _ j j).1
  rfl
 show(((p.nv false).nv true).sd i).fin=true
 cases i
 ·have e:((p.nv false).nv true).sd false=(p.nv false).sd false:=nJ (p.nv false) true;rw[e,k];exact h.1.1
 rw[k];exact h.2.1
structure Fe (P:Pr.BX)(N:Bool->Int)(p:Pr):Prop where
 pv:Pr.PV P p
 ft:∃a b,Pr.Fit p a b
 fin:∀i,(p.sd i).fin=true
 cl:∀i,(p.sd i).closed=true->((p.sd i).str.length:Int)=N i
 all:∀i,((p.sd i).all.length:Int)=N i
theorem Ek.done {P:Pr.BX}{N:Bool->Int}{p:Pr}(h:Ek P N p)(ha:∀i,((p.sd i).all.length:Int)=N i):p.Cm.2=true/\Fe P N p.Cm.1:=by
 obtain⟨h1,k,l⟩:=h.recv false;obtain⟨h2,f2,e⟩:=h1.recv true
 have c:∀(q:Pr) (i:Bool),(q.sd i).closed=true->q.send i 1000=q:=fun q i g=>by
  unfold Pr.send;dsimp only;rw[L9 (.inl g)]
 have bI:∀(q:Pr) (i:Bool),(q.sd i).closed=true->q.shut i=q:=fun q i g=>by
  unfold Pr.shut;dsimp only;rw[L9 g]
 obtain⟨-,-,u⟩:=h2.recv true
 have m:p.nv false=p.recv false 1000:=by
  unfold Pr.nv;dsimp only;rw[c _ _ (l false),bI _ _ (e false)];split <;> rfl
 have w:(p.recv false 1000).nv true=(p.recv false 1000).recv true 1000:=by
  unfold Pr.nv;dsimp only;rw[c _ _ (e true),bI _ _ (u true)];split <;> rfl
 have n:∀i,(((p.recv false 1000).sd i).all.length:Int)=N i:=fun i=>by rw[(nK p false 1000 i).1];exact ha i
 have o:∀i,((((p.recv false 1000).recv true 1000).sd i).all.length:Int)=N i:=fun i=>by rw[(nK _ true 1000 i).1];exact n i
 have d:∀(q:Pr) (i:Bool),Ek P N q->(q.sd i).fin=true->(∀i,((q.sd i).all.length:Int)=N i)->Pr.E0 (q.sd i) (q.sd (!i))=true:=fun q i s t x=>by
  obtain⟨g1,A⟩:=(s.pv.r i).2.2 t;have B:=s.cl (!i) g1;have C:=x (!i);unfold Pr.E0;rw[t,Le O];rfl
 have y:((((p.recv false 1000).recv true 1000).sd false).fin=true):=by rw[(nK _ true 1000 false).2 D];exact k
 have z:p.Cm.1=(p.recv false 1000).recv true 1000:=by
  show(p.nv false).nv true=_;rw[m,w]
 refine⟨?_,by rw[z];exact⟨h2.pv,h2.ft,fun i=>by cases i;exact y;exact f2,h2.cl,o⟩⟩;show(Pr.E0 (((p.send false 1000).recv false 1000).sd false) ((p.send false 1000).recv false 1000).b&&Pr.E0 ((((p.nv false).send true 1000).recv true 1000).sd true) (((p.nv false).send true 1000).recv true 1000).a)=true;rw[c _ _ (l false),m,c _ _ (e true)];have f:=d _ false h1 k n;have j:=d _ true h2 f2 o;have f:Pr.E0 ((p.recv false 1000).sd false) (p.recv false 1000).b=true:=f;have j:Pr.E0 (((p.recv false 1000).recv true 1000).sd true) ((p.recv false 1000).recv true 1000).a=true:=j;rw[f,j];rfl
theorem kP (p:Pr)(j:Bool):(p.tick.sd j).str=(p.sd j).str/\(p.tick.sd j).closed=(p.sd j).closed/\(p.tick.sd j).all=(p.sd j).all:=by
 have b:∀(Q:List Fl) (p:Pr),((Q.foldl Pr.kd p).sd j).str=(p.sd j).str/\((Q.foldl Pr.kd p).sd j).closed=(p.sd j).closed/\((Q.foldl Pr.kd p).sd j).all=(p.sd j).all:=fun Q=>by
  induction Q with
  | nil=>intro p;exact⟨Z,Z,Z⟩
  | cons f Q c =>
   intro p;obtain⟨d,e⟩:=Pr.A1 p f j;obtain⟨g,h,k⟩:=c (p.kd f);refine⟨g.trans d,h.trans e,k.trans ?_⟩;unfold Pr.kd;rw[af]
   cases f.dst <;> cases j <;> rfl
 have a:∀(p:Pr) (i:Bool),((p.kp i).sd j).str=(p.sd j).str/\((p.kp i).sd j).closed=(p.sd j).closed/\((p.kp i).sd j).all=(p.sd j).all:=fun p i=>by
  unfold Pr.kp;rw[af]
  cases i <;> cases j <;> exact⟨Z,Z,Z⟩
 obtain⟨l,m,n⟩:=a ((({ p with now:=p.now+1 }:Pr).deliver).kp false) true;obtain⟨o,q,r⟩:=a (({ p with now:=p.now+1 }:Pr).deliver) false;obtain⟨s,t,u⟩:=b ({ p with now:=p.now+1 }:Pr).due { ({ p with now:=p.now+1 }:Pr)with wire:=({ p with now:=p.now+1 }:Pr).rest };refine⟨l.trans (o.trans (s.trans ?_)),m.trans (q.trans (t.trans ?_)),n.trans (r.trans (u.trans ?_))⟩ <;> cases j <;> rfl
theorem rN (p:Pr)(i j:Bool)(n:Int):((p.send i n).sd j).all=(p.sd j).all/\((p.send i n).sd j).closed=(p.sd j).closed/\((p.sd j).closed=true->((p.send i n).sd j).str=(p.sd j).str):=by
 unfold Pr.send;dsimp only;split
 ·exact⟨Z,Z,fun _=>rfl⟩
 split
 ·exact⟨Z,Z,fun _=>rfl⟩
 rename_i g _;rw[af]
 cases i <;> cases j <;> first | exact⟨Z,Z,fun _=>rfl⟩ | exact⟨Z,Z,fun h=>absurd (.inl h) g⟩
theorem nL (p:Pr)(i j:Bool)(n:Int):((p.recv i n).sd j).all=(p.sd j).all/\((p.recv i n).sd j).closed=(p.sd j).closed/\((p.recv i n).sd j).str=(p.sd j).str/\((p.recv i n).sd j).sent=(p.sd j).sent:=by
 unfold Pr.recv;dsimp only;split
 ·cases i <;> cases j <;> exact⟨Z,Z,Z,Z⟩
 rw[af]
 cases i <;> cases j <;> exact⟨Z,Z,Z,Z⟩
theorem rO (p:Pr)(i j:Bool):((p.shut i).sd j).str=(p.sd j).str/\(j≠i->((p.shut i).sd j).closed=(p.sd j).closed):=by
 unfold Pr.shut;dsimp only;split
 ·exact⟨Z,fun _=>rfl⟩
 split
 ·exact⟨Z,fun _=>rfl⟩
 rw[af]
 cases i <;> cases j <;> first | exact⟨Z,fun _=>rfl⟩ | exact⟨Z,fun h=>absurd Z h⟩
structure Ga (P:Pr.BX)(N:Bool->Int)(p:Pr)(n:Int):Prop where
 al:Pr.Al P p n
 cl:∀i,(p.sd i).closed=true->((p.sd i).str.length:Int)=N i
 all:∀i,((p.sd i).all.length:Int)=N i
theorem Ga.nv {P:Pr.BX}{N:Bool->Int}{p:Pr}{n:Int}(h:Ga P N p n)(i:Bool):Ga P N (p.nv i) (n+3):=by
 have l:=h.al.send i 1000;have a:=l.recv i (k:=1000) D;have b:=fun j=>rN p i j 1000;have c:=fun j=>nL (p.send i 1000) i j 1000
 have e:∀j,(((p.send i 1000).recv i 1000).sd j).closed=true->((((p.send i 1000).recv i 1000).sd j).str.length:Int)=N j:=fun j g=>by
  rw[(c j).2.1,(b j).2.1]at g;rw[(c j).2.2.1,(b j).2.2 g];exact h.cl j g
 have d:∀j,((((p.send i 1000).recv i 1000).sd j).all.length:Int)=N j:=fun j=>by rw[(c j).1,(b j).1];exact h.all j
 unfold Pr.nv;dsimp only;split
 ·rename_i g;have m:=a.shut i;refine⟨m.mono O,fun j q=> ?_,fun j=>by rw[(kO _ i j).2];exact d j⟩;rw[(rO _ i j).1];by_cases f:j=i
  ·subst f;have k:=(a.run.1.sd j);have:=k.EF;have:=d j;have:=k.s0;omega
  rw[(rO _ i j).2 f]at q;exact e j q
 exact⟨a.mono O,e,d⟩
theorem Ga.tick {P:Pr.BX}{N:Bool->Int}{p:Pr}{n:Int}(h:Ga P N p n)(a:P.Ok)(h0:0<=n)(b:n+1<=5000):Ga P N p.tick (n+1) :=
 ⟨h.al.tick h0 b a,fun i g=>by rw[(kP p i).2.1]at g;rw[(kP p i).1];exact h.cl i g,fun i=>by rw[(kP p i).2.2];exact h.all i⟩
theorem Ga.E5 {P:Pr.BX}{N:Bool->Int}{p:Pr}{n:Int}(h:Ga P N p n)(a:P.Ok)(h0:0<=n)(b:n+7<=5000):Ga P N p.E5 (n+7):=by
 have:=((h.nv false).nv true).tick a O O;rw[show n+3+3+1=n+7 by omega]at this;exact this
theorem By {f:Nat->Bool}:∀{k:Nat},f k=true->∃j,j<=k/\f j=true/\∀i,i<j->f i=false:=by
 intro k
 induction k using Nat.strongRecOn with
 | ind k ih =>
  intro h
  rcases Classical.em (∃i,i<k/\f i=true)with⟨i,hi,g⟩ | g
  ·obtain⟨j,h1,h2,a⟩:=ih i hi g;exact⟨j,O,h2,a⟩
  exact⟨k,L6 _,h,fun i hi=>by
   cases e:f i with
   | false=>rfl
   | true=>exact absurd ⟨i,hi,e⟩ g⟩
theorem Ga.seq {P:Pr.BX}{N:Bool->Int}(a:P.Ok){p:Pr}{n:Int}(h:Ga P N p n)(h0:0<=n):∀k:Nat,n+7*k<=5000->Ga P N (p.seq k) (n+7*k):=by
 intro k
 induction k with
 | zero=>intro _;rw[show n+7*((0:Nat):Int)=n by omega];exact h
 | succ k b =>
  intro c;have:=(b O).E5 a O O;rw[show n+7*((k+1:Nat):Int)=n+7*k+7 by omega];exact this
def nN (p:Pr):Pr:={ p with wire:=p.log }
structure Lp (P:Pr.BX)(p:Pr):Prop where
 pv:Pr.PV P (nN p)
 ft:∃a b,Pr.Fit (nN p) a b
 sub:∀f∈p.wire,f∈p.log
 calm:p.kq.length<=p.many
 ne:∃f,f∈p.log
theorem BZ (i:Bool):∀(l:List Sg) (p:Pr),p.kq.length<=p.many->(nN p).put i l=nN (p.put i l)/\((∀f∈p.wire,f∈p.log)->∀f∈(p.put i l).wire,f∈(p.put i l).log)/\(p.put i l).kq.length<=(p.put i l).many/\∀f∈p.log,f∈(p.put i l).log:=by
 intro l
 induction l with
 | nil=>intro p h;exact⟨Z,id,h,fun _ h=>h⟩
 | cons s l c =>
  intro p h
  have a:p.Ch=0:=by
   unfold Pr.Ch;rw[List.getElem?_eq_none_iff.2 h]
  have b:p.D6 (p.fl i s)=[p.fl i s]:=by unfold Pr.D6;rw[L9 a]
  obtain⟨d,g,j,k⟩:=c (p.z7 i s) (Nat.le_succ_of_le h)
  have e:(nN p).z7 i s=nN (p.z7 i s):=by
   have m:(nN p).D6 ((nN p).fl i s)=[p.fl i s]:=b;unfold Pr.z7;rw[m];rfl
  refine⟨?_,fun hw=>g fun f a=> ?_,j,fun f a=>k f (LR _ a)⟩
  ·show((nN p).z7 i s).put i l=_;rw[e];exact d
  have a:f∈p.wire++p.D6 (p.fl i s):=a;rw[b]at a
  rcases LH.1 a with a | a
  ·exact LR _ (hw f a)
  exact Mq _ a
theorem zF (p:Pr)(i:Bool)(d:Sd):(nN p).kl i d=nN (p.kl i d)/\(p.kl i d).wire=p.wire/\(p.kl i d).log=p.log/\(p.kl i d).kq=p.kq/\(p.kl i d).many=p.many:=by cases i <;> exact⟨Z,Z,Z,Z,Z⟩
theorem Lp.act {P:Pr.BX}{p:Pr}(h:Lp P p)(i:Bool)(d:Sd)(l:List Sg)(k:((nN p).kl i d).put i l=nN ((p.kl i d).put i l)->Pr.PV P (nN ((p.kl i d).put i l))/\∃a b,Pr.Fit (nN ((p.kl i d).put i l)) a b):Lp P ((p.kl i d).put i l)/\∀f∈p.log,f∈((p.kl i d).put i l).log:=by
 obtain⟨j,m,e,n,o⟩:=zF p i d;obtain⟨g,q,r,c⟩:=BZ i l (p.kl i d) (by rw[n,o];exact h.calm);rw[<-j]at g;obtain⟨s,t⟩:=k g;have c:∀f∈p.log,f∈((p.kl i d).put i l).log:=fun f u=>c f (by rw[e];exact u);exact⟨⟨s,t,q (by rw[m,e];exact h.sub),r,h.ne.imp c⟩,c⟩
theorem rP (p:Pr)(i:Bool):(nN p).sd i=p.sd i:=by cases i <;> rfl
theorem Lp.kd {P:Pr.BX}{p:Pr}(h:Lp P p)(l:P.Ok){f:Fl}(d:f∈p.log):Lp P (p.kd f)/\∀g∈p.log,g∈(p.kd f).log:=by
 obtain⟨a,b,c⟩:=h.ft;have i:=c.wire f d;have g:=h.pv.w f d;have j:=Pr.PV.kd h.pv c l i Z Z Z g.1 (Gw.refl _) g.2;have k:=Pr.D5 c i;refine h.act f.dst _ _ fun e=> ?_
 have m:(nN p).kd f=nN (p.kd f):=by
  unfold Pr.kd Pr.v6;rw[rP];exact e
 rw[m]at j k;exact⟨j,_,_,k⟩
theorem Lp.kp {P:Pr.BX}{p:Pr}(h:Lp P p)(i:Bool):Lp P (p.kp i)/\∀g∈p.log,g∈(p.kp i).log:=by
 obtain⟨a,b,c⟩:=h.ft;have d:=Pr.PV.kp h.pv c i;have f:=Pr.C8 c i;refine h.act i _ _ fun e=> ?_
 have j:(nN p).kp i=nN (p.kp i):=by
  unfold Pr.kp Pr.v6;rw[rP];exact e
 rw[j]at d f;exact⟨d,_,_,f⟩
theorem Lp.send {P:Pr.BX}{p:Pr}(h:Lp P p)(i:Bool)(n:Int):Lp P (p.send i n):=by
 obtain⟨a,b,f⟩:=h.ft;have c:=Pr.PV.send h.pv f i n;have d:=Pr.DT f i n;unfold Pr.send at c d|-;rw[rP]at c d;dsimp only at c d|-;split
 ·exact h
 rename_i g;rw[L7 g]at c d;split
 ·exact h
 rename_i j;rw[L7 j]at c d;refine(h.act i _ _ fun e=> ?_).1;have e:_=_:=e;exact⟨e ▸ c,_,_,e ▸ d⟩
theorem Lp.recv {P:Pr.BX}{p:Pr}(h:Lp P p)(i:Bool){n:Int}(l:0<=n):Lp P (p.recv i n)/\∀g∈p.log,g∈(p.recv i n).log:=by
 obtain⟨a,b,k⟩:=h.ft;have d:=Pr.PV.recv h.pv k i l;have f:=Pr.DK k i n;unfold Pr.recv at d f|-;rw[rP]at d f;dsimp only at d f|-;split
 ·rename_i j;rw[L9 j]at d f;refine h.act i _ [] fun e=> ?_;have e:(nN p).v6 i ((p.sd i).c.recv p.now n).1=nN (p.v6 i ((p.sd i).c.recv p.now n).1):=by cases i <;> rfl
  exact⟨e ▸ d,_,_,e ▸ f⟩
 rename_i j;rw[L7 j]at d f;exact h.act i _ _ fun e=>⟨e ▸ d,_,_,e ▸ f⟩
theorem Lp.shut {P:Pr.BX}{p:Pr}(h:Lp P p)(i:Bool):Lp P (p.shut i):=by
 obtain⟨a,b,f⟩:=h.ft;have c:=Pr.PV.shut h.pv f i;have d:=Pr.DU f i;unfold Pr.shut at c d|-;rw[rP]at c d;dsimp only at c d|-;split
 ·exact h
 rename_i g;rw[L7 g]at c d;split
 ·exact h
 rename_i j;rw[L7 j]at c d;exact(h.act i _ _ fun e=>⟨e ▸ c,_,_,e ▸ d⟩).1
theorem Lp.nv {P:Pr.BX}{p:Pr}(h:Lp P p)(i:Bool):Lp P (p.nv i):=by
 have k:=((h.send i 1000).recv i (n:=1000) D).1;unfold Pr.nv;dsimp only;split
 ·exact k.shut i
 exact k
theorem Lp.fold {P:Pr.BX}(c:P.Ok):∀(l:List Fl) {p:Pr},Lp P p->(∀f∈l,f∈p.log)->Lp P (l.foldl Pr.kd p)/\∀g∈p.log,g∈(l.foldl Pr.kd p).log:=by
 intro l
 induction l with
 | nil=>intro p h _;exact⟨h,fun _ h=>h⟩
 | cons f l d =>
  intro p h b;obtain⟨h1,h2⟩:=h.kd c (b f M7);obtain⟨e,i⟩:=d h1 fun g a=>h2 g (b g (Mj _ a));exact⟨e,fun g a=>i g (h2 g a)⟩
theorem Lp.tick {P:Pr.BX}{p:Pr}(h:Lp P p)(e:P.Ok)(i:p.now+1<=1000000):Lp P p.tick/\∀g∈p.log,g∈p.tick.log:=by
 obtain⟨a,b,c⟩:=h.ft
 have h0:Lp P { ({ p with now:=p.now+1 }:Pr)with wire:=({ p with now:=p.now+1 }:Pr).rest } :=
  ⟨⟨h.pv.s,h.pv.r,h.pv.w,h.pv.g⟩,⟨_,_,c.a,c.b,⟨by have k:0<=p.now:=c.now.1;show 0<=p.now+1;omega,i⟩,c.wire,c.due,c.log,Lb _,Lb _⟩,fun f d=>(by have d:f∈({ p with now:=p.now+1 }:Pr).rest:=d;have:=Pr.E9 d;exact h.sub f this),h.calm,h.ne⟩
 obtain⟨h1,j⟩:=Lp.fold e ({ p with now:=p.now+1 }:Pr).due h0 fun f d=>h.sub f (Pr.DW (p:={ p with now:=p.now+1 }) d);obtain⟨h2,l⟩:=h1.kp false;obtain⟨m,n⟩:=h2.kp true;exact⟨m,fun g o=>n g (l g (j g o))⟩
end Go.Proofs.YtcmncipikdpnbaaGreatDoor
