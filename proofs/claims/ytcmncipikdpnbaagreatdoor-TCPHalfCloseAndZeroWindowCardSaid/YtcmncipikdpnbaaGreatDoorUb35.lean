import Derived.Test.YtcmncipikdpnbaaGreatDoorUb34
namespace Go.Proofs.YtcmncipikdpnbaaGreatDoor
structure G1 (K:Prop)(p p':Pr)(j:Bool)(l:List Sg):Prop where
 sv:SV (p.sd j).c (p'.sd j).c l
 rv:RV (p.sd j).c (p'.sd j).c l p.now
 xv:XV K (p.sd j).c (p'.sd j).c p.now
 Ej:p'.sd (!j)=p.sd (!j)
 wire:p'.wire=p.wire++l.map (p.fl j)
 now:p'.now=p.now
theorem G1.mn {K:Prop}{p p':Pr}{j:Bool}{l:List Sg}(h:G1 K p p' j l)(i:Bool):Mn (p.sd i).c (p'.sd i).c:=by
 rcases px (i:=j) (j:=i)with rfl | rfl
 ·exact .of h.sv h.rv h.xv
 rw[h.Ej];exact .refl _
def Ak (p:Pr)(L:List Fl)(i:Bool)(M T:Int):Prop :=
 M<=(p.sd (!i)).c.expected+1/\(M<=(p.sd i).c.fM\/(∃f∈L,f.dst=i/\M<=iL (p.sd i).c.cf.kc f.s)\/((p.sd (!i)).c.pend=1/\(p.sd (!i)).c.pd.since+2<=T))
theorem G1.ak {K:Prop}{p p':Pr}{j:Bool}{l:List Sg}(h:G1 K p p' j l)(ok:0<=(p'.sd j).c.expected/\(p'.sd j).c.expected<=100000)(hi:(p'.sd j).c.tq=(p.sd (!j)).c.cf.kc){L:List Fl}{i:Bool}{M T:Int}(k:Ak p L i M T):Ak p' (L++l.map (p.fl j)) i M T/\((p'.sd j).c.pend≠1->i= !j->M<=(p'.sd i).c.fM\/∃f∈L++l.map (p.fl j),f.dst=i/\M<=iL (p'.sd i).c.cf.kc f.s):=by
 obtain⟨w,k⟩:=k
 rcases px (i:=j) (j:=i)with rfl | rfl
 ·have m:=h.mn i;unfold Ak;rw[h.Ej];refine⟨⟨w,?_⟩,fun _ e=>absurd e (by cases i <;> decide)⟩
  rcases k with k | ⟨f,q,d,n⟩ | k
  ·exact .inl (Lz k m.fM)
  ·exact .inr (.inl ⟨f,LO _ q,d,by rw[m.cf];exact n⟩)
  exact .inr (.inr k)
 have m:=h.mn j;unfold Ak at *;rw[LF]at *;rw[h.Ej];have he:=ok;have y:=m.exp
 have o:(M<=(p.sd (!j)).c.fM\/(∃f∈L++l.map (p.fl j),f.dst=(!j)/\M<=iL (p.sd (!j)).c.cf.kc f.s))\/((p'.sd j).c.pend=1/\(p'.sd j).c.pd=(p.sd j).c.pd/\(p.sd j).c.pd.since+2<=T):=by
  rcases k with k | ⟨f,q,d,n⟩ | ⟨d,n⟩
  ·exact .inl (.inl k)
  ·exact .inl (.inr ⟨f,LO _ q,d,n⟩)
  rcases h.rv.k with⟨-,-,⟨r,t,-⟩ | ⟨-,e,-⟩⟩ | ⟨r,-,-,t⟩
  ·exact .inr ⟨r.trans d,t,n⟩
  ·omega
  obtain⟨x,u⟩:=Nu l r;have c:=t x u;refine .inl (.inr ⟨p.fl j x,Mm _ (Md.2 ⟨x,u,Z⟩),Z,?_⟩);show M<=iL (p.sd (!j)).c.cf.kc x;unfold iL;rw[c.ak];unfold Cn.number;rw[hi,pp _ O O];omega
 refine⟨⟨O,?_⟩,fun g _=> ?_⟩
 ·rcases o with(a | a) | ⟨a,b,c⟩
  ·exact .inl a
  ·exact .inr (.inl a)
  exact .inr (.inr ⟨a,by rw[b];exact c⟩)
 rcases o with a | ⟨a,-⟩
 ·exact a
 exact absurd a g
def Fk (N:Bool->Int)(p:Pr)(L:List Fl)(i:Bool)(T:Int):Prop :=
 (p.sd (!i)).c.reached=true\/(∃f∈L,f.dst=(!i)/\f.s.fin=true)\/((p.sd i).c.fM=N i+1/\(p.sd i).c.next=N i+2/\(p.sd i).c.dl.set=true/\(p.sd i).c.dl.since+(p.sd i).c.dl.ticks<=T)
theorem Hv.exp {c:Cn}{N:Int}(h:Hv c N)(hr:c.reached=true):c.expected=N+1:=by
 have h1:=hr;unfold Cn.reached at h1;rw[Ly,Lh]at h1;have:=h.fe h1.1;unfold Cn.expected;rw[L7 hr];omega
theorem G1.fk {K:Prop}{p p':Pr}{j:Bool}{l:List Sg}(h:G1 K p p' j l){N:Bool->Int}{i:Bool}(q:Hv (p.sd (!i)).c (N i))(a:Hv (p'.sd (!i)).c (N i))(x:(p'.sd i).c.fM<=(p'.sd (!i)).c.expected+1)(hx:(p'.sd i).c.next<=N i+2)(r:j=i->(p'.sd i).c.fM=N i+1->(p.sd i).c.next=N i+2->(p.sd i).c.dl.set=true->K\/∃f∈l.map (p.fl i),f.dst=(!i)/\f.s.fin=true){L:List Fl}{T:Int}(k:Fk N p L i T):Fk N p' (L++l.map (p.fl j)) i T:=by
 have m:=h.mn i;have t:=h.mn (!i)
 rcases k with k | ⟨f,d,k⟩ | ⟨y,n,b,o⟩
 ·have:=q.exp k;have:=t.exp;exact .inl (a.rch O)
 ·exact .inr (.inl ⟨f,LO _ d,k⟩)
 have u:=m.fM;have w:=m.nx
 rcases(show(p'.sd i).c.fM=N i+1\/N i+2<=(p'.sd i).c.fM by omega)with e | e
 ·rcases px (i:=j) (j:=i)with rfl | rfl
  ·rcases r rfl e n b with g | ⟨f,d,g⟩
   ·refine .inr (.inr ⟨e,O,?_⟩);rw[h.xv.ex.keep g O O b];exact⟨b,o⟩
   exact .inr (.inl ⟨f,Mm _ d,g⟩)
  exact .inr (.inr ⟨e,by rw[h.Ej];exact n,by rw[h.Ej];exact b,by rw[h.Ej];exact o⟩)
 exact .inl (a.rch O)
def BH (P:Pr.zc)(p:Pr)(i:Bool):Prop:=(p.sd i).c.reached=true\/(((p.sd i).got.length:Int)=(p.sd i).c.bx.nx->(p.sd i).got.length+P.r i<(p.sd i).c.ann+max 1 (P.r i/2))
def Rd (P:Pr.zc)(p:Pr)(i:Bool):Prop:=(p.sd i).c.reached=true\/(((p.sd i).got.length:Int)=(p.sd i).c.bx.nx/\(p.sd i).got.length+P.r i<(p.sd i).c.ann+max 1 (P.r i/2))
structure Tn (P:Pr.zc)(p:Pr)(q N:Bool->Int):Prop where
 cl:∃a b,Cl P p [] q N a b
 sx:∀i,Sx (p.sd i).c (P.r (!i)) p.now
 nd:∀i,ND (p.sd i).c p.now
 w:∀f∈p.wire,f.held=false/\f.due<=p.now+1
 rw:∀i,BH P p i
 par:∀i,40<=P.r i/\40<=(p.sd i).c.cf.keep
 all:∀i,((p.sd i).all.length:Int)=N i
 cs:∀i,(p.sd i).closed=true->(p.sd i).c.shut=true
def Tk (N:Bool->Int)(p1 p:Pr)(f:Fl):Prop :=
 iL (p1.sd f.dst).c.cf.kc f.s<=(p.sd f.dst).c.fM/\iL (p1.sd f.dst).c.cf.kc f.s+f.s.win<=(p.sd f.dst).c.limit /\
 (fY (p1.sd (!f.dst)).c.cf.kc f.s-1+f.s.s.length<=(p1.sd f.dst).c.ann->∀i,fY (p1.sd (!f.dst)).c.cf.kc f.s-1<=i->i<fY (p1.sd (!f.dst)).c.cf.kc f.s-1+f.s.s.length->(p.sd f.dst).c.bx.has i) /\
 (f.s.fin=true->N (!f.dst)<=(p1.sd f.dst).c.expected->N (!f.dst)<(p1.sd f.dst).c.ann->N (!f.dst)<(p.sd f.dst).c.expected)
theorem Tk.mn {N:Bool->Int}{p1 p p':Pr}{f:Fl}(h:Tk N p1 p f)(m:∀i,Mn (p.sd i).c (p'.sd i).c):Tk N p1 p' f :=
 ⟨Lz h.1 (m _).fM,Lz h.2.1 (m _).lim,fun a i d e=>(m _).has i (h.2.2.1 a i d e),fun a b c=>Int.lt_of_lt_of_le (h.2.2.2 a b c) (m _).exp⟩
structure Fo (P:Pr.zc)(N:Bool->Int)(p1 p:Pr)(Q:List Fl):Prop where
 now:p.now=p1.now+1
 mn:∀i,Mn (p1.sd i).c (p.sd i).c
 sx:∀i,Sx (p.sd i).c (P.r (!i)) p.now
 tk:∀f∈p1.wire,f∈Q\/Tk N p1 p f
 sub:∀f∈Q,f∈p1.wire
 ub:∀i,(p.sd i).c.fM<=(p1.sd (!i)).c.expected+1
 w:∀f∈p.wire,f.held=false/\f.due=p.now+1
 ak:∀i M T,Ak p1 p1.wire i M T->Ak p (Q++p.wire) i M T
 fk:∀i T,N i<=(p1.sd (!i)).c.expected->N i<(p1.sd (!i)).c.ann->Fk N p1 p1.wire i T->Fk N p (Q++p.wire) i T
 sd:∀i,(p.sd i).got=(p1.sd i).got/\(p.sd i).all=(p1.sd i).all/\(p.sd i).closed=(p1.sd i).closed
 rw:∀i,BH P p i
theorem Hv.bd {c:Cn}{N:Int}(h:Hv c N):0<=c.expected/\c.expected<=N+1:=by
 have h1:=h.nx;have h2:=nO h.ok;refine⟨h2.1,?_⟩;unfold Cn.expected;split <;> omega
theorem Hv.fin {c:Cn}{N:Int}(h:Hv c N)(he:c.ended=true)(hx:N<=c.expected):c.reached=true:=by
 cases hr:c.reached with
 | true=>rfl
 | false =>
  have e:c.expected=c.bx.nx:=K7
  have h1:=h.nx;have h2:=h.fe he;unfold Cn.reached at hr;rw[he,Lc (show c.bx.nx=c.ox by omega)]at hr
  cases hr
theorem BH.keep {P:Pr.zc}{p p':Pr}{i:Bool}{N:Int}(h:BH P p i)(b:Hv (p.sd i).c N)(a:Hv (p'.sd i).c N)(m:Mn (p.sd i).c (p'.sd i).c)(g:(p'.sd i).got=(p.sd i).got)(rd:((p.sd i).got.length:Int)<=(p.sd i).c.bx.nx):BH P p' i:=by
 have d:(p.sd i).c.bx.nx<=(p'.sd i).c.bx.nx:=by
  rcases(show(p.sd i).c.bx.nx<=(p'.sd i).c.bx.nx\/(p'.sd i).c.bx.nx<(p.sd i).c.bx.nx by omega)with e | e
  ·exact e
  have h1:=a.ok.bx.Do;have h2:=a.ok.bx.xK;exact absurd (m.has _ (.inl ⟨O,e⟩)) a.ok.bx.FD
 rcases h with h | h
 ·have h1:=b.exp h;have h2:=m.exp;exact .inl (a.rch O)
 refine .inr fun e=> ?_;rw[g]at e|-;have:=h O;have:=m.ann;omega
theorem Fo.g1 {P:Pr.zc}{q N:Bool->Int}{p1 p p':Pr}{Q e:List Fl}{a b n b':Int}{K:Prop}{j:Bool}{l:List Sg}(h:Fo P N p1 p Q)(m:Cl P p Q q N a b)(o:Cl P p' e q N n b')(g:G1 K p p' j l)(hl:(p'.sd j).c.largest<=P.r (!j))(d:(p'.sd j).got=(p.sd j).got/\(p'.sd j).all=(p.sd j).all/\(p'.sd j).closed=(p.sd j).closed)
  (s:∀f∈p1.wire,f∈e\/Tk N p1 p' f)(sub:∀f∈e,f∈p1.wire)(t:(p'.sd j).c.fM<=(p1.sd (!j)).c.expected+1)
  (ak:∀i M T,Ak p1 p1.wire i M T->Ak p' (e++p'.wire) i M T)(fk:∀i T,N i<=(p1.sd (!i)).c.expected->N i<(p1.sd (!i)).c.ann->Fk N p1 p1.wire i T->Fk N p' (e++p'.wire) i T):Fo P N p1 p' e:=by
 refine⟨g.now.trans h.now,fun i=>(h.mn i).trans (g.mn i),fun i=> ?_,s,sub,fun i=> ?_,fun f k=> ?_,ak,fk,fun i=> ?_,fun i=> ?_⟩
 ·rcases px (i:=j) (j:=i)with rfl | rfl
  ·have:=(h.sx i).step g.rv g.xv hl;rw[<-g.now]at this;exact this
  rw[g.Ej,g.now];exact h.sx _
 ·rcases px (i:=j) (j:=i)with rfl | rfl
  ·exact t
  rw[g.Ej];exact h.ub _
 ·rw[g.wire]at k;rw[g.now]
  rcases LE.1 k with k | k
  ·exact h.w f k
  obtain⟨x,-,rfl⟩:=Md.1 k;exact⟨Z,Z⟩
 ·rcases px (i:=j) (j:=i)with rfl | rfl
  ·exact⟨d.1.trans (h.sd i).1,d.2.1.trans (h.sd i).2.1,d.2.2.trans (h.sd i).2.2⟩
  rw[g.Ej];exact h.sd _
 rcases px (i:=j) (j:=i)with rfl | rfl
 ·have r:=(m.pv.r i).1.pi;have u:=r.ok.xK;have y:=r.rd;exact(h.rw i).keep (m.ns i).1.hv (o.ns i).1.hv (g.mn i) d.1 O
 unfold BH;rw[g.Ej];exact h.rw _
theorem lG (p:Pr)(f:Fl):((p.ke f).sd f.dst).got=(p.sd f.dst).got/\((p.ke f).sd f.dst).all=(p.sd f.dst).all/\((p.ke f).sd f.dst).closed=(p.sd f.dst).closed:=by
 unfold Pr.ke;rw[af]
 cases f.dst <;> exact⟨Z,Z,Z⟩
theorem oY (p:Pr)(i:Bool):((p.ki i).sd i).got=(p.sd i).got/\((p.ki i).sd i).all=(p.sd i).all/\((p.ki i).sd i).closed=(p.sd i).closed:=by
 unfold Pr.ki;rw[af]
 cases i <;> exact⟨Z,Z,Z⟩
theorem Fo.step {P:Pr.zc}{q N:Bool->Int}{p1 p:Pr}{f:Fl}{Q:List Fl}{a b:Int}(c0:∃a b,Cl P p1 [] q N a b)(u:Cl P p (f::Q) q N a b)(h:Fo P N p1 p (f::Q))(w:Cl P (p.ke f) Q q N (a+1) (b+1))
  (k:Rc (p.sd f.dst).c ((p.ke f).sd f.dst).c ((p.sd f.dst).c.receive p.now f.s).2 p.now f.s (fY (p.sd (!f.dst)).c.cf.kc f.s-1) (iL (p.sd f.dst).c.cf.kc f.s) (N (!f.dst)))(I:(p.ke f).sd (!f.dst)=p.sd (!f.dst))(B:(p.ke f).wire=p.wire++((p.sd f.dst).c.receive p.now f.s).2.map (p.fl f.dst))(V:(p.ke f).now=p.now):Fo P N p1 (p.ke f) Q:=by
 have g:G1 True p (p.ke f) f.dst ((p.sd f.dst).c.receive p.now f.s).2:=⟨k.sv,k.rv,k.xv,I,B,V⟩;have J:=(u.ns f.dst).1;have C:=(w.ns f.dst).1;have n2:=(u.ns (!f.dst)).1;have W:=C.hv.bd;have hN:=J.nn.1;have dn:=w.dp (!f.dst);rw[LF,I]at dn;have E:=(h.mn f.dst).cf;have X:=(h.mn (!f.dst)).cf;have m:∀i,Mn (p.sd i).c ((p.ke f).sd i).c:=g.mn;have hq:=u.qg f FE;obtain⟨a0,b0,c0⟩:=c0;have hw:=h.sub f FE
 have ab:iL (p.sd f.dst).c.cf.kc f.s<=(p1.sd (!f.dst)).c.expected+1:=by
  have d0:=(c0.dp f.dst).ack f.s (by rw[LD];unfold jb;exact Md.2 ⟨f,LZ.2 ⟨hw,FE⟩,Z⟩);rw[E];exact d0.2.1
 have o:f.s.fin=true->N (!f.dst)<=(p1.sd f.dst).c.expected->N (!f.dst)<(p1.sd f.dst).c.ann->N (!f.dst)<((p.ke f).sd f.dst).c.expected:=fun e d y=>by
  have K:=h.mn f.dst;have h1:=K.exp;have h2:=K.ann;have h3:=(m f.dst).exp;have h4:=J.hv.nx;have sg:=(u.dp (!f.dst)).seg f.s (by rw[LF];unfold jb;exact Md.2 ⟨f,LZ.2 ⟨FE,FE⟩,Z⟩)
  have h5:fY (p.sd (!f.dst)).c.cf.kc f.s-1<(p.sd f.dst).c.ann:=by
   rcases sg.n with⟨-,F⟩ | ⟨-,F⟩
   ·have:=F e;omega
   rw[F]at e;cases e
  have h6:=C.hv.exp (C.hv.fin (k.fin e O h5) O);omega
 refine h.g1 u w g ?_ (lG p f) (fun x d=> ?_) (fun x d=>h.sub x (by simp[d])) ?_ (fun i M T G=> ?_) (fun i T d y G=> ?_)
 ·have h1:=(h.sx f.dst).lR;have h2:f.s.win<=P.r (!f.dst):=hq.1.win;rw[k.AC];omega
 ·rcases h.tk x d with z | z
  ·rcases Mi.1 z with rfl | z
   ·refine .inr ⟨?_,?_,fun y i L S=> ?_,o⟩
    ·rw[k.fM,E];exact L9 _
    ·rw[k.lim,E];omega
    have:=(h.mn x.dst).ann;rw[<-X]at y L S;exact k.has O i L S
   exact .inl z
  exact .inr (z.mn m)
 ·rw[k.fM];exact ab
 ·obtain⟨k0,j⟩:=(g.ak ⟨W.1,O⟩ dn.tq (h.ak i M T G)).1;refine⟨k0,?_⟩
  rcases j with j | ⟨x,d,A,e⟩ | j
  ·exact .inl j
  ·rw[LQ,LQ,LK,<-B]at d
   rcases Mi.1 d with rfl | d
   ·refine .inl ?_;subst A;rw[(m _).cf]at e;rw[k.fM];exact e
   exact .inr (.inl ⟨x,d,A,e⟩)
  exact .inr (.inr j)
 have U:=(u.ns (!i)).1.hv;have t:=(w.ns (!i)).1.hv;rw[LF]at U t;have j:=g.fk (i:=i) U t (w.dp i).fM (w.ns i).1.nx (fun _ _ _ _=>.inl trivial) (h.fk i T d y G)
 rcases j with j | ⟨x,l,A,e⟩ | j
 ·exact .inl j
 ·rw[LQ,LQ,LK,<-B]at l
  rcases Mi.1 l with rfl | l
  ·refine .inl ?_;have hi:i= !x.dst:=by rw[A,LF]
   subst hi;rw[LF]at *;exact t.rch (o e d y)
  exact .inr (.inl ⟨x,l,A,e⟩)
 exact .inr (.inr j)
theorem py {d:Bool}{W:List Fl}{g:Sg}(h:g∈jb d W):∃f∈W,f.dst=d/\f.s=g:=by
 unfold jb at h;obtain⟨f,a,e⟩:=Md.1 h;have:=LZ.1 a;exact⟨f,this.1,by simpa using this.2,e⟩
theorem Cl.last {P:Pr.zc}{p:Pr}{Q:List Fl}{q N:Bool->Int}{a b:Int}(h:Cl P p Q q N a b)(i:Bool):(p.sd i).c.last<=N i+1/\((p.sd i).c.shut=true->(p.sd i).c.last=N i+1):=by
 have k:=(h.pv.s i).1;have h1:(p.sd i).c.last=1+(p.sd i).str.length:=k.last;have h2:=h.f2.le i;exact⟨O,fun g=>by have:=h.f2.cl i (k.sh g);omega⟩
theorem Fo.hz {P:Pr.zc}{q N:Bool->Int}{p1 p:Pr}{d b0:Int}(c0:Cl P p1 [] q N d b0)(rd:∀i,Rd P p1 i)(a:∀i,40<=P.r i)(h:Fo P N p1 p [])(i:Bool)(hf:(p.sd i).c.fM=(p.sd i).c.next)(l:(p.sd i).c.next<=N i):(p.sd i).c.next+20<=(p.sd i).c.limit/\P.r (!i)+1<=2*((p.sd i).c.limit-(p.sd i).c.next):=by
 have d0:=c0.dp i;rw[LD]at d0;have b:=(c0.ns (!i)).1.hv;rw[LF]at b;have m:=h.mn i;have n:=m.nx;have o:=m.lim;have s:=a (!i);have t:=h.ub i
 cases hr:(p1.sd (!i)).c.reached with
 | true =>
  have h1:=b.exp hr;have h2:=d0.Ds;omega
 | false =>
  have he:(p1.sd (!i)).c.expected=(p1.sd (!i)).c.bx.nx:=K7
  have u:(p1.sd (!i)).c.ann+1<=(p.sd i).c.limit:=by
   rcases d0.EX hr with e | ⟨g,j,e⟩
   ·omega
   obtain⟨f,k,rfl,rfl⟩:=py j
   rcases h.tk f k with z | z
   ·cases z
   have:=z.2.1;omega
  rcases rd (!i)with e | ⟨e1,e2⟩
  ·rw[hr]at e;cases e
  omega
theorem NI.nd {c:Cn}{now:Int}(h:NI c now)(hd:c.dl.due now=false):ND c now:=fun hs=>by
 have h1:=(h.dl hs).2.2.1;unfold Al.due at hd;rw[hs,Lc h1]at hd
 simp at hd
 omega
theorem Fo.ki {P:Pr.zc}{q N:Bool->Int}{p1 p:Pr}{a b a0 b0:Int}(c0:Cl P p1 [] q N a0 b0)(rd:∀i,Rd P p1 i)(G:∀i,40<=P.r i)(n:Cl P p [] q N a b)(h:Fo P N p1 p [])(hn:p.now<1692)(j:Bool) :
  E2 P N (p.ki j)\/((∃a b,Cl P (p.ki j) [] q N a b)/\Fo P N p1 (p.ki j) []/\ND ((p.ki j).sd j).c p.now/\tQ ((p.ki j).sd j).c/\(∃K l,G1 K p (p.ki j) j l) /\
   (∀M T,T<=p.now->Ak p p.wire (!j) M T->M<=((p.ki j).sd (!j)).c.fM\/∃f∈(p.ki j).wire,f.dst=(!j)/\M<=iL ((p.ki j).sd (!j)).c.cf.kc f.s)):=by
 have o:=(n.ns j).1;have ok:=o.hv.ok;have w:=h.sx j;have U:=n.last j;have I:=w.tries hn;have a1:(p.sd j).c.iq=max 0 ((p.sd j).c.last-(p.sd j).c.next):=Z;have a2:(p.sd j).c.flight=(p.sd j).c.next-(p.sd j).c.fM:=Z;have a3:=ok.fM
 rcases n.ki j I (fun f1 f2=>(h.hz c0 rd G j O O).1)with⟨k1,k2⟩ | ⟨k,op,e2,e3,e4⟩
 ·-- both halves are through
  left
  have t:(p.sd j).c.shut=true:=by
   cases hs:(p.sd j).c.shut with
   | true=>rfl
   | false=>have:=w.ci.sf hs;omega
  have h1:=U.2 t;have h2:=w.ci.fa (.inr k1);have h3:=(n.dp j).fM;refine⟨Pr.PV.ki n.pv n.ft j,⟨_,_,Pr.vw n.ft j⟩,fun i=>(by rw[(kV p j i).1,(kV p j i).2];exact n.f2.cl i),fun i=> ?_⟩
  rcases px (i:=j) (j:=i)with rfl | rfl
  ·exact k2
  have A:=(n.ns (!j)).1.hv;rw[LF]at A;rw[(kU p j).2];exact A.rch O
 right
 have g:G1 _ p (p.ki j) j ((p.sd j).c.tick p.now).2:=⟨op.sv,op.rv,op.xv,e2,e3,e4⟩;have V:=(k.ns j).1;have dn:=k.dp (!j);rw[LF,e2]at dn;have a5:=V.hv.bd;have hN:=o.nn.1
 have W:∃y:Cn,y.Ok/\y.st≠0/\((p.ki j).sd j).c=(y.push p.now).1/\(((p.sd j).c.pend≠1\/(p.sd j).c.pd.due p.now=true)->y.pend≠1):=by
  rw[(kU p j).1]
  rcases wl ok o.now o.st I with z | z
  ·have h1:=V.st;rw[(kU p j).1]at h1;omega
  exact z
 have an:∀i M T,Ak p p.wire i M T->Ak (p.ki j) (p.ki j).wire i M T/\(((p.ki j).sd j).c.pend≠1->i= !j->M<=((p.ki j).sd i).c.fM\/∃f∈(p.ki j).wire,f.dst=i/\M<=iL ((p.ki j).sd i).c.cf.kc f.s):=fun i M T x=>by
  rw[e3];exact g.ak ⟨a5.1,O⟩ dn.tq x
 refine⟨⟨_,_,k⟩,h.g1 n k g (by rw[op.AC];exact w.lR) (oY p j) (fun f B=> ?_) (fun f B=>by cases B) (by rw[op.fM];exact h.ub j) (fun i M T x=> ?_) (fun i T hx ha x=> ?_),op.xv.ex.nd (fun C=>w.ni.nd C),?_,⟨_,_,g⟩,fun M T hT x=> ?_⟩
 ·rcases h.tk f B with z | z
  ·cases z
  exact .inr (z.mn g.mn)
 ·have h1:=h.ak i M T x;rw[LD]at h1|-;exact(an i M T h1).1
 ·have h1:=h.fk i T hx ha x;rw[LD]at h1|-;rw[e3];have A:=(n.ns (!i)).1.hv;have E:=(k.ns (!i)).1.hv;rw[LF]at A E;refine g.fk A E (k.dp i).fM (k.ns i).1.nx (fun e u1 u2 u3=> ?_) h1;subst e
  cases C:(p.sd j).c.dl.due p.now with
  | false=>exact .inl Z
  | true =>
   refine .inr ?_;rw[op.fM]at u1;have F:=o.hv.nl
   have t:(p.sd j).c.shut=true:=by
    cases hs:(p.sd j).c.shut with
    | true=>rfl
    | false=>rw[hs]at F;simp at F;omega
   have h2:=U.2 t;have h3:=o.st;have h4:=ok.st;have h5:=w.ci.fa;obtain⟨d,d1,d2,d3,d4,d5⟩:=tZ ok o.now (Lc O) I C O;refine⟨_,Md.2 ⟨_,d5,Z⟩,Z,?_⟩;have hm:=ok.gi;show(d.kZ (p.sd j).c.fM (min (p.sd j).c.next ((p.sd j).c.fM+(p.sd j).c.gi))).fin=true;have hp:=(gu d { dH with s:=d.data (p.sd j).c.fM (min (p.sd j).c.next ((p.sd j).c.fM+(p.sd j).c.gi)),fin:=d.shut&&decide (d.last<min (p.sd j).c.next ((p.sd j).c.fM+(p.sd j).c.gi)) } (p.sd j).c.fM).2.2.1;refine hp.trans ?_;show(d.shut&&decide (d.last<min (p.sd j).c.next ((p.sd j).c.fM+(p.sd j).c.gi)))=true;rw[d2,t,d3,Lc O];rfl
 ·obtain⟨y,J,-,L,-⟩:=W;rw[L];exact nK J o.now
 have S:=an (!j) M T x;obtain⟨x0,u⟩:=x;rw[LF]at u;have m:=g.mn (!j)
 rcases u with u | ⟨f,B,u,X⟩ | ⟨u,X⟩
 ·exact .inl (Lz u m.fM)
 ·exact .inr ⟨f,by rw[e3];exact LO _ B,u,by rw[m.cf];exact X⟩
 have al:=w.al u;refine S.2 ?_ Z
 have C:(p.sd j).c.pd.due p.now=true:=by
  unfold Al.due;rw[al.1,Lc al.2.2,Lc (show(p.sd j).c.pd.ticks<=p.now-(p.sd j).c.pd.since by omega)];rfl
 obtain⟨y,J,L,y3,y4⟩:=W;rw[y3];exact wn J o.now L (y4 (.inr C))
theorem Cl.I0 {P:Pr.zc}{p:Pr}{q N:Bool->Int}{a b:Int}(h:Cl P p [] q N a b)(i:p.now<1000000):Cl P { p with now:=p.now+1 } [] q N a b/\Pr.Fit { p with now:=p.now+1,wire:=[] } a b:=by
 have d:=h.ft;have j:=d.now;refine⟨⟨⟨h.pv.s,h.pv.r,h.pv.w,h.pv.g⟩,⟨d.a,d.b,Kp,d.wire,d.due,d.log,d.q,d.r⟩,h.dp,⟨h.f2.cl,h.f2.le,h.f2.sm⟩,h.calm,h.st,h.hs,h.pl,h.prt,h.qg⟩,d.a,d.b,Kp,fun f e=>IU,fun f e=>IU,d.log,?_,d.r⟩;have h1:p.Q<=a:=d.q;refine Lz ?_ h1;unfold Pr.Q;show(([]:List Fl).length:Int)+p.rem+p.a.c.xJ+p.b.c.xJ<=(p.wire.length:Int)+p.rem+p.a.c.xJ+p.b.c.xJ;have:(([]:List Fl).length:Int)=0:=Z;omega
theorem Tn.tick {P:Pr.zc}{p:Pr}{q N:Bool->Int}(h:Tn P p q N)(J:P.Ok)(rd:∀i,Rd P p i)(K:p.now+1<1692) :
  E2 P N p.tick\/(Tn P p.tick q N/\(∀i,tQ (p.tick.sd i).c)/\Fo P N p p.tick []/\∀i M T,T<=p.now+1->Ak p p.wire i M T->M<=(p.tick.sd i).c.fM\/∃f∈p.tick.wire,f.dst=i/\M<=iL (p.tick.sd i).c.cf.kc f.s):=by
 obtain⟨a0,b0,j⟩:=h.cl;have d:∀i,40<=P.r i:=fun i=>(h.par i).1;obtain⟨L,S⟩:=j.I0 O;obtain⟨d1,d2⟩:=eV (p:={ p with now:=p.now+1 }) h.w
 have e:({ p with now:=p.now+1 }:Pr).deliver=p.wire.foldl Pr.ke { p with now:=p.now+1,wire:=[] }:=by
  unfold Pr.deliver;rw[d1,d2]
 have base:Fo P N p { p with now:=p.now+1,wire:=[] } p.wire :=
  ⟨Z,fun i=>.refl _,fun i=>(h.sx i).I0,fun f a=>.inl a,fun f a=>a,fun i=>(j.dp i).fM,fun f a=>(by cases a),fun i M T x=>by(rw[LM];exact x),fun i T _ _ x=>by(rw[LM];exact x),fun i=>⟨Z,Z,Z⟩,h.rw⟩
 unfold Pr.tick;rw[e]
 rcases Cl.fold J (Fo P N p) (fun _ _ _ _ _ U V W X x5 x6 x7=>Fo.step ⟨_,_,j⟩ U V W X x5 x6 x7) p.wire (L.off S) base with k | ⟨E,l⟩
 ·exact .inl ((k.ki false).ki true)
 generalize p.wire.foldl Pr.ke { p with now:=p.now+1,wire:=[] }=p2 at E l|-;have F:p2.now<1692:=by rw[l.now];exact K
 rcases l.ki j rd d E F false with k | ⟨⟨a3,b3,c3⟩,G,u,y,⟨K3,l3,t⟩,A⟩
 ·exact .inl (k.ki true)
 have b6:(p2.ki false).now<1692:=by rw[t.now];exact F
 rcases G.ki j rd d c3 b6 true with k | ⟨c4,b,n,B,⟨K4,l4,o⟩,C⟩
 ·exact .inl k
 refine .inr ⟨⟨c4,b.sx,fun i=> ?_,fun f a=> ?_,b.rw,fun i=>⟨d i,?_⟩,fun i=> ?_,fun i g=> ?_⟩,fun i=> ?_,b,fun i M T hT x=> ?_⟩
 ·rw[o.now,t.now];rw[t.now]at n
  cases i
  ·rw[show((p2.ki false).ki true).sd false=(p2.ki false).sd false from o.Ej];exact u
  exact n
 ·obtain⟨w1,w2⟩:=b.w f a;exact⟨w1,Mr w2⟩
 ·rw[(b.mn i).cf];exact(h.par i).2
 ·rw[(b.sd i).2.1];exact h.all i
 ·rw[(b.sd i).2.2]at g;exact(b.mn i).sh (h.cs i g)
 ·cases i
  ·rw[show((p2.ki false).ki true).sd false=(p2.ki false).sd false from o.Ej];exact y
  exact B
 have a1:=l.now;have a2:=t.now
 cases i
 ·have I:=G.ak false M T x;rw[LD]at I;exact C M T O I
 have h2:=l.ak true M T x;rw[LD]at h2;have m:=o.mn true
 rcases A M T O h2 with z | ⟨f,a,z1,z2⟩
 ·exact .inl (Lz z m.fM)
 exact .inr ⟨f,by rw[o.wire];exact LO _ a,z1,by rw[m.cf];exact z2⟩
structure Us (N:Bool->Int)(p p':Pr):Prop where
 now:p'.now=p.now
 mn:∀i,Mn (p.sd i).c (p'.sd i).c
 ak:∀i M T,Ak p p.wire i M T->Ak p' p'.wire i M T
 fk:∀i T,Fk N p p.wire i T->Fk N p' p'.wire i T
 ww:∃l,p'.wire=p.wire++l
 sb:(∀i,tQ (p.sd i).c)->∀i,tQ (p'.sd i).c
theorem Us.trans {N:Bool->Int}{p p' a:Pr}(h:Us N p p')(k:Us N p' a):Us N p a :=
 ⟨k.now.trans h.now,fun i=>(h.mn i).trans (k.mn i),fun i M T x=>k.ak i M T (h.ak i M T x),fun i T x=>k.fk i T (h.fk i T x),(by obtain⟨l,e⟩:=h.ww;obtain⟨m,b⟩:=k.ww;exact⟨l++m,by rw[b,e,LK]⟩),fun x=>k.sb (h.sb x)⟩
theorem Tn.user {P:Pr.zc}{p p':Pr}{q N:Bool->Int}{i:Bool}(h:Tn P p q N)(n:∃a b,Cl P p' [] q N a b)(u:UO p p' i)(o:BH P p' i)(r:(p'.sd i).closed=true->(p'.sd i).c.shut=true):Tn P p' q N/\Us N p p':=by
 obtain⟨l,op,k⟩:=u.op;have g:G1 True p p' i l:=⟨op.sv,op.rv,op.xv,u.Ej,k,u.now⟩;obtain⟨a,b,t⟩:=h.cl;obtain⟨z,A,d⟩:=n;have dn:=d.dp (!i);rw[LF,u.Ej]at dn;have y:=(d.ns i).1.hv.bd;have B:=(d.ns i).1.nn.1;refine⟨⟨⟨_,_,d⟩,fun j=> ?_,fun j=> ?_,fun f e=> ?_,fun j=> ?_,fun j=>⟨(h.par j).1,by rw[(g.mn j).cf];exact(h.par j).2⟩,fun j=> ?_,fun j=> ?_⟩,u.now,g.mn,fun j M T x=> ?_,fun j T x=> ?_,⟨_,k⟩,fun x j=> ?_⟩
 ·rcases px (i:=i) (j:=j)with rfl | rfl
  ·have:=(h.sx j).step op.rv op.xv (by rw[op.AC];exact(h.sx j).lR);rw[u.now];exact this
  rw[u.Ej,u.now];exact h.sx _
 ·rcases px (i:=i) (j:=j)with rfl | rfl
  ·rw[u.now];exact op.xv.ex.nd fun _=>h.nd j
  rw[u.Ej,u.now];exact h.nd _
 ·rw[k]at e;rw[u.now]
  rcases LE.1 e with e | e
  ·exact h.w f e
  obtain⟨x,-,rfl⟩:=Md.1 e;exact⟨Z,L9 _⟩
 ·rcases px (i:=i) (j:=j)with rfl | rfl
  ·exact o
  unfold BH;rw[u.Ej];exact h.rw _
 ·rcases px (i:=i) (j:=j)with rfl | rfl
  ·rw[u.all];exact h.all _
  rw[u.Ej];exact h.all _
 ·rcases px (i:=i) (j:=j)with rfl | rfl
  ·exact r
  rw[u.Ej];exact h.cs _
 ·rw[k];exact(g.ak ⟨y.1,O⟩ dn.tq x).1
 ·rw[k];have s:=(t.ns (!j)).1.hv;have m:=(d.ns (!j)).1.hv;rw[LF]at s m;exact g.fk s m (d.dp j).fM (d.ns j).1.nx (fun _ _ _ _=>.inl trivial) x
 rcases px (i:=i) (j:=j)with rfl | rfl
 ·exact op.xv.IA (x j)
 rw[u.Ej];exact x _
theorem Us.wm {N:Bool->Int}{p p':Pr}(h:Us N p p'){f:Fl}(hf:f∈p.wire):f∈p'.wire:=by
 obtain⟨l,e⟩:=h.ww;rw[e];exact LO _ hf
structure Ud (P:Pr.zc)(N:Bool->Int)(p:Pr)(i:Bool):Prop where
 rd:Rd P p i
 fu:min ((p.sd i).c.fM+40) (N i+1)<=(p.sd i).c.last
 cl:(p.sd i).c.last=N i+1->(p.sd i).closed=true
theorem BI (p:Pr)(i:Bool)(n:Int):((p.send i n).sd i).all=(p.sd i).all/\((p.send i n).sd i).got=(p.sd i).got/\((p.send i n).sd i).closed=(p.sd i).closed:=by
 unfold Pr.send;dsimp only;split
 ·exact⟨Z,Z,Z⟩
 split
 ·exact⟨Z,Z,Z⟩
 rw[af]
 cases i <;> exact⟨Z,Z,Z⟩
theorem tb {c:Cn}(h2:2<=c.st)(now:Int):(c.close now).1.shut=true:=by
 unfold Cn.close;split
 ·rename_i h
  rcases h with h | h
  ·omega
  exact h
 dsimp only;rw[L5 O];split
 ·exact(io { c with shut:=true } now).1.shut
 exact(io _ now).1.shut.trans (jl { c with shut:=true } now 5).shut
theorem Tn.send {P:Pr.zc}{p:Pr}{q N:Bool->Int}(h:Tn P p q N)(i:Bool):Tn P (p.send i 1000) q N/\Us N p (p.send i 1000)/\min (((p.send i 1000).sd i).c.fM+40) (N i+1)<=((p.send i 1000).sd i).c.last:=by
 obtain⟨a,b,f⟩:=h.cl;obtain⟨B,C,E⟩:=BI p i 1000;have ha:=h.all i
 have hs:(((p.send i 1000).sd i).str.length:Int)<=N i:=by
  unfold Sd.str;rw[Le,B];omega
 obtain⟨o,u⟩:=f.send i 1000 (h.sx i).p2 hs;have n:=(f.ns i).1;have r:=(f.pv.r i).1.pi;have r2:=r.ok.xK;have r3:=r.rd;obtain⟨l,op,-⟩:=u.op;obtain⟨F,G⟩:=h.user ⟨_,_,o⟩ u ((h.rw i).keep n.hv (o.ns i).1.hv (.of op.sv op.rv op.xv) C O) (fun g=>op.xv.ex.sh (h.cs i (by rw[<-E];exact g)));refine⟨F,G,?_⟩;have k:=(f.ft.sd i);have I:=(o.ft.sd i);have t:=op.fM;have J:=n.hv.ok.fM;have b4:=(h.sx i).ci.ub;have j:=n.hv.nl;have K:=(h.sx i).ci.sf;have L:=n.st;have w:=(f.pv.s i).1.sh;have x:=f.f2.cl i;have bl:=(h.par i).2;have y:=k.last;have A:=I.last;have hlen:=k.len;have M:=k.s0;have S:=k.sl;have T:=(f.last i);rw[A];unfold Pr.send at *;dsimp only at *;split at A
 ·rename_i d;rw[L7 d]at *
  rcases d with d | d
  ·have:=x d;have:=k.Ei;omega
  omega
 rename_i d;rw[L5 d]at *
 have z:(p.sd i).c.shut=false:=by
  cases e:(p.sd i).c.shut with
  | false=>rfl
  | true=>exact absurd (.inl (w e)) d
 have m:(p.sd i).c.refusal=0:=by
  unfold Cn.refusal;have:=K z;rw[L5 O,L7 ⟨z,O⟩]
 have U:¬(p.sd i).c.refusal≠0:=by rw[m];decide
 rw[L5 U]at *;rw[af]at t|-;have V:((p.kd i { (p.sd i)with c:=((p.sd i).c.send p.now (Pr.bytes (p.sd i) 1000)).1,sent:=(p.sd i).sent+(p.sd i).c.nX (Pr.bytes (p.sd i) 1000) }).sd i)={ (p.sd i)with c:=((p.sd i).c.send p.now (Pr.bytes (p.sd i) 1000)).1,sent:=(p.sd i).sent+(p.sd i).c.nX (Pr.bytes (p.sd i) 1000) }:=by cases i <;> rfl
 rw[V]at t|-;dsimp only at t|-
 have W:((Pr.bytes (p.sd i) 1000).length:Int)=N i-(p.sd i).sent:=by
  unfold Pr.bytes;rw[Lq,Le];omega
 have X:(p.sd i).c.nX (Pr.bytes (p.sd i) 1000)=min (N i-(p.sd i).sent) (max 0 ((p.sd i).c.cf.keep-(p.sd i).c.held.length)):=by
  unfold Cn.nX Cn.space;rw[W,L5 (by rw[m];decide)]
 have a0:(p.sd i).c.last=(p.sd i).c.base+(p.sd i).c.held.length:=Z;rw[z]at j
 simp at j
 show min (((p.sd i).c.send p.now (Pr.bytes (p.sd i) 1000)).1.fM+40) (N i+1)<=1+((p.sd i).sent+(p.sd i).c.nX (Pr.bytes (p.sd i) 1000));rw[X];omega
theorem BJ (p:Pr)(i:Bool)(n:Int):((p.recv i n).sd i).c=((p.sd i).c.recv p.now n).1/\((p.recv i n).sd i).closed=(p.sd i).closed:=by
 unfold Pr.recv;dsimp only;split
 ·cases i <;> exact⟨Z,Z⟩
 rw[af]
 cases i <;> exact⟨Z,Z⟩
theorem Rd.keep {P:Pr.zc}{p p':Pr}{i:Bool}{N:Int}(h:Rd P p i)(d:Hv (p.sd i).c N)(a:Hv (p'.sd i).c N)(m:Mn (p.sd i).c (p'.sd i).c)(g:(p'.sd i).got=(p.sd i).got)(e:(p'.sd i).c.expected=(p.sd i).c.expected):Rd P p' i:=by
 rcases h with h | ⟨h1,h2⟩
 ·have h1:=d.exp h;exact .inl (a.rch O)
 have f:=m.ann
 cases hr:(p.sd i).c.reached with
 | true =>
  have h1:=d.exp hr;exact .inl (a.rch O)
 | false =>
  have j:(p.sd i).c.expected=(p.sd i).c.bx.nx:=K7
  have b:(p'.sd i).c.reached=false:=by
   cases b:(p'.sd i).c.reached with
   | false=>rfl
   | true =>
    have k:=a.exp b;have:=d.rch O;rw[hr]at this
    cases this
  have l:(p'.sd i).c.expected=(p'.sd i).c.bx.nx:=by unfold Cn.expected;rw[L5 (by rw[b];decide)]
  exact .inr ⟨by rw[g];omega,by rw[g];omega⟩
theorem Tn.recv {P:Pr.zc}{p:Pr}{q N:Bool->Int}(h:Tn P p q N)(i:Bool):Tn P (p.recv i 1000) q N/\Us N p (p.recv i 1000)/\Rd P (p.recv i 1000) i/\((p.recv i 1000).sd i).c.fM=(p.sd i).c.fM:=by
 obtain⟨a,b,f⟩:=h.cl;obtain⟨j,u⟩:=f.recv i (n:=1000) D (h.sx i).p2;have d:=(f.ns i).1;have o:=(j.ns i).1;obtain⟨z,A⟩:=BJ p i 1000;obtain⟨l,op,-⟩:=u.op;have m:=Mn.of op.sv op.rv op.xv;have r:=(f.pv.r i).1.pi;have B:=(j.pv.r i).1.pi;have L:=r.ok.Do;have M:=r.rd;have S:=B.rd;have hlen:=(f.ft.sd (!i)).len;have C:=d.hv.nx;have t:=h.all (!i);have k:=(uZ d.hv (fun _=>d.fM) d.now (by have:=d.st;omega) (h.sx i).p2 (n:=1000) D).2 O;rw[<-z]at k;obtain⟨T,U,e⟩:=k
 have w:Rd P (p.recv i 1000) i:=by
  have x:(p.sd i).c.reached=true->((p.recv i 1000).sd i).c.reached=true:=fun g=>by
   have h1:=d.hv.exp g;exact o.hv.rch (by rw[op.exp];omega)
  have y:(((p.recv i 1000).sd i).got.length:Int)=((p.recv i 1000).sd i).c.bx.nx:=O
  rcases e with⟨e,V⟩ | e | e
  ·rcases h.rw i with g | g
   ·exact .inl (x g)
   have:=g O;have W:=m.ann;exact .inr ⟨y,O⟩
  ·have E:=d.hv.ok.st;have X:=d.st;unfold aV at e;rw[Lr]at e;exact .inl (x (d.hv.ov (d.hv.st O)))
  have F:=o.hv.ok.ring;have G:((p.recv i 1000).sd i).c.room=P.r i:=(j.pv.s i).1.room;have I:(p.sd i).c.room=P.r i:=(f.pv.s i).1.room;unfold Cn.most at e;rw[I]at e;exact .inr ⟨y,O⟩
 obtain⟨J,K⟩:=h.user ⟨_,_,j⟩ u (w.imp id fun g _=>g.2) (fun g=>m.sh (h.cs i (by rw[<-A];exact g)));exact⟨J,K,w,op.fM⟩
theorem Tn.shut {P:Pr.zc}{p:Pr}{q N:Bool->Int}(h:Tn P p q N)(i:Bool)(o:((p.sd i).str.length:Int)=N i)(rd:Rd P p i):Tn P (p.shut i) q N/\Us N p (p.shut i)/\Rd P (p.shut i) i/\((p.shut i).sd i).c.fM=(p.sd i).c.fM/\((p.shut i).sd i).closed=true:=by
 obtain⟨a,b,j⟩:=h.cl;obtain⟨k,u⟩:=j.shut i (h.sx i).p2 o;have n:=(j.ns i).1;have r:=(k.ns i).1;have t:=n.st
 have e:((p.shut i).sd i).closed=true/\((p.shut i).sd i).c.shut=true/\((p.shut i).sd i).got=(p.sd i).got:=by
  unfold Pr.shut;dsimp only;split
  ·rename_i g;exact⟨g,h.cs i g,Z⟩
  rename_i g;split
  ·rename_i w
   exfalso
   apply w
   unfold Cn.te;rw[L5 (fun f=>by rcases f with f | f;omega;exact g ((j.pv.s i).1.sh f))]
  rw[af];have x:=tb (c:=(p.sd i).c) O p.now
  cases i <;> exact⟨Z,x,Z⟩
 obtain⟨y,z,A⟩:=e;obtain⟨l,op,-⟩:=u.op;have m:=Mn.of op.sv op.rv op.xv;have d:=rd.keep n.hv r.hv m A op.exp;obtain⟨B,C⟩:=h.user ⟨_,_,k⟩ u (d.imp id fun g _=>g.2) (fun _=>z);exact⟨B,C,d,op.fM,y⟩
theorem Tn.mR {P:Pr.zc}{p:Pr}{q N:Bool->Int}(h:Tn P p q N)(i:Bool):Tn P (p.mR i) q N/\Us N p (p.mR i)/\Ud P N (p.mR i) i:=by
 obtain⟨r,j,x⟩:=h.send i;obtain⟨c,d,k,l⟩:=r.recv i;have y:=(d.mn i).last;obtain⟨a,b,m⟩:=c.cl;have hs:=(m.ft.sd i);have n:=c.all i;have z:=(m.ns i).1.st;have f:=hs.last;have A:=hs.Ei;unfold Pr.mR;dsimp only;split
 ·rename_i g;obtain⟨s,o,t,u,w⟩:=c.shut i O k;have B:=(o.mn i).last;exact⟨s,(j.trans d).trans o,t,by rw[u,l];omega,fun _=>w⟩
 rename_i g;refine⟨c,j.trans d,k,by rw[l];omega,fun e=> ?_⟩;exact absurd ⟨O,O⟩ g
theorem Us.Ej {P:Pr.zc}{N:Bool->Int}{p:Pr}{i:Bool}(h:Ud P N p (!i)){p':Pr}(e:p'.sd (!i)=p.sd (!i)):Ud P N p' (!i):=by
 refine⟨?_,by rw[e];exact h.fu,by rw[e];exact h.cl⟩;unfold Rd;rw[e];exact h.rd
theorem nR (p:Pr)(i:Bool):(p.mR i).sd (!i)=p.sd (!i):=by
 have a:∀(p:Pr),(p.send i 1000).sd (!i)=p.sd (!i):=fun p=>by
  unfold Pr.send;dsimp only;split
  ·rfl
  split
  ·rfl
  rw[af];cases i <;> rfl
 have b:∀(p:Pr),(p.recv i 1000).sd (!i)=p.sd (!i):=fun p=>by
  unfold Pr.recv;dsimp only;split
  ·cases i <;> rfl
  rw[af];cases i <;> rfl
 have c:∀(p:Pr),(p.shut i).sd (!i)=p.sd (!i):=fun p=>by
  unfold Pr.shut;dsimp only;split
  ·rfl
  split
  ·rfl
  rw[af];cases i <;> rfl
 unfold Pr.mR;dsimp only;split
 ·exact(c _).trans ((b _).trans (a p))
 exact(b _).trans (a p)
theorem Tn.zx {P:Pr.zc}{p:Pr}{q N:Bool->Int}(h:Tn P p q N):Tn P p.zx.1 q N/\Us N p p.zx.1/\∀i,Ud P N p.zx.1 i:=by
 obtain⟨a,b,d1⟩:=h.mR false;obtain⟨c,d,d2⟩:=a.mR true;refine⟨c,b.trans d,fun i=> ?_⟩
 cases i
 ·exact Us.Ej (i:=true) d1 (nR (p.mR false) true)
 exact d2
def Pr.Ds (p:Pr):Pr:=p.zx.1.tick
theorem wu {s:Sc}(ok:s.Ok){m:Int}(hm:1<=m)(h:s.fM=s.next):s.pipe m=0:=by
 obtain⟨p1,a,b⟩:=km ok hm;have c:=(aN ok.DX).1;have d:=(aN (bw ok hm).1).1;omega
theorem rZ {c:Cn}(ok:c.Ok)(a:c.fM=c.next)(hl:c.next<c.last)(hw:c.next<c.limit)(hr:c.largest<=2*(c.limit-c.next)):0<c.allowed:=by
 have b:c.iq=max 0 (c.last-c.next):=Z;have e:=ok.gi;have d:=wu ok.sc (m:=c.gi) O a;unfold Cn.allowed;rw[L5 O,d,L5 (fun g=>g.1 Z)];rw[L7]
 ·omega
 rcases(show min (min c.iq c.gi) (c.limit-c.next)=c.gi\/min (min c.iq c.gi) (c.limit-c.next)=c.iq\/min (min c.iq c.gi) (c.limit-c.next)=c.limit-c.next by omega)with g | g | g
 ·exact .inl g
 ·exact .inr (.inl ⟨g,.inl a⟩)
 exact .inr (.inr O)
structure Rn (N:Bool->Int)(p p':Pr):Prop where
 now:p'.now=p.now+1
 mn:∀i,Mn (p.sd i).c (p'.sd i).c
 r1:∀i,min (p.sd i).c.next (N i+1)<=(p'.sd (!i)).c.expected+1
 ak:∀i M T,Ak p p.wire i M T->Ak p' p'.wire i M T
 IB:∀i M T,T<=p.now+1->Ak p p.wire i M T->M<=(p'.sd i).c.fM\/∃f∈p'.wire,f.dst=i/\M<=iL (p'.sd i).c.cf.kc f.s
 wa:∀i M,(∃f∈p.wire,f.dst=i/\M<=iL (p.sd i).c.cf.kc f.s)->M<=(p'.sd i).c.fM
 st:∀i,(p.sd i).c.fM=(p.sd i).c.next->(p.sd i).c.next<=N i->(p.sd i).c.next<(p'.sd i).c.next
 fu:∀i,min ((p.sd i).c.fM+40) (N i+1)<=(p'.sd i).c.last
 fk:∀i T,N i<=(p.sd (!i)).c.expected->Fk N p p.wire i T->Fk N p' p'.wire i T
 fw:∀i,N i<=(p.sd (!i)).c.expected->(∃f∈p.wire,f.dst=(!i)/\f.s.fin=true)->N i<(p'.sd (!i)).c.expected
 fs:∀i,(p.sd i).c.fM=N i+1->Fk N p' p'.wire i (p.now+240)
theorem Tn.round {P:Pr.zc}{p:Pr}{q N:Bool->Int}(h:Tn P p q N)(hs:∀i,tQ (p.sd i).c)(hP:P.Ok)(hn:p.now+1<1692)(hq:∀i,q i<=1):E2 P N p.Ds\/(Tn P p.Ds q N/\(∀i,tQ (p.Ds.sd i).c)/\Rn N p p.Ds):=by
 obtain⟨n,d,d1⟩:=h.zx;have o:=d.sb hs;unfold Pr.Ds;generalize p.zx.1=p1 at n d d1 o|-;have ad:=d.now
 rcases n.tick hP (fun i=>(d1 i).rd) O with k | ⟨t2,Ig,fo,el⟩
 ·exact .inl k
 refine .inr ⟨t2,Ig,?_⟩;obtain⟨a0,b0,c0⟩:=h.cl;obtain⟨a1,b1,j⟩:=n.cl;obtain⟨a2,b2,B⟩:=t2.cl;have s:∀i,40<=P.r i:=fun i=>(h.par i).1
 have t:∀i,N i<=(p.sd (!i)).c.expected->(p1.sd (!i)).c.reached=true\/(N i<=(p1.sd (!i)).c.expected/\N i<(p1.sd (!i)).c.ann):=fun i l=>by
  have b:=(j.ns (!i)).1.hv;rw[LF]at b;have hm:=(d.mn (!i)).exp;have hp:=s (!i)
  rcases(d1 (!i)).rd with g | ⟨g1,C⟩
  ·exact .inl g
  cases hr:(p1.sd (!i)).c.reached with
  | true=>exact .inl Z
  | false =>
   have e:(p1.sd (!i)).c.expected=(p1.sd (!i)).c.bx.nx:=K7
   exact .inr ⟨O,O⟩
 have S:∀i T,N i<=(p.sd (!i)).c.expected->Fk N p1 p1.wire i T->Fk N p1.tick p1.tick.wire i T:=fun i T l x=>by
  rcases t i l with g | ⟨g1,C⟩
  ·have b:=(j.ns (!i)).1.hv;have u:=(B.ns (!i)).1.hv;rw[LF]at b u;have h1:=b.exp g;have h2:=(fo.mn (!i)).exp;exact .inl (u.rch O)
  have:=fo.fk i T g1 C x;rw[LD]at this;exact this
 refine⟨by rw[fo.now,ad],fun i=>(d.mn i).trans (fo.mn i),fun i=> ?_,fun i M T x=> ?_,fun i M T hT x=>el i M T O (d.ak i M T x),fun i M x=> ?_,fun i U e2=> ?_,fun i=> ?_,fun i T l x=>S i T l (d.fk i T x),fun i l x=> ?_,fun i e=> ?_⟩
 ·-- what was sent has come in
  have b:=(B.ns (!i)).1.hv;rw[LF]at b;have h1:=(d.mn i).nx;have h2:=hq i;have F:=nO b.ok;have a5:=b.ok.bx.Do;have bb:=b.ok.bx.xK
  rcases Mx ((p1.tick.sd (!i)).c.expected+1) (min (p.sd i).c.next (N i+1))with g | g
  ·exfalso
   apply b.ok.bx.FD
   have d1:=j.dp i;rw[LD]at d1
   have w:(p1.tick.sd (!i)).c.bx.has ((p1.tick.sd (!i)).c.bx.nx+1-1):=by
    rcases d1.safe ((p1.tick.sd (!i)).c.bx.nx+1) O O O with z | ⟨x,l,z1,z2,z3⟩
    ·exact(fo.mn (!i)).has _ z
    obtain⟨f,A,U,rfl⟩:=py l
    rcases fo.tk f A with y | y
    ·cases y
    have V:=y.2.2.1;rw[U,LF]at V;exact V O _ O O
   rw[show(p1.tick.sd (!i)).c.bx.nx+1-1=(p1.tick.sd (!i)).c.bx.nx by omega]at w;exact w
  exact g
 ·have:=fo.ak i M T (d.ak i M T x);rw[LD]at this;exact this
 ·obtain⟨f,A,rfl,W⟩:=x
  rcases fo.tk f (d.wm A)with y | y
  ·cases y
  have y1:=y.1;rw[(d.mn f.dst).cf]at y1;omega
 ·-- a side that waits is told of the room
  have E:=d.mn i;have G:=fo.mn i;have ok:=(B.ns i).1.hv.ok;have o1:=(j.ns i).1.hv.ok.fM;have o2:=ok.fM;have h1:=E.fM;have h2:=E.nx;have h3:=G.fM;have h4:=G.nx;have h5:=(d1 i).fu;have X:=G.last;have m:=t2.sx i;have hR:=m.lR
  rcases Mx (p.sd i).c.next (p1.tick.sd i).c.next with g | g
  ·exact g
  exfalso
  obtain⟨w1,w2⟩:=fo.hz j (fun i=>(d1 i).rd) s i O O;have I:=(B.ns i).1.st;have ag:=ok.st;have bc:=m.ci.fa;obtain⟨-,s2,-⟩:=Ig i (Lc O);have:=rZ ok O O O O;omega
 ·have h1:=(d1 i).fu;have h2:=(d.mn i).fM;have h3:=(fo.mn i).last;omega
 ·obtain⟨f,A,x1,W⟩:=x
  rcases t i l with g | ⟨g1,C⟩
  ·have b:=(j.ns (!i)).1.hv;rw[LF]at b;have h1:=b.exp g;have h2:=(fo.mn (!i)).exp;omega
  rcases fo.tk f (d.wm A)with y | y
  ·cases y
  have y4:=y.2.2.2;rw[x1,LF]at y4;exact y4 W g1 C
 -- the end of the stream has been sent
 have E:=d.mn i;have J:=(j.ns i).1;have ok:=J.hv.ok;have o1:=ok.fM;have h1:=E.fM;have h5:=(d1 i).fu;have hl:=(j.last i).1;have b:=(j.ns (!i)).1.hv;rw[LF]at b;have a3:=(j.dp i).fM;have K:=(d1 i).cl O;have L:=n.cs i K;have m:=n.sx i;have I:=J.st;have ag:=ok.st;have bc:=m.ci.fa
 have l:N i<=(p.sd (!i)).c.expected:=by
  have:=(c0.dp i).fM;omega
 refine S i _ l ?_
 rcases Mx (N i+1) (p1.sd i).c.fM with g | g
 ·exact .inl (b.rch O)
 have be:ae (p1.sd i).c.st=true:=Lc O;obtain⟨-,-,s3⟩:=o i be;have F:=J.nx
 have X:(p1.sd i).c.next=N i+2:=by
  rcases(show(p1.sd i).c.next=N i+1\/(p1.sd i).c.next=N i+2 by omega)with e | e
  ·exact absurd ⟨L,O⟩ s3
  exact e
 have hd:=m.ds (by show 0<(p1.sd i).c.next-(p1.sd i).c.fM;omega);have a4:=m.ni.dl hd;exact .inr (.inr ⟨O,X,hd,O⟩)
def Pr.seq (p:Pr):Nat->Pr
 | 0=>p
 | k+1=>(p.seq k).Ds
theorem nS (p:Pr):∀k,p.seq (k+1)=p.Ds.seq k:=by
 intro k
 induction k with
 | zero=>rfl
 | succ k a=>show(p.seq (k+1)).Ds=(p.Ds.seq k).Ds;rw[a]
theorem Tn.through {P:Pr.zc}{p:Pr}{q N:Bool->Int}(h:Tn P p q N)(hs:∀i,tQ (p.sd i).c)(F:P.Ok)(G:∀i,q i<=1){J:Nat}(I:∀i,N i<=20*J)(hn:p.now+10*J+242<1692):∃k,k<=10*J+241/\E2 P N (p.seq k):=by
 rcases Classical.em (∃k,k<=10*J+241/\E2 P N (p.seq k))with g | g
 ·exact g
 exfalso
 have run:∀k,k<=10*J+241->(Tn P (p.seq k) q N/\∀i,tQ ((p.seq k).sd i).c)/\(p.seq k).now=p.now+k:=by
  intro k
  induction k with
  | zero=>intro _;exact⟨⟨h,hs⟩,by show p.now=p.now+((0:Nat):Int);omega⟩
  | succ k n =>
   intro l;obtain⟨⟨t,s⟩,e⟩:=n O
   rcases t.round s F O G with z | ⟨z,K,r⟩
   ·exact absurd ⟨k+1,l,z⟩ g
   exact⟨⟨z,K⟩,by show(p.seq k).Ds.now=_;rw[r.now];omega⟩
 have R:∀k,k+1<=10*J+241->Rn N (p.seq k) (p.seq (k+1)):=fun k l=>by
  obtain⟨⟨t,s⟩,e⟩:=run k O
  rcases t.round s F O G with z | ⟨-,-,r⟩
  ·exact absurd ⟨k+1,l,z⟩ g
  exact r
 have mn:∀(i:Bool) (k d:Nat),k+d<=10*J+241->Mn ((p.seq k).sd i).c ((p.seq (k+d)).sd i).c:=fun i k d=>by
  induction d with
  | zero=>intro _;exact .refl _
  | succ d n=>intro l;exact(n O).trans ((R (k+d) l).mn i)
 have T:=fun k l=>(run k l).1.1
 have ns:∀(i:Bool) (k:Nat),k<=10*J+241->Ns ((p.seq k).sd i).c (p.seq k).now (N (!i)) (N i):=fun i k l=>by
  obtain⟨a,b,c⟩:=(T k l).cl;exact(c.ns i).1
 have di:∀(i:Bool) (k:Nat),k<=10*J+241->DI ((p.seq k).sd i).c ((p.seq k).sd (!i)).c (jb (!i) (p.seq k).wire) (jb i (p.seq k).wire) (q i) (N i):=fun i k l=>by
  obtain⟨a,b,c⟩:=(T k l).cl;have:=c.dp i;rw[LD]at this;exact this
 -- what has come in is Gn
 have ack:∀(i:Bool) (k:Nat) (M:Int),k+3<=10*J+241->M<=((p.seq k).sd (!i)).c.expected+1->M<=((p.seq (k+3)).sd i).c.fM:=fun i k M l L=>by
  have V:=(run k O).2;have w:=(run (k+1) O).2;have d:=di i k O
  have W:Ak (p.seq k) (p.seq k).wire i M ((p.seq k).now+2):=by
   refine⟨L,?_⟩
   rcases d.told with z | z | ⟨x,X,z⟩
   ·exact .inl O
   ·have:=((T k O).sx (!i)).al z;exact .inr (.inr ⟨z,O⟩)
   obtain⟨f,hf,e,rfl⟩:=py X;exact .inr (.inl ⟨f,hf,e,O⟩)
  have a1:=(R k O).ak i M _ W;have m:=mn i (k+2) 1 O
  rcases(R (k+1) O).IB i M _ O a1 with z | z
  ·exact Lz z m.fM
  exact(R (k+2) O).wa i M z
 have A:∀(i:Bool) (k:Nat),k+4<=10*J+241->min ((p.seq k).sd i).c.next (N i+1)<=((p.seq (k+4)).sd i).c.fM:=fun i k l =>
  ack i (k+1) _ O ((R k O).r1 i)
 have S:∀(i:Bool) (k:Nat),k+10<=10*J+241->min (((p.seq k).sd i).c.fM+20) (N i+1)<=((p.seq (k+10)).sd i).c.fM:=fun i k l=>by
  have f:=(R k O).fu i;have a:=A i (k+1) O;have a2:=A i (k+6) O;have m1:=(mn i k 1 O).fM;have o1:=(ns i (k+1) O).hv.ok.fM;have o5:=(ns i (k+5) O).hv.ok.fM;have m5:=(mn i (k+5) 5 O).fM;have x5:=(mn i (k+1) 4 O).nx;have x6:=(mn i (k+5) 1 O).nx;have st:=(R (k+5) O).st i;have B:=(mn i (k+1) 5 O).inc ((T (k+1) O).sx i).HW;have w:k+1+4=k+5:=Z;have e2:k+1+5=k+6:=Z;have e3:k+5+1=k+6:=Z;have e4:k+5+5=k+10:=Z;have e5:k+6+4=k+10:=Z;rw[w]at x5 a;rw[e2]at B;rw[e3]at x6 st;rw[e4]at m5;rw[e5]at a2
  rcases Mx ((p.seq (k+1)).sd i).c.next (min (((p.seq k).sd i).c.fM+20) (N i+1))with z | z
  ·by_cases y:((p.seq (k+5)).sd i).c.next=((p.seq (k+1)).sd i).c.next
   ·have:=st O O;omega
   omega
  omega
 have U:∀(i:Bool) (j:Nat),j<=J->min (1+20*(j:Int)) (N i+1)<=((p.seq (10*j)).sd i).c.fM:=fun i j=>by
  induction j with
  | zero =>
   intro _;have:=(ns i 0 O).fM;show min (1+20*((0:Nat):Int)) (N i+1)<=((p.seq 0).sd i).c.fM;omega
  | succ j n =>
   intro hj;have h1:=n O;have h2:=S i (10*j) O;rw[show 10*(j+1)=10*j+10 by omega];omega
 have E:∀i,N i<((p.seq (10*J+241)).sd (!i)).c.expected:=fun i=>by
  have u:=U i J (L4 _);have hj:=I i;have d:=(di i (10*J) O).fM;have m:=(mn (!i) (10*J) 241 O).exp
  rcases Mx (N i+1) ((p.seq (10*J)).sd i).c.fM with z | z
  ·omega
  have fs:=(R (10*J) O).fs i O
  have fk:∀c:Nat,c<=239->Fk N (p.seq (10*J+1+c)) (p.seq (10*J+1+c)).wire i ((p.seq (10*J)).now+240):=fun c=>by
   induction c with
   | zero=>intro _;exact fs
   | succ c n =>
    intro hc;have C:=(mn (!i) (10*J) (1+c) O).exp;rw[<-NW]at C;exact(R (10*J+1+c) O).fk i _ O (n O)
  have f:=fk 239 (L4 _);obtain⟨m,hm⟩:∃m:Nat,m=10*J+240:=⟨_,Z⟩;rw[show 10*J+1+239=m by omega]at f;have C:=(mn (!i) (10*J) 240 O).exp;have m3:=(mn (!i) m 1 O).exp;have t:=T m O;have V:=(run (10*J) O).2;have w:=(run m O).2;have o:=(ns (!i) m O).hv;rw[LF]at o;rw[show 10*J+240=m from hm.symm]at C;rw[show 10*J+241=m+1 by omega]
  rcases f with f | f | ⟨f1,f2,f3,f4⟩
  ·have:=o.exp f;omega
  ·exact(R m O).fw i O f
  have:=t.nd i f3;omega
 refine g ⟨10*J+241,L4 _,?_⟩;obtain⟨a,b,c⟩:=(T (10*J+241) (L4 _)).cl;refine⟨c.pv,⟨_,_,c.ft⟩,c.f2.cl,fun i=> ?_⟩;have o:=(c.ns i).1.hv;have:=E (!i);rw[LF]at this;exact o.rch this
theorem E2.recv {P:Pr.zc}{N:Bool->Int}{p:Pr}(h:E2 P N p)(i:Bool):E2 P N (p.recv i 1000)/\((p.recv i 1000).sd i).fin=true/\∀j,(p.sd j).closed=true:=by
 obtain⟨a,b,m⟩:=h.ft;have s:=h.re;have o:=Pr.PV.recv h.pv m i (n:=1000) D;have ok:=(m.sd i).c
 have q:∀j,(p.sd j).closed=true:=fun j=>by
  have h1:=h.re (!j);unfold Cn.reached at h1;rw[Ly]at h1;have:=((h.pv.r (!j)).1.en h1.1).1;rw[LF]at this;exact this
 have u:=(h.pv.r i).1.pi.nx;have hlen:=(Pr.Dq m (!i));have B:=ok.bx.Do;have C:=ok.bx.xK
 have w:(((p.sd i).c.bx.take 1000).rd=(p.sd i).c.bx.nx):=by
  unfold Bx.take;split
  ·omega
  show(p.sd i).c.bx.rd+min 1000 ((p.sd i).c.bx.nx-(p.sd i).c.bx.rd)=(p.sd i).c.bx.nx;omega
 have f:=(Bx.D6 (p.sd i).c.bx 1000).1
 have l:(p.sd i).c.qF 1000=true:=by
  unfold Cn.qF Cn.reached;have:=s i;unfold Cn.reached at this;dsimp only;rw[f,w,this]
  simp
 have he:(p.sd i).c.nF 1000=0:=by
  unfold Cn.nF;rw[L5 D,L5 (fun g=>by rw[l]at g;cases g.2.2)]
 have x:((p.sd i).c.recv p.now 1000).1.reached=true:=by
  have d:∀c:Cn,c.bx=(p.sd i).c.bx.take 1000->c.ended=(p.sd i).c.ended->c.ox=(p.sd i).c.ox->c.reached=true:=fun c y z A=>by
   have:=s i;unfold Cn.reached at this|-;rw[y,z,A,f];exact this
  unfold Cn.recv;rw[L5 D];dsimp only;split
  ·exact d _ Z Z Z
  split
  ·exact d _ Z Z Z
  rw[cu (bA _ p.now)];exact d _ Z Z Z
 have e:p.recv i 1000=(p.kd i { (p.sd i)with c:=((p.sd i).c.recv p.now 1000).1,got:=(p.sd i).got++(p.sd i).c.bx.nB 1000,fin:=(p.sd i).fin||(p.sd i).c.qF 1000 }).put i ((p.sd i).c.recv p.now 1000).2:=by
  unfold Pr.recv;dsimp only;rw[L5 (by rw[he];decide)]
 have k:∀j,((p.recv i 1000).sd j).str=(p.sd j).str/\((p.recv i 1000).sd j).closed=(p.sd j).closed/\(j=i->((p.recv i 1000).sd j).fin=true/\((p.recv i 1000).sd j).c.reached=true)/\(j≠i->((p.recv i 1000).sd j).c=(p.sd j).c):=fun j=>by
  rw[e,af]
  cases i <;> cases j <;> first | exact⟨Z,Z,fun _=>⟨by show(_||_)=true;rw[l];simp,x⟩,fun g=>absurd Z g⟩ | exact⟨Z,Z,(fun g=>by cases g),fun _=>rfl⟩
 refine⟨⟨o,⟨_,_,Pr.Dg m i 1000⟩,fun j=>by rw[(k j).1,(k j).2.1];exact h.cl j,fun j=> ?_⟩,((k i).2.2.1 Z).1,q⟩;by_cases t:j=i
 ·exact((k j).2.2.1 t).2
 rw[(k j).2.2.2 t];exact h.re j
theorem nT (p:Pr)(i:Bool)(n:Int)(j:Bool):((p.recv i n).sd j).all=(p.sd j).all/\(j≠i->(p.recv i n).sd j=p.sd j):=by
 unfold Pr.recv;dsimp only;split
 ·cases i <;> cases j <;> first | exact⟨Z,fun _=>rfl⟩ | exact⟨Z,fun g=>absurd Z g⟩
 rw[af]
 cases i <;> cases j <;> first | exact⟨Z,fun _=>rfl⟩ | exact⟨Z,fun g=>absurd Z g⟩
theorem kW (p:Pr)(i j:Bool):((p.shut i).sd j).fin=(p.sd j).fin/\((p.shut i).sd j).all=(p.sd j).all:=by
 unfold Pr.shut;dsimp only;split
 ·exact⟨Z,Z⟩
 split
 ·exact⟨Z,Z⟩
 rw[af]
 cases i <;> cases j <;> exact⟨Z,Z⟩
theorem zd {p:Pr}(h:p.zx.2=true)(i:Bool):(p.zx.1.sd i).fin=true:=by
 unfold Pr.zx Pr.Dn at h;dsimp only at h;simp only[Ly]at h
 have k:∀(q:Pr) (j:Bool),((q.mR j).sd j).fin=(((q.send j 1000).recv j 1000).sd j).fin:=fun q j=>by
  unfold Pr.mR;dsimp only;split
  ·exact(kW _ j j).1
  rfl
 show(((p.mR false).mR true).sd i).fin=true
 cases i
 ·have e:((p.mR false).mR true).sd false=(p.mR false).sd false:=nR (p.mR false) true;rw[e,k];exact h.1.1
 rw[k];exact h.2.1
structure Fe (P:Pr.zc)(N:Bool->Int)(p:Pr):Prop where
 pv:Pr.PV P p
 ft:∃a b,Pr.Fit p a b
 fin:∀i,(p.sd i).fin=true
 cl:∀i,(p.sd i).closed=true->((p.sd i).str.length:Int)=N i
 all:∀i,((p.sd i).all.length:Int)=N i
theorem E2.done {P:Pr.zc}{N:Bool->Int}{p:Pr}(h:E2 P N p)(ha:∀i,((p.sd i).all.length:Int)=N i):p.zx.2=true/\Fe P N p.zx.1:=by
 obtain⟨h1,k,l⟩:=h.recv false;obtain⟨h2,f2,e⟩:=h1.recv true
 have c:∀(q:Pr) (i:Bool),(q.sd i).closed=true->q.send i 1000=q:=fun q i g=>by
  unfold Pr.send;dsimp only;rw[L7 (.inl g)]
 have bI:∀(q:Pr) (i:Bool),(q.sd i).closed=true->q.shut i=q:=fun q i g=>by
  unfold Pr.shut;dsimp only;rw[L7 g]
 obtain⟨-,-,u⟩:=h2.recv true
 have m:p.mR false=p.recv false 1000:=by
  unfold Pr.mR;dsimp only;rw[c _ _ (l false),bI _ _ (e false)];split <;> rfl
 have w:(p.recv false 1000).mR true=(p.recv false 1000).recv true 1000:=by
  unfold Pr.mR;dsimp only;rw[c _ _ (e true),bI _ _ (u true)];split <;> rfl
 have n:∀i,(((p.recv false 1000).sd i).all.length:Int)=N i:=fun i=>by rw[(nT p false 1000 i).1];exact ha i
 have o:∀i,((((p.recv false 1000).recv true 1000).sd i).all.length:Int)=N i:=fun i=>by rw[(nT _ true 1000 i).1];exact n i
 have d:∀(q:Pr) (i:Bool),E2 P N q->(q.sd i).fin=true->(∀i,((q.sd i).all.length:Int)=N i)->Pr.Dn (q.sd i) (q.sd (!i))=true:=fun q i s t x=>by
  obtain⟨g1,A⟩:=(s.pv.r i).2.2 t;have B:=s.cl (!i) g1;have C:=x (!i);unfold Pr.Dn;rw[t,Lc O];rfl
 have y:((((p.recv false 1000).recv true 1000).sd false).fin=true):=by rw[(nT _ true 1000 false).2 D];exact k
 have z:p.zx.1=(p.recv false 1000).recv true 1000:=by
  show(p.mR false).mR true=_;rw[m,w]
 refine⟨?_,by rw[z];exact⟨h2.pv,h2.ft,fun i=>by cases i;exact y;exact f2,h2.cl,o⟩⟩;show(Pr.Dn (((p.send false 1000).recv false 1000).sd false) ((p.send false 1000).recv false 1000).b&&Pr.Dn ((((p.mR false).send true 1000).recv true 1000).sd true) (((p.mR false).send true 1000).recv true 1000).a)=true;rw[c _ _ (l false),m,c _ _ (e true)];have f:=d _ false h1 k n;have j:=d _ true h2 f2 o;have f:Pr.Dn ((p.recv false 1000).sd false) (p.recv false 1000).b=true:=f;have j:Pr.Dn (((p.recv false 1000).recv true 1000).sd true) ((p.recv false 1000).recv true 1000).a=true:=j;rw[f,j];rfl
theorem kX (p:Pr)(j:Bool):(p.tick.sd j).str=(p.sd j).str/\(p.tick.sd j).closed=(p.sd j).closed/\(p.tick.sd j).all=(p.sd j).all:=by
 have b:∀(Q:List Fl) (p:Pr),((Q.foldl Pr.ke p).sd j).str=(p.sd j).str/\((Q.foldl Pr.ke p).sd j).closed=(p.sd j).closed/\((Q.foldl Pr.ke p).sd j).all=(p.sd j).all:=fun Q=>by
  induction Q with
  | nil=>intro p;exact⟨Z,Z,Z⟩
  | cons f Q c =>
   intro p;obtain⟨d,e⟩:=Pr.tC p f j;obtain⟨g,h,k⟩:=c (p.ke f);refine⟨g.trans d,h.trans e,k.trans ?_⟩;unfold Pr.ke;rw[af]
   cases f.dst <;> cases j <;> rfl
 have a:∀(p:Pr) (i:Bool),((p.ki i).sd j).str=(p.sd j).str/\((p.ki i).sd j).closed=(p.sd j).closed/\((p.ki i).sd j).all=(p.sd j).all:=fun p i=>by
  unfold Pr.ki;rw[af]
  cases i <;> cases j <;> exact⟨Z,Z,Z⟩
 obtain⟨l,m,n⟩:=a ((({ p with now:=p.now+1 }:Pr).deliver).ki false) true;obtain⟨o,q,r⟩:=a (({ p with now:=p.now+1 }:Pr).deliver) false;obtain⟨s,t,u⟩:=b ({ p with now:=p.now+1 }:Pr).due { ({ p with now:=p.now+1 }:Pr)with wire:=({ p with now:=p.now+1 }:Pr).rest };refine⟨l.trans (o.trans (s.trans ?_)),m.trans (q.trans (t.trans ?_)),n.trans (r.trans (u.trans ?_))⟩ <;> cases j <;> rfl
theorem rf (p:Pr)(i j:Bool)(n:Int):((p.send i n).sd j).all=(p.sd j).all/\((p.send i n).sd j).closed=(p.sd j).closed/\((p.sd j).closed=true->((p.send i n).sd j).str=(p.sd j).str):=by
 unfold Pr.send;dsimp only;split
 ·exact⟨Z,Z,fun _=>rfl⟩
 split
 ·exact⟨Z,Z,fun _=>rfl⟩
 rename_i g _;rw[af]
 cases i <;> cases j <;> first | exact⟨Z,Z,fun _=>rfl⟩ | exact⟨Z,Z,fun h=>absurd (.inl h) g⟩
theorem nU (p:Pr)(i j:Bool)(n:Int):((p.recv i n).sd j).all=(p.sd j).all/\((p.recv i n).sd j).closed=(p.sd j).closed/\((p.recv i n).sd j).str=(p.sd j).str/\((p.recv i n).sd j).sent=(p.sd j).sent:=by
 unfold Pr.recv;dsimp only;split
 ·cases i <;> cases j <;> exact⟨Z,Z,Z,Z⟩
 rw[af]
 cases i <;> cases j <;> exact⟨Z,Z,Z,Z⟩
theorem rh (p:Pr)(i j:Bool):((p.shut i).sd j).str=(p.sd j).str/\(j≠i->((p.shut i).sd j).closed=(p.sd j).closed):=by
 unfold Pr.shut;dsimp only;split
 ·exact⟨Z,fun _=>rfl⟩
 split
 ·exact⟨Z,fun _=>rfl⟩
 rw[af]
 cases i <;> cases j <;> first | exact⟨Z,fun _=>rfl⟩ | exact⟨Z,fun h=>absurd Z h⟩
structure Ga (P:Pr.zc)(N:Bool->Int)(p:Pr)(n:Int):Prop where
 al:Pr.Al P p n
 cl:∀i,(p.sd i).closed=true->((p.sd i).str.length:Int)=N i
 all:∀i,((p.sd i).all.length:Int)=N i
theorem Ga.mR {P:Pr.zc}{N:Bool->Int}{p:Pr}{n:Int}(h:Ga P N p n)(i:Bool):Ga P N (p.mR i) (n+3):=by
 have l:=h.al.send i 1000;have a:=l.recv i (k:=1000) D;have b:=fun j=>rf p i j 1000;have c:=fun j=>nU (p.send i 1000) i j 1000
 have e:∀j,(((p.send i 1000).recv i 1000).sd j).closed=true->((((p.send i 1000).recv i 1000).sd j).str.length:Int)=N j:=fun j g=>by
  rw[(c j).2.1,(b j).2.1]at g;rw[(c j).2.2.1,(b j).2.2 g];exact h.cl j g
 have d:∀j,((((p.send i 1000).recv i 1000).sd j).all.length:Int)=N j:=fun j=>by rw[(c j).1,(b j).1];exact h.all j
 unfold Pr.mR;dsimp only;split
 ·rename_i g;have m:=a.shut i;refine⟨m.mono O,fun j q=> ?_,fun j=>by rw[(kW _ i j).2];exact d j⟩;rw[(rh _ i j).1];by_cases f:j=i
  ·subst f;have k:=(a.run.1.sd j);have:=k.Ei;have:=d j;have:=k.s0;omega
  rw[(rh _ i j).2 f]at q;exact e j q
 exact⟨a.mono O,e,d⟩
theorem mR_now (p:Pr)(i:Bool):(p.mR i).now=p.now:=by
 unfold Pr.mR;dsimp only;split
 ·rw[Pr.zJ,Pr.zI,Pr.zH]
 rw[Pr.zI,Pr.zH]
theorem Ga.tkz {P:Pr.zc}{N:Bool->Int}{p:Pr}{n:Int}(h:Ga P N p n)(a:P.Ok)(h0:0<=n)(b:n+1<=14000)(c:7*p.now+6<=n+6000):Ga P N p.tick (n+1) :=
 ⟨h.al.tkz h0 O c a,fun i g=>by rw[(kX p i).2.1]at g;rw[(kX p i).1];exact h.cl i g,fun i=>by rw[(kX p i).2.2];exact h.all i⟩
theorem Ga.Ds {P:Pr.zc}{N:Bool->Int}{p:Pr}{n:Int}(h:Ga P N p n)(a:P.Ok)(h0:0<=n)(b:n+7<=14000):Ga P N p.Ds (n+7):=by
 have:=((h.mR false).mR true).tkz a O O (by rw[mR_now,mR_now];have:=h.al.run.2;omega);rw[show n+3+3+1=n+7 by omega]at this;exact this
theorem Ca {f:Nat->Bool}:∀{k:Nat},f k=true->∃j,j<=k/\f j=true/\∀i,i<j->f i=false:=by
 intro k
 induction k using Nat.strongRecOn with
 | ind k ih =>
  intro h
  rcases Classical.em (∃i,i<k/\f i=true)with⟨i,hi,g⟩ | g
  ·obtain⟨j,h1,h2,a⟩:=ih i hi g;exact⟨j,O,h2,a⟩
  exact⟨k,L4 _,h,fun i hi=>by
   cases e:f i with
   | false=>rfl
   | true=>exact absurd ⟨i,hi,e⟩ g⟩
theorem Ga.seq {P:Pr.zc}{N:Bool->Int}(a:P.Ok){p:Pr}{n:Int}(h:Ga P N p n)(h0:0<=n):∀k:Nat,n+7*k<=14000->Ga P N (p.seq k) (n+7*k):=by
 intro k
 induction k with
 | zero=>intro _;rw[show n+7*((0:Nat):Int)=n by omega];exact h
 | succ k b =>
  intro c;have:=(b O).Ds a O O;rw[show n+7*((k+1:Nat):Int)=n+7*k+7 by omega];exact this
end Go.Proofs.YtcmncipikdpnbaaGreatDoor
