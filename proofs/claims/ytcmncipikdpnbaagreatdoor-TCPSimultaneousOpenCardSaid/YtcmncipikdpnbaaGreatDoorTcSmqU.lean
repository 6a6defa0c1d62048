import Derived.Test.YtcmncipikdpnbaaGreatDoorUb35
namespace Go.Proofs.YtcmncipikdpnbaaGreatDoor
theorem Cl.OE {K:Prop}{P:Pr.zc}{p p':Pr}{Q:List Fl}{q N:Bool->Int}{a b I b':Int}(h:Cl P p Q q N a b)(i:Bool){d:Cn}{l:List Sg}(op:Op K (p.sd i).c d l p.now)(u:(p'.sd i).c=d)(A:p'.sd (!i)=p.sd (!i))(B:p'.wire=p.wire++l.map (p.fl i))(U:p'.kq.length<=p'.many)
  (m:Pr.PV P p')(r:Pr.Fit p' I b')(n:Fb p' N)(C:d.ended=true->(p.sd i).c.ended=true)(V:kT (p.sd i).c.cf l)(W:3<=d.st)(X:∀f∈Q,GS (Pr.kx P p' (!f.dst)) f.s/\fj (Pr.kx P p' f.dst) f.s):Cl P p' Q q N I b':=by
 obtain⟨y,-⟩:=h.ns i;obtain⟨J,-⟩:=h.ns (!i);rw[LF]at J;have hi:=h.dp (!i);have ho:=h.dp i;rw[LF]at hi
 have o:∀j,Hs (p'.sd j).c/\3<=(p'.sd j).c.st:=fun j=>by
  rcases(show j=i\/j= !i by cases i <;> cases j <;> simp)with rfl | rfl
  ·rw[u];exact⟨op.hs,W⟩
  rw[A];exact⟨h.hs _,h.st _⟩
 obtain⟨E,L⟩:=Ns.of m r n i (o i).1 (o i).2;rw[u]at E L
 have F:∀x∈l,x.has=true/\x.syn=false/\x.qa=false:=fun x e=>by
  rcases op.rv.k with⟨z,-⟩ | ⟨-,-,-,z⟩
  ·rw[z]at e;cases e
  exact⟨(z x e).has,(z x e).syn,(z x e).qa⟩
 have M:∀x∈l,GS (Pr.kx P p' i) x/\x.Ok:=fun x e=>by
  have S:p.fl i x∈p'.wire:=by rw[B];exact Mm _ (Md.2 ⟨x,e,Z⟩)
  have h1:=(m.w _ S).1;rw[show(!(p.fl i x).dst)=i from LF _]at h1;exact⟨h1,r.wire _ S⟩
 have own:CQ (p.sd i).c.cf.kc (N i) l:=fun x e=>by
  have g:=tS (M x e).1 (F x e).2.2 (F x e).2.1 (m.s i).1.sm (n.cl _) (n.le _);have ei:(p.sd i).c.cf.kc=(Pr.kx P p' i).kc:=(h.pv.s i).1.kc;rw[ei];exact g
 obtain⟨a7,a9⟩:=Op.di hi ho op y.hv (by have:=y.fM;omega) J.nx y.nn.1 y.nn.2 E.hv L E.nx C own
 have G:∀j,(p'.sd j).c.cf=(p.sd j).c.cf:=fun j=>by
  rcases(show j=i\/j= !i by cases i <;> cases j <;> simp)with rfl | rfl
  ·rw[u];exact op.sv.cf
  rw[A]
 refine⟨m,r,DP.of (p:=p) i u (congrArg Sd.c A) B a7 a9,n,U,fun j=>(o j).2,fun j=>(o j).1,fun g t=> ?_,fun j=>by rw[G,G];exact h.prt j,X⟩;unfold rW;rw[G];rw[B,<-LK]at t
 rcases LE.1 t with t | t
 ·exact h.pl g t
 obtain⟨x,e,rfl⟩:=Md.1 t;obtain⟨c1,c2,c3⟩:=F x e;obtain⟨p1,p2⟩:=V x e;have q1:=h.prt i;have T:=h.prt (!i);rw[LF]at T;exact⟨(M x e).2,⟨c3,c2,c1⟩,p1.trans q1,p2.trans T.symm⟩
structure Og (P:Pr.zc)(i:Bool)(s:Sg):Prop where
 f:s.qa=false/\s.syn=true/\s.has=false/\s.fin=false/\s.s=[]
 sq:s.sq=aw (P.kc (!i)) 0
theorem OF {c:Cn}(ok:c.Ok)(k:3<=c.st){s:Sg}(a:s.fp=c.cf.tp/\s.tp=c.cf.fp)(f:s.qa=false/\s.syn=true/\s.has=false/\s.fin=false/\s.s=[])(e:c.offset s.sq= -1)(now:Int):c.receive now s=c.gB.push now:=by
 obtain⟨h,f2,f3,b,i⟩:=f;have he:=nO ok;have d:aj s=1:=by unfold aj;rw[i,f2,b];rfl
 have j:c.accepts (-1) 1=false:=by
  unfold Cn.accepts;rw[L5 O];split
  ·rfl
  rw[L5 O];exact Lf O
 unfold Cn.receive;rw[L5 O,L5 (by rw[a.1,a.2];simp),L5 O];unfold Cn.ys;dsimp only;rw[e,d,j,h,L5 FE,L5 FE,L7 Z];unfold Cn.stray;dsimp only;rw[f3,b,d,L7 (show(0:Int)<1 by decide),L5 (show ¬(bU c.st=true/\false=true/\s.syn=false/\c.fM<=aE s.ak c.cf.kc/\aE s.ak c.cf.kc<=c.next)from fun g=>by cases g.2.1),L5 (fun g=>by cases g.2)]
theorem OG {c:Cn}{N:Int}(h:Hv c N)(a:1<=c.fM){now:Int}(b:aI now)(d:3<=c.st):Op True c (c.gB.push now).1 (c.gB.push now).2 now:=by
 have so:=h.so a;have hs:=h.hs;refine Op.of (Pre.gB (e:=c) ⟨L9 _,Z,L9 _,L9 _,Z,fun _ g=>g,L9 _,Z,Z,.inr (.inl ⟨Z,Z,Z⟩),.same now Z Z Z Z Z Z Z Z Z⟩) b h.ok.gB (fun _=>⟨so.u1,so.bu,so.nl⟩) ⟨hs.ov,hs.vo,hs.st,hs.ts⟩ (by show c.st≠0;omega) (.inl Z) Z Z (fun _=>NJ) Z Z
theorem Tn.Oj {P:Pr.zc}{p:Pr}{q N:Bool->Int}(h:Tn P p q N)(K:P.Ok)(rd:∀i,Rd P p i)(hn:p.now+1<1692){f:Fl}(ho:Og P f.dst f.s)(hp:f.s.fp=(p.sd f.dst).c.cf.tp/\f.s.tp=(p.sd f.dst).c.cf.fp)(A:f.s.Ok)(hg:GS (Pr.kx P p (!f.dst)) f.s/\fj (Pr.kx P p f.dst) f.s){p':Pr}(B:p'={ p with wire:=f::p.wire })(hd:f.held=false/\f.due<=p.now+1) :
  E2 P N p'.tick\/(Tn P p'.tick q N/\(∀i,tQ (p'.tick.sd i).c)):=by
 obtain⟨a0,b0,C⟩:=h.cl;have n:∀i,40<=P.r i:=fun i=>(h.par i).1;obtain⟨c1,f1⟩:=C.I0 (by omega)
 have hw:∀k∈f::p.wire,k.held=false/\k.due<=p.now+1:=fun k L=>by
  rcases Mi.1 L with rfl | L
  ·exact hd
  exact h.w k L
 obtain⟨d1,d2⟩:=eV (p:={ p' with now:=p'.now+1 }) (by rw[B];exact hw);obtain⟨a,d⟩:∃a:Pr,a={ p with now:=p.now+1,wire:=[] }:=⟨_,Z⟩
 have e:({ p' with now:=p'.now+1 }:Pr).deliver=p.wire.foldl Pr.ke (a.ke f):=by
  unfold Pr.deliver;rw[d1,d2,B,d];rfl
 have base:Fo P N p a p.wire:=by
  rw[d];exact⟨Z,fun i=>.refl _,fun i=>(h.sx i).I0,fun f o=>.inl o,fun f o=>o,fun i=>(C.dp i).fM,fun f o=>(by cases o),fun i M T x=>by(rw[LM];exact x),fun i T _ _ x=>by(rw[LM];exact x),fun i=>⟨Z,Z,Z⟩,h.rw⟩
 have b:=c1.off f1;have b:Cl P a p.wire q N a0 b0:=by rw[d];exact b
 -- the old OH
 have m:=(b.ns f.dst).1;have a2:=m.hv.ok
 have E:(a.sd f.dst).c.offset f.s.sq= -1:=by
  have t:=(b.pv.r f.dst).2.1;have y:=(b.dp (!f.dst)).tq;have z:=(b.pv.s (!f.dst)).1.kc;rw[LF]at y;have hb:=K (!f.dst);have z:(a.sd (!f.dst)).c.cf.kc=P.kc (!f.dst):=z;unfold Cn.offset;rw[y,z,ho.sq];unfold aE aw;omega
 have aa:f.s.fp=(a.sd f.dst).c.cf.tp/\f.s.tp=(a.sd f.dst).c.cf.fp:=by rw[d];exact hp
 have J:=OF a2 m.st aa ho.f E a.now;have op:=OG m.hv m.fM m.now m.st;rw[<-J]at op;obtain⟨⟨k1,F,S⟩,l,k5⟩:=kR f.dst ((a.sd f.dst).c.receive a.now f.s).1 ((a.sd f.dst).c.receive a.now f.s).2 b.calm;have a5:GS (Pr.kx P a (!f.dst)) f.s/\fj (Pr.kx P a f.dst) f.s:=by rw[d];exact hg
 have ab:=Pr.PV.ke b.pv b.ft K A Z Z Z a5.1 (Gw.refl _) a5.2;have ac:=Pr.Ce b.ft A;have ad:Fb (a.ke f) N:=⟨fun j=>by rw[(Pr.tC a f j).1,(Pr.tC a f j).2];exact b.f2.cl j,fun j=>by rw[(Pr.tC a f j).1];exact b.f2.le j,b.f2.sm⟩;have t:((a.ke f).sd f.dst).c=((a.sd f.dst).c.receive a.now f.s).1:=k1;have y:(a.ke f).sd (!f.dst)=a.sd (!f.dst):=F;have z:(a.ke f).wire=a.wire++((a.sd f.dst).c.receive a.now f.s).2.map (a.fl f.dst):=S;have e4:(a.ke f).now=a.now:=l;have e5:(a.ke f).kq.length<=(a.ke f).many:=k5;have U:3<=((a.sd f.dst).c.receive a.now f.s).1.st:=by rw[J,dA];exact m.st
 have V:((a.sd f.dst).c.receive a.now f.s).1.ended=true->(a.sd f.dst).c.ended=true:=fun g=>by
  rw[J]at g;have k:=(bA (a.sd f.dst).c.gB a.now).ended;rw[g]at k;exact k.symm
 have aC:kT (a.sd f.dst).c.cf ((a.sd f.dst).c.receive a.now f.s).2:=by rw[J];exact dr (a.sd f.dst).c.gB a.now
 have cs:Cl P (a.ke f) p.wire q N (a0+1) (b0+1):=b.OE f.dst op t y z e5 ab ac ad V aC U (fun x u=>by
  obtain⟨g1,g2⟩:=b.qg x u;exact⟨g1.gw (Pr.AE a f _),g2.gw (Pr.AE a f _)⟩)
 have g:G1 True a (a.ke f) f.dst ((a.sd f.dst).c.receive a.now f.s).2:=⟨by rw[t];exact op.sv,by rw[t];exact op.rv,by rw[t];exact op.xv,y,z,e4⟩;have ag:=(cs.ns f.dst).1;have dn:=cs.dp (!f.dst);rw[LF,y]at dn;have al:=ag.hv.bd;have hN:=m.nn.1
 have k0:Fo P N p (a.ke f) p.wire:=by
  refine base.g1 b cs g (by rw[t,op.AC];exact(base.sx f.dst).lR) (lG a f) (fun x u=>.inl u) (fun x u=>u) (by rw[t,op.fM];exact base.ub f.dst) (fun i M T x=> ?_) (fun i T u ha x=> ?_)
  ·have h1:=base.ak i M T x;have h2:=(g.ak ⟨al.1,by omega⟩ dn.tq h1).1;rw[LK,<-g.wire]at h2;exact h2
  have h1:=base.fk i T u ha x;have hv:=(b.ns (!i)).1.hv;have G:=(cs.ns (!i)).1.hv;rw[LF]at hv G;have h2:=g.fk hv G (cs.dp i).fM (cs.ns i).1.nx (fun _ _ _ _=>.inl trivial) h1;rw[LK,<-g.wire]at h2;exact h2
 unfold Pr.tick;rw[e]
 rcases Cl.fold K (Fo P N p) (fun _ _ _ _ _ x1 x2 x3 x4 x5 x6 x7=>Fo.step ⟨_,_,C⟩ x1 x2 x3 x4 x5 x6 x7) p.wire cs k0 with k | ⟨c2,F⟩
 ·exact .inl ((k.ki false).ki true)
 generalize p.wire.foldl Pr.ke (a.ke f)=p2 at c2 F|-;have a6:p2.now<1692:=by rw[F.now];exact hn
 rcases F.ki C rd n c2 a6 false with k | ⟨⟨a3,b3,c3⟩,S,W,X,⟨K3,l3,g3⟩,a4⟩
 ·exact .inl (k.ki true)
 have am:(p2.ki false).now<1692:=by rw[g3.now];exact a6
 rcases S.ki C rd n c3 am true with k | ⟨c4,l,I,a1,⟨K4,l4,g4⟩,a7⟩
 ·exact .inl k
 refine .inr ⟨⟨c4,l.sx,fun i=> ?_,fun f o=> ?_,l.rw,fun i=>⟨n i,?_⟩,fun i=> ?_,fun i g=> ?_⟩,fun i=> ?_⟩
 ·rw[g4.now,g3.now];rw[g3.now]at I
  cases i
  ·rw[show((p2.ki false).ki true).sd false=(p2.ki false).sd false from g4.Ej];exact W
  exact I
 ·obtain⟨w1,w2⟩:=l.w f o;exact⟨w1,Mr w2⟩
 ·rw[(l.mn i).cf];exact(h.par i).2
 ·rw[(l.sd i).2.1];exact h.all i
 ·rw[(l.sd i).2.2]at g;exact(l.mn i).sh (h.cs i g)
 cases i
 ·rw[show((p2.ki false).ki true).sd false=(p2.ki false).sd false from g4.Ej];exact X
 exact a1
end Go.Proofs.YtcmncipikdpnbaaGreatDoor
