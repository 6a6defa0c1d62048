import Derived.Test.YtcmncipikdpnbaaGreatDoorTcSmxU
namespace Go.Proofs.YtcmncipikdpnbaaGreatDoor
theorem Hw.late {x:Rw}{N:Bool->Int}{T U:Int}{r:Pr}{n:Int}{σ α:Fl}(hU:U=T+1)(hT:0<=T/\T<=8)(h:Hw (qF x) [σ,α] T r)(sd:σ.dst=true/\σ.held=false/\σ.due<=U)(sf:σ.s=kZ x false)(t:α.dst=true/\α.held=false/\α.due<=U)(ha:Of x false α.s)(g:Ga (cG x) N r n):Hx x N false (qF x false) U r.tick:=by
 have b1:=h.now;have V:=h.wire;have hP:=eK x
 have hw:∀f∈r.wire,f.held=false/\f.due<=r.now+1:=fun f m=>by
  rw[V]at m
  rcases Mi.1 m with rfl | m
  ·exact⟨sd.2.1,by have:=sd.2.2;omega⟩
  rw[Lu.1 m];exact⟨t.2.1,by have:=t.2.2;omega⟩
 obtain⟨d1,d2⟩:=eV (p:={ r with now:=r.now+1 }) hw;obtain⟨q,F⟩:∃q:Pr,q={ r with now:=r.now+1,wire:=[] }:=⟨_,Z⟩
 have ed:({ r with now:=r.now+1 }:Pr).deliver=(q.ke σ).ke α:=by
  unfold Pr.deliver;rw[d1,d2,F];show r.wire.foldl Pr.ke _=_;rw[V];rfl
 have G:q.sd=r.sd:=by rw[F];rfl
 have qn:q.now=U:=by rw[F];show r.now+1=U;omega
 have u:Hw (qF x) [] U q:=by
  rw[F];exact⟨h.b,Z,by show r.now+1=U;omega,h.calm,h.got,h.fin,h.sh,h.cs⟩
 -- the OH again
 obtain⟨s,es,hb⟩:=AD x true U (u.b true);have am:(q.sd σ.dst).c.receive q.now σ.s=((q.sd true).c,[s]):=by rw[sd.1,sf,qn];exact es
 have h1:=u.recv am (w0:=qF x true) (u.b true) (by rw[sd.1]) (by have:=(u.b true).wx (Oh x true);rw[this.st];decide)
 have b7:(fun j=>if j=σ.dst then qF x true else qF x j)=qF x:=by
  funext j
  rw[sd.1]
  cases j <;> rfl
 rw[b7,LD,sd.1]at h1;obtain⟨β,hβ⟩:∃β,β=q.fl true s:=⟨_,Z⟩;have h1:Hw (qF x) [β] U (q.ke σ):=by rw[hβ];exact h1
 have bd:β.dst=false/\β.held=false/\β.due=U+1/\β.s=s:=by rw[hβ];exact⟨Z,Z,by show q.now+1=_;rw[qn],Z⟩
 have sw:σ∈r.wire:=by rw[V];simp
 have aw:α∈r.wire:=by rw[V];simp
 have pv:=g.al.pv;have ft:=Fit.off g.al.run.1 (by rw[h.now];omega);rw[<-F]at ft;have pq:Pr.PV (cG x) q:=by rw[F];exact⟨pv.s,pv.r,fun f m=>(by cases m),pv.g⟩
 have an:∀i,Pr.kx (cG x) q i=Pr.kx (cG x) r i:=fun i=>by rw[F];cases i <;> rfl
 have a5:=pv.w σ sw;have a6:=pv.w α aw;rw[<-an,<-an]at a5 a6;have av:=g.al.run.1.wire σ sw;have b2:=g.al.run.1.wire α aw;have ax:=Pr.PV.ke pq ft hP av Z Z Z a5.1 (Gw.refl _) a5.2;have a7:=Pr.Ce ft av;have f2:=g.f2
 have bI:Fb (q.ke σ) N:=by
  refine⟨fun j e=> ?_,fun j=> ?_,f2.sm⟩
  ·rw[(Pr.tC q σ j).2,G]at e;rw[(Pr.tC q σ j).1,G];exact f2.cl j e
  rw[(Pr.tC q σ j).1,G];exact f2.le j
 have C:∀j,((q.ke σ).sd j).all=(r.sd j).all:=fun j=>by
  have k:=lG q σ;have L:=(Oa q σ).2
  rcases zl (w:=σ.dst) (i:=j)with rfl | rfl
  ·rw[k.2.1,G]
  rw[L,G]
 obtain⟨d,z⟩:∃d,d=q.ke σ:=⟨_,Z⟩;rw[<-z]at h1 ax a7 bI ed C;have b0:∀j,Gw (Pr.kx (cG x) q j) (Pr.kx (cG x) d j):=fun j=>by rw[z];exact Pr.AE q σ j
 have ok:∀f∈[α,β],f.s.Ok:=fun f m=>by
  rcases Mi.1 m with rfl | m
  ·exact b2
  rw[Lu.1 m];exact a7.wire β (by rw[h1.wire];simp)
 have kA:=(h1.b false).wx (Oh x false);have kB:=(h1.b true).wx (Oh x true)
 have cl:=h1.both (N:=N) (U+1) U (Q:=[α]) (α:=α) (β:=β) Z t.1 bd.1 ha (by rw[bd.2.2.2];exact hb) ax a7 bI ok (fun f m=>by
  rw[Lu.1 m];exact⟨a6.1.gw (b0 _),a6.2.gw (b0 _)⟩)
 obtain⟨s1,s2,s3,s4,s5,s6,s7⟩:=BR (U+1) U d;have hr:=zi x false;have c1:=zi x true
 -- the second side opens
 have ev:(Vb (U+1) U d).ke α=pz false (U+1) (d.ke α):=by
  show(pz true U (pz false (U+1) d)).ke α=_
  rw[O9 (w:=true) t.1 (by
   show(d.sd true).c.receive d.now α.s=(gA U (d.sd true).c).receive d.now α.s;rw[h1.now];exact Ow kB ha U),O7 (w:=false) t.1]
 have M:=cl.ke hP;rw[ev]at M
 rcases M with k | ⟨W,o,X,e3,A⟩
 ·exfalso
  have e:=k.re false;have e:(gA (U+1) ((d.ke α).sd false).c).reached=true:=e
  have e5:(d.ke α).sd false=d.sd false:=by
   have:=(Oa d α).2;rw[t.1]at this;exact this
  rw[e5]at e;have e:((d.sd false).c.ended&&_)=true:=e;rw[kA.en]at e
  cases e
 obtain⟨a,B⟩:∃a,a=d.ke α:=⟨_,Z⟩;rw[<-B]at W o X e3 A ed;rw[t.1]at o X e3;have X:(pz false (U+1) a).sd false=(Vb (U+1) U d).sd false:=X;rw[s2,s5,h1.now]at o;rw[s5,h1.now]at A;have A:a.now=U:=A
 have b3:iL (gA U (d.sd true).c).cf.kc α.s=1:=by
  show aE α.s.ak (d.sd true).c.cf.kc=1;rw[kB.cf,(DG x true).1,ha.ak];exact pp _ D D
 rw[b3]at o;have b4:=(kB.sx U (now:=U) O).1;have d0:(pz false (U+1) a).sd true=a.sd true:=Z;rw[d0]at o;have a9:=b4.step o.rv o.xv (by rw[o.AC,ha.win];show max (d.sd true).c.largest _<=_;rw[kB.AC];show max ((cG x).r false) ((cG x).r false)<=(cG x).r false;omega);have b8:=a9.tries O;have b9:=(W.last true)
 have c4:1<=(a.sd true).c.last:=by
  have k:=(W.pv.s true).1.last;have k:(a.sd true).c.last=1+_:=k;omega
 rcases W.ki true b8 (fun e1 _=>by
   have c5:((pz false (U+1) a).sd true).c.flight=(a.sd true).c.next-(a.sd true).c.fM:=Z;have h1:=o.fM;have h2:=o.lim;rw[ha.win]at h2;show(a.sd true).c.next+20<=(a.sd true).c.limit;omega)with⟨k,-⟩ | ⟨c3,op,e6,e7,J⟩
 ·exfalso
  have k:(a.sd true).c.st=9:=k;have:=a9.ci.fa (.inr k);have:=o.fM;omega
 have b5:(pz false (U+1) a).ki true=pz false (U+1) (a.ki true):=O6 false (U+1) a;have g2:G1 _ (pz false (U+1) a) ((pz false (U+1) a).ki true) true _:=⟨op.sv,op.rv,op.xv,e6,e7,J⟩;have aF:Sx ((pz false (U+1) a).sd true).c ((cG x).r false) (pz false (U+1) a).now:=by rw[d0,show(pz false (U+1) a).now=U from A];exact a9
 have a2:=aF.step op.rv op.xv (by rw[op.AC];exact aF.lR);have a4:=op.xv.ex.nd (fun hd=>aF.ni.nd hd);have P:=oY (pz false (U+1) a) true;rw[b5]at c3 e6 e7 J g2 a2 a4 P;obtain⟨l,I⟩:∃l,l=a.ki true:=⟨_,Z⟩;rw[<-I]at c3 e6 e7 J g2 a2 a4 P;have n3:l.now=U:=J.trans A
 have E:l.sd false=d.sd false:=by
  have K:l.sd false=a.sd false:=by rw[I];exact(kU a true).2
  have L:a.sd false=d.sd false:=by
   rw[B];have:=(Oa d α).2;rw[t.1]at this;exact this
  exact K.trans L
 have wA:Wt (qF x false) (l.sd false).c:=by rw[E];exact h1.b false
 have et:r.tick=l:=by
  unfold Pr.tick;rw[ed,zk (i:=false) ((show Wt (qF x false) (a.sd false).c from by rw[B,show(d.ke α).sd false=d.sd false from by have:=(Oa d α).2;rw[t.1]at this;exact this];exact h1.b false).tick O),<-I]
 rw[et];have aa:=wA.wx (Oh x false);have w2:a.wire=[β]++_:=e3.trans (by rw[s4,h1.wire]);have w3:l.wire=a.wire++_:=e7
 have c0:∀f∈l.wire,f.held=false/\f.due<=l.now+1:=fun f m=>by
  rw[n3];rw[w3]at m
  rcases LE.1 m with m | m
  ·rw[w2]at m
   rcases LE.1 m with m | m
   ·rw[Lu.1 m];exact⟨bd.2.1,by have:=bd.2.2.1;omega⟩
   obtain⟨y,-,rfl⟩:=Md.1 m;exact⟨Z,by show(Vb (U+1) U d).now+1<=U+1;rw[s5,h1.now];exact L9 _⟩
  obtain⟨y,-,rfl⟩:=Md.1 m;exact⟨Z,by show(pz false (U+1) a).now+1<=U+1;rw[show(pz false (U+1) a).now=U from A];exact L9 _⟩
 have ab:Mn (gA U (d.sd true).c) (a.sd true).c:=Mn.of o.sv o.rv o.xv;have ac:Mn (a.sd true).c (l.sd true).c:=g2.mn true
 have ag:(l.sd true).got=(r.sd true).got/\(l.sd true).all=(r.sd true).all/\(l.sd true).closed=(r.sd true).closed:=by
  have K:=lG d α;rw[t.1,<-B]at K;have k0:=lG q σ;rw[sd.1,<-z,G]at k0;exact⟨(P.1.trans K.1).trans k0.1,(P.2.1.trans K.2.1).trans k0.2.1,(P.2.2.trans K.2.2).trans k0.2.2⟩
 obtain⟨v1,S,v3⟩:=O0 false (U+1) l;have v1:(pz false (U+1) l).sd true=l.sd true:=v1;have b6:=(aa.sx (U+1) (now:=U) O).1
 have AF:(l.sd true).c.cf=Cb x true:=by
  rw[ac.cf,ab.cf];exact kB.cf
 refine⟨⟨⟨_,_,c3⟩,fun i=> ?_,fun i=> ?_,c0,fun i=> ?_,fun i=>⟨(zi x i).1,?_⟩,fun i=> ?_,fun i e=> ?_⟩,wA,n3,by rw[E];exact h1.got false,by rw[E];exact h1.fin false,by rw[E];exact h1.cs false,?_⟩
 ·show Sx ((pz false (U+1) l).sd i).c ((cG x).r (!i)) l.now;rw[n3]
  cases i
  ·rw[S];exact b6
  rw[show(pz false (U+1) a).now=U from A]at a2;exact a2
 ·show ND ((pz false (U+1) l).sd i).c l.now;rw[n3]
  cases i
  ·rw[S];exact fun e=>by cases e
  rw[show(pz false (U+1) a).now=U from A]at a4;exact a4
 ·cases i
  ·refine .inr fun _=> ?_;rw[(v3 false).2.2.1,E,h1.got,S];show((0:Nat):Int)+(cG x).r false<(l.sd false).c.ann+max 1 ((cG x).r false/2);rw[aa.ann];omega
  refine .inr fun _=> ?_;have hg:((pz false (U+1) l).sd true).got=[]:=by rw[v1];exact ag.1.trans (h.got true)
  rw[hg];have m1:=ab.ann;have m2:=ac.ann;have m3:(gA U (d.sd true).c).ann=(cG x).r true:=kB.ann;show((0:Nat):Int)+(cG x).r true<(l.sd true).c.ann+max 1 ((cG x).r true/2);omega
 ·cases i
  ·rw[S];show 40<=(l.sd false).c.cf.keep;rw[aa.cf];exact(DG x false).2.2
  rw[v1,AF];exact(DG x true).2.2
 ·rw[(v3 i).2.2.2.1]
  cases i
  ·rw[E,C];exact g.all false
  rw[ag.2.1];exact g.all true
 ·rw[(v3 i).2.1]at e
  cases i
  ·rw[E]at e;rw[S,E];exact h1.cs false e
  rw[v1];rw[ag.2.2]at e;have k:=h.cs true e
  have L:(gA U (d.sd true).c).shut=true:=by
   have e9:(d.sd true).c.shut=(r.sd true).c.shut:=by
    have J:(d.sd true).c=((q.sd σ.dst).c.receive q.now σ.s).1:=by rw[z,<-sd.1];exact(mA q σ).1
    rw[J,am,G]
   show(d.sd true).c.shut=true;rw[e9];exact k
  exact ac.sh (ab.sh L)
 rw[w3,w2];refine⟨β,_,Z,bd.1,?_⟩;rw[bd.2.2.2];exact hb.sq
end Go.Proofs.YtcmncipikdpnbaaGreatDoor
